-- Written by this session's own program (wip/tools/myprint.py), which runs the kit's print with turns of its own: not a text of the kit's print.sh.
import Derived.Test.YtjcjbbcamkkeiaaPx0
import Derived.Test.YtjcjbbcamkkeiaaPx14
import Derived.Test.YtjcjbbcamkkeiaaPx20
import Derived.Test.YtjcjbbcamkkeiaaPx26
import Derived.Test.YtjcjbbcamkkeiaaPx41
namespace Go.Proofs.Ytjcjbbcamkkeiaa.P
open Go.RowKit Go.Proofs.YtjcjbbcamkkeiaaW.PrintWords Go.Proofs.YtjcjbbcamkkeiaaW.PrintLast Go.Proofs.YtjcjbbcamkkeiaaW.PrintMore
attribute [local go_sem] max2_int min2_int max_two min_two max_three min_three max_four min_four   -- for this text's walks alone
set_option linter.unusedVariables false
set_option linter.unusedSimpArgs false

/-! ### cutroomlaw28_LoudnessGains: function 10 -/
mutual
def cutroomlaw28_LoudnessGains.l0 : Nat → Int → Int → List (List (List Int)) → Int → Int → Option (Bool)
 | 0, _, _, _, _, _ => none
 | k + 1, x2, x3, x24, x25, x26 => if x26 < x25 then (if 0 ≤ x26 then (if x26 < (x24.length : Int) then ((some (([x2, Go.bits .and .i64 x2 4294967295, Go.bits .and .i64 x2 65535] : List Int) : List Int)).bind fun y461 => (cutroomlaw28_LoudnessGains.l1 k x2 x3 (rd_L3 x24 x26) x24 x25 x26 y461 (y461.length : Int) 0)) else (none)) else (none)) else ((cutroomlaw28_awake.f k).bind fun t459 => (some t459))
def cutroomlaw28_LoudnessGains.l1 : Nat → Int → Int → List (List Int) → List (List (List Int)) → Int → Int → List Int → Int → Int → Option (Bool)
 | 0, _, _, _, _, _, _, _, _, _ => none
 | k + 1, x2, x3, x10, x24, x25, x26, x35, x36, x37 => if x37 < x36 then (if 0 ≤ x37 then (if x37 < (x35.length : Int) then ((some (([x3, Go.bits .and .i64 x3 32767] : List Int) : List Int)).bind fun y465 => (cutroomlaw28_LoudnessGains.l2 k x2 x3 x10 (rd x35 x37) x24 x25 x26 x35 x36 x37 y465 (y465.length : Int) 0)) else (none)) else (none)) else (cutroomlaw28_LoudnessGains.l0 k x2 x3 x24 x25 (wrap64 (x26 + 1)))
def cutroomlaw28_LoudnessGains.l2 : Nat → Int → Int → List (List Int) → Int → List (List (List Int)) → Int → Int → List Int → Int → Int → List Int → Int → Int → Option (Bool)
 | 0, _, _, _, _, _, _, _, _, _, _, _, _, _ => none
 | k + 1, x2, x3, x10, x12, x24, x25, x26, x35, x36, x37, x44, x45, x46 => if x46 < x45 then (if 0 ≤ x46 then (if x46 < (x44.length : Int) then ((loudness_Gain.f k x10 x12 (rd x44 x46)).bind fun bt469 => ((cutroomref28_Gain.f k x10 x12 (rd x44 x46)).bind fun bt471 => (if bt469.2 = bt471.2 then (if bt469.1 = bt471.1 then (cutroomlaw28_LoudnessGains.l2 k x2 x3 x10 x12 x24 x25 x26 x35 x36 x37 x44 x45 (wrap64 (x46 + 1))) else (some false)) else (some false)))) else (none)) else (none)) else (cutroomlaw28_LoudnessGains.l1 k x2 x3 x10 x24 x25 x26 x35 x36 (wrap64 (x37 + 1)))
end
def cutroomlaw28_LoudnessGains.f (k : Nat) (l0 : List (List Int)) (l1 : List Int) (a2 : Int) (a3 : Int) : Option (Bool) := (cutroomlaw28_made.f k l1 32767).bind fun t450 => ((cutroomlaw28_made.f k l1 300).bind fun t453 => ((some (([l0, t450, t453] : List (List (List Int))) : List (List (List Int)))).bind fun y456 => (cutroomlaw28_LoudnessGains.l0 k a2 a3 y456 (y456.length : Int) 0)))
theorem cutroomlaw28_LoudnessGains.mono_l : ∀ k, (∀ y0 y1 y2 y3 y4, LeO (cutroomlaw28_LoudnessGains.l0 k y0 y1 y2 y3 y4) (cutroomlaw28_LoudnessGains.l0 (k + 1) y0 y1 y2 y3 y4)) ∧ (∀ y0 y1 y2 y3 y4 y5 y6 y7 y8, LeO (cutroomlaw28_LoudnessGains.l1 k y0 y1 y2 y3 y4 y5 y6 y7 y8) (cutroomlaw28_LoudnessGains.l1 (k + 1) y0 y1 y2 y3 y4 y5 y6 y7 y8)) ∧ (∀ y0 y1 y2 y3 y4 y5 y6 y7 y8 y9 y10 y11 y12, LeO (cutroomlaw28_LoudnessGains.l2 k y0 y1 y2 y3 y4 y5 y6 y7 y8 y9 y10 y11 y12) (cutroomlaw28_LoudnessGains.l2 (k + 1) y0 y1 y2 y3 y4 y5 y6 y7 y8 y9 y10 y11 y12))
 | 0 => ⟨fun _ _ _ _ _ r h => by simp [cutroomlaw28_LoudnessGains.l0] at h, fun _ _ _ _ _ _ _ _ _ r h => by simp [cutroomlaw28_LoudnessGains.l1] at h, fun _ _ _ _ _ _ _ _ _ _ _ _ _ r h => by simp [cutroomlaw28_LoudnessGains.l2] at h⟩
 | k + 1 => by
  obtain ⟨ih0, ih1, ih2⟩ := cutroomlaw28_LoudnessGains.mono_l k
  refine ⟨?_, ?_, ?_⟩
  ·intro y0 y1 y2 y3 y4
   unfold cutroomlaw28_LoudnessGains.l0
   repeat' first
   | (with_reducible exact ih0 _ _ _ _ _)
   | (with_reducible exact ih1 _ _ _ _ _ _ _ _ _)
   | (with_reducible exact ih2 _ _ _ _ _ _ _ _ _ _ _ _ _)
   | (with_reducible exact cutroomlaw28_awake.mono _)
   | (with_reducible exact cutroomlaw28_made.mono _ _ _)
   | (with_reducible exact cutroomref28_Gain.mono _ _ _ _)
   | (with_reducible exact loudness_Gain.mono _ _ _ _)
   | (with_reducible exact LeO.refl _)
   | (with_reducible exact LeO.none _)
   | (with_reducible refine LeO.ite ?_ ?_)
   | (with_reducible refine LeO.bind ?_ (fun _ => ?_))
   | exact ih0 _ _ _ _ _
   | exact ih1 _ _ _ _ _ _ _ _ _
   | exact ih2 _ _ _ _ _ _ _ _ _ _ _ _ _
   | exact cutroomlaw28_awake.mono _
   | exact cutroomlaw28_made.mono _ _ _
   | exact cutroomref28_Gain.mono _ _ _ _
   | exact loudness_Gain.mono _ _ _ _
   | exact LeO.none _
   | refine LeO.ite ?_ ?_
   | refine LeO.bind ?_ (fun _ => ?_)
  ·intro y0 y1 y2 y3 y4 y5 y6 y7 y8
   unfold cutroomlaw28_LoudnessGains.l1
   repeat' first
   | (with_reducible exact ih0 _ _ _ _ _)
   | (with_reducible exact ih1 _ _ _ _ _ _ _ _ _)
   | (with_reducible exact ih2 _ _ _ _ _ _ _ _ _ _ _ _ _)
   | (with_reducible exact cutroomlaw28_awake.mono _)
   | (with_reducible exact cutroomlaw28_made.mono _ _ _)
   | (with_reducible exact cutroomref28_Gain.mono _ _ _ _)
   | (with_reducible exact loudness_Gain.mono _ _ _ _)
   | (with_reducible exact LeO.refl _)
   | (with_reducible exact LeO.none _)
   | (with_reducible refine LeO.ite ?_ ?_)
   | (with_reducible refine LeO.bind ?_ (fun _ => ?_))
   | exact ih0 _ _ _ _ _
   | exact ih1 _ _ _ _ _ _ _ _ _
   | exact ih2 _ _ _ _ _ _ _ _ _ _ _ _ _
   | exact cutroomlaw28_awake.mono _
   | exact cutroomlaw28_made.mono _ _ _
   | exact cutroomref28_Gain.mono _ _ _ _
   | exact loudness_Gain.mono _ _ _ _
   | exact LeO.none _
   | refine LeO.ite ?_ ?_
   | refine LeO.bind ?_ (fun _ => ?_)
  ·intro y0 y1 y2 y3 y4 y5 y6 y7 y8 y9 y10 y11 y12
   unfold cutroomlaw28_LoudnessGains.l2
   repeat' first
   | (with_reducible exact ih0 _ _ _ _ _)
   | (with_reducible exact ih1 _ _ _ _ _ _ _ _ _)
   | (with_reducible exact ih2 _ _ _ _ _ _ _ _ _ _ _ _ _)
   | (with_reducible exact cutroomlaw28_awake.mono _)
   | (with_reducible exact cutroomlaw28_made.mono _ _ _)
   | (with_reducible exact cutroomref28_Gain.mono _ _ _ _)
   | (with_reducible exact loudness_Gain.mono _ _ _ _)
   | (with_reducible exact LeO.refl _)
   | (with_reducible exact LeO.none _)
   | (with_reducible refine LeO.ite ?_ ?_)
   | (with_reducible refine LeO.bind ?_ (fun _ => ?_))
   | exact ih0 _ _ _ _ _
   | exact ih1 _ _ _ _ _ _ _ _ _
   | exact ih2 _ _ _ _ _ _ _ _ _ _ _ _ _
   | exact cutroomlaw28_awake.mono _
   | exact cutroomlaw28_made.mono _ _ _
   | exact cutroomref28_Gain.mono _ _ _ _
   | exact loudness_Gain.mono _ _ _ _
   | exact LeO.none _
   | refine LeO.ite ?_ ?_
   | refine LeO.bind ?_ (fun _ => ?_)
theorem cutroomlaw28_LoudnessGains.mono : ∀ a0 a1 a2 a3 k, LeO (cutroomlaw28_LoudnessGains.f k a0 a1 a2 a3) (cutroomlaw28_LoudnessGains.f (k + 1) a0 a1 a2 a3) := by
 intro a0 a1 a2 a3 k
 obtain ⟨ih0, ih1, ih2⟩ := cutroomlaw28_LoudnessGains.mono_l k
 unfold cutroomlaw28_LoudnessGains.f
 repeat' first
   | (with_reducible exact ih0 _ _ _ _ _)
   | (with_reducible exact ih1 _ _ _ _ _ _ _ _ _)
   | (with_reducible exact ih2 _ _ _ _ _ _ _ _ _ _ _ _ _)
   | (with_reducible exact cutroomlaw28_awake.mono _)
   | (with_reducible exact cutroomlaw28_made.mono _ _ _)
   | (with_reducible exact cutroomref28_Gain.mono _ _ _ _)
   | (with_reducible exact loudness_Gain.mono _ _ _ _)
   | (with_reducible exact LeO.refl _)
   | (with_reducible exact LeO.none _)
   | (with_reducible refine LeO.ite ?_ ?_)
   | (with_reducible refine LeO.bind ?_ (fun _ => ?_))
   | exact ih0 _ _ _ _ _
   | exact ih1 _ _ _ _ _ _ _ _ _
   | exact ih2 _ _ _ _ _ _ _ _ _ _ _ _ _
   | exact cutroomlaw28_awake.mono _
   | exact cutroomlaw28_made.mono _ _ _
   | exact cutroomref28_Gain.mono _ _ _ _
   | exact loudness_Gain.mono _ _ _ _
   | exact LeO.none _
   | refine LeO.ite ?_ ?_
   | refine LeO.bind ?_ (fun _ => ?_)
set_option maxHeartbeats 8000000 in
set_option maxRecDepth 100000 in
theorem cutroomlaw28_LoudnessGains.calls (k : Nat) (P0_ : Nat → Prop) (A0 : Option Addr) (c0 : Nat) (l0 : List (List Int)) (A1 : Option Addr) (c1 : Nat) (l1 : List Int) (a2 : Int) (a3 : Int) (r : Bool) (w : World) (hs0 : Kd.V (Kd.slice 48 (Kd.int .i16)) 47 w w.heap.size (fun k_ => P0_ k_) (.slice A0 l0.length c0) l0) (hr1 : Kd.C (Kd.int .i64) w A1 l1.length l1) (hc1 : l1.length ≤ c1) (h : cutroomlaw28_LoudnessGains.f k l0 l1 a2 a3 = some r) :
  Calls Try.prog 10 #[.slice A0 l0.length c0, .slice A1 l1.length c1, .int .i64 a2, .int .i64 a3] w fun e w' => e = .returned (.bool r) ∧ Below w.heap.size w w' := by
 have HO0 := Aside0.mk (show Kd.V (Kd.slice 48 (Kd.int .i16)) 47 w w.heap.size (fun k_ => (P0_ k_ ∨ w.heap.size ≤ k_)) (.slice A0 l0.length c0) l0 from Kd.V_mono hs0 (fun k_ hk => .inl hk))
 have HR1 := Aside0.mk hr1
 have HC1 := Aside0.mk hc1
 clear hr1 hc1
 have HB := Aside0.mk (Below.refl w.heap.size w)
 have H : ((cutroomlaw28_made.f k l1 32767).bind fun t450 => ((cutroomlaw28_made.f k l1 300).bind fun t453 => ((some (([l0, t450, t453] : List (List (List Int))) : List (List (List Int)))).bind fun y456 => (cutroomlaw28_LoudnessGains.l0 k a2 a3 y456 (y456.length : Int) 0)))) = some r := h
 clear h
 replace H := Option.bind_eq_some_iff.mp H
 obtain ⟨t450, A50, H⟩ := H
 replace H : ((cutroomlaw28_made.f k l1 300).bind fun t453 => ((some (([l0, t450, t453] : List (List (List Int))) : List (List (List Int)))).bind fun y456 => (cutroomlaw28_LoudnessGains.l0 k a2 a3 y456 (y456.length : Int) 0))) = some r := H
 have A5 := Aside0.mk A50
 clear A50
 replace H := Option.bind_eq_some_iff.mp H
 obtain ⟨t453, A60, H⟩ := H
 replace H : ((some (([l0, t450, t453] : List (List (List Int))) : List (List (List Int)))).bind fun y456 => (cutroomlaw28_LoudnessGains.l0 k a2 a3 y456 (y456.length : Int) 0)) = some r := H
 have A6 := Aside0.mk A60
 clear A60
 obtain ⟨y456, hy456⟩ : ∃ y_ : List (List (List Int)), y_ = (([l0, t450, t453] : List (List (List Int)))) := ⟨_, rfl⟩
 replace H : (cutroomlaw28_LoudnessGains.l0 k a2 a3 y456 (y456.length : Int) 0) = some r := by first | (rw [hy456]; with_reducible exact H) | (have H2_ := (Option.bind_some _ _).symm.trans H; rw [hy456]; with_reducible exact H2_) | (have H2_ := (Option.bind_some _ _).symm.trans H; with_reducible exact H2_) | with_reducible exact H | (rw [hy456]; exact H) | exact H
 have Ny456 := Aside0.mk hy456
 clear hy456
 have H' := Aside0.mk H
 clear H
 go_enter Try.func10, Try.ntmps10
 go_wp2_with (first | ((with_reducible refine gate_callee (f := 13) rfl ?_); refine goesL_ (some 21) rfl rfl Try.func13 (by kernel_rfl) rfl #[.slice A1 l1.length c1, .int .i64 32767] rfl (by (try simp only [List.map_toArray, List.map_cons, List.map_nil]); first | done | rfl | (simp only [List.length_drop, List.length_take]; rfl)) ?_; (with_reducible refine (cutroomlaw28_made.calls k _ _ l1 32767 t450 _ ?side1 ?side2 A5.out).mono ?_); (case side1 => repeat (first | exact HR1.out | (with_reducible refine Kd.C_alloc ?_ _) | (with_reducible refine Kd.C_drewN ?_ _) | (with_reducible refine Kd.C_drew ?_))); (case side2 => exact HC1.out); rintro e w7 ⟨v451, rfl, ho0, hb⟩; refine ⟨_, rfl, ?_⟩; have n0_ := Aside0.mk (Kd.V_elder' (by (with_reducible repeat (first | apply Kd.V_alloc | apply Kd.V_drewN | apply Kd.V_drew)); exact HO0.out) (Kd.N_base (Kd.S_N ho0)) hb); have n1_ := Aside0.mk (Kd.N_lower (Kd.N_mono (ok' := fun k_ => (P0_ k_ ∨ w.heap.size ≤ k_)) (Kd.S_N (Kd.S_bound ho0)) (fun k_ hk_ => (.inr (Nat.le_trans (below_size (by repeat (first | (with_reducible first | exact HB.out | apply below_alloc | apply pw_below_drewN | apply below_drew1) | exact HB.out))) hk_.2.1)))) (below_size (by repeat (first | (with_reducible first | exact HB.out | apply below_alloc | apply pw_below_drewN | apply below_drew1) | exact HB.out)))); have n2_ := Aside0.mk (below_step (by repeat (first | (with_reducible first | exact HB.out | apply below_alloc | apply pw_below_drewN | apply below_drew1) | exact HB.out)) hb); clear HO0; clear HB; have HO0 := n0_; have HO452 := n1_; have HB := n2_; clear n0_ n1_ n2_; (try clear hb); (try clear hb2); (try clear hk); (try clear hi); (try clear ho0)) | ((with_reducible refine gate_callee (f := 13) rfl ?_); refine goesL_ (some 23) rfl rfl Try.func13 (by kernel_rfl) rfl #[.slice A1 l1.length c1, .int .i64 300] rfl (by (try simp only [List.map_toArray, List.map_cons, List.map_nil]); first | done | rfl | (simp only [List.length_drop, List.length_take]; rfl)) ?_; (with_reducible refine (cutroomlaw28_made.calls k _ _ l1 300 t453 _ ?side1 ?side2 A6.out).mono ?_); (case side1 => repeat (first | (with_reducible exact HR1.out) | exact (Kd.C_below HR1.out HB.out) | (with_reducible refine Kd.C_alloc ?_ _) | (with_reducible refine Kd.C_drewN ?_ _) | (with_reducible refine Kd.C_drew ?_))); (case side2 => exact HC1.out); rintro e w8 ⟨v454, rfl, ho0, hb⟩; refine ⟨_, rfl, ?_⟩; have n0_ := Aside0.mk (Kd.V_elder' (by (with_reducible repeat (first | apply Kd.V_alloc | apply Kd.V_drewN | apply Kd.V_drew)); exact HO0.out) (Kd.N_base (Kd.S_N ho0)) hb); have n1_ := Aside0.mk (Kd.N_elder' (by (with_reducible repeat (first | apply Kd.N_alloc | apply Kd.N_drewN | apply Kd.N_drew)); exact HO452.out) (Kd.N_base (Kd.S_N ho0)) hb); have n2_ := Aside0.mk (Kd.N_lower (Kd.N_mono (ok' := fun k_ => (P0_ k_ ∨ w.heap.size ≤ k_) ∧ some k_ ≠ (v451 : Value).ownBlock) (Kd.S_N (Kd.S_bound ho0)) (fun k_ hk_ => ⟨(.inr (Nat.le_trans (below_size (by repeat (first | (with_reducible first | exact HB.out | apply below_alloc | apply pw_below_drewN | apply below_drew1) | exact HB.out))) hk_.2.1)), (Kd.fresh' (Kd.N_lt (by (with_reducible repeat (first | apply Kd.N_alloc | apply Kd.N_drewN | apply Kd.N_drew)); exact HO452.out)) k_ hk_.2.1)⟩)) (below_size (by repeat (first | (with_reducible first | exact HB.out | apply below_alloc | apply pw_below_drewN | apply below_drew1) | exact HB.out)))); have n3_ := Aside0.mk (below_step (by repeat (first | (with_reducible first | exact HB.out | apply below_alloc | apply pw_below_drewN | apply below_drew1) | exact HB.out)) hb); clear HO0; clear HO452; clear HB; have HO0 := n0_; have HO452 := n1_; have HO455 := n2_; have HB := n3_; clear n0_ n1_ n2_ n3_; (try clear hb); (try clear hb2); (try clear hk); (try clear hi); (try clear ho0); obtain ⟨Ao9, co9, eo9⟩ := Kd.N_slice HO452.out; subst eo9; obtain ⟨Ao10, co10, eo10⟩ := Kd.N_slice HO455.out; subst eo10) | ((with_reducible refine gate_dst (N := 24) rfl ?_); refine Kd.N_lit (Kd.slice 47 (Kd.slice 48 (Kd.int .i16))) _ 22 ?hg (N' := 24) ?hd (xs := ([l0, t450, t453] : List (List (List Int)))) (inner := [.slice A0 l0.length c0, .slice Ao9 t450.length co9, .slice Ao10 t453.length co10]) (ok := (fun k_ => (P0_ k_ ∨ w.heap.size ≤ k_))) (okp := (fun k_ => (P0_ k_ ∨ w.heap.size ≤ k_))) ?hr ?hp (fun _ hk => hk) ((show ∀ k_, w8.heap.size ≤ k_ → (fun k_ => (P0_ k_ ∨ w.heap.size ≤ k_)) k_ from fun k_ hk => (.inr (Nat.le_trans (below_size (by repeat (first | (with_reducible first | exact HB.out | apply below_alloc | apply pw_below_drewN | apply below_drew1) | exact HB.out))) hk))) _ (Nat.le_refl _)) (Below.refl _ _) (Nat.le_refl _) (by simp) ?_; (case hd => rfl); (case hg => rfl); (case hr => first | (go_simp; done) | (go_simp; rfl)); (case hp => exact (Reps.one (show Kd.FK (Kd.slice 47 (Kd.slice 48 (Kd.int .i16))) _ _ l0 [.slice A0 l0.length c0] from (Kd.FK_slice_mk (Kd.V_reads' (Kd.V_mono (ok' := (fun k_ => (P0_ k_ ∨ w.heap.size ≤ k_))) (HO0.out) (fun k_ hk => hk.1.1))).2.1 (Kd.V_F (Kd.V_mono (ok' := (fun k_ => (P0_ k_ ∨ w.heap.size ≤ k_))) (HO0.out) (fun k_ hk => hk.1.1))))) (Reps.one (show Kd.FK (Kd.slice 47 (Kd.slice 48 (Kd.int .i16))) _ _ t450 [.slice Ao9 t450.length co9] from (Kd.FK_slice_mk (Kd.N_reads' (Kd.N_mono (ok' := (fun k_ => (P0_ k_ ∨ w.heap.size ≤ k_))) (HO452.out) (fun k_ hk => hk.1))).2.1 (Kd.N_F (Kd.N_mono (ok' := (fun k_ => (P0_ k_ ∨ w.heap.size ≤ k_))) (HO452.out) (fun k_ hk => hk.1))))) (Reps.one (show Kd.FK (Kd.slice 47 (Kd.slice 48 (Kd.int .i16))) _ _ t453 [.slice Ao10 t453.length co10] from (Kd.FK_slice_mk (Kd.N_reads' (Kd.N_mono (ok' := (fun k_ => (P0_ k_ ∨ w.heap.size ≤ k_))) (HO455.out) (fun k_ hk => hk.1))).2.1 (Kd.N_F (Kd.N_mono (ok' := (fun k_ => (P0_ k_ ∨ w.heap.size ≤ k_))) (HO455.out) (fun k_ hk => hk.1))))) (Reps.none _ _))))); intro v457 w11 ho12 hb hg_ hnew_; clear hg_ hnew_; (first | rw [← Ny456.out] at ho12 | (simp only [Int.reduceToNat] at ho12; rw [← Ny456.out] at ho12)); have n0_ := Aside0.mk (Kd.V_elder' (by (with_reducible repeat (first | apply Kd.V_alloc | apply Kd.V_drewN | apply Kd.V_drew)); exact HO0.out) (Kd.N_base ho12) hb); have n1_ := Aside0.mk (Kd.N_lower ho12 (below_size (by repeat (first | (with_reducible first | exact HB.out | apply below_alloc | apply pw_below_drewN | apply below_drew1) | exact HB.out)))); have n2_ := Aside0.mk (below_step (by repeat (first | (with_reducible first | exact HB.out | apply below_alloc | apply pw_below_drewN | apply below_drew1) | exact HB.out)) hb); clear HO0; clear HB; clear HO452; clear HO455; have HO0 := n0_; have HO458 := n1_; have HB := n2_; clear n0_ n1_ n2_; clear hb ho12; obtain ⟨Ao13, co13, eo13⟩ := Kd.N_slice HO458.out; subst eo13))
 go_loopg [26] k (fun kq v26 w' => ∃ (x26_1 : Int), v26 = .int .i64 x26_1 ∧ Aside0 (cutroomlaw28_LoudnessGains.l0 kq a2 a3 y456 (y456.length : Int) x26_1 = some r) ∧ Aside0 (kq ≤ k) ∧ Aside0 (Kd.N (Kd.slice 47 (Kd.slice 48 (Kd.int .i16))) 22 w' w.heap.size (fun k_ => (P0_ k_ ∨ w.heap.size ≤ k_)) (.slice Ao13 y456.length co13) y456) ∧ Aside0 (Below w.heap.size w w'))
 case atStart => exact ⟨(0), (by first | rfl | (simp; done) | (simp [*]; done)), H', ⟨Nat.le_refl _⟩, ⟨by (with_reducible repeat (first | apply Kd.N_alloc | apply Kd.N_drewN | apply Kd.N_drew)); exact HO458.out⟩, ⟨by repeat (first | (with_reducible first | exact HB.out | apply below_alloc | apply pw_below_drewN | apply below_drew1) | exact HB.out)⟩⟩
 case round =>
  clear H'
  (try clear c1);(try clear p2);(try clear c10);(try clear c13)
  obtain ⟨x26_1, rfl, HA, HK1, HO_24, HB⟩ := hrel
  cases gk with
  | zero => exact absurd HA.out (by simp [cutroomlaw28_LoudnessGains.l0])
  | succ k1 =>
   have H := HA.out
   clear HA
   simp only [cutroomlaw28_LoudnessGains.l0] at H
   by_cases c14 : x26_1 < (y456.length : Int)
   ·rw [if_pos c14] at H
    have c14b0 : decide (x26_1 < (y456.length : Int)) = true := decide_eq_true c14
    clear c14
    by_cases c15 : 0 ≤ x26_1
    ·rw [if_pos c15] at H
     have c15b0 : decide (0 ≤ x26_1) = true := decide_eq_true c15
     clear c15
     by_cases c16 : x26_1 < (y456.length : Int)
     ·rw [if_pos c16] at H
      have c16b0 : decide (x26_1 < (y456.length : Int)) = true := decide_eq_true c16
      clear c16
      obtain ⟨y461, hy461⟩ : ∃ y_ : List Int, y_ = (([a2, Go.bits .and .i64 a2 4294967295, Go.bits .and .i64 a2 65535] : List Int)) := ⟨_, rfl⟩
      replace H : (cutroomlaw28_LoudnessGains.l1 k1 a2 a3 (rd_L3 y456 x26_1) y456 (y456.length : Int) x26_1 y461 (y461.length : Int) 0) = some r := by first | (rw [hy461]; with_reducible exact H) | (have H2_ := (Option.bind_some _ _).symm.trans H; rw [hy461]; with_reducible exact H2_) | (have H2_ := (Option.bind_some _ _).symm.trans H; with_reducible exact H2_) | with_reducible exact H | (rw [hy461]; exact H) | exact H
      have Ny461 := Aside0.mk hy461
      clear hy461
      have H' := Aside0.mk H
      clear H
      have p460 : 0 ≤ (x26_1 : Int) := of_decide_eq_true (by first | (with_reducible assumption) | assumption)
      have q460 : x26_1 < (y456.length : Int) := of_decide_eq_true (by first | (with_reducible assumption) | assumption)
      obtain ⟨ad460, A460_0, c460_0, e460, hx460_0, hl460_0, hi460_0⟩ := at_L3 (Kd.N_reads' HO_24.out).2.2 x26_1 p460 q460
      cases e460
      obtain ⟨ce460, hce460, hMe460, hcc460⟩ := Kd.N_get HO_24.out [] x26_1 p460 (by first | exact q460 | exact of_decide_eq_true (by first | (with_reducible assumption) | assumption) | (have e_ := (Kd.N_reads' HO_24.out).1; omega))
      obtain ⟨ua460_0, uc460_0, rfl, ul460_0, ge460_0⟩ := Kd.FK_slice_open hMe460
      have hv460_0 := hcc460 0 _ rfl
      rw [Nat.add_zero, show ((Kd.slice 47 (Kd.slice 48 (Kd.int .i16)))).sz = 1 from rfl, Nat.mul_one] at hv460_0
      replace hv460_0 := Option.some.inj (hv460_0.symm.trans hx460_0)
      injection hv460_0 with hva_ hvn_ hvc_
      rw [hva_] at ge460_0
      rw [hvc_] at ul460_0
      have HL460_0 := Aside0.mk (show Kd.V (Kd.slice 48 (Kd.int .i16)) 47 _ w.heap.size _ _ (rd_L3 y456 x26_1) from Kd.V_mk ul460_0 ge460_0)
      clear hva_ hvn_ hvc_ ge460_0 ul460_0
      clear hcc460 hce460
      have HR460_0 := Aside0.mk hi460_0
      have HC460_0 := Aside0.mk hl460_0
      clear hi460_0 hl460_0
      replace p460 := eq_true p460
      replace q460 := eq_true q460
      go_wp2_with (first | ((with_reducible refine gate_dst (N := 35) rfl ?_); refine Kd.R_lit (Kd.int .i64) _ 2 ?hg (N := 35) ?hd (xs := ([a2, Go.bits .and .i64 a2 4294967295, Go.bits .and .i64 a2 65535] : List Int)) (inner := [.int .i64 a2, .int .i64 (Go.bits .and .i64 a2 4294967295), .int .i64 (Go.bits .and .i64 a2 65535)]) (ok := fun _ => True) (okp := fun _ => True) ?hr ?hp (fun _ hk => hk) trivial (Below.refl _ _) (Nat.le_refl _) (by simp) ?_; (case hd => rfl); (case hg => rfl); (case hr => first | (go_simp; done) | (go_simp; rfl)); (case hp => exact (Reps.one (show Kd.M (Kd.int .i64) _ _ _ a2 [.int .i64 a2] from rfl) (Reps.one (show Kd.M (Kd.int .i64) _ _ _ (Go.bits .and .i64 a2 4294967295) [.int .i64 (Go.bits .and .i64 a2 4294967295)] from rfl) (Reps.one (show Kd.M (Kd.int .i64) _ _ _ (Go.bits .and .i64 a2 65535) [.int .i64 (Go.bits .and .i64 a2 65535)] from rfl) (Reps.none _ _))))); intro v462 w17 ho18 hb hg_ hnew_; clear hg_ hnew_; (first | rw [← Ny461.out] at ho18 | (simp only [Int.reduceToNat] at ho18; rw [← Ny461.out] at ho18)); have n0_ := Aside0.mk (Kd.N_elder' (by (with_reducible repeat (first | apply Kd.N_alloc | apply Kd.N_drewN | apply Kd.N_drew)); exact HO_24.out) (Kd.R_base ho18) hb); have n1_ := Aside0.mk (Kd.V_elder' (by (with_reducible repeat (first | apply Kd.V_alloc | apply Kd.V_drewN | apply Kd.V_drew)); exact HL460_0.out) (Kd.R_base ho18) hb); have n2_ := Aside0.mk (Kd.R_lower (Kd.R_newM (M := fun k_ => (w.heap.size ≤ k_)) ho18 (below_size (by repeat (first | (with_reducible first | exact HB.out | apply below_alloc | apply pw_below_drewN | apply below_drew1) | exact HB.out))) (fun k_ h_ => h_)) (below_size (by repeat (first | (with_reducible first | exact HB.out | apply below_alloc | apply pw_below_drewN | apply below_drew1) | exact HB.out)))); have n3_ := Aside0.mk (Kd.C_below (by repeat (first | (with_reducible exact HR460_0.out) | (with_reducible refine Kd.C_alloc ?_ _) | (with_reducible refine Kd.C_drewN ?_ _) | (with_reducible refine Kd.C_drew ?_) | exact HR460_0.out)) hb); have n4_ := Aside0.mk (below_step (by repeat (first | (with_reducible first | exact HB.out | apply below_alloc | apply pw_below_drewN | apply below_drew1) | exact HB.out)) hb); clear HO_24; clear HL460_0; clear HR460_0; clear HB; have HO_24 := n0_; have HL460_0 := n1_; have HO463 := n2_; have HR460_0 := n3_; have HB := n4_; clear n0_ n1_ n2_ n3_ n4_; clear hb ho18; obtain ⟨Ao19, co19, eo19⟩ := Kd.R_slice HO463.out; subst eo19))
      go_loopg [37] k1 (fun kq v37 w' => ∃ (x37_2 : Int), v37 = .int .i64 x37_2 ∧ Aside0 (cutroomlaw28_LoudnessGains.l1 kq a2 a3 (rd_L3 y456 x26_1) y456 (y456.length : Int) x26_1 y461 (y461.length : Int) x37_2 = some r) ∧ Aside0 (kq ≤ k1) ∧ Aside0 (Kd.N (Kd.slice 47 (Kd.slice 48 (Kd.int .i16))) 22 w' w.heap.size (fun k_ => (P0_ k_ ∨ w.heap.size ≤ k_) ∧ some k_ ≠ ((.slice Ao19 y461.length co19) : Value).ownBlock) (.slice (some ad460) y456.length co13) y456) ∧ Aside0 (Kd.R (Kd.int .i64) 2 w' w.heap.size (fun k_ => (w.heap.size ≤ k_)) (.slice Ao19 y461.length co19) y461) ∧ Aside0 (Kd.C (Kd.slice 48 (Kd.int .i16)) w' A460_0 (rd_L3 y456 x26_1).length (rd_L3 y456 x26_1)) ∧ Aside0 (Below w.heap.size w w'))
      case atStart => exact ⟨(0), (by first | rfl | (simp; done) | (simp [*]; done)), H', ⟨Nat.le_refl _⟩, ⟨by (with_reducible repeat (first | apply Kd.N_alloc | apply Kd.N_drewN | apply Kd.N_drew)); exact HO_24.out⟩, ⟨by (with_reducible repeat (first | apply Kd.R_alloc | apply Kd.R_drewN | apply Kd.R_drew)); exact Kd.R_mono HO463.out (fun _ hk => hk.1)⟩, ⟨by repeat (first | (with_reducible exact HR460_0.out) | (with_reducible refine Kd.C_alloc ?_ _) | (with_reducible refine Kd.C_drewN ?_ _) | (with_reducible refine Kd.C_drew ?_) | exact HR460_0.out)⟩, ⟨by repeat (first | (with_reducible first | exact HB.out | apply below_alloc | apply pw_below_drewN | apply below_drew1) | exact HB.out)⟩⟩
      case round =>
       clear H'
       (try clear c1);(try clear p2);(try clear c4);(try clear p4);(try clear q4);(try clear hx4);(try clear c10);(try clear c13);(try clear c14);(try clear c14b0);(try clear c15);(try clear c15b0);(try clear c16);(try clear c16b0);(try clear hx460_0);(try clear p2);(try clear p460);(try clear q460)
       obtain ⟨x37_2, rfl, HA, HK2, HO_24, HO_35, HR460_0, HB⟩ := hrel
       cases gk with
       | zero => exact absurd HA.out (by simp [cutroomlaw28_LoudnessGains.l1])
       | succ k2 =>
        have H := HA.out
        clear HA
        simp only [cutroomlaw28_LoudnessGains.l1] at H
        by_cases c20 : x37_2 < (y461.length : Int)
        ·rw [if_pos c20] at H
         have c20b0 : decide (x37_2 < (y461.length : Int)) = true := decide_eq_true c20
         clear c20
         by_cases c21 : 0 ≤ x37_2
         ·rw [if_pos c21] at H
          have c21b0 : decide (0 ≤ x37_2) = true := decide_eq_true c21
          clear c21
          by_cases c22 : x37_2 < (y461.length : Int)
          ·rw [if_pos c22] at H
           have c22b0 : decide (x37_2 < (y461.length : Int)) = true := decide_eq_true c22
           clear c22
           obtain ⟨y465, hy465⟩ : ∃ y_ : List Int, y_ = (([a3, Go.bits .and .i64 a3 32767] : List Int)) := ⟨_, rfl⟩
           replace H : (cutroomlaw28_LoudnessGains.l2 k2 a2 a3 (rd_L3 y456 x26_1) (rd y461 x37_2) y456 (y456.length : Int) x26_1 y461 (y461.length : Int) x37_2 y465 (y465.length : Int) 0) = some r := by first | (rw [hy465]; with_reducible exact H) | (have H2_ := (Option.bind_some _ _).symm.trans H; rw [hy465]; with_reducible exact H2_) | (have H2_ := (Option.bind_some _ _).symm.trans H; with_reducible exact H2_) | with_reducible exact H | (rw [hy465]; exact H) | exact H
           have Ny465 := Aside0.mk hy465
           clear hy465
           have H' := Aside0.mk H
           clear H
           have p464 : 0 ≤ (x37_2 : Int) := of_decide_eq_true (by first | (with_reducible assumption) | assumption)
           have q464 : x37_2 < (y461.length : Int) := of_decide_eq_true (by first | (with_reducible assumption) | assumption)
           obtain ⟨ad464, e464, hx464_0⟩ := Kd.at_int (Kd.R_reads' HO_35.out).2.2 x37_2 p464 q464
           cases e464
           replace p464 := eq_true p464
           replace q464 := eq_true q464
           go_wp2_with (first | ((with_reducible refine gate_dst (N := 44) rfl ?_); refine Kd.R_lit (Kd.int .i64) _ 3 ?hg (N := 44) ?hd (xs := ([a3, Go.bits .and .i64 a3 32767] : List Int)) (inner := [.int .i64 a3, .int .i64 (Go.bits .and .i64 a3 32767)]) (ok := fun _ => True) (okp := fun _ => True) ?hr ?hp (fun _ hk => hk) trivial (Below.refl _ _) (Nat.le_refl _) (by simp) ?_; (case hd => rfl); (case hg => rfl); (case hr => first | (go_simp; done) | (go_simp; rfl)); (case hp => exact (Reps.one (show Kd.M (Kd.int .i64) _ _ _ a3 [.int .i64 a3] from rfl) (Reps.one (show Kd.M (Kd.int .i64) _ _ _ (Go.bits .and .i64 a3 32767) [.int .i64 (Go.bits .and .i64 a3 32767)] from rfl) (Reps.none _ _)))); intro v466 w23 ho24 hb hg_ hnew_; clear hg_ hnew_; (first | rw [← Ny465.out] at ho24 | (simp only [Int.reduceToNat] at ho24; rw [← Ny465.out] at ho24)); have n0_ := Aside0.mk (Kd.N_elder' (by (with_reducible repeat (first | apply Kd.N_alloc | apply Kd.N_drewN | apply Kd.N_drew)); exact HO_24.out) (Kd.R_base ho24) hb); have n1_ := Aside0.mk (Kd.R_below (by (with_reducible repeat (first | apply Kd.R_alloc | apply Kd.R_drewN | apply Kd.R_drew)); exact HO_35.out) hb); have n2_ := Aside0.mk (Kd.R_lower (Kd.R_newM (M := fun k_ => (w.heap.size ≤ k_)) ho24 (below_size (by repeat (first | (with_reducible first | exact HB.out | apply below_alloc | apply pw_below_drewN | apply below_drew1) | exact HB.out))) (fun k_ h_ => h_)) (below_size (by repeat (first | (with_reducible first | exact HB.out | apply below_alloc | apply pw_below_drewN | apply below_drew1) | exact HB.out)))); have n3_ := Aside0.mk (Kd.C_below (by repeat (first | (with_reducible exact HR460_0.out) | (with_reducible refine Kd.C_alloc ?_ _) | (with_reducible refine Kd.C_drewN ?_ _) | (with_reducible refine Kd.C_drew ?_) | exact HR460_0.out)) hb); have n4_ := Aside0.mk (below_step (by repeat (first | (with_reducible first | exact HB.out | apply below_alloc | apply pw_below_drewN | apply below_drew1) | exact HB.out)) hb); clear HO_24; clear HO_35; clear HR460_0; clear HB; have HO_24 := n0_; have HO_35 := n1_; have HO467 := n2_; have HR460_0 := n3_; have HB := n4_; clear n0_ n1_ n2_ n3_ n4_; clear hb ho24; obtain ⟨Ao25, co25, eo25⟩ := Kd.R_slice HO467.out; subst eo25))
           go_loopg [46] k2 (fun kq v46 w' => ∃ (x46_3 : Int), v46 = .int .i64 x46_3 ∧ Aside0 (cutroomlaw28_LoudnessGains.l2 kq a2 a3 (rd_L3 y456 x26_1) (rd y461 x37_2) y456 (y456.length : Int) x26_1 y461 (y461.length : Int) x37_2 y465 (y465.length : Int) x46_3 = some r) ∧ Aside0 (kq ≤ k2) ∧ Aside0 (Kd.N (Kd.slice 47 (Kd.slice 48 (Kd.int .i16))) 22 w' w.heap.size (fun k_ => (P0_ k_ ∨ w.heap.size ≤ k_) ∧ some k_ ≠ ((.slice (some ad464) y461.length co19) : Value).ownBlock ∧ some k_ ≠ ((.slice Ao25 y465.length co25) : Value).ownBlock) (.slice (some ad460) y456.length co13) y456) ∧ Aside0 (Kd.R (Kd.int .i64) 2 w' w.heap.size (fun k_ => (w.heap.size ≤ k_)) (.slice (some ad464) y461.length co19) y461) ∧ Aside0 (Kd.R (Kd.int .i64) 3 w' w.heap.size (fun k_ => (w.heap.size ≤ k_)) (.slice Ao25 y465.length co25) y465) ∧ Aside0 (Kd.C (Kd.slice 48 (Kd.int .i16)) w' A460_0 (rd_L3 y456 x26_1).length (rd_L3 y456 x26_1)) ∧ Aside0 (Below w.heap.size w w'))
           case atStart => exact ⟨(0), (by first | rfl | (simp; done) | (simp [*]; done)), H', ⟨Nat.le_refl _⟩, ⟨by (with_reducible repeat (first | apply Kd.N_alloc | apply Kd.N_drewN | apply Kd.N_drew)); exact Kd.N_mono HO_24.out (fun _ hk => ⟨hk.1.1, ⟨hk.1.2, hk.2⟩⟩)⟩, ⟨by (with_reducible repeat (first | apply Kd.R_alloc | apply Kd.R_drewN | apply Kd.R_drew)); exact HO_35.out⟩, ⟨by (with_reducible repeat (first | apply Kd.R_alloc | apply Kd.R_drewN | apply Kd.R_drew)); exact Kd.R_mono HO467.out (fun _ hk => hk.1)⟩, ⟨by repeat (first | (with_reducible exact HR460_0.out) | (with_reducible refine Kd.C_alloc ?_ _) | (with_reducible refine Kd.C_drewN ?_ _) | (with_reducible refine Kd.C_drew ?_) | exact HR460_0.out)⟩, ⟨by repeat (first | (with_reducible first | exact HB.out | apply below_alloc | apply pw_below_drewN | apply below_drew1) | exact HB.out)⟩⟩
           case round =>
            clear H'
            (try clear c1);(try clear c2);(try clear p2);(try clear c4);(try clear p4);(try clear q4);(try clear hx4);(try clear c10);(try clear c13);(try clear c14);(try clear c14b0);(try clear c15);(try clear c15b0);(try clear c16);(try clear c16b0);(try clear c20);(try clear c20b0);(try clear c21);(try clear c21b0);(try clear c22);(try clear c22b0);(try clear hx460_0);(try clear hx464_0);(try clear p2);(try clear p4);(try clear p460);(try clear p464);(try clear q4);(try clear q460);(try clear q464)
            obtain ⟨x46_3, rfl, HA, HK3, HO_24, HO_35, HO_44, HR460_0, HB⟩ := hrel
            cases gk with
            | zero => exact absurd HA.out (by simp [cutroomlaw28_LoudnessGains.l2])
            | succ k3 =>
             have H := HA.out
             clear HA
             simp only [cutroomlaw28_LoudnessGains.l2] at H
             by_cases c26 : x46_3 < (y465.length : Int)
             ·rw [if_pos c26] at H
              have c26b0 : decide (x46_3 < (y465.length : Int)) = true := decide_eq_true c26
              clear c26
              by_cases c27 : 0 ≤ x46_3
              ·rw [if_pos c27] at H
               have c27b0 : decide (0 ≤ x46_3) = true := decide_eq_true c27
               clear c27
               by_cases c28 : x46_3 < (y465.length : Int)
               ·rw [if_pos c28] at H
                have c28b0 : decide (x46_3 < (y465.length : Int)) = true := decide_eq_true c28
                clear c28
                replace H := Option.bind_eq_some_iff.mp H
                obtain ⟨⟨t469, t470⟩, A290, H⟩ := H
                replace H : ((cutroomref28_Gain.f k3 (rd_L3 y456 x26_1) (rd y461 x37_2) (rd y465 x46_3)).bind fun bt471 => (if t470 = bt471.2 then (if t469 = bt471.1 then (cutroomlaw28_LoudnessGains.l2 k3 a2 a3 (rd_L3 y456 x26_1) (rd y461 x37_2) y456 (y456.length : Int) x26_1 y461 (y461.length : Int) x37_2 y465 (y465.length : Int) (wrap64 (x46_3 + 1))) else (some false)) else (some false))) = some r := H
                have A29 := Aside0.mk A290
                clear A290
                replace H := Option.bind_eq_some_iff.mp H
                obtain ⟨⟨t471, t472⟩, A300, H⟩ := H
                replace H : (if t470 = t472 then (if t469 = t471 then (cutroomlaw28_LoudnessGains.l2 k3 a2 a3 (rd_L3 y456 x26_1) (rd y461 x37_2) y456 (y456.length : Int) x26_1 y461 (y461.length : Int) x37_2 y465 (y465.length : Int) (wrap64 (x46_3 + 1))) else (some false)) else (some false)) = some r := H
                have A30 := Aside0.mk A300
                clear A300
                by_cases c31 : t470 = t472
                ·rw [if_pos c31] at H
                 have c31b0 : (t470 == t472) = true := beq_iff_eq.mpr c31
                 have c31b1 : (t470 != t472) = false := bne_eq_false_iff_eq.mpr c31
                 clear c31
                 by_cases c32 : t469 = t471
                 ·rw [if_pos c32] at H
                  have c32b0 : (t469 == t471) = true := beq_iff_eq.mpr c32
                  have c32b1 : (t469 != t471) = false := bne_eq_false_iff_eq.mpr c32
                  clear c32
                  have H' := Aside0.mk H
                  clear H
                  have p468 : 0 ≤ (x46_3 : Int) := of_decide_eq_true (by first | (with_reducible assumption) | assumption)
                  have q468 : x46_3 < (y465.length : Int) := of_decide_eq_true (by first | (with_reducible assumption) | assumption)
                  obtain ⟨ad468, e468, hx468_0⟩ := Kd.at_int (Kd.R_reads' HO_44.out).2.2 x46_3 p468 q468
                  cases e468
                  replace p468 := eq_true p468
                  replace q468 := eq_true q468
                  go_wp2_with (first | ((with_reducible refine gate_callee (f := 25) rfl ?_); refine goesL_ (some 54) rfl rfl Try.func25 (by kernel_rfl) rfl #[.slice A460_0 (rd_L3 y456 x26_1).length c460_0, .int .i64 (rd y461 x37_2), .int .i64 (rd y465 x46_3)] rfl (by (try simp only [List.map_toArray, List.map_cons, List.map_nil]); first | done | rfl | (simp only [List.length_drop, List.length_take]; rfl)) ?_; (with_reducible refine (loudness_Gain.calls k3 _ _ (rd_L3 y456 x26_1) (rd y461 x37_2) (rd y465 x46_3) t469 t470 _ ?side1 ?side2 A29.out).mono ?_); (case side1 => repeat (first | (with_reducible exact HR460_0.out) | exact (Kd.C_below HR460_0.out HB.out) | (with_reducible refine Kd.C_alloc ?_ _) | (with_reducible refine Kd.C_drewN ?_ _) | (with_reducible refine Kd.C_drew ?_))); (case side2 => exact HC460_0.out); rintro e w33 ⟨rfl, hb⟩; refine ⟨_, rfl, ?_⟩; have n0_ := Aside0.mk (Kd.N_below (by (with_reducible repeat (first | apply Kd.N_alloc | apply Kd.N_drewN | apply Kd.N_drew)); exact HO_24.out) hb); have n1_ := Aside0.mk (Kd.R_below (by (with_reducible repeat (first | apply Kd.R_alloc | apply Kd.R_drewN | apply Kd.R_drew)); exact HO_35.out) hb); have n2_ := Aside0.mk (Kd.R_below (by (with_reducible repeat (first | apply Kd.R_alloc | apply Kd.R_drewN | apply Kd.R_drew)); exact HO_44.out) hb); have n3_ := Aside0.mk (Kd.C_below (by repeat (first | (with_reducible exact HR460_0.out) | (with_reducible refine Kd.C_alloc ?_ _) | (with_reducible refine Kd.C_drewN ?_ _) | (with_reducible refine Kd.C_drew ?_) | exact HR460_0.out)) hb); have n4_ := Aside0.mk (below_step (by repeat (first | (with_reducible first | exact HB.out | apply below_alloc | apply pw_below_drewN | apply below_drew1) | exact HB.out)) hb); clear HO_24; clear HO_35; clear HO_44; clear HR460_0; clear HB; have HO_24 := n0_; have HO_35 := n1_; have HO_44 := n2_; have HR460_0 := n3_; have HB := n4_; clear n0_ n1_ n2_ n3_ n4_; (try clear hb); (try clear hb2); (try clear hk); (try clear hi)) | ((with_reducible refine gate_callee (f := 27) rfl ?_); refine goesL_ (some 61) rfl rfl Try.func27 (by kernel_rfl) rfl #[.slice A460_0 (rd_L3 y456 x26_1).length c460_0, .int .i64 (rd y461 x37_2), .int .i64 (rd y465 x46_3)] rfl (by (try simp only [List.map_toArray, List.map_cons, List.map_nil]); first | done | rfl | (simp only [List.length_drop, List.length_take]; rfl)) ?_; (with_reducible refine (cutroomref28_Gain.calls k3 _ _ (rd_L3 y456 x26_1) (rd y461 x37_2) (rd y465 x46_3) t471 t472 _ ?side1 ?side2 A30.out).mono ?_); (case side1 => repeat (first | (with_reducible exact HR460_0.out) | exact (Kd.C_below HR460_0.out HB.out) | (with_reducible refine Kd.C_alloc ?_ _) | (with_reducible refine Kd.C_drewN ?_ _) | (with_reducible refine Kd.C_drew ?_))); (case side2 => exact HC460_0.out); rintro e w34 ⟨rfl, hb⟩; refine ⟨_, rfl, ?_⟩; have n0_ := Aside0.mk (Kd.N_below (by (with_reducible repeat (first | apply Kd.N_alloc | apply Kd.N_drewN | apply Kd.N_drew)); exact HO_24.out) hb); have n1_ := Aside0.mk (Kd.R_below (by (with_reducible repeat (first | apply Kd.R_alloc | apply Kd.R_drewN | apply Kd.R_drew)); exact HO_35.out) hb); have n2_ := Aside0.mk (Kd.R_below (by (with_reducible repeat (first | apply Kd.R_alloc | apply Kd.R_drewN | apply Kd.R_drew)); exact HO_44.out) hb); have n3_ := Aside0.mk (Kd.C_below (by repeat (first | (with_reducible exact HR460_0.out) | (with_reducible refine Kd.C_alloc ?_ _) | (with_reducible refine Kd.C_drewN ?_ _) | (with_reducible refine Kd.C_drew ?_) | exact HR460_0.out)) hb); have n4_ := Aside0.mk (below_step (by repeat (first | (with_reducible first | exact HB.out | apply below_alloc | apply pw_below_drewN | apply below_drew1) | exact HB.out)) hb); clear HO_24; clear HO_35; clear HO_44; clear HR460_0; clear HB; have HO_24 := n0_; have HO_35 := n1_; have HO_44 := n2_; have HR460_0 := n3_; have HB := n4_; clear n0_ n1_ n2_ n3_ n4_; (try clear hb); (try clear hb2); (try clear hk); (try clear hi)))
                  go_roundg k3
                  case measure => have := HK1.out; have := HK2.out; have := HK3.out; omega
                  case rel => exact ⟨(wrap64 (x46_3 + 1)), (by first | rfl | (simp; done) | (simp [*]; done)), H', ⟨by have := HK1.out; have := HK2.out; have := HK3.out; omega⟩, ⟨by (with_reducible repeat (first | apply Kd.N_alloc | apply Kd.N_drewN | apply Kd.N_drew)); exact HO_24.out⟩, ⟨by (with_reducible repeat (first | apply Kd.R_alloc | apply Kd.R_drewN | apply Kd.R_drew)); exact HO_35.out⟩, ⟨by (with_reducible repeat (first | apply Kd.R_alloc | apply Kd.R_drewN | apply Kd.R_drew)); exact HO_44.out⟩, ⟨by repeat (first | (with_reducible exact HR460_0.out) | (with_reducible refine Kd.C_alloc ?_ _) | (with_reducible refine Kd.C_drewN ?_ _) | (with_reducible refine Kd.C_drew ?_) | exact HR460_0.out)⟩, ⟨by repeat (first | (with_reducible first | exact HB.out | apply below_alloc | apply pw_below_drewN | apply below_drew1) | exact HB.out)⟩⟩
                 ·rw [if_neg c32] at H
                  have c32b0 : (t469 == t471) = false := beq_eq_false_iff_ne.mpr c32
                  have c32b1 : (t469 != t471) = true := bne_iff_ne.mpr c32
                  obtain rfl := Option.some.inj H
                  have p468 : 0 ≤ (x46_3 : Int) := of_decide_eq_true (by first | (with_reducible assumption) | assumption)
                  have q468 : x46_3 < (y465.length : Int) := of_decide_eq_true (by first | (with_reducible assumption) | assumption)
                  obtain ⟨ad468, e468, hx468_0⟩ := Kd.at_int (Kd.R_reads' HO_44.out).2.2 x46_3 p468 q468
                  cases e468
                  replace p468 := eq_true p468
                  replace q468 := eq_true q468
                  go_wp2_with (first | ((with_reducible refine gate_callee (f := 25) rfl ?_); refine goesL_ (some 54) rfl rfl Try.func25 (by kernel_rfl) rfl #[.slice A460_0 (rd_L3 y456 x26_1).length c460_0, .int .i64 (rd y461 x37_2), .int .i64 (rd y465 x46_3)] rfl (by (try simp only [List.map_toArray, List.map_cons, List.map_nil]); first | done | rfl | (simp only [List.length_drop, List.length_take]; rfl)) ?_; (with_reducible refine (loudness_Gain.calls k3 _ _ (rd_L3 y456 x26_1) (rd y461 x37_2) (rd y465 x46_3) t469 t470 _ ?side1 ?side2 A29.out).mono ?_); (case side1 => repeat (first | (with_reducible exact HR460_0.out) | exact (Kd.C_below HR460_0.out HB.out) | (with_reducible refine Kd.C_alloc ?_ _) | (with_reducible refine Kd.C_drewN ?_ _) | (with_reducible refine Kd.C_drew ?_))); (case side2 => exact HC460_0.out); rintro e w35 ⟨rfl, hb⟩; refine ⟨_, rfl, ?_⟩; have n0_ := Aside0.mk (Kd.N_below (by (with_reducible repeat (first | apply Kd.N_alloc | apply Kd.N_drewN | apply Kd.N_drew)); exact HO_24.out) hb); have n1_ := Aside0.mk (Kd.R_below (by (with_reducible repeat (first | apply Kd.R_alloc | apply Kd.R_drewN | apply Kd.R_drew)); exact HO_35.out) hb); have n2_ := Aside0.mk (Kd.R_below (by (with_reducible repeat (first | apply Kd.R_alloc | apply Kd.R_drewN | apply Kd.R_drew)); exact HO_44.out) hb); have n3_ := Aside0.mk (Kd.C_below (by repeat (first | (with_reducible exact HR460_0.out) | (with_reducible refine Kd.C_alloc ?_ _) | (with_reducible refine Kd.C_drewN ?_ _) | (with_reducible refine Kd.C_drew ?_) | exact HR460_0.out)) hb); have n4_ := Aside0.mk (below_step (by repeat (first | (with_reducible first | exact HB.out | apply below_alloc | apply pw_below_drewN | apply below_drew1) | exact HB.out)) hb); clear HO_24; clear HO_35; clear HO_44; clear HR460_0; clear HB; have HO_24 := n0_; have HO_35 := n1_; have HO_44 := n2_; have HR460_0 := n3_; have HB := n4_; clear n0_ n1_ n2_ n3_ n4_; (try clear hb); (try clear hb2); (try clear hk); (try clear hi)) | ((with_reducible refine gate_callee (f := 27) rfl ?_); refine goesL_ (some 61) rfl rfl Try.func27 (by kernel_rfl) rfl #[.slice A460_0 (rd_L3 y456 x26_1).length c460_0, .int .i64 (rd y461 x37_2), .int .i64 (rd y465 x46_3)] rfl (by (try simp only [List.map_toArray, List.map_cons, List.map_nil]); first | done | rfl | (simp only [List.length_drop, List.length_take]; rfl)) ?_; (with_reducible refine (cutroomref28_Gain.calls k3 _ _ (rd_L3 y456 x26_1) (rd y461 x37_2) (rd y465 x46_3) t471 t472 _ ?side1 ?side2 A30.out).mono ?_); (case side1 => repeat (first | (with_reducible exact HR460_0.out) | exact (Kd.C_below HR460_0.out HB.out) | (with_reducible refine Kd.C_alloc ?_ _) | (with_reducible refine Kd.C_drewN ?_ _) | (with_reducible refine Kd.C_drew ?_))); (case side2 => exact HC460_0.out); rintro e w36 ⟨rfl, hb⟩; refine ⟨_, rfl, ?_⟩; have n0_ := Aside0.mk (Kd.N_below (by (with_reducible repeat (first | apply Kd.N_alloc | apply Kd.N_drewN | apply Kd.N_drew)); exact HO_24.out) hb); have n1_ := Aside0.mk (Kd.R_below (by (with_reducible repeat (first | apply Kd.R_alloc | apply Kd.R_drewN | apply Kd.R_drew)); exact HO_35.out) hb); have n2_ := Aside0.mk (Kd.R_below (by (with_reducible repeat (first | apply Kd.R_alloc | apply Kd.R_drewN | apply Kd.R_drew)); exact HO_44.out) hb); have n3_ := Aside0.mk (Kd.C_below (by repeat (first | (with_reducible exact HR460_0.out) | (with_reducible refine Kd.C_alloc ?_ _) | (with_reducible refine Kd.C_drewN ?_ _) | (with_reducible refine Kd.C_drew ?_) | exact HR460_0.out)) hb); have n4_ := Aside0.mk (below_step (by repeat (first | (with_reducible first | exact HB.out | apply below_alloc | apply pw_below_drewN | apply below_drew1) | exact HB.out)) hb); clear HO_24; clear HO_35; clear HO_44; clear HR460_0; clear HB; have HO_24 := n0_; have HO_35 := n1_; have HO_44 := n2_; have HR460_0 := n3_; have HB := n4_; clear n0_ n1_ n2_ n3_ n4_; (try clear hb); (try clear hb2); (try clear hk); (try clear hi)))
                  go_ret
                  exact ⟨by first | rfl | (simp [errW_none, errW_some] <;> rfl) | (simp [*, errW_none, errW_some] <;> rfl), by repeat (first | (with_reducible first | exact HB.out | apply below_alloc | apply pw_below_drewN | apply below_drew1) | exact HB.out)⟩
                ·rw [if_neg c31] at H
                 have c31b0 : (t470 == t472) = false := beq_eq_false_iff_ne.mpr c31
                 have c31b1 : (t470 != t472) = true := bne_iff_ne.mpr c31
                 obtain rfl := Option.some.inj H
                 have p468 : 0 ≤ (x46_3 : Int) := of_decide_eq_true (by first | (with_reducible assumption) | assumption)
                 have q468 : x46_3 < (y465.length : Int) := of_decide_eq_true (by first | (with_reducible assumption) | assumption)
                 obtain ⟨ad468, e468, hx468_0⟩ := Kd.at_int (Kd.R_reads' HO_44.out).2.2 x46_3 p468 q468
                 cases e468
                 replace p468 := eq_true p468
                 replace q468 := eq_true q468
                 go_wp2_with (first | ((with_reducible refine gate_callee (f := 25) rfl ?_); refine goesL_ (some 54) rfl rfl Try.func25 (by kernel_rfl) rfl #[.slice A460_0 (rd_L3 y456 x26_1).length c460_0, .int .i64 (rd y461 x37_2), .int .i64 (rd y465 x46_3)] rfl (by (try simp only [List.map_toArray, List.map_cons, List.map_nil]); first | done | rfl | (simp only [List.length_drop, List.length_take]; rfl)) ?_; (with_reducible refine (loudness_Gain.calls k3 _ _ (rd_L3 y456 x26_1) (rd y461 x37_2) (rd y465 x46_3) t469 t470 _ ?side1 ?side2 A29.out).mono ?_); (case side1 => repeat (first | (with_reducible exact HR460_0.out) | exact (Kd.C_below HR460_0.out HB.out) | (with_reducible refine Kd.C_alloc ?_ _) | (with_reducible refine Kd.C_drewN ?_ _) | (with_reducible refine Kd.C_drew ?_))); (case side2 => exact HC460_0.out); rintro e w37 ⟨rfl, hb⟩; refine ⟨_, rfl, ?_⟩; have n0_ := Aside0.mk (Kd.N_below (by (with_reducible repeat (first | apply Kd.N_alloc | apply Kd.N_drewN | apply Kd.N_drew)); exact HO_24.out) hb); have n1_ := Aside0.mk (Kd.R_below (by (with_reducible repeat (first | apply Kd.R_alloc | apply Kd.R_drewN | apply Kd.R_drew)); exact HO_35.out) hb); have n2_ := Aside0.mk (Kd.R_below (by (with_reducible repeat (first | apply Kd.R_alloc | apply Kd.R_drewN | apply Kd.R_drew)); exact HO_44.out) hb); have n3_ := Aside0.mk (Kd.C_below (by repeat (first | (with_reducible exact HR460_0.out) | (with_reducible refine Kd.C_alloc ?_ _) | (with_reducible refine Kd.C_drewN ?_ _) | (with_reducible refine Kd.C_drew ?_) | exact HR460_0.out)) hb); have n4_ := Aside0.mk (below_step (by repeat (first | (with_reducible first | exact HB.out | apply below_alloc | apply pw_below_drewN | apply below_drew1) | exact HB.out)) hb); clear HO_24; clear HO_35; clear HO_44; clear HR460_0; clear HB; have HO_24 := n0_; have HO_35 := n1_; have HO_44 := n2_; have HR460_0 := n3_; have HB := n4_; clear n0_ n1_ n2_ n3_ n4_; (try clear hb); (try clear hb2); (try clear hk); (try clear hi)) | ((with_reducible refine gate_callee (f := 27) rfl ?_); refine goesL_ (some 61) rfl rfl Try.func27 (by kernel_rfl) rfl #[.slice A460_0 (rd_L3 y456 x26_1).length c460_0, .int .i64 (rd y461 x37_2), .int .i64 (rd y465 x46_3)] rfl (by (try simp only [List.map_toArray, List.map_cons, List.map_nil]); first | done | rfl | (simp only [List.length_drop, List.length_take]; rfl)) ?_; (with_reducible refine (cutroomref28_Gain.calls k3 _ _ (rd_L3 y456 x26_1) (rd y461 x37_2) (rd y465 x46_3) t471 t472 _ ?side1 ?side2 A30.out).mono ?_); (case side1 => repeat (first | (with_reducible exact HR460_0.out) | exact (Kd.C_below HR460_0.out HB.out) | (with_reducible refine Kd.C_alloc ?_ _) | (with_reducible refine Kd.C_drewN ?_ _) | (with_reducible refine Kd.C_drew ?_))); (case side2 => exact HC460_0.out); rintro e w38 ⟨rfl, hb⟩; refine ⟨_, rfl, ?_⟩; have n0_ := Aside0.mk (Kd.N_below (by (with_reducible repeat (first | apply Kd.N_alloc | apply Kd.N_drewN | apply Kd.N_drew)); exact HO_24.out) hb); have n1_ := Aside0.mk (Kd.R_below (by (with_reducible repeat (first | apply Kd.R_alloc | apply Kd.R_drewN | apply Kd.R_drew)); exact HO_35.out) hb); have n2_ := Aside0.mk (Kd.R_below (by (with_reducible repeat (first | apply Kd.R_alloc | apply Kd.R_drewN | apply Kd.R_drew)); exact HO_44.out) hb); have n3_ := Aside0.mk (Kd.C_below (by repeat (first | (with_reducible exact HR460_0.out) | (with_reducible refine Kd.C_alloc ?_ _) | (with_reducible refine Kd.C_drewN ?_ _) | (with_reducible refine Kd.C_drew ?_) | exact HR460_0.out)) hb); have n4_ := Aside0.mk (below_step (by repeat (first | (with_reducible first | exact HB.out | apply below_alloc | apply pw_below_drewN | apply below_drew1) | exact HB.out)) hb); clear HO_24; clear HO_35; clear HO_44; clear HR460_0; clear HB; have HO_24 := n0_; have HO_35 := n1_; have HO_44 := n2_; have HR460_0 := n3_; have HB := n4_; clear n0_ n1_ n2_ n3_ n4_; (try clear hb); (try clear hb2); (try clear hk); (try clear hi)))
                 go_ret
                 exact ⟨by first | rfl | (simp [errW_none, errW_some] <;> rfl) | (simp [*, errW_none, errW_some] <;> rfl), by repeat (first | (with_reducible first | exact HB.out | apply below_alloc | apply pw_below_drewN | apply below_drew1) | exact HB.out)⟩
               ·rw [if_neg c28] at H
                exact absurd H (by simp)
              ·rw [if_neg c27] at H
               exact absurd H (by simp)
             ·rw [if_neg c26] at H
              have c26b0 : decide (x46_3 < (y465.length : Int)) = false := decide_eq_false c26
              clear c26
              have H' := Aside0.mk H
              clear H
              go_wp2
              go_roundg k3
              case measure => have := HK1.out; have := HK2.out; have := HK3.out; omega
              case rel => exact ⟨(wrap64 (x37_2 + 1)), (by first | rfl | (simp; done) | (simp [*]; done)), H', ⟨by have := HK1.out; have := HK2.out; have := HK3.out; omega⟩, ⟨by (with_reducible repeat (first | apply Kd.N_alloc | apply Kd.N_drewN | apply Kd.N_drew)); exact Kd.N_mono HO_24.out (fun _ hk => ⟨hk.1, hk.2.1⟩)⟩, ⟨by (with_reducible repeat (first | apply Kd.R_alloc | apply Kd.R_drewN | apply Kd.R_drew)); exact HO_35.out⟩, ⟨by repeat (first | (with_reducible exact HR460_0.out) | (with_reducible refine Kd.C_alloc ?_ _) | (with_reducible refine Kd.C_drewN ?_ _) | (with_reducible refine Kd.C_drew ?_) | exact HR460_0.out)⟩, ⟨by repeat (first | (with_reducible first | exact HB.out | apply below_alloc | apply pw_below_drewN | apply below_drew1) | exact HB.out)⟩⟩
          ·rw [if_neg c22] at H
           exact absurd H (by simp)
         ·rw [if_neg c21] at H
          exact absurd H (by simp)
        ·rw [if_neg c20] at H
         have c20b0 : decide (x37_2 < (y461.length : Int)) = false := decide_eq_false c20
         clear c20
         have H' := Aside0.mk H
         clear H
         go_wp2
         go_roundg k2
         case measure => have := HK1.out; have := HK2.out; omega
         case rel => exact ⟨(wrap64 (x26_1 + 1)), (by first | rfl | (simp; done) | (simp [*]; done)), H', ⟨by have := HK1.out; have := HK2.out; omega⟩, ⟨by (with_reducible repeat (first | apply Kd.N_alloc | apply Kd.N_drewN | apply Kd.N_drew)); exact Kd.N_mono HO_24.out (fun _ hk => hk.1)⟩, ⟨by repeat (first | (with_reducible first | exact HB.out | apply below_alloc | apply pw_below_drewN | apply below_drew1) | exact HB.out)⟩⟩
     ·rw [if_neg c16] at H
      exact absurd H (by simp)
    ·rw [if_neg c15] at H
     exact absurd H (by simp)
   ·rw [if_neg c14] at H
    have c14b0 : decide (x26_1 < (y456.length : Int)) = false := decide_eq_false c14
    clear c14
    replace H := Option.bind_eq_some_iff.mp H
    obtain ⟨t459, A390, H⟩ := H
    replace H : (some t459) = some r := H
    have A39 := Aside0.mk A390
    clear A390
    obtain rfl := Option.some.inj H
    go_wp2_with (first | ((with_reducible refine gate_callee (f := 19) rfl ?_); refine goesL_ (some 75) rfl rfl Try.func19 (by kernel_rfl) rfl #[] rfl (by (try simp only [List.map_toArray, List.map_cons, List.map_nil]); first | done | rfl | (simp only [List.length_drop, List.length_take]; rfl)) ?_; (with_reducible refine (cutroomlaw28_awake.calls k1  t459 _ A39.out).mono ?_); rintro e w40 ⟨rfl, hb⟩; refine ⟨_, rfl, ?_⟩; have n0_ := Aside0.mk (Kd.N_below (by (with_reducible repeat (first | apply Kd.N_alloc | apply Kd.N_drewN | apply Kd.N_drew)); exact HO_24.out) hb); have n1_ := Aside0.mk (below_step (by repeat (first | (with_reducible first | exact HB.out | apply below_alloc | apply pw_below_drewN | apply below_drew1) | exact HB.out)) hb); clear HO_24; clear HB; have HO_24 := n0_; have HB := n1_; clear n0_ n1_; (try clear hb); (try clear hb2); (try clear hk); (try clear hi)))
    go_ret
    exact ⟨by first | rfl | (simp [errW_none, errW_some] <;> rfl) | (simp [*, errW_none, errW_some] <;> rfl), by repeat (first | (with_reducible first | exact HB.out | apply below_alloc | apply pw_below_drewN | apply below_drew1) | exact HB.out)⟩

/-- THE ONE PURE STATEMENT of cutroomlaw28_LoudnessGains: yours. -/
def cutroomlaw28_LoudnessGains.Pure : Prop := ∀ (l0 : List (List Int)) (l1 : List Int) (a2 : Int) (a3 : Int), (l0.length ≤ maxLen ∧ l0.length * 24 ≤ 140737488351232 ∧ ∀ q0 ∈ l0, (q0.length ≤ maxLen ∧ q0.length * 2 ≤ 140737488351232 ∧ ∀ q1 ∈ q0, (Lit.int .i16 q1).wf = true)) → (l1.length ≤ maxLen ∧ l1.length * 8 ≤ 140737488351232 ∧ ∀ q0 ∈ l1, (Lit.int .i64 q0).wf = true) → (Lit.int .i64 a2).wf = true → (Lit.int .i64 a3).wf = true → ∃ k, cutroomlaw28_LoudnessGains.f k l0 l1 a2 a3 = some true

end Go.Proofs.Ytjcjbbcamkkeiaa.P
