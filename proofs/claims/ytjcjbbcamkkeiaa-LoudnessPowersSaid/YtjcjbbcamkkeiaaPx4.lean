-- Written by this session's own program (wip/tools/myprint.py), which runs the kit's print with turns of its own: not a text of the kit's print.sh.
import Derived.Test.YtjcjbbcamkkeiaaPx0
import Derived.Test.YtjcjbbcamkkeiaaPx14
import Derived.Test.YtjcjbbcamkkeiaaPx15
import Derived.Test.YtjcjbbcamkkeiaaPx16
import Derived.Test.YtjcjbbcamkkeiaaPx17
import Derived.Test.YtjcjbbcamkkeiaaPx18
import Derived.Test.YtjcjbbcamkkeiaaPx19
import Derived.Test.YtjcjbbcamkkeiaaPx20
namespace Go.Proofs.Ytjcjbbcamkkeiaa.P
open Go.RowKit Go.Proofs.YtjcjbbcamkkeiaaW.PrintWords Go.Proofs.YtjcjbbcamkkeiaaW.PrintLast Go.Proofs.YtjcjbbcamkkeiaaW.PrintMore
attribute [local go_sem] max2_int min2_int max_two min_two max_three min_three max_four min_four   -- for this text's walks alone
set_option linter.unusedVariables false
set_option linter.unusedSimpArgs false

/-! ### cutroomlaw28_LoudnessPowers: function 3 -/
def cutroomlaw28_LoudnessPowers.l0 : Nat → List (List (List Int)) → Int → Int → Option (Bool)
 | 0, _, _, _ => none
 | k + 1, x16, x17, x18 => if x18 < x17 then (if 0 ≤ x18 then (if x18 < (x16.length : Int) then ((loudness_Powers.f k (rd_L3 x16 x18)).bind fun bt208 => ((cutroomref28_Powers.f k (rd_L3 x16 x18)).bind fun bt212 => (if bt208.2 = bt212.2 then ((cutroomlaw28_ints.f k bt208.1 bt212.1).bind fun t216 => (if t216 = true then ((loudness_Peak.f k (rd_L3 x16 x18)).bind fun t217 => ((cutroomref28_Peak.f k (rd_L3 x16 x18)).bind fun t218 => (if t217 = t218 then (cutroomlaw28_LoudnessPowers.l0 k x16 x17 (wrap64 (x18 + 1))) else (some false)))) else (some false))) else (some false)))) else (none)) else (none)) else ((cutroomlaw28_awake.f k).bind fun t206 => (some t206))
def cutroomlaw28_LoudnessPowers.f (k : Nat) (l0 : List (List Int)) (l1 : List Int) : Option (Bool) := (cutroomlaw28_made.f k l1 32767).bind fun t197 => ((cutroomlaw28_made.f k l1 300).bind fun t200 => ((some (([l0, t197, t200] : List (List (List Int))) : List (List (List Int)))).bind fun y203 => (cutroomlaw28_LoudnessPowers.l0 k y203 (y203.length : Int) 0)))
theorem cutroomlaw28_LoudnessPowers.mono_l : ∀ k, (∀ y0 y1 y2, LeO (cutroomlaw28_LoudnessPowers.l0 k y0 y1 y2) (cutroomlaw28_LoudnessPowers.l0 (k + 1) y0 y1 y2))
 | 0 => fun _ _ _ r h => by simp [cutroomlaw28_LoudnessPowers.l0] at h
 | k + 1 => by
  have ih0 := cutroomlaw28_LoudnessPowers.mono_l k
  ·intro y0 y1 y2
   unfold cutroomlaw28_LoudnessPowers.l0
   repeat' first
   | (with_reducible exact ih0 _ _ _)
   | (with_reducible exact cutroomlaw28_awake.mono _)
   | (with_reducible exact cutroomlaw28_ints.mono _ _ _)
   | (with_reducible exact cutroomlaw28_made.mono _ _ _)
   | (with_reducible exact cutroomref28_Peak.mono _ _)
   | (with_reducible exact cutroomref28_Powers.mono _ _)
   | (with_reducible exact loudness_Peak.mono _ _)
   | (with_reducible exact loudness_Powers.mono _ _)
   | (with_reducible exact LeO.refl _)
   | (with_reducible exact LeO.none _)
   | (with_reducible refine LeO.ite ?_ ?_)
   | (with_reducible refine LeO.bind ?_ (fun _ => ?_))
   | exact ih0 _ _ _
   | exact cutroomlaw28_awake.mono _
   | exact cutroomlaw28_ints.mono _ _ _
   | exact cutroomlaw28_made.mono _ _ _
   | exact cutroomref28_Peak.mono _ _
   | exact cutroomref28_Powers.mono _ _
   | exact loudness_Peak.mono _ _
   | exact loudness_Powers.mono _ _
   | exact LeO.none _
   | refine LeO.ite ?_ ?_
   | refine LeO.bind ?_ (fun _ => ?_)
theorem cutroomlaw28_LoudnessPowers.mono : ∀ a0 a1 k, LeO (cutroomlaw28_LoudnessPowers.f k a0 a1) (cutroomlaw28_LoudnessPowers.f (k + 1) a0 a1) := by
 intro a0 a1 k
 have ih0 := cutroomlaw28_LoudnessPowers.mono_l k
 unfold cutroomlaw28_LoudnessPowers.f
 repeat' first
   | (with_reducible exact ih0 _ _ _)
   | (with_reducible exact cutroomlaw28_awake.mono _)
   | (with_reducible exact cutroomlaw28_ints.mono _ _ _)
   | (with_reducible exact cutroomlaw28_made.mono _ _ _)
   | (with_reducible exact cutroomref28_Peak.mono _ _)
   | (with_reducible exact cutroomref28_Powers.mono _ _)
   | (with_reducible exact loudness_Peak.mono _ _)
   | (with_reducible exact loudness_Powers.mono _ _)
   | (with_reducible exact LeO.refl _)
   | (with_reducible exact LeO.none _)
   | (with_reducible refine LeO.ite ?_ ?_)
   | (with_reducible refine LeO.bind ?_ (fun _ => ?_))
   | exact ih0 _ _ _
   | exact cutroomlaw28_awake.mono _
   | exact cutroomlaw28_ints.mono _ _ _
   | exact cutroomlaw28_made.mono _ _ _
   | exact cutroomref28_Peak.mono _ _
   | exact cutroomref28_Powers.mono _ _
   | exact loudness_Peak.mono _ _
   | exact loudness_Powers.mono _ _
   | exact LeO.none _
   | refine LeO.ite ?_ ?_
   | refine LeO.bind ?_ (fun _ => ?_)
set_option maxHeartbeats 8000000 in
set_option maxRecDepth 100000 in
theorem cutroomlaw28_LoudnessPowers.calls (k : Nat) (P0_ : Nat → Prop) (A0 : Option Addr) (c0 : Nat) (l0 : List (List Int)) (A1 : Option Addr) (c1 : Nat) (l1 : List Int) (r : Bool) (w : World) (hs0 : Kd.V (Kd.slice 48 (Kd.int .i16)) 47 w w.heap.size (fun k_ => P0_ k_) (.slice A0 l0.length c0) l0) (hr1 : Kd.C (Kd.int .i64) w A1 l1.length l1) (hc1 : l1.length ≤ c1) (h : cutroomlaw28_LoudnessPowers.f k l0 l1 = some r) :
  Calls Try.prog 3 #[.slice A0 l0.length c0, .slice A1 l1.length c1] w fun e w' => e = .returned (.bool r) ∧ Below w.heap.size w w' := by
 have HO0 := Aside0.mk (show Kd.V (Kd.slice 48 (Kd.int .i16)) 47 w w.heap.size (fun k_ => (P0_ k_ ∨ w.heap.size ≤ k_)) (.slice A0 l0.length c0) l0 from Kd.V_mono hs0 (fun k_ hk => .inl hk))
 have HR1 := Aside0.mk hr1
 have HC1 := Aside0.mk hc1
 clear hr1 hc1
 have HB := Aside0.mk (Below.refl w.heap.size w)
 have H : ((cutroomlaw28_made.f k l1 32767).bind fun t197 => ((cutroomlaw28_made.f k l1 300).bind fun t200 => ((some (([l0, t197, t200] : List (List (List Int))) : List (List (List Int)))).bind fun y203 => (cutroomlaw28_LoudnessPowers.l0 k y203 (y203.length : Int) 0)))) = some r := h
 clear h
 replace H := Option.bind_eq_some_iff.mp H
 obtain ⟨t197, A30, H⟩ := H
 replace H : ((cutroomlaw28_made.f k l1 300).bind fun t200 => ((some (([l0, t197, t200] : List (List (List Int))) : List (List (List Int)))).bind fun y203 => (cutroomlaw28_LoudnessPowers.l0 k y203 (y203.length : Int) 0))) = some r := H
 have A3 := Aside0.mk A30
 clear A30
 replace H := Option.bind_eq_some_iff.mp H
 obtain ⟨t200, A40, H⟩ := H
 replace H : ((some (([l0, t197, t200] : List (List (List Int))) : List (List (List Int)))).bind fun y203 => (cutroomlaw28_LoudnessPowers.l0 k y203 (y203.length : Int) 0)) = some r := H
 have A4 := Aside0.mk A40
 clear A40
 obtain ⟨y203, hy203⟩ : ∃ y_ : List (List (List Int)), y_ = (([l0, t197, t200] : List (List (List Int)))) := ⟨_, rfl⟩
 replace H : (cutroomlaw28_LoudnessPowers.l0 k y203 (y203.length : Int) 0) = some r := by first | (rw [hy203]; with_reducible exact H) | (have H2_ := (Option.bind_some _ _).symm.trans H; rw [hy203]; with_reducible exact H2_) | (have H2_ := (Option.bind_some _ _).symm.trans H; with_reducible exact H2_) | with_reducible exact H | (rw [hy203]; exact H) | exact H
 have Ny203 := Aside0.mk hy203
 clear hy203
 have H' := Aside0.mk H
 clear H
 go_enter Try.func3, Try.ntmps3
 go_wp2_with (first | ((with_reducible refine gate_callee (f := 13) rfl ?_); refine goesL_ (some 13) rfl rfl Try.func13 (by kernel_rfl) rfl #[.slice A1 l1.length c1, .int .i64 32767] rfl (by (try simp only [List.map_toArray, List.map_cons, List.map_nil]); first | done | rfl | (simp only [List.length_drop, List.length_take]; rfl)) ?_; (with_reducible refine (cutroomlaw28_made.calls k _ _ l1 32767 t197 _ ?side1 ?side2 A3.out).mono ?_); (case side1 => repeat (first | exact HR1.out | (with_reducible refine Kd.C_alloc ?_ _) | (with_reducible refine Kd.C_drewN ?_ _) | (with_reducible refine Kd.C_drew ?_))); (case side2 => exact HC1.out); rintro e w5 ⟨v198, rfl, ho0, hb⟩; refine ⟨_, rfl, ?_⟩; have n0_ := Aside0.mk (Kd.V_elder' (by (with_reducible repeat (first | apply Kd.V_alloc | apply Kd.V_drewN | apply Kd.V_drew)); exact HO0.out) (Kd.N_base (Kd.S_N ho0)) hb); have n1_ := Aside0.mk (Kd.N_lower (Kd.N_mono (ok' := fun k_ => (P0_ k_ ∨ w.heap.size ≤ k_)) (Kd.S_N (Kd.S_bound ho0)) (fun k_ hk_ => (.inr (Nat.le_trans (below_size (by repeat (first | (with_reducible first | exact HB.out | apply below_alloc | apply pw_below_drewN | apply below_drew1) | exact HB.out))) hk_.2.1)))) (below_size (by repeat (first | (with_reducible first | exact HB.out | apply below_alloc | apply pw_below_drewN | apply below_drew1) | exact HB.out)))); have n2_ := Aside0.mk (below_step (by repeat (first | (with_reducible first | exact HB.out | apply below_alloc | apply pw_below_drewN | apply below_drew1) | exact HB.out)) hb); clear HO0; clear HB; have HO0 := n0_; have HO199 := n1_; have HB := n2_; clear n0_ n1_ n2_; (try clear hb); (try clear hb2); (try clear hk); (try clear hi); (try clear ho0)) | ((with_reducible refine gate_callee (f := 13) rfl ?_); refine goesL_ (some 15) rfl rfl Try.func13 (by kernel_rfl) rfl #[.slice A1 l1.length c1, .int .i64 300] rfl (by (try simp only [List.map_toArray, List.map_cons, List.map_nil]); first | done | rfl | (simp only [List.length_drop, List.length_take]; rfl)) ?_; (with_reducible refine (cutroomlaw28_made.calls k _ _ l1 300 t200 _ ?side1 ?side2 A4.out).mono ?_); (case side1 => repeat (first | exact (Kd.C_below HR1.out HB.out) | (with_reducible refine Kd.C_alloc ?_ _) | (with_reducible refine Kd.C_drewN ?_ _) | (with_reducible refine Kd.C_drew ?_))); (case side2 => exact HC1.out); rintro e w6 ⟨v201, rfl, ho0, hb⟩; refine ⟨_, rfl, ?_⟩; have n0_ := Aside0.mk (Kd.V_elder' (by (with_reducible repeat (first | apply Kd.V_alloc | apply Kd.V_drewN | apply Kd.V_drew)); exact HO0.out) (Kd.N_base (Kd.S_N ho0)) hb); have n1_ := Aside0.mk (Kd.N_elder' (by (with_reducible repeat (first | apply Kd.N_alloc | apply Kd.N_drewN | apply Kd.N_drew)); exact HO199.out) (Kd.N_base (Kd.S_N ho0)) hb); have n2_ := Aside0.mk (Kd.N_lower (Kd.N_mono (ok' := fun k_ => (P0_ k_ ∨ w.heap.size ≤ k_) ∧ some k_ ≠ (v198 : Value).ownBlock) (Kd.S_N (Kd.S_bound ho0)) (fun k_ hk_ => ⟨(.inr (Nat.le_trans (below_size (by repeat (first | (with_reducible first | exact HB.out | apply below_alloc | apply pw_below_drewN | apply below_drew1) | exact HB.out))) hk_.2.1)), (Kd.fresh' (Kd.N_lt (by (with_reducible repeat (first | apply Kd.N_alloc | apply Kd.N_drewN | apply Kd.N_drew)); exact HO199.out)) k_ hk_.2.1)⟩)) (below_size (by repeat (first | (with_reducible first | exact HB.out | apply below_alloc | apply pw_below_drewN | apply below_drew1) | exact HB.out)))); have n3_ := Aside0.mk (below_step (by repeat (first | (with_reducible first | exact HB.out | apply below_alloc | apply pw_below_drewN | apply below_drew1) | exact HB.out)) hb); clear HO0; clear HO199; clear HB; have HO0 := n0_; have HO199 := n1_; have HO202 := n2_; have HB := n3_; clear n0_ n1_ n2_ n3_; (try clear hb); (try clear hb2); (try clear hk); (try clear hi); (try clear ho0); obtain ⟨Ao7, co7, eo7⟩ := Kd.N_slice HO199.out; subst eo7; obtain ⟨Ao8, co8, eo8⟩ := Kd.N_slice HO202.out; subst eo8) | ((with_reducible refine gate_dst (N := 16) rfl ?_); refine Kd.N_lit (Kd.slice 47 (Kd.slice 48 (Kd.int .i16))) _ 22 ?hg (N' := 16) ?hd (xs := ([l0, t197, t200] : List (List (List Int)))) (inner := [.slice A0 l0.length c0, .slice Ao7 t197.length co7, .slice Ao8 t200.length co8]) (ok := (fun k_ => (P0_ k_ ∨ w.heap.size ≤ k_))) (okp := (fun k_ => (P0_ k_ ∨ w.heap.size ≤ k_))) ?hr ?hp (fun _ hk => hk) ((show ∀ k_, w6.heap.size ≤ k_ → (fun k_ => (P0_ k_ ∨ w.heap.size ≤ k_)) k_ from fun k_ hk => (.inr (Nat.le_trans (below_size (by repeat (first | (with_reducible first | exact HB.out | apply below_alloc | apply pw_below_drewN | apply below_drew1) | exact HB.out))) hk))) _ (Nat.le_refl _)) (Below.refl _ _) (Nat.le_refl _) (by simp) ?_; (case hd => rfl); (case hg => rfl); (case hr => first | (go_simp; done) | (go_simp; rfl)); (case hp => exact (Reps.one (show Kd.FK (Kd.slice 47 (Kd.slice 48 (Kd.int .i16))) _ _ l0 [.slice A0 l0.length c0] from (Kd.FK_slice_mk (Kd.V_reads' (Kd.V_mono (ok' := (fun k_ => (P0_ k_ ∨ w.heap.size ≤ k_))) (HO0.out) (fun k_ hk => hk.1.1))).2.1 (Kd.V_F (Kd.V_mono (ok' := (fun k_ => (P0_ k_ ∨ w.heap.size ≤ k_))) (HO0.out) (fun k_ hk => hk.1.1))))) (Reps.one (show Kd.FK (Kd.slice 47 (Kd.slice 48 (Kd.int .i16))) _ _ t197 [.slice Ao7 t197.length co7] from (Kd.FK_slice_mk (Kd.N_reads' (Kd.N_mono (ok' := (fun k_ => (P0_ k_ ∨ w.heap.size ≤ k_))) (HO199.out) (fun k_ hk => hk.1))).2.1 (Kd.N_F (Kd.N_mono (ok' := (fun k_ => (P0_ k_ ∨ w.heap.size ≤ k_))) (HO199.out) (fun k_ hk => hk.1))))) (Reps.one (show Kd.FK (Kd.slice 47 (Kd.slice 48 (Kd.int .i16))) _ _ t200 [.slice Ao8 t200.length co8] from (Kd.FK_slice_mk (Kd.N_reads' (Kd.N_mono (ok' := (fun k_ => (P0_ k_ ∨ w.heap.size ≤ k_))) (HO202.out) (fun k_ hk => hk.1))).2.1 (Kd.N_F (Kd.N_mono (ok' := (fun k_ => (P0_ k_ ∨ w.heap.size ≤ k_))) (HO202.out) (fun k_ hk => hk.1))))) (Reps.none _ _))))); intro v204 w9 ho10 hb hg_ hnew_; clear hg_ hnew_; (first | rw [← Ny203.out] at ho10 | (simp only [Int.reduceToNat] at ho10; rw [← Ny203.out] at ho10)); have n0_ := Aside0.mk (Kd.V_elder' (by (with_reducible repeat (first | apply Kd.V_alloc | apply Kd.V_drewN | apply Kd.V_drew)); exact HO0.out) (Kd.N_base ho10) hb); have n1_ := Aside0.mk (Kd.N_lower ho10 (below_size (by repeat (first | (with_reducible first | exact HB.out | apply below_alloc | apply pw_below_drewN | apply below_drew1) | exact HB.out)))); have n2_ := Aside0.mk (below_step (by repeat (first | (with_reducible first | exact HB.out | apply below_alloc | apply pw_below_drewN | apply below_drew1) | exact HB.out)) hb); clear HO0; clear HB; clear HO199; clear HO202; have HO0 := n0_; have HO205 := n1_; have HB := n2_; clear n0_ n1_ n2_; clear hb ho10; obtain ⟨Ao11, co11, eo11⟩ := Kd.N_slice HO205.out; subst eo11))
 go_loopg [18] k (fun kq v18 w' => ∃ (x18_1 : Int), v18 = .int .i64 x18_1 ∧ Aside0 (cutroomlaw28_LoudnessPowers.l0 kq y203 (y203.length : Int) x18_1 = some r) ∧ Aside0 (kq ≤ k) ∧ Aside0 (Kd.N (Kd.slice 47 (Kd.slice 48 (Kd.int .i16))) 22 w' w.heap.size (fun k_ => (P0_ k_ ∨ w.heap.size ≤ k_)) (.slice Ao11 y203.length co11) y203) ∧ Aside0 (Below w.heap.size w w'))
 case atStart => exact ⟨(0), (by first | rfl | (simp; done) | (simp [*]; done)), H', ⟨Nat.le_refl _⟩, ⟨by (with_reducible repeat (first | apply Kd.N_alloc | apply Kd.N_drewN | apply Kd.N_drew)); exact HO205.out⟩, ⟨by repeat (first | (with_reducible first | exact HB.out | apply below_alloc | apply pw_below_drewN | apply below_drew1) | exact HB.out)⟩⟩
 case round =>
  clear H'
  (try clear c1);(try clear p2);(try clear c3)
  obtain ⟨x18_1, rfl, HA, HK1, HO_16, HB⟩ := hrel
  cases gk with
  | zero => exact absurd HA.out (by simp [cutroomlaw28_LoudnessPowers.l0])
  | succ k1 =>
   have H := HA.out
   clear HA
   simp only [cutroomlaw28_LoudnessPowers.l0] at H
   by_cases c12 : x18_1 < (y203.length : Int)
   ·rw [if_pos c12] at H
    have c12b0 : decide (x18_1 < (y203.length : Int)) = true := decide_eq_true c12
    clear c12
    by_cases c13 : 0 ≤ x18_1
    ·rw [if_pos c13] at H
     have c13b0 : decide (0 ≤ x18_1) = true := decide_eq_true c13
     clear c13
     by_cases c14 : x18_1 < (y203.length : Int)
     ·rw [if_pos c14] at H
      have c14b0 : decide (x18_1 < (y203.length : Int)) = true := decide_eq_true c14
      clear c14
      replace H := Option.bind_eq_some_iff.mp H
      obtain ⟨⟨t208, t209⟩, A150, H⟩ := H
      replace H : ((cutroomref28_Powers.f k1 (rd_L3 y203 x18_1)).bind fun bt212 => (if t209 = bt212.2 then ((cutroomlaw28_ints.f k1 t208 bt212.1).bind fun t216 => (if t216 = true then ((loudness_Peak.f k1 (rd_L3 y203 x18_1)).bind fun t217 => ((cutroomref28_Peak.f k1 (rd_L3 y203 x18_1)).bind fun t218 => (if t217 = t218 then (cutroomlaw28_LoudnessPowers.l0 k1 y203 (y203.length : Int) (wrap64 (x18_1 + 1))) else (some false)))) else (some false))) else (some false))) = some r := H
      have A15 := Aside0.mk A150
      clear A150
      replace H := Option.bind_eq_some_iff.mp H
      obtain ⟨⟨t212, t213⟩, A160, H⟩ := H
      replace H : (if t209 = t213 then ((cutroomlaw28_ints.f k1 t208 t212).bind fun t216 => (if t216 = true then ((loudness_Peak.f k1 (rd_L3 y203 x18_1)).bind fun t217 => ((cutroomref28_Peak.f k1 (rd_L3 y203 x18_1)).bind fun t218 => (if t217 = t218 then (cutroomlaw28_LoudnessPowers.l0 k1 y203 (y203.length : Int) (wrap64 (x18_1 + 1))) else (some false)))) else (some false))) else (some false)) = some r := H
      have A16 := Aside0.mk A160
      clear A160
      by_cases c17 : t209 = t213
      ·rw [if_pos c17] at H
       have c17b0 : (t209 == t213) = true := beq_iff_eq.mpr c17
       have c17b1 : (t209 != t213) = false := bne_eq_false_iff_eq.mpr c17
       clear c17
       replace H := Option.bind_eq_some_iff.mp H
       obtain ⟨t216, A180, H⟩ := H
       replace H : (if t216 = true then ((loudness_Peak.f k1 (rd_L3 y203 x18_1)).bind fun t217 => ((cutroomref28_Peak.f k1 (rd_L3 y203 x18_1)).bind fun t218 => (if t217 = t218 then (cutroomlaw28_LoudnessPowers.l0 k1 y203 (y203.length : Int) (wrap64 (x18_1 + 1))) else (some false)))) else (some false)) = some r := H
       have A18 := Aside0.mk A180
       clear A180
       by_cases c19 : t216 = true
       ·subst c19
        have H1 : ((loudness_Peak.f k1 (rd_L3 y203 x18_1)).bind fun t217 => ((cutroomref28_Peak.f k1 (rd_L3 y203 x18_1)).bind fun t218 => (if t217 = t218 then (cutroomlaw28_LoudnessPowers.l0 k1 y203 (y203.length : Int) (wrap64 (x18_1 + 1))) else (some false)))) = some r := by rw [if_pos rfl] at H; exact H
        clear H
        have H := H1
        clear H1
        replace H := Option.bind_eq_some_iff.mp H
        obtain ⟨t217, A200, H⟩ := H
        replace H : ((cutroomref28_Peak.f k1 (rd_L3 y203 x18_1)).bind fun t218 => (if t217 = t218 then (cutroomlaw28_LoudnessPowers.l0 k1 y203 (y203.length : Int) (wrap64 (x18_1 + 1))) else (some false))) = some r := H
        have A20 := Aside0.mk A200
        clear A200
        replace H := Option.bind_eq_some_iff.mp H
        obtain ⟨t218, A210, H⟩ := H
        replace H : (if t217 = t218 then (cutroomlaw28_LoudnessPowers.l0 k1 y203 (y203.length : Int) (wrap64 (x18_1 + 1))) else (some false)) = some r := H
        have A21 := Aside0.mk A210
        clear A210
        by_cases c22 : t217 = t218
        ·rw [if_pos c22] at H
         have c22b0 : (t217 == t218) = true := beq_iff_eq.mpr c22
         have c22b1 : (t217 != t218) = false := bne_eq_false_iff_eq.mpr c22
         clear c22
         have H' := Aside0.mk H
         clear H
         have p207 : 0 ≤ (x18_1 : Int) := of_decide_eq_true (by first | (with_reducible assumption) | assumption)
         have q207 : x18_1 < (y203.length : Int) := of_decide_eq_true (by first | (with_reducible assumption) | assumption)
         obtain ⟨ad207, A207_0, c207_0, e207, hx207_0, hl207_0, hi207_0⟩ := at_L3 (Kd.N_reads' HO_16.out).2.2 x18_1 p207 q207
         cases e207
         obtain ⟨ce207, hce207, hMe207, hcc207⟩ := Kd.N_get HO_16.out [] x18_1 p207 (by first | exact q207 | exact of_decide_eq_true (by first | (with_reducible assumption) | assumption) | (have e_ := (Kd.N_reads' HO_16.out).1; omega))
         obtain ⟨ua207_0, uc207_0, rfl, ul207_0, ge207_0⟩ := Kd.FK_slice_open hMe207
         have hv207_0 := hcc207 0 _ rfl
         rw [Nat.add_zero, show ((Kd.slice 47 (Kd.slice 48 (Kd.int .i16)))).sz = 1 from rfl, Nat.mul_one] at hv207_0
         replace hv207_0 := Option.some.inj (hv207_0.symm.trans hx207_0)
         injection hv207_0 with hva_ hvn_ hvc_
         rw [hva_] at ge207_0
         rw [hvc_] at ul207_0
         have HL207_0 := Aside0.mk (show Kd.V (Kd.slice 48 (Kd.int .i16)) 47 _ w.heap.size _ _ (rd_L3 y203 x18_1) from Kd.V_mk ul207_0 ge207_0)
         clear hva_ hvn_ hvc_ ge207_0 ul207_0
         clear hcc207 hce207
         have HR207_0 := Aside0.mk hi207_0
         have HC207_0 := Aside0.mk hl207_0
         clear hi207_0 hl207_0
         replace p207 := eq_true p207
         replace q207 := eq_true q207
         go_wp2_with (first | ((with_reducible refine gate_callee (f := 14) rfl ?_); refine goesL_ (some 24) rfl rfl Try.func14 (by kernel_rfl) rfl #[.slice A207_0 (rd_L3 y203 x18_1).length c207_0] rfl (by (try simp only [List.map_toArray, List.map_cons, List.map_nil]); first | done | rfl | (simp only [List.length_drop, List.length_take]; rfl)) ?_; (with_reducible refine (loudness_Powers.calls k1 _ _ (rd_L3 y203 x18_1) t208 t209 _ ?side1 ?side2 A15.out).mono ?_); (case side1 => repeat (first | exact (by repeat (first | (with_reducible exact HR207_0.out) | (with_reducible refine Kd.C_alloc ?_ _) | (with_reducible refine Kd.C_drewN ?_ _) | (with_reducible refine Kd.C_drew ?_) | exact HR207_0.out)) | (with_reducible refine Kd.C_alloc ?_ _) | (with_reducible refine Kd.C_drewN ?_ _) | (with_reducible refine Kd.C_drew ?_))); (case side2 => exact HC207_0.out); rintro e w23 ⟨v210, rfl, ho0, hb⟩; refine ⟨_, rfl, ?_⟩; have n0_ := Aside0.mk (Kd.N_elder' (by (with_reducible repeat (first | apply Kd.N_alloc | apply Kd.N_drewN | apply Kd.N_drew)); exact HO_16.out) (Kd.R_base ho0) hb); have n1_ := Aside0.mk (Kd.V_elder' (by (with_reducible repeat (first | apply Kd.V_alloc | apply Kd.V_drewN | apply Kd.V_drew)); exact HL207_0.out) (Kd.R_base ho0) hb); have n2_ := Aside0.mk (Kd.R_lower (Kd.R_newM (M := fun k_ => (w.heap.size ≤ k_)) ho0 (below_size (by repeat (first | (with_reducible first | exact HB.out | apply below_alloc | apply pw_below_drewN | apply below_drew1) | exact HB.out))) (fun k_ h_ => h_)) (below_size (by repeat (first | (with_reducible first | exact HB.out | apply below_alloc | apply pw_below_drewN | apply below_drew1) | exact HB.out)))); have n3_ := Aside0.mk (Kd.C_below (by repeat (first | (with_reducible exact HR207_0.out) | (with_reducible refine Kd.C_alloc ?_ _) | (with_reducible refine Kd.C_drewN ?_ _) | (with_reducible refine Kd.C_drew ?_) | exact HR207_0.out)) hb); have n4_ := Aside0.mk (below_step (by repeat (first | (with_reducible first | exact HB.out | apply below_alloc | apply pw_below_drewN | apply below_drew1) | exact HB.out)) hb); clear HO_16; clear HL207_0; clear HR207_0; clear HB; have HO_16 := n0_; have HL207_0 := n1_; have HO211 := n2_; have HR207_0 := n3_; have HB := n4_; clear n0_ n1_ n2_ n3_ n4_; (try clear hb); (try clear hb2); (try clear hk); (try clear hi); (try clear ho0)) | ((with_reducible refine gate_callee (f := 15) rfl ?_); refine goesL_ (some 29) rfl rfl Try.func15 (by kernel_rfl) rfl #[.slice A207_0 (rd_L3 y203 x18_1).length c207_0] rfl (by (try simp only [List.map_toArray, List.map_cons, List.map_nil]); first | done | rfl | (simp only [List.length_drop, List.length_take]; rfl)) ?_; (with_reducible refine (cutroomref28_Powers.calls k1 _ _ (rd_L3 y203 x18_1) t212 t213 _ ?side1 ?side2 A16.out).mono ?_); (case side1 => repeat (first | exact (by repeat (first | (with_reducible exact HR207_0.out) | (with_reducible refine Kd.C_alloc ?_ _) | (with_reducible refine Kd.C_drewN ?_ _) | (with_reducible refine Kd.C_drew ?_) | exact HR207_0.out)) | (with_reducible refine Kd.C_alloc ?_ _) | (with_reducible refine Kd.C_drewN ?_ _) | (with_reducible refine Kd.C_drew ?_))); (case side2 => exact HC207_0.out); rintro e w24 ⟨v214, rfl, ho0, hb⟩; refine ⟨_, rfl, ?_⟩; have n0_ := Aside0.mk (Kd.N_elder' (by (with_reducible repeat (first | apply Kd.N_alloc | apply Kd.N_drewN | apply Kd.N_drew)); exact HO_16.out) (Kd.R_base ho0) hb); have n1_ := Aside0.mk (Kd.V_elder' (by (with_reducible repeat (first | apply Kd.V_alloc | apply Kd.V_drewN | apply Kd.V_drew)); exact HL207_0.out) (Kd.R_base ho0) hb); have n2_ := Aside0.mk (Kd.R_elder' (by (with_reducible repeat (first | apply Kd.R_alloc | apply Kd.R_drewN | apply Kd.R_drew)); exact HO211.out) (Kd.R_base ho0) hb); have n3_ := Aside0.mk (Kd.R_lower (Kd.R_new' (Kd.R_newM (M := fun k_ => (w.heap.size ≤ k_)) ho0 (below_size (by repeat (first | (with_reducible first | exact HB.out | apply below_alloc | apply pw_below_drewN | apply below_drew1) | exact HB.out))) (fun k_ h_ => h_)) (Kd.R_lt (by (with_reducible repeat (first | apply Kd.R_alloc | apply Kd.R_drewN | apply Kd.R_drew)); exact HO211.out))) (below_size (by repeat (first | (with_reducible first | exact HB.out | apply below_alloc | apply pw_below_drewN | apply below_drew1) | exact HB.out)))); have n4_ := Aside0.mk (Kd.C_below (by repeat (first | (with_reducible exact HR207_0.out) | (with_reducible refine Kd.C_alloc ?_ _) | (with_reducible refine Kd.C_drewN ?_ _) | (with_reducible refine Kd.C_drew ?_) | exact HR207_0.out)) hb); have n5_ := Aside0.mk (below_step (by repeat (first | (with_reducible first | exact HB.out | apply below_alloc | apply pw_below_drewN | apply below_drew1) | exact HB.out)) hb); clear HO_16; clear HL207_0; clear HO211; clear HR207_0; clear HB; have HO_16 := n0_; have HL207_0 := n1_; have HO211 := n2_; have HO215 := n3_; have HR207_0 := n4_; have HB := n5_; clear n0_ n1_ n2_ n3_ n4_ n5_; (try clear hb); (try clear hb2); (try clear hk); (try clear hi); (try clear ho0); obtain ⟨Ao25, co25, eo25⟩ := Kd.R_slice HO211.out; subst eo25; obtain ⟨Ao26, co26, eo26⟩ := Kd.R_slice HO215.out; subst eo26) | (go_at_call 16; (with_reducible refine (cutroomlaw28_ints.calls k1 _ _ t208 _ _ t212 true _ ?side1 ?side2 ?side3 ?side4 A18.out).mono ?_); (case side1 => repeat (first | exact (Kd.R_reads' HO211.out).2.2 | (with_reducible refine Kd.C_alloc ?_ _) | (with_reducible refine Kd.C_drewN ?_ _) | (with_reducible refine Kd.C_drew ?_))); (case side2 => exact (Kd.R_reads' HO211.out).2.1); (case side3 => repeat (first | exact (Kd.R_reads' HO215.out).2.2 | (with_reducible refine Kd.C_alloc ?_ _) | (with_reducible refine Kd.C_drewN ?_ _) | (with_reducible refine Kd.C_drew ?_))); (case side4 => exact (Kd.R_reads' HO215.out).2.1); rintro e w' ⟨rfl, ⟨nd, rfl⟩⟩) | (go_at_call 17; (with_reducible refine (loudness_Peak.calls k1 _ _ (rd_L3 y203 x18_1) t217 _ ?side1 ?side2 A20.out).mono ?_); (case side1 => repeat (first | exact (by repeat (first | (with_reducible exact HR207_0.out) | (with_reducible refine Kd.C_alloc ?_ _) | (with_reducible refine Kd.C_drewN ?_ _) | (with_reducible refine Kd.C_drew ?_) | exact HR207_0.out)) | (with_reducible refine Kd.C_alloc ?_ _) | (with_reducible refine Kd.C_drewN ?_ _) | (with_reducible refine Kd.C_drew ?_))); (case side2 => exact HC207_0.out); rintro e w27 ⟨rfl, hb⟩; have n0_ := Aside0.mk (Kd.N_below (by (with_reducible repeat (first | apply Kd.N_alloc | apply Kd.N_drewN | apply Kd.N_drew)); exact HO_16.out) hb); have n1_ := Aside0.mk (Kd.V_below (by (with_reducible repeat (first | apply Kd.V_alloc | apply Kd.V_drewN | apply Kd.V_drew)); exact HL207_0.out) hb); have n2_ := Aside0.mk (Kd.R_below (by (with_reducible repeat (first | apply Kd.R_alloc | apply Kd.R_drewN | apply Kd.R_drew)); exact HO211.out) hb); have n3_ := Aside0.mk (Kd.R_below (by (with_reducible repeat (first | apply Kd.R_alloc | apply Kd.R_drewN | apply Kd.R_drew)); exact HO215.out) hb); have n4_ := Aside0.mk (Kd.C_below (by repeat (first | (with_reducible exact HR207_0.out) | (with_reducible refine Kd.C_alloc ?_ _) | (with_reducible refine Kd.C_drewN ?_ _) | (with_reducible refine Kd.C_drew ?_) | exact HR207_0.out)) hb); have n5_ := Aside0.mk (below_step (by repeat (first | (with_reducible first | exact HB.out | apply below_alloc | apply pw_below_drewN | apply below_drew1) | exact HB.out)) hb); clear HO_16; clear HL207_0; clear HO211; clear HO215; clear HR207_0; clear HB; have HO_16 := n0_; have HL207_0 := n1_; have HO211 := n2_; have HO215 := n3_; have HR207_0 := n4_; have HB := n5_; clear n0_ n1_ n2_ n3_ n4_ n5_; (try clear hb); (try clear hb2); (try clear hk); (try clear hi)) | (go_at_call 18; (with_reducible refine (cutroomref28_Peak.calls k1 _ _ (rd_L3 y203 x18_1) t218 _ ?side1 ?side2 A21.out).mono ?_); (case side1 => repeat (first | exact (by repeat (first | (with_reducible exact HR207_0.out) | (with_reducible refine Kd.C_alloc ?_ _) | (with_reducible refine Kd.C_drewN ?_ _) | (with_reducible refine Kd.C_drew ?_) | exact HR207_0.out)) | (with_reducible refine Kd.C_alloc ?_ _) | (with_reducible refine Kd.C_drewN ?_ _) | (with_reducible refine Kd.C_drew ?_))); (case side2 => exact HC207_0.out); rintro e w28 ⟨rfl, hb⟩; have n0_ := Aside0.mk (Kd.N_below (by (with_reducible repeat (first | apply Kd.N_alloc | apply Kd.N_drewN | apply Kd.N_drew)); exact HO_16.out) hb); have n1_ := Aside0.mk (Kd.V_below (by (with_reducible repeat (first | apply Kd.V_alloc | apply Kd.V_drewN | apply Kd.V_drew)); exact HL207_0.out) hb); have n2_ := Aside0.mk (Kd.R_below (by (with_reducible repeat (first | apply Kd.R_alloc | apply Kd.R_drewN | apply Kd.R_drew)); exact HO211.out) hb); have n3_ := Aside0.mk (Kd.R_below (by (with_reducible repeat (first | apply Kd.R_alloc | apply Kd.R_drewN | apply Kd.R_drew)); exact HO215.out) hb); have n4_ := Aside0.mk (Kd.C_below (by repeat (first | (with_reducible exact HR207_0.out) | (with_reducible refine Kd.C_alloc ?_ _) | (with_reducible refine Kd.C_drewN ?_ _) | (with_reducible refine Kd.C_drew ?_) | exact HR207_0.out)) hb); have n5_ := Aside0.mk (below_step (by repeat (first | (with_reducible first | exact HB.out | apply below_alloc | apply pw_below_drewN | apply below_drew1) | exact HB.out)) hb); clear HO_16; clear HL207_0; clear HO211; clear HO215; clear HR207_0; clear HB; have HO_16 := n0_; have HL207_0 := n1_; have HO211 := n2_; have HO215 := n3_; have HR207_0 := n4_; have HB := n5_; clear n0_ n1_ n2_ n3_ n4_ n5_; (try clear hb); (try clear hb2); (try clear hk); (try clear hi)))
         go_roundg k1
         case measure => have := HK1.out; omega
         case rel => exact ⟨(wrap64 (x18_1 + 1)), (by first | rfl | (simp; done) | (simp [*]; done)), H', ⟨by have := HK1.out; omega⟩, ⟨by (with_reducible repeat (first | apply Kd.N_alloc | apply Kd.N_drewN | apply Kd.N_drew)); exact Kd.N_mono HO_16.out (fun _ hk => hk.1.1)⟩, ⟨by repeat (first | (with_reducible first | exact HB.out | apply below_alloc | apply pw_below_drewN | apply below_drew1) | exact HB.out)⟩⟩
        ·rw [if_neg c22] at H
         have c22b0 : (t217 == t218) = false := beq_eq_false_iff_ne.mpr c22
         have c22b1 : (t217 != t218) = true := bne_iff_ne.mpr c22
         obtain rfl := Option.some.inj H
         have p207 : 0 ≤ (x18_1 : Int) := of_decide_eq_true (by first | (with_reducible assumption) | assumption)
         have q207 : x18_1 < (y203.length : Int) := of_decide_eq_true (by first | (with_reducible assumption) | assumption)
         obtain ⟨ad207, A207_0, c207_0, e207, hx207_0, hl207_0, hi207_0⟩ := at_L3 (Kd.N_reads' HO_16.out).2.2 x18_1 p207 q207
         cases e207
         obtain ⟨ce207, hce207, hMe207, hcc207⟩ := Kd.N_get HO_16.out [] x18_1 p207 (by first | exact q207 | exact of_decide_eq_true (by first | (with_reducible assumption) | assumption) | (have e_ := (Kd.N_reads' HO_16.out).1; omega))
         obtain ⟨ua207_0, uc207_0, rfl, ul207_0, ge207_0⟩ := Kd.FK_slice_open hMe207
         have hv207_0 := hcc207 0 _ rfl
         rw [Nat.add_zero, show ((Kd.slice 47 (Kd.slice 48 (Kd.int .i16)))).sz = 1 from rfl, Nat.mul_one] at hv207_0
         replace hv207_0 := Option.some.inj (hv207_0.symm.trans hx207_0)
         injection hv207_0 with hva_ hvn_ hvc_
         rw [hva_] at ge207_0
         rw [hvc_] at ul207_0
         have HL207_0 := Aside0.mk (show Kd.V (Kd.slice 48 (Kd.int .i16)) 47 _ w.heap.size _ _ (rd_L3 y203 x18_1) from Kd.V_mk ul207_0 ge207_0)
         clear hva_ hvn_ hvc_ ge207_0 ul207_0
         clear hcc207 hce207
         have HR207_0 := Aside0.mk hi207_0
         have HC207_0 := Aside0.mk hl207_0
         clear hi207_0 hl207_0
         replace p207 := eq_true p207
         replace q207 := eq_true q207
         go_wp2_with (first | ((with_reducible refine gate_callee (f := 14) rfl ?_); refine goesL_ (some 24) rfl rfl Try.func14 (by kernel_rfl) rfl #[.slice A207_0 (rd_L3 y203 x18_1).length c207_0] rfl (by (try simp only [List.map_toArray, List.map_cons, List.map_nil]); first | done | rfl | (simp only [List.length_drop, List.length_take]; rfl)) ?_; (with_reducible refine (loudness_Powers.calls k1 _ _ (rd_L3 y203 x18_1) t208 t209 _ ?side1 ?side2 A15.out).mono ?_); (case side1 => repeat (first | exact (by repeat (first | (with_reducible exact HR207_0.out) | (with_reducible refine Kd.C_alloc ?_ _) | (with_reducible refine Kd.C_drewN ?_ _) | (with_reducible refine Kd.C_drew ?_) | exact HR207_0.out)) | (with_reducible refine Kd.C_alloc ?_ _) | (with_reducible refine Kd.C_drewN ?_ _) | (with_reducible refine Kd.C_drew ?_))); (case side2 => exact HC207_0.out); rintro e w29 ⟨v210, rfl, ho0, hb⟩; refine ⟨_, rfl, ?_⟩; have n0_ := Aside0.mk (Kd.N_elder' (by (with_reducible repeat (first | apply Kd.N_alloc | apply Kd.N_drewN | apply Kd.N_drew)); exact HO_16.out) (Kd.R_base ho0) hb); have n1_ := Aside0.mk (Kd.V_elder' (by (with_reducible repeat (first | apply Kd.V_alloc | apply Kd.V_drewN | apply Kd.V_drew)); exact HL207_0.out) (Kd.R_base ho0) hb); have n2_ := Aside0.mk (Kd.R_lower (Kd.R_newM (M := fun k_ => (w.heap.size ≤ k_)) ho0 (below_size (by repeat (first | (with_reducible first | exact HB.out | apply below_alloc | apply pw_below_drewN | apply below_drew1) | exact HB.out))) (fun k_ h_ => h_)) (below_size (by repeat (first | (with_reducible first | exact HB.out | apply below_alloc | apply pw_below_drewN | apply below_drew1) | exact HB.out)))); have n3_ := Aside0.mk (Kd.C_below (by repeat (first | (with_reducible exact HR207_0.out) | (with_reducible refine Kd.C_alloc ?_ _) | (with_reducible refine Kd.C_drewN ?_ _) | (with_reducible refine Kd.C_drew ?_) | exact HR207_0.out)) hb); have n4_ := Aside0.mk (below_step (by repeat (first | (with_reducible first | exact HB.out | apply below_alloc | apply pw_below_drewN | apply below_drew1) | exact HB.out)) hb); clear HO_16; clear HL207_0; clear HR207_0; clear HB; have HO_16 := n0_; have HL207_0 := n1_; have HO211 := n2_; have HR207_0 := n3_; have HB := n4_; clear n0_ n1_ n2_ n3_ n4_; (try clear hb); (try clear hb2); (try clear hk); (try clear hi); (try clear ho0)) | ((with_reducible refine gate_callee (f := 15) rfl ?_); refine goesL_ (some 29) rfl rfl Try.func15 (by kernel_rfl) rfl #[.slice A207_0 (rd_L3 y203 x18_1).length c207_0] rfl (by (try simp only [List.map_toArray, List.map_cons, List.map_nil]); first | done | rfl | (simp only [List.length_drop, List.length_take]; rfl)) ?_; (with_reducible refine (cutroomref28_Powers.calls k1 _ _ (rd_L3 y203 x18_1) t212 t213 _ ?side1 ?side2 A16.out).mono ?_); (case side1 => repeat (first | exact (by repeat (first | (with_reducible exact HR207_0.out) | (with_reducible refine Kd.C_alloc ?_ _) | (with_reducible refine Kd.C_drewN ?_ _) | (with_reducible refine Kd.C_drew ?_) | exact HR207_0.out)) | (with_reducible refine Kd.C_alloc ?_ _) | (with_reducible refine Kd.C_drewN ?_ _) | (with_reducible refine Kd.C_drew ?_))); (case side2 => exact HC207_0.out); rintro e w30 ⟨v214, rfl, ho0, hb⟩; refine ⟨_, rfl, ?_⟩; have n0_ := Aside0.mk (Kd.N_elder' (by (with_reducible repeat (first | apply Kd.N_alloc | apply Kd.N_drewN | apply Kd.N_drew)); exact HO_16.out) (Kd.R_base ho0) hb); have n1_ := Aside0.mk (Kd.V_elder' (by (with_reducible repeat (first | apply Kd.V_alloc | apply Kd.V_drewN | apply Kd.V_drew)); exact HL207_0.out) (Kd.R_base ho0) hb); have n2_ := Aside0.mk (Kd.R_elder' (by (with_reducible repeat (first | apply Kd.R_alloc | apply Kd.R_drewN | apply Kd.R_drew)); exact HO211.out) (Kd.R_base ho0) hb); have n3_ := Aside0.mk (Kd.R_lower (Kd.R_new' (Kd.R_newM (M := fun k_ => (w.heap.size ≤ k_)) ho0 (below_size (by repeat (first | (with_reducible first | exact HB.out | apply below_alloc | apply pw_below_drewN | apply below_drew1) | exact HB.out))) (fun k_ h_ => h_)) (Kd.R_lt (by (with_reducible repeat (first | apply Kd.R_alloc | apply Kd.R_drewN | apply Kd.R_drew)); exact HO211.out))) (below_size (by repeat (first | (with_reducible first | exact HB.out | apply below_alloc | apply pw_below_drewN | apply below_drew1) | exact HB.out)))); have n4_ := Aside0.mk (Kd.C_below (by repeat (first | (with_reducible exact HR207_0.out) | (with_reducible refine Kd.C_alloc ?_ _) | (with_reducible refine Kd.C_drewN ?_ _) | (with_reducible refine Kd.C_drew ?_) | exact HR207_0.out)) hb); have n5_ := Aside0.mk (below_step (by repeat (first | (with_reducible first | exact HB.out | apply below_alloc | apply pw_below_drewN | apply below_drew1) | exact HB.out)) hb); clear HO_16; clear HL207_0; clear HO211; clear HR207_0; clear HB; have HO_16 := n0_; have HL207_0 := n1_; have HO211 := n2_; have HO215 := n3_; have HR207_0 := n4_; have HB := n5_; clear n0_ n1_ n2_ n3_ n4_ n5_; (try clear hb); (try clear hb2); (try clear hk); (try clear hi); (try clear ho0); obtain ⟨Ao31, co31, eo31⟩ := Kd.R_slice HO211.out; subst eo31; obtain ⟨Ao32, co32, eo32⟩ := Kd.R_slice HO215.out; subst eo32) | (go_at_call 16; (with_reducible refine (cutroomlaw28_ints.calls k1 _ _ t208 _ _ t212 true _ ?side1 ?side2 ?side3 ?side4 A18.out).mono ?_); (case side1 => repeat (first | exact (Kd.R_reads' HO211.out).2.2 | (with_reducible refine Kd.C_alloc ?_ _) | (with_reducible refine Kd.C_drewN ?_ _) | (with_reducible refine Kd.C_drew ?_))); (case side2 => exact (Kd.R_reads' HO211.out).2.1); (case side3 => repeat (first | exact (Kd.R_reads' HO215.out).2.2 | (with_reducible refine Kd.C_alloc ?_ _) | (with_reducible refine Kd.C_drewN ?_ _) | (with_reducible refine Kd.C_drew ?_))); (case side4 => exact (Kd.R_reads' HO215.out).2.1); rintro e w' ⟨rfl, ⟨nd, rfl⟩⟩) | (go_at_call 17; (with_reducible refine (loudness_Peak.calls k1 _ _ (rd_L3 y203 x18_1) t217 _ ?side1 ?side2 A20.out).mono ?_); (case side1 => repeat (first | exact (by repeat (first | (with_reducible exact HR207_0.out) | (with_reducible refine Kd.C_alloc ?_ _) | (with_reducible refine Kd.C_drewN ?_ _) | (with_reducible refine Kd.C_drew ?_) | exact HR207_0.out)) | (with_reducible refine Kd.C_alloc ?_ _) | (with_reducible refine Kd.C_drewN ?_ _) | (with_reducible refine Kd.C_drew ?_))); (case side2 => exact HC207_0.out); rintro e w33 ⟨rfl, hb⟩; have n0_ := Aside0.mk (Kd.N_below (by (with_reducible repeat (first | apply Kd.N_alloc | apply Kd.N_drewN | apply Kd.N_drew)); exact HO_16.out) hb); have n1_ := Aside0.mk (Kd.V_below (by (with_reducible repeat (first | apply Kd.V_alloc | apply Kd.V_drewN | apply Kd.V_drew)); exact HL207_0.out) hb); have n2_ := Aside0.mk (Kd.R_below (by (with_reducible repeat (first | apply Kd.R_alloc | apply Kd.R_drewN | apply Kd.R_drew)); exact HO211.out) hb); have n3_ := Aside0.mk (Kd.R_below (by (with_reducible repeat (first | apply Kd.R_alloc | apply Kd.R_drewN | apply Kd.R_drew)); exact HO215.out) hb); have n4_ := Aside0.mk (Kd.C_below (by repeat (first | (with_reducible exact HR207_0.out) | (with_reducible refine Kd.C_alloc ?_ _) | (with_reducible refine Kd.C_drewN ?_ _) | (with_reducible refine Kd.C_drew ?_) | exact HR207_0.out)) hb); have n5_ := Aside0.mk (below_step (by repeat (first | (with_reducible first | exact HB.out | apply below_alloc | apply pw_below_drewN | apply below_drew1) | exact HB.out)) hb); clear HO_16; clear HL207_0; clear HO211; clear HO215; clear HR207_0; clear HB; have HO_16 := n0_; have HL207_0 := n1_; have HO211 := n2_; have HO215 := n3_; have HR207_0 := n4_; have HB := n5_; clear n0_ n1_ n2_ n3_ n4_ n5_; (try clear hb); (try clear hb2); (try clear hk); (try clear hi)) | (go_at_call 18; (with_reducible refine (cutroomref28_Peak.calls k1 _ _ (rd_L3 y203 x18_1) t218 _ ?side1 ?side2 A21.out).mono ?_); (case side1 => repeat (first | exact (by repeat (first | (with_reducible exact HR207_0.out) | (with_reducible refine Kd.C_alloc ?_ _) | (with_reducible refine Kd.C_drewN ?_ _) | (with_reducible refine Kd.C_drew ?_) | exact HR207_0.out)) | (with_reducible refine Kd.C_alloc ?_ _) | (with_reducible refine Kd.C_drewN ?_ _) | (with_reducible refine Kd.C_drew ?_))); (case side2 => exact HC207_0.out); rintro e w34 ⟨rfl, hb⟩; have n0_ := Aside0.mk (Kd.N_below (by (with_reducible repeat (first | apply Kd.N_alloc | apply Kd.N_drewN | apply Kd.N_drew)); exact HO_16.out) hb); have n1_ := Aside0.mk (Kd.V_below (by (with_reducible repeat (first | apply Kd.V_alloc | apply Kd.V_drewN | apply Kd.V_drew)); exact HL207_0.out) hb); have n2_ := Aside0.mk (Kd.R_below (by (with_reducible repeat (first | apply Kd.R_alloc | apply Kd.R_drewN | apply Kd.R_drew)); exact HO211.out) hb); have n3_ := Aside0.mk (Kd.R_below (by (with_reducible repeat (first | apply Kd.R_alloc | apply Kd.R_drewN | apply Kd.R_drew)); exact HO215.out) hb); have n4_ := Aside0.mk (Kd.C_below (by repeat (first | (with_reducible exact HR207_0.out) | (with_reducible refine Kd.C_alloc ?_ _) | (with_reducible refine Kd.C_drewN ?_ _) | (with_reducible refine Kd.C_drew ?_) | exact HR207_0.out)) hb); have n5_ := Aside0.mk (below_step (by repeat (first | (with_reducible first | exact HB.out | apply below_alloc | apply pw_below_drewN | apply below_drew1) | exact HB.out)) hb); clear HO_16; clear HL207_0; clear HO211; clear HO215; clear HR207_0; clear HB; have HO_16 := n0_; have HL207_0 := n1_; have HO211 := n2_; have HO215 := n3_; have HR207_0 := n4_; have HB := n5_; clear n0_ n1_ n2_ n3_ n4_ n5_; (try clear hb); (try clear hb2); (try clear hk); (try clear hi)))
         go_ret
         exact ⟨by first | rfl | (simp [errW_none, errW_some] <;> rfl) | (simp [*, errW_none, errW_some] <;> rfl), by repeat (first | (with_reducible first | exact HB.out | apply below_alloc | apply pw_below_drewN | apply below_drew1) | exact HB.out)⟩
       ·replace c19 := Bool.eq_false_iff.mpr c19
        subst c19
        have H1 : (some false) = some r := by rw [if_neg (show ¬ (false = true) by decide)] at H; exact H
        clear H
        have H := H1
        clear H1
        obtain rfl := Option.some.inj H
        have p207 : 0 ≤ (x18_1 : Int) := of_decide_eq_true (by first | (with_reducible assumption) | assumption)
        have q207 : x18_1 < (y203.length : Int) := of_decide_eq_true (by first | (with_reducible assumption) | assumption)
        obtain ⟨ad207, A207_0, c207_0, e207, hx207_0, hl207_0, hi207_0⟩ := at_L3 (Kd.N_reads' HO_16.out).2.2 x18_1 p207 q207
        cases e207
        obtain ⟨ce207, hce207, hMe207, hcc207⟩ := Kd.N_get HO_16.out [] x18_1 p207 (by first | exact q207 | exact of_decide_eq_true (by first | (with_reducible assumption) | assumption) | (have e_ := (Kd.N_reads' HO_16.out).1; omega))
        obtain ⟨ua207_0, uc207_0, rfl, ul207_0, ge207_0⟩ := Kd.FK_slice_open hMe207
        have hv207_0 := hcc207 0 _ rfl
        rw [Nat.add_zero, show ((Kd.slice 47 (Kd.slice 48 (Kd.int .i16)))).sz = 1 from rfl, Nat.mul_one] at hv207_0
        replace hv207_0 := Option.some.inj (hv207_0.symm.trans hx207_0)
        injection hv207_0 with hva_ hvn_ hvc_
        rw [hva_] at ge207_0
        rw [hvc_] at ul207_0
        have HL207_0 := Aside0.mk (show Kd.V (Kd.slice 48 (Kd.int .i16)) 47 _ w.heap.size _ _ (rd_L3 y203 x18_1) from Kd.V_mk ul207_0 ge207_0)
        clear hva_ hvn_ hvc_ ge207_0 ul207_0
        clear hcc207 hce207
        have HR207_0 := Aside0.mk hi207_0
        have HC207_0 := Aside0.mk hl207_0
        clear hi207_0 hl207_0
        replace p207 := eq_true p207
        replace q207 := eq_true q207
        go_wp2_with (first | ((with_reducible refine gate_callee (f := 14) rfl ?_); refine goesL_ (some 24) rfl rfl Try.func14 (by kernel_rfl) rfl #[.slice A207_0 (rd_L3 y203 x18_1).length c207_0] rfl (by (try simp only [List.map_toArray, List.map_cons, List.map_nil]); first | done | rfl | (simp only [List.length_drop, List.length_take]; rfl)) ?_; (with_reducible refine (loudness_Powers.calls k1 _ _ (rd_L3 y203 x18_1) t208 t209 _ ?side1 ?side2 A15.out).mono ?_); (case side1 => repeat (first | exact (by repeat (first | (with_reducible exact HR207_0.out) | (with_reducible refine Kd.C_alloc ?_ _) | (with_reducible refine Kd.C_drewN ?_ _) | (with_reducible refine Kd.C_drew ?_) | exact HR207_0.out)) | (with_reducible refine Kd.C_alloc ?_ _) | (with_reducible refine Kd.C_drewN ?_ _) | (with_reducible refine Kd.C_drew ?_))); (case side2 => exact HC207_0.out); rintro e w35 ⟨v210, rfl, ho0, hb⟩; refine ⟨_, rfl, ?_⟩; have n0_ := Aside0.mk (Kd.N_elder' (by (with_reducible repeat (first | apply Kd.N_alloc | apply Kd.N_drewN | apply Kd.N_drew)); exact HO_16.out) (Kd.R_base ho0) hb); have n1_ := Aside0.mk (Kd.V_elder' (by (with_reducible repeat (first | apply Kd.V_alloc | apply Kd.V_drewN | apply Kd.V_drew)); exact HL207_0.out) (Kd.R_base ho0) hb); have n2_ := Aside0.mk (Kd.R_lower (Kd.R_newM (M := fun k_ => (w.heap.size ≤ k_)) ho0 (below_size (by repeat (first | (with_reducible first | exact HB.out | apply below_alloc | apply pw_below_drewN | apply below_drew1) | exact HB.out))) (fun k_ h_ => h_)) (below_size (by repeat (first | (with_reducible first | exact HB.out | apply below_alloc | apply pw_below_drewN | apply below_drew1) | exact HB.out)))); have n3_ := Aside0.mk (Kd.C_below (by repeat (first | (with_reducible exact HR207_0.out) | (with_reducible refine Kd.C_alloc ?_ _) | (with_reducible refine Kd.C_drewN ?_ _) | (with_reducible refine Kd.C_drew ?_) | exact HR207_0.out)) hb); have n4_ := Aside0.mk (below_step (by repeat (first | (with_reducible first | exact HB.out | apply below_alloc | apply pw_below_drewN | apply below_drew1) | exact HB.out)) hb); clear HO_16; clear HL207_0; clear HR207_0; clear HB; have HO_16 := n0_; have HL207_0 := n1_; have HO211 := n2_; have HR207_0 := n3_; have HB := n4_; clear n0_ n1_ n2_ n3_ n4_; (try clear hb); (try clear hb2); (try clear hk); (try clear hi); (try clear ho0)) | ((with_reducible refine gate_callee (f := 15) rfl ?_); refine goesL_ (some 29) rfl rfl Try.func15 (by kernel_rfl) rfl #[.slice A207_0 (rd_L3 y203 x18_1).length c207_0] rfl (by (try simp only [List.map_toArray, List.map_cons, List.map_nil]); first | done | rfl | (simp only [List.length_drop, List.length_take]; rfl)) ?_; (with_reducible refine (cutroomref28_Powers.calls k1 _ _ (rd_L3 y203 x18_1) t212 t213 _ ?side1 ?side2 A16.out).mono ?_); (case side1 => repeat (first | exact (by repeat (first | (with_reducible exact HR207_0.out) | (with_reducible refine Kd.C_alloc ?_ _) | (with_reducible refine Kd.C_drewN ?_ _) | (with_reducible refine Kd.C_drew ?_) | exact HR207_0.out)) | (with_reducible refine Kd.C_alloc ?_ _) | (with_reducible refine Kd.C_drewN ?_ _) | (with_reducible refine Kd.C_drew ?_))); (case side2 => exact HC207_0.out); rintro e w36 ⟨v214, rfl, ho0, hb⟩; refine ⟨_, rfl, ?_⟩; have n0_ := Aside0.mk (Kd.N_elder' (by (with_reducible repeat (first | apply Kd.N_alloc | apply Kd.N_drewN | apply Kd.N_drew)); exact HO_16.out) (Kd.R_base ho0) hb); have n1_ := Aside0.mk (Kd.V_elder' (by (with_reducible repeat (first | apply Kd.V_alloc | apply Kd.V_drewN | apply Kd.V_drew)); exact HL207_0.out) (Kd.R_base ho0) hb); have n2_ := Aside0.mk (Kd.R_elder' (by (with_reducible repeat (first | apply Kd.R_alloc | apply Kd.R_drewN | apply Kd.R_drew)); exact HO211.out) (Kd.R_base ho0) hb); have n3_ := Aside0.mk (Kd.R_lower (Kd.R_new' (Kd.R_newM (M := fun k_ => (w.heap.size ≤ k_)) ho0 (below_size (by repeat (first | (with_reducible first | exact HB.out | apply below_alloc | apply pw_below_drewN | apply below_drew1) | exact HB.out))) (fun k_ h_ => h_)) (Kd.R_lt (by (with_reducible repeat (first | apply Kd.R_alloc | apply Kd.R_drewN | apply Kd.R_drew)); exact HO211.out))) (below_size (by repeat (first | (with_reducible first | exact HB.out | apply below_alloc | apply pw_below_drewN | apply below_drew1) | exact HB.out)))); have n4_ := Aside0.mk (Kd.C_below (by repeat (first | (with_reducible exact HR207_0.out) | (with_reducible refine Kd.C_alloc ?_ _) | (with_reducible refine Kd.C_drewN ?_ _) | (with_reducible refine Kd.C_drew ?_) | exact HR207_0.out)) hb); have n5_ := Aside0.mk (below_step (by repeat (first | (with_reducible first | exact HB.out | apply below_alloc | apply pw_below_drewN | apply below_drew1) | exact HB.out)) hb); clear HO_16; clear HL207_0; clear HO211; clear HR207_0; clear HB; have HO_16 := n0_; have HL207_0 := n1_; have HO211 := n2_; have HO215 := n3_; have HR207_0 := n4_; have HB := n5_; clear n0_ n1_ n2_ n3_ n4_ n5_; (try clear hb); (try clear hb2); (try clear hk); (try clear hi); (try clear ho0); obtain ⟨Ao37, co37, eo37⟩ := Kd.R_slice HO211.out; subst eo37; obtain ⟨Ao38, co38, eo38⟩ := Kd.R_slice HO215.out; subst eo38) | (go_at_call 16; (with_reducible refine (cutroomlaw28_ints.calls k1 _ _ t208 _ _ t212 false _ ?side1 ?side2 ?side3 ?side4 A18.out).mono ?_); (case side1 => repeat (first | exact (Kd.R_reads' HO211.out).2.2 | (with_reducible refine Kd.C_alloc ?_ _) | (with_reducible refine Kd.C_drewN ?_ _) | (with_reducible refine Kd.C_drew ?_))); (case side2 => exact (Kd.R_reads' HO211.out).2.1); (case side3 => repeat (first | exact (Kd.R_reads' HO215.out).2.2 | (with_reducible refine Kd.C_alloc ?_ _) | (with_reducible refine Kd.C_drewN ?_ _) | (with_reducible refine Kd.C_drew ?_))); (case side4 => exact (Kd.R_reads' HO215.out).2.1); rintro e w' ⟨rfl, ⟨nd, rfl⟩⟩))
        go_ret
        exact ⟨by first | rfl | (simp [errW_none, errW_some] <;> rfl) | (simp [*, errW_none, errW_some] <;> rfl), by repeat (first | (with_reducible first | exact HB.out | apply below_alloc | apply pw_below_drewN | apply below_drew1) | exact HB.out)⟩
      ·rw [if_neg c17] at H
       have c17b0 : (t209 == t213) = false := beq_eq_false_iff_ne.mpr c17
       have c17b1 : (t209 != t213) = true := bne_iff_ne.mpr c17
       obtain rfl := Option.some.inj H
       have p207 : 0 ≤ (x18_1 : Int) := of_decide_eq_true (by first | (with_reducible assumption) | assumption)
       have q207 : x18_1 < (y203.length : Int) := of_decide_eq_true (by first | (with_reducible assumption) | assumption)
       obtain ⟨ad207, A207_0, c207_0, e207, hx207_0, hl207_0, hi207_0⟩ := at_L3 (Kd.N_reads' HO_16.out).2.2 x18_1 p207 q207
       cases e207
       obtain ⟨ce207, hce207, hMe207, hcc207⟩ := Kd.N_get HO_16.out [] x18_1 p207 (by first | exact q207 | exact of_decide_eq_true (by first | (with_reducible assumption) | assumption) | (have e_ := (Kd.N_reads' HO_16.out).1; omega))
       obtain ⟨ua207_0, uc207_0, rfl, ul207_0, ge207_0⟩ := Kd.FK_slice_open hMe207
       have hv207_0 := hcc207 0 _ rfl
       rw [Nat.add_zero, show ((Kd.slice 47 (Kd.slice 48 (Kd.int .i16)))).sz = 1 from rfl, Nat.mul_one] at hv207_0
       replace hv207_0 := Option.some.inj (hv207_0.symm.trans hx207_0)
       injection hv207_0 with hva_ hvn_ hvc_
       rw [hva_] at ge207_0
       rw [hvc_] at ul207_0
       have HL207_0 := Aside0.mk (show Kd.V (Kd.slice 48 (Kd.int .i16)) 47 _ w.heap.size _ _ (rd_L3 y203 x18_1) from Kd.V_mk ul207_0 ge207_0)
       clear hva_ hvn_ hvc_ ge207_0 ul207_0
       clear hcc207 hce207
       have HR207_0 := Aside0.mk hi207_0
       have HC207_0 := Aside0.mk hl207_0
       clear hi207_0 hl207_0
       replace p207 := eq_true p207
       replace q207 := eq_true q207
       go_wp2_with (first | ((with_reducible refine gate_callee (f := 14) rfl ?_); refine goesL_ (some 24) rfl rfl Try.func14 (by kernel_rfl) rfl #[.slice A207_0 (rd_L3 y203 x18_1).length c207_0] rfl (by (try simp only [List.map_toArray, List.map_cons, List.map_nil]); first | done | rfl | (simp only [List.length_drop, List.length_take]; rfl)) ?_; (with_reducible refine (loudness_Powers.calls k1 _ _ (rd_L3 y203 x18_1) t208 t209 _ ?side1 ?side2 A15.out).mono ?_); (case side1 => repeat (first | exact (by repeat (first | (with_reducible exact HR207_0.out) | (with_reducible refine Kd.C_alloc ?_ _) | (with_reducible refine Kd.C_drewN ?_ _) | (with_reducible refine Kd.C_drew ?_) | exact HR207_0.out)) | (with_reducible refine Kd.C_alloc ?_ _) | (with_reducible refine Kd.C_drewN ?_ _) | (with_reducible refine Kd.C_drew ?_))); (case side2 => exact HC207_0.out); rintro e w39 ⟨v210, rfl, ho0, hb⟩; refine ⟨_, rfl, ?_⟩; have n0_ := Aside0.mk (Kd.N_elder' (by (with_reducible repeat (first | apply Kd.N_alloc | apply Kd.N_drewN | apply Kd.N_drew)); exact HO_16.out) (Kd.R_base ho0) hb); have n1_ := Aside0.mk (Kd.V_elder' (by (with_reducible repeat (first | apply Kd.V_alloc | apply Kd.V_drewN | apply Kd.V_drew)); exact HL207_0.out) (Kd.R_base ho0) hb); have n2_ := Aside0.mk (Kd.R_lower (Kd.R_newM (M := fun k_ => (w.heap.size ≤ k_)) ho0 (below_size (by repeat (first | (with_reducible first | exact HB.out | apply below_alloc | apply pw_below_drewN | apply below_drew1) | exact HB.out))) (fun k_ h_ => h_)) (below_size (by repeat (first | (with_reducible first | exact HB.out | apply below_alloc | apply pw_below_drewN | apply below_drew1) | exact HB.out)))); have n3_ := Aside0.mk (Kd.C_below (by repeat (first | (with_reducible exact HR207_0.out) | (with_reducible refine Kd.C_alloc ?_ _) | (with_reducible refine Kd.C_drewN ?_ _) | (with_reducible refine Kd.C_drew ?_) | exact HR207_0.out)) hb); have n4_ := Aside0.mk (below_step (by repeat (first | (with_reducible first | exact HB.out | apply below_alloc | apply pw_below_drewN | apply below_drew1) | exact HB.out)) hb); clear HO_16; clear HL207_0; clear HR207_0; clear HB; have HO_16 := n0_; have HL207_0 := n1_; have HO211 := n2_; have HR207_0 := n3_; have HB := n4_; clear n0_ n1_ n2_ n3_ n4_; (try clear hb); (try clear hb2); (try clear hk); (try clear hi); (try clear ho0)) | ((with_reducible refine gate_callee (f := 15) rfl ?_); refine goesL_ (some 29) rfl rfl Try.func15 (by kernel_rfl) rfl #[.slice A207_0 (rd_L3 y203 x18_1).length c207_0] rfl (by (try simp only [List.map_toArray, List.map_cons, List.map_nil]); first | done | rfl | (simp only [List.length_drop, List.length_take]; rfl)) ?_; (with_reducible refine (cutroomref28_Powers.calls k1 _ _ (rd_L3 y203 x18_1) t212 t213 _ ?side1 ?side2 A16.out).mono ?_); (case side1 => repeat (first | exact (by repeat (first | (with_reducible exact HR207_0.out) | (with_reducible refine Kd.C_alloc ?_ _) | (with_reducible refine Kd.C_drewN ?_ _) | (with_reducible refine Kd.C_drew ?_) | exact HR207_0.out)) | (with_reducible refine Kd.C_alloc ?_ _) | (with_reducible refine Kd.C_drewN ?_ _) | (with_reducible refine Kd.C_drew ?_))); (case side2 => exact HC207_0.out); rintro e w40 ⟨v214, rfl, ho0, hb⟩; refine ⟨_, rfl, ?_⟩; have n0_ := Aside0.mk (Kd.N_elder' (by (with_reducible repeat (first | apply Kd.N_alloc | apply Kd.N_drewN | apply Kd.N_drew)); exact HO_16.out) (Kd.R_base ho0) hb); have n1_ := Aside0.mk (Kd.V_elder' (by (with_reducible repeat (first | apply Kd.V_alloc | apply Kd.V_drewN | apply Kd.V_drew)); exact HL207_0.out) (Kd.R_base ho0) hb); have n2_ := Aside0.mk (Kd.R_elder' (by (with_reducible repeat (first | apply Kd.R_alloc | apply Kd.R_drewN | apply Kd.R_drew)); exact HO211.out) (Kd.R_base ho0) hb); have n3_ := Aside0.mk (Kd.R_lower (Kd.R_new' (Kd.R_newM (M := fun k_ => (w.heap.size ≤ k_)) ho0 (below_size (by repeat (first | (with_reducible first | exact HB.out | apply below_alloc | apply pw_below_drewN | apply below_drew1) | exact HB.out))) (fun k_ h_ => h_)) (Kd.R_lt (by (with_reducible repeat (first | apply Kd.R_alloc | apply Kd.R_drewN | apply Kd.R_drew)); exact HO211.out))) (below_size (by repeat (first | (with_reducible first | exact HB.out | apply below_alloc | apply pw_below_drewN | apply below_drew1) | exact HB.out)))); have n4_ := Aside0.mk (Kd.C_below (by repeat (first | (with_reducible exact HR207_0.out) | (with_reducible refine Kd.C_alloc ?_ _) | (with_reducible refine Kd.C_drewN ?_ _) | (with_reducible refine Kd.C_drew ?_) | exact HR207_0.out)) hb); have n5_ := Aside0.mk (below_step (by repeat (first | (with_reducible first | exact HB.out | apply below_alloc | apply pw_below_drewN | apply below_drew1) | exact HB.out)) hb); clear HO_16; clear HL207_0; clear HO211; clear HR207_0; clear HB; have HO_16 := n0_; have HL207_0 := n1_; have HO211 := n2_; have HO215 := n3_; have HR207_0 := n4_; have HB := n5_; clear n0_ n1_ n2_ n3_ n4_ n5_; (try clear hb); (try clear hb2); (try clear hk); (try clear hi); (try clear ho0)))
       go_ret
       exact ⟨by first | rfl | (simp [errW_none, errW_some] <;> rfl) | (simp [*, errW_none, errW_some] <;> rfl), by repeat (first | (with_reducible first | exact HB.out | apply below_alloc | apply pw_below_drewN | apply below_drew1) | exact HB.out)⟩
     ·rw [if_neg c14] at H
      exact absurd H (by simp)
    ·rw [if_neg c13] at H
     exact absurd H (by simp)
   ·rw [if_neg c12] at H
    have c12b0 : decide (x18_1 < (y203.length : Int)) = false := decide_eq_false c12
    clear c12
    replace H := Option.bind_eq_some_iff.mp H
    obtain ⟨t206, A410, H⟩ := H
    replace H : (some t206) = some r := H
    have A41 := Aside0.mk A410
    clear A410
    obtain rfl := Option.some.inj H
    go_wp2_with (first | ((with_reducible refine gate_callee (f := 19) rfl ?_); refine goesL_ (some 49) rfl rfl Try.func19 (by kernel_rfl) rfl #[] rfl (by (try simp only [List.map_toArray, List.map_cons, List.map_nil]); first | done | rfl | (simp only [List.length_drop, List.length_take]; rfl)) ?_; (with_reducible refine (cutroomlaw28_awake.calls k1  t206 _ A41.out).mono ?_); rintro e w42 ⟨rfl, hb⟩; refine ⟨_, rfl, ?_⟩; have n0_ := Aside0.mk (Kd.N_below (by (with_reducible repeat (first | apply Kd.N_alloc | apply Kd.N_drewN | apply Kd.N_drew)); exact HO_16.out) hb); have n1_ := Aside0.mk (below_step (by repeat (first | (with_reducible first | exact HB.out | apply below_alloc | apply pw_below_drewN | apply below_drew1) | exact HB.out)) hb); clear HO_16; clear HB; have HO_16 := n0_; have HB := n1_; clear n0_ n1_; (try clear hb); (try clear hb2); (try clear hk); (try clear hi)))
    go_ret
    exact ⟨by first | rfl | (simp [errW_none, errW_some] <;> rfl) | (simp [*, errW_none, errW_some] <;> rfl), by repeat (first | (with_reducible first | exact HB.out | apply below_alloc | apply pw_below_drewN | apply below_drew1) | exact HB.out)⟩

/-- THE ONE PURE STATEMENT of cutroomlaw28_LoudnessPowers: yours. -/
def cutroomlaw28_LoudnessPowers.Pure : Prop := ∀ (l0 : List (List Int)) (l1 : List Int), (l0.length ≤ maxLen ∧ l0.length * 24 ≤ 140737488351232 ∧ ∀ q0 ∈ l0, (q0.length ≤ maxLen ∧ q0.length * 2 ≤ 140737488351232 ∧ ∀ q1 ∈ q0, (Lit.int .i16 q1).wf = true)) → (l1.length ≤ maxLen ∧ l1.length * 8 ≤ 140737488351232 ∧ ∀ q0 ∈ l1, (Lit.int .i64 q0).wf = true) → ∃ k, cutroomlaw28_LoudnessPowers.f k l0 l1 = some true

end Go.Proofs.Ytjcjbbcamkkeiaa.P
