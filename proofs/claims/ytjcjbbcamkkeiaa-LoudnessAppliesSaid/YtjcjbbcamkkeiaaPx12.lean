-- Written by this session's own program (wip/tools/myprint.py), which runs the kit's print with turns of its own: not a text of the kit's print.sh.
import Derived.Test.YtjcjbbcamkkeiaaPx0
import Derived.Test.YtjcjbbcamkkeiaaPx14
import Derived.Test.YtjcjbbcamkkeiaaPx20
import Derived.Test.YtjcjbbcamkkeiaaPx29
import Derived.Test.YtjcjbbcamkkeiaaPx30
import Derived.Test.YtjcjbbcamkkeiaaPx31
namespace Go.Proofs.Ytjcjbbcamkkeiaa.P
open Go.RowKit Go.Proofs.YtjcjbbcamkkeiaaW.PrintWords Go.Proofs.YtjcjbbcamkkeiaaW.PrintLast Go.Proofs.YtjcjbbcamkkeiaaW.PrintMore
attribute [local go_sem] max2_int min2_int max_two min_two max_three min_three max_four min_four   -- for this text's walks alone
set_option linter.unusedVariables false
set_option linter.unusedSimpArgs false

/-! ### cutroomlaw28_LoudnessApplies: function 11 -/
mutual
def cutroomlaw28_LoudnessApplies.l0 : Nat → Int → List (List (List Int)) → Int → Int → Option (Bool)
 | 0, _, _, _, _ => none
 | k + 1, x2, x18, x19, x20 => if x20 < x19 then (if 0 ≤ x20 then (if x20 < (x18.length : Int) then ((some (([x2, Go.bits .and .i64 x2 65535] : List Int) : List Int)).bind fun y538 => (cutroomlaw28_LoudnessApplies.l1 k x2 (rd_L3 x18 x20) x18 x19 x20 y538 (y538.length : Int) 0)) else (none)) else (none)) else ((cutroomlaw28_awake.f k).bind fun t536 => (some t536))
def cutroomlaw28_LoudnessApplies.l1 : Nat → Int → List (List Int) → List (List (List Int)) → Int → Int → List Int → Int → Int → Option (Bool)
 | 0, _, _, _, _, _, _, _, _ => none
 | k + 1, x2, x8, x18, x19, x20, x27, x28, x29 => if x29 < x28 then (if 0 ≤ x29 then (if x29 < (x27.length : Int) then ((loudness_Apply.f k x8 (rd x27 x29)).bind fun bt542 => ((cutroomref28_Apply.f k x8 (rd x27 x29)).bind fun bt546 => (if bt542.2 = bt546.2 then ((cutroomref27_Same.f k bt542.1 bt546.1).bind fun t550 => (if t550 = true then (cutroomlaw28_LoudnessApplies.l1 k x2 x8 x18 x19 x20 x27 x28 (wrap64 (x29 + 1))) else (some false))) else (some false)))) else (none)) else (none)) else (cutroomlaw28_LoudnessApplies.l0 k x2 x18 x19 (wrap64 (x20 + 1)))
end
def cutroomlaw28_LoudnessApplies.f (k : Nat) (l0 : List (List Int)) (l1 : List Int) (a2 : Int) : Option (Bool) := (cutroomlaw28_made.f k l1 32767).bind fun t530 => ((some (([l0, t530] : List (List (List Int))) : List (List (List Int)))).bind fun y533 => (cutroomlaw28_LoudnessApplies.l0 k a2 y533 (y533.length : Int) 0))
theorem cutroomlaw28_LoudnessApplies.mono_l : ∀ k, (∀ y0 y1 y2 y3, LeO (cutroomlaw28_LoudnessApplies.l0 k y0 y1 y2 y3) (cutroomlaw28_LoudnessApplies.l0 (k + 1) y0 y1 y2 y3)) ∧ (∀ y0 y1 y2 y3 y4 y5 y6 y7, LeO (cutroomlaw28_LoudnessApplies.l1 k y0 y1 y2 y3 y4 y5 y6 y7) (cutroomlaw28_LoudnessApplies.l1 (k + 1) y0 y1 y2 y3 y4 y5 y6 y7))
 | 0 => ⟨fun _ _ _ _ r h => by simp [cutroomlaw28_LoudnessApplies.l0] at h, fun _ _ _ _ _ _ _ _ r h => by simp [cutroomlaw28_LoudnessApplies.l1] at h⟩
 | k + 1 => by
  obtain ⟨ih0, ih1⟩ := cutroomlaw28_LoudnessApplies.mono_l k
  refine ⟨?_, ?_⟩
  ·intro y0 y1 y2 y3
   unfold cutroomlaw28_LoudnessApplies.l0
   repeat' first
   | (with_reducible exact ih0 _ _ _ _)
   | (with_reducible exact ih1 _ _ _ _ _ _ _ _)
   | (with_reducible exact cutroomlaw28_awake.mono _)
   | (with_reducible exact cutroomlaw28_made.mono _ _ _)
   | (with_reducible exact cutroomref27_Same.mono _ _ _)
   | (with_reducible exact cutroomref28_Apply.mono _ _ _)
   | (with_reducible exact loudness_Apply.mono _ _ _)
   | (with_reducible exact LeO.refl _)
   | (with_reducible exact LeO.none _)
   | (with_reducible refine LeO.ite ?_ ?_)
   | (with_reducible refine LeO.bind ?_ (fun _ => ?_))
   | exact ih0 _ _ _ _
   | exact ih1 _ _ _ _ _ _ _ _
   | exact cutroomlaw28_awake.mono _
   | exact cutroomlaw28_made.mono _ _ _
   | exact cutroomref27_Same.mono _ _ _
   | exact cutroomref28_Apply.mono _ _ _
   | exact loudness_Apply.mono _ _ _
   | exact LeO.none _
   | refine LeO.ite ?_ ?_
   | refine LeO.bind ?_ (fun _ => ?_)
  ·intro y0 y1 y2 y3 y4 y5 y6 y7
   unfold cutroomlaw28_LoudnessApplies.l1
   repeat' first
   | (with_reducible exact ih0 _ _ _ _)
   | (with_reducible exact ih1 _ _ _ _ _ _ _ _)
   | (with_reducible exact cutroomlaw28_awake.mono _)
   | (with_reducible exact cutroomlaw28_made.mono _ _ _)
   | (with_reducible exact cutroomref27_Same.mono _ _ _)
   | (with_reducible exact cutroomref28_Apply.mono _ _ _)
   | (with_reducible exact loudness_Apply.mono _ _ _)
   | (with_reducible exact LeO.refl _)
   | (with_reducible exact LeO.none _)
   | (with_reducible refine LeO.ite ?_ ?_)
   | (with_reducible refine LeO.bind ?_ (fun _ => ?_))
   | exact ih0 _ _ _ _
   | exact ih1 _ _ _ _ _ _ _ _
   | exact cutroomlaw28_awake.mono _
   | exact cutroomlaw28_made.mono _ _ _
   | exact cutroomref27_Same.mono _ _ _
   | exact cutroomref28_Apply.mono _ _ _
   | exact loudness_Apply.mono _ _ _
   | exact LeO.none _
   | refine LeO.ite ?_ ?_
   | refine LeO.bind ?_ (fun _ => ?_)
theorem cutroomlaw28_LoudnessApplies.mono : ∀ a0 a1 a2 k, LeO (cutroomlaw28_LoudnessApplies.f k a0 a1 a2) (cutroomlaw28_LoudnessApplies.f (k + 1) a0 a1 a2) := by
 intro a0 a1 a2 k
 obtain ⟨ih0, ih1⟩ := cutroomlaw28_LoudnessApplies.mono_l k
 unfold cutroomlaw28_LoudnessApplies.f
 repeat' first
   | (with_reducible exact ih0 _ _ _ _)
   | (with_reducible exact ih1 _ _ _ _ _ _ _ _)
   | (with_reducible exact cutroomlaw28_awake.mono _)
   | (with_reducible exact cutroomlaw28_made.mono _ _ _)
   | (with_reducible exact cutroomref27_Same.mono _ _ _)
   | (with_reducible exact cutroomref28_Apply.mono _ _ _)
   | (with_reducible exact loudness_Apply.mono _ _ _)
   | (with_reducible exact LeO.refl _)
   | (with_reducible exact LeO.none _)
   | (with_reducible refine LeO.ite ?_ ?_)
   | (with_reducible refine LeO.bind ?_ (fun _ => ?_))
   | exact ih0 _ _ _ _
   | exact ih1 _ _ _ _ _ _ _ _
   | exact cutroomlaw28_awake.mono _
   | exact cutroomlaw28_made.mono _ _ _
   | exact cutroomref27_Same.mono _ _ _
   | exact cutroomref28_Apply.mono _ _ _
   | exact loudness_Apply.mono _ _ _
   | exact LeO.none _
   | refine LeO.ite ?_ ?_
   | refine LeO.bind ?_ (fun _ => ?_)
set_option maxHeartbeats 8000000 in
set_option maxRecDepth 100000 in
theorem cutroomlaw28_LoudnessApplies.calls (k : Nat) (P0_ : Nat → Prop) (A0 : Option Addr) (c0 : Nat) (l0 : List (List Int)) (A1 : Option Addr) (c1 : Nat) (l1 : List Int) (a2 : Int) (r : Bool) (w : World) (hs0 : Kd.V (Kd.slice 48 (Kd.int .i16)) 47 w w.heap.size (fun k_ => P0_ k_) (.slice A0 l0.length c0) l0) (hr1 : Kd.C (Kd.int .i64) w A1 l1.length l1) (hc1 : l1.length ≤ c1) (h : cutroomlaw28_LoudnessApplies.f k l0 l1 a2 = some r) :
  Calls Try.prog 11 #[.slice A0 l0.length c0, .slice A1 l1.length c1, .int .i64 a2] w fun e w' => e = .returned (.bool r) ∧ Below w.heap.size w w' := by
 have HO0 := Aside0.mk (show Kd.V (Kd.slice 48 (Kd.int .i16)) 47 w w.heap.size (fun k_ => (P0_ k_ ∨ w.heap.size ≤ k_)) (.slice A0 l0.length c0) l0 from Kd.V_mono hs0 (fun k_ hk => .inl hk))
 have HR1 := Aside0.mk hr1
 have HC1 := Aside0.mk hc1
 clear hr1 hc1
 have HB := Aside0.mk (Below.refl w.heap.size w)
 have H : ((cutroomlaw28_made.f k l1 32767).bind fun t530 => ((some (([l0, t530] : List (List (List Int))) : List (List (List Int)))).bind fun y533 => (cutroomlaw28_LoudnessApplies.l0 k a2 y533 (y533.length : Int) 0))) = some r := h
 clear h
 replace H := Option.bind_eq_some_iff.mp H
 obtain ⟨t530, A40, H⟩ := H
 replace H : ((some (([l0, t530] : List (List (List Int))) : List (List (List Int)))).bind fun y533 => (cutroomlaw28_LoudnessApplies.l0 k a2 y533 (y533.length : Int) 0)) = some r := H
 have A4 := Aside0.mk A40
 clear A40
 obtain ⟨y533, hy533⟩ : ∃ y_ : List (List (List Int)), y_ = (([l0, t530] : List (List (List Int)))) := ⟨_, rfl⟩
 replace H : (cutroomlaw28_LoudnessApplies.l0 k a2 y533 (y533.length : Int) 0) = some r := by first | (rw [hy533]; with_reducible exact H) | (have H2_ := (Option.bind_some _ _).symm.trans H; rw [hy533]; with_reducible exact H2_) | (have H2_ := (Option.bind_some _ _).symm.trans H; with_reducible exact H2_) | with_reducible exact H | (rw [hy533]; exact H) | exact H
 have Ny533 := Aside0.mk hy533
 clear hy533
 have H' := Aside0.mk H
 clear H
 go_enter Try.func11, Try.ntmps11
 go_wp2_with (first | ((with_reducible refine gate_callee (f := 13) rfl ?_); refine goesL_ (some 17) rfl rfl Try.func13 (by kernel_rfl) rfl #[.slice A1 l1.length c1, .int .i64 32767] rfl (by (try simp only [List.map_toArray, List.map_cons, List.map_nil]); first | done | rfl | (simp only [List.length_drop, List.length_take]; rfl)) ?_; (with_reducible refine (cutroomlaw28_made.calls k _ _ l1 32767 t530 _ ?side1 ?side2 A4.out).mono ?_); (case side1 => repeat (first | exact HR1.out | (with_reducible refine Kd.C_alloc ?_ _) | (with_reducible refine Kd.C_drewN ?_ _) | (with_reducible refine Kd.C_drew ?_))); (case side2 => exact HC1.out); rintro e w5 ⟨v531, rfl, ho0, hb⟩; refine ⟨_, rfl, ?_⟩; have n0_ := Aside0.mk (Kd.V_elder' (by (with_reducible repeat (first | apply Kd.V_alloc | apply Kd.V_drewN | apply Kd.V_drew)); exact HO0.out) (Kd.N_base (Kd.S_N ho0)) hb); have n1_ := Aside0.mk (Kd.N_lower (Kd.N_mono (ok' := fun k_ => (P0_ k_ ∨ w.heap.size ≤ k_)) (Kd.S_N (Kd.S_bound ho0)) (fun k_ hk_ => (.inr (Nat.le_trans (below_size (by repeat (first | (with_reducible first | exact HB.out | apply below_alloc | apply pw_below_drewN | apply below_drew1) | exact HB.out))) hk_.2.1)))) (below_size (by repeat (first | (with_reducible first | exact HB.out | apply below_alloc | apply pw_below_drewN | apply below_drew1) | exact HB.out)))); have n2_ := Aside0.mk (below_step (by repeat (first | (with_reducible first | exact HB.out | apply below_alloc | apply pw_below_drewN | apply below_drew1) | exact HB.out)) hb); clear HO0; clear HB; have HO0 := n0_; have HO532 := n1_; have HB := n2_; clear n0_ n1_ n2_; (try clear hb); (try clear hb2); (try clear hk); (try clear hi); (try clear ho0); obtain ⟨Ao6, co6, eo6⟩ := Kd.N_slice HO532.out; subst eo6) | ((with_reducible refine gate_dst (N := 18) rfl ?_); refine Kd.N_lit (Kd.slice 47 (Kd.slice 48 (Kd.int .i16))) _ 22 ?hg (N' := 18) ?hd (xs := ([l0, t530] : List (List (List Int)))) (inner := [.slice A0 l0.length c0, .slice Ao6 t530.length co6]) (ok := (fun k_ => (P0_ k_ ∨ w.heap.size ≤ k_))) (okp := (fun k_ => (P0_ k_ ∨ w.heap.size ≤ k_))) ?hr ?hp (fun _ hk => hk) ((show ∀ k_, w5.heap.size ≤ k_ → (fun k_ => (P0_ k_ ∨ w.heap.size ≤ k_)) k_ from fun k_ hk => (.inr (Nat.le_trans (below_size (by repeat (first | (with_reducible first | exact HB.out | apply below_alloc | apply pw_below_drewN | apply below_drew1) | exact HB.out))) hk))) _ (Nat.le_refl _)) (Below.refl _ _) (Nat.le_refl _) (by simp) ?_; (case hd => rfl); (case hg => rfl); (case hr => first | (go_simp; done) | (go_simp; rfl)); (case hp => exact (Reps.one (show Kd.FK (Kd.slice 47 (Kd.slice 48 (Kd.int .i16))) _ _ l0 [.slice A0 l0.length c0] from (Kd.FK_slice_mk (Kd.V_reads' (Kd.V_mono (ok' := (fun k_ => (P0_ k_ ∨ w.heap.size ≤ k_))) (HO0.out) (fun k_ hk => hk.1))).2.1 (Kd.V_F (Kd.V_mono (ok' := (fun k_ => (P0_ k_ ∨ w.heap.size ≤ k_))) (HO0.out) (fun k_ hk => hk.1))))) (Reps.one (show Kd.FK (Kd.slice 47 (Kd.slice 48 (Kd.int .i16))) _ _ t530 [.slice Ao6 t530.length co6] from (Kd.FK_slice_mk (Kd.N_reads' (Kd.N_mono (ok' := (fun k_ => (P0_ k_ ∨ w.heap.size ≤ k_))) (HO532.out) (fun k_ hk => hk))).2.1 (Kd.N_F (Kd.N_mono (ok' := (fun k_ => (P0_ k_ ∨ w.heap.size ≤ k_))) (HO532.out) (fun k_ hk => hk))))) (Reps.none _ _)))); intro v534 w7 ho8 hb hg_ hnew_; clear hg_ hnew_; (first | rw [← Ny533.out] at ho8 | (simp only [Int.reduceToNat] at ho8; rw [← Ny533.out] at ho8)); have n0_ := Aside0.mk (Kd.V_elder' (by (with_reducible repeat (first | apply Kd.V_alloc | apply Kd.V_drewN | apply Kd.V_drew)); exact HO0.out) (Kd.N_base ho8) hb); have n1_ := Aside0.mk (Kd.N_lower ho8 (below_size (by repeat (first | (with_reducible first | exact HB.out | apply below_alloc | apply pw_below_drewN | apply below_drew1) | exact HB.out)))); have n2_ := Aside0.mk (below_step (by repeat (first | (with_reducible first | exact HB.out | apply below_alloc | apply pw_below_drewN | apply below_drew1) | exact HB.out)) hb); clear HO0; clear HB; clear HO532; have HO0 := n0_; have HO535 := n1_; have HB := n2_; clear n0_ n1_ n2_; clear hb ho8; obtain ⟨Ao9, co9, eo9⟩ := Kd.N_slice HO535.out; subst eo9))
 go_loopg [20] k (fun kq v20 w' => ∃ (x20_1 : Int), v20 = .int .i64 x20_1 ∧ Aside0 (cutroomlaw28_LoudnessApplies.l0 kq a2 y533 (y533.length : Int) x20_1 = some r) ∧ Aside0 (kq ≤ k) ∧ Aside0 (Kd.N (Kd.slice 47 (Kd.slice 48 (Kd.int .i16))) 22 w' w.heap.size (fun k_ => (P0_ k_ ∨ w.heap.size ≤ k_)) (.slice Ao9 y533.length co9) y533) ∧ Aside0 (Below w.heap.size w w'))
 case atStart => exact ⟨(0), (by first | rfl | (simp; done) | (simp [*]; done)), H', ⟨Nat.le_refl _⟩, ⟨by (with_reducible repeat (first | apply Kd.N_alloc | apply Kd.N_drewN | apply Kd.N_drew)); exact HO535.out⟩, ⟨by repeat (first | (with_reducible first | exact HB.out | apply below_alloc | apply pw_below_drewN | apply below_drew1) | exact HB.out)⟩⟩
 case round =>
  clear H'
  (try clear c1);(try clear p2)
  obtain ⟨x20_1, rfl, HA, HK1, HO_18, HB⟩ := hrel
  cases gk with
  | zero => exact absurd HA.out (by simp [cutroomlaw28_LoudnessApplies.l0])
  | succ k1 =>
   have H := HA.out
   clear HA
   simp only [cutroomlaw28_LoudnessApplies.l0] at H
   by_cases c10 : x20_1 < (y533.length : Int)
   ·rw [if_pos c10] at H
    have c10b0 : decide (x20_1 < (y533.length : Int)) = true := decide_eq_true c10
    clear c10
    by_cases c11 : 0 ≤ x20_1
    ·rw [if_pos c11] at H
     have c11b0 : decide (0 ≤ x20_1) = true := decide_eq_true c11
     clear c11
     by_cases c12 : x20_1 < (y533.length : Int)
     ·rw [if_pos c12] at H
      have c12b0 : decide (x20_1 < (y533.length : Int)) = true := decide_eq_true c12
      clear c12
      obtain ⟨y538, hy538⟩ : ∃ y_ : List Int, y_ = (([a2, Go.bits .and .i64 a2 65535] : List Int)) := ⟨_, rfl⟩
      replace H : (cutroomlaw28_LoudnessApplies.l1 k1 a2 (rd_L3 y533 x20_1) y533 (y533.length : Int) x20_1 y538 (y538.length : Int) 0) = some r := by first | (rw [hy538]; with_reducible exact H) | (have H2_ := (Option.bind_some _ _).symm.trans H; rw [hy538]; with_reducible exact H2_) | (have H2_ := (Option.bind_some _ _).symm.trans H; with_reducible exact H2_) | with_reducible exact H | (rw [hy538]; exact H) | exact H
      have Ny538 := Aside0.mk hy538
      clear hy538
      have H' := Aside0.mk H
      clear H
      have p537 : 0 ≤ (x20_1 : Int) := of_decide_eq_true (by first | (with_reducible assumption) | assumption)
      have q537 : x20_1 < (y533.length : Int) := of_decide_eq_true (by first | (with_reducible assumption) | assumption)
      obtain ⟨ad537, A537_0, c537_0, e537, hx537_0, hl537_0, hi537_0⟩ := at_L3 (Kd.N_reads' HO_18.out).2.2 x20_1 p537 q537
      cases e537
      obtain ⟨ce537, hce537, hMe537, hcc537⟩ := Kd.N_get HO_18.out [] x20_1 p537 (by first | exact q537 | exact of_decide_eq_true (by first | (with_reducible assumption) | assumption) | (have e_ := (Kd.N_reads' HO_18.out).1; omega))
      obtain ⟨ua537_0, uc537_0, rfl, ul537_0, ge537_0⟩ := Kd.FK_slice_open hMe537
      have hv537_0 := hcc537 0 _ rfl
      rw [Nat.add_zero, show ((Kd.slice 47 (Kd.slice 48 (Kd.int .i16)))).sz = 1 from rfl, Nat.mul_one] at hv537_0
      replace hv537_0 := Option.some.inj (hv537_0.symm.trans hx537_0)
      injection hv537_0 with hva_ hvn_ hvc_
      rw [hva_] at ge537_0
      rw [hvc_] at ul537_0
      have HL537_0 := Aside0.mk (show Kd.V (Kd.slice 48 (Kd.int .i16)) 47 _ w.heap.size _ _ (rd_L3 y533 x20_1) from Kd.V_mk ul537_0 ge537_0)
      clear hva_ hvn_ hvc_ ge537_0 ul537_0
      clear hcc537 hce537
      have HR537_0 := Aside0.mk hi537_0
      have HC537_0 := Aside0.mk hl537_0
      clear hi537_0 hl537_0
      replace p537 := eq_true p537
      replace q537 := eq_true q537
      go_wp2_with (first | ((with_reducible refine gate_dst (N := 27) rfl ?_); refine Kd.R_lit (Kd.int .i64) _ 3 ?hg (N := 27) ?hd (xs := ([a2, Go.bits .and .i64 a2 65535] : List Int)) (inner := [.int .i64 a2, .int .i64 (Go.bits .and .i64 a2 65535)]) (ok := fun _ => True) (okp := fun _ => True) ?hr ?hp (fun _ hk => hk) trivial (Below.refl _ _) (Nat.le_refl _) (by simp) ?_; (case hd => rfl); (case hg => rfl); (case hr => first | (go_simp; done) | (go_simp; rfl)); (case hp => exact (Reps.one (show Kd.M (Kd.int .i64) _ _ _ a2 [.int .i64 a2] from rfl) (Reps.one (show Kd.M (Kd.int .i64) _ _ _ (Go.bits .and .i64 a2 65535) [.int .i64 (Go.bits .and .i64 a2 65535)] from rfl) (Reps.none _ _)))); intro v539 w13 ho14 hb hg_ hnew_; clear hg_ hnew_; (first | rw [← Ny538.out] at ho14 | (simp only [Int.reduceToNat] at ho14; rw [← Ny538.out] at ho14)); have n0_ := Aside0.mk (Kd.N_elder' (by (with_reducible repeat (first | apply Kd.N_alloc | apply Kd.N_drewN | apply Kd.N_drew)); exact HO_18.out) (Kd.R_base ho14) hb); have n1_ := Aside0.mk (Kd.V_elder' (by (with_reducible repeat (first | apply Kd.V_alloc | apply Kd.V_drewN | apply Kd.V_drew)); exact HL537_0.out) (Kd.R_base ho14) hb); have n2_ := Aside0.mk (Kd.R_lower (Kd.R_newM (M := fun k_ => (w.heap.size ≤ k_)) ho14 (below_size (by repeat (first | (with_reducible first | exact HB.out | apply below_alloc | apply pw_below_drewN | apply below_drew1) | exact HB.out))) (fun k_ h_ => h_)) (below_size (by repeat (first | (with_reducible first | exact HB.out | apply below_alloc | apply pw_below_drewN | apply below_drew1) | exact HB.out)))); have n3_ := Aside0.mk (Kd.C_below (by repeat (first | (with_reducible exact HR537_0.out) | (with_reducible refine Kd.C_alloc ?_ _) | (with_reducible refine Kd.C_drewN ?_ _) | (with_reducible refine Kd.C_drew ?_) | exact HR537_0.out)) hb); have n4_ := Aside0.mk (below_step (by repeat (first | (with_reducible first | exact HB.out | apply below_alloc | apply pw_below_drewN | apply below_drew1) | exact HB.out)) hb); clear HO_18; clear HL537_0; clear HR537_0; clear HB; have HO_18 := n0_; have HL537_0 := n1_; have HO540 := n2_; have HR537_0 := n3_; have HB := n4_; clear n0_ n1_ n2_ n3_ n4_; clear hb ho14; obtain ⟨Ao15, co15, eo15⟩ := Kd.R_slice HO540.out; subst eo15))
      go_loopg [29] k1 (fun kq v29 w' => ∃ (x29_2 : Int), v29 = .int .i64 x29_2 ∧ Aside0 (cutroomlaw28_LoudnessApplies.l1 kq a2 (rd_L3 y533 x20_1) y533 (y533.length : Int) x20_1 y538 (y538.length : Int) x29_2 = some r) ∧ Aside0 (kq ≤ k1) ∧ Aside0 (Kd.N (Kd.slice 47 (Kd.slice 48 (Kd.int .i16))) 22 w' w.heap.size (fun k_ => (P0_ k_ ∨ w.heap.size ≤ k_) ∧ some k_ ≠ ((.slice Ao15 y538.length co15) : Value).ownBlock) (.slice (some ad537) y533.length co9) y533) ∧ Aside0 (Kd.R (Kd.int .i64) 3 w' w.heap.size (fun k_ => (w.heap.size ≤ k_)) (.slice Ao15 y538.length co15) y538) ∧ Aside0 (Kd.C (Kd.slice 48 (Kd.int .i16)) w' A537_0 (rd_L3 y533 x20_1).length (rd_L3 y533 x20_1)) ∧ Aside0 (Below w.heap.size w w'))
      case atStart => exact ⟨(0), (by first | rfl | (simp; done) | (simp [*]; done)), H', ⟨Nat.le_refl _⟩, ⟨by (with_reducible repeat (first | apply Kd.N_alloc | apply Kd.N_drewN | apply Kd.N_drew)); exact HO_18.out⟩, ⟨by (with_reducible repeat (first | apply Kd.R_alloc | apply Kd.R_drewN | apply Kd.R_drew)); exact Kd.R_mono HO540.out (fun _ hk => hk.1)⟩, ⟨by repeat (first | (with_reducible exact HR537_0.out) | (with_reducible refine Kd.C_alloc ?_ _) | (with_reducible refine Kd.C_drewN ?_ _) | (with_reducible refine Kd.C_drew ?_) | exact HR537_0.out)⟩, ⟨by repeat (first | (with_reducible first | exact HB.out | apply below_alloc | apply pw_below_drewN | apply below_drew1) | exact HB.out)⟩⟩
      case round =>
       clear H'
       (try clear c1);(try clear p2);(try clear c5);(try clear p5);(try clear q5);(try clear hx5);(try clear c10);(try clear c10b0);(try clear c11);(try clear c11b0);(try clear c12);(try clear c12b0);(try clear c13);(try clear hx537_0);(try clear p2);(try clear p537);(try clear q537)
       obtain ⟨x29_2, rfl, HA, HK2, HO_18, HO_27, HR537_0, HB⟩ := hrel
       cases gk with
       | zero => exact absurd HA.out (by simp [cutroomlaw28_LoudnessApplies.l1])
       | succ k2 =>
        have H := HA.out
        clear HA
        simp only [cutroomlaw28_LoudnessApplies.l1] at H
        by_cases c16 : x29_2 < (y538.length : Int)
        ·rw [if_pos c16] at H
         have c16b0 : decide (x29_2 < (y538.length : Int)) = true := decide_eq_true c16
         clear c16
         by_cases c17 : 0 ≤ x29_2
         ·rw [if_pos c17] at H
          have c17b0 : decide (0 ≤ x29_2) = true := decide_eq_true c17
          clear c17
          by_cases c18 : x29_2 < (y538.length : Int)
          ·rw [if_pos c18] at H
           have c18b0 : decide (x29_2 < (y538.length : Int)) = true := decide_eq_true c18
           clear c18
           replace H := Option.bind_eq_some_iff.mp H
           obtain ⟨⟨t542, t543⟩, A190, H⟩ := H
           replace H : ((cutroomref28_Apply.f k2 (rd_L3 y533 x20_1) (rd y538 x29_2)).bind fun bt546 => (if t543 = bt546.2 then ((cutroomref27_Same.f k2 t542 bt546.1).bind fun t550 => (if t550 = true then (cutroomlaw28_LoudnessApplies.l1 k2 a2 (rd_L3 y533 x20_1) y533 (y533.length : Int) x20_1 y538 (y538.length : Int) (wrap64 (x29_2 + 1))) else (some false))) else (some false))) = some r := H
           have A19 := Aside0.mk A190
           clear A190
           replace H := Option.bind_eq_some_iff.mp H
           obtain ⟨⟨t546, t547⟩, A200, H⟩ := H
           replace H : (if t543 = t547 then ((cutroomref27_Same.f k2 t542 t546).bind fun t550 => (if t550 = true then (cutroomlaw28_LoudnessApplies.l1 k2 a2 (rd_L3 y533 x20_1) y533 (y533.length : Int) x20_1 y538 (y538.length : Int) (wrap64 (x29_2 + 1))) else (some false))) else (some false)) = some r := H
           have A20 := Aside0.mk A200
           clear A200
           by_cases c21 : t543 = t547
           ·rw [if_pos c21] at H
            have c21b0 : (t543 == t547) = true := beq_iff_eq.mpr c21
            have c21b1 : (t543 != t547) = false := bne_eq_false_iff_eq.mpr c21
            clear c21
            replace H := Option.bind_eq_some_iff.mp H
            obtain ⟨t550, A220, H⟩ := H
            replace H : (if t550 = true then (cutroomlaw28_LoudnessApplies.l1 k2 a2 (rd_L3 y533 x20_1) y533 (y533.length : Int) x20_1 y538 (y538.length : Int) (wrap64 (x29_2 + 1))) else (some false)) = some r := H
            have A22 := Aside0.mk A220
            clear A220
            by_cases c23 : t550 = true
            ·subst c23
             have H1 : (cutroomlaw28_LoudnessApplies.l1 k2 a2 (rd_L3 y533 x20_1) y533 (y533.length : Int) x20_1 y538 (y538.length : Int) (wrap64 (x29_2 + 1))) = some r := by rw [if_pos rfl] at H; exact H
             clear H
             have H := H1
             clear H1
             have H' := Aside0.mk H
             clear H
             have p541 : 0 ≤ (x29_2 : Int) := of_decide_eq_true (by first | (with_reducible assumption) | assumption)
             have q541 : x29_2 < (y538.length : Int) := of_decide_eq_true (by first | (with_reducible assumption) | assumption)
             obtain ⟨ad541, e541, hx541_0⟩ := Kd.at_int (Kd.R_reads' HO_27.out).2.2 x29_2 p541 q541
             cases e541
             replace p541 := eq_true p541
             replace q541 := eq_true q541
             go_wp2_with (first | ((with_reducible refine gate_callee (f := 28) rfl ?_); refine goesL_ (some 36) rfl rfl Try.func28 (by kernel_rfl) rfl #[.slice A537_0 (rd_L3 y533 x20_1).length c537_0, .int .i64 (rd y538 x29_2)] rfl (by (try simp only [List.map_toArray, List.map_cons, List.map_nil]); first | done | rfl | (simp only [List.length_drop, List.length_take]; rfl)) ?_; (with_reducible refine (loudness_Apply.calls k2 _ _ (rd_L3 y533 x20_1) (rd y538 x29_2) t542 t543 _ ?side1 ?side2 A19.out).mono ?_); (case side1 => repeat (first | (with_reducible exact HR537_0.out) | exact (Kd.C_below HR537_0.out HB.out) | (with_reducible refine Kd.C_alloc ?_ _) | (with_reducible refine Kd.C_drewN ?_ _) | (with_reducible refine Kd.C_drew ?_))); (case side2 => exact HC537_0.out); rintro e w24 ⟨v544, rfl, ho0, hb⟩; refine ⟨_, rfl, ?_⟩; have n0_ := Aside0.mk (Kd.N_elder' (by (with_reducible repeat (first | apply Kd.N_alloc | apply Kd.N_drewN | apply Kd.N_drew)); exact HO_18.out) (Kd.N_base (Kd.S_N ho0)) hb); have n1_ := Aside0.mk (Kd.R_below (by (with_reducible repeat (first | apply Kd.R_alloc | apply Kd.R_drewN | apply Kd.R_drew)); exact HO_27.out) hb); have n2_ := Aside0.mk (Kd.N_lower (Kd.N_mono (ok' := fun k_ => (P0_ k_ ∨ w.heap.size ≤ k_) ∧ some k_ ≠ (.slice (some ad537) y533.length co9 : Value).ownBlock ∧ some k_ ≠ (.slice (some ad541) y538.length co15 : Value).ownBlock) (Kd.S_N (Kd.S_bound ho0)) (fun k_ hk_ => ⟨(.inr (Nat.le_trans (below_size (by repeat (first | (with_reducible first | exact HB.out | apply below_alloc | apply pw_below_drewN | apply below_drew1) | exact HB.out))) hk_.2.1)), (Kd.fresh' (Kd.N_lt (by (with_reducible repeat (first | apply Kd.N_alloc | apply Kd.N_drewN | apply Kd.N_drew)); exact HO_18.out)) k_ hk_.2.1), (Kd.fresh' (Kd.R_lt (by (with_reducible repeat (first | apply Kd.R_alloc | apply Kd.R_drewN | apply Kd.R_drew)); exact HO_27.out)) k_ hk_.2.1)⟩)) (below_size (by repeat (first | (with_reducible first | exact HB.out | apply below_alloc | apply pw_below_drewN | apply below_drew1) | exact HB.out)))); have n3_ := Aside0.mk (Kd.C_below (by repeat (first | (with_reducible exact HR537_0.out) | (with_reducible refine Kd.C_alloc ?_ _) | (with_reducible refine Kd.C_drewN ?_ _) | (with_reducible refine Kd.C_drew ?_) | exact HR537_0.out)) hb); have n4_ := Aside0.mk (below_step (by repeat (first | (with_reducible first | exact HB.out | apply below_alloc | apply pw_below_drewN | apply below_drew1) | exact HB.out)) hb); clear HO_18; clear HO_27; clear HR537_0; clear HB; have HO_18 := n0_; have HO_27 := n1_; have HO545 := n2_; have HR537_0 := n3_; have HB := n4_; clear n0_ n1_ n2_ n3_ n4_; (try clear hb); (try clear hb2); (try clear hk); (try clear hi); (try clear ho0)) | ((with_reducible refine gate_callee (f := 29) rfl ?_); refine goesL_ (some 42) rfl rfl Try.func29 (by kernel_rfl) rfl #[.slice A537_0 (rd_L3 y533 x20_1).length c537_0, .int .i64 (rd y538 x29_2)] rfl (by (try simp only [List.map_toArray, List.map_cons, List.map_nil]); first | done | rfl | (simp only [List.length_drop, List.length_take]; rfl)) ?_; (with_reducible refine (cutroomref28_Apply.calls k2 _ _ (rd_L3 y533 x20_1) (rd y538 x29_2) t546 t547 _ ?side1 ?side2 A20.out).mono ?_); (case side1 => repeat (first | (with_reducible exact HR537_0.out) | exact (Kd.C_below HR537_0.out HB.out) | (with_reducible refine Kd.C_alloc ?_ _) | (with_reducible refine Kd.C_drewN ?_ _) | (with_reducible refine Kd.C_drew ?_))); (case side2 => exact HC537_0.out); rintro e w25 ⟨v548, rfl, ho0, hb⟩; refine ⟨_, rfl, ?_⟩; have n0_ := Aside0.mk (Kd.N_elder' (by (with_reducible repeat (first | apply Kd.N_alloc | apply Kd.N_drewN | apply Kd.N_drew)); exact HO_18.out) (Kd.N_base (Kd.S_N ho0)) hb); have n1_ := Aside0.mk (Kd.R_below (by (with_reducible repeat (first | apply Kd.R_alloc | apply Kd.R_drewN | apply Kd.R_drew)); exact HO_27.out) hb); have n2_ := Aside0.mk (Kd.N_elder' (by (with_reducible repeat (first | apply Kd.N_alloc | apply Kd.N_drewN | apply Kd.N_drew)); exact HO545.out) (Kd.N_base (Kd.S_N ho0)) hb); have n3_ := Aside0.mk (Kd.N_lower (Kd.N_mono (ok' := fun k_ => (P0_ k_ ∨ w.heap.size ≤ k_) ∧ some k_ ≠ (.slice (some ad537) y533.length co9 : Value).ownBlock ∧ some k_ ≠ (.slice (some ad541) y538.length co15 : Value).ownBlock ∧ some k_ ≠ (v544 : Value).ownBlock) (Kd.S_N (Kd.S_bound ho0)) (fun k_ hk_ => ⟨(.inr (Nat.le_trans (below_size (by repeat (first | (with_reducible first | exact HB.out | apply below_alloc | apply pw_below_drewN | apply below_drew1) | exact HB.out))) hk_.2.1)), (Kd.fresh' (Kd.N_lt (by (with_reducible repeat (first | apply Kd.N_alloc | apply Kd.N_drewN | apply Kd.N_drew)); exact HO_18.out)) k_ hk_.2.1), (Kd.fresh' (Kd.R_lt (by (with_reducible repeat (first | apply Kd.R_alloc | apply Kd.R_drewN | apply Kd.R_drew)); exact HO_27.out)) k_ hk_.2.1), (Kd.fresh' (Kd.N_lt (by (with_reducible repeat (first | apply Kd.N_alloc | apply Kd.N_drewN | apply Kd.N_drew)); exact HO545.out)) k_ hk_.2.1)⟩)) (below_size (by repeat (first | (with_reducible first | exact HB.out | apply below_alloc | apply pw_below_drewN | apply below_drew1) | exact HB.out)))); have n4_ := Aside0.mk (Kd.C_below (by repeat (first | (with_reducible exact HR537_0.out) | (with_reducible refine Kd.C_alloc ?_ _) | (with_reducible refine Kd.C_drewN ?_ _) | (with_reducible refine Kd.C_drew ?_) | exact HR537_0.out)) hb); have n5_ := Aside0.mk (below_step (by repeat (first | (with_reducible first | exact HB.out | apply below_alloc | apply pw_below_drewN | apply below_drew1) | exact HB.out)) hb); clear HO_18; clear HO_27; clear HO545; clear HR537_0; clear HB; have HO_18 := n0_; have HO_27 := n1_; have HO545 := n2_; have HO549 := n3_; have HR537_0 := n4_; have HB := n5_; clear n0_ n1_ n2_ n3_ n4_ n5_; (try clear hb); (try clear hb2); (try clear hk); (try clear hi); (try clear ho0); obtain ⟨Ao26, co26, eo26⟩ := Kd.N_slice HO545.out; subst eo26; obtain ⟨Ao27, co27, eo27⟩ := Kd.N_slice HO549.out; subst eo27) | (go_at_call 30; (with_reducible refine (cutroomref27_Same.calls k2 _ _ t542 _ _ t546 true _ ?side1 ?side2 ?side3 ?side4 A22.out).mono ?_); (case side1 => repeat (first | exact (Kd.N_reads' HO545.out).2.2 | (with_reducible refine Kd.C_alloc ?_ _) | (with_reducible refine Kd.C_drewN ?_ _) | (with_reducible refine Kd.C_drew ?_))); (case side2 => exact (Kd.N_reads' HO545.out).2.1); (case side3 => repeat (first | exact (Kd.N_reads' HO549.out).2.2 | (with_reducible refine Kd.C_alloc ?_ _) | (with_reducible refine Kd.C_drewN ?_ _) | (with_reducible refine Kd.C_drew ?_))); (case side4 => exact (Kd.N_reads' HO549.out).2.1); rintro e w' ⟨rfl, ⟨nd, rfl⟩⟩))
             go_roundg k2
             case measure => have := HK1.out; have := HK2.out; omega
             case rel => exact ⟨(wrap64 (x29_2 + 1)), (by first | rfl | (simp; done) | (simp [*]; done)), H', ⟨by have := HK1.out; have := HK2.out; omega⟩, ⟨by (with_reducible repeat (first | apply Kd.N_alloc | apply Kd.N_drewN | apply Kd.N_drew)); exact Kd.N_mono HO_18.out (fun _ hk => ⟨hk.1.1.1, hk.1.1.2⟩)⟩, ⟨by (with_reducible repeat (first | apply Kd.R_alloc | apply Kd.R_drewN | apply Kd.R_drew)); exact HO_27.out⟩, ⟨by repeat (first | (with_reducible exact HR537_0.out) | (with_reducible refine Kd.C_alloc ?_ _) | (with_reducible refine Kd.C_drewN ?_ _) | (with_reducible refine Kd.C_drew ?_) | exact HR537_0.out)⟩, ⟨by repeat (first | (with_reducible first | exact HB.out | apply below_alloc | apply pw_below_drewN | apply below_drew1) | exact HB.out)⟩⟩
            ·replace c23 := Bool.eq_false_iff.mpr c23
             subst c23
             have H1 : (some false) = some r := by rw [if_neg (show ¬ (false = true) by decide)] at H; exact H
             clear H
             have H := H1
             clear H1
             obtain rfl := Option.some.inj H
             have p541 : 0 ≤ (x29_2 : Int) := of_decide_eq_true (by first | (with_reducible assumption) | assumption)
             have q541 : x29_2 < (y538.length : Int) := of_decide_eq_true (by first | (with_reducible assumption) | assumption)
             obtain ⟨ad541, e541, hx541_0⟩ := Kd.at_int (Kd.R_reads' HO_27.out).2.2 x29_2 p541 q541
             cases e541
             replace p541 := eq_true p541
             replace q541 := eq_true q541
             go_wp2_with (first | ((with_reducible refine gate_callee (f := 28) rfl ?_); refine goesL_ (some 36) rfl rfl Try.func28 (by kernel_rfl) rfl #[.slice A537_0 (rd_L3 y533 x20_1).length c537_0, .int .i64 (rd y538 x29_2)] rfl (by (try simp only [List.map_toArray, List.map_cons, List.map_nil]); first | done | rfl | (simp only [List.length_drop, List.length_take]; rfl)) ?_; (with_reducible refine (loudness_Apply.calls k2 _ _ (rd_L3 y533 x20_1) (rd y538 x29_2) t542 t543 _ ?side1 ?side2 A19.out).mono ?_); (case side1 => repeat (first | (with_reducible exact HR537_0.out) | exact (Kd.C_below HR537_0.out HB.out) | (with_reducible refine Kd.C_alloc ?_ _) | (with_reducible refine Kd.C_drewN ?_ _) | (with_reducible refine Kd.C_drew ?_))); (case side2 => exact HC537_0.out); rintro e w28 ⟨v544, rfl, ho0, hb⟩; refine ⟨_, rfl, ?_⟩; have n0_ := Aside0.mk (Kd.N_elder' (by (with_reducible repeat (first | apply Kd.N_alloc | apply Kd.N_drewN | apply Kd.N_drew)); exact HO_18.out) (Kd.N_base (Kd.S_N ho0)) hb); have n1_ := Aside0.mk (Kd.R_below (by (with_reducible repeat (first | apply Kd.R_alloc | apply Kd.R_drewN | apply Kd.R_drew)); exact HO_27.out) hb); have n2_ := Aside0.mk (Kd.N_lower (Kd.N_mono (ok' := fun k_ => (P0_ k_ ∨ w.heap.size ≤ k_) ∧ some k_ ≠ (.slice (some ad537) y533.length co9 : Value).ownBlock ∧ some k_ ≠ (.slice (some ad541) y538.length co15 : Value).ownBlock) (Kd.S_N (Kd.S_bound ho0)) (fun k_ hk_ => ⟨(.inr (Nat.le_trans (below_size (by repeat (first | (with_reducible first | exact HB.out | apply below_alloc | apply pw_below_drewN | apply below_drew1) | exact HB.out))) hk_.2.1)), (Kd.fresh' (Kd.N_lt (by (with_reducible repeat (first | apply Kd.N_alloc | apply Kd.N_drewN | apply Kd.N_drew)); exact HO_18.out)) k_ hk_.2.1), (Kd.fresh' (Kd.R_lt (by (with_reducible repeat (first | apply Kd.R_alloc | apply Kd.R_drewN | apply Kd.R_drew)); exact HO_27.out)) k_ hk_.2.1)⟩)) (below_size (by repeat (first | (with_reducible first | exact HB.out | apply below_alloc | apply pw_below_drewN | apply below_drew1) | exact HB.out)))); have n3_ := Aside0.mk (Kd.C_below (by repeat (first | (with_reducible exact HR537_0.out) | (with_reducible refine Kd.C_alloc ?_ _) | (with_reducible refine Kd.C_drewN ?_ _) | (with_reducible refine Kd.C_drew ?_) | exact HR537_0.out)) hb); have n4_ := Aside0.mk (below_step (by repeat (first | (with_reducible first | exact HB.out | apply below_alloc | apply pw_below_drewN | apply below_drew1) | exact HB.out)) hb); clear HO_18; clear HO_27; clear HR537_0; clear HB; have HO_18 := n0_; have HO_27 := n1_; have HO545 := n2_; have HR537_0 := n3_; have HB := n4_; clear n0_ n1_ n2_ n3_ n4_; (try clear hb); (try clear hb2); (try clear hk); (try clear hi); (try clear ho0)) | ((with_reducible refine gate_callee (f := 29) rfl ?_); refine goesL_ (some 42) rfl rfl Try.func29 (by kernel_rfl) rfl #[.slice A537_0 (rd_L3 y533 x20_1).length c537_0, .int .i64 (rd y538 x29_2)] rfl (by (try simp only [List.map_toArray, List.map_cons, List.map_nil]); first | done | rfl | (simp only [List.length_drop, List.length_take]; rfl)) ?_; (with_reducible refine (cutroomref28_Apply.calls k2 _ _ (rd_L3 y533 x20_1) (rd y538 x29_2) t546 t547 _ ?side1 ?side2 A20.out).mono ?_); (case side1 => repeat (first | (with_reducible exact HR537_0.out) | exact (Kd.C_below HR537_0.out HB.out) | (with_reducible refine Kd.C_alloc ?_ _) | (with_reducible refine Kd.C_drewN ?_ _) | (with_reducible refine Kd.C_drew ?_))); (case side2 => exact HC537_0.out); rintro e w29 ⟨v548, rfl, ho0, hb⟩; refine ⟨_, rfl, ?_⟩; have n0_ := Aside0.mk (Kd.N_elder' (by (with_reducible repeat (first | apply Kd.N_alloc | apply Kd.N_drewN | apply Kd.N_drew)); exact HO_18.out) (Kd.N_base (Kd.S_N ho0)) hb); have n1_ := Aside0.mk (Kd.R_below (by (with_reducible repeat (first | apply Kd.R_alloc | apply Kd.R_drewN | apply Kd.R_drew)); exact HO_27.out) hb); have n2_ := Aside0.mk (Kd.N_elder' (by (with_reducible repeat (first | apply Kd.N_alloc | apply Kd.N_drewN | apply Kd.N_drew)); exact HO545.out) (Kd.N_base (Kd.S_N ho0)) hb); have n3_ := Aside0.mk (Kd.N_lower (Kd.N_mono (ok' := fun k_ => (P0_ k_ ∨ w.heap.size ≤ k_) ∧ some k_ ≠ (.slice (some ad537) y533.length co9 : Value).ownBlock ∧ some k_ ≠ (.slice (some ad541) y538.length co15 : Value).ownBlock ∧ some k_ ≠ (v544 : Value).ownBlock) (Kd.S_N (Kd.S_bound ho0)) (fun k_ hk_ => ⟨(.inr (Nat.le_trans (below_size (by repeat (first | (with_reducible first | exact HB.out | apply below_alloc | apply pw_below_drewN | apply below_drew1) | exact HB.out))) hk_.2.1)), (Kd.fresh' (Kd.N_lt (by (with_reducible repeat (first | apply Kd.N_alloc | apply Kd.N_drewN | apply Kd.N_drew)); exact HO_18.out)) k_ hk_.2.1), (Kd.fresh' (Kd.R_lt (by (with_reducible repeat (first | apply Kd.R_alloc | apply Kd.R_drewN | apply Kd.R_drew)); exact HO_27.out)) k_ hk_.2.1), (Kd.fresh' (Kd.N_lt (by (with_reducible repeat (first | apply Kd.N_alloc | apply Kd.N_drewN | apply Kd.N_drew)); exact HO545.out)) k_ hk_.2.1)⟩)) (below_size (by repeat (first | (with_reducible first | exact HB.out | apply below_alloc | apply pw_below_drewN | apply below_drew1) | exact HB.out)))); have n4_ := Aside0.mk (Kd.C_below (by repeat (first | (with_reducible exact HR537_0.out) | (with_reducible refine Kd.C_alloc ?_ _) | (with_reducible refine Kd.C_drewN ?_ _) | (with_reducible refine Kd.C_drew ?_) | exact HR537_0.out)) hb); have n5_ := Aside0.mk (below_step (by repeat (first | (with_reducible first | exact HB.out | apply below_alloc | apply pw_below_drewN | apply below_drew1) | exact HB.out)) hb); clear HO_18; clear HO_27; clear HO545; clear HR537_0; clear HB; have HO_18 := n0_; have HO_27 := n1_; have HO545 := n2_; have HO549 := n3_; have HR537_0 := n4_; have HB := n5_; clear n0_ n1_ n2_ n3_ n4_ n5_; (try clear hb); (try clear hb2); (try clear hk); (try clear hi); (try clear ho0); obtain ⟨Ao30, co30, eo30⟩ := Kd.N_slice HO545.out; subst eo30; obtain ⟨Ao31, co31, eo31⟩ := Kd.N_slice HO549.out; subst eo31) | (go_at_call 30; (with_reducible refine (cutroomref27_Same.calls k2 _ _ t542 _ _ t546 false _ ?side1 ?side2 ?side3 ?side4 A22.out).mono ?_); (case side1 => repeat (first | exact (Kd.N_reads' HO545.out).2.2 | (with_reducible refine Kd.C_alloc ?_ _) | (with_reducible refine Kd.C_drewN ?_ _) | (with_reducible refine Kd.C_drew ?_))); (case side2 => exact (Kd.N_reads' HO545.out).2.1); (case side3 => repeat (first | exact (Kd.N_reads' HO549.out).2.2 | (with_reducible refine Kd.C_alloc ?_ _) | (with_reducible refine Kd.C_drewN ?_ _) | (with_reducible refine Kd.C_drew ?_))); (case side4 => exact (Kd.N_reads' HO549.out).2.1); rintro e w' ⟨rfl, ⟨nd, rfl⟩⟩))
             go_ret
             exact ⟨by first | rfl | (simp [errW_none, errW_some] <;> rfl) | (simp [*, errW_none, errW_some] <;> rfl), by repeat (first | (with_reducible first | exact HB.out | apply below_alloc | apply pw_below_drewN | apply below_drew1) | exact HB.out)⟩
           ·rw [if_neg c21] at H
            have c21b0 : (t543 == t547) = false := beq_eq_false_iff_ne.mpr c21
            have c21b1 : (t543 != t547) = true := bne_iff_ne.mpr c21
            obtain rfl := Option.some.inj H
            have p541 : 0 ≤ (x29_2 : Int) := of_decide_eq_true (by first | (with_reducible assumption) | assumption)
            have q541 : x29_2 < (y538.length : Int) := of_decide_eq_true (by first | (with_reducible assumption) | assumption)
            obtain ⟨ad541, e541, hx541_0⟩ := Kd.at_int (Kd.R_reads' HO_27.out).2.2 x29_2 p541 q541
            cases e541
            replace p541 := eq_true p541
            replace q541 := eq_true q541
            go_wp2_with (first | ((with_reducible refine gate_callee (f := 28) rfl ?_); refine goesL_ (some 36) rfl rfl Try.func28 (by kernel_rfl) rfl #[.slice A537_0 (rd_L3 y533 x20_1).length c537_0, .int .i64 (rd y538 x29_2)] rfl (by (try simp only [List.map_toArray, List.map_cons, List.map_nil]); first | done | rfl | (simp only [List.length_drop, List.length_take]; rfl)) ?_; (with_reducible refine (loudness_Apply.calls k2 _ _ (rd_L3 y533 x20_1) (rd y538 x29_2) t542 t543 _ ?side1 ?side2 A19.out).mono ?_); (case side1 => repeat (first | (with_reducible exact HR537_0.out) | exact (Kd.C_below HR537_0.out HB.out) | (with_reducible refine Kd.C_alloc ?_ _) | (with_reducible refine Kd.C_drewN ?_ _) | (with_reducible refine Kd.C_drew ?_))); (case side2 => exact HC537_0.out); rintro e w32 ⟨v544, rfl, ho0, hb⟩; refine ⟨_, rfl, ?_⟩; have n0_ := Aside0.mk (Kd.N_elder' (by (with_reducible repeat (first | apply Kd.N_alloc | apply Kd.N_drewN | apply Kd.N_drew)); exact HO_18.out) (Kd.N_base (Kd.S_N ho0)) hb); have n1_ := Aside0.mk (Kd.R_below (by (with_reducible repeat (first | apply Kd.R_alloc | apply Kd.R_drewN | apply Kd.R_drew)); exact HO_27.out) hb); have n2_ := Aside0.mk (Kd.N_lower (Kd.N_mono (ok' := fun k_ => (P0_ k_ ∨ w.heap.size ≤ k_) ∧ some k_ ≠ (.slice (some ad537) y533.length co9 : Value).ownBlock ∧ some k_ ≠ (.slice (some ad541) y538.length co15 : Value).ownBlock) (Kd.S_N (Kd.S_bound ho0)) (fun k_ hk_ => ⟨(.inr (Nat.le_trans (below_size (by repeat (first | (with_reducible first | exact HB.out | apply below_alloc | apply pw_below_drewN | apply below_drew1) | exact HB.out))) hk_.2.1)), (Kd.fresh' (Kd.N_lt (by (with_reducible repeat (first | apply Kd.N_alloc | apply Kd.N_drewN | apply Kd.N_drew)); exact HO_18.out)) k_ hk_.2.1), (Kd.fresh' (Kd.R_lt (by (with_reducible repeat (first | apply Kd.R_alloc | apply Kd.R_drewN | apply Kd.R_drew)); exact HO_27.out)) k_ hk_.2.1)⟩)) (below_size (by repeat (first | (with_reducible first | exact HB.out | apply below_alloc | apply pw_below_drewN | apply below_drew1) | exact HB.out)))); have n3_ := Aside0.mk (Kd.C_below (by repeat (first | (with_reducible exact HR537_0.out) | (with_reducible refine Kd.C_alloc ?_ _) | (with_reducible refine Kd.C_drewN ?_ _) | (with_reducible refine Kd.C_drew ?_) | exact HR537_0.out)) hb); have n4_ := Aside0.mk (below_step (by repeat (first | (with_reducible first | exact HB.out | apply below_alloc | apply pw_below_drewN | apply below_drew1) | exact HB.out)) hb); clear HO_18; clear HO_27; clear HR537_0; clear HB; have HO_18 := n0_; have HO_27 := n1_; have HO545 := n2_; have HR537_0 := n3_; have HB := n4_; clear n0_ n1_ n2_ n3_ n4_; (try clear hb); (try clear hb2); (try clear hk); (try clear hi); (try clear ho0)) | ((with_reducible refine gate_callee (f := 29) rfl ?_); refine goesL_ (some 42) rfl rfl Try.func29 (by kernel_rfl) rfl #[.slice A537_0 (rd_L3 y533 x20_1).length c537_0, .int .i64 (rd y538 x29_2)] rfl (by (try simp only [List.map_toArray, List.map_cons, List.map_nil]); first | done | rfl | (simp only [List.length_drop, List.length_take]; rfl)) ?_; (with_reducible refine (cutroomref28_Apply.calls k2 _ _ (rd_L3 y533 x20_1) (rd y538 x29_2) t546 t547 _ ?side1 ?side2 A20.out).mono ?_); (case side1 => repeat (first | (with_reducible exact HR537_0.out) | exact (Kd.C_below HR537_0.out HB.out) | (with_reducible refine Kd.C_alloc ?_ _) | (with_reducible refine Kd.C_drewN ?_ _) | (with_reducible refine Kd.C_drew ?_))); (case side2 => exact HC537_0.out); rintro e w33 ⟨v548, rfl, ho0, hb⟩; refine ⟨_, rfl, ?_⟩; have n0_ := Aside0.mk (Kd.N_elder' (by (with_reducible repeat (first | apply Kd.N_alloc | apply Kd.N_drewN | apply Kd.N_drew)); exact HO_18.out) (Kd.N_base (Kd.S_N ho0)) hb); have n1_ := Aside0.mk (Kd.R_below (by (with_reducible repeat (first | apply Kd.R_alloc | apply Kd.R_drewN | apply Kd.R_drew)); exact HO_27.out) hb); have n2_ := Aside0.mk (Kd.N_elder' (by (with_reducible repeat (first | apply Kd.N_alloc | apply Kd.N_drewN | apply Kd.N_drew)); exact HO545.out) (Kd.N_base (Kd.S_N ho0)) hb); have n3_ := Aside0.mk (Kd.N_lower (Kd.N_mono (ok' := fun k_ => (P0_ k_ ∨ w.heap.size ≤ k_) ∧ some k_ ≠ (.slice (some ad537) y533.length co9 : Value).ownBlock ∧ some k_ ≠ (.slice (some ad541) y538.length co15 : Value).ownBlock ∧ some k_ ≠ (v544 : Value).ownBlock) (Kd.S_N (Kd.S_bound ho0)) (fun k_ hk_ => ⟨(.inr (Nat.le_trans (below_size (by repeat (first | (with_reducible first | exact HB.out | apply below_alloc | apply pw_below_drewN | apply below_drew1) | exact HB.out))) hk_.2.1)), (Kd.fresh' (Kd.N_lt (by (with_reducible repeat (first | apply Kd.N_alloc | apply Kd.N_drewN | apply Kd.N_drew)); exact HO_18.out)) k_ hk_.2.1), (Kd.fresh' (Kd.R_lt (by (with_reducible repeat (first | apply Kd.R_alloc | apply Kd.R_drewN | apply Kd.R_drew)); exact HO_27.out)) k_ hk_.2.1), (Kd.fresh' (Kd.N_lt (by (with_reducible repeat (first | apply Kd.N_alloc | apply Kd.N_drewN | apply Kd.N_drew)); exact HO545.out)) k_ hk_.2.1)⟩)) (below_size (by repeat (first | (with_reducible first | exact HB.out | apply below_alloc | apply pw_below_drewN | apply below_drew1) | exact HB.out)))); have n4_ := Aside0.mk (Kd.C_below (by repeat (first | (with_reducible exact HR537_0.out) | (with_reducible refine Kd.C_alloc ?_ _) | (with_reducible refine Kd.C_drewN ?_ _) | (with_reducible refine Kd.C_drew ?_) | exact HR537_0.out)) hb); have n5_ := Aside0.mk (below_step (by repeat (first | (with_reducible first | exact HB.out | apply below_alloc | apply pw_below_drewN | apply below_drew1) | exact HB.out)) hb); clear HO_18; clear HO_27; clear HO545; clear HR537_0; clear HB; have HO_18 := n0_; have HO_27 := n1_; have HO545 := n2_; have HO549 := n3_; have HR537_0 := n4_; have HB := n5_; clear n0_ n1_ n2_ n3_ n4_ n5_; (try clear hb); (try clear hb2); (try clear hk); (try clear hi); (try clear ho0)))
            go_ret
            exact ⟨by first | rfl | (simp [errW_none, errW_some] <;> rfl) | (simp [*, errW_none, errW_some] <;> rfl), by repeat (first | (with_reducible first | exact HB.out | apply below_alloc | apply pw_below_drewN | apply below_drew1) | exact HB.out)⟩
          ·rw [if_neg c18] at H
           exact absurd H (by simp)
         ·rw [if_neg c17] at H
          exact absurd H (by simp)
        ·rw [if_neg c16] at H
         have c16b0 : decide (x29_2 < (y538.length : Int)) = false := decide_eq_false c16
         clear c16
         have H' := Aside0.mk H
         clear H
         go_wp2
         go_roundg k2
         case measure => have := HK1.out; have := HK2.out; omega
         case rel => exact ⟨(wrap64 (x20_1 + 1)), (by first | rfl | (simp; done) | (simp [*]; done)), H', ⟨by have := HK1.out; have := HK2.out; omega⟩, ⟨by (with_reducible repeat (first | apply Kd.N_alloc | apply Kd.N_drewN | apply Kd.N_drew)); exact Kd.N_mono HO_18.out (fun _ hk => hk.1)⟩, ⟨by repeat (first | (with_reducible first | exact HB.out | apply below_alloc | apply pw_below_drewN | apply below_drew1) | exact HB.out)⟩⟩
     ·rw [if_neg c12] at H
      exact absurd H (by simp)
    ·rw [if_neg c11] at H
     exact absurd H (by simp)
   ·rw [if_neg c10] at H
    have c10b0 : decide (x20_1 < (y533.length : Int)) = false := decide_eq_false c10
    clear c10
    replace H := Option.bind_eq_some_iff.mp H
    obtain ⟨t536, A340, H⟩ := H
    replace H : (some t536) = some r := H
    have A34 := Aside0.mk A340
    clear A340
    obtain rfl := Option.some.inj H
    go_wp2_with (first | ((with_reducible refine gate_callee (f := 19) rfl ?_); refine goesL_ (some 56) rfl rfl Try.func19 (by kernel_rfl) rfl #[] rfl (by (try simp only [List.map_toArray, List.map_cons, List.map_nil]); first | done | rfl | (simp only [List.length_drop, List.length_take]; rfl)) ?_; (with_reducible refine (cutroomlaw28_awake.calls k1  t536 _ A34.out).mono ?_); rintro e w35 ⟨rfl, hb⟩; refine ⟨_, rfl, ?_⟩; have n0_ := Aside0.mk (Kd.N_below (by (with_reducible repeat (first | apply Kd.N_alloc | apply Kd.N_drewN | apply Kd.N_drew)); exact HO_18.out) hb); have n1_ := Aside0.mk (below_step (by repeat (first | (with_reducible first | exact HB.out | apply below_alloc | apply pw_below_drewN | apply below_drew1) | exact HB.out)) hb); clear HO_18; clear HB; have HO_18 := n0_; have HB := n1_; clear n0_ n1_; (try clear hb); (try clear hb2); (try clear hk); (try clear hi)))
    go_ret
    exact ⟨by first | rfl | (simp [errW_none, errW_some] <;> rfl) | (simp [*, errW_none, errW_some] <;> rfl), by repeat (first | (with_reducible first | exact HB.out | apply below_alloc | apply pw_below_drewN | apply below_drew1) | exact HB.out)⟩

/-- THE ONE PURE STATEMENT of cutroomlaw28_LoudnessApplies: yours. -/
def cutroomlaw28_LoudnessApplies.Pure : Prop := ∀ (l0 : List (List Int)) (l1 : List Int) (a2 : Int), (l0.length ≤ maxLen ∧ l0.length * 24 ≤ 140737488351232 ∧ ∀ q0 ∈ l0, (q0.length ≤ maxLen ∧ q0.length * 2 ≤ 140737488351232 ∧ ∀ q1 ∈ q0, (Lit.int .i16 q1).wf = true)) → (l1.length ≤ maxLen ∧ l1.length * 8 ≤ 140737488351232 ∧ ∀ q0 ∈ l1, (Lit.int .i64 q0).wf = true) → (Lit.int .i64 a2).wf = true → ∃ k, cutroomlaw28_LoudnessApplies.f k l0 l1 a2 = some true

end Go.Proofs.Ytjcjbbcamkkeiaa.P
