-- Written by this session's own program (wip/tools/myprint.py), which runs the kit's print with turns of its own: not a text of the kit's print.sh.
import Derived.Test.YtjcjbbcamkkeiaaPx0
import Derived.Test.YtjcjbbcamkkeiaaPx14
import Derived.Test.YtjcjbbcamkkeiaaPx20
import Derived.Test.YtjcjbbcamkkeiaaPx21
import Derived.Test.YtjcjbbcamkkeiaaPx23
import Derived.Test.YtjcjbbcamkkeiaaPx25
namespace Go.Proofs.Ytjcjbbcamkkeiaa.P
open Go.RowKit Go.Proofs.YtjcjbbcamkkeiaaW.PrintWords Go.Proofs.YtjcjbbcamkkeiaaW.PrintLast Go.Proofs.YtjcjbbcamkkeiaaW.PrintMore
attribute [local go_sem] max2_int min2_int max_two min_two max_three min_three max_four min_four   -- for this text's walks alone
set_option linter.unusedVariables false
set_option linter.unusedSimpArgs false

/-! ### cutroomlaw28_LoudnessScales: function 7 -/
mutual
def cutroomlaw28_LoudnessScales.l0 : Nat → List (List Int) → List (List Int) → Int → Int → Option (Bool)
 | 0, _, _, _, _ => none
 | k + 1, x3, x4, x20, x21 => if x21 < x20 then (if 0 ≤ x21 then (if x21 < (x4.length : Int) then (cutroomlaw28_LoudnessScales.l1 k x3 x4 x21 x20 x21 ((rd_L2 x4 x21).length : Int) 0) else (none)) else (none)) else ((loudness_Gated.f k x3).bind fun bt331 => ((loudness_Gated.f k x4).bind fun bt335 => ((loudness_Measure.f k x3).bind fun bt339 => ((loudness_Measure.f k x4).bind fun bt343 => (if bt331.2 = 0 then (if bt335.2 = 0 then (if bt339.2.2 = 0 then (if bt343.2.2 = 0 then (if bt339.2.1 < 1 then (cutroomlaw28_LoudnessScales.j2 k bt331.1 bt335.1 true bt339.1 bt339.2.1 bt343.1 bt343.2.1) else (cutroomlaw28_LoudnessScales.j2 k bt331.1 bt335.1 (decide (bt343.2.1 < 1)) bt339.1 bt339.2.1 bt343.1 bt343.2.1)) else (cutroomlaw28_LoudnessScales.j2 k bt331.1 bt335.1 true bt339.1 bt339.2.1 bt343.1 bt343.2.1)) else (cutroomlaw28_LoudnessScales.j2 k bt331.1 bt335.1 true bt339.1 bt339.2.1 bt343.1 bt343.2.1)) else (cutroomlaw28_LoudnessScales.j2 k bt331.1 bt335.1 true bt339.1 bt339.2.1 bt343.1 bt343.2.1)) else (cutroomlaw28_LoudnessScales.j2 k bt331.1 bt335.1 true bt339.1 bt339.2.1 bt343.1 bt343.2.1))))))
def cutroomlaw28_LoudnessScales.l1 : Nat → List (List Int) → List (List Int) → Int → Int → Int → Int → Int → Option (Bool)
 | 0, _, _, _, _, _, _, _ => none
 | k + 1, x3, x4, x5, x20, x21, x28, x29 => if x29 < x28 then (if 0 ≤ x5 then (if x5 < (x4.length : Int) then (if 0 ≤ x29 then (if x29 < ((rd_L2 x4 x5).length : Int) then (cutroomlaw28_LoudnessScales.l1 k x3 (x4.set (x5 : Int).toNat ((rd_L2 x4 x5).set (x29 : Int).toNat (IntKind.i16.wrap (2 * (rd (rd_L2 x4 x5) x29))))) x5 x20 x21 x28 (wrap64 (x29 + 1))) else (none)) else (none)) else (none)) else (none)) else (cutroomlaw28_LoudnessScales.l0 k x3 x4 x20 (wrap64 (x21 + 1)))
def cutroomlaw28_LoudnessScales.j2 : Nat → List Int → List Int → Bool → Int → Int → Int → Int → Option (Bool)
 | 0, _, _, _, _, _, _, _ => none
 | k + 1, x7, x9, x91, x343000, x343001, x347000, x347001 => if x91 = true then (some false) else ((cutroomref20_SameInts.f k x7 x9).bind fun t347 => (if t347 = true then (if (wrap64 ((wrap64 (4 * x343000)) * x347001)) = (wrap64 (x347000 * x343001)) then ((cutroomlaw28_awake.f k).bind fun t348 => (some t348)) else (some false)) else ((cutroomlaw28_awake.f k).bind fun t349 => (some t349))))
end
def cutroomlaw28_LoudnessScales.f2 (k : Nat) (l0 : List Int) (l1 : List (List Int)) : Option (Bool) := (cutroomlaw28_made.f k l0 3000).bind fun t321 => (cutroomlaw28_LoudnessScales.l0 k l1 t321 (t321.length : Int) 0)
theorem cutroomlaw28_LoudnessScales.mono_l : ∀ k, (∀ y0 y1 y2 y3, LeO (cutroomlaw28_LoudnessScales.l0 k y0 y1 y2 y3) (cutroomlaw28_LoudnessScales.l0 (k + 1) y0 y1 y2 y3)) ∧ (∀ y0 y1 y2 y3 y4 y5 y6, LeO (cutroomlaw28_LoudnessScales.l1 k y0 y1 y2 y3 y4 y5 y6) (cutroomlaw28_LoudnessScales.l1 (k + 1) y0 y1 y2 y3 y4 y5 y6)) ∧ (∀ y0 y1 y2 y3 y4 y5 y6, LeO (cutroomlaw28_LoudnessScales.j2 k y0 y1 y2 y3 y4 y5 y6) (cutroomlaw28_LoudnessScales.j2 (k + 1) y0 y1 y2 y3 y4 y5 y6))
 | 0 => ⟨fun _ _ _ _ r h => by simp [cutroomlaw28_LoudnessScales.l0] at h, fun _ _ _ _ _ _ _ r h => by simp [cutroomlaw28_LoudnessScales.l1] at h, fun _ _ _ _ _ _ _ r h => by simp [cutroomlaw28_LoudnessScales.j2] at h⟩
 | k + 1 => by
  obtain ⟨ih0, ih1, ih2⟩ := cutroomlaw28_LoudnessScales.mono_l k
  refine ⟨?_, ?_, ?_⟩
  ·intro y0 y1 y2 y3
   unfold cutroomlaw28_LoudnessScales.l0
   repeat' first
   | (with_reducible exact ih0 _ _ _ _)
   | (with_reducible exact ih1 _ _ _ _ _ _ _)
   | (with_reducible exact ih2 _ _ _ _ _ _ _)
   | (with_reducible exact cutroomlaw28_awake.mono _)
   | (with_reducible exact cutroomlaw28_made.mono _ _ _)
   | (with_reducible exact cutroomref20_SameInts.mono _ _ _)
   | (with_reducible exact loudness_Gated.mono _ _)
   | (with_reducible exact loudness_Measure.mono _ _)
   | (with_reducible exact LeO.refl _)
   | (with_reducible exact LeO.none _)
   | (with_reducible refine LeO.ite ?_ ?_)
   | (with_reducible refine LeO.bind ?_ (fun _ => ?_))
   | exact ih0 _ _ _ _
   | exact ih1 _ _ _ _ _ _ _
   | exact ih2 _ _ _ _ _ _ _
   | exact cutroomlaw28_awake.mono _
   | exact cutroomlaw28_made.mono _ _ _
   | exact cutroomref20_SameInts.mono _ _ _
   | exact loudness_Gated.mono _ _
   | exact loudness_Measure.mono _ _
   | exact LeO.none _
   | refine LeO.ite ?_ ?_
   | refine LeO.bind ?_ (fun _ => ?_)
  ·intro y0 y1 y2 y3 y4 y5 y6
   unfold cutroomlaw28_LoudnessScales.l1
   repeat' first
   | (with_reducible exact ih0 _ _ _ _)
   | (with_reducible exact ih1 _ _ _ _ _ _ _)
   | (with_reducible exact ih2 _ _ _ _ _ _ _)
   | (with_reducible exact cutroomlaw28_awake.mono _)
   | (with_reducible exact cutroomlaw28_made.mono _ _ _)
   | (with_reducible exact cutroomref20_SameInts.mono _ _ _)
   | (with_reducible exact loudness_Gated.mono _ _)
   | (with_reducible exact loudness_Measure.mono _ _)
   | (with_reducible exact LeO.refl _)
   | (with_reducible exact LeO.none _)
   | (with_reducible refine LeO.ite ?_ ?_)
   | (with_reducible refine LeO.bind ?_ (fun _ => ?_))
   | exact ih0 _ _ _ _
   | exact ih1 _ _ _ _ _ _ _
   | exact ih2 _ _ _ _ _ _ _
   | exact cutroomlaw28_awake.mono _
   | exact cutroomlaw28_made.mono _ _ _
   | exact cutroomref20_SameInts.mono _ _ _
   | exact loudness_Gated.mono _ _
   | exact loudness_Measure.mono _ _
   | exact LeO.none _
   | refine LeO.ite ?_ ?_
   | refine LeO.bind ?_ (fun _ => ?_)
  ·intro y0 y1 y2 y3 y4 y5 y6
   unfold cutroomlaw28_LoudnessScales.j2
   repeat' first
   | (with_reducible exact ih0 _ _ _ _)
   | (with_reducible exact ih1 _ _ _ _ _ _ _)
   | (with_reducible exact ih2 _ _ _ _ _ _ _)
   | (with_reducible exact cutroomlaw28_awake.mono _)
   | (with_reducible exact cutroomlaw28_made.mono _ _ _)
   | (with_reducible exact cutroomref20_SameInts.mono _ _ _)
   | (with_reducible exact loudness_Gated.mono _ _)
   | (with_reducible exact loudness_Measure.mono _ _)
   | (with_reducible exact LeO.refl _)
   | (with_reducible exact LeO.none _)
   | (with_reducible refine LeO.ite ?_ ?_)
   | (with_reducible refine LeO.bind ?_ (fun _ => ?_))
   | exact ih0 _ _ _ _
   | exact ih1 _ _ _ _ _ _ _
   | exact ih2 _ _ _ _ _ _ _
   | exact cutroomlaw28_awake.mono _
   | exact cutroomlaw28_made.mono _ _ _
   | exact cutroomref20_SameInts.mono _ _ _
   | exact loudness_Gated.mono _ _
   | exact loudness_Measure.mono _ _
   | exact LeO.none _
   | refine LeO.ite ?_ ?_
   | refine LeO.bind ?_ (fun _ => ?_)
theorem cutroomlaw28_LoudnessScales.mono2 : ∀ a0 a1 k, LeO (cutroomlaw28_LoudnessScales.f2 k a0 a1) (cutroomlaw28_LoudnessScales.f2 (k + 1) a0 a1) := by
 intro a0 a1 k
 obtain ⟨ih0, ih1, ih2⟩ := cutroomlaw28_LoudnessScales.mono_l k
 unfold cutroomlaw28_LoudnessScales.f2
 repeat' first
   | (with_reducible exact ih0 _ _ _ _)
   | (with_reducible exact ih1 _ _ _ _ _ _ _)
   | (with_reducible exact ih2 _ _ _ _ _ _ _)
   | (with_reducible exact cutroomlaw28_awake.mono _)
   | (with_reducible exact cutroomlaw28_made.mono _ _ _)
   | (with_reducible exact cutroomref20_SameInts.mono _ _ _)
   | (with_reducible exact loudness_Gated.mono _ _)
   | (with_reducible exact loudness_Measure.mono _ _)
   | (with_reducible exact LeO.refl _)
   | (with_reducible exact LeO.none _)
   | (with_reducible refine LeO.ite ?_ ?_)
   | (with_reducible refine LeO.bind ?_ (fun _ => ?_))
   | exact ih0 _ _ _ _
   | exact ih1 _ _ _ _ _ _ _
   | exact ih2 _ _ _ _ _ _ _
   | exact cutroomlaw28_awake.mono _
   | exact cutroomlaw28_made.mono _ _ _
   | exact cutroomref20_SameInts.mono _ _ _
   | exact loudness_Gated.mono _ _
   | exact loudness_Measure.mono _ _
   | exact LeO.none _
   | refine LeO.ite ?_ ?_
   | refine LeO.bind ?_ (fun _ => ?_)
def cutroomlaw28_LoudnessScales.T8 : Bool × List (List Nat × List Nat) := (true, [([], []), ([], []), ([0, 1], [0, 1]), ([2], [2]), ([], []), ([], []), ([], []), ([5, 6], [5, 6]), ([7], [7]), ([], []), ([8, 9], [8, 9]), ([10], [10]), ([11], [11]), ([3, 4, 0, 1, 2, 3, 4, 5, 6, 7, 8, 9, 10, 11, 12], [3, 4]), ([13, 12, 0, 1, 2, 3, 4, 5, 6, 7, 8, 9, 10, 11, 12], [12, 13])])
def cutroomlaw28_LoudnessScales.B8 : List Nat := [0, 0, 3, 7, 0, 0, 0, 96, 224, 0, 992, 2016, 4064, 8191, 16383]
theorem cutroomlaw28_LoudnessScales.tab8 : rtab .any (opsOf Try.f7 8) = cutroomlaw28_LoudnessScales.T8 := by kernel_rfl
theorem cutroomlaw28_LoudnessScales.bits8 : waitsOk cutroomlaw28_LoudnessScales.T8.2 cutroomlaw28_LoudnessScales.B8 = true := by kernel_rfl
def cutroomlaw28_LoudnessScales.f (k : Nat) (l0 : List Int) : Option Bool := (cutroomlaw28_made.f k l0 3000).bind fun t_ => cutroomlaw28_LoudnessScales.f2 k l0 t_
theorem cutroomlaw28_LoudnessScales.mono : ∀ a0 k, LeO (cutroomlaw28_LoudnessScales.f k a0) (cutroomlaw28_LoudnessScales.f (k + 1) a0) := fun a0 k => LeO.bind (cutroomlaw28_made.mono _ _ _) (fun _ => cutroomlaw28_LoudnessScales.mono2 _ _ _)
set_option maxHeartbeats 8000000 in
set_option maxRecDepth 100000 in
theorem cutroomlaw28_LoudnessScales.calls (k : Nat) (A0 : Option Addr) (c0 : Nat) (l0 : List Int) (r : Bool) (wz : World) (hr0 : Kd.C (Kd.int .i64) wz A0 l0.length l0) (hc0 : l0.length ≤ c0) (h : cutroomlaw28_LoudnessScales.f k l0 = some r) :
  Calls Try.prog 7 #[.slice A0 l0.length c0] wz fun e w' => e = .returned (.bool r) ∧ Below wz.heap.size wz w' := by
 have hu37 := Try.underlying37
 have HRz := Aside0.mk hr0
 have HC0 := Aside0.mk hc0
 clear hr0 hc0
 have HBz0 := Aside0.mk (Below.refl wz.heap.size wz)
 obtain ⟨l1, A20, h⟩ := Option.bind_eq_some_iff.mp h
 have A2 := Aside0.mk A20
 clear A20
 have H : ((cutroomlaw28_made.f k l0 3000).bind fun t321 => (cutroomlaw28_LoudnessScales.l0 k l1 t321 (t321.length : Int) 0)) = some r := h
 clear h
 replace H := Option.bind_eq_some_iff.mp H
 obtain ⟨t321, A30, H⟩ := H
 replace H : (cutroomlaw28_LoudnessScales.l0 k l1 t321 (t321.length : Int) 0) = some r := H
 have A3 := Aside0.mk A30
 clear A30
 have H' := Aside0.mk H
 clear H
 go_enter Try.func7, Try.ntmps7
 go_wp2_with (first | ((with_reducible refine gate_callee (f := 13) rfl ?_); refine goesL_ (some 16) rfl rfl Try.func13 (by kernel_rfl) rfl #[.slice A0 l0.length c0, .int .i64 3000] rfl (by (try simp only [List.map_toArray, List.map_cons, List.map_nil]); first | done | rfl | (simp only [List.length_drop, List.length_take]; rfl)) ?_; (with_reducible refine (cutroomlaw28_made.calls k _ _ l0 3000 l1 _ ?side1 ?side2 A2.out).mono ?_); (case side1 => repeat (first | exact HRz.out | (with_reducible refine Kd.C_alloc ?_ _) | (with_reducible refine Kd.C_drewN ?_ _) | (with_reducible refine Kd.C_drew ?_))); (case side2 => exact HC0.out); rintro e w ⟨vx, rfl, hox, hbx⟩; refine ⟨_, rfl, ?_⟩; have HBz := Aside0.mk (below_step (by repeat (first | (with_reducible first | exact HBz0.out | apply below_alloc | apply pw_below_drewN | apply below_drew1) | exact HBz0.out)) hbx); clear HBz0; have HR0 := Aside0.mk (Kd.C_below HRz.out HBz.out); have HB := Aside0.mk (Below.refl w.heap.size w); obtain ⟨A1, c1, ex1⟩ := Kd.S_slice hox; subst ex1; have HR1 := Aside0.mk (Kd.S_reads' hox).2.2; have HC1 := Aside0.mk (Kd.S_reads' hox).2.1; clear hox hbx HRz) | ((with_reducible refine gate_callee (f := 13) rfl ?_); refine goesL_ (some 18) rfl rfl Try.func13 (by kernel_rfl) rfl #[.slice A0 l0.length c0, .int .i64 3000] rfl (by (try simp only [List.map_toArray, List.map_cons, List.map_nil]); first | done | rfl | (simp only [List.length_drop, List.length_take]; rfl)) ?_; (with_reducible refine (cutroomlaw28_made.calls k _ _ l0 3000 t321 _ ?side1 ?side2 A3.out).mono ?_); (case side1 => repeat (first | exact HR0.out | (with_reducible refine Kd.C_alloc ?_ _) | (with_reducible refine Kd.C_drewN ?_ _) | (with_reducible refine Kd.C_drew ?_))); (case side2 => exact HC0.out); rintro e w4 ⟨v322, rfl, ho0, hb⟩; refine ⟨_, rfl, ?_⟩; have n0_ := Aside0.mk (Kd.S_lower ho0 (below_size (by repeat (first | (with_reducible first | exact HB.out | apply below_alloc | apply pw_below_drewN | apply below_drew1) | exact HB.out)))); have n1_ := Aside0.mk (below_step (by repeat (first | (with_reducible first | exact HB.out | apply below_alloc | apply pw_below_drewN | apply below_drew1) | exact HB.out)) hb); clear HB; have HO323 := n0_; have HB := n1_; clear n0_ n1_; (try clear hb); (try clear hb2); (try clear hk); (try clear hi); (try clear ho0); obtain ⟨Ao5, co5, eo5⟩ := Kd.S_slice HO323.out; subst eo5))
 go_loopg [21] k (fun kq v21 w' => ∃ (x4_1 : List (List Int)) (x21_1 : Int), v21 = .int .i64 x21_1 ∧ Aside0 (cutroomlaw28_LoudnessScales.l0 kq l1 x4_1 (t321.length : Int) x21_1 = some r) ∧ Aside0 (kq ≤ k) ∧ Aside0 (Kd.S (Kd.slice 48 (Kd.int .i16)) 47 w' w.heap.size (fun _ => True) (.slice Ao5 t321.length co5) x4_1) ∧ Aside0 (Below w.heap.size w w'))
 case atStart => exact ⟨(t321), (0), (by first | rfl | (simp; done) | (simp [*]; done)), H', ⟨Nat.le_refl _⟩, ⟨by (with_reducible repeat (first | apply Kd.S_alloc | apply Kd.S_drewN | apply Kd.S_drew)); exact HO323.out⟩, ⟨by repeat (first | (with_reducible first | exact HB.out | apply below_alloc | apply pw_below_drewN | apply below_drew1) | exact HB.out)⟩⟩
 case round =>
  clear H'
  (try clear c1);(try clear p2)
  obtain ⟨x4_1, x21_1, rfl, HA, HK1, HO_4, HB⟩ := hrel
  have hl4_1 := (Kd.S_reads' HO_4.out).1
  rw [hl4_1] at HO_4
  (try simp only [hl4_1])
  cases gk with
  | zero => exact absurd HA.out (by simp [cutroomlaw28_LoudnessScales.l0])
  | succ k1 =>
   have H := HA.out
   clear HA
   simp only [cutroomlaw28_LoudnessScales.l0] at H
   by_cases c6 : x21_1 < (t321.length : Int)
   ·rw [if_pos c6] at H
    have c6b0 : decide (x21_1 < (t321.length : Int)) = true := decide_eq_true c6
    (first | simp only [hl4_1] at c6b0 | skip)
    clear c6
    by_cases c7 : 0 ≤ x21_1
    ·rw [if_pos c7] at H
     have c7b0 : decide (0 ≤ x21_1) = true := decide_eq_true c7
     clear c7
     by_cases c8 : x21_1 < (x4_1.length : Int)
     ·rw [if_pos c8] at H
      have c8b0 : decide (x21_1 < (x4_1.length : Int)) = true := decide_eq_true c8
      (first | simp only [hl4_1] at c8b0 | skip)
      clear c8
      have H' := Aside0.mk H
      clear H
      have p324 : 0 ≤ (x21_1 : Int) := of_decide_eq_true (by first | (with_reducible assumption) | assumption)
      have q324 : x21_1 < (x4_1.length : Int) := of_decide_eq_true (by first | (with_reducible assumption) | assumption)
      obtain ⟨ad324, A324_0, c324_0, e324, hx324_0, hl324_0, hi324_0⟩ := at_L2 (Kd.S_reads' HO_4.out).2.2 x21_1 p324 q324
      cases e324
      obtain ⟨ce324, hce324, hMe324, hcc324⟩ := Kd.S_get HO_4.out [] x21_1 p324 (by first | exact q324 | exact of_decide_eq_true (by first | (with_reducible assumption) | assumption) | (have e_ := (Kd.S_reads' HO_4.out).1; omega))
      obtain ⟨ve324_0, rfl, ge324_0⟩ := hMe324
      have hv324_0 := hcc324 0 _ rfl
      rw [Nat.add_zero, show ((Kd.slice 48 (Kd.int .i16))).sz = 1 from rfl, Nat.mul_one] at hv324_0
      replace hv324_0 := Option.some.inj (hv324_0.symm.trans hx324_0)
      rw [hv324_0] at ge324_0
      have HL324_0 := Aside0.mk (show Kd.R (Kd.int .i16) 48 _ _ _ _ (rd_L2 x4_1 x21_1) from ge324_0)
      clear hv324_0 ge324_0
      have HX324_0 := Aside0.mk hx324_0
      clear hcc324 hce324
      have HR324_0 := Aside0.mk hi324_0
      have HC324_0 := Aside0.mk hl324_0
      clear hi324_0 hl324_0
      replace p324 := eq_true p324
      replace q324 := eq_true q324
      go_wp2
      go_loopg [29] k1 (fun kq v29 w' => ∃ (x4_2 : List (List Int)) (x29_2 : Int), v29 = .int .i64 x29_2 ∧ Aside0 (cutroomlaw28_LoudnessScales.l1 kq l1 x4_2 x21_1 (t321.length : Int) x21_1 ((rd_L2 x4_1 x21_1).length : Int) x29_2 = some r) ∧ Aside0 (kq ≤ k1) ∧ Aside0 (Kd.S (Kd.slice 48 (Kd.int .i16)) 47 w' w.heap.size (fun _ => True) (.slice (some ad324) x4_1.length co5) x4_2) ∧ Aside0 (Below w.heap.size w w'))
      case atStart => exact ⟨(x4_1), (0), (by first | rfl | (simp; done) | (simp [*]; done)), H', ⟨Nat.le_refl _⟩, ⟨by (try simp only [hl4_1]); (with_reducible repeat (first | apply Kd.S_alloc | apply Kd.S_drewN | apply Kd.S_drew)); exact HO_4.out⟩, ⟨by repeat (first | (with_reducible first | exact HB.out | apply below_alloc | apply pw_below_drewN | apply below_drew1) | exact HB.out)⟩⟩
      case round =>
       clear H'
       (try clear c1);(try clear p2);(try clear c3);(try clear p3);(try clear q3);(try clear hx3);(try clear c6);(try clear c6b0);(try clear c7);(try clear c7b0);(try clear c8);(try clear c8b0);(try clear hx324_0);(try clear p2);(try clear p324);(try clear q324)
       obtain ⟨x4_2, x29_2, rfl, HA, HK2, HO_4, HB⟩ := hrel
       have hl4_2 := (Kd.S_reads' HO_4.out).1
       rw [hl4_2] at HO_4
       (try simp only [hl4_2])
       cases gk with
       | zero => exact absurd HA.out (by simp [cutroomlaw28_LoudnessScales.l1])
       | succ k2 =>
        have H := HA.out
        clear HA
        simp only [cutroomlaw28_LoudnessScales.l1] at H
        by_cases c9 : x29_2 < ((rd_L2 x4_1 x21_1).length : Int)
        ·rw [if_pos c9] at H
         have c9b0 : decide (x29_2 < ((rd_L2 x4_1 x21_1).length : Int)) = true := decide_eq_true c9
         (first | simp only [hl4_1] at c9b0 | skip)
         (first | simp only [hl4_2] at c9b0 | skip)
         clear c9
         by_cases c10 : 0 ≤ x21_1
         ·rw [if_pos c10] at H
          have c10b0 : decide (0 ≤ x21_1) = true := decide_eq_true c10
          clear c10
          by_cases c11 : x21_1 < (x4_2.length : Int)
          ·rw [if_pos c11] at H
           have c11b0 : decide (x21_1 < (x4_2.length : Int)) = true := decide_eq_true c11
           (first | simp only [hl4_1] at c11b0 | skip)
           (first | simp only [hl4_2] at c11b0 | skip)
           clear c11
           by_cases c12 : 0 ≤ x29_2
           ·rw [if_pos c12] at H
            have c12b0 : decide (0 ≤ x29_2) = true := decide_eq_true c12
            clear c12
            by_cases c13 : x29_2 < ((rd_L2 x4_2 x21_1).length : Int)
            ·rw [if_pos c13] at H
             have c13b0 : decide (x29_2 < ((rd_L2 x4_2 x21_1).length : Int)) = true := decide_eq_true c13
             (first | simp only [hl4_1] at c13b0 | skip)
             (first | simp only [hl4_2] at c13b0 | skip)
             clear c13
             obtain ⟨y328, hy328⟩ : ∃ y_ : List Int, y_ = ((rd_L2 x4_2 x21_1).set (x29_2 : Int).toNat (IntKind.i16.wrap (2 * (rd (rd_L2 x4_2 x21_1) x29_2)))) := ⟨_, rfl⟩
             replace H : (cutroomlaw28_LoudnessScales.l1 k2 l1 (x4_2.set (x21_1 : Int).toNat y328) x21_1 (t321.length : Int) x21_1 ((rd_L2 x4_1 x21_1).length : Int) (wrap64 (x29_2 + 1))) = some r := by first | (rw [hy328]; with_reducible exact H) | (have H2_ := (Option.bind_some _ _).symm.trans H; rw [hy328]; with_reducible exact H2_) | (have H2_ := (Option.bind_some _ _).symm.trans H; with_reducible exact H2_) | with_reducible exact H | (rw [hy328]; exact H) | exact H
             have Ny328 := Aside0.mk hy328
             clear hy328
             obtain ⟨y330, hy330⟩ : ∃ y_ : List (List Int), y_ = (x4_2.set (x21_1 : Int).toNat y328) := ⟨_, rfl⟩
             replace H : (cutroomlaw28_LoudnessScales.l1 k2 l1 y330 x21_1 (t321.length : Int) x21_1 ((rd_L2 x4_1 x21_1).length : Int) (wrap64 (x29_2 + 1))) = some r := by first | (rw [hy330]; with_reducible exact H) | (have H2_ := (Option.bind_some _ _).symm.trans H; rw [hy330]; with_reducible exact H2_) | (have H2_ := (Option.bind_some _ _).symm.trans H; with_reducible exact H2_) | with_reducible exact H | (rw [hy330]; exact H) | exact H
             have Ny330 := Aside0.mk hy330
             clear hy330
             have H' := Aside0.mk H
             clear H
             try go_wp2
             have n0_ := Aside0.mk (Kd.S_drew HO_4.out)
             have n1_ := Aside0.mk (below_drew1 HB.out)
             clear HO_4
             clear HB
             have HO_4 := n0_
             have HB := n1_
             clear n0_ n1_
             have p325 : 0 ≤ (x21_1 : Int) := of_decide_eq_true (by first | (with_reducible assumption) | assumption)
             have q325 : x21_1 < (x4_2.length : Int) := of_decide_eq_true (by first | (with_reducible assumption) | assumption)
             obtain ⟨ad325, A325_0, c325_0, e325, hx325_0, hl325_0, hi325_0⟩ := at_L2 (Kd.S_reads' HO_4.out).2.2 x21_1 p325 q325
             obtain rfl : ad324 = ad325 := (by injection e325)
             obtain ⟨ce325, hce325, hMe325, hcc325⟩ := Kd.S_get HO_4.out [] x21_1 p325 (by first | exact q325 | exact of_decide_eq_true (by first | (with_reducible assumption) | assumption) | (have e_ := (Kd.S_reads' HO_4.out).1; omega))
             obtain ⟨ve325_0, rfl, ge325_0⟩ := hMe325
             have hv325_0 := hcc325 0 _ rfl
             rw [Nat.add_zero, show ((Kd.slice 48 (Kd.int .i16))).sz = 1 from rfl, Nat.mul_one] at hv325_0
             replace hv325_0 := Option.some.inj (hv325_0.symm.trans hx325_0)
             rw [hv325_0] at ge325_0
             have HL325_0 := Aside0.mk (show Kd.R (Kd.int .i16) 48 _ _ _ _ (rd_L2 x4_2 x21_1) from ge325_0)
             clear hv325_0 ge325_0
             have HX325_0 := Aside0.mk hx325_0
             clear hcc325 hce325
             have HR325_0 := Aside0.mk hi325_0
             have HC325_0 := Aside0.mk hl325_0
             clear hi325_0 hl325_0
             replace p325 := eq_true p325
             replace q325 := eq_true q325
             have p326 : 0 ≤ (x21_1 : Int) := of_decide_eq_true (by first | (with_reducible assumption) | assumption)
             have q326 : x21_1 < (x4_2.length : Int) := of_decide_eq_true (by first | (with_reducible assumption) | assumption)
             obtain ⟨ad326, A326_0, c326_0, e326, hx326_0, hl326_0, hi326_0⟩ := at_L2 (Kd.S_reads' HO_4.out).2.2 x21_1 p326 q326
             obtain rfl : ad324 = ad326 := (by injection e326)
             obtain ⟨ce326, hce326, hMe326, hcc326⟩ := Kd.S_get HO_4.out [] x21_1 p326 (by first | exact q326 | exact of_decide_eq_true (by first | (with_reducible assumption) | assumption) | (have e_ := (Kd.S_reads' HO_4.out).1; omega))
             obtain ⟨ve326_0, rfl, ge326_0⟩ := hMe326
             have hv326_0 := hcc326 0 _ rfl
             rw [Nat.add_zero, show ((Kd.slice 48 (Kd.int .i16))).sz = 1 from rfl, Nat.mul_one] at hv326_0
             replace hv326_0 := Option.some.inj (hv326_0.symm.trans hx326_0)
             rw [hv326_0] at ge326_0
             have HL326_0 := Aside0.mk (show Kd.R (Kd.int .i16) 48 _ _ _ _ (rd_L2 x4_2 x21_1) from ge326_0)
             clear hv326_0 ge326_0
             have HX326_0 := Aside0.mk hx326_0
             clear hcc326 hce326
             have HR326_0 := Aside0.mk hi326_0
             have HC326_0 := Aside0.mk hl326_0
             clear hi326_0 hl326_0
             replace p326 := eq_true p326
             replace q326 := eq_true q326
             have ea_ := Option.some.inj (hx325_0.symm.trans hx326_0)
             injection ea_ with ea_ en_ ec_
             subst ea_
             subst ec_
             clear en_
             have p327 : 0 ≤ (x29_2 : Int) := of_decide_eq_true (by first | (with_reducible assumption) | assumption)
             have q327 : x29_2 < ((rd_L2 x4_2 x21_1).length : Int) := of_decide_eq_true (by first | (with_reducible assumption) | assumption)
             obtain ⟨ad327, e327, hx327_0⟩ := Kd.at_int (by repeat (first | (with_reducible exact HR326_0.out) | (with_reducible refine Kd.C_alloc ?_ _) | (with_reducible refine Kd.C_drewN ?_ _) | (with_reducible refine Kd.C_drew ?_) | exact HR326_0.out)) x29_2 p327 q327
             cases e327
             replace p327 := eq_true p327
             replace q327 := eq_true q327
             have p14 : 0 ≤ (x29_2 : Int) := of_decide_eq_true (by first | (with_reducible assumption) | assumption)
             have q14 : (x29_2 : Int) < (((rd_L2 x4_2 x21_1).length : Int) : Int) := of_decide_eq_true (by first | (with_reducible assumption) | assumption)
             obtain ⟨go14, co14, eo14, gb14, gl14, cl14, HG14⟩ := Kd.R_form HL325_0.out (by omega)
             (first | cases eo14 | (injection eo14 with ea_ en_ ec_; (first | subst ea_ | (injection ea_ with ea_; subst ea_)); subst ec_; clear en_))
             have GB14 := Aside0.mk gb14
             have GG14 := Aside0.mk HG14
             clear gb14 gl14 HG14
             (first | simp only [add_plain] at hx327_0 | skip)
             obtain ⟨hx14_0, hf14_0⟩ := Kd.R_celln 0 HL325_0.out (x29_2 : Int) p14 q14
             replace p14 := eq_true p14
             replace q14 := eq_true q14
             have hq16 : (x21_1 : Int) < (x4_2.length : Int) := (by have h_ : (x21_1 : Int) < ((x4_2.length : Int) : Int) := of_decide_eq_true (by first | (with_reducible assumption) | assumption); first | exact h_ | (have e_ := (Kd.S_reads' HO_4.out).1; omega) | simpa only [List.length_set, List.length_set] using h_)
             obtain ⟨oki16, ce16, hcl16, hM16, hcc16, hok16, hbk16⟩ := Kd.S_borrow HO_4.out [] (x21_1 : Int) (of_decide_eq_true (by first | (with_reducible assumption) | assumption)) hq16
             obtain ⟨ve16_0, rfl, ge16_0⟩ := hM16
             have hv16 := hcc16 0 _ rfl
             rw [Nat.add_zero, show ((Kd.slice 48 (Kd.int .i16))).sz = 1 from rfl, Nat.mul_one] at hv16
             replace hv16 := Option.some.inj (hv16.symm.trans HX325_0.out)
             subst hv16
             clear hcc16 hcl16
             replace ge16_0 := (show Kd.R (Kd.int .i16) 48 _ _ _ _ (rd_L2 x4_2 x21_1) from ge16_0)
             have HP16 := Kd.R_putg ge16_0 (x29_2 : Int) (IntKind.i16.wrap (2 * (rd (rd_L2 x4_2 x21_1) x29_2)))
             rw [← Ny328.out] at HP16
             have HS16 := hbk16 HP16.2 (fun k_ e_ => by injection e_ with e_; subst e_; exact ge16_0.1 _ rfl) (x' := y328) (Kd.M_row HP16.1)
             rw [← Ny330.out] at HS16
             have HQ16 := Aside0.mk HS16
             clear HP16 HS16 hbk16 hok16
             refine start_ (n := 15) (S := fun w' => w'.cell? (ad324.add (x21_1).toNat) = some (.slice (some ⟨go14, 0, none⟩) (rd_L2 x4_2 x21_1).length c325_0) ∧ w'.cell? (ad324.add (x21_1).toNat) = some (.slice (some ⟨go14, 0, none⟩) (rd_L2 x4_2 x21_1).length c325_0) ∧ w'.cell? ⟨go14, (x29_2).toNat, none⟩ = some (.int .i16 (rd (rd_L2 x4_2 x21_1) x29_2))) (ds := [14]) #[false, false, false, false, false, false, false, false, false, false, false, false, false, false, false] (by kernel_rfl) rfl rfl ⟨hx325_0, hx326_0, hx327_0⟩ (fun hHeld => ?_); refine with_tabW cutroomlaw28_LoudnessScales.tab8 cutroomlaw28_LoudnessScales.bits8 (fun HT_ HW_ => ?_)
             generalize wr.drew = w15 at HO_4 HB GG14 HL325_0 HL326_0 HQ16 HR325_0 HR326_0 HX325_0 HX326_0 hf14_0 hx14_0 hx325_0 hx326_0 hx327_0 hHeld ⊢
             refine pure_ (i := 0) (N := some 32) (v := ?_) (a' := ?_) #[true, false, false, false, false, false, false, false, false, false, false, false, false, false, false] rfl rfl (any_of HT_.out (by kernel_rfl)) (fun _ _ _ h => h) (Or.inl ⟨by rfl, ?_⟩) ?_ ?_
             rotate_left
             ·intro w'
              go_simp
              with_reducible rfl
             rotate_left
             ·simp only [Act.put, List.setIfInBounds_toArray, List.set_cons_zero, List.set_cons_succ, i64_w, i32_w]
              rfl
             refine pure_ (i := 1) (N := some 33) (v := ?_) (a' := ?_) #[true, true, false, false, false, false, false, false, false, false, false, false, false, false, false] rfl rfl (any_of HT_.out (by kernel_rfl)) (fun _ _ _ h => h) (Or.inl ⟨by rfl, ?_⟩) ?_ ?_
             rotate_left
             ·intro w'
              go_simp
              with_reducible rfl
             rotate_left
             ·simp only [Act.put, List.setIfInBounds_toArray, List.set_cons_zero, List.set_cons_succ, i64_w, i32_w]
              rfl
             refine pure_ (i := 2) (N := some 34) (v := ?_) (a' := ?_) #[true, true, true, false, false, false, false, false, false, false, false, false, false, false, false] rfl rfl (any_of HT_.out (by kernel_rfl)) (fun _ _ _ h => h) (Or.inl ⟨by rfl, ?_⟩) ?_ ?_
             rotate_left
             ·intro w'
              go_simp
              with_reducible rfl
             rotate_left
             ·simp only [Act.put, List.setIfInBounds_toArray, List.set_cons_zero, List.set_cons_succ, i64_w, i32_w]
              rfl
             refine pure_ (i := 4) (N := some 36) (v := ?_) (a' := ?_) #[true, true, true, false, true, false, false, false, false, false, false, false, false, false, false] rfl rfl (any_of HT_.out (by kernel_rfl)) (fun _ _ _ h => h) (Or.inl ⟨by rfl, ?_⟩) ?_ ?_
             rotate_left
             ·intro w'
              go_simp
              with_reducible rfl
             rotate_left
             ·simp only [Act.put, List.setIfInBounds_toArray, List.set_cons_zero, List.set_cons_succ, i64_w, i32_w]
              rfl
             refine pure_ (i := 5) (N := some 37) (v := ?_) (a' := ?_) #[true, true, true, false, true, true, false, false, false, false, false, false, false, false, false] rfl rfl (any_of HT_.out (by kernel_rfl)) (fun _ _ _ h => h) (Or.inl ⟨by rfl, ?_⟩) ?_ ?_
             rotate_left
             ·intro w'
              go_simp
              with_reducible rfl
             rotate_left
             ·simp only [Act.put, List.setIfInBounds_toArray, List.set_cons_zero, List.set_cons_succ, i64_w, i32_w]
              rfl
             refine pure_ (i := 6) (N := some 38) (v := ?_) (a' := ?_) #[true, true, true, false, true, true, true, false, false, false, false, false, false, false, false] rfl rfl (any_of HT_.out (by kernel_rfl)) (fun _ _ _ h => h) (Or.inl ⟨by rfl, ?_⟩) ?_ ?_
             rotate_left
             ·intro w'
              go_simp
              with_reducible rfl
             rotate_left
             ·simp only [Act.put, List.setIfInBounds_toArray, List.set_cons_zero, List.set_cons_succ, i64_w, i32_w]
              rfl
             refine pure_ (i := 7) (N := some 39) (v := ?_) (a' := ?_) #[true, true, true, false, true, true, true, true, false, false, false, false, false, false, false] rfl rfl (any_of HT_.out (by kernel_rfl)) (fun _ _ _ h => h) (Or.inl ⟨by rfl, ?_⟩) ?_ ?_
             rotate_left
             ·intro w'
              go_simp
              with_reducible rfl
             rotate_left
             ·simp only [Act.put, List.setIfInBounds_toArray, List.set_cons_zero, List.set_cons_succ, i64_w, i32_w]
              rfl
             refine pure_ (i := 9) (N := some 41) (v := ?_) (a' := ?_) #[true, true, true, false, true, true, true, true, false, true, false, false, false, false, false] rfl rfl (any_of HT_.out (by kernel_rfl)) (fun _ _ _ h => h) (Or.inl ⟨by rfl, ?_⟩) ?_ ?_
             rotate_left
             ·intro w'
              go_simp
              with_reducible rfl
             rotate_left
             ·simp only [Act.put, List.setIfInBounds_toArray, List.set_cons_zero, List.set_cons_succ, i64_w, i32_w]
              rfl
             refine take_ (i := 3) (N := some 35) (v := ?_) (a' := ?_) #[true, true, true, true, true, true, true, true, false, true, false, false, false, false, false] rfl rfl (take_ofW HT_.out HW_.out (by kernel_rfl)) (fun _ _ _ h => h) (Or.inl ⟨by rfl, ?_⟩) hHeld ?_ ?_
             rotate_left
             ·rintro w' ⟨s0, s1, s2⟩
              go_simp
              with_reducible rfl
             rotate_left
             ·simp only [Act.put, List.setIfInBounds_toArray, List.set_cons_zero, List.set_cons_succ, i64_w, i32_w]
              rfl
             refine take_ (i := 8) (N := some 40) (v := ?_) (a' := ?_) #[true, true, true, true, true, true, true, true, true, true, false, false, false, false, false] rfl rfl (take_ofW HT_.out HW_.out (by kernel_rfl)) (fun _ _ _ h => h) (Or.inl ⟨by rfl, ?_⟩) hHeld ?_ ?_
             rotate_left
             ·rintro w' ⟨s0, s1, s2⟩
              go_simp
              with_reducible rfl
             rotate_left
             ·simp only [Act.put, List.setIfInBounds_toArray, List.set_cons_zero, List.set_cons_succ, i64_w, i32_w]
              rfl
             refine pure_ (i := 10) (N := some 42) (v := ?_) (a' := ?_) #[true, true, true, true, true, true, true, true, true, true, true, false, false, false, false] rfl rfl (any_of HT_.out (by kernel_rfl)) (fun _ _ _ h => h) (Or.inl ⟨by rfl, ?_⟩) ?_ ?_
             rotate_left
             ·intro w'
              go_simp
              with_reducible rfl
             rotate_left
             ·simp only [Act.put, List.setIfInBounds_toArray, List.set_cons_zero, List.set_cons_succ, i64_w, i32_w]
              rfl
             refine take_ (i := 11) (N := some 43) (v := ?_) (a' := ?_) #[true, true, true, true, true, true, true, true, true, true, true, true, false, false, false] rfl rfl (take_ofW HT_.out HW_.out (by kernel_rfl)) (fun _ _ _ h => h) (Or.inl ⟨by rfl, ?_⟩) hHeld ?_ ?_
             rotate_left
             ·rintro w' ⟨s0, s1, s2⟩
              go_simp
              with_reducible rfl
             rotate_left
             ·simp only [Act.put, List.setIfInBounds_toArray, List.set_cons_zero, List.set_cons_succ, i64_w, i32_w]
              rfl
             refine pure_ (i := 12) (N := some 44) (v := ?_) (a' := ?_) #[true, true, true, true, true, true, true, true, true, true, true, true, true, false, false] rfl rfl (any_of HT_.out (by kernel_rfl)) (fun _ _ _ h => h) (Or.inl ⟨by rfl, ?_⟩) ?_ ?_
             rotate_left
             ·intro w'
              go_simp
              with_reducible rfl
             rotate_left
             ·simp only [Act.put, List.setIfInBounds_toArray, List.set_cons_zero, List.set_cons_succ, i64_w, i32_w]
              rfl
             refine pure_ (i := 13) (N := some 45) (v := ?_) (a' := ?_) #[true, true, true, true, true, true, true, true, true, true, true, true, true, true, false] rfl rfl (any_of HT_.out (by kernel_rfl)) (fun _ _ _ h => h) (Or.inl ⟨by rfl, ?_⟩) ?_ ?_
             rotate_left
             ·intro w'
              go_simp
              with_reducible rfl
             rotate_left
             ·simp only [Act.put, List.setIfInBounds_toArray, List.set_cons_zero, List.set_cons_succ, i64_w, i32_w]
              rfl
             refine last_ (i := 14) (N := none) #[true, true, true, true, true, true, true, true, true, true, true, true, true, true, true] rfl rfl (one_of HT_.out (by kernel_rfl)) (by decide) (fun K hK => ?_)
             refine skip_ (w1 := ?_) (by rfl) rfl ?_ ?_
             rotate_left
             ·go_simp
              rfl
             refine hK.out _ _ ?_
             clear hK K
             refine done_ (done_of HT_.out (by kernel_rfl)) ?_
             try go_wp2
             (try simp only [← hl4_2])
             go_roundg k2
             case measure => have := HK1.out; have := HK2.out; omega
             case rel => exact ⟨(y330), (wrap64 (x29_2 + 1)), (by first | rfl | (simp; done) | (simp [*]; done)), H', ⟨by have := HK1.out; have := HK2.out; omega⟩, ⟨by (try simp only [hl4_1]); (try simp only [hl4_2]); (with_reducible repeat (first | apply Kd.S_alloc | apply Kd.S_drewN | apply Kd.S_drew)); exact HQ16.out⟩, ⟨by repeat (first | (with_reducible first | exact HB.out | apply below_alloc | apply pw_below_drewN | apply below_drew1 | refine below_set ?_ GB14.out) | exact HB.out)⟩⟩
            ·rw [if_neg c13] at H
             exact absurd H (by simp)
           ·rw [if_neg c12] at H
            exact absurd H (by simp)
          ·rw [if_neg c11] at H
           exact absurd H (by simp)
         ·rw [if_neg c10] at H
          exact absurd H (by simp)
        ·rw [if_neg c9] at H
         have c9b0 : decide (x29_2 < ((rd_L2 x4_1 x21_1).length : Int)) = false := decide_eq_false c9
         (first | simp only [hl4_1] at c9b0 | skip)
         (first | simp only [hl4_2] at c9b0 | skip)
         clear c9
         have H' := Aside0.mk H
         clear H
         go_wp2
         (try simp only [← hl4_1, ← hl4_2])
         go_roundg k2
         case measure => have := HK1.out; have := HK2.out; omega
         case rel => exact ⟨(x4_2), (wrap64 (x21_1 + 1)), (by first | rfl | (simp; done) | (simp [*]; done)), H', ⟨by have := HK1.out; have := HK2.out; omega⟩, ⟨by (try simp only [hl4_1]); (try simp only [hl4_2]); (with_reducible repeat (first | apply Kd.S_alloc | apply Kd.S_drewN | apply Kd.S_drew)); exact HO_4.out⟩, ⟨by repeat (first | (with_reducible first | exact HB.out | apply below_alloc | apply pw_below_drewN | apply below_drew1) | exact HB.out)⟩⟩
     ·rw [if_neg c8] at H
      exact absurd H (by simp)
    ·rw [if_neg c7] at H
     exact absurd H (by simp)
   ·rw [if_neg c6] at H
    have c6b0 : decide (x21_1 < (t321.length : Int)) = false := decide_eq_false c6
    (first | simp only [hl4_1] at c6b0 | skip)
    clear c6
    replace H := Option.bind_eq_some_iff.mp H
    obtain ⟨⟨t331, t332⟩, A180, H⟩ := H
    replace H : ((loudness_Gated.f k1 x4_1).bind fun bt335 => ((loudness_Measure.f k1 l1).bind fun bt339 => ((loudness_Measure.f k1 x4_1).bind fun bt343 => (if t332 = 0 then (if bt335.2 = 0 then (if bt339.2.2 = 0 then (if bt343.2.2 = 0 then (if bt339.2.1 < 1 then (cutroomlaw28_LoudnessScales.j2 k1 t331 bt335.1 true bt339.1 bt339.2.1 bt343.1 bt343.2.1) else (cutroomlaw28_LoudnessScales.j2 k1 t331 bt335.1 (decide (bt343.2.1 < 1)) bt339.1 bt339.2.1 bt343.1 bt343.2.1)) else (cutroomlaw28_LoudnessScales.j2 k1 t331 bt335.1 true bt339.1 bt339.2.1 bt343.1 bt343.2.1)) else (cutroomlaw28_LoudnessScales.j2 k1 t331 bt335.1 true bt339.1 bt339.2.1 bt343.1 bt343.2.1)) else (cutroomlaw28_LoudnessScales.j2 k1 t331 bt335.1 true bt339.1 bt339.2.1 bt343.1 bt343.2.1)) else (cutroomlaw28_LoudnessScales.j2 k1 t331 bt335.1 true bt339.1 bt339.2.1 bt343.1 bt343.2.1))))) = some r := H
    have A18 := Aside0.mk A180
    clear A180
    replace H := Option.bind_eq_some_iff.mp H
    obtain ⟨⟨t335, t336⟩, A190, H⟩ := H
    replace H : ((loudness_Measure.f k1 l1).bind fun bt339 => ((loudness_Measure.f k1 x4_1).bind fun bt343 => (if t332 = 0 then (if t336 = 0 then (if bt339.2.2 = 0 then (if bt343.2.2 = 0 then (if bt339.2.1 < 1 then (cutroomlaw28_LoudnessScales.j2 k1 t331 t335 true bt339.1 bt339.2.1 bt343.1 bt343.2.1) else (cutroomlaw28_LoudnessScales.j2 k1 t331 t335 (decide (bt343.2.1 < 1)) bt339.1 bt339.2.1 bt343.1 bt343.2.1)) else (cutroomlaw28_LoudnessScales.j2 k1 t331 t335 true bt339.1 bt339.2.1 bt343.1 bt343.2.1)) else (cutroomlaw28_LoudnessScales.j2 k1 t331 t335 true bt339.1 bt339.2.1 bt343.1 bt343.2.1)) else (cutroomlaw28_LoudnessScales.j2 k1 t331 t335 true bt339.1 bt339.2.1 bt343.1 bt343.2.1)) else (cutroomlaw28_LoudnessScales.j2 k1 t331 t335 true bt339.1 bt339.2.1 bt343.1 bt343.2.1)))) = some r := H
    have A19 := Aside0.mk A190
    clear A190
    replace H := Option.bind_eq_some_iff.mp H
    obtain ⟨⟨t339, t340, t341⟩, A200, H⟩ := H
    replace H : ((loudness_Measure.f k1 x4_1).bind fun bt343 => (if t332 = 0 then (if t336 = 0 then (if t341 = 0 then (if bt343.2.2 = 0 then (if t340 < 1 then (cutroomlaw28_LoudnessScales.j2 k1 t331 t335 true t339 t340 bt343.1 bt343.2.1) else (cutroomlaw28_LoudnessScales.j2 k1 t331 t335 (decide (bt343.2.1 < 1)) t339 t340 bt343.1 bt343.2.1)) else (cutroomlaw28_LoudnessScales.j2 k1 t331 t335 true t339 t340 bt343.1 bt343.2.1)) else (cutroomlaw28_LoudnessScales.j2 k1 t331 t335 true t339 t340 bt343.1 bt343.2.1)) else (cutroomlaw28_LoudnessScales.j2 k1 t331 t335 true t339 t340 bt343.1 bt343.2.1)) else (cutroomlaw28_LoudnessScales.j2 k1 t331 t335 true t339 t340 bt343.1 bt343.2.1))) = some r := H
    have A20 := Aside0.mk A200
    clear A200
    replace H := Option.bind_eq_some_iff.mp H
    obtain ⟨⟨t343, t344, t345⟩, A210, H⟩ := H
    replace H : (if t332 = 0 then (if t336 = 0 then (if t341 = 0 then (if t345 = 0 then (if t340 < 1 then (cutroomlaw28_LoudnessScales.j2 k1 t331 t335 true t339 t340 t343 t344) else (cutroomlaw28_LoudnessScales.j2 k1 t331 t335 (decide (t344 < 1)) t339 t340 t343 t344)) else (cutroomlaw28_LoudnessScales.j2 k1 t331 t335 true t339 t340 t343 t344)) else (cutroomlaw28_LoudnessScales.j2 k1 t331 t335 true t339 t340 t343 t344)) else (cutroomlaw28_LoudnessScales.j2 k1 t331 t335 true t339 t340 t343 t344)) else (cutroomlaw28_LoudnessScales.j2 k1 t331 t335 true t339 t340 t343 t344)) = some r := H
    have A21 := Aside0.mk A210
    clear A210
    have HC22 := Aside0.mk H
    clear H
    go_upto_region 15 with (first | ((with_reducible refine gate_callee (f := 20) rfl ?_); refine goesL_ (some 50) rfl rfl Try.func20 (by kernel_rfl) rfl #[.slice A1 l1.length c1] rfl (by (try simp only [List.map_toArray, List.map_cons, List.map_nil]); first | done | rfl | (simp only [List.length_drop, List.length_take]; rfl)) ?_; (with_reducible refine (loudness_Gated.calls k1 _ _ l1 t331 t332 _ ?side1 ?side2 A18.out).mono ?_); (case side1 => repeat (first | exact (Kd.C_below HR1.out HB.out) | (with_reducible refine Kd.C_alloc ?_ _) | (with_reducible refine Kd.C_drewN ?_ _) | (with_reducible refine Kd.C_drew ?_))); (case side2 => exact HC1.out); rintro e w23 ⟨v333, rfl, ho0, hb⟩; refine ⟨_, rfl, ?_⟩; have n0_ := Aside0.mk (Kd.S_below (by (with_reducible repeat (first | apply Kd.S_alloc | apply Kd.S_drewN | apply Kd.S_drew)); exact HO_4.out) hb); have n1_ := Aside0.mk (Kd.R_lower ho0 (below_size (by repeat (first | (with_reducible first | exact HB.out | apply below_alloc | apply pw_below_drewN | apply below_drew1) | exact HB.out)))); have n2_ := Aside0.mk (below_step (by repeat (first | (with_reducible first | exact HB.out | apply below_alloc | apply pw_below_drewN | apply below_drew1) | exact HB.out)) hb); clear HO_4; clear HB; have HO_4 := n0_; have HO334 := n1_; have HB := n2_; clear n0_ n1_ n2_; (try clear hb); (try clear hb2); (try clear hk); (try clear hi); (try clear ho0)) | ((with_reducible refine gate_callee (f := 20) rfl ?_); refine goesL_ (some 55) rfl rfl Try.func20 (by kernel_rfl) rfl #[.slice Ao5 x4_1.length co5] rfl (by (try simp only [List.map_toArray, List.map_cons, List.map_nil]); first | done | rfl | (simp only [List.length_drop, List.length_take]; rfl)) ?_; (with_reducible refine (loudness_Gated.calls k1 _ _ x4_1 t335 t336 _ ?side1 ?side2 A19.out).mono ?_); (case side1 => repeat (first | exact (Kd.S_reads' HO_4.out).2.2 | (with_reducible refine Kd.C_alloc ?_ _) | (with_reducible refine Kd.C_drewN ?_ _) | (with_reducible refine Kd.C_drew ?_))); (case side2 => exact (Kd.S_reads' HO_4.out).2.1); rintro e w24 ⟨v337, rfl, ho0, hb⟩; refine ⟨_, rfl, ?_⟩; have n0_ := Aside0.mk (Kd.S_below (by (with_reducible repeat (first | apply Kd.S_alloc | apply Kd.S_drewN | apply Kd.S_drew)); exact HO_4.out) hb); have n1_ := Aside0.mk (Kd.R_elder' (by (with_reducible repeat (first | apply Kd.R_alloc | apply Kd.R_drewN | apply Kd.R_drew)); exact HO334.out) (Kd.R_base ho0) hb); have n2_ := Aside0.mk (Kd.R_lower (Kd.R_new' ho0 (Kd.R_lt (by (with_reducible repeat (first | apply Kd.R_alloc | apply Kd.R_drewN | apply Kd.R_drew)); exact HO334.out))) (below_size (by repeat (first | (with_reducible first | exact HB.out | apply below_alloc | apply pw_below_drewN | apply below_drew1) | exact HB.out)))); have n3_ := Aside0.mk (below_step (by repeat (first | (with_reducible first | exact HB.out | apply below_alloc | apply pw_below_drewN | apply below_drew1) | exact HB.out)) hb); clear HO_4; clear HO334; clear HB; have HO_4 := n0_; have HO334 := n1_; have HO338 := n2_; have HB := n3_; clear n0_ n1_ n2_ n3_; (try clear hb); (try clear hb2); (try clear hk); (try clear hi); (try clear ho0)) | ((with_reducible refine gate_callee (f := 22) rfl ?_); refine goesL_ (some 60) rfl rfl Try.func22 (by kernel_rfl) rfl #[.slice A1 l1.length c1] rfl (by (try simp only [List.map_toArray, List.map_cons, List.map_nil]); first | done | rfl | (simp only [List.length_drop, List.length_take]; rfl)) ?_; (with_reducible refine (loudness_Measure.calls k1 _ _ l1 t339 t340 t341 _ ?side1 ?side2 A20.out).mono ?_); (case side1 => repeat (first | exact (Kd.C_below HR1.out HB.out) | (with_reducible refine Kd.C_alloc ?_ _) | (with_reducible refine Kd.C_drewN ?_ _) | (with_reducible refine Kd.C_drew ?_))); (case side2 => exact HC1.out); rintro e w25 ⟨rfl, hb⟩; refine ⟨_, rfl, ?_⟩; have n0_ := Aside0.mk (Kd.S_below (by (with_reducible repeat (first | apply Kd.S_alloc | apply Kd.S_drewN | apply Kd.S_drew)); exact HO_4.out) hb); have n1_ := Aside0.mk (Kd.R_below (by (with_reducible repeat (first | apply Kd.R_alloc | apply Kd.R_drewN | apply Kd.R_drew)); exact HO334.out) hb); have n2_ := Aside0.mk (Kd.R_below (by (with_reducible repeat (first | apply Kd.R_alloc | apply Kd.R_drewN | apply Kd.R_drew)); exact HO338.out) hb); have n3_ := Aside0.mk (below_step (by repeat (first | (with_reducible first | exact HB.out | apply below_alloc | apply pw_below_drewN | apply below_drew1) | exact HB.out)) hb); clear HO_4; clear HO334; clear HO338; clear HB; have HO_4 := n0_; have HO334 := n1_; have HO338 := n2_; have HB := n3_; clear n0_ n1_ n2_ n3_; (try clear hb); (try clear hb2); (try clear hk); (try clear hi)) | ((with_reducible refine gate_dst (N := 11) rfl ?_); refine box_event ?hg (N := 11) ?hd (cs := #[.int .i64 0, .int .i64 0]) (t := 37) ?hr ?_; (case hd => rfl); (case hg => rfl); (case hr => first | (go_simp; done) | (go_simp; rfl)); intro gb342 hg w26 hbox hb; have n0_ := Aside0.mk (Kd.S_below (by (with_reducible repeat (first | apply Kd.S_alloc | apply Kd.S_drewN | apply Kd.S_drew)); exact HO_4.out) hb); have n1_ := Aside0.mk (Kd.R_below (by (with_reducible repeat (first | apply Kd.R_alloc | apply Kd.R_drewN | apply Kd.R_drew)); exact HO334.out) hb); have n2_ := Aside0.mk (Kd.R_below (by (with_reducible repeat (first | apply Kd.R_alloc | apply Kd.R_drewN | apply Kd.R_drew)); exact HO338.out) hb); have n3_ := Aside0.mk (below_step (by repeat (first | (with_reducible first | exact HB.out | apply below_alloc | apply pw_below_drewN | apply below_drew1) | exact HB.out)) hb); have n4_ := Aside0.mk (hbox); have n5_ := Aside0.mk ((by rw [hg]; exact (below_size (by repeat (first | (with_reducible first | exact HB.out | apply below_alloc | apply pw_below_drewN | apply below_drew1) | exact HB.out))) : w.heap.size ≤ gb342)); have n6_ := Aside0.mk ((by rw [hg]; exact (below_size (by repeat (first | (with_reducible first | exact HB.out | apply below_alloc | apply pw_below_drewN | apply below_drew1) | exact HB.out))) : w.heap.size ≤ gb342)); clear HO_4; clear HO334; clear HO338; clear HB; have HO_4 := n0_; have HO334 := n1_; have HO338 := n2_; have HB := n3_; have BK342 := n4_; have GW342 := n5_; have GE342 := n6_; clear n0_ n1_ n2_ n3_ n4_ n5_ n6_; clear hb hbox hg; have hcz27_0 : w26.cell? ⟨gb342, 0, none⟩ = some (.int .i64 0) := (blk_cell BK342.out 0).trans rfl; have hcz27_1 : w26.cell? ⟨gb342, 1, none⟩ = some (.int .i64 0) := (blk_cell BK342.out 1).trans rfl; have hfz27_0 := blk_frozen BK342.out 0; have hfz27_1 := blk_frozen BK342.out 1) | ((with_reducible refine gate_callee (f := 22) rfl ?_); refine goesL_ (some 65) rfl rfl Try.func22 (by kernel_rfl) rfl #[.slice Ao5 x4_1.length co5] rfl (by (try simp only [List.map_toArray, List.map_cons, List.map_nil]); first | done | rfl | (simp only [List.length_drop, List.length_take]; rfl)) ?_; (with_reducible refine (loudness_Measure.calls k1 _ _ x4_1 t343 t344 t345 _ ?side1 ?side2 A21.out).mono ?_); (case side1 => refine (Kd.S_reads' (e := 47) (base := w.heap.size) (ok := fun k_ => True) (n := x4_1.length) (c := co5) ?_).2.2; exact (by (with_reducible repeat (first | apply Kd.S_alloc | apply Kd.S_drewN | apply Kd.S_drew)); exact (Kd.S_mono (Kd.S_far (p := ⟨gb342, 1, none⟩) (Kd.S_far (p := ⟨gb342, 0, none⟩) (Kd.S_types HO_4.out BK342.out (by decide)) (fun _ hk => hk.2) (.int .i64 t339)) (fun _ hk => hk.2) (.int .i64 t340)) (fun _ h_ => h_.1)))); (case side2 => exact (Kd.S_reads' HO_4.out).2.1); rintro e w28 ⟨rfl, hb⟩; refine ⟨_, rfl, ?_⟩; have n0_ := Aside0.mk (Kd.S_below (by (with_reducible repeat (first | apply Kd.S_alloc | apply Kd.S_drewN | apply Kd.S_drew)); exact (Kd.S_mono (Kd.S_far (p := ⟨gb342, 1, none⟩) (Kd.S_far (p := ⟨gb342, 0, none⟩) (Kd.S_types HO_4.out BK342.out (by decide)) (fun _ hk => hk.2) (.int .i64 t339)) (fun _ hk => hk.2) (.int .i64 t340)) (fun _ h_ => h_.1))) hb); have n1_ := Aside0.mk (Kd.R_below (by (with_reducible repeat (first | apply Kd.R_alloc | apply Kd.R_drewN | apply Kd.R_drew)); exact (Kd.R_mono (Kd.R_far (p := ⟨gb342, 1, none⟩) (Kd.R_far (p := ⟨gb342, 0, none⟩) (Kd.R_types HO334.out BK342.out (by decide)) (fun _ hk => hk.2) (.int .i64 t339)) (fun _ hk => hk.2) (.int .i64 t340)) (fun _ h_ => h_.1))) hb); have n2_ := Aside0.mk (Kd.R_below (by (with_reducible repeat (first | apply Kd.R_alloc | apply Kd.R_drewN | apply Kd.R_drew)); exact (Kd.R_mono (Kd.R_far (p := ⟨gb342, 1, none⟩) (Kd.R_far (p := ⟨gb342, 0, none⟩) (Kd.R_types HO338.out BK342.out (by decide)) (fun _ hk => hk.2) (.int .i64 t339)) (fun _ hk => hk.2) (.int .i64 t340)) (fun _ h_ => h_.1))) hb); have n3_ := Aside0.mk (blk_below (g := gb342) (o := .cells #[.int .i64 t339, .int .i64 t340] 37 (0, 0)) (by (with_reducible repeat (first | refine blk_drewN ?_ _ | refine blk_drew ?_ | refine blk_alloc ?_ _)); refine blk_put (cs := #[.int .i64 t339, .int .i64 0]) ?_ 1 _ rfl; (with_reducible repeat (first | refine blk_drewN ?_ _ | refine blk_drew ?_ | refine blk_alloc ?_ _)); refine blk_put (cs := #[.int .i64 0, .int .i64 0]) ?_ 0 _ rfl; (with_reducible repeat (first | refine blk_drewN ?_ _ | refine blk_drew ?_ | refine blk_alloc ?_ _)); exact BK342.out) hb); have n4_ := Aside0.mk (below_step (by repeat (first | (with_reducible first | exact HB.out | apply below_alloc | apply pw_below_drewN | apply below_drew1 | refine below_set ?_ GE342.out) | exact HB.out)) hb); clear HO_4; clear HO334; clear HO338; clear BK342; clear HB; have HO_4 := n0_; have HO334 := n1_; have HO338 := n2_; have BK342 := n3_; have HB := n4_; clear n0_ n1_ n2_ n3_ n4_; (try clear hb); (try clear hb2); (try clear hk); (try clear hi)) | ((with_reducible refine gate_dst (N := 13) rfl ?_); refine box_event ?hg (N := 13) ?hd (cs := #[.int .i64 0, .int .i64 0]) (t := 37) ?hr ?_; (case hd => rfl); (case hg => rfl); (case hr => first | (go_simp; done) | (go_simp; rfl)); intro gb346 hg w29 hbox hb; have n0_ := Aside0.mk (Kd.S_below (by (with_reducible repeat (first | apply Kd.S_alloc | apply Kd.S_drewN | apply Kd.S_drew)); exact HO_4.out) hb); have n1_ := Aside0.mk (Kd.R_below (by (with_reducible repeat (first | apply Kd.R_alloc | apply Kd.R_drewN | apply Kd.R_drew)); exact HO334.out) hb); have n2_ := Aside0.mk (Kd.R_below (by (with_reducible repeat (first | apply Kd.R_alloc | apply Kd.R_drewN | apply Kd.R_drew)); exact HO338.out) hb); have n3_ := Aside0.mk (blk_below (g := gb342) (o := .cells #[.int .i64 t339, .int .i64 t340] 37 (0, 0)) (by (with_reducible repeat (first | refine blk_drewN ?_ _ | refine blk_drew ?_ | refine blk_alloc ?_ _)); exact BK342.out) hb); have n4_ := Aside0.mk (below_step (by repeat (first | (with_reducible first | exact HB.out | apply below_alloc | apply pw_below_drewN | apply below_drew1 | refine below_set ?_ GE342.out) | exact HB.out)) hb); have n5_ := Aside0.mk (hbox); have n6_ := Aside0.mk ((by rw [hg]; exact (below_size (by repeat (first | (with_reducible first | exact HB.out | apply below_alloc | apply pw_below_drewN | apply below_drew1 | refine below_set ?_ GE342.out) | exact HB.out))) : w.heap.size ≤ gb346)); have n7_ := Aside0.mk ((by rw [hg]; exact (below_size (by repeat (first | (with_reducible first | exact HB.out | apply below_alloc | apply pw_below_drewN | apply below_drew1 | refine below_set ?_ GE342.out) | exact HB.out))) : w.heap.size ≤ gb346)); have n8_ := Aside0.mk ((by rw [hg]; exact Nat.ne_of_lt (blk_lt (g := gb342) (o := .cells #[.int .i64 t339, .int .i64 t340] 37 (0, 0)) (by (with_reducible repeat (first | refine blk_drewN ?_ _ | refine blk_drew ?_ | refine blk_alloc ?_ _)); exact BK342.out)) : gb342 ≠ gb346)); have n9_ := Aside0.mk ((by rw [hg]; exact Nat.ne_of_gt (blk_lt (g := gb342) (o := .cells #[.int .i64 t339, .int .i64 t340] 37 (0, 0)) (by (with_reducible repeat (first | refine blk_drewN ?_ _ | refine blk_drew ?_ | refine blk_alloc ?_ _)); exact BK342.out)) : gb346 ≠ gb342)); clear HO_4; clear HO334; clear HO338; clear BK342; clear HB; have HO_4 := n0_; have HO334 := n1_; have HO338 := n2_; have BK342 := n3_; have HB := n4_; have BK346 := n5_; have GW346 := n6_; have GE346 := n7_; have NB342_346 := n8_; have NB346_342 := n9_; clear n0_ n1_ n2_ n3_ n4_ n5_ n6_ n7_ n8_ n9_; clear hb hbox hg; have hnb30 := NB346_342.out; have hnc30 := NB342_346.out; have hcz31_0 : w29.cell? ⟨gb346, 0, none⟩ = some (.int .i64 0) := (blk_cell BK346.out 0).trans rfl; have hcz31_1 : w29.cell? ⟨gb346, 1, none⟩ = some (.int .i64 0) := (blk_cell BK346.out 1).trans rfl; have hfz31_0 := blk_frozen BK346.out 0; have hfz31_1 := blk_frozen BK346.out 1))
    (try simp only [Act.put, List.setIfInBounds_toArray, List.set_cons_zero, List.set_cons_succ])
    go_cut [91] (fun v91 wc => ∃ (kq : Nat) (x91_21 : Bool), v91 = .bool x91_21 ∧ Aside0 (cutroomlaw28_LoudnessScales.j2 kq t331 t335 x91_21 t339 t340 t343 t344 = some r) ∧ Aside0 (kq ≤ k1) ∧ Aside0 (Kd.R (Kd.int .i64) 3 wc w.heap.size (fun k_ => some k_ ≠ (v337 : Value).ownBlock) v333 t331) ∧ Aside0 (Kd.R (Kd.int .i64) 3 wc w.heap.size (fun k_ => some k_ ≠ (v333 : Value).ownBlock) v337 t335) ∧ Aside0 (wc.heap[gb342]? = some (.cells #[.int .i64 t339, .int .i64 t340] 37 (0, 0))) ∧ Aside0 (wc.heap[gb346]? = some (.cells #[.int .i64 t343, .int .i64 t344] 37 (0, 0))) ∧ Aside0 (Below w.heap.size w wc))
    case first =>
     have H := HC22.out
     clear HC22
     by_cases c32 : t332 = 0
     ·rw [if_pos c32] at H
      have c32b0 : (t332 == 0) = true := beq_iff_eq.mpr c32
      have c32b1 : (t332 != 0) = false := bne_eq_false_iff_eq.mpr c32
      clear c32
      (first | rw [c32b0] | (simp only [i64_w, i32_w]; rw [c32b0]) | skip)
      by_cases c33 : t336 = 0
      ·rw [if_pos c33] at H
       have c33b0 : (t336 == 0) = true := beq_iff_eq.mpr c33
       have c33b1 : (t336 != 0) = false := bne_eq_false_iff_eq.mpr c33
       clear c33
       by_cases c34 : t341 = 0
       ·rw [if_pos c34] at H
        have c34b0 : (t341 == 0) = true := beq_iff_eq.mpr c34
        have c34b1 : (t341 != 0) = false := bne_eq_false_iff_eq.mpr c34
        clear c34
        by_cases c35 : t345 = 0
        ·rw [if_pos c35] at H
         have c35b0 : (t345 == 0) = true := beq_iff_eq.mpr c35
         have c35b1 : (t345 != 0) = false := bne_eq_false_iff_eq.mpr c35
         clear c35
         by_cases c36 : t340 < 1
         ·rw [if_pos c36] at H
          have c36b0 : decide (t340 < 1) = true := decide_eq_true c36
          clear c36
          have H' := Aside0.mk H
          clear H
          have hnb37 := NB342_346.out
          have hnc37 := NB346_342.out
          have hcz38_0 : w29.cell? ⟨gb342, 0, none⟩ = some (.int .i64 t339) := (blk_cell BK342.out 0).trans rfl
          have hcz38_1 : w29.cell? ⟨gb342, 1, none⟩ = some (.int .i64 t340) := (blk_cell BK342.out 1).trans rfl
          have hfz38_0 := blk_frozen BK342.out 0
          have hfz38_1 := blk_frozen BK342.out 1
          go_wp2
          go_meet
          case rel => exact ⟨_, (true), (by first | rfl | (simp; done) | (simp [*]; done)), H', ⟨by have := HK1.out; first | omega | exact Nat.le_refl _⟩, ⟨by (try simp only [hl4_1]); (with_reducible repeat (first | apply Kd.R_alloc | apply Kd.R_drewN | apply Kd.R_drew)); exact Kd.R_mono (Kd.R_far (p := ⟨gb346, 1, none⟩) (Kd.R_far (p := ⟨gb346, 0, none⟩) (Kd.R_types HO334.out BK346.out (by decide)) (fun _ hk => hk.2) (.int .i64 t343)) (fun _ hk => hk.2) (.int .i64 t344)) (fun _ hk => hk.1.2)⟩, ⟨by (try simp only [hl4_1]); (with_reducible repeat (first | apply Kd.R_alloc | apply Kd.R_drewN | apply Kd.R_drew)); exact Kd.R_mono (Kd.R_far (p := ⟨gb346, 1, none⟩) (Kd.R_far (p := ⟨gb346, 0, none⟩) (Kd.R_types HO338.out BK346.out (by decide)) (fun _ hk => hk.2) (.int .i64 t343)) (fun _ hk => hk.2) (.int .i64 t344)) (fun _ hk => hk.1.2)⟩, ⟨by (try simp only [hl4_1]); (with_reducible repeat (first | refine blk_drewN ?_ _ | refine blk_drew ?_ | refine blk_alloc ?_ _)); refine blk_far ?_ NB342_346.out _; (with_reducible repeat (first | refine blk_drewN ?_ _ | refine blk_drew ?_ | refine blk_alloc ?_ _)); refine blk_far ?_ NB342_346.out _; (with_reducible repeat (first | refine blk_drewN ?_ _ | refine blk_drew ?_ | refine blk_alloc ?_ _)); exact BK342.out⟩, ⟨by (try simp only [hl4_1]); (with_reducible repeat (first | refine blk_drewN ?_ _ | refine blk_drew ?_ | refine blk_alloc ?_ _)); refine blk_put (cs := #[.int .i64 t343, .int .i64 0]) ?_ 1 _ rfl; (with_reducible repeat (first | refine blk_drewN ?_ _ | refine blk_drew ?_ | refine blk_alloc ?_ _)); refine blk_put (cs := #[.int .i64 0, .int .i64 0]) ?_ 0 _ rfl; (with_reducible repeat (first | refine blk_drewN ?_ _ | refine blk_drew ?_ | refine blk_alloc ?_ _)); exact BK346.out⟩, ⟨by repeat (first | (with_reducible first | exact HB.out | apply below_alloc | apply pw_below_drewN | apply below_drew1 | refine below_set ?_ GE342.out | refine below_set ?_ GE346.out) | exact HB.out)⟩⟩
         ·rw [if_neg c36] at H
          have c36b0 : decide (t340 < 1) = false := decide_eq_false c36
          clear c36
          have H' := Aside0.mk H
          clear H
          have hnb39 := NB342_346.out
          have hnc39 := NB346_342.out
          have hcz40_0 : w29.cell? ⟨gb342, 0, none⟩ = some (.int .i64 t339) := (blk_cell BK342.out 0).trans rfl
          have hcz40_1 : w29.cell? ⟨gb342, 1, none⟩ = some (.int .i64 t340) := (blk_cell BK342.out 1).trans rfl
          have hfz40_0 := blk_frozen BK342.out 0
          have hfz40_1 := blk_frozen BK342.out 1
          have hcz41_0 : w29.cell? ⟨gb346, 0, none⟩ = some (.int .i64 0) := (blk_cell BK346.out 0).trans rfl
          have hcz41_1 : w29.cell? ⟨gb346, 1, none⟩ = some (.int .i64 0) := (blk_cell BK346.out 1).trans rfl
          have hfz41_0 := blk_frozen BK346.out 0
          have hfz41_1 := blk_frozen BK346.out 1
          go_wp2
          go_meet
          case rel => exact ⟨_, (decide (t344 < 1)), (by first | rfl | (simp; done) | (simp [*]; done)), H', ⟨by have := HK1.out; first | omega | exact Nat.le_refl _⟩, ⟨by (try simp only [hl4_1]); (with_reducible repeat (first | apply Kd.R_alloc | apply Kd.R_drewN | apply Kd.R_drew)); exact Kd.R_mono (Kd.R_far (p := ⟨gb346, 1, none⟩) (Kd.R_far (p := ⟨gb346, 0, none⟩) (Kd.R_types HO334.out BK346.out (by decide)) (fun _ hk => hk.2) (.int .i64 t343)) (fun _ hk => hk.2) (.int .i64 t344)) (fun _ hk => hk.1.2)⟩, ⟨by (try simp only [hl4_1]); (with_reducible repeat (first | apply Kd.R_alloc | apply Kd.R_drewN | apply Kd.R_drew)); exact Kd.R_mono (Kd.R_far (p := ⟨gb346, 1, none⟩) (Kd.R_far (p := ⟨gb346, 0, none⟩) (Kd.R_types HO338.out BK346.out (by decide)) (fun _ hk => hk.2) (.int .i64 t343)) (fun _ hk => hk.2) (.int .i64 t344)) (fun _ hk => hk.1.2)⟩, ⟨by (try simp only [hl4_1]); (with_reducible repeat (first | refine blk_drewN ?_ _ | refine blk_drew ?_ | refine blk_alloc ?_ _)); refine blk_far ?_ NB342_346.out _; (with_reducible repeat (first | refine blk_drewN ?_ _ | refine blk_drew ?_ | refine blk_alloc ?_ _)); refine blk_far ?_ NB342_346.out _; (with_reducible repeat (first | refine blk_drewN ?_ _ | refine blk_drew ?_ | refine blk_alloc ?_ _)); exact BK342.out⟩, ⟨by (try simp only [hl4_1]); (with_reducible repeat (first | refine blk_drewN ?_ _ | refine blk_drew ?_ | refine blk_alloc ?_ _)); refine blk_put (cs := #[.int .i64 t343, .int .i64 0]) ?_ 1 _ rfl; (with_reducible repeat (first | refine blk_drewN ?_ _ | refine blk_drew ?_ | refine blk_alloc ?_ _)); refine blk_put (cs := #[.int .i64 0, .int .i64 0]) ?_ 0 _ rfl; (with_reducible repeat (first | refine blk_drewN ?_ _ | refine blk_drew ?_ | refine blk_alloc ?_ _)); exact BK346.out⟩, ⟨by repeat (first | (with_reducible first | exact HB.out | apply below_alloc | apply pw_below_drewN | apply below_drew1 | refine below_set ?_ GE342.out | refine below_set ?_ GE346.out) | exact HB.out)⟩⟩
        ·rw [if_neg c35] at H
         have c35b0 : (t345 == 0) = false := beq_eq_false_iff_ne.mpr c35
         have c35b1 : (t345 != 0) = true := bne_iff_ne.mpr c35
         have H' := Aside0.mk H
         clear H
         go_wp2
         go_meet
         case rel => exact ⟨_, (true), (by first | rfl | (simp; done) | (simp [*]; done)), H', ⟨by have := HK1.out; first | omega | exact Nat.le_refl _⟩, ⟨by (try simp only [hl4_1]); (with_reducible repeat (first | apply Kd.R_alloc | apply Kd.R_drewN | apply Kd.R_drew)); exact Kd.R_mono (Kd.R_far (p := ⟨gb346, 1, none⟩) (Kd.R_far (p := ⟨gb346, 0, none⟩) (Kd.R_types HO334.out BK346.out (by decide)) (fun _ hk => hk.2) (.int .i64 t343)) (fun _ hk => hk.2) (.int .i64 t344)) (fun _ hk => hk.1.2)⟩, ⟨by (try simp only [hl4_1]); (with_reducible repeat (first | apply Kd.R_alloc | apply Kd.R_drewN | apply Kd.R_drew)); exact Kd.R_mono (Kd.R_far (p := ⟨gb346, 1, none⟩) (Kd.R_far (p := ⟨gb346, 0, none⟩) (Kd.R_types HO338.out BK346.out (by decide)) (fun _ hk => hk.2) (.int .i64 t343)) (fun _ hk => hk.2) (.int .i64 t344)) (fun _ hk => hk.1.2)⟩, ⟨by (try simp only [hl4_1]); (with_reducible repeat (first | refine blk_drewN ?_ _ | refine blk_drew ?_ | refine blk_alloc ?_ _)); refine blk_far ?_ NB342_346.out _; (with_reducible repeat (first | refine blk_drewN ?_ _ | refine blk_drew ?_ | refine blk_alloc ?_ _)); refine blk_far ?_ NB342_346.out _; (with_reducible repeat (first | refine blk_drewN ?_ _ | refine blk_drew ?_ | refine blk_alloc ?_ _)); exact BK342.out⟩, ⟨by (try simp only [hl4_1]); (with_reducible repeat (first | refine blk_drewN ?_ _ | refine blk_drew ?_ | refine blk_alloc ?_ _)); refine blk_put (cs := #[.int .i64 t343, .int .i64 0]) ?_ 1 _ rfl; (with_reducible repeat (first | refine blk_drewN ?_ _ | refine blk_drew ?_ | refine blk_alloc ?_ _)); refine blk_put (cs := #[.int .i64 0, .int .i64 0]) ?_ 0 _ rfl; (with_reducible repeat (first | refine blk_drewN ?_ _ | refine blk_drew ?_ | refine blk_alloc ?_ _)); exact BK346.out⟩, ⟨by repeat (first | (with_reducible first | exact HB.out | apply below_alloc | apply pw_below_drewN | apply below_drew1 | refine below_set ?_ GE342.out | refine below_set ?_ GE346.out) | exact HB.out)⟩⟩
       ·rw [if_neg c34] at H
        have c34b0 : (t341 == 0) = false := beq_eq_false_iff_ne.mpr c34
        have c34b1 : (t341 != 0) = true := bne_iff_ne.mpr c34
        have H' := Aside0.mk H
        clear H
        go_wp2
        go_meet
        case rel => exact ⟨_, (true), (by first | rfl | (simp; done) | (simp [*]; done)), H', ⟨by have := HK1.out; first | omega | exact Nat.le_refl _⟩, ⟨by (try simp only [hl4_1]); (with_reducible repeat (first | apply Kd.R_alloc | apply Kd.R_drewN | apply Kd.R_drew)); exact Kd.R_mono (Kd.R_far (p := ⟨gb346, 1, none⟩) (Kd.R_far (p := ⟨gb346, 0, none⟩) (Kd.R_types HO334.out BK346.out (by decide)) (fun _ hk => hk.2) (.int .i64 t343)) (fun _ hk => hk.2) (.int .i64 t344)) (fun _ hk => hk.1.2)⟩, ⟨by (try simp only [hl4_1]); (with_reducible repeat (first | apply Kd.R_alloc | apply Kd.R_drewN | apply Kd.R_drew)); exact Kd.R_mono (Kd.R_far (p := ⟨gb346, 1, none⟩) (Kd.R_far (p := ⟨gb346, 0, none⟩) (Kd.R_types HO338.out BK346.out (by decide)) (fun _ hk => hk.2) (.int .i64 t343)) (fun _ hk => hk.2) (.int .i64 t344)) (fun _ hk => hk.1.2)⟩, ⟨by (try simp only [hl4_1]); (with_reducible repeat (first | refine blk_drewN ?_ _ | refine blk_drew ?_ | refine blk_alloc ?_ _)); refine blk_far ?_ NB342_346.out _; (with_reducible repeat (first | refine blk_drewN ?_ _ | refine blk_drew ?_ | refine blk_alloc ?_ _)); refine blk_far ?_ NB342_346.out _; (with_reducible repeat (first | refine blk_drewN ?_ _ | refine blk_drew ?_ | refine blk_alloc ?_ _)); exact BK342.out⟩, ⟨by (try simp only [hl4_1]); (with_reducible repeat (first | refine blk_drewN ?_ _ | refine blk_drew ?_ | refine blk_alloc ?_ _)); refine blk_put (cs := #[.int .i64 t343, .int .i64 0]) ?_ 1 _ rfl; (with_reducible repeat (first | refine blk_drewN ?_ _ | refine blk_drew ?_ | refine blk_alloc ?_ _)); refine blk_put (cs := #[.int .i64 0, .int .i64 0]) ?_ 0 _ rfl; (with_reducible repeat (first | refine blk_drewN ?_ _ | refine blk_drew ?_ | refine blk_alloc ?_ _)); exact BK346.out⟩, ⟨by repeat (first | (with_reducible first | exact HB.out | apply below_alloc | apply pw_below_drewN | apply below_drew1 | refine below_set ?_ GE342.out | refine below_set ?_ GE346.out) | exact HB.out)⟩⟩
      ·rw [if_neg c33] at H
       have c33b0 : (t336 == 0) = false := beq_eq_false_iff_ne.mpr c33
       have c33b1 : (t336 != 0) = true := bne_iff_ne.mpr c33
       have H' := Aside0.mk H
       clear H
       go_wp2
       go_meet
       case rel => exact ⟨_, (true), (by first | rfl | (simp; done) | (simp [*]; done)), H', ⟨by have := HK1.out; first | omega | exact Nat.le_refl _⟩, ⟨by (try simp only [hl4_1]); (with_reducible repeat (first | apply Kd.R_alloc | apply Kd.R_drewN | apply Kd.R_drew)); exact Kd.R_mono (Kd.R_far (p := ⟨gb346, 1, none⟩) (Kd.R_far (p := ⟨gb346, 0, none⟩) (Kd.R_types HO334.out BK346.out (by decide)) (fun _ hk => hk.2) (.int .i64 t343)) (fun _ hk => hk.2) (.int .i64 t344)) (fun _ hk => hk.1.2)⟩, ⟨by (try simp only [hl4_1]); (with_reducible repeat (first | apply Kd.R_alloc | apply Kd.R_drewN | apply Kd.R_drew)); exact Kd.R_mono (Kd.R_far (p := ⟨gb346, 1, none⟩) (Kd.R_far (p := ⟨gb346, 0, none⟩) (Kd.R_types HO338.out BK346.out (by decide)) (fun _ hk => hk.2) (.int .i64 t343)) (fun _ hk => hk.2) (.int .i64 t344)) (fun _ hk => hk.1.2)⟩, ⟨by (try simp only [hl4_1]); (with_reducible repeat (first | refine blk_drewN ?_ _ | refine blk_drew ?_ | refine blk_alloc ?_ _)); refine blk_far ?_ NB342_346.out _; (with_reducible repeat (first | refine blk_drewN ?_ _ | refine blk_drew ?_ | refine blk_alloc ?_ _)); refine blk_far ?_ NB342_346.out _; (with_reducible repeat (first | refine blk_drewN ?_ _ | refine blk_drew ?_ | refine blk_alloc ?_ _)); exact BK342.out⟩, ⟨by (try simp only [hl4_1]); (with_reducible repeat (first | refine blk_drewN ?_ _ | refine blk_drew ?_ | refine blk_alloc ?_ _)); refine blk_put (cs := #[.int .i64 t343, .int .i64 0]) ?_ 1 _ rfl; (with_reducible repeat (first | refine blk_drewN ?_ _ | refine blk_drew ?_ | refine blk_alloc ?_ _)); refine blk_put (cs := #[.int .i64 0, .int .i64 0]) ?_ 0 _ rfl; (with_reducible repeat (first | refine blk_drewN ?_ _ | refine blk_drew ?_ | refine blk_alloc ?_ _)); exact BK346.out⟩, ⟨by repeat (first | (with_reducible first | exact HB.out | apply below_alloc | apply pw_below_drewN | apply below_drew1 | refine below_set ?_ GE342.out | refine below_set ?_ GE346.out) | exact HB.out)⟩⟩
     ·rw [if_neg c32] at H
      have c32b0 : (t332 == 0) = false := beq_eq_false_iff_ne.mpr c32
      have c32b1 : (t332 != 0) = true := bne_iff_ne.mpr c32
      (first | rw [c32b0] | (simp only [i64_w, i32_w]; rw [c32b0]) | skip)
      have H' := Aside0.mk H
      clear H
      go_wp2
      go_meet
      case rel => exact ⟨_, (true), (by first | rfl | (simp; done) | (simp [*]; done)), H', ⟨by have := HK1.out; first | omega | exact Nat.le_refl _⟩, ⟨by (try simp only [hl4_1]); (with_reducible repeat (first | apply Kd.R_alloc | apply Kd.R_drewN | apply Kd.R_drew)); exact Kd.R_mono (Kd.R_far (p := ⟨gb346, 1, none⟩) (Kd.R_far (p := ⟨gb346, 0, none⟩) (Kd.R_types HO334.out BK346.out (by decide)) (fun _ hk => hk.2) (.int .i64 t343)) (fun _ hk => hk.2) (.int .i64 t344)) (fun _ hk => hk.1.2)⟩, ⟨by (try simp only [hl4_1]); (with_reducible repeat (first | apply Kd.R_alloc | apply Kd.R_drewN | apply Kd.R_drew)); exact Kd.R_mono (Kd.R_far (p := ⟨gb346, 1, none⟩) (Kd.R_far (p := ⟨gb346, 0, none⟩) (Kd.R_types HO338.out BK346.out (by decide)) (fun _ hk => hk.2) (.int .i64 t343)) (fun _ hk => hk.2) (.int .i64 t344)) (fun _ hk => hk.1.2)⟩, ⟨by (try simp only [hl4_1]); (with_reducible repeat (first | refine blk_drewN ?_ _ | refine blk_drew ?_ | refine blk_alloc ?_ _)); refine blk_far ?_ NB342_346.out _; (with_reducible repeat (first | refine blk_drewN ?_ _ | refine blk_drew ?_ | refine blk_alloc ?_ _)); refine blk_far ?_ NB342_346.out _; (with_reducible repeat (first | refine blk_drewN ?_ _ | refine blk_drew ?_ | refine blk_alloc ?_ _)); exact BK342.out⟩, ⟨by (try simp only [hl4_1]); (with_reducible repeat (first | refine blk_drewN ?_ _ | refine blk_drew ?_ | refine blk_alloc ?_ _)); refine blk_put (cs := #[.int .i64 t343, .int .i64 0]) ?_ 1 _ rfl; (with_reducible repeat (first | refine blk_drewN ?_ _ | refine blk_drew ?_ | refine blk_alloc ?_ _)); refine blk_put (cs := #[.int .i64 0, .int .i64 0]) ?_ 0 _ rfl; (with_reducible repeat (first | refine blk_drewN ?_ _ | refine blk_drew ?_ | refine blk_alloc ?_ _)); exact BK346.out⟩, ⟨by repeat (first | (with_reducible first | exact HB.out | apply below_alloc | apply pw_below_drewN | apply below_drew1 | refine below_set ?_ GE342.out | refine below_set ?_ GE346.out) | exact HB.out)⟩⟩
    case rest =>
     clear HC22
     (try clear c1);(try clear p1);(try clear q1);(try clear hx1);(try clear c2);(try clear p2);(try clear c3);(try clear p3);(try clear q3);(try clear hx3);(try clear c6);(try clear c6b0);(try clear p6);(try clear c7);(try clear c7b0);(try clear c8);(try clear c8b0);(try clear c9);(try clear c9b0);(try clear c10);(try clear c10b0);(try clear c11);(try clear c11b0);(try clear c12);(try clear c12b0);(try clear c13);(try clear c13b0);(try clear p14);(try clear q14);(try clear hx14);(try clear hf14);(try clear c16);(try clear q16);(try clear c20);(try clear c22);(try clear c30);(try clear c32);(try clear c32b0);(try clear c32b1);(try clear p32);(try clear q32);(try clear hx32);(try clear c33);(try clear c33b0);(try clear c33b1);(try clear c34);(try clear c34b0);(try clear c34b1);(try clear c35);(try clear c35b0);(try clear c35b1);(try clear c36);(try clear c36b0);(try clear c37);(try clear c39)
     (try clear hcz27_0);(try clear hcz27_1);(try clear hcz31_0);(try clear hcz31_1);(try clear hcz38_0);(try clear hcz38_1);(try clear hcz40_0);(try clear hcz40_1);(try clear hcz41_0);(try clear hcz41_1);(try clear hfz27_0);(try clear hfz27_1);(try clear hfz31_0);(try clear hfz31_1);(try clear hfz38_0);(try clear hfz38_1);(try clear hfz40_0);(try clear hfz40_1);(try clear hfz41_0);(try clear hfz41_1);(try clear hx14_0);(try clear hx324_0);(try clear hx325_0);(try clear hx326_0);(try clear hx327_0);(try clear p14);(try clear p2);(try clear p3);(try clear p324);(try clear p325);(try clear p326);(try clear p327);(try clear q14);(try clear q3);(try clear q324);(try clear q325);(try clear q326);(try clear q327)
     obtain ⟨kq, x91_21, rfl, HA, HJ21, HO_7, HO_9, BK342, BK346, HB⟩ := hcut
     cases kq with
     | zero => exact absurd HA.out (by simp [cutroomlaw28_LoudnessScales.j2])
     | succ kj21 =>
      have H := HA.out
      clear HA
      simp only [cutroomlaw28_LoudnessScales.j2] at H
      by_cases c42 : x91_21 = true
      ·subst c42
       have H1 : (some false) = some r := by rw [if_pos rfl] at H; exact H
       clear H
       have H := H1
       clear H1
       obtain rfl := Option.some.inj H
       go_wp2
       go_ret
       exact ⟨by first | rfl | (simp [errW_none, errW_some] <;> rfl) | (simp [*, errW_none, errW_some] <;> rfl), below_step HBz.out (by repeat (first | (with_reducible first | exact HB.out | apply below_alloc | apply pw_below_drewN | apply below_drew1 | refine below_set ?_ GE342.out | refine below_set ?_ GE346.out) | exact HB.out))⟩
      ·replace c42 := Bool.eq_false_iff.mpr c42
       subst c42
       have H1 : ((cutroomref20_SameInts.f kj21 t331 t335).bind fun t347 => (if t347 = true then (if (wrap64 ((wrap64 (4 * t339)) * t344)) = (wrap64 (t343 * t340)) then ((cutroomlaw28_awake.f kj21).bind fun t348 => (some t348)) else (some false)) else ((cutroomlaw28_awake.f kj21).bind fun t349 => (some t349)))) = some r := by rw [if_neg (show ¬ (false = true) by decide)] at H; exact H
       clear H
       have H := H1
       clear H1
       replace H := Option.bind_eq_some_iff.mp H
       obtain ⟨t347, A430, H⟩ := H
       replace H : (if t347 = true then (if (wrap64 ((wrap64 (4 * t339)) * t344)) = (wrap64 (t343 * t340)) then ((cutroomlaw28_awake.f kj21).bind fun t348 => (some t348)) else (some false)) else ((cutroomlaw28_awake.f kj21).bind fun t349 => (some t349))) = some r := H
       have A43 := Aside0.mk A430
       clear A430
       by_cases c44 : t347 = true
       ·subst c44
        have H1 : (if (wrap64 ((wrap64 (4 * t339)) * t344)) = (wrap64 (t343 * t340)) then ((cutroomlaw28_awake.f kj21).bind fun t348 => (some t348)) else (some false)) = some r := by rw [if_pos rfl] at H; exact H
        clear H
        have H := H1
        clear H1
        by_cases c45 : (wrap64 ((wrap64 (4 * t339)) * t344)) = (wrap64 (t343 * t340))
        ·rw [if_pos c45] at H
         have c45b0 : ((wrap64 ((wrap64 (4 * t339)) * t344)) == (wrap64 (t343 * t340))) = true := beq_iff_eq.mpr c45
         have c45b1 : ((wrap64 ((wrap64 (4 * t339)) * t344)) != (wrap64 (t343 * t340))) = false := bne_eq_false_iff_eq.mpr c45
         clear c45
         replace H := Option.bind_eq_some_iff.mp H
         obtain ⟨t348, A460, H⟩ := H
         replace H : (some t348) = some r := H
         have A46 := Aside0.mk A460
         clear A460
         obtain rfl := Option.some.inj H
         obtain ⟨Ao47, co47, eo47⟩ := Kd.R_slice HO_7.out
         subst eo47
         obtain ⟨Ao48, co48, eo48⟩ := Kd.R_slice HO_9.out
         subst eo48
         go_wp2_with (first | ((with_reducible refine gate_callee (f := 24) rfl ?_); refine goesL_ (some 94) rfl rfl Try.func24 (by kernel_rfl) rfl #[.slice Ao47 t331.length co47, .slice Ao48 t335.length co48] rfl (by (try simp only [List.map_toArray, List.map_cons, List.map_nil]); first | done | rfl | (simp only [List.length_drop, List.length_take]; rfl)) ?_; (with_reducible refine (cutroomref20_SameInts.calls kj21 _ _ t331 _ _ t335 true _ ?side1 ?side2 ?side3 ?side4 A43.out).mono ?_); (case side1 => repeat (first | exact (Kd.R_reads' HO_7.out).2.2 | (with_reducible refine Kd.C_alloc ?_ _) | (with_reducible refine Kd.C_drewN ?_ _) | (with_reducible refine Kd.C_drew ?_))); (case side2 => exact (Kd.R_reads' HO_7.out).2.1); (case side3 => repeat (first | exact (Kd.R_reads' HO_9.out).2.2 | (with_reducible refine Kd.C_alloc ?_ _) | (with_reducible refine Kd.C_drewN ?_ _) | (with_reducible refine Kd.C_drew ?_))); (case side4 => exact (Kd.R_reads' HO_9.out).2.1); rintro e w' ⟨rfl, ⟨nd, rfl⟩⟩; refine ⟨_, rfl, ?_⟩; have hnb49 := NB342_346.out; have hnc49 := NB346_342.out; have hcz50_0 : wc.cell? ⟨gb342, 0, none⟩ = some (.int .i64 t339) := (blk_cell BK342.out 0).trans rfl; have hcz50_1 : wc.cell? ⟨gb342, 1, none⟩ = some (.int .i64 t340) := (blk_cell BK342.out 1).trans rfl; have hfz50_0 := blk_frozen BK342.out 0; have hfz50_1 := blk_frozen BK342.out 1; have hcz51_0 : wc.cell? ⟨gb346, 0, none⟩ = some (.int .i64 t343) := (blk_cell BK346.out 0).trans rfl; have hcz51_1 : wc.cell? ⟨gb346, 1, none⟩ = some (.int .i64 t344) := (blk_cell BK346.out 1).trans rfl; have hfz51_0 := blk_frozen BK346.out 0; have hfz51_1 := blk_frozen BK346.out 1) | (go_at_call 19; (with_reducible refine (cutroomlaw28_awake.calls kj21  t348 _ A46.out).mono ?_); rintro e w52 ⟨rfl, hb⟩; have n0_ := Aside0.mk (Kd.R_below (by (with_reducible repeat (first | apply Kd.R_alloc | apply Kd.R_drewN | apply Kd.R_drew)); exact HO_7.out) hb); have n1_ := Aside0.mk (Kd.R_below (by (with_reducible repeat (first | apply Kd.R_alloc | apply Kd.R_drewN | apply Kd.R_drew)); exact HO_9.out) hb); have n2_ := Aside0.mk (blk_below (g := gb342) (o := .cells #[.int .i64 t339, .int .i64 t340] 37 (0, 0)) (by (with_reducible repeat (first | refine blk_drewN ?_ _ | refine blk_drew ?_ | refine blk_alloc ?_ _)); exact BK342.out) hb); have n3_ := Aside0.mk (blk_below (g := gb346) (o := .cells #[.int .i64 t343, .int .i64 t344] 37 (0, 0)) (by (with_reducible repeat (first | refine blk_drewN ?_ _ | refine blk_drew ?_ | refine blk_alloc ?_ _)); exact BK346.out) hb); have n4_ := Aside0.mk (below_step (by repeat (first | (with_reducible first | exact HB.out | apply below_alloc | apply pw_below_drewN | apply below_drew1 | refine below_set ?_ GE342.out | refine below_set ?_ GE346.out) | exact HB.out)) hb); clear HO_7; clear HO_9; clear BK342; clear BK346; clear HB; have HO_7 := n0_; have HO_9 := n1_; have BK342 := n2_; have BK346 := n3_; have HB := n4_; clear n0_ n1_ n2_ n3_ n4_; (try clear hb); (try clear hb2); (try clear hk); (try clear hi)))
         go_ret
         exact ⟨by first | rfl | (simp [errW_none, errW_some] <;> rfl) | (simp [*, errW_none, errW_some] <;> rfl), below_step HBz.out (by repeat (first | (with_reducible first | exact HB.out | apply below_alloc | apply pw_below_drewN | apply below_drew1 | refine below_set ?_ GE342.out | refine below_set ?_ GE346.out) | exact HB.out))⟩
        ·rw [if_neg c45] at H
         have c45b0 : ((wrap64 ((wrap64 (4 * t339)) * t344)) == (wrap64 (t343 * t340))) = false := beq_eq_false_iff_ne.mpr c45
         have c45b1 : ((wrap64 ((wrap64 (4 * t339)) * t344)) != (wrap64 (t343 * t340))) = true := bne_iff_ne.mpr c45
         obtain rfl := Option.some.inj H
         obtain ⟨Ao53, co53, eo53⟩ := Kd.R_slice HO_7.out
         subst eo53
         obtain ⟨Ao54, co54, eo54⟩ := Kd.R_slice HO_9.out
         subst eo54
         go_wp2_with (first | ((with_reducible refine gate_callee (f := 24) rfl ?_); refine goesL_ (some 94) rfl rfl Try.func24 (by kernel_rfl) rfl #[.slice Ao53 t331.length co53, .slice Ao54 t335.length co54] rfl (by (try simp only [List.map_toArray, List.map_cons, List.map_nil]); first | done | rfl | (simp only [List.length_drop, List.length_take]; rfl)) ?_; (with_reducible refine (cutroomref20_SameInts.calls kj21 _ _ t331 _ _ t335 true _ ?side1 ?side2 ?side3 ?side4 A43.out).mono ?_); (case side1 => repeat (first | exact (Kd.R_reads' HO_7.out).2.2 | (with_reducible refine Kd.C_alloc ?_ _) | (with_reducible refine Kd.C_drewN ?_ _) | (with_reducible refine Kd.C_drew ?_))); (case side2 => exact (Kd.R_reads' HO_7.out).2.1); (case side3 => repeat (first | exact (Kd.R_reads' HO_9.out).2.2 | (with_reducible refine Kd.C_alloc ?_ _) | (with_reducible refine Kd.C_drewN ?_ _) | (with_reducible refine Kd.C_drew ?_))); (case side4 => exact (Kd.R_reads' HO_9.out).2.1); rintro e w' ⟨rfl, ⟨nd, rfl⟩⟩; refine ⟨_, rfl, ?_⟩; have hnb55 := NB342_346.out; have hnc55 := NB346_342.out; have hcz56_0 : wc.cell? ⟨gb342, 0, none⟩ = some (.int .i64 t339) := (blk_cell BK342.out 0).trans rfl; have hcz56_1 : wc.cell? ⟨gb342, 1, none⟩ = some (.int .i64 t340) := (blk_cell BK342.out 1).trans rfl; have hfz56_0 := blk_frozen BK342.out 0; have hfz56_1 := blk_frozen BK342.out 1; have hcz57_0 : wc.cell? ⟨gb346, 0, none⟩ = some (.int .i64 t343) := (blk_cell BK346.out 0).trans rfl; have hcz57_1 : wc.cell? ⟨gb346, 1, none⟩ = some (.int .i64 t344) := (blk_cell BK346.out 1).trans rfl; have hfz57_0 := blk_frozen BK346.out 0; have hfz57_1 := blk_frozen BK346.out 1))
         go_ret
         exact ⟨by first | rfl | (simp [errW_none, errW_some] <;> rfl) | (simp [*, errW_none, errW_some] <;> rfl), below_step HBz.out (by repeat (first | (with_reducible first | exact HB.out | apply below_alloc | apply pw_below_drewN | apply below_drew1 | refine below_set ?_ GE342.out | refine below_set ?_ GE346.out) | exact HB.out))⟩
       ·replace c44 := Bool.eq_false_iff.mpr c44
        subst c44
        have H1 : ((cutroomlaw28_awake.f kj21).bind fun t349 => (some t349)) = some r := by rw [if_neg (show ¬ (false = true) by decide)] at H; exact H
        clear H
        have H := H1
        clear H1
        replace H := Option.bind_eq_some_iff.mp H
        obtain ⟨t349, A580, H⟩ := H
        replace H : (some t349) = some r := H
        have A58 := Aside0.mk A580
        clear A580
        obtain rfl := Option.some.inj H
        obtain ⟨Ao59, co59, eo59⟩ := Kd.R_slice HO_7.out
        subst eo59
        obtain ⟨Ao60, co60, eo60⟩ := Kd.R_slice HO_9.out
        subst eo60
        go_wp2_with (first | ((with_reducible refine gate_callee (f := 24) rfl ?_); refine goesL_ (some 94) rfl rfl Try.func24 (by kernel_rfl) rfl #[.slice Ao59 t331.length co59, .slice Ao60 t335.length co60] rfl (by (try simp only [List.map_toArray, List.map_cons, List.map_nil]); first | done | rfl | (simp only [List.length_drop, List.length_take]; rfl)) ?_; (with_reducible refine (cutroomref20_SameInts.calls kj21 _ _ t331 _ _ t335 false _ ?side1 ?side2 ?side3 ?side4 A43.out).mono ?_); (case side1 => repeat (first | exact (Kd.R_reads' HO_7.out).2.2 | (with_reducible refine Kd.C_alloc ?_ _) | (with_reducible refine Kd.C_drewN ?_ _) | (with_reducible refine Kd.C_drew ?_))); (case side2 => exact (Kd.R_reads' HO_7.out).2.1); (case side3 => repeat (first | exact (Kd.R_reads' HO_9.out).2.2 | (with_reducible refine Kd.C_alloc ?_ _) | (with_reducible refine Kd.C_drewN ?_ _) | (with_reducible refine Kd.C_drew ?_))); (case side4 => exact (Kd.R_reads' HO_9.out).2.1); rintro e w' ⟨rfl, ⟨nd, rfl⟩⟩; refine ⟨_, rfl, ?_⟩) | (go_at_call 19; (with_reducible refine (cutroomlaw28_awake.calls kj21  t349 _ A58.out).mono ?_); rintro e w61 ⟨rfl, hb⟩; have n0_ := Aside0.mk (Kd.R_below (by (with_reducible repeat (first | apply Kd.R_alloc | apply Kd.R_drewN | apply Kd.R_drew)); exact HO_7.out) hb); have n1_ := Aside0.mk (Kd.R_below (by (with_reducible repeat (first | apply Kd.R_alloc | apply Kd.R_drewN | apply Kd.R_drew)); exact HO_9.out) hb); have n2_ := Aside0.mk (blk_below (g := gb342) (o := .cells #[.int .i64 t339, .int .i64 t340] 37 (0, 0)) (by (with_reducible repeat (first | refine blk_drewN ?_ _ | refine blk_drew ?_ | refine blk_alloc ?_ _)); exact BK342.out) hb); have n3_ := Aside0.mk (blk_below (g := gb346) (o := .cells #[.int .i64 t343, .int .i64 t344] 37 (0, 0)) (by (with_reducible repeat (first | refine blk_drewN ?_ _ | refine blk_drew ?_ | refine blk_alloc ?_ _)); exact BK346.out) hb); have n4_ := Aside0.mk (below_step (by repeat (first | (with_reducible first | exact HB.out | apply below_alloc | apply pw_below_drewN | apply below_drew1 | refine below_set ?_ GE342.out | refine below_set ?_ GE346.out) | exact HB.out)) hb); clear HO_7; clear HO_9; clear BK342; clear BK346; clear HB; have HO_7 := n0_; have HO_9 := n1_; have BK342 := n2_; have BK346 := n3_; have HB := n4_; clear n0_ n1_ n2_ n3_ n4_; (try clear hb); (try clear hb2); (try clear hk); (try clear hi)))
        go_ret
        exact ⟨by first | rfl | (simp [errW_none, errW_some] <;> rfl) | (simp [*, errW_none, errW_some] <;> rfl), below_step HBz.out (by repeat (first | (with_reducible first | exact HB.out | apply below_alloc | apply pw_below_drewN | apply below_drew1 | refine below_set ?_ GE342.out | refine below_set ?_ GE346.out) | exact HB.out))⟩

/-- THE ONE PURE STATEMENT of cutroomlaw28_LoudnessScales: yours. -/
def cutroomlaw28_LoudnessScales.Pure : Prop := ∀ l0 : List Int, ∃ k, cutroomlaw28_LoudnessScales.f k l0 = some true

end Go.Proofs.Ytjcjbbcamkkeiaa.P
