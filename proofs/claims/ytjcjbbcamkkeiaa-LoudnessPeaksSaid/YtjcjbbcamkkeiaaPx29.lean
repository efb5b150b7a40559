-- Written by this session's own program (wip/tools/myprint.py), which runs the kit's print with turns of its own: not a text of the kit's print.sh.
import Derived.Test.YtjcjbbcamkkeiaaPx0
import Derived.Test.YtjcjbbcamkkeiaaPx33
import Derived.Test.YtjcjbbcamkkeiaaPx43
import Derived.Test.YtjcjbbcamkkeiaaPx52
namespace Go.Proofs.Ytjcjbbcamkkeiaa.P
open Go.RowKit Go.Proofs.YtjcjbbcamkkeiaaW.PrintWords Go.Proofs.YtjcjbbcamkkeiaaW.PrintLast Go.Proofs.YtjcjbbcamkkeiaaW.PrintMore
attribute [local go_sem] max2_int min2_int max_two min_two max_three min_three max_four min_four   -- for this text's walks alone
set_option linter.unusedVariables false
set_option linter.unusedSimpArgs false

/-! ### loudness_Apply: function 28 -/
mutual
def loudness_Apply.j0 : Nat → List (List Int) → Int → Bool → Option ((List (List Int)) × Int)
 | 0, _, _, _ => none
 | k + 1, x0, x1, x24 => if x24 = true then (some (([] : List (List Int)), 1)) else (if 0 ≤ (x0.length : Int) then (if ((x0.length : Int) : Int).toNat ≤ 11728124029610 then (loudness_Apply.l0 k x1 (List.replicate ((x0.length : Int) : Int).toNat []) x0 (x0.length : Int) 0) else (none)) else (none))
def loudness_Apply.l0 : Nat → Int → List (List Int) → List (List Int) → Int → Int → Option ((List (List Int)) × Int)
 | 0, _, _, _, _, _ => none
 | k + 1, x1, x6, x28, x29, x30 => if x30 < x29 then (if 0 ≤ x30 then (if x30 < (x28.length : Int) then (if 0 ≤ ((rd_L2 x28 x30).length : Int) then (if (((rd_L2 x28 x30).length : Int) : Int).toNat ≤ 140737488355328 then (if x30 < (x6.length : Int) then (loudness_Apply.l1 k x1 (x6.set (x30 : Int).toNat (List.replicate (((rd_L2 x28 x30).length : Int) : Int).toNat 0)) x30 x28 x29 x30 (rd_L2 x28 x30) ((rd_L2 x28 x30).length : Int) 0) else (none)) else (none)) else (none)) else (none)) else (none)) else (some (x6, 0))
def loudness_Apply.l1 : Nat → Int → List (List Int) → Int → List (List Int) → Int → Int → List Int → Int → Int → Option ((List (List Int)) × Int)
 | 0, _, _, _, _, _, _, _, _, _ => none
 | k + 1, x1, x6, x7, x28, x29, x30, x41, x42, x43 => if x43 < x42 then (if 0 ≤ x43 then (if x43 < (x41.length : Int) then ((rational_MulDiv.f k (wrap64 ((wrap64 ((wrap64 (rd x41 x43)) * x1)) + 2048)) 1 4096).bind fun bt498 => (if 0 ≤ x7 then (if x7 < (x6.length : Int) then ((loudness_limited_int64.f bt498.1 (-32768) 32767).bind fun t502 => (if x43 < ((rd_L2 x6 x7).length : Int) then (loudness_Apply.l1 k x1 (x6.set (x7 : Int).toNat ((rd_L2 x6 x7).set (x43 : Int).toNat (IntKind.i16.wrap (t502)))) x7 x28 x29 x30 x41 x42 (wrap64 (x43 + 1))) else (none))) else (none)) else (none))) else (none)) else (none)) else (loudness_Apply.l0 k x1 x6 x28 x29 (wrap64 (x30 + 1)))
end
def loudness_Apply.f (k : Nat) (l0 : List (List Int)) (a1 : Int) : Option ((List (List Int)) × Int) := (loudness_proper.f k l0).bind fun t488 => (if t488 = true then (if a1 < 0 then (loudness_Apply.j0 k l0 a1 true) else (loudness_Apply.j0 k l0 a1 (decide (a1 > 65536)))) else (loudness_Apply.j0 k l0 a1 true))
theorem loudness_Apply.mono_l : ∀ k, (∀ y0 y1 y2, LeO (loudness_Apply.j0 k y0 y1 y2) (loudness_Apply.j0 (k + 1) y0 y1 y2)) ∧ (∀ y0 y1 y2 y3 y4, LeO (loudness_Apply.l0 k y0 y1 y2 y3 y4) (loudness_Apply.l0 (k + 1) y0 y1 y2 y3 y4)) ∧ (∀ y0 y1 y2 y3 y4 y5 y6 y7 y8, LeO (loudness_Apply.l1 k y0 y1 y2 y3 y4 y5 y6 y7 y8) (loudness_Apply.l1 (k + 1) y0 y1 y2 y3 y4 y5 y6 y7 y8))
 | 0 => ⟨fun _ _ _ r h => by simp [loudness_Apply.j0] at h, fun _ _ _ _ _ r h => by simp [loudness_Apply.l0] at h, fun _ _ _ _ _ _ _ _ _ r h => by simp [loudness_Apply.l1] at h⟩
 | k + 1 => by
  obtain ⟨ih0, ih1, ih2⟩ := loudness_Apply.mono_l k
  refine ⟨?_, ?_, ?_⟩
  ·intro y0 y1 y2
   unfold loudness_Apply.j0
   repeat' first
   | (with_reducible exact ih0 _ _ _)
   | (with_reducible exact ih1 _ _ _ _ _)
   | (with_reducible exact ih2 _ _ _ _ _ _ _ _ _)
   | (with_reducible exact loudness_proper.mono _ _)
   | (with_reducible exact rational_MulDiv.mono _ _ _ _)
   | (with_reducible exact LeO.refl _)
   | (with_reducible exact LeO.none _)
   | (with_reducible refine LeO.ite ?_ ?_)
   | (with_reducible refine LeO.bind ?_ (fun _ => ?_))
   | exact ih0 _ _ _
   | exact ih1 _ _ _ _ _
   | exact ih2 _ _ _ _ _ _ _ _ _
   | exact loudness_proper.mono _ _
   | exact rational_MulDiv.mono _ _ _ _
   | exact LeO.none _
   | refine LeO.ite ?_ ?_
   | refine LeO.bind ?_ (fun _ => ?_)
  ·intro y0 y1 y2 y3 y4
   unfold loudness_Apply.l0
   repeat' first
   | (with_reducible exact ih0 _ _ _)
   | (with_reducible exact ih1 _ _ _ _ _)
   | (with_reducible exact ih2 _ _ _ _ _ _ _ _ _)
   | (with_reducible exact loudness_proper.mono _ _)
   | (with_reducible exact rational_MulDiv.mono _ _ _ _)
   | (with_reducible exact LeO.refl _)
   | (with_reducible exact LeO.none _)
   | (with_reducible refine LeO.ite ?_ ?_)
   | (with_reducible refine LeO.bind ?_ (fun _ => ?_))
   | exact ih0 _ _ _
   | exact ih1 _ _ _ _ _
   | exact ih2 _ _ _ _ _ _ _ _ _
   | exact loudness_proper.mono _ _
   | exact rational_MulDiv.mono _ _ _ _
   | exact LeO.none _
   | refine LeO.ite ?_ ?_
   | refine LeO.bind ?_ (fun _ => ?_)
  ·intro y0 y1 y2 y3 y4 y5 y6 y7 y8
   unfold loudness_Apply.l1
   repeat' first
   | (with_reducible exact ih0 _ _ _)
   | (with_reducible exact ih1 _ _ _ _ _)
   | (with_reducible exact ih2 _ _ _ _ _ _ _ _ _)
   | (with_reducible exact loudness_proper.mono _ _)
   | (with_reducible exact rational_MulDiv.mono _ _ _ _)
   | (with_reducible exact LeO.refl _)
   | (with_reducible exact LeO.none _)
   | (with_reducible refine LeO.ite ?_ ?_)
   | (with_reducible refine LeO.bind ?_ (fun _ => ?_))
   | exact ih0 _ _ _
   | exact ih1 _ _ _ _ _
   | exact ih2 _ _ _ _ _ _ _ _ _
   | exact loudness_proper.mono _ _
   | exact rational_MulDiv.mono _ _ _ _
   | exact LeO.none _
   | refine LeO.ite ?_ ?_
   | refine LeO.bind ?_ (fun _ => ?_)
theorem loudness_Apply.mono : ∀ a0 a1 k, LeO (loudness_Apply.f k a0 a1) (loudness_Apply.f (k + 1) a0 a1) := by
 intro a0 a1 k
 obtain ⟨ih0, ih1, ih2⟩ := loudness_Apply.mono_l k
 unfold loudness_Apply.f
 repeat' first
   | (with_reducible exact ih0 _ _ _)
   | (with_reducible exact ih1 _ _ _ _ _)
   | (with_reducible exact ih2 _ _ _ _ _ _ _ _ _)
   | (with_reducible exact loudness_proper.mono _ _)
   | (with_reducible exact rational_MulDiv.mono _ _ _ _)
   | (with_reducible exact LeO.refl _)
   | (with_reducible exact LeO.none _)
   | (with_reducible refine LeO.ite ?_ ?_)
   | (with_reducible refine LeO.bind ?_ (fun _ => ?_))
   | exact ih0 _ _ _
   | exact ih1 _ _ _ _ _
   | exact ih2 _ _ _ _ _ _ _ _ _
   | exact loudness_proper.mono _ _
   | exact rational_MulDiv.mono _ _ _ _
   | exact LeO.none _
   | refine LeO.ite ?_ ?_
   | refine LeO.bind ?_ (fun _ => ?_)
def loudness_Apply.T12 : Bool × List (List Nat × List Nat) := (true, [([], []), ([], []), ([0, 1], [0, 1]), ([2], [2]), ([], []), ([], []), ([5], [5]), ([6], [6]), ([3, 4, 0, 1, 2, 3, 4, 5, 6, 7], [3, 4]), ([8, 7, 6, 0, 1, 2, 3, 4, 5, 6, 7], [7, 8])])
def loudness_Apply.B12 : List Nat := [0, 0, 3, 7, 0, 0, 32, 96, 255, 511]
theorem loudness_Apply.tab12 : rtab .any (opsOf Try.f28 12) = loudness_Apply.T12 := by kernel_rfl
theorem loudness_Apply.bits12 : waitsOk loudness_Apply.T12.2 loudness_Apply.B12 = true := by kernel_rfl
set_option maxHeartbeats 8000000 in
set_option maxRecDepth 100000 in
theorem loudness_Apply.calls (k : Nat) (A0 : Option Addr) (c0 : Nat) (l0 : List (List Int)) (a1 : Int) (r1 : List (List Int)) (r2 : Int) (w : World) (hr0 : Kd.C (Kd.slice 48 (Kd.int .i16)) w A0 l0.length l0) (hc0 : l0.length ≤ c0) (h : loudness_Apply.f k l0 a1 = some (r1, r2)) :
  Calls Try.prog 28 #[.slice A0 l0.length c0, .int .i64 a1] w fun e w' => ∃ v0_ : Value, e = .returned (.tuple #[v0_, .int .i64 r2]) ∧ Kd.S (Kd.slice 48 (Kd.int .i16)) 47 w' w.heap.size (fun _ => True) v0_ r1 ∧ Below w.heap.size w w' := by
 have HR0 := Aside0.mk hr0
 have HC0 := Aside0.mk hc0
 clear hr0 hc0
 have HB := Aside0.mk (Below.refl w.heap.size w)
 have H : ((loudness_proper.f k l0).bind fun t488 => (if t488 = true then (if a1 < 0 then (loudness_Apply.j0 k l0 a1 true) else (loudness_Apply.j0 k l0 a1 (decide (a1 > 65536)))) else (loudness_Apply.j0 k l0 a1 true))) = some (r1, r2) := h
 clear h
 have HC3 := Aside0.mk H
 clear H
 go_enter Try.func28, Try.ntmps28
 go_upto_region 1 with (fail)
 go_cut [24] (fun v24 wc => ∃ (kq : Nat) (x24_2 : Bool), v24 = .bool x24_2 ∧ Aside0 (loudness_Apply.j0 kq l0 a1 x24_2 = some (r1, r2)) ∧ Aside0 (kq ≤ k) ∧ Aside0 (Below w.heap.size w wc))
 case first =>
  have H := HC3.out
  clear HC3
  replace H := Option.bind_eq_some_iff.mp H
  obtain ⟨t488, A40, H⟩ := H
  replace H : (if t488 = true then (if a1 < 0 then (loudness_Apply.j0 k l0 a1 true) else (loudness_Apply.j0 k l0 a1 (decide (a1 > 65536)))) else (loudness_Apply.j0 k l0 a1 true)) = some (r1, r2) := H
  have A4 := Aside0.mk A40
  clear A40
  by_cases c5 : t488 = true
  ·subst c5
   have H1 : (if a1 < 0 then (loudness_Apply.j0 k l0 a1 true) else (loudness_Apply.j0 k l0 a1 (decide (a1 > 65536)))) = some (r1, r2) := by rw [if_pos rfl] at H; exact H
   clear H
   have H := H1
   clear H1
   by_cases c6 : a1 < 0
   ·rw [if_pos c6] at H
    have c6b0 : decide (a1 < 0) = true := decide_eq_true c6
    clear c6
    (first | rw [c6b0] | (simp only [i64_w, i32_w]; rw [c6b0]) | skip)
    have H' := Aside0.mk H
    clear H
    go_wp2_with (first | ((with_reducible refine gate_callee (f := 32) rfl ?_); refine goesL_ (some 15) rfl rfl Try.func32 (by kernel_rfl) rfl #[.slice A0 l0.length c0] rfl (by (try simp only [List.map_toArray, List.map_cons, List.map_nil]); first | done | rfl | (simp only [List.length_drop, List.length_take]; rfl)) ?_; (with_reducible refine (loudness_proper.calls k _ _ l0 true _ ?side1 ?side2 A4.out).mono ?_); (case side1 => repeat (first | exact (Kd.C_below HR0.out HB.out) | (with_reducible refine Kd.C_alloc ?_ _) | (with_reducible refine Kd.C_drewN ?_ _) | (with_reducible refine Kd.C_drew ?_))); (case side2 => exact HC0.out); rintro e w' ⟨rfl, ⟨nd, rfl⟩⟩; refine ⟨_, rfl, ?_⟩))
    go_meet
    case rel => exact ⟨_, (true), (by first | rfl | (simp; done) | (simp [*]; done)), H', ⟨by first | omega | exact Nat.le_refl _⟩, ⟨by repeat (first | (with_reducible first | exact HB.out | apply below_alloc | apply pw_below_drewN | apply below_drew1) | exact HB.out)⟩⟩
   ·rw [if_neg c6] at H
    have c6b0 : decide (a1 < 0) = false := decide_eq_false c6
    clear c6
    (first | rw [c6b0] | (simp only [i64_w, i32_w]; rw [c6b0]) | skip)
    have H' := Aside0.mk H
    clear H
    go_wp2_with (first | ((with_reducible refine gate_callee (f := 32) rfl ?_); refine goesL_ (some 15) rfl rfl Try.func32 (by kernel_rfl) rfl #[.slice A0 l0.length c0] rfl (by (try simp only [List.map_toArray, List.map_cons, List.map_nil]); first | done | rfl | (simp only [List.length_drop, List.length_take]; rfl)) ?_; (with_reducible refine (loudness_proper.calls k _ _ l0 true _ ?side1 ?side2 A4.out).mono ?_); (case side1 => repeat (first | exact (Kd.C_below HR0.out HB.out) | (with_reducible refine Kd.C_alloc ?_ _) | (with_reducible refine Kd.C_drewN ?_ _) | (with_reducible refine Kd.C_drew ?_))); (case side2 => exact HC0.out); rintro e w' ⟨rfl, ⟨nd, rfl⟩⟩; refine ⟨_, rfl, ?_⟩))
    go_meet
    case rel => exact ⟨_, (decide (a1 > 65536)), (by first | rfl | (simp; done) | (simp [*]; done)), H', ⟨by first | omega | exact Nat.le_refl _⟩, ⟨by repeat (first | (with_reducible first | exact HB.out | apply below_alloc | apply pw_below_drewN | apply below_drew1) | exact HB.out)⟩⟩
  ·replace c5 := Bool.eq_false_iff.mpr c5
   subst c5
   have H1 : (loudness_Apply.j0 k l0 a1 true) = some (r1, r2) := by rw [if_neg (show ¬ (false = true) by decide)] at H; exact H
   clear H
   have H := H1
   clear H1
   have H' := Aside0.mk H
   clear H
   go_wp2_with (first | ((with_reducible refine gate_callee (f := 32) rfl ?_); refine goesL_ (some 15) rfl rfl Try.func32 (by kernel_rfl) rfl #[.slice A0 l0.length c0] rfl (by (try simp only [List.map_toArray, List.map_cons, List.map_nil]); first | done | rfl | (simp only [List.length_drop, List.length_take]; rfl)) ?_; (with_reducible refine (loudness_proper.calls k _ _ l0 false _ ?side1 ?side2 A4.out).mono ?_); (case side1 => repeat (first | exact (Kd.C_below HR0.out HB.out) | (with_reducible refine Kd.C_alloc ?_ _) | (with_reducible refine Kd.C_drewN ?_ _) | (with_reducible refine Kd.C_drew ?_))); (case side2 => exact HC0.out); rintro e w' ⟨rfl, ⟨nd, rfl⟩⟩; refine ⟨_, rfl, ?_⟩))
   go_meet
   case rel => exact ⟨_, (true), (by first | rfl | (simp; done) | (simp [*]; done)), H', ⟨by first | omega | exact Nat.le_refl _⟩, ⟨by repeat (first | (with_reducible first | exact HB.out | apply below_alloc | apply pw_below_drewN | apply below_drew1) | exact HB.out)⟩⟩
 case rest =>
  clear HC3
  (try clear c2);(try clear p2);(try clear c3);(try clear c5);(try clear c6);(try clear c6b0)
  obtain ⟨kq, x24_2, rfl, HA, HJ2, HB⟩ := hcut
  cases kq with
  | zero => exact absurd HA.out (by simp [loudness_Apply.j0])
  | succ kj2 =>
   have H := HA.out
   clear HA
   simp only [loudness_Apply.j0] at H
   by_cases c7 : x24_2 = true
   ·subst c7
    have H1 : (some (([] : List (List Int)), 1)) = some (r1, r2) := by rw [if_pos rfl] at H; exact H
    clear H
    have H := H1
    clear H1
    simp only [Option.some.injEq, Prod.mk.injEq] at H
    obtain ⟨rfl, rfl⟩ := H
    go_wp2
    go_ret2
    exact ⟨_, by first | rfl | (simp [errW_none, errW_some] <;> rfl) | (simp [*, errW_none, errW_some] <;> rfl), by first | exact Kd.S_nil _ _ _ _ _ | exact Kd.N_nil _ _ _ _ _ | exact Kd.V_nil _ _ _ _ _ | exact Kd.Q_nil _ _ _ _ _ | exact Kd.R_nil _ _ _ _ _, by repeat (first | (with_reducible first | exact HB.out | apply below_alloc | apply pw_below_drewN | apply below_drew1) | exact HB.out)⟩
   ·replace c7 := Bool.eq_false_iff.mpr c7
    subst c7
    have H1 : (if 0 ≤ (l0.length : Int) then (if ((l0.length : Int) : Int).toNat ≤ 11728124029610 then (loudness_Apply.l0 kj2 a1 (List.replicate ((l0.length : Int) : Int).toNat []) l0 (l0.length : Int) 0) else (none)) else (none)) = some (r1, r2) := by rw [if_neg (show ¬ (false = true) by decide)] at H; exact H
    clear H
    have H := H1
    clear H1
    by_cases c8 : 0 ≤ (l0.length : Int)
    ·rw [if_pos c8] at H
     have c8b0 := eq_true c8
     have c8b1 : decide (0 ≤ (l0.length : Int)) = true := decide_eq_true c8
     clear c8
     by_cases c9 : ((l0.length : Int) : Int).toNat ≤ 11728124029610
     ·rw [if_pos c9] at H
      have c9b0 := eq_true c9
      have c9b1 : decide (((l0.length : Int) : Int).toNat ≤ 11728124029610) = true := decide_eq_true c9
      clear c9
      obtain ⟨y489, hy489⟩ : ∃ y_ : List (List Int), y_ = (List.replicate ((l0.length : Int) : Int).toNat []) := ⟨_, rfl⟩
      replace H : (loudness_Apply.l0 kj2 a1 y489 l0 (l0.length : Int) 0) = some (r1, r2) := by first | (rw [hy489]; with_reducible exact H) | (have H2_ := (Option.bind_some _ _).symm.trans H; rw [hy489]; with_reducible exact H2_) | (have H2_ := (Option.bind_some _ _).symm.trans H; with_reducible exact H2_) | with_reducible exact H | (rw [hy489]; exact H) | exact H
      have Ny489 := Aside0.mk hy489
      clear hy489
      have H' := Aside0.mk H
      clear H
      go_wp2_with (first | ((with_reducible refine gate_dst (N := 27) rfl ?_); refine Kd.S_make (Kd.slice 48 (Kd.int .i16)) _ 47 rfl (N := 27) rfl 22 _ _ rfl (l0.length : Int) rfl rfl Try.underlying22 (.slice none 0 0) 24 info47 rfl (by decide) (by omega) [] (ok := fun _ => True) (okp := fun _ => True) ⟨_, rfl, Kd.R_nil _ _ _ _ _⟩ (fun _ hk => hk) trivial (of_decide_eq_true (by first | (with_reducible assumption) | assumption)) (Nat.le_trans (Nat.mul_le_mul_right _ (of_decide_eq_true (by first | (with_reducible assumption) | assumption) : (l0.length : Int).toNat ≤ 11728124029610)) (by omega)) (Below.refl _ _) (Nat.le_refl _) ?_; intro v490 w10 ho11 hb hg_ hnew_; clear hg_ hnew_; (first | rw [← Ny489.out] at ho11 | (simp only [Int.reduceToNat] at ho11; rw [← Ny489.out] at ho11)); have n0_ := Aside0.mk (Kd.S_lower ho11 (below_size (by repeat (first | (with_reducible first | exact HB.out | apply below_alloc | apply pw_below_drewN | apply below_drew1) | exact HB.out)))); have n1_ := Aside0.mk (below_step (by repeat (first | (with_reducible first | exact HB.out | apply below_alloc | apply pw_below_drewN | apply below_drew1) | exact HB.out)) hb); clear HB; have HO491 := n0_; have HB := n1_; clear n0_ n1_; clear hb ho11))
      go_loopg [30] kj2 (fun kq v30 w' => ∃ (x6_2 : List (List Int)) (x30_2 : Int), v30 = .int .i64 x30_2 ∧ Aside0 (loudness_Apply.l0 kq a1 x6_2 l0 (l0.length : Int) x30_2 = some (r1, r2)) ∧ Aside0 (kq ≤ kj2) ∧ Aside0 (Kd.S (Kd.slice 48 (Kd.int .i16)) 47 w' w.heap.size (fun _ => True) v490 x6_2) ∧ Aside0 (Below w.heap.size w w'))
      case atStart => exact ⟨(y489), (0), (by first | rfl | (simp; done) | (simp [*]; done)), H', ⟨Nat.le_refl _⟩, ⟨by (with_reducible repeat (first | apply Kd.S_alloc | apply Kd.S_drewN | apply Kd.S_drew)); exact HO491.out⟩, ⟨by repeat (first | (with_reducible first | exact HB.out | apply below_alloc | apply pw_below_drewN | apply below_drew1) | exact HB.out)⟩⟩
      case round =>
       clear H'
       (try clear c2);(try clear p2);(try clear c3);(try clear c5);(try clear c6);(try clear c6b0);(try clear c7);(try clear c8);(try clear c8b0);(try clear c8b1);(try clear c9);(try clear c9b0);(try clear c9b1);(try clear p2)
       obtain ⟨x6_2, x30_2, rfl, HA, HK2, HO_6, HB⟩ := hrel
       cases gk with
       | zero => exact absurd HA.out (by simp [loudness_Apply.l0])
       | succ k2 =>
        have H := HA.out
        clear HA
        simp only [loudness_Apply.l0] at H
        by_cases c12 : x30_2 < (l0.length : Int)
        ·rw [if_pos c12] at H
         have c12b0 : decide (x30_2 < (l0.length : Int)) = true := decide_eq_true c12
         clear c12
         by_cases c13 : 0 ≤ x30_2
         ·rw [if_pos c13] at H
          have c13b0 : decide (0 ≤ x30_2) = true := decide_eq_true c13
          clear c13
          by_cases c14 : x30_2 < (l0.length : Int)
          ·rw [if_pos c14] at H
           have c14b0 : decide (x30_2 < (l0.length : Int)) = true := decide_eq_true c14
           clear c14
           by_cases c15 : 0 ≤ ((rd_L2 l0 x30_2).length : Int)
           ·rw [if_pos c15] at H
            have c15b0 := eq_true c15
            have c15b1 : decide (0 ≤ ((rd_L2 l0 x30_2).length : Int)) = true := decide_eq_true c15
            clear c15
            by_cases c16 : (((rd_L2 l0 x30_2).length : Int) : Int).toNat ≤ 140737488355328
            ·rw [if_pos c16] at H
             have c16b0 := eq_true c16
             have c16b1 : decide ((((rd_L2 l0 x30_2).length : Int) : Int).toNat ≤ 140737488355328) = true := decide_eq_true c16
             clear c16
             obtain ⟨y493, hy493⟩ : ∃ y_ : List Int, y_ = (List.replicate (((rd_L2 l0 x30_2).length : Int) : Int).toNat 0) := ⟨_, rfl⟩
             replace H : (if x30_2 < (x6_2.length : Int) then (loudness_Apply.l1 k2 a1 (x6_2.set (x30_2 : Int).toNat y493) x30_2 l0 (l0.length : Int) x30_2 (rd_L2 l0 x30_2) ((rd_L2 l0 x30_2).length : Int) 0) else (none)) = some (r1, r2) := by first | (rw [hy493]; with_reducible exact H) | (have H2_ := (Option.bind_some _ _).symm.trans H; rw [hy493]; with_reducible exact H2_) | (have H2_ := (Option.bind_some _ _).symm.trans H; with_reducible exact H2_) | with_reducible exact H | (rw [hy493]; exact H) | exact H
             have Ny493 := Aside0.mk hy493
             clear hy493
             by_cases c17 : x30_2 < (x6_2.length : Int)
             ·rw [if_pos c17] at H
              have c17b0 : decide (x30_2 < (x6_2.length : Int)) = true := decide_eq_true c17
              clear c17
              obtain ⟨y496, hy496⟩ : ∃ y_ : List (List Int), y_ = (x6_2.set (x30_2 : Int).toNat y493) := ⟨_, rfl⟩
              replace H : (loudness_Apply.l1 k2 a1 y496 x30_2 l0 (l0.length : Int) x30_2 (rd_L2 l0 x30_2) ((rd_L2 l0 x30_2).length : Int) 0) = some (r1, r2) := by first | (rw [hy496]; with_reducible exact H) | (have H2_ := (Option.bind_some _ _).symm.trans H; rw [hy496]; with_reducible exact H2_) | (have H2_ := (Option.bind_some _ _).symm.trans H; with_reducible exact H2_) | with_reducible exact H | (rw [hy496]; exact H) | exact H
              have Ny496 := Aside0.mk hy496
              clear hy496
              have H' := Aside0.mk H
              clear H
              have p492 : 0 ≤ (x30_2 : Int) := of_decide_eq_true (by first | (with_reducible assumption) | assumption)
              have q492 : x30_2 < (l0.length : Int) := of_decide_eq_true (by first | (with_reducible assumption) | assumption)
              obtain ⟨ad492, A492_0, c492_0, e492, hx492_0, hl492_0, hi492_0⟩ := at_L2 HR0.out x30_2 p492 q492
              cases e492
              replace hx492_0 := (HB.out.cell (World.block_lt_of_cell? w _ hx492_0)).trans hx492_0
              have HR492_0 := Aside0.mk hi492_0
              have HC492_0 := Aside0.mk hl492_0
              clear hi492_0 hl492_0
              replace p492 := eq_true p492
              replace q492 := eq_true q492
              go_wp2_with (first | ((with_reducible refine gate_dst (N := 39) rfl ?_); refine Kd.R_make (Kd.int .i16) _ 48 rfl (N := 39) rfl 47 _ _ rfl ((rd_L2 l0 x30_2).length : Int) rfl rfl Try.underlying47 (.int .i16 0) 2 info48 rfl (by decide) (by omega) 0 (ok := fun _ => True) (okp := fun _ => True) rfl (fun _ hk => hk) trivial (of_decide_eq_true (by first | (with_reducible assumption) | assumption)) (Nat.le_trans (Nat.mul_le_mul_right _ (of_decide_eq_true (by first | (with_reducible assumption) | assumption) : ((rd_L2 l0 x30_2).length : Int).toNat ≤ 140737488355328)) (by omega)) (Below.refl _ _) (Nat.le_refl _) ?_; intro v494 w19 ho20 hb hg_ hnew_; clear hg_ hnew_; (first | rw [← Ny493.out] at ho20 | (simp only [Int.reduceToNat] at ho20; rw [← Ny493.out] at ho20)); have n0_ := Aside0.mk (Kd.S_elder' (by (with_reducible repeat (first | apply Kd.S_alloc | apply Kd.S_drewN | apply Kd.S_drew)); exact HO_6.out) (Kd.R_base ho20) hb); have n1_ := Aside0.mk (Kd.R_lower ho20 (below_size (by repeat (first | (with_reducible first | exact HB.out | apply below_alloc | apply pw_below_drewN | apply below_drew1) | exact HB.out)))); have n2_ := Aside0.mk (below_step (by repeat (first | (with_reducible first | exact HB.out | apply below_alloc | apply pw_below_drewN | apply below_drew1) | exact HB.out)) hb); clear HO_6; clear HB; have HO_6 := n0_; have HO495 := n1_; have HB := n2_; clear n0_ n1_ n2_; clear hb ho20; obtain ⟨Aox_, cox_, eox_⟩ := Kd.R_slice HO495.out; subst eox_; have p18 : 0 ≤ (x30_2 : Int) := of_decide_eq_true (by first | (with_reducible assumption) | assumption); have q18 : (x30_2 : Int) < ((x6_2.length : Int) : Int) := of_decide_eq_true (by first | (with_reducible assumption) | assumption); obtain ⟨go18, co18, eo18, gb18, gl18, cl18, HG18⟩ := Kd.S_form HO_6.out (by omega); (first | cases eo18 | (injection eo18 with ea_ en_ ec_; (first | subst ea_ | (injection ea_ with ea_; subst ea_)); subst ec_; clear en_)); have GB18 := Aside0.mk gb18; have GG18 := Aside0.mk HG18; clear gb18 gl18 HG18; obtain ⟨_, ce18, hcl18, hM18, hcc18, hfr18, _, _⟩ := Kd.S_elem HO_6.out [] (x30_2 : Int) p18 q18; obtain ⟨ve18_0, rfl, ge18_0⟩ := hM18; have hx18_0 := hcc18 0 _ rfl; have hf18_0 := hfr18 0; (try simp only [show ((Kd.slice 48 (Kd.int .i16))).sz = 1 from rfl, Nat.mul_one, Nat.add_zero] at hx18_0); (try simp only [show ((Kd.slice 48 (Kd.int .i16))).sz = 1 from rfl, Nat.mul_one, Nat.add_zero] at hf18_0); (try clear hM18); clear hcl18 hcc18 hfr18; replace p18 := eq_true p18; replace q18 := eq_true q18; have n_ := Aside0.mk (Kd.S_mono (ok' := (fun k_ => some k_ ≠ ((.slice Aox_ y493.length cox_) : Value).ownBlock)) HO_6.out (fun k_ hk => hk.2)); clear HO_6; have HO_6 := n_; clear n_; have HX21 := Aside0.mk (show Kd.S (Kd.slice 48 (Kd.int .i16)) 47 w19 w.heap.size (fun k_ => ((fun _ => True)) k_ ∧ ¬ ((fun k_ => some k_ = ((.slice Aox_ y493.length cox_) : Value).ownBlock)) k_) (.slice (some ⟨go18, 0, none⟩) x6_2.length co18) x6_2 from (by (with_reducible repeat (first | apply Kd.S_alloc | apply Kd.S_drewN | apply Kd.S_drew)); exact Kd.S_mono HO_6.out (fun k_ hk => ⟨trivial, fun e_ => hk e_⟩))); obtain ⟨oki21, ce21, hcl21, hM21, hcc21, hfr21, hoki21, hH21⟩ := Kd.S_elem HX21.out [] (x30_2 : Int) (of_decide_eq_true (by first | (with_reducible assumption) | assumption)) (by have h_ : (x30_2 : Int) < ((x6_2.length : Int) : Int) := of_decide_eq_true (by first | (with_reducible assumption) | assumption); first | exact h_ | (have e_ := (Kd.S_reads' HO_6.out).1; omega) | simpa using h_); obtain ⟨ve21_0, rfl, ge21_0⟩ := hM21; have HP21 := Kd.S_seg hH21 (of_decide_eq_true (by first | (with_reducible assumption) | assumption)) (by have h_ : (x30_2 : Int) < ((x6_2.length : Int) : Int) := of_decide_eq_true (by first | (with_reducible assumption) | assumption); first | exact h_ | (have e_ := (Kd.S_reads' HO_6.out).1; omega) | simpa using h_) (seg := [(.slice Aox_ y493.length cox_)]) (j := 0) (show 1 ≤ 1 from by decide) (x' := y493) (Kd.M_row (Kd.R_mono (Kd.R_tight rfl (Kd.R_mono (ok' := fun k_ => ((fun _ => True)) k_ ∧ k_ ≠ go18) (Kd.R_apart' (HO495.out) (Kd.S_typed HO_6.out) (by decide)) (fun k_ hk => ⟨trivial, fun e_ => (hk.2) (by rw [e_]; rfl)⟩))) (fun _ h_ => Or.inr (h_)))) (fun _ hk => hk) (fun k_ hk_ => ((Kd.R_mono (ok' := fun k_ => ((fun _ => True)) k_ ∧ k_ ≠ go18) (Kd.R_apart' (HO495.out) (Kd.S_typed HO_6.out) (by decide)) (fun k_ hk => ⟨trivial, fun e_ => (hk.2) (by rw [e_]; rfl)⟩))).1 k_ hk_.symm); have hx21_0 := hcc21 0 _ rfl; (try simp only [show ((Kd.slice 48 (Kd.int .i16))).sz = 1 from rfl, Nat.mul_one, Nat.add_zero] at hx21_0); have hf21_0 := hfr21 0; (try simp only [show ((Kd.slice 48 (Kd.int .i16))).sz = 1 from rfl, Nat.mul_one, Nat.add_zero] at hf21_0); (try clear hM21); clear hcl21 hcc21 hfr21 hoki21 hH21; (try simp only [show ((Kd.slice 48 (Kd.int .i16))).sz = 1 from rfl, Nat.mul_one, Nat.add_zero] at HP21)) | ((with_reducible refine gate_store (t := 47) (p := 40) rfl ?_); refine store_event (t := 47) (p := 40) (v := ?vo_w22) (w1 := (w19.setCell ⟨go18, (x30_2 : Int).toNat, none⟩ ((.slice Aox_ y493.length cox_)))) ?hg ?ho ?hn ?hr ?_; (case ho => rfl); (case hg => rfl); (case hn => rfl); (case hr => first | (go_simp; done) | (go_simp; rfl)); intro w22 hw; have hg : w19.grownBy w22 (some go18) := (by rw [hw]; exact HP21.2); have hp_ : Kd.S (Kd.slice 48 (Kd.int .i16)) 47 w22 w.heap.size (fun _ => True) (.slice (some ⟨go18, 0, none⟩) x6_2.length co18) y496 := (by rw [hw, Ny496.out]; exact HP21.1); clear HP21; have n0_ := Aside0.mk (hp_); have n1_ := Aside0.mk ((by rw [hw]; exact below_set (HB.out) GB18.out : Below w.heap.size w w22)); clear HO_6; clear HB; clear HO495; have HO_6 := n0_; have HB := n1_; clear n0_ n1_; clear hg hw hp_))
              go_loopg [43] k2 (fun kq v43 w' => ∃ (x6_3 : List (List Int)) (x43_3 : Int), v43 = .int .i64 x43_3 ∧ Aside0 (loudness_Apply.l1 kq a1 x6_3 x30_2 l0 (l0.length : Int) x30_2 (rd_L2 l0 x30_2) ((rd_L2 l0 x30_2).length : Int) x43_3 = some (r1, r2)) ∧ Aside0 (kq ≤ k2) ∧ Aside0 (Kd.S (Kd.slice 48 (Kd.int .i16)) 47 w' w.heap.size (fun _ => True) (.slice (some ⟨go18, 0, none⟩) x6_2.length co18) x6_3) ∧ Aside0 (Below w.heap.size w w'))
              case atStart => exact ⟨(y496), (0), (by first | rfl | (simp; done) | (simp [*]; done)), H', ⟨Nat.le_refl _⟩, ⟨by (with_reducible repeat (first | apply Kd.S_alloc | apply Kd.S_drewN | apply Kd.S_drew)); exact HO_6.out⟩, ⟨by repeat (first | (with_reducible first | exact HB.out | apply below_alloc | apply pw_below_drewN | apply below_drew1) | exact HB.out)⟩⟩
              case round =>
               clear H'
               (try clear c1);(try clear p1);(try clear q1);(try clear hx1);(try clear c2);(try clear p2);(try clear hx2);(try clear hf2);(try clear c3);(try clear c4);(try clear p4);(try clear q4);(try clear hx4);(try clear c5);(try clear c6);(try clear c6b0);(try clear c7);(try clear c8);(try clear c8b0);(try clear c8b1);(try clear c9);(try clear c9b0);(try clear c9b1);(try clear c12);(try clear c12b0);(try clear c13);(try clear c13b0);(try clear c14);(try clear c14b0);(try clear c15);(try clear c15b0);(try clear c15b1);(try clear c16);(try clear c16b0);(try clear c16b1);(try clear c17);(try clear c17b0);(try clear c18);(try clear p18);(try clear q18);(try clear hx18);(try clear hf18);(try clear c21);(try clear hx21);(try clear hf21);(try clear hx18_0);(try clear hx21_0);(try clear hx492_0);(try clear p18);(try clear p2);(try clear p492);(try clear q18);(try clear q492)
               obtain ⟨x6_3, x43_3, rfl, HA, HK3, HO_6, HB⟩ := hrel
               have hl6_3 := (Kd.S_reads' HO_6.out).1
               rw [hl6_3] at HO_6
               (try simp only [hl6_3])
               cases gk with
               | zero => exact absurd HA.out (by simp [loudness_Apply.l1])
               | succ k3 =>
                have H := HA.out
                clear HA
                simp only [loudness_Apply.l1] at H
                by_cases c23 : x43_3 < ((rd_L2 l0 x30_2).length : Int)
                ·rw [if_pos c23] at H
                 have c23b0 : decide (x43_3 < ((rd_L2 l0 x30_2).length : Int)) = true := decide_eq_true c23
                 clear c23
                 by_cases c24 : 0 ≤ x43_3
                 ·rw [if_pos c24] at H
                  have c24b0 : decide (0 ≤ x43_3) = true := decide_eq_true c24
                  clear c24
                  by_cases c25 : x43_3 < ((rd_L2 l0 x30_2).length : Int)
                  ·rw [if_pos c25] at H
                   have c25b0 : decide (x43_3 < ((rd_L2 l0 x30_2).length : Int)) = true := decide_eq_true c25
                   clear c25
                   replace H := Option.bind_eq_some_iff.mp H
                   obtain ⟨⟨t498, t499, t500⟩, A260, H⟩ := H
                   replace H : (if 0 ≤ x30_2 then (if x30_2 < (x6_3.length : Int) then ((loudness_limited_int64.f t498 (-32768) 32767).bind fun t502 => (if x43_3 < ((rd_L2 x6_3 x30_2).length : Int) then (loudness_Apply.l1 k3 a1 (x6_3.set (x30_2 : Int).toNat ((rd_L2 x6_3 x30_2).set (x43_3 : Int).toNat (IntKind.i16.wrap (t502)))) x30_2 l0 (l0.length : Int) x30_2 (rd_L2 l0 x30_2) ((rd_L2 l0 x30_2).length : Int) (wrap64 (x43_3 + 1))) else (none))) else (none)) else (none)) = some (r1, r2) := H
                   have A26 := Aside0.mk A260
                   clear A260
                   by_cases c27 : 0 ≤ x30_2
                   ·rw [if_pos c27] at H
                    have c27b0 : decide (0 ≤ x30_2) = true := decide_eq_true c27
                    clear c27
                    by_cases c28 : x30_2 < (x6_3.length : Int)
                    ·rw [if_pos c28] at H
                     have c28b0 : decide (x30_2 < (x6_3.length : Int)) = true := decide_eq_true c28
                     clear c28
                     replace H := Option.bind_eq_some_iff.mp H
                     obtain ⟨t502, A290, H⟩ := H
                     replace H : (if x43_3 < ((rd_L2 x6_3 x30_2).length : Int) then (loudness_Apply.l1 k3 a1 (x6_3.set (x30_2 : Int).toNat ((rd_L2 x6_3 x30_2).set (x43_3 : Int).toNat (IntKind.i16.wrap (t502)))) x30_2 l0 (l0.length : Int) x30_2 (rd_L2 l0 x30_2) ((rd_L2 l0 x30_2).length : Int) (wrap64 (x43_3 + 1))) else (none)) = some (r1, r2) := H
                     have A29 := Aside0.mk A290
                     clear A290
                     by_cases c30 : x43_3 < ((rd_L2 x6_3 x30_2).length : Int)
                     ·rw [if_pos c30] at H
                      have c30b0 : decide (x43_3 < ((rd_L2 x6_3 x30_2).length : Int)) = true := decide_eq_true c30
                      clear c30
                      obtain ⟨y503, hy503⟩ : ∃ y_ : List Int, y_ = ((rd_L2 x6_3 x30_2).set (x43_3 : Int).toNat (IntKind.i16.wrap (t502))) := ⟨_, rfl⟩
                      replace H : (loudness_Apply.l1 k3 a1 (x6_3.set (x30_2 : Int).toNat y503) x30_2 l0 (l0.length : Int) x30_2 (rd_L2 l0 x30_2) ((rd_L2 l0 x30_2).length : Int) (wrap64 (x43_3 + 1))) = some (r1, r2) := by first | (rw [hy503]; with_reducible exact H) | (have H2_ := (Option.bind_some _ _).symm.trans H; rw [hy503]; with_reducible exact H2_) | (have H2_ := (Option.bind_some _ _).symm.trans H; with_reducible exact H2_) | with_reducible exact H | (rw [hy503]; exact H) | exact H
                      have Ny503 := Aside0.mk hy503
                      clear hy503
                      obtain ⟨y505, hy505⟩ : ∃ y_ : List (List Int), y_ = (x6_3.set (x30_2 : Int).toNat y503) := ⟨_, rfl⟩
                      replace H : (loudness_Apply.l1 k3 a1 y505 x30_2 l0 (l0.length : Int) x30_2 (rd_L2 l0 x30_2) ((rd_L2 l0 x30_2).length : Int) (wrap64 (x43_3 + 1))) = some (r1, r2) := by first | (rw [hy505]; with_reducible exact H) | (have H2_ := (Option.bind_some _ _).symm.trans H; rw [hy505]; with_reducible exact H2_) | (have H2_ := (Option.bind_some _ _).symm.trans H; with_reducible exact H2_) | with_reducible exact H | (rw [hy505]; exact H) | exact H
                      have Ny505 := Aside0.mk hy505
                      clear hy505
                      have H' := Aside0.mk H
                      clear H
                      have p497 : 0 ≤ (x43_3 : Int) := of_decide_eq_true (by first | (with_reducible assumption) | assumption)
                      have q497 : x43_3 < ((rd_L2 l0 x30_2).length : Int) := of_decide_eq_true (by first | (with_reducible assumption) | assumption)
                      obtain ⟨ad497, e497, hx497_0⟩ := Kd.at_int HR492_0.out x43_3 p497 q497
                      cases e497
                      replace hx497_0 := (HB.out.cell (World.block_lt_of_cell? w _ hx497_0)).trans hx497_0
                      replace p497 := eq_true p497
                      replace q497 := eq_true q497
                      try go_wp2_with (first | ((with_reducible refine gate_callee (f := 41) rfl ?_); refine goesL_ (some 54) rfl rfl Try.func41 (by kernel_rfl) rfl #[.int .i64 (wrap64 ((wrap64 ((wrap64 (rd (rd_L2 l0 x30_2) x43_3)) * a1)) + 2048)), .int .i64 1, .int .i64 4096] rfl (by (try simp only [List.map_toArray, List.map_cons, List.map_nil]); first | done | rfl | (simp only [List.length_drop, List.length_take]; rfl)) ?_; (with_reducible refine (rational_MulDiv.calls k3 (wrap64 ((wrap64 ((wrap64 (rd (rd_L2 l0 x30_2) x43_3)) * a1)) + 2048)) 1 4096 t498 t499 t500 _ A26.out).mono ?_); rintro e w32 ⟨rfl, hb⟩; refine ⟨_, rfl, ?_⟩; have n0_ := Aside0.mk (Kd.S_below (by (with_reducible repeat (first | apply Kd.S_alloc | apply Kd.S_drewN | apply Kd.S_drew)); exact HO_6.out) hb); have n1_ := Aside0.mk (below_step (by repeat (first | (with_reducible first | exact HB.out | apply below_alloc | apply pw_below_drewN | apply below_drew1) | exact HB.out)) hb); clear HO_6; clear HB; have HO_6 := n0_; have HB := n1_; clear n0_ n1_; (try clear hb); (try clear hb2); (try clear hk); (try clear hi)))
                      have n0_ := Aside0.mk (Kd.S_drew HO_6.out)
                      have n1_ := Aside0.mk (below_drew1 HB.out)
                      clear HO_6
                      clear HB
                      have HO_6 := n0_
                      have HB := n1_
                      clear n0_ n1_
                      have p501 : 0 ≤ (x30_2 : Int) := of_decide_eq_true (by first | (with_reducible assumption) | assumption)
                      have q501 : x30_2 < (x6_3.length : Int) := of_decide_eq_true (by first | (with_reducible assumption) | assumption)
                      obtain ⟨ad501, A501_0, c501_0, e501, hx501_0, hl501_0, hi501_0⟩ := at_L2 (Kd.S_reads' HO_6.out).2.2 x30_2 p501 q501
                      obtain rfl : (⟨go18, 0, none⟩ : Addr) = ad501 := (by injection e501)
                      obtain ⟨ce501, hce501, hMe501, hcc501⟩ := Kd.S_get HO_6.out [] x30_2 p501 (by first | exact q501 | exact of_decide_eq_true (by first | (with_reducible assumption) | assumption) | (have e_ := (Kd.S_reads' HO_6.out).1; omega))
                      obtain ⟨ve501_0, rfl, ge501_0⟩ := hMe501
                      have hv501_0 := hcc501 0 _ rfl
                      rw [Nat.add_zero, show ((Kd.slice 48 (Kd.int .i16))).sz = 1 from rfl, Nat.mul_one] at hv501_0
                      replace hv501_0 := Option.some.inj (hv501_0.symm.trans hx501_0)
                      rw [hv501_0] at ge501_0
                      have HL501_0 := Aside0.mk (show Kd.R (Kd.int .i16) 48 _ _ _ _ (rd_L2 x6_3 x30_2) from ge501_0)
                      clear hv501_0 ge501_0
                      have HX501_0 := Aside0.mk hx501_0
                      clear hcc501 hce501
                      (first | simp only [add_plain] at hx501_0 | simp only [add_at] at hx501_0 | simp only [Addr.add, Nat.zero_add] at hx501_0 | skip)
                      have HR501_0 := Aside0.mk hi501_0
                      have HC501_0 := Aside0.mk hl501_0
                      clear hi501_0 hl501_0
                      replace p501 := eq_true p501
                      replace q501 := eq_true q501
                      refine start_ (n := 10) (S := fun w' => w'.cell? ⟨go18, (x30_2).toNat, none⟩ = some (.slice A501_0 (rd_L2 x6_3 x30_2).length c501_0)) (ds := [9]) #[false, false, false, false, false, false, false, false, false, false] (by kernel_rfl) rfl rfl (hx501_0) (fun hHeld => ?_); refine with_tabW loudness_Apply.tab12 loudness_Apply.bits12 (fun HT_ HW_ => ?_)
                      generalize w32.drew = w33 at HO_6 HB HL501_0 HR501_0 HX501_0 hx501_0 hHeld ⊢
                      refine pure_ (i := 0) (N := some 58) (v := ?_) (a' := ?_) #[true, false, false, false, false, false, false, false, false, false] rfl rfl (any_of HT_.out (by kernel_rfl)) (fun _ _ _ h => h) (Or.inl ⟨by rfl, ?_⟩) ?_ ?_
                      rotate_left
                      ·intro w'
                       go_simp
                       with_reducible rfl
                      rotate_left
                      ·simp only [Act.put, List.setIfInBounds_toArray, List.set_cons_zero, List.set_cons_succ, i64_w, i32_w]
                       rfl
                      refine pure_ (i := 1) (N := some 59) (v := ?_) (a' := ?_) #[true, true, false, false, false, false, false, false, false, false] rfl rfl (any_of HT_.out (by kernel_rfl)) (fun _ _ _ h => h) (Or.inl ⟨by rfl, ?_⟩) ?_ ?_
                      rotate_left
                      ·intro w'
                       go_simp
                       with_reducible rfl
                      rotate_left
                      ·simp only [Act.put, List.setIfInBounds_toArray, List.set_cons_zero, List.set_cons_succ, i64_w, i32_w]
                       rfl
                      refine pure_ (i := 2) (N := some 60) (v := ?_) (a' := ?_) #[true, true, true, false, false, false, false, false, false, false] rfl rfl (any_of HT_.out (by kernel_rfl)) (fun _ _ _ h => h) (Or.inl ⟨by rfl, ?_⟩) ?_ ?_
                      rotate_left
                      ·intro w'
                       go_simp
                       with_reducible rfl
                      rotate_left
                      ·simp only [Act.put, List.setIfInBounds_toArray, List.set_cons_zero, List.set_cons_succ, i64_w, i32_w]
                       rfl
                      refine pure_ (i := 4) (N := some 62) (v := ?_) (a' := ?_) #[true, true, true, false, true, false, false, false, false, false] rfl rfl (any_of HT_.out (by kernel_rfl)) (fun _ _ _ h => h) (Or.inl ⟨by rfl, ?_⟩) ?_ ?_
                      rotate_left
                      ·intro w'
                       go_simp
                       with_reducible rfl
                      rotate_left
                      ·simp only [Act.put, List.setIfInBounds_toArray, List.set_cons_zero, List.set_cons_succ, i64_w, i32_w]
                       rfl
                      refine pure_ (i := 5) (N := some 63) (v := ?_) (a' := ?_) #[true, true, true, false, true, true, false, false, false, false] rfl rfl (any_of HT_.out (by kernel_rfl)) (fun _ _ _ h => h) (Or.inl ⟨by rfl, ?_⟩) ?_ ?_
                      rotate_left
                      ·intro w'
                       go_simp
                       with_reducible rfl
                      rotate_left
                      ·simp only [Act.put, List.setIfInBounds_toArray, List.set_cons_zero, List.set_cons_succ, i64_w, i32_w]
                       rfl
                      refine take_ (i := 3) (N := some 61) (v := ?_) (a' := ?_) #[true, true, true, true, true, true, false, false, false, false] rfl rfl (take_ofW HT_.out HW_.out (by kernel_rfl)) (fun _ _ _ h => h) (Or.inl ⟨by rfl, ?_⟩) hHeld ?_ ?_
                      rotate_left
                      ·intro w' s0
                       go_simp
                       with_reducible rfl
                      rotate_left
                      ·simp only [Act.put, List.setIfInBounds_toArray, List.set_cons_zero, List.set_cons_succ, i64_w, i32_w]
                       rfl
                      refine one_ (i := 6) (N := some 64) #[true, true, true, true, true, true, true, false, false, false] rfl rfl (one_of HT_.out (by kernel_rfl)) (by decide) (fun K hK => ?_)
                      refine goes_ Try.func42 (by kernel_rfl) rfl #[.int .i64 t498, .int .i64 (-32768), .int .i64 32767] (by rfl) rfl rfl (by (try simp only [List.map_toArray, List.map_cons, List.map_nil]); first | done | rfl | (simp only [List.length_drop, List.length_take]; rfl)) ?_
                      with_reducible refine (loudness_limited_int64.calls t498 (-32768) 32767 t502 _ A29.out).mono ?_
                      rintro e w34 ⟨rfl, hb⟩
                      have HS0_ := (hb.cell (World.block_lt_of_cell? _ _ (hHeld))).trans (hHeld)
                      refine ⟨_, rfl, ?_⟩
                      have n0_ := Aside0.mk (Kd.S_below (by (with_reducible repeat (first | apply Kd.S_alloc | apply Kd.S_drewN | apply Kd.S_drew)); exact HO_6.out) hb)
                      have n1_ := Aside0.mk (Kd.R_below (by (with_reducible repeat (first | apply Kd.R_alloc | apply Kd.R_drewN | apply Kd.R_drew)); exact HL501_0.out) hb)
                      have n2_ := Aside0.mk (Kd.C_below (by repeat (first | (with_reducible exact HR501_0.out) | (with_reducible refine Kd.C_alloc ?_ _) | (with_reducible refine Kd.C_drewN ?_ _) | (with_reducible refine Kd.C_drew ?_) | exact HR501_0.out)) hb)
                      have n3_ := Aside0.mk (pw_cell_below hb HX501_0.out)
                      have n4_ := Aside0.mk (below_step (by repeat (first | (with_reducible first | exact HB.out | apply below_alloc | apply pw_below_drewN | apply below_drew1) | exact HB.out)) hb)
                      clear HO_6
                      clear HL501_0
                      clear HR501_0
                      clear HX501_0
                      clear HB
                      have HO_6 := n0_
                      have HL501_0 := n1_
                      have HR501_0 := n2_
                      have HX501_0 := n3_
                      have HB := n4_
                      clear n0_ n1_ n2_ n3_ n4_
                      (try clear hb)
                      (try clear hb2)
                      (try clear hk)
                      (try clear hi)
                      have p31 : 0 ≤ (x43_3 : Int) := of_decide_eq_true (by first | (with_reducible assumption) | assumption)
                      have q31 : (x43_3 : Int) < (((rd_L2 x6_3 x30_2).length : Int) : Int) := of_decide_eq_true (by first | (with_reducible assumption) | assumption)
                      obtain ⟨go31, co31, eo31, gb31, gl31, cl31, HG31⟩ := Kd.R_form HL501_0.out (by omega)
                      (first | cases eo31 | (injection eo31 with ea_ en_ ec_; (first | subst ea_ | (injection ea_ with ea_; subst ea_)); subst ec_; clear en_))
                      have GB31 := Aside0.mk gb31
                      have GG31 := Aside0.mk HG31
                      clear gb31 gl31 HG31
                      obtain ⟨hx31_0, hf31_0⟩ := Kd.R_celln 0 HL501_0.out (x43_3 : Int) p31 q31
                      replace p31 := eq_true p31
                      replace q31 := eq_true q31
                      have hq35 : (x30_2 : Int) < (x6_3.length : Int) := (by have h_ : (x30_2 : Int) < ((x6_3.length : Int) : Int) := of_decide_eq_true (by first | (with_reducible assumption) | assumption); first | exact h_ | (have e_ := (Kd.S_reads' HO_6.out).1; omega) | simpa only [List.length_set, List.length_set] using h_)
                      obtain ⟨oki35, ce35, hcl35, hM35, hcc35, hok35, hbk35⟩ := Kd.S_borrow HO_6.out [] (x30_2 : Int) (of_decide_eq_true (by first | (with_reducible assumption) | assumption)) hq35
                      obtain ⟨ve35_0, rfl, ge35_0⟩ := hM35
                      have hv35 := hcc35 0 _ rfl
                      rw [Nat.add_zero, show ((Kd.slice 48 (Kd.int .i16))).sz = 1 from rfl, Nat.mul_one] at hv35
                      replace hv35 := Option.some.inj (hv35.symm.trans HX501_0.out)
                      subst hv35
                      clear hcc35 hcl35
                      replace ge35_0 := (show Kd.R (Kd.int .i16) 48 _ _ _ _ (rd_L2 x6_3 x30_2) from ge35_0)
                      have HP35 := Kd.R_putg ge35_0 (x43_3 : Int) (IntKind.i16.wrap (t502))
                      rw [← Ny503.out] at HP35
                      have HS35 := hbk35 HP35.2 (fun k_ e_ => by injection e_ with e_; subst e_; exact ge35_0.1 _ rfl) (x' := y503) (Kd.M_row HP35.1)
                      rw [← Ny505.out] at HS35
                      have HQ35 := Aside0.mk HS35
                      clear HP35 HS35 hbk35 hok35
                      refine hK.out _ _ (HS0_) (fun hHeld => ?_)
                      clear hK K
                      refine norm_ (a' := ?_) ?_ ?_
                      rotate_left
                      ·show Act.put _ (some 64) _ = _
                       simp only [Act.put, List.setIfInBounds_toArray, List.set_cons_zero, List.set_cons_succ, i64_w, i32_w]
                       rfl
                      refine pure_ (i := 7) (N := some 65) (v := ?_) (a' := ?_) #[true, true, true, true, true, true, true, true, false, false] rfl rfl (any_of HT_.out (by kernel_rfl)) (fun _ _ _ h => h) (Or.inl ⟨by rfl, ?_⟩) ?_ ?_
                      rotate_left
                      ·intro w'
                       go_simp
                       with_reducible rfl
                      rotate_left
                      ·simp only [Act.put, List.setIfInBounds_toArray, List.set_cons_zero, List.set_cons_succ, i64_w, i32_w]
                       rfl
                      refine pure_ (i := 8) (N := some 66) (v := ?_) (a' := ?_) #[true, true, true, true, true, true, true, true, true, false] rfl rfl (any_of HT_.out (by kernel_rfl)) (fun _ _ _ h => h) (Or.inl ⟨by rfl, ?_⟩) ?_ ?_
                      rotate_left
                      ·intro w'
                       go_simp
                       with_reducible rfl
                      rotate_left
                      ·simp only [Act.put, List.setIfInBounds_toArray, List.set_cons_zero, List.set_cons_succ, i64_w, i32_w]
                       rfl
                      refine last_ (i := 9) (N := none) #[true, true, true, true, true, true, true, true, true, true] rfl rfl (one_of HT_.out (by kernel_rfl)) (by decide) (fun K hK => ?_)
                      refine skip_ (w1 := ?_) (by rfl) rfl ?_ ?_
                      rotate_left
                      ·go_simp
                       rfl
                      refine hK.out _ _ ?_
                      clear hK K
                      refine done_ (done_of HT_.out (by kernel_rfl)) ?_
                      try go_wp2
                      (try simp only [← hl6_3])
                      go_roundg k3
                      case measure => have := HJ2.out; have := HK2.out; have := HK3.out; omega
                      case rel => exact ⟨(y505), (wrap64 (x43_3 + 1)), (by first | rfl | (simp; done) | (simp [*]; done)), H', ⟨by have := HJ2.out; have := HK2.out; have := HK3.out; omega⟩, ⟨by (try simp only [hl6_3]); (with_reducible repeat (first | apply Kd.S_alloc | apply Kd.S_drewN | apply Kd.S_drew)); exact HQ35.out⟩, ⟨by repeat (first | (with_reducible first | exact HB.out | apply below_alloc | apply pw_below_drewN | apply below_drew1 | refine below_set ?_ GB31.out) | exact HB.out)⟩⟩
                     ·rw [if_neg c30] at H
                      exact absurd H (by simp)
                    ·rw [if_neg c28] at H
                     exact absurd H (by simp)
                   ·rw [if_neg c27] at H
                    exact absurd H (by simp)
                  ·rw [if_neg c25] at H
                   exact absurd H (by simp)
                 ·rw [if_neg c24] at H
                  exact absurd H (by simp)
                ·rw [if_neg c23] at H
                 have c23b0 : decide (x43_3 < ((rd_L2 l0 x30_2).length : Int)) = false := decide_eq_false c23
                 clear c23
                 have H' := Aside0.mk H
                 clear H
                 go_wp2
                 (try simp only [← hl6_3])
                 go_roundg k3
                 case measure => have := HJ2.out; have := HK2.out; have := HK3.out; omega
                 case rel => exact ⟨(x6_3), (wrap64 (x30_2 + 1)), (by first | rfl | (simp; done) | (simp [*]; done)), H', ⟨by have := HJ2.out; have := HK2.out; have := HK3.out; omega⟩, ⟨by (try simp only [hl6_3]); (with_reducible repeat (first | apply Kd.S_alloc | apply Kd.S_drewN | apply Kd.S_drew)); exact HO_6.out⟩, ⟨by repeat (first | (with_reducible first | exact HB.out | apply below_alloc | apply pw_below_drewN | apply below_drew1) | exact HB.out)⟩⟩
             ·rw [if_neg c17] at H
              exact absurd H (by simp)
            ·rw [if_neg c16] at H
             exact absurd H (by simp)
           ·rw [if_neg c15] at H
            exact absurd H (by simp)
          ·rw [if_neg c14] at H
           exact absurd H (by simp)
         ·rw [if_neg c13] at H
          exact absurd H (by simp)
        ·rw [if_neg c12] at H
         have c12b0 : decide (x30_2 < (l0.length : Int)) = false := decide_eq_false c12
         clear c12
         simp only [Option.some.injEq, Prod.mk.injEq] at H
         obtain ⟨rfl, rfl⟩ := H
         go_wp2
         go_ret2
         exact ⟨_, by first | rfl | (simp [errW_none, errW_some] <;> rfl) | (simp [*, errW_none, errW_some] <;> rfl), by (with_reducible repeat (first | apply Kd.S_alloc | apply Kd.S_drewN | apply Kd.S_drew)); exact HO_6.out, by repeat (first | (with_reducible first | exact HB.out | apply below_alloc | apply pw_below_drewN | apply below_drew1) | exact HB.out)⟩
     ·rw [if_neg c9] at H
      exact absurd H (by simp)
    ·rw [if_neg c8] at H
     exact absurd H (by simp)

end Go.Proofs.Ytjcjbbcamkkeiaa.P
