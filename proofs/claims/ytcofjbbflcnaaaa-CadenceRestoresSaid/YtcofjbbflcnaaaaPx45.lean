-- Written by this session's own program (wip/tools/myprint.py), which runs the kit's print with turns of its own: not a text of the kit's print.sh.
import Derived.Test.YtcofjbbflcnaaaaPx0
import Derived.Test.YtcofjbbflcnaaaaPx47
import Derived.Test.YtcofjbbflcnaaaaPx62
import Derived.Test.YtcofjbbflcnaaaaAbb
namespace Go.Proofs.Ytcofjbbflcnaaaa.P
open Go.RowKit Go.Proofs.YtcofjbbflcnaaaaW.PrintWords Go.Proofs.YtcofjbbflcnaaaaW.PrintLast Go.Proofs.YtcofjbbflcnaaaaW.PrintMore
open List renaming setIfInBounds_toArray → sA, set_cons_zero → sZ, set_cons_succ → sS
open Bool renaming true → T', false → F'
open Go.Proofs.YtcofjbbflcnaaaaW.PrintWords renaming below_alloc → zA, pw_below_drewN → zN, below_drew1 → zD, blk_drewN → yN, blk_drew → yD, blk_alloc → yA, below_size → zS, below_step → zT, blk_below → yB, below_set → zP, cell_far → xF, add_block → xB, gate_callee → xC, gate_dst → xD
attribute [local go_sem] max2_int min2_int max_two min_two max_three min_three max_four min_four   -- for this text's walks alone
set_option linter.unusedVariables false
set_option linter.unusedSimpArgs false

/-! ### cutroomref20_Restore: function 44 -/
mutual
def cutroomref20_Restore.j0 : Nat → List (S52) → List (S43) → Bool → Option ((List (S52)) × Int)
 | 0, _, _, _ => none
 | k + 1, x0, x1, x22 => if x22 = true then (some (([] : List (S52)), 1)) else (cutroomref20_Restore.l0 k x0 x1 (-1) 0)
def cutroomref20_Restore.l0 : Nat → List (S52) → List (S43) → Int → Int → Option ((List (S52)) × Int)
 | 0, _, _, _, _ => none
 | k + 1, x0, x1, x6, x7 => if x7 < (x1.length : Int) then (if 0 ≤ x7 then (if ((rd_T43 x1 x7).f0) < 0 then (some (([] : List (S52)), 1)) else (if ((rd_T43 x1 x7).f0) ≥ 256 then (some (([] : List (S52)), 1)) else (if ((rd_T43 x1 x7).f1) < 0 then (some (([] : List (S52)), 1)) else (if ((rd_T43 x1 x7).f1) ≥ 256 then (some (([] : List (S52)), 1)) else (cutroomref20_Restore.l0 k x0 x1 (mx (mx x6 ((rd_T43 x1 x7).f0)) ((rd_T43 x1 x7).f1)) (wrap64 (x7 + 1))))))) else (none)) else (if (x1.length : Int) > 256 then (some (([] : List (S52)), 5)) else (cutroomref20_Restore.l1 k x0 x1 x6 ([] : List (S52)) 0))
def cutroomref20_Restore.l1 : Nat → List (S52) → List (S43) → Int → List (S52) → Int → Option ((List (S52)) × Int)
 | 0, _, _, _, _, _ => none
 | k + 1, x0, x1, x6, x8, x9 => if x9 ≤ x6 then (cutroomref20_Restore.l2 k x0 x1 x6 x8 x9 (-1) (-1) (wrap64 ((x1.length : Int) - 1))) else (some (x8, 0))
def cutroomref20_Restore.l2 : Nat → List (S52) → List (S43) → Int → List (S52) → Int → Int → Int → Int → Option ((List (S52)) × Int)
 | 0, _, _, _, _, _, _, _, _ => none
 | k + 1, x0, x1, x6, x8, x9, x10, x11, x12 => if x12 ≥ 0 then (if 0 ≤ x12 then (if x12 < (x1.length : Int) then (if ((rd_T43 x1 x12).f0) = x9 then (if ((rd_T43 x1 x12).f1) = x9 then (cutroomref20_Restore.l2 k x0 x1 x6 x8 x9 x12 x12 (wrap64 (x12 - 1))) else (cutroomref20_Restore.l2 k x0 x1 x6 x8 x9 x12 x11 (wrap64 (x12 - 1)))) else (if ((rd_T43 x1 x12).f1) = x9 then (cutroomref20_Restore.l2 k x0 x1 x6 x8 x9 x10 x12 (wrap64 (x12 - 1))) else (cutroomref20_Restore.l2 k x0 x1 x6 x8 x9 x10 x11 (wrap64 (x12 - 1))))) else (none)) else (none)) else (if x10 < 0 then (some (([] : List (S52)), 6)) else (if x11 < 0 then (some (([] : List (S52)), 6)) else (if 0 ≤ x10 then (if x10 < (x0.length : Int) then (if 0 ≤ x11 then (if x11 < (x0.length : Int) then ((cutroomref20_Join.f k ((rd_T52 x0 x10).f0) ((rd_T52 x0 x10).f1) ((rd_T52 x0 x10).f2) ((rd_T52 x0 x10).f3) ((rd_T52 x0 x10).f4) ((rd_T52 x0 x11).f0) ((rd_T52 x0 x11).f1) ((rd_T52 x0 x11).f2) ((rd_T52 x0 x11).f3) ((rd_T52 x0 x11).f4)).bind fun bt338 => (if x8.length < 1599289640401 then (cutroomref20_Restore.l1 k x0 x1 x6 (x8 ++ [(⟨bt338.1, bt338.2.1, bt338.2.2.1, bt338.2.2.2.1, bt338.2.2.2.2⟩ : S52)]) (wrap64 (x9 + 1))) else (none))) else (none)) else (none)) else (none)) else (none))))
end
def cutroomref20_Restore.f (k : Nat) (l0 : List (S52)) (l1 : List (S43)) : Option ((List (S52)) × Int) := if (l0.length : Int) = (l1.length : Int) then ((cutroomref20_Alike.f k l0).bind fun t329 => (cutroomref20_Restore.j0 k l0 l1 (!t329))) else (cutroomref20_Restore.j0 k l0 l1 true)
theorem cutroomref20_Restore.mono_l : ∀ k, (∀ y0 y1 y2, LeO (cutroomref20_Restore.j0 k y0 y1 y2) (cutroomref20_Restore.j0 (k + 1) y0 y1 y2)) ∧ (∀ y0 y1 y2 y3, LeO (cutroomref20_Restore.l0 k y0 y1 y2 y3) (cutroomref20_Restore.l0 (k + 1) y0 y1 y2 y3)) ∧ (∀ y0 y1 y2 y3 y4, LeO (cutroomref20_Restore.l1 k y0 y1 y2 y3 y4) (cutroomref20_Restore.l1 (k + 1) y0 y1 y2 y3 y4)) ∧ (∀ y0 y1 y2 y3 y4 y5 y6 y7, LeO (cutroomref20_Restore.l2 k y0 y1 y2 y3 y4 y5 y6 y7) (cutroomref20_Restore.l2 (k + 1) y0 y1 y2 y3 y4 y5 y6 y7))
 | 0 => ⟨fun _ _ _ r h => by simp [cutroomref20_Restore.j0] at h, fun _ _ _ _ r h => by simp [cutroomref20_Restore.l0] at h, fun _ _ _ _ _ r h => by simp [cutroomref20_Restore.l1] at h, fun _ _ _ _ _ _ _ _ r h => by simp [cutroomref20_Restore.l2] at h⟩
 | k + 1 => by
  obtain ⟨ih0, ih1, ih2, ih3⟩ := cutroomref20_Restore.mono_l k
  refine ⟨?_, ?_, ?_, ?_⟩
  ·intro y0 y1 y2
   unfold cutroomref20_Restore.j0
   repeat' first
   | (with_reducible exact ih0 _ _ _)
   | (with_reducible exact ih1 _ _ _ _)
   | (with_reducible exact ih2 _ _ _ _ _)
   | (with_reducible exact ih3 _ _ _ _ _ _ _ _)
   | (with_reducible exact cutroomref20_Alike.mono _ _)
   | (with_reducible exact cutroomref20_Join.mono _ _ _ _ _ _ _ _ _ _ _)
   | (with_reducible exact LeO.refl _)
   | (with_reducible exact LeO.none _)
   | (with_reducible refine LeO.ite ?_ ?_)
   | (with_reducible refine LeO.bind ?_ (fun _ => ?_))
   | exact ih0 _ _ _
   | exact ih1 _ _ _ _
   | exact ih2 _ _ _ _ _
   | exact ih3 _ _ _ _ _ _ _ _
   | exact cutroomref20_Alike.mono _ _
   | exact cutroomref20_Join.mono _ _ _ _ _ _ _ _ _ _ _
   | exact LeO.none _
   | refine LeO.ite ?_ ?_
   | refine LeO.bind ?_ (fun _ => ?_)
  ·intro y0 y1 y2 y3
   unfold cutroomref20_Restore.l0
   repeat' first
   | (with_reducible exact ih0 _ _ _)
   | (with_reducible exact ih1 _ _ _ _)
   | (with_reducible exact ih2 _ _ _ _ _)
   | (with_reducible exact ih3 _ _ _ _ _ _ _ _)
   | (with_reducible exact cutroomref20_Alike.mono _ _)
   | (with_reducible exact cutroomref20_Join.mono _ _ _ _ _ _ _ _ _ _ _)
   | (with_reducible exact LeO.refl _)
   | (with_reducible exact LeO.none _)
   | (with_reducible refine LeO.ite ?_ ?_)
   | (with_reducible refine LeO.bind ?_ (fun _ => ?_))
   | exact ih0 _ _ _
   | exact ih1 _ _ _ _
   | exact ih2 _ _ _ _ _
   | exact ih3 _ _ _ _ _ _ _ _
   | exact cutroomref20_Alike.mono _ _
   | exact cutroomref20_Join.mono _ _ _ _ _ _ _ _ _ _ _
   | exact LeO.none _
   | refine LeO.ite ?_ ?_
   | refine LeO.bind ?_ (fun _ => ?_)
  ·intro y0 y1 y2 y3 y4
   unfold cutroomref20_Restore.l1
   repeat' first
   | (with_reducible exact ih0 _ _ _)
   | (with_reducible exact ih1 _ _ _ _)
   | (with_reducible exact ih2 _ _ _ _ _)
   | (with_reducible exact ih3 _ _ _ _ _ _ _ _)
   | (with_reducible exact cutroomref20_Alike.mono _ _)
   | (with_reducible exact cutroomref20_Join.mono _ _ _ _ _ _ _ _ _ _ _)
   | (with_reducible exact LeO.refl _)
   | (with_reducible exact LeO.none _)
   | (with_reducible refine LeO.ite ?_ ?_)
   | (with_reducible refine LeO.bind ?_ (fun _ => ?_))
   | exact ih0 _ _ _
   | exact ih1 _ _ _ _
   | exact ih2 _ _ _ _ _
   | exact ih3 _ _ _ _ _ _ _ _
   | exact cutroomref20_Alike.mono _ _
   | exact cutroomref20_Join.mono _ _ _ _ _ _ _ _ _ _ _
   | exact LeO.none _
   | refine LeO.ite ?_ ?_
   | refine LeO.bind ?_ (fun _ => ?_)
  ·intro y0 y1 y2 y3 y4 y5 y6 y7
   unfold cutroomref20_Restore.l2
   repeat' first
   | (with_reducible exact ih0 _ _ _)
   | (with_reducible exact ih1 _ _ _ _)
   | (with_reducible exact ih2 _ _ _ _ _)
   | (with_reducible exact ih3 _ _ _ _ _ _ _ _)
   | (with_reducible exact cutroomref20_Alike.mono _ _)
   | (with_reducible exact cutroomref20_Join.mono _ _ _ _ _ _ _ _ _ _ _)
   | (with_reducible exact LeO.refl _)
   | (with_reducible exact LeO.none _)
   | (with_reducible refine LeO.ite ?_ ?_)
   | (with_reducible refine LeO.bind ?_ (fun _ => ?_))
   | exact ih0 _ _ _
   | exact ih1 _ _ _ _
   | exact ih2 _ _ _ _ _
   | exact ih3 _ _ _ _ _ _ _ _
   | exact cutroomref20_Alike.mono _ _
   | exact cutroomref20_Join.mono _ _ _ _ _ _ _ _ _ _ _
   | exact LeO.none _
   | refine LeO.ite ?_ ?_
   | refine LeO.bind ?_ (fun _ => ?_)
theorem cutroomref20_Restore.mono : ∀ a0 a1 k, LeO (cutroomref20_Restore.f k a0 a1) (cutroomref20_Restore.f (k + 1) a0 a1) := by
 intro a0 a1 k
 obtain ⟨ih0, ih1, ih2, ih3⟩ := cutroomref20_Restore.mono_l k
 unfold cutroomref20_Restore.f
 repeat' first
   | (with_reducible exact ih0 _ _ _)
   | (with_reducible exact ih1 _ _ _ _)
   | (with_reducible exact ih2 _ _ _ _ _)
   | (with_reducible exact ih3 _ _ _ _ _ _ _ _)
   | (with_reducible exact cutroomref20_Alike.mono _ _)
   | (with_reducible exact cutroomref20_Join.mono _ _ _ _ _ _ _ _ _ _ _)
   | (with_reducible exact LeO.refl _)
   | (with_reducible exact LeO.none _)
   | (with_reducible refine LeO.ite ?_ ?_)
   | (with_reducible refine LeO.bind ?_ (fun _ => ?_))
   | exact ih0 _ _ _
   | exact ih1 _ _ _ _
   | exact ih2 _ _ _ _ _
   | exact ih3 _ _ _ _ _ _ _ _
   | exact cutroomref20_Alike.mono _ _
   | exact cutroomref20_Join.mono _ _ _ _ _ _ _ _ _ _ _
   | exact LeO.none _
   | refine LeO.ite ?_ ?_
   | refine LeO.bind ?_ (fun _ => ?_)
def cutroomref20_Restore.T9 : Bool × List (List Nat × List Nat) := (true, [([], []), ([], []), ([], []), ([1, 2], [1, 2]), ([3], [3]), ([4], [4]), ([], []), ([], []), ([6, 7], [6, 7]), ([8], [8]), ([9], [9]), ([0, 5, 10], [0, 5, 10]), ([11, 0, 1, 2, 3, 4, 5, 6, 7, 8, 9, 10, 11], [0, 11])])
def cutroomref20_Restore.B9 : List Nat := [0, 0, 0, 6, 14, 30, 0, 0, 192, 448, 960, 2047, 4095]
theorem cutroomref20_Restore.tab9 : rtab .any (opsOf Try.f44 9) = cutroomref20_Restore.T9 := by kernel_rfl
theorem cutroomref20_Restore.bits9 : waitsOk cutroomref20_Restore.T9.2 cutroomref20_Restore.B9 = true := by kernel_rfl
def cutroomref20_Restore.T26 : Bool × List (List Nat × List Nat) := (true, [([], []), ([], []), ([], []), ([1, 2], [1, 2]), ([3], [3]), ([], []), ([], []), ([5, 6], [5, 6]), ([7], [7]), ([4, 8], [4, 8]), ([9], [9]), ([0, 10, 9], [0, 10]), ([11, 11, 0, 1, 2, 3, 4, 5, 6, 7, 8, 9, 10, 11], [0, 11])])
def cutroomref20_Restore.B26 : List Nat := [0, 0, 0, 6, 14, 0, 0, 96, 224, 510, 1022, 2047, 4095]
theorem cutroomref20_Restore.tab26 : rtab .any (opsOf Try.f44 26) = cutroomref20_Restore.T26 := by kernel_rfl
theorem cutroomref20_Restore.bits26 : waitsOk cutroomref20_Restore.T26.2 cutroomref20_Restore.B26 = true := by kernel_rfl
set_option maxHeartbeats 8000000 in
set_option maxRecDepth 100000 in
theorem cutroomref20_Restore.calls (k : Nat) (A0 : Option Addr) (c0 : Nat) (l0 : List (S52)) (A1 : Option Addr) (c1 : Nat) (l1 : List (S43)) (r1 : List (S52)) (r2 : Int) (w : World) (hr0 : Kd.C k52 w A0 l0.length l0) (hc0 : l0.length ≤ c0) (hr1 : Kd.C k43 w A1 l1.length l1) (hc1 : l1.length ≤ c1) (h : cutroomref20_Restore.f k l0 l1 = some (r1, r2)) :
  Calls Try.prog 44 #[.slice A0 l0.length c0, .slice A1 l1.length c1] w fun e w' => ∃ v0_ : Value, e = .returned (.tuple #[v0_, .int .i64 r2]) ∧ Kd.S k52 52 w' w.heap.size (fun _ => True) v0_ r1 ∧ Below w.heap.size w w' := by
 have hu52 := Try.underlying52
 have HR0 := Aside0.mk hr0
 have HC0 := Aside0.mk hc0
 clear hr0 hc0
 have HR1 := Aside0.mk hr1
 have HC1 := Aside0.mk hc1
 clear hr1 hc1
 have HB := Aside0.mk (Below.refl w.heap.size w)
 have H : (if (l0.length : Int) = (l1.length : Int) then ((cutroomref20_Alike.f k l0).bind fun t329 => (cutroomref20_Restore.j0 k l0 l1 (!t329))) else (cutroomref20_Restore.j0 k l0 l1 true)) = some (r1, r2) := h
 clear h
 have HC3 := Aside0.mk H
 clear H
 go_enter Try.func44, Try.ntmps44
 go_upto_region 1 with (fail)
 go_cut [22] (fun v22 wc => ∃ (kq : Nat) (x22_2 : Bool), v22 = .bool x22_2 ∧ Aside0 (cutroomref20_Restore.j0 kq l0 l1 x22_2 = some (r1, r2)) ∧ Aside0 (kq ≤ k) ∧ Aside0 (Below w.heap.size w wc))
 case first =>
  have H := HC3.out
  clear HC3
  by_cases c4 : (l0.length : Int) = (l1.length : Int)
  ·rw [if_pos c4] at H
   have c4b0 : ((l0.length : Int) == (l1.length : Int)) = true := beq_iff_eq.mpr c4
   have c4b1 : ((l0.length : Int) != (l1.length : Int)) = false := bne_eq_false_iff_eq.mpr c4
   have c4b2 : (l0.length == l1.length) = true := by first | simpa using c4 | (simp at c4 ⊢; omega)
   clear c4
   (first | rw [c4b0] | (simp only [i64_w, i32_w]; rw [c4b0]) | skip)
   replace H := Option.bind_eq_some_iff.mp H
   obtain ⟨t329, A50, H⟩ := H
   replace H : (cutroomref20_Restore.j0 k l0 l1 (!t329)) = some (r1, r2) := H
   have A5 := Aside0.mk A50
   clear A50
   have H' := Aside0.mk H
   clear H
   go_wp2_with (first | (go_at_call 61; (with_reducible refine (cutroomref20_Alike.calls k _ _ l0 t329 _ ?side1 ?side2 A5.out).mono ?_); (case side1 => repeat (first | exact (Kd.C_below HR0.out HB.out) | (with_reducible refine Kd.C_alloc ?_ _) | (with_reducible refine Kd.C_drewN ?_ _) | (with_reducible refine Kd.C_drew ?_))); (case side2 => exact HC0.out); rintro e w6 ⟨rfl, hb⟩; have n0_ := Aside0.mk (zT (by repeat (first | (with_reducible first | exact HB.out | apply zA | apply zN | apply zD) | exact HB.out)) hb); clear HB; have HB := n0_; clear n0_; (try clear hb); (try clear hb2); (try clear hk); (try clear hi)))
   go_meet
   case rel => exact ⟨_, (!t329), (by first | rfl | (simp; done) | (simp [*]; done)), H', ⟨by first | omega | exact Nat.le_refl _⟩, ⟨by repeat (first | (with_reducible first | exact HB.out | apply zA | apply zN | apply zD) | exact HB.out)⟩⟩
  ·rw [if_neg c4] at H
   have c4b0 : ((l0.length : Int) == (l1.length : Int)) = false := beq_eq_false_iff_ne.mpr c4
   have c4b1 : ((l0.length : Int) != (l1.length : Int)) = true := bne_iff_ne.mpr c4
   have c4b2 : (l0.length == l1.length) = false := by first | simpa using c4 | (simp at c4 ⊢; omega)
   (first | rw [c4b0] | (simp only [i64_w, i32_w]; rw [c4b0]) | skip)
   have H' := Aside0.mk H
   clear H
   go_wp2
   go_meet
   case rel => exact ⟨_, (true), (by first | rfl | (simp; done) | (simp [*]; done)), H', ⟨by first | omega | exact Nat.le_refl _⟩, ⟨by repeat (first | (with_reducible first | exact HB.out | apply zA | apply zN | apply zD) | exact HB.out)⟩⟩
 case rest =>
  clear HC3
  (try clear c1);(try clear p2);(try clear c4);(try clear c4b0);(try clear c4b1);(try clear c4b2)
  obtain ⟨kq, x22_2, rfl, HA, HJ2, HB⟩ := hcut
  cases kq with
  | zero => exact absurd HA.out (by simp [cutroomref20_Restore.j0])
  | succ kj2 =>
   have H := HA.out
   clear HA
   simp only [cutroomref20_Restore.j0] at H
   by_cases c7 : x22_2 = true
   ·subst c7
    have H1 : (some (([] : List (S52)), 1)) = some (r1, r2) := by rw [if_pos rfl] at H; exact H
    clear H
    have H := H1
    clear H1
    simp only [Option.some.injEq, Prod.mk.injEq] at H
    obtain ⟨rfl, rfl⟩ := H
    go_wp2
    go_ret2
    exact ⟨_, by first | rfl | (simp [errW_none, errW_some] <;> rfl) | (simp [*, errW_none, errW_some] <;> rfl), by first | exact Kd.S_nil _ _ _ _ _ | exact Kd.N_nil _ _ _ _ _ | exact Kd.V_nil _ _ _ _ _ | exact Kd.Q_nil _ _ _ _ _ | exact Kd.R_nil _ _ _ _ _, by repeat (first | (with_reducible first | exact HB.out | apply zA | apply zN | apply zD) | exact HB.out)⟩
   ·replace c7 := Bool.eq_false_iff.mpr c7
    subst c7
    have H1 : (cutroomref20_Restore.l0 kj2 l0 l1 (-1) 0) = some (r1, r2) := by rw [if_neg (show ¬ (false = true) by decide)] at H; exact H
    clear H
    have H := H1
    clear H1
    have H' := Aside0.mk H
    clear H
    go_wp2
    go_loopg [6, 7] kj2 (fun kq v6 v7 w' => ∃ (x6_2 : Int) (x7_2 : Int), v6 = .int .i64 x6_2 ∧ v7 = .int .i64 x7_2 ∧ Aside0 (cutroomref20_Restore.l0 kq l0 l1 x6_2 x7_2 = some (r1, r2)) ∧ Aside0 (kq ≤ kj2) ∧ Aside0 (Below w.heap.size w w'))
    case atStart => exact ⟨((-1)), (0), (by first | rfl | (simp; done) | (simp [*]; done)), (by first | rfl | (simp; done) | (simp [*]; done)), H', ⟨Nat.le_refl _⟩, ⟨by repeat (first | (with_reducible first | exact HB.out | apply zA | apply zN | apply zD) | exact HB.out)⟩⟩
    case round =>
     clear H'
     (try clear c1);(try clear p2);(try clear c4);(try clear c4b0);(try clear c4b1);(try clear c4b2);(try clear c7);(try clear p2)
     obtain ⟨x6_2, x7_2, rfl, rfl, HA, HK2, HB⟩ := hrel
     cases gk with
     | zero => exact absurd HA.out (by simp [cutroomref20_Restore.l0])
     | succ k2 =>
      have H := HA.out
      clear HA
      simp only [cutroomref20_Restore.l0] at H
      by_cases c8 : x7_2 < (l1.length : Int)
      ·rw [if_pos c8] at H
       have c8b0 : decide (x7_2 < (l1.length : Int)) = true := decide_eq_true c8
       clear c8
       by_cases c9 : 0 ≤ x7_2
       ·rw [if_pos c9] at H
        have c9b0 : decide (0 ≤ x7_2) = true := decide_eq_true c9
        clear c9
        by_cases c10 : ((rd_T43 l1 x7_2).f0) < 0
        ·rw [if_pos c10] at H
         have c10b0 : decide (((rd_T43 l1 x7_2).f0) < 0) = true := decide_eq_true c10
         clear c10
         simp only [Option.some.injEq, Prod.mk.injEq] at H
         obtain ⟨rfl, rfl⟩ := H
         have p330 : 0 ≤ (x7_2 : Int) := of_decide_eq_true (by first | (with_reducible assumption) | assumption)
         have q330 : x7_2 < (l1.length : Int) := of_decide_eq_true (by first | (with_reducible assumption) | assumption)
         obtain ⟨ad330, e330, hx330_0, hx330_1⟩ := at_T43 HR1.out x7_2 p330 q330
         cases e330
         replace hx330_0 := (HB.out.cell (World.block_lt_of_cell? w _ hx330_0)).trans hx330_0
         replace hx330_1 := (HB.out.cell (World.block_lt_of_cell? w _ hx330_1)).trans hx330_1
         replace p330 := eq_true p330
         replace q330 := eq_true q330
         go_wp2
         go_ret2
         exact ⟨_, by first | rfl | (simp [errW_none, errW_some] <;> rfl) | (simp [*, errW_none, errW_some] <;> rfl), by first | exact Kd.S_nil _ _ _ _ _ | exact Kd.N_nil _ _ _ _ _ | exact Kd.V_nil _ _ _ _ _ | exact Kd.Q_nil _ _ _ _ _ | exact Kd.R_nil _ _ _ _ _, by repeat (first | (with_reducible first | exact HB.out | apply zA | apply zN | apply zD) | exact HB.out)⟩
        ·rw [if_neg c10] at H
         have c10b0 : decide (((rd_T43 l1 x7_2).f0) < 0) = false := decide_eq_false c10
         clear c10
         by_cases c11 : ((rd_T43 l1 x7_2).f0) ≥ 256
         ·rw [if_pos c11] at H
          have c11b0 : decide (256 ≤ ((rd_T43 l1 x7_2).f0)) = true := decide_eq_true c11
          clear c11
          simp only [Option.some.injEq, Prod.mk.injEq] at H
          obtain ⟨rfl, rfl⟩ := H
          have p330 : 0 ≤ (x7_2 : Int) := of_decide_eq_true (by first | (with_reducible assumption) | assumption)
          have q330 : x7_2 < (l1.length : Int) := of_decide_eq_true (by first | (with_reducible assumption) | assumption)
          obtain ⟨ad330, e330, hx330_0, hx330_1⟩ := at_T43 HR1.out x7_2 p330 q330
          cases e330
          replace hx330_0 := (HB.out.cell (World.block_lt_of_cell? w _ hx330_0)).trans hx330_0
          replace hx330_1 := (HB.out.cell (World.block_lt_of_cell? w _ hx330_1)).trans hx330_1
          replace p330 := eq_true p330
          replace q330 := eq_true q330
          have p331 : 0 ≤ (x7_2 : Int) := of_decide_eq_true (by first | (with_reducible assumption) | assumption)
          have q331 : x7_2 < (l1.length : Int) := of_decide_eq_true (by first | (with_reducible assumption) | assumption)
          obtain ⟨ad331, e331, hx331_0, hx331_1⟩ := at_T43 HR1.out x7_2 p331 q331
          obtain rfl : ad330 = ad331 := (by injection e331)
          replace hx331_0 := (HB.out.cell (World.block_lt_of_cell? w _ hx331_0)).trans hx331_0
          replace hx331_1 := (HB.out.cell (World.block_lt_of_cell? w _ hx331_1)).trans hx331_1
          replace p331 := eq_true p331
          replace q331 := eq_true q331
          go_wp2
          go_ret2
          exact ⟨_, by first | rfl | (simp [errW_none, errW_some] <;> rfl) | (simp [*, errW_none, errW_some] <;> rfl), by first | exact Kd.S_nil _ _ _ _ _ | exact Kd.N_nil _ _ _ _ _ | exact Kd.V_nil _ _ _ _ _ | exact Kd.Q_nil _ _ _ _ _ | exact Kd.R_nil _ _ _ _ _, by repeat (first | (with_reducible first | exact HB.out | apply zA | apply zN | apply zD) | exact HB.out)⟩
         ·rw [if_neg c11] at H
          have c11b0 : decide (256 ≤ ((rd_T43 l1 x7_2).f0)) = false := decide_eq_false c11
          clear c11
          by_cases c12 : ((rd_T43 l1 x7_2).f1) < 0
          ·rw [if_pos c12] at H
           have c12b0 : decide (((rd_T43 l1 x7_2).f1) < 0) = true := decide_eq_true c12
           clear c12
           simp only [Option.some.injEq, Prod.mk.injEq] at H
           obtain ⟨rfl, rfl⟩ := H
           have p330 : 0 ≤ (x7_2 : Int) := of_decide_eq_true (by first | (with_reducible assumption) | assumption)
           have q330 : x7_2 < (l1.length : Int) := of_decide_eq_true (by first | (with_reducible assumption) | assumption)
           obtain ⟨ad330, e330, hx330_0, hx330_1⟩ := at_T43 HR1.out x7_2 p330 q330
           cases e330
           replace hx330_0 := (HB.out.cell (World.block_lt_of_cell? w _ hx330_0)).trans hx330_0
           replace hx330_1 := (HB.out.cell (World.block_lt_of_cell? w _ hx330_1)).trans hx330_1
           replace p330 := eq_true p330
           replace q330 := eq_true q330
           have p331 : 0 ≤ (x7_2 : Int) := of_decide_eq_true (by first | (with_reducible assumption) | assumption)
           have q331 : x7_2 < (l1.length : Int) := of_decide_eq_true (by first | (with_reducible assumption) | assumption)
           obtain ⟨ad331, e331, hx331_0, hx331_1⟩ := at_T43 HR1.out x7_2 p331 q331
           obtain rfl : ad330 = ad331 := (by injection e331)
           replace hx331_0 := (HB.out.cell (World.block_lt_of_cell? w _ hx331_0)).trans hx331_0
           replace hx331_1 := (HB.out.cell (World.block_lt_of_cell? w _ hx331_1)).trans hx331_1
           replace p331 := eq_true p331
           replace q331 := eq_true q331
           have p332 : 0 ≤ (x7_2 : Int) := of_decide_eq_true (by first | (with_reducible assumption) | assumption)
           have q332 : x7_2 < (l1.length : Int) := of_decide_eq_true (by first | (with_reducible assumption) | assumption)
           obtain ⟨ad332, e332, hx332_0, hx332_1⟩ := at_T43 HR1.out x7_2 p332 q332
           obtain rfl : ad330 = ad332 := (by injection e332)
           replace hx332_0 := (HB.out.cell (World.block_lt_of_cell? w _ hx332_0)).trans hx332_0
           replace hx332_1 := (HB.out.cell (World.block_lt_of_cell? w _ hx332_1)).trans hx332_1
           replace p332 := eq_true p332
           replace q332 := eq_true q332
           go_wp2
           go_ret2
           exact ⟨_, by first | rfl | (simp [errW_none, errW_some] <;> rfl) | (simp [*, errW_none, errW_some] <;> rfl), by first | exact Kd.S_nil _ _ _ _ _ | exact Kd.N_nil _ _ _ _ _ | exact Kd.V_nil _ _ _ _ _ | exact Kd.Q_nil _ _ _ _ _ | exact Kd.R_nil _ _ _ _ _, by repeat (first | (with_reducible first | exact HB.out | apply zA | apply zN | apply zD) | exact HB.out)⟩
          ·rw [if_neg c12] at H
           have c12b0 : decide (((rd_T43 l1 x7_2).f1) < 0) = false := decide_eq_false c12
           clear c12
           by_cases c13 : ((rd_T43 l1 x7_2).f1) ≥ 256
           ·rw [if_pos c13] at H
            have c13b0 : decide (256 ≤ ((rd_T43 l1 x7_2).f1)) = true := decide_eq_true c13
            clear c13
            simp only [Option.some.injEq, Prod.mk.injEq] at H
            obtain ⟨rfl, rfl⟩ := H
            have p330 : 0 ≤ (x7_2 : Int) := of_decide_eq_true (by first | (with_reducible assumption) | assumption)
            have q330 : x7_2 < (l1.length : Int) := of_decide_eq_true (by first | (with_reducible assumption) | assumption)
            obtain ⟨ad330, e330, hx330_0, hx330_1⟩ := at_T43 HR1.out x7_2 p330 q330
            cases e330
            replace hx330_0 := (HB.out.cell (World.block_lt_of_cell? w _ hx330_0)).trans hx330_0
            replace hx330_1 := (HB.out.cell (World.block_lt_of_cell? w _ hx330_1)).trans hx330_1
            replace p330 := eq_true p330
            replace q330 := eq_true q330
            have p331 : 0 ≤ (x7_2 : Int) := of_decide_eq_true (by first | (with_reducible assumption) | assumption)
            have q331 : x7_2 < (l1.length : Int) := of_decide_eq_true (by first | (with_reducible assumption) | assumption)
            obtain ⟨ad331, e331, hx331_0, hx331_1⟩ := at_T43 HR1.out x7_2 p331 q331
            obtain rfl : ad330 = ad331 := (by injection e331)
            replace hx331_0 := (HB.out.cell (World.block_lt_of_cell? w _ hx331_0)).trans hx331_0
            replace hx331_1 := (HB.out.cell (World.block_lt_of_cell? w _ hx331_1)).trans hx331_1
            replace p331 := eq_true p331
            replace q331 := eq_true q331
            have p332 : 0 ≤ (x7_2 : Int) := of_decide_eq_true (by first | (with_reducible assumption) | assumption)
            have q332 : x7_2 < (l1.length : Int) := of_decide_eq_true (by first | (with_reducible assumption) | assumption)
            obtain ⟨ad332, e332, hx332_0, hx332_1⟩ := at_T43 HR1.out x7_2 p332 q332
            obtain rfl : ad330 = ad332 := (by injection e332)
            replace hx332_0 := (HB.out.cell (World.block_lt_of_cell? w _ hx332_0)).trans hx332_0
            replace hx332_1 := (HB.out.cell (World.block_lt_of_cell? w _ hx332_1)).trans hx332_1
            replace p332 := eq_true p332
            replace q332 := eq_true q332
            have p333 : 0 ≤ (x7_2 : Int) := of_decide_eq_true (by first | (with_reducible assumption) | assumption)
            have q333 : x7_2 < (l1.length : Int) := of_decide_eq_true (by first | (with_reducible assumption) | assumption)
            obtain ⟨ad333, e333, hx333_0, hx333_1⟩ := at_T43 HR1.out x7_2 p333 q333
            obtain rfl : ad330 = ad333 := (by injection e333)
            replace hx333_0 := (HB.out.cell (World.block_lt_of_cell? w _ hx333_0)).trans hx333_0
            replace hx333_1 := (HB.out.cell (World.block_lt_of_cell? w _ hx333_1)).trans hx333_1
            replace p333 := eq_true p333
            replace q333 := eq_true q333
            go_wp2
            go_ret2
            exact ⟨_, by first | rfl | (simp [errW_none, errW_some] <;> rfl) | (simp [*, errW_none, errW_some] <;> rfl), by first | exact Kd.S_nil _ _ _ _ _ | exact Kd.N_nil _ _ _ _ _ | exact Kd.V_nil _ _ _ _ _ | exact Kd.Q_nil _ _ _ _ _ | exact Kd.R_nil _ _ _ _ _, by repeat (first | (with_reducible first | exact HB.out | apply zA | apply zN | apply zD) | exact HB.out)⟩
           ·rw [if_neg c13] at H
            have c13b0 : decide (256 ≤ ((rd_T43 l1 x7_2).f1)) = false := decide_eq_false c13
            clear c13
            obtain ⟨ji14, hji14⟩ : ∃ j_ : Int, (mx x6_2 ((rd_T43 l1 x7_2).f0)) = j_ := ⟨_, rfl⟩
            replace H : (cutroomref20_Restore.l0 k2 l0 l1 (mx (ji14) ((rd_T43 l1 x7_2).f1)) (wrap64 (x7_2 + 1))) = some (r1, r2) := by first | (rw [hji14] at H; exact H) | (simp only [hji14] at H ⊢; exact H)
            have hji14_ : (if x6_2 < ((rd_T43 l1 x7_2).f0) then ((rd_T43 l1 x7_2).f0) else x6_2) = ji14 := hji14
            obtain ⟨ji15, hji15⟩ : ∃ j_ : Int, (mx (ji14) ((rd_T43 l1 x7_2).f1)) = j_ := ⟨_, rfl⟩
            replace H : (cutroomref20_Restore.l0 k2 l0 l1 ji15 (wrap64 (x7_2 + 1))) = some (r1, r2) := by first | (rw [hji15] at H; exact H) | (simp only [hji15] at H ⊢; exact H)
            have hji15_ : (if (ji14) < ((rd_T43 l1 x7_2).f1) then ((rd_T43 l1 x7_2).f1) else (ji14)) = ji15 := hji15
            have H' := Aside0.mk H
            clear H
            have p330 : 0 ≤ (x7_2 : Int) := of_decide_eq_true (by first | (with_reducible assumption) | assumption)
            have q330 : x7_2 < (l1.length : Int) := of_decide_eq_true (by first | (with_reducible assumption) | assumption)
            obtain ⟨ad330, e330, hx330_0, hx330_1⟩ := at_T43 HR1.out x7_2 p330 q330
            cases e330
            replace hx330_0 := (HB.out.cell (World.block_lt_of_cell? w _ hx330_0)).trans hx330_0
            replace hx330_1 := (HB.out.cell (World.block_lt_of_cell? w _ hx330_1)).trans hx330_1
            replace p330 := eq_true p330
            replace q330 := eq_true q330
            have p331 : 0 ≤ (x7_2 : Int) := of_decide_eq_true (by first | (with_reducible assumption) | assumption)
            have q331 : x7_2 < (l1.length : Int) := of_decide_eq_true (by first | (with_reducible assumption) | assumption)
            obtain ⟨ad331, e331, hx331_0, hx331_1⟩ := at_T43 HR1.out x7_2 p331 q331
            obtain rfl : ad330 = ad331 := (by injection e331)
            replace hx331_0 := (HB.out.cell (World.block_lt_of_cell? w _ hx331_0)).trans hx331_0
            replace hx331_1 := (HB.out.cell (World.block_lt_of_cell? w _ hx331_1)).trans hx331_1
            replace p331 := eq_true p331
            replace q331 := eq_true q331
            have p332 : 0 ≤ (x7_2 : Int) := of_decide_eq_true (by first | (with_reducible assumption) | assumption)
            have q332 : x7_2 < (l1.length : Int) := of_decide_eq_true (by first | (with_reducible assumption) | assumption)
            obtain ⟨ad332, e332, hx332_0, hx332_1⟩ := at_T43 HR1.out x7_2 p332 q332
            obtain rfl : ad330 = ad332 := (by injection e332)
            replace hx332_0 := (HB.out.cell (World.block_lt_of_cell? w _ hx332_0)).trans hx332_0
            replace hx332_1 := (HB.out.cell (World.block_lt_of_cell? w _ hx332_1)).trans hx332_1
            replace p332 := eq_true p332
            replace q332 := eq_true q332
            have p333 : 0 ≤ (x7_2 : Int) := of_decide_eq_true (by first | (with_reducible assumption) | assumption)
            have q333 : x7_2 < (l1.length : Int) := of_decide_eq_true (by first | (with_reducible assumption) | assumption)
            obtain ⟨ad333, e333, hx333_0, hx333_1⟩ := at_T43 HR1.out x7_2 p333 q333
            obtain rfl : ad330 = ad333 := (by injection e333)
            replace hx333_0 := (HB.out.cell (World.block_lt_of_cell? w _ hx333_0)).trans hx333_0
            replace hx333_1 := (HB.out.cell (World.block_lt_of_cell? w _ hx333_1)).trans hx333_1
            replace p333 := eq_true p333
            replace q333 := eq_true q333
            try go_wp2
            have n0_ := Aside0.mk (zD HB.out)
            clear HB
            have HB := n0_
            clear n0_
            have p334 : 0 ≤ (x7_2 : Int) := of_decide_eq_true (by first | (with_reducible assumption) | assumption)
            have q334 : x7_2 < (l1.length : Int) := of_decide_eq_true (by first | (with_reducible assumption) | assumption)
            obtain ⟨ad334, e334, hx334_0, hx334_1⟩ := at_T43 HR1.out x7_2 p334 q334
            have hw334_1 := hx334_1
            have hw334_0 := hx334_0
            obtain rfl : ad330 = ad334 := (by injection e334)
            replace hx334_0 := (HB.out.cell (World.block_lt_of_cell? w _ hx334_0)).trans hx334_0
            replace hx334_1 := (HB.out.cell (World.block_lt_of_cell? w _ hx334_1)).trans hx334_1
            replace p334 := eq_true p334
            replace q334 := eq_true q334
            have p335 : 0 ≤ (x7_2 : Int) := of_decide_eq_true (by first | (with_reducible assumption) | assumption)
            have q335 : x7_2 < (l1.length : Int) := of_decide_eq_true (by first | (with_reducible assumption) | assumption)
            obtain ⟨ad335, e335, hx335_0, hx335_1⟩ := at_T43 HR1.out x7_2 p335 q335
            have hw335_1 := hx335_1
            have hw335_0 := hx335_0
            obtain rfl : ad330 = ad335 := (by injection e335)
            replace hx335_0 := (HB.out.cell (World.block_lt_of_cell? w _ hx335_0)).trans hx335_0
            replace hx335_1 := (HB.out.cell (World.block_lt_of_cell? w _ hx335_1)).trans hx335_1
            replace p335 := eq_true p335
            replace q335 := eq_true q335
            refine start_ (n := 13) (S := fun w' => w'.cell? (ad330.add ((x7_2).toNat * 2)) = some (.int .i64 ((rd_T43 l1 x7_2).f0)) ∧ w'.cell? ⟨(ad330.add ((x7_2).toNat * 2)).block, (ad330.add ((x7_2).toNat * 2)).off + 1, none⟩ = some (.int .i64 ((rd_T43 l1 x7_2).f1)) ∧ w'.cell? (ad330.add ((x7_2).toNat * 2)) = some (.int .i64 ((rd_T43 l1 x7_2).f0)) ∧ w'.cell? ⟨(ad330.add ((x7_2).toNat * 2)).block, (ad330.add ((x7_2).toNat * 2)).off + 1, none⟩ = some (.int .i64 ((rd_T43 l1 x7_2).f1))) (ds := []) #[false, false, false, false, false, false, false, false, false, false, false, false, false] (by kernel_rfl) rfl rfl ⟨((HB.out.cell (World.block_lt_of_cell? w _ hw334_0)).trans hw334_0), ((HB.out.cell (World.block_lt_of_cell? w _ hw334_1)).trans hw334_1), ((HB.out.cell (World.block_lt_of_cell? w _ hw335_0)).trans hw335_0), ((HB.out.cell (World.block_lt_of_cell? w _ hw335_1)).trans hw335_1)⟩ (fun hHeld => ?_); refine with_tabW cutroomref20_Restore.tab9 cutroomref20_Restore.bits9 (fun HT_ HW_ => ?_)
            generalize wr.drew = w16 at HB hx334_0 hx334_1 hx335_0 hx335_1 hHeld ⊢
            refine Abb.pS 0 59 #[T', F', F', F', F', F', F', F', F', F', F', F', F'] HT_ ?_
            refine Abb.pS 1 60 #[T', T', F', F', F', F', F', F', F', F', F', F', F'] HT_ ?_
            refine Abb.pS 2 61 #[T', T', T', F', F', F', F', F', F', F', F', F', F'] HT_ ?_
            refine Abb.pS 3 62 #[T', T', T', T', F', F', F', F', F', F', F', F', F'] HT_ ?_
            refine Abb.pS 4 63 #[T', T', T', T', T', F', F', F', F', F', F', F', F'] HT_ ?_
            refine Abb.pS 6 65 #[T', T', T', T', T', F', T', F', F', F', F', F', F'] HT_ ?_
            refine Abb.pS 7 66 #[T', T', T', T', T', F', T', T', F', F', F', F', F'] HT_ ?_
            refine Abb.pS 8 67 #[T', T', T', T', T', F', T', T', T', F', F', F', F'] HT_ ?_
            refine Abb.pS 9 68 #[T', T', T', T', T', F', T', T', T', T', F', F', F'] HT_ ?_
            refine Abb.pT 5 64 #[T', T', T', T', T', T', T', T', T', T', F', F', F'] HT_ HW_ hHeld ?_
            refine Abb.pT 10 69 #[T', T', T', T', T', T', T', T', T', T', T', F', F'] HT_ HW_ hHeld ?_
            refine Abb.pS 11 70 #[T', T', T', T', T', T', T', T', T', T', T', T', F'] HT_ ?_
            refine Abb.pS 12 6 #[T', T', T', T', T', T', T', T', T', T', T', T', T'] HT_ ?_
            refine done_ (done_of HT_.out (by kernel_rfl)) ?_
            try go_wp2
            go_roundg k2
            case measure => have := HJ2.out; have := HK2.out; omega
            case rel => exact ⟨(ji15), (wrap64 (x7_2 + 1)), (by first | rfl | (simp; done) | (simp only [← hji15] <;> (first | rfl | simp)) | (simp [*]; done)), (by first | rfl | (simp; done) | (simp [*]; done)), H', ⟨by have := HJ2.out; have := HK2.out; omega⟩, ⟨by repeat (first | (with_reducible first | exact HB.out | apply zA | apply zN | apply zD) | exact HB.out)⟩⟩
       ·rw [if_neg c9] at H
        exact absurd H (by simp)
      ·rw [if_neg c8] at H
       have c8b0 : decide (x7_2 < (l1.length : Int)) = false := decide_eq_false c8
       clear c8
       by_cases c17 : (l1.length : Int) > 256
       ·rw [if_pos c17] at H
        have c17b0 : decide (256 < (l1.length : Int)) = true := decide_eq_true c17
        have c17b1 : decide (256 < l1.length) = true := decide_eq_true (by omega)
        clear c17
        simp only [Option.some.injEq, Prod.mk.injEq] at H
        obtain ⟨rfl, rfl⟩ := H
        go_wp2
        go_ret2
        exact ⟨_, by first | rfl | (simp [errW_none, errW_some] <;> rfl) | (simp [*, errW_none, errW_some] <;> rfl), by first | exact Kd.S_nil _ _ _ _ _ | exact Kd.N_nil _ _ _ _ _ | exact Kd.V_nil _ _ _ _ _ | exact Kd.Q_nil _ _ _ _ _ | exact Kd.R_nil _ _ _ _ _, by repeat (first | (with_reducible first | exact HB.out | apply zA | apply zN | apply zD) | exact HB.out)⟩
       ·rw [if_neg c17] at H
        have c17b0 : decide (256 < (l1.length : Int)) = false := decide_eq_false c17
        have c17b1 : decide (256 < l1.length) = false := decide_eq_false (by omega)
        clear c17
        have H' := Aside0.mk H
        clear H
        go_wp2
        go_loopg [8, 9] k2 (fun kq v8 v9 w' => ∃ (x8_3 : List (S52)) (x9_3 : Int), v9 = .int .i64 x9_3 ∧ Aside0 (cutroomref20_Restore.l1 kq l0 l1 x6_2 x8_3 x9_3 = some (r1, r2)) ∧ Aside0 (kq ≤ k2) ∧ Aside0 (Kd.S k52 52 w' w.heap.size (fun _ => True) v8 x8_3) ∧ Aside0 (Below w.heap.size w w'))
        case atStart => exact ⟨(([] : List (S52))), (0), (by first | rfl | (simp; done) | (simp [*]; done)), H', ⟨Nat.le_refl _⟩, ⟨by first | exact Kd.S_nil _ _ _ _ _ | exact Kd.N_nil _ _ _ _ _ | exact Kd.V_nil _ _ _ _ _ | exact Kd.Q_nil _ _ _ _ _ | exact Kd.R_nil _ _ _ _ _⟩, ⟨by repeat (first | (with_reducible first | exact HB.out | apply zA | apply zN | apply zD) | exact HB.out)⟩⟩
        case round =>
         clear H'
         (try clear c1);(try clear p2);(try clear p3);(try clear q3);(try clear hx3);(try clear c4);(try clear c4b0);(try clear c4b1);(try clear c4b2);(try clear p6);(try clear c7);(try clear c8);(try clear c8b0);(try clear c9);(try clear c9b0);(try clear c10);(try clear c10b0);(try clear c11);(try clear c11b0);(try clear c12);(try clear c12b0);(try clear c13);(try clear c13b0);(try clear c17);(try clear c17b0);(try clear c17b1);(try clear hx330_0);(try clear hx330_1);(try clear hx331_0);(try clear hx331_1);(try clear hx332_0);(try clear hx332_1);(try clear hx333_0);(try clear hx333_1);(try clear hx334_0);(try clear hx334_1);(try clear hx335_0);(try clear hx335_1);(try clear p2);(try clear p330);(try clear p331);(try clear p332);(try clear p333);(try clear p334);(try clear p335);(try clear q330);(try clear q331);(try clear q332);(try clear q333);(try clear q334);(try clear q335)
         obtain ⟨x8_3, x9_3, rfl, HA, HK3, HO_8, HB⟩ := hrel
         cases gk with
         | zero => exact absurd HA.out (by simp [cutroomref20_Restore.l1])
         | succ k3 =>
          have H := HA.out
          clear HA
          simp only [cutroomref20_Restore.l1] at H
          by_cases c18 : x9_3 ≤ x6_2
          ·rw [if_pos c18] at H
           have c18b0 : decide (x9_3 ≤ x6_2) = true := decide_eq_true c18
           clear c18
           have H' := Aside0.mk H
           clear H
           go_wp2
           go_loopg [10, 11, 12] k3 (fun kq v10 v11 v12 w' => ∃ (x10_4 : Int) (x11_4 : Int) (x12_4 : Int), v10 = .int .i64 x10_4 ∧ v11 = .int .i64 x11_4 ∧ v12 = .int .i64 x12_4 ∧ Aside0 (cutroomref20_Restore.l2 kq l0 l1 x6_2 x8_3 x9_3 x10_4 x11_4 x12_4 = some (r1, r2)) ∧ Aside0 (kq ≤ k3) ∧ Aside0 (Kd.S k52 52 w' w.heap.size (fun _ => True) u8 x8_3) ∧ Aside0 (Below w.heap.size w w'))
           case atStart => exact ⟨((-1)), ((-1)), (wrap64 ((l1.length : Int) - 1)), (by first | rfl | (simp; done) | (simp [*]; done)), (by first | rfl | (simp; done) | (simp [*]; done)), (by first | rfl | (simp; done) | (simp [*]; done)), H', ⟨Nat.le_refl _⟩, ⟨by (with_reducible repeat (first | apply Kd.S_alloc | apply Kd.S_drewN | apply Kd.S_drew)); exact HO_8.out⟩, ⟨by repeat (first | (with_reducible first | exact HB.out | apply zA | apply zN | apply zD) | exact HB.out)⟩⟩
           case round =>
            clear H'
            (try clear c1);(try clear p2);(try clear p3);(try clear q3);(try clear hx3);(try clear c4);(try clear c4b0);(try clear c4b1);(try clear c4b2);(try clear p6);(try clear c7);(try clear c8);(try clear c8b0);(try clear c9);(try clear c9b0);(try clear c10);(try clear c10b0);(try clear c11);(try clear c11b0);(try clear c12);(try clear c12b0);(try clear c13);(try clear c13b0);(try clear c17);(try clear c17b0);(try clear c17b1);(try clear c18);(try clear c18b0);(try clear hx330_0);(try clear hx330_1);(try clear hx331_0);(try clear hx331_1);(try clear hx332_0);(try clear hx332_1);(try clear hx333_0);(try clear hx333_1);(try clear hx334_0);(try clear hx334_1);(try clear hx335_0);(try clear hx335_1);(try clear p2);(try clear p3);(try clear p330);(try clear p331);(try clear p332);(try clear p333);(try clear p334);(try clear p335);(try clear p6);(try clear q3);(try clear q330)
            (try clear q331);(try clear q332);(try clear q333);(try clear q334);(try clear q335)
            obtain ⟨x10_4, x11_4, x12_4, rfl, rfl, rfl, HA, HK4, HO_8, HB⟩ := hrel
            cases gk with
            | zero => exact absurd HA.out (by simp [cutroomref20_Restore.l2])
            | succ k4 =>
             have H := HA.out
             clear HA
             simp only [cutroomref20_Restore.l2] at H
             by_cases c19 : x12_4 ≥ 0
             ·rw [if_pos c19] at H
              have c19b0 : decide (0 ≤ x12_4) = true := decide_eq_true c19
              clear c19
              by_cases c20 : 0 ≤ x12_4
              ·rw [if_pos c20] at H
               have c20b0 : decide (0 ≤ x12_4) = true := decide_eq_true c20
               clear c20
               by_cases c21 : x12_4 < (l1.length : Int)
               ·rw [if_pos c21] at H
                have c21b0 : decide (x12_4 < (l1.length : Int)) = true := decide_eq_true c21
                clear c21
                by_cases c22 : ((rd_T43 l1 x12_4).f0) = x9_3
                ·rw [if_pos c22] at H
                 have c22b0 : (((rd_T43 l1 x12_4).f0) == x9_3) = true := beq_iff_eq.mpr c22
                 have c22b1 : (((rd_T43 l1 x12_4).f0) != x9_3) = false := bne_eq_false_iff_eq.mpr c22
                 clear c22
                 by_cases c23 : ((rd_T43 l1 x12_4).f1) = x9_3
                 ·rw [if_pos c23] at H
                  have c23b0 : (((rd_T43 l1 x12_4).f1) == x9_3) = true := beq_iff_eq.mpr c23
                  have c23b1 : (((rd_T43 l1 x12_4).f1) != x9_3) = false := bne_eq_false_iff_eq.mpr c23
                  clear c23
                  have H' := Aside0.mk H
                  clear H
                  have p352 : 0 ≤ (x12_4 : Int) := of_decide_eq_true (by first | (with_reducible assumption) | assumption)
                  have q352 : x12_4 < (l1.length : Int) := of_decide_eq_true (by first | (with_reducible assumption) | assumption)
                  obtain ⟨ad352, e352, hx352_0, hx352_1⟩ := at_T43 HR1.out x12_4 p352 q352
                  cases e352
                  replace hx352_0 := (HB.out.cell (World.block_lt_of_cell? w _ hx352_0)).trans hx352_0
                  replace hx352_1 := (HB.out.cell (World.block_lt_of_cell? w _ hx352_1)).trans hx352_1
                  replace p352 := eq_true p352
                  replace q352 := eq_true q352
                  have p353 : 0 ≤ (x12_4 : Int) := of_decide_eq_true (by first | (with_reducible assumption) | assumption)
                  have q353 : x12_4 < (l1.length : Int) := of_decide_eq_true (by first | (with_reducible assumption) | assumption)
                  obtain ⟨ad353, e353, hx353_0, hx353_1⟩ := at_T43 HR1.out x12_4 p353 q353
                  obtain rfl : ad352 = ad353 := (by injection e353)
                  replace hx353_0 := (HB.out.cell (World.block_lt_of_cell? w _ hx353_0)).trans hx353_0
                  replace hx353_1 := (HB.out.cell (World.block_lt_of_cell? w _ hx353_1)).trans hx353_1
                  replace p353 := eq_true p353
                  replace q353 := eq_true q353
                  go_wp2
                  go_roundg k4
                  case measure => have := HJ2.out; have := HK2.out; have := HK3.out; have := HK4.out; omega
                  case rel => exact ⟨(x12_4), (x12_4), (wrap64 (x12_4 - 1)), (by first | rfl | (simp; done) | (simp [*]; done)), (by first | rfl | (simp; done) | (simp [*]; done)), (by first | rfl | (simp; done) | (simp [*]; done)), H', ⟨by have := HJ2.out; have := HK2.out; have := HK3.out; have := HK4.out; omega⟩, ⟨by (with_reducible repeat (first | apply Kd.S_alloc | apply Kd.S_drewN | apply Kd.S_drew)); exact HO_8.out⟩, ⟨by repeat (first | (with_reducible first | exact HB.out | apply zA | apply zN | apply zD) | exact HB.out)⟩⟩
                 ·rw [if_neg c23] at H
                  have c23b0 : (((rd_T43 l1 x12_4).f1) == x9_3) = false := beq_eq_false_iff_ne.mpr c23
                  have c23b1 : (((rd_T43 l1 x12_4).f1) != x9_3) = true := bne_iff_ne.mpr c23
                  have H' := Aside0.mk H
                  clear H
                  have p352 : 0 ≤ (x12_4 : Int) := of_decide_eq_true (by first | (with_reducible assumption) | assumption)
                  have q352 : x12_4 < (l1.length : Int) := of_decide_eq_true (by first | (with_reducible assumption) | assumption)
                  obtain ⟨ad352, e352, hx352_0, hx352_1⟩ := at_T43 HR1.out x12_4 p352 q352
                  cases e352
                  replace hx352_0 := (HB.out.cell (World.block_lt_of_cell? w _ hx352_0)).trans hx352_0
                  replace hx352_1 := (HB.out.cell (World.block_lt_of_cell? w _ hx352_1)).trans hx352_1
                  replace p352 := eq_true p352
                  replace q352 := eq_true q352
                  have p353 : 0 ≤ (x12_4 : Int) := of_decide_eq_true (by first | (with_reducible assumption) | assumption)
                  have q353 : x12_4 < (l1.length : Int) := of_decide_eq_true (by first | (with_reducible assumption) | assumption)
                  obtain ⟨ad353, e353, hx353_0, hx353_1⟩ := at_T43 HR1.out x12_4 p353 q353
                  obtain rfl : ad352 = ad353 := (by injection e353)
                  replace hx353_0 := (HB.out.cell (World.block_lt_of_cell? w _ hx353_0)).trans hx353_0
                  replace hx353_1 := (HB.out.cell (World.block_lt_of_cell? w _ hx353_1)).trans hx353_1
                  replace p353 := eq_true p353
                  replace q353 := eq_true q353
                  go_wp2
                  go_roundg k4
                  case measure => have := HJ2.out; have := HK2.out; have := HK3.out; have := HK4.out; omega
                  case rel => exact ⟨(x12_4), (x11_4), (wrap64 (x12_4 - 1)), (by first | rfl | (simp; done) | (simp [*]; done)), (by first | rfl | (simp; done) | (simp [*]; done)), (by first | rfl | (simp; done) | (simp [*]; done)), H', ⟨by have := HJ2.out; have := HK2.out; have := HK3.out; have := HK4.out; omega⟩, ⟨by (with_reducible repeat (first | apply Kd.S_alloc | apply Kd.S_drewN | apply Kd.S_drew)); exact HO_8.out⟩, ⟨by repeat (first | (with_reducible first | exact HB.out | apply zA | apply zN | apply zD) | exact HB.out)⟩⟩
                ·rw [if_neg c22] at H
                 have c22b0 : (((rd_T43 l1 x12_4).f0) == x9_3) = false := beq_eq_false_iff_ne.mpr c22
                 have c22b1 : (((rd_T43 l1 x12_4).f0) != x9_3) = true := bne_iff_ne.mpr c22
                 by_cases c24 : ((rd_T43 l1 x12_4).f1) = x9_3
                 ·rw [if_pos c24] at H
                  have c24b0 : (((rd_T43 l1 x12_4).f1) == x9_3) = true := beq_iff_eq.mpr c24
                  have c24b1 : (((rd_T43 l1 x12_4).f1) != x9_3) = false := bne_eq_false_iff_eq.mpr c24
                  clear c24
                  have H' := Aside0.mk H
                  clear H
                  have p352 : 0 ≤ (x12_4 : Int) := of_decide_eq_true (by first | (with_reducible assumption) | assumption)
                  have q352 : x12_4 < (l1.length : Int) := of_decide_eq_true (by first | (with_reducible assumption) | assumption)
                  obtain ⟨ad352, e352, hx352_0, hx352_1⟩ := at_T43 HR1.out x12_4 p352 q352
                  cases e352
                  replace hx352_0 := (HB.out.cell (World.block_lt_of_cell? w _ hx352_0)).trans hx352_0
                  replace hx352_1 := (HB.out.cell (World.block_lt_of_cell? w _ hx352_1)).trans hx352_1
                  replace p352 := eq_true p352
                  replace q352 := eq_true q352
                  have p354 : 0 ≤ (x12_4 : Int) := of_decide_eq_true (by first | (with_reducible assumption) | assumption)
                  have q354 : x12_4 < (l1.length : Int) := of_decide_eq_true (by first | (with_reducible assumption) | assumption)
                  obtain ⟨ad354, e354, hx354_0, hx354_1⟩ := at_T43 HR1.out x12_4 p354 q354
                  obtain rfl : ad352 = ad354 := (by injection e354)
                  replace hx354_0 := (HB.out.cell (World.block_lt_of_cell? w _ hx354_0)).trans hx354_0
                  replace hx354_1 := (HB.out.cell (World.block_lt_of_cell? w _ hx354_1)).trans hx354_1
                  replace p354 := eq_true p354
                  replace q354 := eq_true q354
                  go_wp2
                  go_roundg k4
                  case measure => have := HJ2.out; have := HK2.out; have := HK3.out; have := HK4.out; omega
                  case rel => exact ⟨(x10_4), (x12_4), (wrap64 (x12_4 - 1)), (by first | rfl | (simp; done) | (simp [*]; done)), (by first | rfl | (simp; done) | (simp [*]; done)), (by first | rfl | (simp; done) | (simp [*]; done)), H', ⟨by have := HJ2.out; have := HK2.out; have := HK3.out; have := HK4.out; omega⟩, ⟨by (with_reducible repeat (first | apply Kd.S_alloc | apply Kd.S_drewN | apply Kd.S_drew)); exact HO_8.out⟩, ⟨by repeat (first | (with_reducible first | exact HB.out | apply zA | apply zN | apply zD) | exact HB.out)⟩⟩
                 ·rw [if_neg c24] at H
                  have c24b0 : (((rd_T43 l1 x12_4).f1) == x9_3) = false := beq_eq_false_iff_ne.mpr c24
                  have c24b1 : (((rd_T43 l1 x12_4).f1) != x9_3) = true := bne_iff_ne.mpr c24
                  have H' := Aside0.mk H
                  clear H
                  have p352 : 0 ≤ (x12_4 : Int) := of_decide_eq_true (by first | (with_reducible assumption) | assumption)
                  have q352 : x12_4 < (l1.length : Int) := of_decide_eq_true (by first | (with_reducible assumption) | assumption)
                  obtain ⟨ad352, e352, hx352_0, hx352_1⟩ := at_T43 HR1.out x12_4 p352 q352
                  cases e352
                  replace hx352_0 := (HB.out.cell (World.block_lt_of_cell? w _ hx352_0)).trans hx352_0
                  replace hx352_1 := (HB.out.cell (World.block_lt_of_cell? w _ hx352_1)).trans hx352_1
                  replace p352 := eq_true p352
                  replace q352 := eq_true q352
                  have p354 : 0 ≤ (x12_4 : Int) := of_decide_eq_true (by first | (with_reducible assumption) | assumption)
                  have q354 : x12_4 < (l1.length : Int) := of_decide_eq_true (by first | (with_reducible assumption) | assumption)
                  obtain ⟨ad354, e354, hx354_0, hx354_1⟩ := at_T43 HR1.out x12_4 p354 q354
                  obtain rfl : ad352 = ad354 := (by injection e354)
                  replace hx354_0 := (HB.out.cell (World.block_lt_of_cell? w _ hx354_0)).trans hx354_0
                  replace hx354_1 := (HB.out.cell (World.block_lt_of_cell? w _ hx354_1)).trans hx354_1
                  replace p354 := eq_true p354
                  replace q354 := eq_true q354
                  go_wp2
                  go_roundg k4
                  case measure => have := HJ2.out; have := HK2.out; have := HK3.out; have := HK4.out; omega
                  case rel => exact ⟨(x10_4), (x11_4), (wrap64 (x12_4 - 1)), (by first | rfl | (simp; done) | (simp [*]; done)), (by first | rfl | (simp; done) | (simp [*]; done)), (by first | rfl | (simp; done) | (simp [*]; done)), H', ⟨by have := HJ2.out; have := HK2.out; have := HK3.out; have := HK4.out; omega⟩, ⟨by (with_reducible repeat (first | apply Kd.S_alloc | apply Kd.S_drewN | apply Kd.S_drew)); exact HO_8.out⟩, ⟨by repeat (first | (with_reducible first | exact HB.out | apply zA | apply zN | apply zD) | exact HB.out)⟩⟩
               ·rw [if_neg c21] at H
                exact absurd H (by simp)
              ·rw [if_neg c20] at H
               exact absurd H (by simp)
             ·rw [if_neg c19] at H
              have c19b0 : decide (0 ≤ x12_4) = false := decide_eq_false c19
              clear c19
              by_cases c25 : x10_4 < 0
              ·rw [if_pos c25] at H
               have c25b0 : decide (x10_4 < 0) = true := decide_eq_true c25
               clear c25
               simp only [Option.some.injEq, Prod.mk.injEq] at H
               obtain ⟨rfl, rfl⟩ := H
               go_wp2
               go_ret2
               exact ⟨_, by first | rfl | (simp [errW_none, errW_some] <;> rfl) | (simp [*, errW_none, errW_some] <;> rfl), by first | exact Kd.S_nil _ _ _ _ _ | exact Kd.N_nil _ _ _ _ _ | exact Kd.V_nil _ _ _ _ _ | exact Kd.Q_nil _ _ _ _ _ | exact Kd.R_nil _ _ _ _ _, by repeat (first | (with_reducible first | exact HB.out | apply zA | apply zN | apply zD) | exact HB.out)⟩
              ·rw [if_neg c25] at H
               have c25b0 : decide (x10_4 < 0) = false := decide_eq_false c25
               clear c25
               by_cases c26 : x11_4 < 0
               ·rw [if_pos c26] at H
                have c26b0 : decide (x11_4 < 0) = true := decide_eq_true c26
                clear c26
                simp only [Option.some.injEq, Prod.mk.injEq] at H
                obtain ⟨rfl, rfl⟩ := H
                go_wp2
                go_ret2
                exact ⟨_, by first | rfl | (simp [errW_none, errW_some] <;> rfl) | (simp [*, errW_none, errW_some] <;> rfl), by first | exact Kd.S_nil _ _ _ _ _ | exact Kd.N_nil _ _ _ _ _ | exact Kd.V_nil _ _ _ _ _ | exact Kd.Q_nil _ _ _ _ _ | exact Kd.R_nil _ _ _ _ _, by repeat (first | (with_reducible first | exact HB.out | apply zA | apply zN | apply zD) | exact HB.out)⟩
               ·rw [if_neg c26] at H
                have c26b0 : decide (x11_4 < 0) = false := decide_eq_false c26
                clear c26
                by_cases c27 : 0 ≤ x10_4
                ·rw [if_pos c27] at H
                 have c27b0 : decide (0 ≤ x10_4) = true := decide_eq_true c27
                 clear c27
                 by_cases c28 : x10_4 < (l0.length : Int)
                 ·rw [if_pos c28] at H
                  have c28b0 : decide (x10_4 < (l0.length : Int)) = true := decide_eq_true c28
                  clear c28
                  by_cases c29 : 0 ≤ x11_4
                  ·rw [if_pos c29] at H
                   have c29b0 : decide (0 ≤ x11_4) = true := decide_eq_true c29
                   clear c29
                   by_cases c30 : x11_4 < (l0.length : Int)
                   ·rw [if_pos c30] at H
                    have c30b0 : decide (x11_4 < (l0.length : Int)) = true := decide_eq_true c30
                    clear c30
                    replace H := Option.bind_eq_some_iff.mp H
                    obtain ⟨⟨t338, t339, t340, t343, t346⟩, A310, H⟩ := H
                    replace H : (if x8_3.length < 1599289640401 then (cutroomref20_Restore.l1 k4 l0 l1 x6_2 (x8_3 ++ [(⟨t338, t339, t340, t343, t346⟩ : S52)]) (wrap64 (x9_3 + 1))) else (none)) = some (r1, r2) := H
                    have A31 := Aside0.mk A310
                    clear A310
                    by_cases c32 : x8_3.length < 1599289640401
                    ·rw [if_pos c32] at H
                     have LMc32 := Aside0.mk c32
                     clear c32
                     obtain ⟨y349, hy349⟩ : ∃ y_ : List (S52), y_ = (x8_3 ++ [(⟨t338, t339, t340, t343, t346⟩ : S52)]) := ⟨_, rfl⟩
                     replace H : (cutroomref20_Restore.l1 k4 l0 l1 x6_2 y349 (wrap64 (x9_3 + 1))) = some (r1, r2) := by first | (rw [hy349]; with_reducible exact H) | (have H2_ := (Option.bind_some _ _).symm.trans H; rw [hy349]; with_reducible exact H2_) | (have H2_ := (Option.bind_some _ _).symm.trans H; with_reducible exact H2_) | with_reducible exact H | (rw [hy349]; exact H) | exact H
                     have Ny349 := Aside0.mk hy349
                     clear hy349
                     have H' := Aside0.mk H
                     clear H
                     try go_wp2
                     have n0_ := Aside0.mk (Kd.S_drew HO_8.out)
                     have n1_ := Aside0.mk (zD HB.out)
                     clear HO_8
                     clear HB
                     have HO_8 := n0_
                     have HB := n1_
                     clear n0_ n1_
                     have p336 : 0 ≤ (x10_4 : Int) := of_decide_eq_true (by first | (with_reducible assumption) | assumption)
                     have q336 : x10_4 < (l0.length : Int) := of_decide_eq_true (by first | (with_reducible assumption) | assumption)
                     obtain ⟨ad336, A336_2, c336_2, A336_3, c336_3, A336_4, c336_4, e336, hx336_0, hx336_1, hx336_2, hx336_3, hx336_4, hl336_2, hi336_2, hl336_3, hi336_3, hl336_4, hi336_4⟩ := at_T52 HR0.out x10_4 p336 q336
                     have hw336_4 := hx336_4
                     have hw336_3 := hx336_3
                     have hw336_2 := hx336_2
                     have hw336_1 := hx336_1
                     have hw336_0 := hx336_0
                     cases e336
                     replace hx336_0 := (HB.out.cell (World.block_lt_of_cell? w _ hx336_0)).trans hx336_0
                     replace hx336_1 := (HB.out.cell (World.block_lt_of_cell? w _ hx336_1)).trans hx336_1
                     replace hx336_2 := (HB.out.cell (World.block_lt_of_cell? w _ hx336_2)).trans hx336_2
                     replace hx336_3 := (HB.out.cell (World.block_lt_of_cell? w _ hx336_3)).trans hx336_3
                     replace hx336_4 := (HB.out.cell (World.block_lt_of_cell? w _ hx336_4)).trans hx336_4
                     have HR336_2 := Aside0.mk hi336_2
                     have HC336_2 := Aside0.mk hl336_2
                     clear hi336_2 hl336_2
                     have HR336_3 := Aside0.mk hi336_3
                     have HC336_3 := Aside0.mk hl336_3
                     clear hi336_3 hl336_3
                     have HR336_4 := Aside0.mk hi336_4
                     have HC336_4 := Aside0.mk hl336_4
                     clear hi336_4 hl336_4
                     replace p336 := eq_true p336
                     replace q336 := eq_true q336
                     have p337 : 0 ≤ (x11_4 : Int) := of_decide_eq_true (by first | (with_reducible assumption) | assumption)
                     have q337 : x11_4 < (l0.length : Int) := of_decide_eq_true (by first | (with_reducible assumption) | assumption)
                     obtain ⟨ad337, A337_2, c337_2, A337_3, c337_3, A337_4, c337_4, e337, hx337_0, hx337_1, hx337_2, hx337_3, hx337_4, hl337_2, hi337_2, hl337_3, hi337_3, hl337_4, hi337_4⟩ := at_T52 HR0.out x11_4 p337 q337
                     have hw337_4 := hx337_4
                     have hw337_3 := hx337_3
                     have hw337_2 := hx337_2
                     have hw337_1 := hx337_1
                     have hw337_0 := hx337_0
                     obtain rfl : ad336 = ad337 := (by injection e337)
                     replace hx337_0 := (HB.out.cell (World.block_lt_of_cell? w _ hx337_0)).trans hx337_0
                     replace hx337_1 := (HB.out.cell (World.block_lt_of_cell? w _ hx337_1)).trans hx337_1
                     replace hx337_2 := (HB.out.cell (World.block_lt_of_cell? w _ hx337_2)).trans hx337_2
                     replace hx337_3 := (HB.out.cell (World.block_lt_of_cell? w _ hx337_3)).trans hx337_3
                     replace hx337_4 := (HB.out.cell (World.block_lt_of_cell? w _ hx337_4)).trans hx337_4
                     have HR337_2 := Aside0.mk hi337_2
                     have HC337_2 := Aside0.mk hl337_2
                     clear hi337_2 hl337_2
                     have HR337_3 := Aside0.mk hi337_3
                     have HC337_3 := Aside0.mk hl337_3
                     clear hi337_3 hl337_3
                     have HR337_4 := Aside0.mk hi337_4
                     have HC337_4 := Aside0.mk hl337_4
                     clear hi337_4 hl337_4
                     replace p337 := eq_true p337
                     replace q337 := eq_true q337
                     refine start_ (n := 13) (S := fun w' => w'.cell? (ad336.add ((x10_4).toNat * 5)) = some (.int .i64 ((rd_T52 l0 x10_4).f0)) ∧ w'.cell? ⟨(ad336.add ((x10_4).toNat * 5)).block, (ad336.add ((x10_4).toNat * 5)).off + 1, none⟩ = some (.int .i64 ((rd_T52 l0 x10_4).f1)) ∧ w'.cell? ⟨(ad336.add ((x10_4).toNat * 5)).block, (ad336.add ((x10_4).toNat * 5)).off + 2, none⟩ = some (.slice A336_2 ((rd_T52 l0 x10_4).f2).length c336_2) ∧ w'.cell? ⟨(ad336.add ((x10_4).toNat * 5)).block, (ad336.add ((x10_4).toNat * 5)).off + 3, none⟩ = some (.slice A336_3 ((rd_T52 l0 x10_4).f3).length c336_3) ∧ w'.cell? ⟨(ad336.add ((x10_4).toNat * 5)).block, (ad336.add ((x10_4).toNat * 5)).off + 4, none⟩ = some (.slice A336_4 ((rd_T52 l0 x10_4).f4).length c336_4) ∧ w'.cell? (ad336.add ((x11_4).toNat * 5)) = some (.int .i64 ((rd_T52 l0 x11_4).f0)) ∧ w'.cell? ⟨(ad336.add ((x11_4).toNat * 5)).block, (ad336.add ((x11_4).toNat * 5)).off + 1, none⟩ = some (.int .i64 ((rd_T52 l0 x11_4).f1)) ∧ w'.cell? ⟨(ad336.add ((x11_4).toNat * 5)).block, (ad336.add ((x11_4).toNat * 5)).off + 2, none⟩ = some (.slice A337_2 ((rd_T52 l0 x11_4).f2).length c337_2) ∧ w'.cell? ⟨(ad336.add ((x11_4).toNat * 5)).block, (ad336.add ((x11_4).toNat * 5)).off + 3, none⟩ = some (.slice A337_3 ((rd_T52 l0 x11_4).f3).length c337_3) ∧ w'.cell? ⟨(ad336.add ((x11_4).toNat * 5)).block, (ad336.add ((x11_4).toNat * 5)).off + 4, none⟩ = some (.slice A337_4 ((rd_T52 l0 x11_4).f4).length c337_4)) (ds := []) #[false, false, false, false, false, false, false, false, false, false, false, false, false] (by kernel_rfl) rfl rfl ⟨((HB.out.cell (World.block_lt_of_cell? w _ hw336_0)).trans hw336_0), ((HB.out.cell (World.block_lt_of_cell? w _ hw336_1)).trans hw336_1), ((HB.out.cell (World.block_lt_of_cell? w _ hw336_2)).trans hw336_2), ((HB.out.cell (World.block_lt_of_cell? w _ hw336_3)).trans hw336_3), ((HB.out.cell (World.block_lt_of_cell? w _ hw336_4)).trans hw336_4), ((HB.out.cell (World.block_lt_of_cell? w _ hw337_0)).trans hw337_0), ((HB.out.cell (World.block_lt_of_cell? w _ hw337_1)).trans hw337_1), ((HB.out.cell (World.block_lt_of_cell? w _ hw337_2)).trans hw337_2), ((HB.out.cell (World.block_lt_of_cell? w _ hw337_3)).trans hw337_3), ((HB.out.cell (World.block_lt_of_cell? w _ hw337_4)).trans hw337_4)⟩ (fun hHeld => ?_); refine with_tabW cutroomref20_Restore.tab26 cutroomref20_Restore.bits26 (fun HT_ HW_ => ?_)
                     generalize wr.drew = w33 at HO_8 HB HR336_2 HR336_3 HR336_4 HR337_2 HR337_3 HR337_4 hx336_0 hx336_1 hx336_2 hx336_3 hx336_4 hx337_0 hx337_1 hx337_2 hx337_3 hx337_4 hHeld ⊢
                     refine Abb.pS 0 108 #[T', F', F', F', F', F', F', F', F', F', F', F', F'] HT_ ?_
                     refine Abb.pS 1 109 #[T', T', F', F', F', F', F', F', F', F', F', F', F'] HT_ ?_
                     refine Abb.pS 2 110 #[T', T', T', F', F', F', F', F', F', F', F', F', F'] HT_ ?_
                     refine Abb.pS 3 111 #[T', T', T', T', F', F', F', F', F', F', F', F', F'] HT_ ?_
                     refine Abb.pS 5 113 #[T', T', T', T', F', T', F', F', F', F', F', F', F'] HT_ ?_
                     refine Abb.pS 6 114 #[T', T', T', T', F', T', T', F', F', F', F', F', F'] HT_ ?_
                     refine Abb.pS 7 115 #[T', T', T', T', F', T', T', T', F', F', F', F', F'] HT_ ?_
                     refine Abb.pT 4 112 #[T', T', T', T', T', T', T', T', F', F', F', F', F'] HT_ HW_ hHeld ?_
                     refine Abb.pT 8 116 #[T', T', T', T', T', T', T', T', T', F', F', F', F'] HT_ HW_ hHeld ?_
                     refine one_ (i := 9) (N := some 117) #[T', T', T', T', T', T', T', T', T', T', F', F', F'] rfl rfl (one_of HT_.out (by kernel_rfl)) (by decide) (fun K hK => ?_)
                     refine goes_ Try.func46 (by kernel_rfl) rfl #[.agg #[.int .i64 ((rd_T52 l0 x10_4).f0), .int .i64 ((rd_T52 l0 x10_4).f1), .slice A336_2 ((rd_T52 l0 x10_4).f2).length c336_2, .slice A336_3 ((rd_T52 l0 x10_4).f3).length c336_3, .slice A336_4 ((rd_T52 l0 x10_4).f4).length c336_4], .agg #[.int .i64 ((rd_T52 l0 x11_4).f0), .int .i64 ((rd_T52 l0 x11_4).f1), .slice A337_2 ((rd_T52 l0 x11_4).f2).length c337_2, .slice A337_3 ((rd_T52 l0 x11_4).f3).length c337_3, .slice A337_4 ((rd_T52 l0 x11_4).f4).length c337_4]] (by rfl) rfl rfl (by (try simp only [List.map_toArray, List.map_cons, List.map_nil]); first | done | rfl | (simp only [List.length_drop, List.length_take]; rfl)) ?_
                     with_reducible refine (cutroomref20_Join.calls k4 ((rd_T52 l0 x10_4).f0) ((rd_T52 l0 x10_4).f1) _ _ ((rd_T52 l0 x10_4).f2) _ _ ((rd_T52 l0 x10_4).f3) _ _ ((rd_T52 l0 x10_4).f4) ((rd_T52 l0 x11_4).f0) ((rd_T52 l0 x11_4).f1) _ _ ((rd_T52 l0 x11_4).f2) _ _ ((rd_T52 l0 x11_4).f3) _ _ ((rd_T52 l0 x11_4).f4) t338 t339 t340 t343 t346 _ ?side1 ?side2 ?side3 ?side4 ?side5 ?side6 ?side7 ?side8 ?side9 ?side10 ?side11 ?side12 A31.out).mono ?_
                     (case side1 => repeat (first | exact (Kd.C_below HR336_2.out HB.out) | (with_reducible refine Kd.C_alloc ?_ _) | (with_reducible refine Kd.C_drewN ?_ _) | (with_reducible refine Kd.C_drew ?_)))
                     (case side2 => exact HC336_2.out)
                     (case side3 => repeat (first | exact (Kd.C_below HR336_3.out HB.out) | (with_reducible refine Kd.C_alloc ?_ _) | (with_reducible refine Kd.C_drewN ?_ _) | (with_reducible refine Kd.C_drew ?_)))
                     (case side4 => exact HC336_3.out)
                     (case side5 => repeat (first | exact (Kd.C_below HR336_4.out HB.out) | (with_reducible refine Kd.C_alloc ?_ _) | (with_reducible refine Kd.C_drewN ?_ _) | (with_reducible refine Kd.C_drew ?_)))
                     (case side6 => exact HC336_4.out)
                     (case side7 => repeat (first | exact (Kd.C_below HR337_2.out HB.out) | (with_reducible refine Kd.C_alloc ?_ _) | (with_reducible refine Kd.C_drewN ?_ _) | (with_reducible refine Kd.C_drew ?_)))
                     (case side8 => exact HC337_2.out)
                     (case side9 => repeat (first | exact (Kd.C_below HR337_3.out HB.out) | (with_reducible refine Kd.C_alloc ?_ _) | (with_reducible refine Kd.C_drewN ?_ _) | (with_reducible refine Kd.C_drew ?_)))
                     (case side10 => exact HC337_3.out)
                     (case side11 => repeat (first | exact (Kd.C_below HR337_4.out HB.out) | (with_reducible refine Kd.C_alloc ?_ _) | (with_reducible refine Kd.C_drewN ?_ _) | (with_reducible refine Kd.C_drew ?_)))
                     (case side12 => exact HC337_4.out)
                     rintro e w34 ⟨v341, v344, v347, rfl, ho0, ho1, ho2, hb⟩
                     refine ⟨_, rfl, ?_⟩
                     have n0_ := Aside0.mk (Kd.S_mono (Kd.S_told (Kd.S_told (Kd.S_told (Kd.S_old (by (with_reducible repeat (first | apply Kd.S_alloc | apply Kd.S_drewN | apply Kd.S_drew)); exact HO_8.out) hb) (Kd.R_base ho0)) (Kd.R_base ho1)) (Kd.R_base ho2)) (fun _ h_ => h_.1))
                     have n1_ := Aside0.mk (Kd.R_lower ho0 (zS (by repeat (first | (with_reducible first | exact HB.out | apply zA | apply zN | apply zD) | exact HB.out))))
                     have n2_ := Aside0.mk (Kd.R_lower ho1 (zS (by repeat (first | (with_reducible first | exact HB.out | apply zA | apply zN | apply zD) | exact HB.out))))
                     have n3_ := Aside0.mk (Kd.R_lower ho2 (zS (by repeat (first | (with_reducible first | exact HB.out | apply zA | apply zN | apply zD) | exact HB.out))))
                     have n4_ := Aside0.mk (zT (by repeat (first | (with_reducible first | exact HB.out | apply zA | apply zN | apply zD) | exact HB.out)) hb)
                     clear HO_8
                     clear HB
                     have HO_8 := n0_
                     have HO342 := n1_
                     have HO345 := n2_
                     have HO348 := n3_
                     have HB := n4_
                     clear n0_ n1_ n2_ n3_ n4_
                     (try clear hb)
                     (try clear hb2)
                     (try clear hk)
                     (try clear hi)
                     (try clear ho0)
                     (try clear ho1)
                     (try clear ho2)
                     obtain ⟨Ao36, co36, eo36⟩ := Kd.R_slice HO342.out
                     (first | subst eo36 | (injection eo36 with f1_ f2_ f3_; have f4_ := f1_.symm; have f5_ := f3_.symm; clear f1_ f2_ f3_; subst f4_; subst f5_))
                     obtain ⟨Ao37, co37, eo37⟩ := Kd.R_slice HO345.out
                     (first | subst eo37 | (injection eo37 with f1_ f2_ f3_; have f4_ := f1_.symm; have f5_ := f3_.symm; clear f1_ f2_ f3_; subst f4_; subst f5_))
                     obtain ⟨Ao38, co38, eo38⟩ := Kd.R_slice HO348.out
                     (first | subst eo38 | (injection eo38 with f1_ f2_ f3_; have f4_ := f1_.symm; have f5_ := f3_.symm; clear f1_ f2_ f3_; subst f4_; subst f5_))
                     refine hK.out _ _ ⟨((HB.out.cell (World.block_lt_of_cell? w _ hw336_0)).trans hw336_0), ((HB.out.cell (World.block_lt_of_cell? w _ hw336_1)).trans hw336_1), ((HB.out.cell (World.block_lt_of_cell? w _ hw336_2)).trans hw336_2), ((HB.out.cell (World.block_lt_of_cell? w _ hw336_3)).trans hw336_3), ((HB.out.cell (World.block_lt_of_cell? w _ hw336_4)).trans hw336_4), ((HB.out.cell (World.block_lt_of_cell? w _ hw337_0)).trans hw337_0), ((HB.out.cell (World.block_lt_of_cell? w _ hw337_1)).trans hw337_1), ((HB.out.cell (World.block_lt_of_cell? w _ hw337_2)).trans hw337_2), ((HB.out.cell (World.block_lt_of_cell? w _ hw337_3)).trans hw337_3), ((HB.out.cell (World.block_lt_of_cell? w _ hw337_4)).trans hw337_4)⟩ (fun hHeld => ?_)
                     clear hK K
                     refine norm_ (a' := ?_) ?_ ?_
                     rotate_left
                     ·show Act.put _ (some 117) _ = _
                      simp only [Act.put, sA, sZ, sS, i64_w, i32_w]
                      rfl
                     refine one_ (i := 10) (N := some 118) #[T', T', T', T', T', T', T', T', T', T', T', F', F'] rfl rfl (one_of HT_.out (by kernel_rfl)) (by decide) (fun K hK => ?_)
                     refine value_ (w1 := ?_) (v := ?_) (by rfl) rfl ?_ ?_
                     rotate_left 2
                     ·go_simp
                      constructor
                      ·rfl
                      ·rfl
                     refine hK.out _ _ ⟨(World.cell?_alloc_lt _ _ _ (World.block_lt_of_cell? _ _ (((HB.out.cell (World.block_lt_of_cell? w _ hw336_0)).trans hw336_0)))).trans (((HB.out.cell (World.block_lt_of_cell? w _ hw336_0)).trans hw336_0)), (World.cell?_alloc_lt _ _ _ (World.block_lt_of_cell? _ _ (((HB.out.cell (World.block_lt_of_cell? w _ hw336_1)).trans hw336_1)))).trans (((HB.out.cell (World.block_lt_of_cell? w _ hw336_1)).trans hw336_1)), (World.cell?_alloc_lt _ _ _ (World.block_lt_of_cell? _ _ (((HB.out.cell (World.block_lt_of_cell? w _ hw336_2)).trans hw336_2)))).trans (((HB.out.cell (World.block_lt_of_cell? w _ hw336_2)).trans hw336_2)), (World.cell?_alloc_lt _ _ _ (World.block_lt_of_cell? _ _ (((HB.out.cell (World.block_lt_of_cell? w _ hw336_3)).trans hw336_3)))).trans (((HB.out.cell (World.block_lt_of_cell? w _ hw336_3)).trans hw336_3)), (World.cell?_alloc_lt _ _ _ (World.block_lt_of_cell? _ _ (((HB.out.cell (World.block_lt_of_cell? w _ hw336_4)).trans hw336_4)))).trans (((HB.out.cell (World.block_lt_of_cell? w _ hw336_4)).trans hw336_4)), (World.cell?_alloc_lt _ _ _ (World.block_lt_of_cell? _ _ (((HB.out.cell (World.block_lt_of_cell? w _ hw337_0)).trans hw337_0)))).trans (((HB.out.cell (World.block_lt_of_cell? w _ hw337_0)).trans hw337_0)), (World.cell?_alloc_lt _ _ _ (World.block_lt_of_cell? _ _ (((HB.out.cell (World.block_lt_of_cell? w _ hw337_1)).trans hw337_1)))).trans (((HB.out.cell (World.block_lt_of_cell? w _ hw337_1)).trans hw337_1)), (World.cell?_alloc_lt _ _ _ (World.block_lt_of_cell? _ _ (((HB.out.cell (World.block_lt_of_cell? w _ hw337_2)).trans hw337_2)))).trans (((HB.out.cell (World.block_lt_of_cell? w _ hw337_2)).trans hw337_2)), (World.cell?_alloc_lt _ _ _ (World.block_lt_of_cell? _ _ (((HB.out.cell (World.block_lt_of_cell? w _ hw337_3)).trans hw337_3)))).trans (((HB.out.cell (World.block_lt_of_cell? w _ hw337_3)).trans hw337_3)), (World.cell?_alloc_lt _ _ _ (World.block_lt_of_cell? _ _ (((HB.out.cell (World.block_lt_of_cell? w _ hw337_4)).trans hw337_4)))).trans (((HB.out.cell (World.block_lt_of_cell? w _ hw337_4)).trans hw337_4))⟩ (fun hHeld => ?_)
                     clear hK K
                     refine norm_ (a' := ?_) ?_ ?_
                     rotate_left
                     ·show Act.put _ (some 118) _ = _
                      simp only [Act.put, sA, sZ, sS, i64_w, i32_w]
                      rfl
                     refine one_ (i := 11) (N := some 119) #[T', T', T', T', T', T', T', T', T', T', T', T', F'] rfl rfl (one_of HT_.out (by kernel_rfl)) (by decide) (fun K hK => ?_)
                     refine Kd.S_append_step k52 (w0 := w) w.heap.size (by rfl) (.tmp 108) (.tmp 118) 48 52 (.agg #[(.int .i64 0), (.int .i64 0), (.slice none 0 0), (.slice none 0 0), (.slice none 0 0)]) 88 rfl Try.underlying48 info52 rfl (by decide) (by omega) u8 x8_3 (⟨t338, t339, t340, t343, t346⟩ : S52) [.int .i64 t338, .int .i64 t339, .slice Ao36 t340.length co36, .slice Ao37 t343.length co37, .slice Ao38 t346.length co38] (fun _ => True) (fun k_ => some k_ = (.slice Ao36 t340.length co36 : Value).ownBlock ∨ some k_ = (.slice Ao37 t343.length co37 : Value).ownBlock ∨ some k_ = (.slice Ao38 t346.length co38 : Value).ownBlock) rfl rfl ?aP (fun k_ hk_ => hk_.elim (fun h_ => ((Kd.R_mono (ok' := fun k_ => ((fun _ => True)) k_ ∧ some k_ ≠ (u8 : Value).ownBlock) (Kd.R_apart' (HO342.out) (Kd.S_typed HO_8.out) (by decide)) (fun k_ hk => ⟨trivial, hk.2⟩))).1 k_ h_.symm) (fun h_ => h_.elim (fun h_ => ((Kd.R_mono (ok' := fun k_ => ((fun _ => True)) k_ ∧ some k_ ≠ (u8 : Value).ownBlock) (Kd.R_apart' (HO345.out) (Kd.S_typed HO_8.out) (by decide)) (fun k_ hk => ⟨trivial, hk.2⟩))).1 k_ h_.symm) (fun h_ => ((Kd.R_mono (ok' := fun k_ => ((fun _ => True)) k_ ∧ some k_ ≠ (u8 : Value).ownBlock) (Kd.R_apart' (HO348.out) (Kd.S_typed HO_8.out) (by decide)) (fun k_ hk => ⟨trivial, hk.2⟩))).1 k_ h_.symm))) ?aF ?aO ?aB ?aS ?aL ?_
                     (case aP => exact k52_mkM _ _ _ (⟨t338, t339, t340, t343, t346⟩ : S52) (Kd.R_mono (Kd.R_tight rfl (Kd.R_mono (ok' := fun k_ => ((fun _ => True)) k_ ∧ some k_ ≠ (u8 : Value).ownBlock) (Kd.R_apart' (HO342.out) (Kd.S_typed HO_8.out) (by decide)) (fun k_ hk => ⟨trivial, hk.2⟩))) (fun _ h_ => Or.inl h_)) (Kd.R_mono (Kd.R_tight rfl (Kd.R_mono (ok' := fun k_ => ((fun _ => True)) k_ ∧ some k_ ≠ (u8 : Value).ownBlock) (Kd.R_apart' (HO345.out) (Kd.S_typed HO_8.out) (by decide)) (fun k_ hk => ⟨trivial, hk.2⟩))) (fun _ h_ => Or.inr (Or.inl h_))) (Kd.R_mono (Kd.R_tight rfl (Kd.R_mono (ok' := fun k_ => ((fun _ => True)) k_ ∧ some k_ ≠ (u8 : Value).ownBlock) (Kd.R_apart' (HO348.out) (Kd.S_typed HO_8.out) (by decide)) (fun k_ hk => ⟨trivial, hk.2⟩))) (fun _ h_ => Or.inr (Or.inr (h_)))))
                     (case aB => exact (by repeat (first | (with_reducible first | exact HB.out | apply zA | apply zN | apply zD) | exact HB.out)))
                     (case aF => exact (fun _ _ => trivial))
                     (case aO => exact (by (with_reducible repeat (first | apply Kd.S_alloc | apply Kd.S_drewN | apply Kd.S_drew)); exact Kd.S_mono HO_8.out (fun k_ hk => ⟨trivial, fun e_ => e_.elim (fun h_ => hk.1.1.2 h_) (fun h_ => h_.elim (fun h_ => hk.1.2 h_) (fun h_ => hk.2 h_))⟩)))
                     (case aS => exact (zS (by repeat (first | (with_reducible first | exact HB.out | apply zA | apply zN | apply zD) | exact HB.out))))
                     (case aL => have := LMc32.out; omega)
                     intro v350 w35 ho hb hg hat
                     rw [← Ny349.out] at ho
                     have n0_ := Aside0.mk (hb)
                     have n1_ := Aside0.mk (ho)
                     clear HB
                     clear HO_8
                     clear HO342
                     clear HO345
                     clear HO348
                     have HB := n0_
                     have HO351 := n1_
                     clear n0_ n1_
                     clear ho hb hg hat
                     refine hK.out _ _ ⟨((HB.out.cell (World.block_lt_of_cell? w _ hw336_0)).trans hw336_0), ((HB.out.cell (World.block_lt_of_cell? w _ hw336_1)).trans hw336_1), ((HB.out.cell (World.block_lt_of_cell? w _ hw336_2)).trans hw336_2), ((HB.out.cell (World.block_lt_of_cell? w _ hw336_3)).trans hw336_3), ((HB.out.cell (World.block_lt_of_cell? w _ hw336_4)).trans hw336_4), ((HB.out.cell (World.block_lt_of_cell? w _ hw337_0)).trans hw337_0), ((HB.out.cell (World.block_lt_of_cell? w _ hw337_1)).trans hw337_1), ((HB.out.cell (World.block_lt_of_cell? w _ hw337_2)).trans hw337_2), ((HB.out.cell (World.block_lt_of_cell? w _ hw337_3)).trans hw337_3), ((HB.out.cell (World.block_lt_of_cell? w _ hw337_4)).trans hw337_4)⟩ (fun hHeld => ?_)
                     clear hK K
                     refine norm_ (a' := ?_) ?_ ?_
                     rotate_left
                     ·show Act.put _ (some 119) _ = _
                      simp only [Act.put, sA, sZ, sS, i64_w, i32_w]
                      rfl
                     refine Abb.pS 12 8 #[T', T', T', T', T', T', T', T', T', T', T', T', T'] HT_ ?_
                     refine done_ (done_of HT_.out (by kernel_rfl)) ?_
                     try go_wp2
                     go_roundg k4
                     case measure => have := HJ2.out; have := HK2.out; have := HK3.out; have := HK4.out; omega
                     case rel => exact ⟨(y349), (wrap64 (x9_3 + 1)), (by first | rfl | (simp; done) | (simp [*]; done)), H', ⟨by have := HJ2.out; have := HK2.out; have := HK3.out; have := HK4.out; omega⟩, ⟨by (with_reducible repeat (first | apply Kd.S_alloc | apply Kd.S_drewN | apply Kd.S_drew)); exact HO351.out⟩, ⟨by repeat (first | (with_reducible first | exact HB.out | apply zA | apply zN | apply zD) | exact HB.out)⟩⟩
                    ·rw [if_neg c32] at H
                     exact absurd H (by simp)
                   ·rw [if_neg c30] at H
                    exact absurd H (by simp)
                  ·rw [if_neg c29] at H
                   exact absurd H (by simp)
                 ·rw [if_neg c28] at H
                  exact absurd H (by simp)
                ·rw [if_neg c27] at H
                 exact absurd H (by simp)
          ·rw [if_neg c18] at H
           have c18b0 : decide (x9_3 ≤ x6_2) = false := decide_eq_false c18
           clear c18
           simp only [Option.some.injEq, Prod.mk.injEq] at H
           obtain ⟨rfl, rfl⟩ := H
           go_wp2
           go_ret2
           exact ⟨_, by first | rfl | (simp [errW_none, errW_some] <;> rfl) | (simp [*, errW_none, errW_some] <;> rfl), by (with_reducible repeat (first | apply Kd.S_alloc | apply Kd.S_drewN | apply Kd.S_drew)); exact HO_8.out, by repeat (first | (with_reducible first | exact HB.out | apply zA | apply zN | apply zD) | exact HB.out)⟩

end Go.Proofs.Ytcofjbbflcnaaaa.P
