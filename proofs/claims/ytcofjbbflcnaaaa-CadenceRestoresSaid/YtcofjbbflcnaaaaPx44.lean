-- Written by this session's own program (wip/tools/myprint.py), which runs the kit's print with turns of its own: not a text of the kit's print.sh.
import Derived.Test.YtcofjbbflcnaaaaPx0
import Derived.Test.YtcofjbbflcnaaaaPx60
import Derived.Test.YtcofjbbflcnaaaaPx63
import Derived.Test.YtcofjbbflcnaaaaPx64
import Derived.Test.YtcofjbbflcnaaaaAbb
namespace Go.Proofs.Ytcofjbbflcnaaaa.P
open Go.RowKit Go.Proofs.YtcofjbbflcnaaaaW.PrintWords Go.Proofs.YtcofjbbflcnaaaaW.PrintLast Go.Proofs.YtcofjbbflcnaaaaW.PrintMore
open List renaming setIfInBounds_toArray → sA, set_cons_zero → sZ, set_cons_succ → sS
open Bool renaming true → T', false → F'
open Go.Proofs.YtcofjbbflcnaaaaW.PrintWords renaming below_alloc → zA, pw_below_drewN → zN, below_drew1 → zD, blk_drewN → yN, blk_drew → yD, blk_alloc → yA, below_size → zS, below_step → zT, blk_below → yB, below_set → zP, cell_far → xF, add_block → xB, gate_callee → xC, gate_dst → xD
attribute [local go_sem] max2_int min2_int max_two min_two max_three min_three max_four min_four   -- for this text's walks alone
set_option linter.unusedVariables false
set_option linter.unusedSimpArgs false

/-! ### cadence_Restore: function 43 -/
mutual
def cadence_Restore.j0 : Nat → List (S52) → List (S43) → Bool → Option ((List (S52)) × Int)
 | 0, _, _, _ => none
 | k + 1, x0, x1, x22 => if x22 = true then (some (([] : List (S52)), 1)) else (cadence_Restore.l0 k x0 x1 (-1) x1 (x1.length : Int) 0)
def cadence_Restore.l0 : Nat → List (S52) → List (S43) → Int → List (S43) → Int → Int → Option ((List (S52)) × Int)
 | 0, _, _, _, _, _, _ => none
 | k + 1, x0, x1, x6, x23, x24, x25 => if x25 < x24 then (if 0 ≤ x25 then (if x25 < (x23.length : Int) then ((cadence_named.f ((rd_T43 x23 x25).f0)).bind fun t309 => (if t309 = true then ((cadence_named.f ((rd_T43 x23 x25).f1)).bind fun t310 => (if t310 = true then (cadence_Restore.l0 k x0 x1 (mx (mx x6 ((rd_T43 x23 x25).f0)) ((rd_T43 x23 x25).f1)) x23 x24 (wrap64 (x25 + 1))) else (some (([] : List (S52)), 1)))) else (some (([] : List (S52)), 1)))) else (none)) else (none)) else (if (x1.length : Int) > 256 then (some (([] : List (S52)), 5)) else (cadence_Restore.l1 k x0 x1 ([] : List (S52)) (wrap64 (x6 + 1)) 0))
def cadence_Restore.l1 : Nat → List (S52) → List (S43) → List (S52) → Int → Int → Option ((List (S52)) × Int)
 | 0, _, _, _, _, _ => none
 | k + 1, x0, x1, x9, x50, x51 => if x51 < x50 then ((cadence_find.f k x1 x51).bind fun bt311 => (if bt311.1 < 0 then (some (([] : List (S52)), 6)) else (if bt311.2 < 0 then (some (([] : List (S52)), 6)) else (if 0 ≤ bt311.1 then (if bt311.1 < (x0.length : Int) then (if 0 ≤ bt311.2 then (if bt311.2 < (x0.length : Int) then ((cadence_woven.f ((rd_T52 x0 bt311.1).f0) ((rd_T52 x0 bt311.1).f1) ((rd_T52 x0 bt311.1).f2) ((rd_T52 x0 bt311.1).f3) ((rd_T52 x0 bt311.1).f4) ((rd_T52 x0 bt311.2).f0) ((rd_T52 x0 bt311.2).f1) ((rd_T52 x0 bt311.2).f2) ((rd_T52 x0 bt311.2).f3) ((rd_T52 x0 bt311.2).f4)).bind fun bt315 => (if x9.length < 1599289640401 then (cadence_Restore.l1 k x0 x1 (x9 ++ [(⟨bt315.1, bt315.2.1, bt315.2.2.1, bt315.2.2.2.1, bt315.2.2.2.2⟩ : S52)]) x50 (wrap64 (x51 + 1))) else (none))) else (none)) else (none)) else (none)) else (none))))) else (some (x9, 0))
end
def cadence_Restore.f (k : Nat) (l0 : List (S52)) (l1 : List (S43)) : Option ((List (S52)) × Int) := if (l0.length : Int) = (l1.length : Int) then ((cadence_alike.f k l0).bind fun t306 => (cadence_Restore.j0 k l0 l1 (!t306))) else (cadence_Restore.j0 k l0 l1 true)
theorem cadence_Restore.mono_l : ∀ k, (∀ y0 y1 y2, LeO (cadence_Restore.j0 k y0 y1 y2) (cadence_Restore.j0 (k + 1) y0 y1 y2)) ∧ (∀ y0 y1 y2 y3 y4 y5, LeO (cadence_Restore.l0 k y0 y1 y2 y3 y4 y5) (cadence_Restore.l0 (k + 1) y0 y1 y2 y3 y4 y5)) ∧ (∀ y0 y1 y2 y3 y4, LeO (cadence_Restore.l1 k y0 y1 y2 y3 y4) (cadence_Restore.l1 (k + 1) y0 y1 y2 y3 y4))
 | 0 => ⟨fun _ _ _ r h => by simp [cadence_Restore.j0] at h, fun _ _ _ _ _ _ r h => by simp [cadence_Restore.l0] at h, fun _ _ _ _ _ r h => by simp [cadence_Restore.l1] at h⟩
 | k + 1 => by
  obtain ⟨ih0, ih1, ih2⟩ := cadence_Restore.mono_l k
  refine ⟨?_, ?_, ?_⟩
  ·intro y0 y1 y2
   unfold cadence_Restore.j0
   repeat' first
   | (with_reducible exact ih0 _ _ _)
   | (with_reducible exact ih1 _ _ _ _ _ _)
   | (with_reducible exact ih2 _ _ _ _ _)
   | (with_reducible exact cadence_alike.mono _ _)
   | (with_reducible exact cadence_find.mono _ _ _)
   | (with_reducible exact LeO.refl _)
   | (with_reducible exact LeO.none _)
   | (with_reducible refine LeO.ite ?_ ?_)
   | (with_reducible refine LeO.bind ?_ (fun _ => ?_))
   | exact ih0 _ _ _
   | exact ih1 _ _ _ _ _ _
   | exact ih2 _ _ _ _ _
   | exact cadence_alike.mono _ _
   | exact cadence_find.mono _ _ _
   | exact LeO.none _
   | refine LeO.ite ?_ ?_
   | refine LeO.bind ?_ (fun _ => ?_)
  ·intro y0 y1 y2 y3 y4 y5
   unfold cadence_Restore.l0
   repeat' first
   | (with_reducible exact ih0 _ _ _)
   | (with_reducible exact ih1 _ _ _ _ _ _)
   | (with_reducible exact ih2 _ _ _ _ _)
   | (with_reducible exact cadence_alike.mono _ _)
   | (with_reducible exact cadence_find.mono _ _ _)
   | (with_reducible exact LeO.refl _)
   | (with_reducible exact LeO.none _)
   | (with_reducible refine LeO.ite ?_ ?_)
   | (with_reducible refine LeO.bind ?_ (fun _ => ?_))
   | exact ih0 _ _ _
   | exact ih1 _ _ _ _ _ _
   | exact ih2 _ _ _ _ _
   | exact cadence_alike.mono _ _
   | exact cadence_find.mono _ _ _
   | exact LeO.none _
   | refine LeO.ite ?_ ?_
   | refine LeO.bind ?_ (fun _ => ?_)
  ·intro y0 y1 y2 y3 y4
   unfold cadence_Restore.l1
   repeat' first
   | (with_reducible exact ih0 _ _ _)
   | (with_reducible exact ih1 _ _ _ _ _ _)
   | (with_reducible exact ih2 _ _ _ _ _)
   | (with_reducible exact cadence_alike.mono _ _)
   | (with_reducible exact cadence_find.mono _ _ _)
   | (with_reducible exact LeO.refl _)
   | (with_reducible exact LeO.none _)
   | (with_reducible refine LeO.ite ?_ ?_)
   | (with_reducible refine LeO.bind ?_ (fun _ => ?_))
   | exact ih0 _ _ _
   | exact ih1 _ _ _ _ _ _
   | exact ih2 _ _ _ _ _
   | exact cadence_alike.mono _ _
   | exact cadence_find.mono _ _ _
   | exact LeO.none _
   | refine LeO.ite ?_ ?_
   | refine LeO.bind ?_ (fun _ => ?_)
theorem cadence_Restore.mono : ∀ a0 a1 k, LeO (cadence_Restore.f k a0 a1) (cadence_Restore.f (k + 1) a0 a1) := by
 intro a0 a1 k
 obtain ⟨ih0, ih1, ih2⟩ := cadence_Restore.mono_l k
 unfold cadence_Restore.f
 repeat' first
   | (with_reducible exact ih0 _ _ _)
   | (with_reducible exact ih1 _ _ _ _ _ _)
   | (with_reducible exact ih2 _ _ _ _ _)
   | (with_reducible exact cadence_alike.mono _ _)
   | (with_reducible exact cadence_find.mono _ _ _)
   | (with_reducible exact LeO.refl _)
   | (with_reducible exact LeO.none _)
   | (with_reducible refine LeO.ite ?_ ?_)
   | (with_reducible refine LeO.bind ?_ (fun _ => ?_))
   | exact ih0 _ _ _
   | exact ih1 _ _ _ _ _ _
   | exact ih2 _ _ _ _ _
   | exact cadence_alike.mono _ _
   | exact cadence_find.mono _ _ _
   | exact LeO.none _
   | refine LeO.ite ?_ ?_
   | refine LeO.bind ?_ (fun _ => ?_)
def cadence_Restore.T20 : Bool × List (List Nat × List Nat) := (true, [([], []), ([], []), ([], []), ([1, 2], [1, 2]), ([3], [3]), ([], []), ([], []), ([5, 6], [5, 6]), ([7], [7]), ([4, 8], [4, 8]), ([9], [9]), ([0, 10, 9], [0, 10]), ([11, 11, 0, 1, 2, 3, 4, 5, 6, 7, 8, 9, 10, 11], [0, 11])])
def cadence_Restore.B20 : List Nat := [0, 0, 0, 6, 14, 0, 0, 96, 224, 510, 1022, 2047, 4095]
theorem cadence_Restore.tab20 : rtab .any (opsOf Try.f43 20) = cadence_Restore.T20 := by kernel_rfl
theorem cadence_Restore.bits20 : waitsOk cadence_Restore.T20.2 cadence_Restore.B20 = true := by kernel_rfl
set_option maxHeartbeats 8000000 in
set_option maxRecDepth 100000 in
theorem cadence_Restore.calls (k : Nat) (A0 : Option Addr) (c0 : Nat) (l0 : List (S52)) (A1 : Option Addr) (c1 : Nat) (l1 : List (S43)) (r1 : List (S52)) (r2 : Int) (w : World) (hr0 : Kd.C k52 w A0 l0.length l0) (hc0 : l0.length ≤ c0) (hr1 : Kd.C k43 w A1 l1.length l1) (hc1 : l1.length ≤ c1) (h : cadence_Restore.f k l0 l1 = some (r1, r2)) :
  Calls Try.prog 43 #[.slice A0 l0.length c0, .slice A1 l1.length c1] w fun e w' => ∃ v0_ : Value, e = .returned (.tuple #[v0_, .int .i64 r2]) ∧ Kd.S k52 52 w' w.heap.size (fun _ => True) v0_ r1 ∧ Below w.heap.size w w' := by
 have hu43 := Try.underlying43
 have hu52 := Try.underlying52
 have HR0 := Aside0.mk hr0
 have HC0 := Aside0.mk hc0
 clear hr0 hc0
 have HR1 := Aside0.mk hr1
 have HC1 := Aside0.mk hc1
 clear hr1 hc1
 have HB := Aside0.mk (Below.refl w.heap.size w)
 have H : (if (l0.length : Int) = (l1.length : Int) then ((cadence_alike.f k l0).bind fun t306 => (cadence_Restore.j0 k l0 l1 (!t306))) else (cadence_Restore.j0 k l0 l1 true)) = some (r1, r2) := h
 clear h
 have HC3 := Aside0.mk H
 clear H
 go_enter Try.func43, Try.ntmps43
 go_upto_region 1 with (fail)
 go_cut [22] (fun v22 wc => ∃ (kq : Nat) (x22_2 : Bool), v22 = .bool x22_2 ∧ Aside0 (cadence_Restore.j0 kq l0 l1 x22_2 = some (r1, r2)) ∧ Aside0 (kq ≤ k) ∧ Aside0 (Below w.heap.size w wc))
 case first =>
  have H := HC3.out
  clear HC3
  by_cases c4 : (l0.length : Int) = (l1.length : Int)
  ·rw [if_pos c4] at H
   have c4b0 : ((l0.length : Int) == (l1.length : Int)) = true := beq_iff_eq.mpr c4
   have c4b1 : ((l0.length : Int) != (l1.length : Int)) = false := bne_eq_false_iff_eq.mpr c4
   have c4b2 : (l0.length == l1.length) = true := by first | simpa using c4 | (simp at c4 ⊢; omega)
   clear c4
   (first | rw [c4b0] | (simp only [i64_w, i32_w]; rw [c4b0]) | skip)
   replace H := Option.bind_eq_some_iff.mp H
   obtain ⟨t306, A50, H⟩ := H
   replace H : (cadence_Restore.j0 k l0 l1 (!t306)) = some (r1, r2) := H
   have A5 := Aside0.mk A50
   clear A50
   have H' := Aside0.mk H
   clear H
   go_wp2_with (first | (go_at_call 59; (with_reducible refine (cadence_alike.calls k _ _ l0 t306 _ ?side1 ?side2 A5.out).mono ?_); (case side1 => repeat (first | exact (Kd.C_below HR0.out HB.out) | (with_reducible refine Kd.C_alloc ?_ _) | (with_reducible refine Kd.C_drewN ?_ _) | (with_reducible refine Kd.C_drew ?_))); (case side2 => exact HC0.out); rintro e w6 ⟨rfl, hb⟩; have n0_ := Aside0.mk (zT (by repeat (first | (with_reducible first | exact HB.out | apply zA | apply zN | apply zD) | exact HB.out)) hb); clear HB; have HB := n0_; clear n0_; (try clear hb); (try clear hb2); (try clear hk); (try clear hi)))
   go_meet
   case rel => exact ⟨_, (!t306), (by first | rfl | (simp; done) | (simp [*]; done)), H', ⟨by first | omega | exact Nat.le_refl _⟩, ⟨by repeat (first | (with_reducible first | exact HB.out | apply zA | apply zN | apply zD) | exact HB.out)⟩⟩
  ·rw [if_neg c4] at H
   have c4b0 : ((l0.length : Int) == (l1.length : Int)) = false := beq_eq_false_iff_ne.mpr c4
   have c4b1 : ((l0.length : Int) != (l1.length : Int)) = true := bne_iff_ne.mpr c4
   have c4b2 : (l0.length == l1.length) = false := by first | simpa using c4 | (simp at c4 ⊢; omega)
   (first | rw [c4b0] | (simp only [i64_w, i32_w]; rw [c4b0]) | skip)
   have H' := Aside0.mk H
   clear H
   go_wp2
   go_meet
   case rel => exact ⟨_, (true), (by first | rfl | (simp; done) | (simp [*]; done)), H', ⟨by first | omega | exact Nat.le_refl _⟩, ⟨by repeat (first | (with_reducible first | exact HB.out | apply zA | apply zN | apply zD) | exact HB.out)⟩⟩
 case rest =>
  clear HC3
  (try clear c1);(try clear p2);(try clear c4);(try clear c4b0);(try clear c4b1);(try clear c4b2)
  obtain ⟨kq, x22_2, rfl, HA, HJ2, HB⟩ := hcut
  cases kq with
  | zero => exact absurd HA.out (by simp [cadence_Restore.j0])
  | succ kj2 =>
   have H := HA.out
   clear HA
   simp only [cadence_Restore.j0] at H
   by_cases c7 : x22_2 = true
   ·subst c7
    have H1 : (some (([] : List (S52)), 1)) = some (r1, r2) := by rw [if_pos rfl] at H; exact H
    clear H
    have H := H1
    clear H1
    simp only [Option.some.injEq, Prod.mk.injEq] at H
    obtain ⟨rfl, rfl⟩ := H
    go_wp2
    go_ret2
    exact ⟨_, by first | rfl | (simp [errW_none, errW_some] <;> rfl) | (simp [*, errW_none, errW_some] <;> rfl), by first | exact Kd.S_nil _ _ _ _ _ | exact Kd.N_nil _ _ _ _ _ | exact Kd.V_nil _ _ _ _ _ | exact Kd.Q_nil _ _ _ _ _ | exact Kd.R_nil _ _ _ _ _, by repeat (first | (with_reducible first | exact HB.out | apply zA | apply zN | apply zD) | exact HB.out)⟩
   ·replace c7 := Bool.eq_false_iff.mpr c7
    subst c7
    have H1 : (cadence_Restore.l0 kj2 l0 l1 (-1) l1 (l1.length : Int) 0) = some (r1, r2) := by rw [if_neg (show ¬ (false = true) by decide)] at H; exact H
    clear H
    have H := H1
    clear H1
    have H' := Aside0.mk H
    clear H
    go_wp2
    go_loopg [6, 25] kj2 (fun kq v6 v25 w' => ∃ (x6_2 : Int) (x25_2 : Int), v6 = .int .i64 x6_2 ∧ v25 = .int .i64 x25_2 ∧ Aside0 (cadence_Restore.l0 kq l0 l1 x6_2 l1 (l1.length : Int) x25_2 = some (r1, r2)) ∧ Aside0 (kq ≤ kj2) ∧ Aside0 (Below w.heap.size w w'))
    case atStart => exact ⟨((-1)), (0), (by first | rfl | (simp; done) | (simp [*]; done)), (by first | rfl | (simp; done) | (simp [*]; done)), H', ⟨Nat.le_refl _⟩, ⟨by repeat (first | (with_reducible first | exact HB.out | apply zA | apply zN | apply zD) | exact HB.out)⟩⟩
    case round =>
     clear H'
     (try clear c1);(try clear p2);(try clear c4);(try clear c4b0);(try clear c4b1);(try clear c4b2);(try clear c7);(try clear p2)
     obtain ⟨x6_2, x25_2, rfl, rfl, HA, HK2, HB⟩ := hrel
     cases gk with
     | zero => exact absurd HA.out (by simp [cadence_Restore.l0])
     | succ k2 =>
      have H := HA.out
      clear HA
      simp only [cadence_Restore.l0] at H
      by_cases c8 : x25_2 < (l1.length : Int)
      ·rw [if_pos c8] at H
       have c8b0 : decide (x25_2 < (l1.length : Int)) = true := decide_eq_true c8
       clear c8
       by_cases c9 : 0 ≤ x25_2
       ·rw [if_pos c9] at H
        have c9b0 : decide (0 ≤ x25_2) = true := decide_eq_true c9
        clear c9
        by_cases c10 : x25_2 < (l1.length : Int)
        ·rw [if_pos c10] at H
         have c10b0 : decide (x25_2 < (l1.length : Int)) = true := decide_eq_true c10
         clear c10
         replace H := Option.bind_eq_some_iff.mp H
         obtain ⟨t309, A110, H⟩ := H
         replace H : (if t309 = true then ((cadence_named.f ((rd_T43 l1 x25_2).f1)).bind fun t310 => (if t310 = true then (cadence_Restore.l0 k2 l0 l1 (mx (mx x6_2 ((rd_T43 l1 x25_2).f0)) ((rd_T43 l1 x25_2).f1)) l1 (l1.length : Int) (wrap64 (x25_2 + 1))) else (some (([] : List (S52)), 1)))) else (some (([] : List (S52)), 1))) = some (r1, r2) := H
         have A11 := Aside0.mk A110
         clear A110
         by_cases c12 : t309 = true
         ·subst c12
          have H1 : ((cadence_named.f ((rd_T43 l1 x25_2).f1)).bind fun t310 => (if t310 = true then (cadence_Restore.l0 k2 l0 l1 (mx (mx x6_2 ((rd_T43 l1 x25_2).f0)) ((rd_T43 l1 x25_2).f1)) l1 (l1.length : Int) (wrap64 (x25_2 + 1))) else (some (([] : List (S52)), 1)))) = some (r1, r2) := by rw [if_pos rfl] at H; exact H
          clear H
          have H := H1
          clear H1
          replace H := Option.bind_eq_some_iff.mp H
          obtain ⟨t310, A130, H⟩ := H
          replace H : (if t310 = true then (cadence_Restore.l0 k2 l0 l1 (mx (mx x6_2 ((rd_T43 l1 x25_2).f0)) ((rd_T43 l1 x25_2).f1)) l1 (l1.length : Int) (wrap64 (x25_2 + 1))) else (some (([] : List (S52)), 1))) = some (r1, r2) := H
          have A13 := Aside0.mk A130
          clear A130
          by_cases c14 : t310 = true
          ·subst c14
           have H1 : (cadence_Restore.l0 k2 l0 l1 (mx (mx x6_2 ((rd_T43 l1 x25_2).f0)) ((rd_T43 l1 x25_2).f1)) l1 (l1.length : Int) (wrap64 (x25_2 + 1))) = some (r1, r2) := by rw [if_pos rfl] at H; exact H
           clear H
           have H := H1
           clear H1
           obtain ⟨ji15, hji15⟩ : ∃ j_ : Int, (mx x6_2 ((rd_T43 l1 x25_2).f0)) = j_ := ⟨_, rfl⟩
           replace H : (cadence_Restore.l0 k2 l0 l1 (mx (ji15) ((rd_T43 l1 x25_2).f1)) l1 (l1.length : Int) (wrap64 (x25_2 + 1))) = some (r1, r2) := by first | (rw [hji15] at H; exact H) | (simp only [hji15] at H ⊢; exact H)
           (try rw [hji15] at A11)
           (try rw [hji15] at A13)
           have hji15_ : (if x6_2 < ((rd_T43 l1 x25_2).f0) then ((rd_T43 l1 x25_2).f0) else x6_2) = ji15 := hji15
           obtain ⟨ji16, hji16⟩ : ∃ j_ : Int, (mx (ji15) ((rd_T43 l1 x25_2).f1)) = j_ := ⟨_, rfl⟩
           replace H : (cadence_Restore.l0 k2 l0 l1 ji16 l1 (l1.length : Int) (wrap64 (x25_2 + 1))) = some (r1, r2) := by first | (rw [hji16] at H; exact H) | (simp only [hji16] at H ⊢; exact H)
           (try rw [hji16] at A11)
           (try rw [hji16] at A13)
           have hji16_ : (if (ji15) < ((rd_T43 l1 x25_2).f1) then ((rd_T43 l1 x25_2).f1) else (ji15)) = ji16 := hji16
           have H' := Aside0.mk H
           clear H
           have p307 : 0 ≤ (x25_2 : Int) := of_decide_eq_true (by first | (with_reducible assumption) | assumption)
           have q307 : x25_2 < (l1.length : Int) := of_decide_eq_true (by first | (with_reducible assumption) | assumption)
           obtain ⟨ad307, e307, hx307_0, hx307_1⟩ := at_T43 HR1.out x25_2 p307 q307
           cases e307
           replace hx307_0 := (HB.out.cell (World.block_lt_of_cell? w _ hx307_0)).trans hx307_0
           replace hx307_1 := (HB.out.cell (World.block_lt_of_cell? w _ hx307_1)).trans hx307_1
           replace p307 := eq_true p307
           replace q307 := eq_true q307
           go_wp2_with (first | ((with_reducible refine xD (N := 8) rfl ?_); refine box_event ?hg (N := 8) ?hd (cs := #[.int .i64 0, .int .i64 0]) (t := 43) ?hr ?_; (case hd => rfl); (case hg => rfl); (case hr => first | (go_simp; done) | (go_simp; rfl)); intro gb308 hg w17 hbox hb; have n0_ := Aside0.mk (zT (by repeat (first | (with_reducible first | exact HB.out | apply zA | apply zN | apply zD) | exact HB.out)) hb); have n1_ := Aside0.mk (hbox); have n2_ := Aside0.mk ((by rw [hg]; exact (zS (by repeat (first | (with_reducible first | exact HB.out | apply zA | apply zN | apply zD) | exact HB.out))) : w.heap.size ≤ gb308)); have n3_ := n2_; clear HB; have HB := n0_; have BK308 := n1_; have GW308 := n2_; have GE308 := n3_; clear n0_ n1_ n2_ n3_; clear hb hbox hg; have hcz18_0 : w17.cell? ⟨gb308, 0, none⟩ = some (.int .i64 0) := (blk_cell BK308.out 0).trans rfl; have hcz18_1 : w17.cell? ⟨gb308, 1, none⟩ = some (.int .i64 0) := (blk_cell BK308.out 1).trans rfl; have hfz18_0 := blk_frozen BK308.out 0; have hfz18_1 := blk_frozen BK308.out 1) | ((with_reducible refine xC (f := 63) rfl ?_); refine goesL_ (some 31) rfl rfl Try.func63 (by kernel_rfl) rfl #[.int .i64 ((rd_T43 l1 x25_2).f0)] rfl (by (try simp only [List.map_toArray, List.map_cons, List.map_nil]); first | done | rfl | (simp only [List.length_drop, List.length_take]; rfl)) ?_; (with_reducible refine (cadence_named.calls ((rd_T43 l1 x25_2).f0) true _ A11.out).mono ?_); rintro e w' ⟨rfl, ⟨nd, rfl⟩⟩; refine ⟨_, rfl, ?_⟩) | (go_at_call 63; (with_reducible refine (cadence_named.calls ((rd_T43 l1 x25_2).f1) true _ A13.out).mono ?_); rintro e w' ⟨rfl, ⟨nd, rfl⟩⟩))
           go_roundg k2
           case measure => have := HJ2.out; have := HK2.out; omega
           case rel => exact ⟨(ji16), (wrap64 (x25_2 + 1)), (by first | rfl | (simp; done) | (simp only [← hji16] <;> (first | rfl | simp)) | (simp [*]; done)), (by first | rfl | (simp; done) | (simp [*]; done)), H', ⟨by have := HJ2.out; have := HK2.out; omega⟩, ⟨by repeat (first | (with_reducible first | exact HB.out | apply zA | apply zN | apply zD | refine zP ?_ GE308.out) | exact HB.out)⟩⟩
          ·replace c14 := Bool.eq_false_iff.mpr c14
           subst c14
           have H1 : (some (([] : List (S52)), 1)) = some (r1, r2) := by rw [if_neg (show ¬ (false = true) by decide)] at H; exact H
           clear H
           have H := H1
           clear H1
           simp only [Option.some.injEq, Prod.mk.injEq] at H
           obtain ⟨rfl, rfl⟩ := H
           have p307 : 0 ≤ (x25_2 : Int) := of_decide_eq_true (by first | (with_reducible assumption) | assumption)
           have q307 : x25_2 < (l1.length : Int) := of_decide_eq_true (by first | (with_reducible assumption) | assumption)
           obtain ⟨ad307, e307, hx307_0, hx307_1⟩ := at_T43 HR1.out x25_2 p307 q307
           cases e307
           replace hx307_0 := (HB.out.cell (World.block_lt_of_cell? w _ hx307_0)).trans hx307_0
           replace hx307_1 := (HB.out.cell (World.block_lt_of_cell? w _ hx307_1)).trans hx307_1
           replace p307 := eq_true p307
           replace q307 := eq_true q307
           go_wp2_with (first | ((with_reducible refine xD (N := 8) rfl ?_); refine box_event ?hg (N := 8) ?hd (cs := #[.int .i64 0, .int .i64 0]) (t := 43) ?hr ?_; (case hd => rfl); (case hg => rfl); (case hr => first | (go_simp; done) | (go_simp; rfl)); intro gb308 hg w19 hbox hb; have n0_ := Aside0.mk (zT (by repeat (first | (with_reducible first | exact HB.out | apply zA | apply zN | apply zD) | exact HB.out)) hb); have n1_ := Aside0.mk (hbox); have n2_ := Aside0.mk ((by rw [hg]; exact (zS (by repeat (first | (with_reducible first | exact HB.out | apply zA | apply zN | apply zD) | exact HB.out))) : w.heap.size ≤ gb308)); have n3_ := n2_; clear HB; have HB := n0_; have BK308 := n1_; have GW308 := n2_; have GE308 := n3_; clear n0_ n1_ n2_ n3_; clear hb hbox hg; have hcz20_0 : w19.cell? ⟨gb308, 0, none⟩ = some (.int .i64 0) := (blk_cell BK308.out 0).trans rfl; have hcz20_1 : w19.cell? ⟨gb308, 1, none⟩ = some (.int .i64 0) := (blk_cell BK308.out 1).trans rfl; have hfz20_0 := blk_frozen BK308.out 0; have hfz20_1 := blk_frozen BK308.out 1) | ((with_reducible refine xC (f := 63) rfl ?_); refine goesL_ (some 31) rfl rfl Try.func63 (by kernel_rfl) rfl #[.int .i64 ((rd_T43 l1 x25_2).f0)] rfl (by (try simp only [List.map_toArray, List.map_cons, List.map_nil]); first | done | rfl | (simp only [List.length_drop, List.length_take]; rfl)) ?_; (with_reducible refine (cadence_named.calls ((rd_T43 l1 x25_2).f0) true _ A11.out).mono ?_); rintro e w' ⟨rfl, ⟨nd, rfl⟩⟩; refine ⟨_, rfl, ?_⟩) | (go_at_call 63; (with_reducible refine (cadence_named.calls ((rd_T43 l1 x25_2).f1) false _ A13.out).mono ?_); rintro e w' ⟨rfl, ⟨nd, rfl⟩⟩))
           go_ret2
           exact ⟨_, by first | rfl | (simp [errW_none, errW_some] <;> rfl) | (simp [*, errW_none, errW_some] <;> rfl), by first | exact Kd.S_nil _ _ _ _ _ | exact Kd.N_nil _ _ _ _ _ | exact Kd.V_nil _ _ _ _ _ | exact Kd.Q_nil _ _ _ _ _ | exact Kd.R_nil _ _ _ _ _, by repeat (first | (with_reducible first | exact HB.out | apply zA | apply zN | apply zD | refine zP ?_ GE308.out) | exact HB.out)⟩
         ·replace c12 := Bool.eq_false_iff.mpr c12
          subst c12
          have H1 : (some (([] : List (S52)), 1)) = some (r1, r2) := by rw [if_neg (show ¬ (false = true) by decide)] at H; exact H
          clear H
          have H := H1
          clear H1
          simp only [Option.some.injEq, Prod.mk.injEq] at H
          obtain ⟨rfl, rfl⟩ := H
          have p307 : 0 ≤ (x25_2 : Int) := of_decide_eq_true (by first | (with_reducible assumption) | assumption)
          have q307 : x25_2 < (l1.length : Int) := of_decide_eq_true (by first | (with_reducible assumption) | assumption)
          obtain ⟨ad307, e307, hx307_0, hx307_1⟩ := at_T43 HR1.out x25_2 p307 q307
          cases e307
          replace hx307_0 := (HB.out.cell (World.block_lt_of_cell? w _ hx307_0)).trans hx307_0
          replace hx307_1 := (HB.out.cell (World.block_lt_of_cell? w _ hx307_1)).trans hx307_1
          replace p307 := eq_true p307
          replace q307 := eq_true q307
          go_wp2_with (first | ((with_reducible refine xD (N := 8) rfl ?_); refine box_event ?hg (N := 8) ?hd (cs := #[.int .i64 0, .int .i64 0]) (t := 43) ?hr ?_; (case hd => rfl); (case hg => rfl); (case hr => first | (go_simp; done) | (go_simp; rfl)); intro gb308 hg w21 hbox hb; have n0_ := Aside0.mk (zT (by repeat (first | (with_reducible first | exact HB.out | apply zA | apply zN | apply zD) | exact HB.out)) hb); have n1_ := Aside0.mk (hbox); have n2_ := Aside0.mk ((by rw [hg]; exact (zS (by repeat (first | (with_reducible first | exact HB.out | apply zA | apply zN | apply zD) | exact HB.out))) : w.heap.size ≤ gb308)); have n3_ := n2_; clear HB; have HB := n0_; have BK308 := n1_; have GW308 := n2_; have GE308 := n3_; clear n0_ n1_ n2_ n3_; clear hb hbox hg; have hcz22_0 : w21.cell? ⟨gb308, 0, none⟩ = some (.int .i64 0) := (blk_cell BK308.out 0).trans rfl; have hcz22_1 : w21.cell? ⟨gb308, 1, none⟩ = some (.int .i64 0) := (blk_cell BK308.out 1).trans rfl; have hfz22_0 := blk_frozen BK308.out 0; have hfz22_1 := blk_frozen BK308.out 1) | ((with_reducible refine xC (f := 63) rfl ?_); refine goesL_ (some 31) rfl rfl Try.func63 (by kernel_rfl) rfl #[.int .i64 ((rd_T43 l1 x25_2).f0)] rfl (by (try simp only [List.map_toArray, List.map_cons, List.map_nil]); first | done | rfl | (simp only [List.length_drop, List.length_take]; rfl)) ?_; (with_reducible refine (cadence_named.calls ((rd_T43 l1 x25_2).f0) false _ A11.out).mono ?_); rintro e w' ⟨rfl, ⟨nd, rfl⟩⟩; refine ⟨_, rfl, ?_⟩))
          go_ret2
          exact ⟨_, by first | rfl | (simp [errW_none, errW_some] <;> rfl) | (simp [*, errW_none, errW_some] <;> rfl), by first | exact Kd.S_nil _ _ _ _ _ | exact Kd.N_nil _ _ _ _ _ | exact Kd.V_nil _ _ _ _ _ | exact Kd.Q_nil _ _ _ _ _ | exact Kd.R_nil _ _ _ _ _, by repeat (first | (with_reducible first | exact HB.out | apply zA | apply zN | apply zD | refine zP ?_ GE308.out) | exact HB.out)⟩
        ·rw [if_neg c10] at H
         exact absurd H (by simp)
       ·rw [if_neg c9] at H
        exact absurd H (by simp)
      ·rw [if_neg c8] at H
       have c8b0 : decide (x25_2 < (l1.length : Int)) = false := decide_eq_false c8
       clear c8
       by_cases c23 : (l1.length : Int) > 256
       ·rw [if_pos c23] at H
        have c23b0 : decide (256 < (l1.length : Int)) = true := decide_eq_true c23
        have c23b1 : decide (256 < l1.length) = true := decide_eq_true (by omega)
        clear c23
        simp only [Option.some.injEq, Prod.mk.injEq] at H
        obtain ⟨rfl, rfl⟩ := H
        go_wp2
        go_ret2
        exact ⟨_, by first | rfl | (simp [errW_none, errW_some] <;> rfl) | (simp [*, errW_none, errW_some] <;> rfl), by first | exact Kd.S_nil _ _ _ _ _ | exact Kd.N_nil _ _ _ _ _ | exact Kd.V_nil _ _ _ _ _ | exact Kd.Q_nil _ _ _ _ _ | exact Kd.R_nil _ _ _ _ _, by repeat (first | (with_reducible first | exact HB.out | apply zA | apply zN | apply zD) | exact HB.out)⟩
       ·rw [if_neg c23] at H
        have c23b0 : decide (256 < (l1.length : Int)) = false := decide_eq_false c23
        have c23b1 : decide (256 < l1.length) = false := decide_eq_false (by omega)
        clear c23
        have H' := Aside0.mk H
        clear H
        go_wp2
        go_loopg [9, 51] k2 (fun kq v9 v51 w' => ∃ (x9_3 : List (S52)) (x51_3 : Int), v51 = .int .i64 x51_3 ∧ Aside0 (cadence_Restore.l1 kq l0 l1 x9_3 (wrap64 (x6_2 + 1)) x51_3 = some (r1, r2)) ∧ Aside0 (kq ≤ k2) ∧ Aside0 (Kd.S k52 52 w' w.heap.size (fun _ => True) v9 x9_3) ∧ Aside0 (Below w.heap.size w w'))
        case atStart => exact ⟨(([] : List (S52))), (0), (by first | rfl | (simp; done) | (simp [*]; done)), H', ⟨Nat.le_refl _⟩, ⟨by first | exact Kd.S_nil _ _ _ _ _ | exact Kd.N_nil _ _ _ _ _ | exact Kd.V_nil _ _ _ _ _ | exact Kd.Q_nil _ _ _ _ _ | exact Kd.R_nil _ _ _ _ _⟩, ⟨by repeat (first | (with_reducible first | exact HB.out | apply zA | apply zN | apply zD) | exact HB.out)⟩⟩
        case round =>
         clear H'
         (try clear c1);(try clear c2);(try clear p2);(try clear p3);(try clear q3);(try clear hx3);(try clear c4);(try clear c4b0);(try clear c4b1);(try clear c4b2);(try clear c6);(try clear p6);(try clear c7);(try clear c8);(try clear c8b0);(try clear c9);(try clear c9b0);(try clear c10);(try clear c10b0);(try clear c12);(try clear c14);(try clear c23);(try clear c23b0);(try clear c23b1);(try clear hcz18_0);(try clear hcz18_1);(try clear hcz20_0);(try clear hcz20_1);(try clear hcz22_0);(try clear hcz22_1);(try clear hfz18_0);(try clear hfz18_1);(try clear hfz20_0);(try clear hfz20_1);(try clear hfz22_0);(try clear hfz22_1);(try clear hx307_0);(try clear hx307_1);(try clear p2);(try clear p307);(try clear q307)
         obtain ⟨x9_3, x51_3, rfl, HA, HK3, HO_9, HB⟩ := hrel
         cases gk with
         | zero => exact absurd HA.out (by simp [cadence_Restore.l1])
         | succ k3 =>
          have H := HA.out
          clear HA
          simp only [cadence_Restore.l1] at H
          by_cases c24 : x51_3 < (wrap64 (x6_2 + 1))
          ·rw [if_pos c24] at H
           have c24b0 : decide (x51_3 < (wrap64 (x6_2 + 1))) = true := decide_eq_true c24
           clear c24
           replace H := Option.bind_eq_some_iff.mp H
           obtain ⟨⟨t311, t312⟩, A250, H⟩ := H
           replace H : (if t311 < 0 then (some (([] : List (S52)), 6)) else (if t312 < 0 then (some (([] : List (S52)), 6)) else (if 0 ≤ t311 then (if t311 < (l0.length : Int) then (if 0 ≤ t312 then (if t312 < (l0.length : Int) then ((cadence_woven.f ((rd_T52 l0 t311).f0) ((rd_T52 l0 t311).f1) ((rd_T52 l0 t311).f2) ((rd_T52 l0 t311).f3) ((rd_T52 l0 t311).f4) ((rd_T52 l0 t312).f0) ((rd_T52 l0 t312).f1) ((rd_T52 l0 t312).f2) ((rd_T52 l0 t312).f3) ((rd_T52 l0 t312).f4)).bind fun bt315 => (if x9_3.length < 1599289640401 then (cadence_Restore.l1 k3 l0 l1 (x9_3 ++ [(⟨bt315.1, bt315.2.1, bt315.2.2.1, bt315.2.2.2.1, bt315.2.2.2.2⟩ : S52)]) (wrap64 (x6_2 + 1)) (wrap64 (x51_3 + 1))) else (none))) else (none)) else (none)) else (none)) else (none)))) = some (r1, r2) := H
           have A25 := Aside0.mk A250
           clear A250
           by_cases c26 : t311 < 0
           ·rw [if_pos c26] at H
            have c26b0 : decide (t311 < 0) = true := decide_eq_true c26
            clear c26
            simp only [Option.some.injEq, Prod.mk.injEq] at H
            obtain ⟨rfl, rfl⟩ := H
            go_wp2_with (first | ((with_reducible refine xC (f := 64) rfl ?_); refine goesL_ (some 57) rfl rfl Try.func64 (by kernel_rfl) rfl #[.slice A1 l1.length c1, .int .i64 x51_3] rfl (by (try simp only [List.map_toArray, List.map_cons, List.map_nil]); first | done | rfl | (simp only [List.length_drop, List.length_take]; rfl)) ?_; (with_reducible refine (cadence_find.calls k3 _ _ l1 x51_3 t311 t312 _ ?side1 ?side2 A25.out).mono ?_); (case side1 => repeat (first | exact (Kd.C_below HR1.out HB.out) | (with_reducible refine Kd.C_alloc ?_ _) | (with_reducible refine Kd.C_drewN ?_ _) | (with_reducible refine Kd.C_drew ?_))); (case side2 => exact HC1.out); rintro e w27 ⟨rfl, hb⟩; refine ⟨_, rfl, ?_⟩; have n0_ := Aside0.mk (Kd.S_below (by (with_reducible repeat (first | apply Kd.S_alloc | apply Kd.S_drewN | apply Kd.S_drew)); exact HO_9.out) hb); have n1_ := Aside0.mk (zT (by repeat (first | (with_reducible first | exact HB.out | apply zA | apply zN | apply zD) | exact HB.out)) hb); clear HO_9; clear HB; have HO_9 := n0_; have HB := n1_; clear n0_ n1_; (try clear hb); (try clear hb2); (try clear hk); (try clear hi)))
            go_ret2
            exact ⟨_, by first | rfl | (simp [errW_none, errW_some] <;> rfl) | (simp [*, errW_none, errW_some] <;> rfl), by first | exact Kd.S_nil _ _ _ _ _ | exact Kd.N_nil _ _ _ _ _ | exact Kd.V_nil _ _ _ _ _ | exact Kd.Q_nil _ _ _ _ _ | exact Kd.R_nil _ _ _ _ _, by repeat (first | (with_reducible first | exact HB.out | apply zA | apply zN | apply zD) | exact HB.out)⟩
           ·rw [if_neg c26] at H
            have c26b0 : decide (t311 < 0) = false := decide_eq_false c26
            clear c26
            by_cases c28 : t312 < 0
            ·rw [if_pos c28] at H
             have c28b0 : decide (t312 < 0) = true := decide_eq_true c28
             clear c28
             simp only [Option.some.injEq, Prod.mk.injEq] at H
             obtain ⟨rfl, rfl⟩ := H
             go_wp2_with (first | ((with_reducible refine xC (f := 64) rfl ?_); refine goesL_ (some 57) rfl rfl Try.func64 (by kernel_rfl) rfl #[.slice A1 l1.length c1, .int .i64 x51_3] rfl (by (try simp only [List.map_toArray, List.map_cons, List.map_nil]); first | done | rfl | (simp only [List.length_drop, List.length_take]; rfl)) ?_; (with_reducible refine (cadence_find.calls k3 _ _ l1 x51_3 t311 t312 _ ?side1 ?side2 A25.out).mono ?_); (case side1 => repeat (first | exact (Kd.C_below HR1.out HB.out) | (with_reducible refine Kd.C_alloc ?_ _) | (with_reducible refine Kd.C_drewN ?_ _) | (with_reducible refine Kd.C_drew ?_))); (case side2 => exact HC1.out); rintro e w29 ⟨rfl, hb⟩; refine ⟨_, rfl, ?_⟩; have n0_ := Aside0.mk (Kd.S_below (by (with_reducible repeat (first | apply Kd.S_alloc | apply Kd.S_drewN | apply Kd.S_drew)); exact HO_9.out) hb); have n1_ := Aside0.mk (zT (by repeat (first | (with_reducible first | exact HB.out | apply zA | apply zN | apply zD) | exact HB.out)) hb); clear HO_9; clear HB; have HO_9 := n0_; have HB := n1_; clear n0_ n1_; (try clear hb); (try clear hb2); (try clear hk); (try clear hi)))
             go_ret2
             exact ⟨_, by first | rfl | (simp [errW_none, errW_some] <;> rfl) | (simp [*, errW_none, errW_some] <;> rfl), by first | exact Kd.S_nil _ _ _ _ _ | exact Kd.N_nil _ _ _ _ _ | exact Kd.V_nil _ _ _ _ _ | exact Kd.Q_nil _ _ _ _ _ | exact Kd.R_nil _ _ _ _ _, by repeat (first | (with_reducible first | exact HB.out | apply zA | apply zN | apply zD) | exact HB.out)⟩
            ·rw [if_neg c28] at H
             have c28b0 : decide (t312 < 0) = false := decide_eq_false c28
             clear c28
             by_cases c30 : 0 ≤ t311
             ·rw [if_pos c30] at H
              have c30b0 : decide (0 ≤ t311) = true := decide_eq_true c30
              clear c30
              by_cases c31 : t311 < (l0.length : Int)
              ·rw [if_pos c31] at H
               have c31b0 : decide (t311 < (l0.length : Int)) = true := decide_eq_true c31
               clear c31
               by_cases c32 : 0 ≤ t312
               ·rw [if_pos c32] at H
                have c32b0 : decide (0 ≤ t312) = true := decide_eq_true c32
                clear c32
                by_cases c33 : t312 < (l0.length : Int)
                ·rw [if_pos c33] at H
                 have c33b0 : decide (t312 < (l0.length : Int)) = true := decide_eq_true c33
                 clear c33
                 replace H := Option.bind_eq_some_iff.mp H
                 obtain ⟨⟨t315, t316, t317, t320, t323⟩, A340, H⟩ := H
                 replace H : (if x9_3.length < 1599289640401 then (cadence_Restore.l1 k3 l0 l1 (x9_3 ++ [(⟨t315, t316, t317, t320, t323⟩ : S52)]) (wrap64 (x6_2 + 1)) (wrap64 (x51_3 + 1))) else (none)) = some (r1, r2) := H
                 have A34 := Aside0.mk A340
                 clear A340
                 by_cases c35 : x9_3.length < 1599289640401
                 ·rw [if_pos c35] at H
                  have LMc35 := Aside0.mk c35
                  clear c35
                  obtain ⟨y326, hy326⟩ : ∃ y_ : List (S52), y_ = (x9_3 ++ [(⟨t315, t316, t317, t320, t323⟩ : S52)]) := ⟨_, rfl⟩
                  replace H : (cadence_Restore.l1 k3 l0 l1 y326 (wrap64 (x6_2 + 1)) (wrap64 (x51_3 + 1))) = some (r1, r2) := by first | (rw [hy326]; with_reducible exact H) | (have H2_ := (Option.bind_some _ _).symm.trans H; rw [hy326]; with_reducible exact H2_) | (have H2_ := (Option.bind_some _ _).symm.trans H; with_reducible exact H2_) | with_reducible exact H | (rw [hy326]; exact H) | exact H
                  have Ny326 := Aside0.mk hy326
                  clear hy326
                  have H' := Aside0.mk H
                  clear H
                  try go_wp2_with (first | ((with_reducible refine xC (f := 64) rfl ?_); refine goesL_ (some 57) rfl rfl Try.func64 (by kernel_rfl) rfl #[.slice A1 l1.length c1, .int .i64 x51_3] rfl (by (try simp only [List.map_toArray, List.map_cons, List.map_nil]); first | done | rfl | (simp only [List.length_drop, List.length_take]; rfl)) ?_; (with_reducible refine (cadence_find.calls k3 _ _ l1 x51_3 t311 t312 _ ?side1 ?side2 A25.out).mono ?_); (case side1 => repeat (first | exact (Kd.C_below HR1.out HB.out) | (with_reducible refine Kd.C_alloc ?_ _) | (with_reducible refine Kd.C_drewN ?_ _) | (with_reducible refine Kd.C_drew ?_))); (case side2 => exact HC1.out); rintro e w36 ⟨rfl, hb⟩; refine ⟨_, rfl, ?_⟩; have n0_ := Aside0.mk (Kd.S_below (by (with_reducible repeat (first | apply Kd.S_alloc | apply Kd.S_drewN | apply Kd.S_drew)); exact HO_9.out) hb); have n1_ := Aside0.mk (zT (by repeat (first | (with_reducible first | exact HB.out | apply zA | apply zN | apply zD) | exact HB.out)) hb); clear HO_9; clear HB; have HO_9 := n0_; have HB := n1_; clear n0_ n1_; (try clear hb); (try clear hb2); (try clear hk); (try clear hi)))
                  have n0_ := Aside0.mk (Kd.S_drew HO_9.out)
                  have n1_ := Aside0.mk (zD HB.out)
                  clear HO_9
                  clear HB
                  have HO_9 := n0_
                  have HB := n1_
                  clear n0_ n1_
                  have p313 : 0 ≤ (t311 : Int) := of_decide_eq_true (by first | (with_reducible assumption) | assumption)
                  have q313 : t311 < (l0.length : Int) := of_decide_eq_true (by first | (with_reducible assumption) | assumption)
                  obtain ⟨ad313, A313_2, c313_2, A313_3, c313_3, A313_4, c313_4, e313, hx313_0, hx313_1, hx313_2, hx313_3, hx313_4, hl313_2, hi313_2, hl313_3, hi313_3, hl313_4, hi313_4⟩ := at_T52 HR0.out t311 p313 q313
                  have hw313_4 := hx313_4
                  have hw313_3 := hx313_3
                  have hw313_2 := hx313_2
                  have hw313_1 := hx313_1
                  have hw313_0 := hx313_0
                  cases e313
                  replace hx313_0 := (HB.out.cell (World.block_lt_of_cell? w _ hx313_0)).trans hx313_0
                  replace hx313_1 := (HB.out.cell (World.block_lt_of_cell? w _ hx313_1)).trans hx313_1
                  replace hx313_2 := (HB.out.cell (World.block_lt_of_cell? w _ hx313_2)).trans hx313_2
                  replace hx313_3 := (HB.out.cell (World.block_lt_of_cell? w _ hx313_3)).trans hx313_3
                  replace hx313_4 := (HB.out.cell (World.block_lt_of_cell? w _ hx313_4)).trans hx313_4
                  have HR313_2 := Aside0.mk hi313_2
                  have HC313_2 := Aside0.mk hl313_2
                  clear hi313_2 hl313_2
                  have HR313_3 := Aside0.mk hi313_3
                  have HC313_3 := Aside0.mk hl313_3
                  clear hi313_3 hl313_3
                  have HR313_4 := Aside0.mk hi313_4
                  have HC313_4 := Aside0.mk hl313_4
                  clear hi313_4 hl313_4
                  replace p313 := eq_true p313
                  replace q313 := eq_true q313
                  have p314 : 0 ≤ (t312 : Int) := of_decide_eq_true (by first | (with_reducible assumption) | assumption)
                  have q314 : t312 < (l0.length : Int) := of_decide_eq_true (by first | (with_reducible assumption) | assumption)
                  obtain ⟨ad314, A314_2, c314_2, A314_3, c314_3, A314_4, c314_4, e314, hx314_0, hx314_1, hx314_2, hx314_3, hx314_4, hl314_2, hi314_2, hl314_3, hi314_3, hl314_4, hi314_4⟩ := at_T52 HR0.out t312 p314 q314
                  have hw314_4 := hx314_4
                  have hw314_3 := hx314_3
                  have hw314_2 := hx314_2
                  have hw314_1 := hx314_1
                  have hw314_0 := hx314_0
                  obtain rfl : ad313 = ad314 := (by injection e314)
                  replace hx314_0 := (HB.out.cell (World.block_lt_of_cell? w _ hx314_0)).trans hx314_0
                  replace hx314_1 := (HB.out.cell (World.block_lt_of_cell? w _ hx314_1)).trans hx314_1
                  replace hx314_2 := (HB.out.cell (World.block_lt_of_cell? w _ hx314_2)).trans hx314_2
                  replace hx314_3 := (HB.out.cell (World.block_lt_of_cell? w _ hx314_3)).trans hx314_3
                  replace hx314_4 := (HB.out.cell (World.block_lt_of_cell? w _ hx314_4)).trans hx314_4
                  have HR314_2 := Aside0.mk hi314_2
                  have HC314_2 := Aside0.mk hl314_2
                  clear hi314_2 hl314_2
                  have HR314_3 := Aside0.mk hi314_3
                  have HC314_3 := Aside0.mk hl314_3
                  clear hi314_3 hl314_3
                  have HR314_4 := Aside0.mk hi314_4
                  have HC314_4 := Aside0.mk hl314_4
                  clear hi314_4 hl314_4
                  replace p314 := eq_true p314
                  replace q314 := eq_true q314
                  refine start_ (n := 13) (S := fun w' => w'.cell? (ad313.add ((t311).toNat * 5)) = some (.int .i64 ((rd_T52 l0 t311).f0)) ∧ w'.cell? ⟨(ad313.add ((t311).toNat * 5)).block, (ad313.add ((t311).toNat * 5)).off + 1, none⟩ = some (.int .i64 ((rd_T52 l0 t311).f1)) ∧ w'.cell? ⟨(ad313.add ((t311).toNat * 5)).block, (ad313.add ((t311).toNat * 5)).off + 2, none⟩ = some (.slice A313_2 ((rd_T52 l0 t311).f2).length c313_2) ∧ w'.cell? ⟨(ad313.add ((t311).toNat * 5)).block, (ad313.add ((t311).toNat * 5)).off + 3, none⟩ = some (.slice A313_3 ((rd_T52 l0 t311).f3).length c313_3) ∧ w'.cell? ⟨(ad313.add ((t311).toNat * 5)).block, (ad313.add ((t311).toNat * 5)).off + 4, none⟩ = some (.slice A313_4 ((rd_T52 l0 t311).f4).length c313_4) ∧ w'.cell? (ad313.add ((t312).toNat * 5)) = some (.int .i64 ((rd_T52 l0 t312).f0)) ∧ w'.cell? ⟨(ad313.add ((t312).toNat * 5)).block, (ad313.add ((t312).toNat * 5)).off + 1, none⟩ = some (.int .i64 ((rd_T52 l0 t312).f1)) ∧ w'.cell? ⟨(ad313.add ((t312).toNat * 5)).block, (ad313.add ((t312).toNat * 5)).off + 2, none⟩ = some (.slice A314_2 ((rd_T52 l0 t312).f2).length c314_2) ∧ w'.cell? ⟨(ad313.add ((t312).toNat * 5)).block, (ad313.add ((t312).toNat * 5)).off + 3, none⟩ = some (.slice A314_3 ((rd_T52 l0 t312).f3).length c314_3) ∧ w'.cell? ⟨(ad313.add ((t312).toNat * 5)).block, (ad313.add ((t312).toNat * 5)).off + 4, none⟩ = some (.slice A314_4 ((rd_T52 l0 t312).f4).length c314_4)) (ds := []) #[false, false, false, false, false, false, false, false, false, false, false, false, false] (by kernel_rfl) rfl rfl ⟨((HB.out.cell (World.block_lt_of_cell? w _ hw313_0)).trans hw313_0), ((HB.out.cell (World.block_lt_of_cell? w _ hw313_1)).trans hw313_1), ((HB.out.cell (World.block_lt_of_cell? w _ hw313_2)).trans hw313_2), ((HB.out.cell (World.block_lt_of_cell? w _ hw313_3)).trans hw313_3), ((HB.out.cell (World.block_lt_of_cell? w _ hw313_4)).trans hw313_4), ((HB.out.cell (World.block_lt_of_cell? w _ hw314_0)).trans hw314_0), ((HB.out.cell (World.block_lt_of_cell? w _ hw314_1)).trans hw314_1), ((HB.out.cell (World.block_lt_of_cell? w _ hw314_2)).trans hw314_2), ((HB.out.cell (World.block_lt_of_cell? w _ hw314_3)).trans hw314_3), ((HB.out.cell (World.block_lt_of_cell? w _ hw314_4)).trans hw314_4)⟩ (fun hHeld => ?_); refine with_tabW cadence_Restore.tab20 cadence_Restore.bits20 (fun HT_ HW_ => ?_)
                  generalize w36.drew = w37 at HO_9 HB HR313_2 HR313_3 HR313_4 HR314_2 HR314_3 HR314_4 hx313_0 hx313_1 hx313_2 hx313_3 hx313_4 hx314_0 hx314_1 hx314_2 hx314_3 hx314_4 hHeld ⊢
                  refine Abb.pS 0 66 #[T', F', F', F', F', F', F', F', F', F', F', F', F'] HT_ ?_
                  refine Abb.pS 1 67 #[T', T', F', F', F', F', F', F', F', F', F', F', F'] HT_ ?_
                  refine Abb.pS 2 68 #[T', T', T', F', F', F', F', F', F', F', F', F', F'] HT_ ?_
                  refine Abb.pS 3 69 #[T', T', T', T', F', F', F', F', F', F', F', F', F'] HT_ ?_
                  refine Abb.pS 5 71 #[T', T', T', T', F', T', F', F', F', F', F', F', F'] HT_ ?_
                  refine Abb.pS 6 72 #[T', T', T', T', F', T', T', F', F', F', F', F', F'] HT_ ?_
                  refine Abb.pS 7 73 #[T', T', T', T', F', T', T', T', F', F', F', F', F'] HT_ ?_
                  refine Abb.pT 4 70 #[T', T', T', T', T', T', T', T', F', F', F', F', F'] HT_ HW_ hHeld ?_
                  refine Abb.pT 8 74 #[T', T', T', T', T', T', T', T', T', F', F', F', F'] HT_ HW_ hHeld ?_
                  refine one_ (i := 9) (N := some 75) #[T', T', T', T', T', T', T', T', T', T', F', F', F'] rfl rfl (one_of HT_.out (by kernel_rfl)) (by decide) (fun K hK => ?_)
                  refine goes_ Try.func62 (by kernel_rfl) rfl #[.agg #[.int .i64 ((rd_T52 l0 t311).f0), .int .i64 ((rd_T52 l0 t311).f1), .slice A313_2 ((rd_T52 l0 t311).f2).length c313_2, .slice A313_3 ((rd_T52 l0 t311).f3).length c313_3, .slice A313_4 ((rd_T52 l0 t311).f4).length c313_4], .agg #[.int .i64 ((rd_T52 l0 t312).f0), .int .i64 ((rd_T52 l0 t312).f1), .slice A314_2 ((rd_T52 l0 t312).f2).length c314_2, .slice A314_3 ((rd_T52 l0 t312).f3).length c314_3, .slice A314_4 ((rd_T52 l0 t312).f4).length c314_4]] (by rfl) rfl rfl (by (try simp only [List.map_toArray, List.map_cons, List.map_nil]); first | done | rfl | (simp only [List.length_drop, List.length_take]; rfl)) ?_
                  with_reducible refine (cadence_woven.calls ((rd_T52 l0 t311).f0) ((rd_T52 l0 t311).f1) _ _ ((rd_T52 l0 t311).f2) _ _ ((rd_T52 l0 t311).f3) _ _ ((rd_T52 l0 t311).f4) ((rd_T52 l0 t312).f0) ((rd_T52 l0 t312).f1) _ _ ((rd_T52 l0 t312).f2) _ _ ((rd_T52 l0 t312).f3) _ _ ((rd_T52 l0 t312).f4) t315 t316 t317 t320 t323 _ ?side1 ?side2 ?side3 ?side4 ?side5 ?side6 ?side7 ?side8 ?side9 ?side10 ?side11 ?side12 A34.out).mono ?_
                  (case side1 => repeat (first | exact (Kd.C_below HR313_2.out HB.out) | (with_reducible refine Kd.C_alloc ?_ _) | (with_reducible refine Kd.C_drewN ?_ _) | (with_reducible refine Kd.C_drew ?_)))
                  (case side2 => exact HC313_2.out)
                  (case side3 => repeat (first | exact (Kd.C_below HR313_3.out HB.out) | (with_reducible refine Kd.C_alloc ?_ _) | (with_reducible refine Kd.C_drewN ?_ _) | (with_reducible refine Kd.C_drew ?_)))
                  (case side4 => exact HC313_3.out)
                  (case side5 => repeat (first | exact (Kd.C_below HR313_4.out HB.out) | (with_reducible refine Kd.C_alloc ?_ _) | (with_reducible refine Kd.C_drewN ?_ _) | (with_reducible refine Kd.C_drew ?_)))
                  (case side6 => exact HC313_4.out)
                  (case side7 => repeat (first | exact (Kd.C_below HR314_2.out HB.out) | (with_reducible refine Kd.C_alloc ?_ _) | (with_reducible refine Kd.C_drewN ?_ _) | (with_reducible refine Kd.C_drew ?_)))
                  (case side8 => exact HC314_2.out)
                  (case side9 => repeat (first | exact (Kd.C_below HR314_3.out HB.out) | (with_reducible refine Kd.C_alloc ?_ _) | (with_reducible refine Kd.C_drewN ?_ _) | (with_reducible refine Kd.C_drew ?_)))
                  (case side10 => exact HC314_3.out)
                  (case side11 => repeat (first | exact (Kd.C_below HR314_4.out HB.out) | (with_reducible refine Kd.C_alloc ?_ _) | (with_reducible refine Kd.C_drewN ?_ _) | (with_reducible refine Kd.C_drew ?_)))
                  (case side12 => exact HC314_4.out)
                  rintro e w38 ⟨v318, v321, v324, rfl, ho0, ho1, ho2, hb⟩
                  refine ⟨_, rfl, ?_⟩
                  have n0_ := Aside0.mk (Kd.S_mono (Kd.S_told (Kd.S_told (Kd.S_told (Kd.S_old (by (with_reducible repeat (first | apply Kd.S_alloc | apply Kd.S_drewN | apply Kd.S_drew)); exact HO_9.out) hb) (Kd.R_base ho0)) (Kd.R_base ho1)) (Kd.R_base ho2)) (fun _ h_ => h_.1))
                  have n1_ := Aside0.mk (Kd.R_lower ho0 (zS (by repeat (first | (with_reducible first | exact HB.out | apply zA | apply zN | apply zD) | exact HB.out))))
                  have n2_ := Aside0.mk (Kd.R_lower ho1 (zS (by repeat (first | (with_reducible first | exact HB.out | apply zA | apply zN | apply zD) | exact HB.out))))
                  have n3_ := Aside0.mk (Kd.R_lower ho2 (zS (by repeat (first | (with_reducible first | exact HB.out | apply zA | apply zN | apply zD) | exact HB.out))))
                  have n4_ := Aside0.mk (zT (by repeat (first | (with_reducible first | exact HB.out | apply zA | apply zN | apply zD) | exact HB.out)) hb)
                  clear HO_9
                  clear HB
                  have HO_9 := n0_
                  have HO319 := n1_
                  have HO322 := n2_
                  have HO325 := n3_
                  have HB := n4_
                  clear n0_ n1_ n2_ n3_ n4_
                  (try clear hb)
                  (try clear hb2)
                  (try clear hk)
                  (try clear hi)
                  (try clear ho0)
                  (try clear ho1)
                  (try clear ho2)
                  obtain ⟨Ao40, co40, eo40⟩ := Kd.R_slice HO319.out
                  (first | subst eo40 | (injection eo40 with f1_ f2_ f3_; have f4_ := f1_.symm; have f5_ := f3_.symm; clear f1_ f2_ f3_; subst f4_; subst f5_))
                  obtain ⟨Ao41, co41, eo41⟩ := Kd.R_slice HO322.out
                  (first | subst eo41 | (injection eo41 with f1_ f2_ f3_; have f4_ := f1_.symm; have f5_ := f3_.symm; clear f1_ f2_ f3_; subst f4_; subst f5_))
                  obtain ⟨Ao42, co42, eo42⟩ := Kd.R_slice HO325.out
                  (first | subst eo42 | (injection eo42 with f1_ f2_ f3_; have f4_ := f1_.symm; have f5_ := f3_.symm; clear f1_ f2_ f3_; subst f4_; subst f5_))
                  refine hK.out _ _ ⟨((HB.out.cell (World.block_lt_of_cell? w _ hw313_0)).trans hw313_0), ((HB.out.cell (World.block_lt_of_cell? w _ hw313_1)).trans hw313_1), ((HB.out.cell (World.block_lt_of_cell? w _ hw313_2)).trans hw313_2), ((HB.out.cell (World.block_lt_of_cell? w _ hw313_3)).trans hw313_3), ((HB.out.cell (World.block_lt_of_cell? w _ hw313_4)).trans hw313_4), ((HB.out.cell (World.block_lt_of_cell? w _ hw314_0)).trans hw314_0), ((HB.out.cell (World.block_lt_of_cell? w _ hw314_1)).trans hw314_1), ((HB.out.cell (World.block_lt_of_cell? w _ hw314_2)).trans hw314_2), ((HB.out.cell (World.block_lt_of_cell? w _ hw314_3)).trans hw314_3), ((HB.out.cell (World.block_lt_of_cell? w _ hw314_4)).trans hw314_4)⟩ (fun hHeld => ?_)
                  clear hK K
                  refine norm_ (a' := ?_) ?_ ?_
                  rotate_left
                  ·show Act.put _ (some 75) _ = _
                   simp only [Act.put, sA, sZ, sS, i64_w, i32_w]
                   rfl
                  refine one_ (i := 10) (N := some 76) #[T', T', T', T', T', T', T', T', T', T', T', F', F'] rfl rfl (one_of HT_.out (by kernel_rfl)) (by decide) (fun K hK => ?_)
                  refine value_ (w1 := ?_) (v := ?_) (by rfl) rfl ?_ ?_
                  rotate_left 2
                  ·go_simp
                   constructor
                   ·rfl
                   ·rfl
                  refine hK.out _ _ ⟨(World.cell?_alloc_lt _ _ _ (World.block_lt_of_cell? _ _ (((HB.out.cell (World.block_lt_of_cell? w _ hw313_0)).trans hw313_0)))).trans (((HB.out.cell (World.block_lt_of_cell? w _ hw313_0)).trans hw313_0)), (World.cell?_alloc_lt _ _ _ (World.block_lt_of_cell? _ _ (((HB.out.cell (World.block_lt_of_cell? w _ hw313_1)).trans hw313_1)))).trans (((HB.out.cell (World.block_lt_of_cell? w _ hw313_1)).trans hw313_1)), (World.cell?_alloc_lt _ _ _ (World.block_lt_of_cell? _ _ (((HB.out.cell (World.block_lt_of_cell? w _ hw313_2)).trans hw313_2)))).trans (((HB.out.cell (World.block_lt_of_cell? w _ hw313_2)).trans hw313_2)), (World.cell?_alloc_lt _ _ _ (World.block_lt_of_cell? _ _ (((HB.out.cell (World.block_lt_of_cell? w _ hw313_3)).trans hw313_3)))).trans (((HB.out.cell (World.block_lt_of_cell? w _ hw313_3)).trans hw313_3)), (World.cell?_alloc_lt _ _ _ (World.block_lt_of_cell? _ _ (((HB.out.cell (World.block_lt_of_cell? w _ hw313_4)).trans hw313_4)))).trans (((HB.out.cell (World.block_lt_of_cell? w _ hw313_4)).trans hw313_4)), (World.cell?_alloc_lt _ _ _ (World.block_lt_of_cell? _ _ (((HB.out.cell (World.block_lt_of_cell? w _ hw314_0)).trans hw314_0)))).trans (((HB.out.cell (World.block_lt_of_cell? w _ hw314_0)).trans hw314_0)), (World.cell?_alloc_lt _ _ _ (World.block_lt_of_cell? _ _ (((HB.out.cell (World.block_lt_of_cell? w _ hw314_1)).trans hw314_1)))).trans (((HB.out.cell (World.block_lt_of_cell? w _ hw314_1)).trans hw314_1)), (World.cell?_alloc_lt _ _ _ (World.block_lt_of_cell? _ _ (((HB.out.cell (World.block_lt_of_cell? w _ hw314_2)).trans hw314_2)))).trans (((HB.out.cell (World.block_lt_of_cell? w _ hw314_2)).trans hw314_2)), (World.cell?_alloc_lt _ _ _ (World.block_lt_of_cell? _ _ (((HB.out.cell (World.block_lt_of_cell? w _ hw314_3)).trans hw314_3)))).trans (((HB.out.cell (World.block_lt_of_cell? w _ hw314_3)).trans hw314_3)), (World.cell?_alloc_lt _ _ _ (World.block_lt_of_cell? _ _ (((HB.out.cell (World.block_lt_of_cell? w _ hw314_4)).trans hw314_4)))).trans (((HB.out.cell (World.block_lt_of_cell? w _ hw314_4)).trans hw314_4))⟩ (fun hHeld => ?_)
                  clear hK K
                  refine norm_ (a' := ?_) ?_ ?_
                  rotate_left
                  ·show Act.put _ (some 76) _ = _
                   simp only [Act.put, sA, sZ, sS, i64_w, i32_w]
                   rfl
                  refine one_ (i := 11) (N := some 77) #[T', T', T', T', T', T', T', T', T', T', T', T', F'] rfl rfl (one_of HT_.out (by kernel_rfl)) (by decide) (fun K hK => ?_)
                  refine Kd.S_append_step k52 (w0 := w) w.heap.size (by rfl) (.tmp 66) (.tmp 76) 48 52 (.agg #[(.int .i64 0), (.int .i64 0), (.slice none 0 0), (.slice none 0 0), (.slice none 0 0)]) 88 rfl Try.underlying48 info52 rfl (by decide) (by omega) u9 x9_3 (⟨t315, t316, t317, t320, t323⟩ : S52) [.int .i64 t315, .int .i64 t316, .slice Ao40 t317.length co40, .slice Ao41 t320.length co41, .slice Ao42 t323.length co42] (fun _ => True) (fun k_ => some k_ = (.slice Ao40 t317.length co40 : Value).ownBlock ∨ some k_ = (.slice Ao41 t320.length co41 : Value).ownBlock ∨ some k_ = (.slice Ao42 t323.length co42 : Value).ownBlock) rfl rfl ?aP (fun k_ hk_ => hk_.elim (fun h_ => ((Kd.R_mono (ok' := fun k_ => ((fun _ => True)) k_ ∧ some k_ ≠ (u9 : Value).ownBlock) (Kd.R_apart' (HO319.out) (Kd.S_typed HO_9.out) (by decide)) (fun k_ hk => ⟨trivial, hk.2⟩))).1 k_ h_.symm) (fun h_ => h_.elim (fun h_ => ((Kd.R_mono (ok' := fun k_ => ((fun _ => True)) k_ ∧ some k_ ≠ (u9 : Value).ownBlock) (Kd.R_apart' (HO322.out) (Kd.S_typed HO_9.out) (by decide)) (fun k_ hk => ⟨trivial, hk.2⟩))).1 k_ h_.symm) (fun h_ => ((Kd.R_mono (ok' := fun k_ => ((fun _ => True)) k_ ∧ some k_ ≠ (u9 : Value).ownBlock) (Kd.R_apart' (HO325.out) (Kd.S_typed HO_9.out) (by decide)) (fun k_ hk => ⟨trivial, hk.2⟩))).1 k_ h_.symm))) ?aF ?aO ?aB ?aS ?aL ?_
                  (case aP => exact k52_mkM _ _ _ (⟨t315, t316, t317, t320, t323⟩ : S52) (Kd.R_mono (Kd.R_tight rfl (Kd.R_mono (ok' := fun k_ => ((fun _ => True)) k_ ∧ some k_ ≠ (u9 : Value).ownBlock) (Kd.R_apart' (HO319.out) (Kd.S_typed HO_9.out) (by decide)) (fun k_ hk => ⟨trivial, hk.2⟩))) (fun _ h_ => Or.inl h_)) (Kd.R_mono (Kd.R_tight rfl (Kd.R_mono (ok' := fun k_ => ((fun _ => True)) k_ ∧ some k_ ≠ (u9 : Value).ownBlock) (Kd.R_apart' (HO322.out) (Kd.S_typed HO_9.out) (by decide)) (fun k_ hk => ⟨trivial, hk.2⟩))) (fun _ h_ => Or.inr (Or.inl h_))) (Kd.R_mono (Kd.R_tight rfl (Kd.R_mono (ok' := fun k_ => ((fun _ => True)) k_ ∧ some k_ ≠ (u9 : Value).ownBlock) (Kd.R_apart' (HO325.out) (Kd.S_typed HO_9.out) (by decide)) (fun k_ hk => ⟨trivial, hk.2⟩))) (fun _ h_ => Or.inr (Or.inr (h_)))))
                  (case aB => exact (by repeat (first | (with_reducible first | exact HB.out | apply zA | apply zN | apply zD) | exact HB.out)))
                  (case aF => exact (fun _ _ => trivial))
                  (case aO => exact (by (with_reducible repeat (first | apply Kd.S_alloc | apply Kd.S_drewN | apply Kd.S_drew)); exact Kd.S_mono HO_9.out (fun k_ hk => ⟨trivial, fun e_ => e_.elim (fun h_ => hk.1.1.2 h_) (fun h_ => h_.elim (fun h_ => hk.1.2 h_) (fun h_ => hk.2 h_))⟩)))
                  (case aS => exact (zS (by repeat (first | (with_reducible first | exact HB.out | apply zA | apply zN | apply zD) | exact HB.out))))
                  (case aL => have := LMc35.out; omega)
                  intro v327 w39 ho hb hg hat
                  rw [← Ny326.out] at ho
                  have n0_ := Aside0.mk (hb)
                  have n1_ := Aside0.mk (ho)
                  clear HB
                  clear HO_9
                  clear HO319
                  clear HO322
                  clear HO325
                  have HB := n0_
                  have HO328 := n1_
                  clear n0_ n1_
                  clear ho hb hg hat
                  refine hK.out _ _ ⟨((HB.out.cell (World.block_lt_of_cell? w _ hw313_0)).trans hw313_0), ((HB.out.cell (World.block_lt_of_cell? w _ hw313_1)).trans hw313_1), ((HB.out.cell (World.block_lt_of_cell? w _ hw313_2)).trans hw313_2), ((HB.out.cell (World.block_lt_of_cell? w _ hw313_3)).trans hw313_3), ((HB.out.cell (World.block_lt_of_cell? w _ hw313_4)).trans hw313_4), ((HB.out.cell (World.block_lt_of_cell? w _ hw314_0)).trans hw314_0), ((HB.out.cell (World.block_lt_of_cell? w _ hw314_1)).trans hw314_1), ((HB.out.cell (World.block_lt_of_cell? w _ hw314_2)).trans hw314_2), ((HB.out.cell (World.block_lt_of_cell? w _ hw314_3)).trans hw314_3), ((HB.out.cell (World.block_lt_of_cell? w _ hw314_4)).trans hw314_4)⟩ (fun hHeld => ?_)
                  clear hK K
                  refine norm_ (a' := ?_) ?_ ?_
                  rotate_left
                  ·show Act.put _ (some 77) _ = _
                   simp only [Act.put, sA, sZ, sS, i64_w, i32_w]
                   rfl
                  refine Abb.pS 12 9 #[T', T', T', T', T', T', T', T', T', T', T', T', T'] HT_ ?_
                  refine done_ (done_of HT_.out (by kernel_rfl)) ?_
                  try go_wp2
                  go_roundg k3
                  case measure => have := HJ2.out; have := HK2.out; have := HK3.out; omega
                  case rel => exact ⟨(y326), (wrap64 (x51_3 + 1)), (by first | rfl | (simp; done) | (simp [*]; done)), H', ⟨by have := HJ2.out; have := HK2.out; have := HK3.out; omega⟩, ⟨by (with_reducible repeat (first | apply Kd.S_alloc | apply Kd.S_drewN | apply Kd.S_drew)); exact HO328.out⟩, ⟨by repeat (first | (with_reducible first | exact HB.out | apply zA | apply zN | apply zD) | exact HB.out)⟩⟩
                 ·rw [if_neg c35] at H
                  exact absurd H (by simp)
                ·rw [if_neg c33] at H
                 exact absurd H (by simp)
               ·rw [if_neg c32] at H
                exact absurd H (by simp)
              ·rw [if_neg c31] at H
               exact absurd H (by simp)
             ·rw [if_neg c30] at H
              exact absurd H (by simp)
          ·rw [if_neg c24] at H
           have c24b0 : decide (x51_3 < (wrap64 (x6_2 + 1))) = false := decide_eq_false c24
           clear c24
           simp only [Option.some.injEq, Prod.mk.injEq] at H
           obtain ⟨rfl, rfl⟩ := H
           go_wp2
           go_ret2
           exact ⟨_, by first | rfl | (simp [errW_none, errW_some] <;> rfl) | (simp [*, errW_none, errW_some] <;> rfl), by (with_reducible repeat (first | apply Kd.S_alloc | apply Kd.S_drewN | apply Kd.S_drew)); exact HO_9.out, by repeat (first | (with_reducible first | exact HB.out | apply zA | apply zN | apply zD) | exact HB.out)⟩

end Go.Proofs.Ytcofjbbflcnaaaa.P
