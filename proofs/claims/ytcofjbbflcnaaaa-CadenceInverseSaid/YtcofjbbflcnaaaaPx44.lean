-- Written by this session's own program (wip/tools/myprint.py), which runs the kit's print with turns of its own: not a text of the kit's print.sh.
import Derived.Test.YtcofjbbflcnaaaaPx0
import Derived.Test.YtcofjbbflcnaaaaPx60
import Derived.Test.YtcofjbbflcnaaaaPx63
import Derived.Test.YtcofjbbflcnaaaaPx64
namespace Go.Proofs.Ytcofjbbflcnaaaa.P
open Go.RowKit Go.Proofs.YtcofjbbflcnaaaaW.PrintWords Go.Proofs.YtcofjbbflcnaaaaW.PrintLast Go.Proofs.YtcofjbbflcnaaaaW.PrintMore
open List renaming setIfInBounds_toArray → sA, set_cons_zero → sZ, set_cons_succ → sS
open Bool renaming true → T', false → F'
open Go.Proofs.YtcofjbbflcnaaaaW.PrintWords renaming below_alloc → zA, pw_below_drewN → zN, below_drew1 → zD, blk_drewN → yN, blk_drew → yD, blk_alloc → yA, below_size → zS, below_step → zT, blk_below → yB, below_set → zP, cell_far → xF, add_block → xB, gate_callee → xC, gate_dst → xD
attribute [local go_sem] max2_int min2_int max_two min_two max_three min_three max_four min_four   -- for this text's walks alone
set_option linter.unusedVariables false
set_option linter.unusedSimpArgs false

/-! ### cadence_Restore: function 43 -/
mutual
def cadence_Restore.j0 : Nat → List (S52) → List (S43) → Bool → Option ((List (S52)) × Int)
 | 0, _, _, _ => none
 | k + 1, x0, x1, x22 => if x22 = true then (some (([] : List (S52)), 1)) else (cadence_Restore.l0 k x0 x1 (-1) x1 (x1.length : Int) 0)
def cadence_Restore.l0 : Nat → List (S52) → List (S43) → Int → List (S43) → Int → Int → Option ((List (S52)) × Int)
 | 0, _, _, _, _, _, _ => none
 | k + 1, x0, x1, x6, x23, x24, x25 => if x25 < x24 then (if 0 ≤ x25 then (if x25 < (x23.length : Int) then ((cadence_named.f ((rd_T43 x23 x25).f0)).bind fun t542 => (if t542 = true then ((cadence_named.f ((rd_T43 x23 x25).f1)).bind fun t543 => (if t543 = true then (cadence_Restore.l0 k x0 x1 (mx (mx x6 ((rd_T43 x23 x25).f0)) ((rd_T43 x23 x25).f1)) x23 x24 (wrap64 (x25 + 1))) else (some (([] : List (S52)), 1)))) else (some (([] : List (S52)), 1)))) else (none)) else (none)) else (if (x1.length : Int) > 256 then (some (([] : List (S52)), 5)) else (cadence_Restore.l1 k x0 x1 ([] : List (S52)) (wrap64 (x6 + 1)) 0))
def cadence_Restore.l1 : Nat → List (S52) → List (S43) → List (S52) → Int → Int → Option ((List (S52)) × Int)
 | 0, _, _, _, _, _ => none
 | k + 1, x0, x1, x9, x50, x51 => if x51 < x50 then ((cadence_find.f k x1 x51).bind fun bt544 => (if bt544.1 < 0 then (some (([] : List (S52)), 6)) else (if bt544.2 < 0 then (some (([] : List (S52)), 6)) else (if 0 ≤ bt544.1 then (if bt544.1 < (x0.length : Int) then (if 0 ≤ bt544.2 then (if bt544.2 < (x0.length : Int) then ((cadence_woven.f ((rd_T52 x0 bt544.1).f0) ((rd_T52 x0 bt544.1).f1) ((rd_T52 x0 bt544.1).f2) ((rd_T52 x0 bt544.1).f3) ((rd_T52 x0 bt544.1).f4) ((rd_T52 x0 bt544.2).f0) ((rd_T52 x0 bt544.2).f1) ((rd_T52 x0 bt544.2).f2) ((rd_T52 x0 bt544.2).f3) ((rd_T52 x0 bt544.2).f4)).bind fun bt548 => (if x9.length < 1599289640401 then (cadence_Restore.l1 k x0 x1 (x9 ++ [(⟨bt548.1, bt548.2.1, bt548.2.2.1, bt548.2.2.2.1, bt548.2.2.2.2⟩ : S52)]) x50 (wrap64 (x51 + 1))) else (none))) else (none)) else (none)) else (none)) else (none))))) else (some (x9, 0))
end
def cadence_Restore.f (k : Nat) (l0 : List (S52)) (l1 : List (S43)) : Option ((List (S52)) × Int) := if (l0.length : Int) = (l1.length : Int) then ((cadence_alike.f k l0).bind fun t539 => (cadence_Restore.j0 k l0 l1 (!t539))) else (cadence_Restore.j0 k l0 l1 true)
theorem cadence_Restore.mono_l : ∀ k, (∀ y0 y1 y2, LeO (cadence_Restore.j0 k y0 y1 y2) (cadence_Restore.j0 (k + 1) y0 y1 y2)) ∧ (∀ y0 y1 y2 y3 y4 y5, LeO (cadence_Restore.l0 k y0 y1 y2 y3 y4 y5) (cadence_Restore.l0 (k + 1) y0 y1 y2 y3 y4 y5)) ∧ (∀ y0 y1 y2 y3 y4, LeO (cadence_Restore.l1 k y0 y1 y2 y3 y4) (cadence_Restore.l1 (k + 1) y0 y1 y2 y3 y4))
 | 0 => ⟨fun _ _ _ r h => by simp [cadence_Restore.j0] at h, fun _ _ _ _ _ _ r h => by simp [cadence_Restore.l0] at h, fun _ _ _ _ _ r h => by simp [cadence_Restore.l1] at h⟩
 | k + 1 => by
  obtain ⟨ih0, ih1, ih2⟩ := cadence_Restore.mono_l k
  refine ⟨?_, ?_, ?_⟩
  ·intro y0 y1 y2
   unfold cadence_Restore.j0
   repeat' first
   | (with_reducible exact ih0 _ _ _)
   | (with_reducible exact ih1 _ _ _ _ _ _)
   | (with_reducible exact ih2 _ _ _ _ _)
   | (with_reducible exact cadence_alike.mono _ _)
   | (with_reducible exact cadence_find.mono _ _ _)
   | (with_reducible exact LeO.refl _)
   | (with_reducible exact LeO.none _)
   | (with_reducible refine LeO.ite ?_ ?_)
   | (with_reducible refine LeO.bind ?_ (fun _ => ?_))
   | exact ih0 _ _ _
   | exact ih1 _ _ _ _ _ _
   | exact ih2 _ _ _ _ _
   | exact cadence_alike.mono _ _
   | exact cadence_find.mono _ _ _
   | exact LeO.none _
   | refine LeO.ite ?_ ?_
   | refine LeO.bind ?_ (fun _ => ?_)
  ·intro y0 y1 y2 y3 y4 y5
   unfold cadence_Restore.l0
   repeat' first
   | (with_reducible exact ih0 _ _ _)
   | (with_reducible exact ih1 _ _ _ _ _ _)
   | (with_reducible exact ih2 _ _ _ _ _)
   | (with_reducible exact cadence_alike.mono _ _)
   | (with_reducible exact cadence_find.mono _ _ _)
   | (with_reducible exact LeO.refl _)
   | (with_reducible exact LeO.none _)
   | (with_reducible refine LeO.ite ?_ ?_)
   | (with_reducible refine LeO.bind ?_ (fun _ => ?_))
   | exact ih0 _ _ _
   | exact ih1 _ _ _ _ _ _
   | exact ih2 _ _ _ _ _
   | exact cadence_alike.mono _ _
   | exact cadence_find.mono _ _ _
   | exact LeO.none _
   | refine LeO.ite ?_ ?_
   | refine LeO.bind ?_ (fun _ => ?_)
  ·intro y0 y1 y2 y3 y4
   unfold cadence_Restore.l1
   repeat' first
   | (with_reducible exact ih0 _ _ _)
   | (with_reducible exact ih1 _ _ _ _ _ _)
   | (with_reducible exact ih2 _ _ _ _ _)
   | (with_reducible exact cadence_alike.mono _ _)
   | (with_reducible exact cadence_find.mono _ _ _)
   | (with_reducible exact LeO.refl _)
   | (with_reducible exact LeO.none _)
   | (with_reducible refine LeO.ite ?_ ?_)
   | (with_reducible refine LeO.bind ?_ (fun _ => ?_))
   | exact ih0 _ _ _
   | exact ih1 _ _ _ _ _ _
   | exact ih2 _ _ _ _ _
   | exact cadence_alike.mono _ _
   | exact cadence_find.mono _ _ _
   | exact LeO.none _
   | refine LeO.ite ?_ ?_
   | refine LeO.bind ?_ (fun _ => ?_)
theorem cadence_Restore.mono : ∀ a0 a1 k, LeO (cadence_Restore.f k a0 a1) (cadence_Restore.f (k + 1) a0 a1) := by
 intro a0 a1 k
 obtain ⟨ih0, ih1, ih2⟩ := cadence_Restore.mono_l k
 unfold cadence_Restore.f
 repeat' first
   | (with_reducible exact ih0 _ _ _)
   | (with_reducible exact ih1 _ _ _ _ _ _)
   | (with_reducible exact ih2 _ _ _ _ _)
   | (with_reducible exact cadence_alike.mono _ _)
   | (with_reducible exact cadence_find.mono _ _ _)
   | (with_reducible exact LeO.refl _)
   | (with_reducible exact LeO.none _)
   | (with_reducible refine LeO.ite ?_ ?_)
   | (with_reducible refine LeO.bind ?_ (fun _ => ?_))
   | exact ih0 _ _ _
   | exact ih1 _ _ _ _ _ _
   | exact ih2 _ _ _ _ _
   | exact cadence_alike.mono _ _
   | exact cadence_find.mono _ _ _
   | exact LeO.none _
   | refine LeO.ite ?_ ?_
   | refine LeO.bind ?_ (fun _ => ?_)
def cadence_Restore.T20 : Bool × List (List Nat × List Nat) := (true, [([], []), ([], []), ([], []), ([1, 2], [1, 2]), ([3], [3]), ([], []), ([], []), ([5, 6], [5, 6]), ([7], [7]), ([4, 8], [4, 8]), ([9], [9]), ([0, 10, 9], [0, 10]), ([11, 11, 0, 1, 2, 3, 4, 5, 6, 7, 8, 9, 10, 11], [0, 11])])
def cadence_Restore.B20 : List Nat := [0, 0, 0, 6, 14, 0, 0, 96, 224, 510, 1022, 2047, 4095]
theorem cadence_Restore.tab20 : rtab .any (opsOf Try.f43 20) = cadence_Restore.T20 := by kernel_rfl
theorem cadence_Restore.bits20 : waitsOk cadence_Restore.T20.2 cadence_Restore.B20 = true := by kernel_rfl
set_option maxHeartbeats 8000000 in
set_option maxRecDepth 100000 in
theorem cadence_Restore.calls (k : Nat) (A0 : Option Addr) (c0 : Nat) (l0 : List (S52)) (A1 : Option Addr) (c1 : Nat) (l1 : List (S43)) (r1 : List (S52)) (r2 : Int) (w : World) (hr0 : Kd.C k52 w A0 l0.length l0) (hc0 : l0.length ≤ c0) (hr1 : Kd.C k43 w A1 l1.length l1) (hc1 : l1.length ≤ c1) (h : cadence_Restore.f k l0 l1 = some (r1, r2)) :
  Calls Try.prog 43 #[.slice A0 l0.length c0, .slice A1 l1.length c1] w fun e w' => ∃ v0_ : Value, e = .returned (.tuple #[v0_, .int .i64 r2]) ∧ Kd.S k52 52 w' w.heap.size (fun _ => True) v0_ r1 ∧ Below w.heap.size w w' := by
 have hu43 := Try.underlying43
 have hu52 := Try.underlying52
 have HR0 := Aside0.mk hr0
 have HC0 := Aside0.mk hc0
 clear hr0 hc0
 have HR1 := Aside0.mk hr1
 have HC1 := Aside0.mk hc1
 clear hr1 hc1
 have HB := Aside0.mk (Below.refl w.heap.size w)
 have H : (if (l0.length : Int) = (l1.length : Int) then ((cadence_alike.f k l0).bind fun t539 => (cadence_Restore.j0 k l0 l1 (!t539))) else (cadence_Restore.j0 k l0 l1 true)) = some (r1, r2) := h
 clear h
 have HC3 := Aside0.mk H
 clear H
 go_enter Try.func43, Try.ntmps43
 go_upto_region 1 with (fail)
 go_cut [22] (fun v22 wc => ∃ (kq : Nat) (x22_2 : Bool), v22 = .bool x22_2 ∧ Aside0 (cadence_Restore.j0 kq l0 l1 x22_2 = some (r1, r2)) ∧ Aside0 (kq ≤ k) ∧ Aside0 (Below w.heap.size w wc))
 case first =>
  have H := HC3.out
  clear HC3
  by_cases c4 : (l0.length : Int) = (l1.length : Int)
  ·rw [if_pos c4] at H
   have c4b0 : ((l0.length : Int) == (l1.length : Int)) = true := beq_iff_eq.mpr c4
   have c4b1 : ((l0.length : Int) != (l1.length : Int)) = false := bne_eq_false_iff_eq.mpr c4
   have c4b2 : (l0.length == l1.length) = true := by first | simpa using c4 | (simp at c4 ⊢; omega)
   clear c4
   (first | rw [c4b0] | (simp only [i64_w, i32_w]; rw [c4b0]) | skip)
   replace H := Option.bind_eq_some_iff.mp H
   obtain ⟨t539, A50, H⟩ := H
   replace H : (cadence_Restore.j0 k l0 l1 (!t539)) = some (r1, r2) := H
   have A5 := Aside0.mk A50
   clear A50
   have H' := Aside0.mk H
   clear H
   go_wp2_with (first | (go_at_call 59; (with_reducible refine (cadence_alike.calls k _ _ l0 t539 _ ?side1 ?side2 A5.out).mono ?_); (case side1 => repeat (first | exact (Kd.C_below HR0.out HB.out) | (with_reducible refine Kd.C_alloc ?_ _) | (with_reducible refine Kd.C_drewN ?_ _) | (with_reducible refine Kd.C_drew ?_))); (case side2 => exact HC0.out); rintro e w6 ⟨rfl, hb⟩; have n0_ := Aside0.mk (zT (by repeat (first | (with_reducible first | exact HB.out | apply zA | apply zN | apply zD) | exact HB.out)) hb); clear HB; have HB := n0_; clear n0_; (try clear hb); (try clear hb2); (try clear hk); (try clear hi)))
   go_meet
   case rel => exact ⟨_, (!t539), (by first | rfl | (simp; done) | (simp [*]; done)), H', ⟨by first | omega | exact Nat.le_refl _⟩, ⟨by repeat (first | (with_reducible first | exact HB.out | apply zA | apply zN | apply zD) | exact HB.out)⟩⟩
  ·rw [if_neg c4] at H
   have c4b0 : ((l0.length : Int) == (l1.length : Int)) = false := beq_eq_false_iff_ne.mpr c4
   have c4b1 : ((l0.length : Int) != (l1.length : Int)) = true := bne_iff_ne.mpr c4
   have c4b2 : (l0.length == l1.length) = false := by first | simpa using c4 | (simp at c4 ⊢; omega)
   (first | rw [c4b0] | (simp only [i64_w, i32_w]; rw [c4b0]) | skip)
   have H' := Aside0.mk H
   clear H
   go_wp2
   go_meet
   case rel => exact ⟨_, (true), (by first | rfl | (simp; done) | (simp [*]; done)), H', ⟨by first | omega | exact Nat.le_refl _⟩, ⟨by repeat (first | (with_reducible first | exact HB.out | apply zA | apply zN | apply zD) | exact HB.out)⟩⟩
 case rest =>
  clear HC3
  (try clear c1);(try clear p2);(try clear c4);(try clear c4b0);(try clear c4b1);(try clear c4b2)
  obtain ⟨kq, x22_2, rfl, HA, HJ2, HB⟩ := hcut
  cases kq with
  | zero => exact absurd HA.out (by simp [cadence_Restore.j0])
  | succ kj2 =>
   have H := HA.out
   clear HA
   simp only [cadence_Restore.j0] at H
   by_cases c7 : x22_2 = true
   ·subst c7
    have H1 : (some (([] : List (S52)), 1)) = some (r1, r2) := by rw [if_pos rfl] at H; exact H
    clear H
    have H := H1
    clear H1
    simp only [Option.some.injEq, Prod.mk.injEq] at H
    obtain ⟨rfl, rfl⟩ := H
    go_wp2
    go_ret2
    exact ⟨_, by first | rfl | (simp [errW_none, errW_some] <;> rfl) | (simp [*, errW_none, errW_some] <;> rfl), by first | exact Kd.S_nil _ _ _ _ _ | exact Kd.N_nil _ _ _ _ _ | exact Kd.V_nil _ _ _ _ _ | exact Kd.Q_nil _ _ _ _ _ | exact Kd.R_nil _ _ _ _ _, by repeat (first | (with_reducible first | exact HB.out | apply zA | apply zN | apply zD) | exact HB.out)⟩
   ·replace c7 := Bool.eq_false_iff.mpr c7
    subst c7
    have H1 : (cadence_Restore.l0 kj2 l0 l1 (-1) l1 (l1.length : Int) 0) = some (r1, r2) := by rw [if_neg (show ¬ (false = true) by decide)] at H; exact H
    clear H
    have H := H1
    clear H1
    have H' := Aside0.mk H
    clear H
    go_wp2
    go_loopg [6, 25] kj2 (fun kq v6 v25 w' => ∃ (x6_2 : Int) (x25_2 : Int), v6 = .int .i64 x6_2 ∧ v25 = .int .i64 x25_2 ∧ Aside0 (cadence_Restore.l0 kq l0 l1 x6_2 l1 (l1.length : Int) x25_2 = some (r1, r2)) ∧ Aside0 (kq ≤ kj2) ∧ Aside0 (Below w.heap.size w w'))
    case atStart => exact ⟨((-1)), (0), (by first | rfl | (simp; done) | (simp [*]; done)), (by first | rfl | (simp; done) | (simp [*]; done)), H', ⟨Nat.le_refl _⟩, ⟨by repeat (first | (with_reducible first | exact HB.out | apply zA | apply zN | apply zD) | exact HB.out)⟩⟩
    case round =>
     clear H'
     (try clear c1);(try clear p2);(try clear c4);(try clear c4b0);(try clear c4b1);(try clear c4b2);(try clear c7);(try clear p2)
     obtain ⟨x6_2, x25_2, rfl, rfl, HA, HK2, HB⟩ := hrel
     cases gk with
     | zero => exact absurd HA.out (by simp [cadence_Restore.l0])
     | succ k2 =>
      have H := HA.out
      clear HA
      simp only [cadence_Restore.l0] at H
      by_cases c8 : x25_2 < (l1.length : Int)
      ·rw [if_pos c8] at H
       have c8b0 : decide (x25_2 < (l1.length : Int)) = true := decide_eq_true c8
       clear c8
       by_cases c9 : 0 ≤ x25_2
       ·rw [if_pos c9] at H
        have c9b0 : decide (0 ≤ x25_2) = true := decide_eq_true c9
        clear c9
        by_cases c10 : x25_2 < (l1.length : Int)
        ·rw [if_pos c10] at H
         have c10b0 : decide (x25_2 < (l1.length : Int)) = true := decide_eq_true c10
         clear c10
         replace H := Option.bind_eq_some_iff.mp H
         obtain ⟨t542, A110, H⟩ := H
         replace H : (if t542 = true then ((cadence_named.f ((rd_T43 l1 x25_2).f1)).bind fun t543 => (if t543 = true then (cadence_Restore.l0 k2 l0 l1 (mx (mx x6_2 ((rd_T43 l1 x25_2).f0)) ((rd_T43 l1 x25_2).f1)) l1 (l1.length : Int) (wrap64 (x25_2 + 1))) else (some (([] : List (S52)), 1)))) else (some (([] : List (S52)), 1))) = some (r1, r2) := H
         have A11 := Aside0.mk A110
         clear A110
         by_cases c12 : t542 = true
         ·subst c12
          have H1 : ((cadence_named.f ((rd_T43 l1 x25_2).f1)).bind fun t543 => (if t543 = true then (cadence_Restore.l0 k2 l0 l1 (mx (mx x6_2 ((rd_T43 l1 x25_2).f0)) ((rd_T43 l1 x25_2).f1)) l1 (l1.length : Int) (wrap64 (x25_2 + 1))) else (some (([] : List (S52)), 1)))) = some (r1, r2) := by rw [if_pos rfl] at H; exact H
          clear H
          have H := H1
          clear H1
          replace H := Option.bind_eq_some_iff.mp H
          obtain ⟨t543, A130, H⟩ := H
          replace H : (if t543 = true then (cadence_Restore.l0 k2 l0 l1 (mx (mx x6_2 ((rd_T43 l1 x25_2).f0)) ((rd_T43 l1 x25_2).f1)) l1 (l1.length : Int) (wrap64 (x25_2 + 1))) else (some (([] : List (S52)), 1))) = some (r1, r2) := H
          have A13 := Aside0.mk A130
          clear A130
          by_cases c14 : t543 = true
          ·subst c14
           have H1 : (cadence_Restore.l0 k2 l0 l1 (mx (mx x6_2 ((rd_T43 l1 x25_2).f0)) ((rd_T43 l1 x25_2).f1)) l1 (l1.length : Int) (wrap64 (x25_2 + 1))) = some (r1, r2) := by rw [if_pos rfl] at H; exact H
           clear H
           have H := H1
           clear H1
           obtain ⟨ji15, hji15⟩ : ∃ j_ : Int, (mx x6_2 ((rd_T43 l1 x25_2).f0)) = j_ := ⟨_, rfl⟩
           replace H : (cadence_Restore.l0 k2 l0 l1 (mx (ji15) ((rd_T43 l1 x25_2).f1)) l1 (l1.length : Int) (wrap64 (x25_2 + 1))) = some (r1, r2) := by first | (rw [hji15] at H; exact H) | (simp only [hji15] at H ⊢; exact H)
           (try rw [hji15] at A11)
           (try rw [hji15] at A13)
           have hji15_ : (if x6_2 < ((rd_T43 l1 x25_2).f0) then ((rd_T43 l1 x25_2).f0) else x6_2) = ji15 := hji15
           obtain ⟨ji16, hji16⟩ : ∃ j_ : Int, (mx (ji15) ((rd_T43 l1 x25_2).f1)) = j_ := ⟨_, rfl⟩
           replace H : (cadence_Restore.l0 k2 l0 l1 ji16 l1 (l1.length : Int) (wrap64 (x25_2 + 1))) = some (r1, r2) := by first | (rw [hji16] at H; exact H) | (simp only [hji16] at H ⊢; exact H)
           (try rw [hji16] at A11)
           (try rw [hji16] at A13)
           have hji16_ : (if (ji15) < ((rd_T43 l1 x25_2).f1) then ((rd_T43 l1 x25_2).f1) else (ji15)) = ji16 := hji16
           have H' := Aside0.mk H
           clear H
           have p540 : 0 ≤ (x25_2 : Int) := of_decide_eq_true (by first | (with_reducible assumption) | assumption)
           have q540 : x25_2 < (l1.length : Int) := of_decide_eq_true (by first | (with_reducible assumption) | assumption)
           obtain ⟨ad540, e540, hx540_0, hx540_1⟩ := at_T43 HR1.out x25_2 p540 q540
           cases e540
           replace hx540_0 := (HB.out.cell (World.block_lt_of_cell? w _ hx540_0)).trans hx540_0
           replace hx540_1 := (HB.out.cell (World.block_lt_of_cell? w _ hx540_1)).trans hx540_1
           replace p540 := eq_true p540
           replace q540 := eq_true q540
           go_wp2_with (first | ((with_reducible refine xD (N := 8) rfl ?_); refine box_event ?hg (N := 8) ?hd (cs := #[.int .i64 0, .int .i64 0]) (t := 43) ?hr ?_; (case hd => rfl); (case hg => rfl); (case hr => first | (go_simp; done) | (go_simp; rfl)); intro gb541 hg w17 hbox hb; have n0_ := Aside0.mk (zT (by repeat (first | (with_reducible first | exact HB.out | apply zA | apply zN | apply zD) | exact HB.out)) hb); have n1_ := Aside0.mk (hbox); have n2_ := Aside0.mk ((by rw [hg]; exact (zS (by repeat (first | (with_reducible first | exact HB.out | apply zA | apply zN | apply zD) | exact HB.out))) : w.heap.size ≤ gb541)); have n3_ := n2_; clear HB; have HB := n0_; have BK541 := n1_; have GW541 := n2_; have GE541 := n3_; clear n0_ n1_ n2_ n3_; clear hb hbox hg; have hcz18_0 : w17.cell? ⟨gb541, 0, none⟩ = some (.int .i64 0) := (blk_cell BK541.out 0).trans rfl; have hcz18_1 : w17.cell? ⟨gb541, 1, none⟩ = some (.int .i64 0) := (blk_cell BK541.out 1).trans rfl; have hfz18_0 := blk_frozen BK541.out 0; have hfz18_1 := blk_frozen BK541.out 1) | ((with_reducible refine xC (f := 63) rfl ?_); refine goesL_ (some 31) rfl rfl Try.func63 (by kernel_rfl) rfl #[.int .i64 ((rd_T43 l1 x25_2).f0)] rfl (by (try simp only [List.map_toArray, List.map_cons, List.map_nil]); first | done | rfl | (simp only [List.length_drop, List.length_take]; rfl)) ?_; (with_reducible refine (cadence_named.calls ((rd_T43 l1 x25_2).f0) true _ A11.out).mono ?_); rintro e w' ⟨rfl, ⟨nd, rfl⟩⟩; refine ⟨_, rfl, ?_⟩) | (go_at_call 63; (with_reducible refine (cadence_named.calls ((rd_T43 l1 x25_2).f1) true _ A13.out).mono ?_); rintro e w' ⟨rfl, ⟨nd, rfl⟩⟩))
           go_roundg k2
           case measure => have := HJ2.out; have := HK2.out; omega
           case rel => exact ⟨(ji16), (wrap64 (x25_2 + 1)), (by first | rfl | (simp; done) | (simp only [← hji16] <;> (first | rfl | simp)) | (simp [*]; done)), (by first | rfl | (simp; done) | (simp [*]; done)), H', ⟨by have := HJ2.out; have := HK2.out; omega⟩, ⟨by repeat (first | (with_reducible first | exact HB.out | apply zA | apply zN | apply zD | refine zP ?_ GE541.out) | exact HB.out)⟩⟩
          ·replace c14 := Bool.eq_false_iff.mpr c14
           subst c14
           have H1 : (some (([] : List (S52)), 1)) = some (r1, r2) := by rw [if_neg (show ¬ (false = true) by decide)] at H; exact H
           clear H
           have H := H1
           clear H1
           simp only [Option.some.injEq, Prod.mk.injEq] at H
           obtain ⟨rfl, rfl⟩ := H
           have p540 : 0 ≤ (x25_2 : Int) := of_decide_eq_true (by first | (with_reducible assumption) | assumption)
           have q540 : x25_2 < (l1.length : Int) := of_decide_eq_true (by first | (with_reducible assumption) | assumption)
           obtain ⟨ad540, e540, hx540_0, hx540_1⟩ := at_T43 HR1.out x25_2 p540 q540
           cases e540
           replace hx540_0 := (HB.out.cell (World.block_lt_of_cell? w _ hx540_0)).trans hx540_0
           replace hx540_1 := (HB.out.cell (World.block_lt_of_cell? w _ hx540_1)).trans hx540_1
           replace p540 := eq_true p540
           replace q540 := eq_true q540
           go_wp2_with (first | ((with_reducible refine xD (N := 8) rfl ?_); refine box_event ?hg (N := 8) ?hd (cs := #[.int .i64 0, .int .i64 0]) (t := 43) ?hr ?_; (case hd => rfl); (case hg => rfl); (case hr => first | (go_simp; done) | (go_simp; rfl)); intro gb541 hg w19 hbox hb; have n0_ := Aside0.mk (zT (by repeat (first | (with_reducible first | exact HB.out | apply zA | apply zN | apply zD) | exact HB.out)) hb); have n1_ := Aside0.mk (hbox); have n2_ := Aside0.mk ((by rw [hg]; exact (zS (by repeat (first | (with_reducible first | exact HB.out | apply zA | apply zN | apply zD) | exact HB.out))) : w.heap.size ≤ gb541)); have n3_ := n2_; clear HB; have HB := n0_; have BK541 := n1_; have GW541 := n2_; have GE541 := n3_; clear n0_ n1_ n2_ n3_; clear hb hbox hg; have hcz20_0 : w19.cell? ⟨gb541, 0, none⟩ = some (.int .i64 0) := (blk_cell BK541.out 0).trans rfl; have hcz20_1 : w19.cell? ⟨gb541, 1, none⟩ = some (.int .i64 0) := (blk_cell BK541.out 1).trans rfl; have hfz20_0 := blk_frozen BK541.out 0; have hfz20_1 := blk_frozen BK541.out 1) | ((with_reducible refine xC (f := 63) rfl ?_); refine goesL_ (some 31) rfl rfl Try.func63 (by kernel_rfl) rfl #[.int .i64 ((rd_T43 l1 x25_2).f0)] rfl (by (try simp only [List.map_toArray, List.map_cons, List.map_nil]); first | done | rfl | (simp only [List.length_drop, List.length_take]; rfl)) ?_; (with_reducible refine (cadence_named.calls ((rd_T43 l1 x25_2).f0) true _ A11.out).mono ?_); rintro e w' ⟨rfl, ⟨nd, rfl⟩⟩; refine ⟨_, rfl, ?_⟩) | (go_at_call 63; (with_reducible refine (cadence_named.calls ((rd_T43 l1 x25_2).f1) false _ A13.out).mono ?_); rintro e w' ⟨rfl, ⟨nd, rfl⟩⟩))
           go_ret2
           exact ⟨_, by first | rfl | (simp [errW_none, errW_some] <;> rfl) | (simp [*, errW_none, errW_some] <;> rfl), by first | exact Kd.S_nil _ _ _ _ _ | exact Kd.N_nil _ _ _ _ _ | exact Kd.V_nil _ _ _ _ _ | exact Kd.Q_nil _ _ _ _ _ | exact Kd.R_nil _ _ _ _ _, by repeat (first | (with_reducible first | exact HB.out | apply zA | apply zN | apply zD | refine zP ?_ GE541.out) | exact HB.out)⟩
         ·replace c12 := Bool.eq_false_iff.mpr c12
          subst c12
          have H1 : (some (([] : List (S52)), 1)) = some (r1, r2) := by rw [if_neg (show ¬ (false = true) by decide)] at H; exact H
          clear H
          have H := H1
          clear H1
          simp only [Option.some.injEq, Prod.mk.injEq] at H
          obtain ⟨rfl, rfl⟩ := H
          have p540 : 0 ≤ (x25_2 : Int) := of_decide_eq_true (by first | (with_reducible assumption) | assumption)
          have q540 : x25_2 < (l1.length : Int) := of_decide_eq_true (by first | (with_reducible assumption) | assumption)
          obtain ⟨ad540, e540, hx540_0, hx540_1⟩ := at_T43 HR1.out x25_2 p540 q540
          cases e540
          replace hx540_0 := (HB.out.cell (World.block_lt_of_cell? w _ hx540_0)).trans hx540_0
          replace hx540_1 := (HB.out.cell (World.block_lt_of_cell? w _ hx540_1)).trans hx540_1
          replace p540 := eq_true p540
          replace q540 := eq_true q540
          go_wp2_with (first | ((with_reducible refine xD (N := 8) rfl ?_); refine box_event ?hg (N := 8) ?hd (cs := #[.int .i64 0, .int .i64 0]) (t := 43) ?hr ?_; (case hd => rfl); (case hg => rfl); (case hr => first | (go_simp; done) | (go_simp; rfl)); intro gb541 hg w21 hbox hb; have n0_ := Aside0.mk (zT (by repeat (first | (with_reducible first | exact HB.out | apply zA | apply zN | apply zD) | exact HB.out)) hb); have n1_ := Aside0.mk (hbox); have n2_ := Aside0.mk ((by rw [hg]; exact (zS (by repeat (first | (with_reducible first | exact HB.out | apply zA | apply zN | apply zD) | exact HB.out))) : w.heap.size ≤ gb541)); have n3_ := n2_; clear HB; have HB := n0_; have BK541 := n1_; have GW541 := n2_; have GE541 := n3_; clear n0_ n1_ n2_ n3_; clear hb hbox hg; have hcz22_0 : w21.cell? ⟨gb541, 0, none⟩ = some (.int .i64 0) := (blk_cell BK541.out 0).trans rfl; have hcz22_1 : w21.cell? ⟨gb541, 1, none⟩ = some (.int .i64 0) := (blk_cell BK541.out 1).trans rfl; have hfz22_0 := blk_frozen BK541.out 0; have hfz22_1 := blk_frozen BK541.out 1) | ((with_reducible refine xC (f := 63) rfl ?_); refine goesL_ (some 31) rfl rfl Try.func63 (by kernel_rfl) rfl #[.int .i64 ((rd_T43 l1 x25_2).f0)] rfl (by (try simp only [List.map_toArray, List.map_cons, List.map_nil]); first | done | rfl | (simp only [List.length_drop, List.length_take]; rfl)) ?_; (with_reducible refine (cadence_named.calls ((rd_T43 l1 x25_2).f0) false _ A11.out).mono ?_); rintro e w' ⟨rfl, ⟨nd, rfl⟩⟩; refine ⟨_, rfl, ?_⟩))
          go_ret2
          exact ⟨_, by first | rfl | (simp [errW_none, errW_some] <;> rfl) | (simp [*, errW_none, errW_some] <;> rfl), by first | exact Kd.S_nil _ _ _ _ _ | exact Kd.N_nil _ _ _ _ _ | exact Kd.V_nil _ _ _ _ _ | exact Kd.Q_nil _ _ _ _ _ | exact Kd.R_nil _ _ _ _ _, by repeat (first | (with_reducible first | exact HB.out | apply zA | apply zN | apply zD | refine zP ?_ GE541.out) | exact HB.out)⟩
        ·rw [if_neg c10] at H
         exact absurd H (by simp)
       ·rw [if_neg c9] at H
        exact absurd H (by simp)
      ·rw [if_neg c8] at H
       have c8b0 : decide (x25_2 < (l1.length : Int)) = false := decide_eq_false c8
       clear c8
       by_cases c23 : (l1.length : Int) > 256
       ·rw [if_pos c23] at H
        have c23b0 : decide (256 < (l1.length : Int)) = true := decide_eq_true c23
        have c23b1 : decide (256 < l1.length) = true := decide_eq_true (by omega)
        clear c23
        simp only [Option.some.injEq, Prod.mk.injEq] at H
        obtain ⟨rfl, rfl⟩ := H
        go_wp2
        go_ret2
        exact ⟨_, by first | rfl | (simp [errW_none, errW_some] <;> rfl) | (simp [*, errW_none, errW_some] <;> rfl), by first | exact Kd.S_nil _ _ _ _ _ | exact Kd.N_nil _ _ _ _ _ | exact Kd.V_nil _ _ _ _ _ | exact Kd.Q_nil _ _ _ _ _ | exact Kd.R_nil _ _ _ _ _, by repeat (first | (with_reducible first | exact HB.out | apply zA | apply zN | apply zD) | exact HB.out)⟩
       ·rw [if_neg c23] at H
        have c23b0 : decide (256 < (l1.length : Int)) = false := decide_eq_false c23
        have c23b1 : decide (256 < l1.length) = false := decide_eq_false (by omega)
        clear c23
        have H' := Aside0.mk H
        clear H
        go_wp2
        go_loopg [9, 51] k2 (fun kq v9 v51 w' => ∃ (x9_3 : List (S52)) (x51_3 : Int), v51 = .int .i64 x51_3 ∧ Aside0 (cadence_Restore.l1 kq l0 l1 x9_3 (wrap64 (x6_2 + 1)) x51_3 = some (r1, r2)) ∧ Aside0 (kq ≤ k2) ∧ Aside0 (Kd.S k52 52 w' w.heap.size (fun _ => True) v9 x9_3) ∧ Aside0 (Below w.heap.size w w'))
        case atStart => exact ⟨(([] : List (S52))), (0), (by first | rfl | (simp; done) | (simp [*]; done)), H', ⟨Nat.le_refl _⟩, ⟨by first | exact Kd.S_nil _ _ _ _ _ | exact Kd.N_nil _ _ _ _ _ | exact Kd.V_nil _ _ _ _ _ | exact Kd.Q_nil _ _ _ _ _ | exact Kd.R_nil _ _ _ _ _⟩, ⟨by repeat (first | (with_reducible first | exact HB.out | apply zA | apply zN | apply zD) | exact HB.out)⟩⟩
        case round =>
         clear H'
         (try clear c1);(try clear c2);(try clear p2);(try clear c4);(try clear c4b0);(try clear c4b1);(try clear c4b2);(try clear p5);(try clear q5);(try clear hx5);(try clear c6);(try clear p6);(try clear c7);(try clear c8);(try clear c8b0);(try clear c9);(try clear c9b0);(try clear c10);(try clear c10b0);(try clear c12);(try clear c14);(try clear c23);(try clear c23b0);(try clear c23b1);(try clear hcz18_0);(try clear hcz18_1);(try clear hcz20_0);(try clear hcz20_1);(try clear hcz22_0);(try clear hcz22_1);(try clear hfz18_0);(try clear hfz18_1);(try clear hfz20_0);(try clear hfz20_1);(try clear hfz22_0);(try clear hfz22_1);(try clear hx540_0);(try clear hx540_1);(try clear p2);(try clear p540);(try clear q540)
         obtain ⟨x9_3, x51_3, rfl, HA, HK3, HO_9, HB⟩ := hrel
         cases gk with
         | zero => exact absurd HA.out (by simp [cadence_Restore.l1])
         | succ k3 =>
          have H := HA.out
          clear HA
          simp only [cadence_Restore.l1] at H
          by_cases c24 : x51_3 < (wrap64 (x6_2 + 1))
          ·rw [if_pos c24] at H
           have c24b0 : decide (x51_3 < (wrap64 (x6_2 + 1))) = true := decide_eq_true c24
           clear c24
           replace H := Option.bind_eq_some_iff.mp H
           obtain ⟨⟨t544, t545⟩, A250, H⟩ := H
           replace H : (if t544 < 0 then (some (([] : List (S52)), 6)) else (if t545 < 0 then (some (([] : List (S52)), 6)) else (if 0 ≤ t544 then (if t544 < (l0.length : Int) then (if 0 ≤ t545 then (if t545 < (l0.length : Int) then ((cadence_woven.f ((rd_T52 l0 t544).f0) ((rd_T52 l0 t544).f1) ((rd_T52 l0 t544).f2) ((rd_T52 l0 t544).f3) ((rd_T52 l0 t544).f4) ((rd_T52 l0 t545).f0) ((rd_T52 l0 t545).f1) ((rd_T52 l0 t545).f2) ((rd_T52 l0 t545).f3) ((rd_T52 l0 t545).f4)).bind fun bt548 => (if x9_3.length < 1599289640401 then (cadence_Restore.l1 k3 l0 l1 (x9_3 ++ [(⟨bt548.1, bt548.2.1, bt548.2.2.1, bt548.2.2.2.1, bt548.2.2.2.2⟩ : S52)]) (wrap64 (x6_2 + 1)) (wrap64 (x51_3 + 1))) else (none))) else (none)) else (none)) else (none)) else (none)))) = some (r1, r2) := H
           have A25 := Aside0.mk A250
           clear A250
           by_cases c26 : t544 < 0
           ·rw [if_pos c26] at H
            have c26b0 : decide (t544 < 0) = true := decide_eq_true c26
            clear c26
            simp only [Option.some.injEq, Prod.mk.injEq] at H
            obtain ⟨rfl, rfl⟩ := H
            go_wp2_with (first | ((with_reducible refine xC (f := 64) rfl ?_); refine goesL_ (some 57) rfl rfl Try.func64 (by kernel_rfl) rfl #[.slice A1 l1.length c1, .int .i64 x51_3] rfl (by (try simp only [List.map_toArray, List.map_cons, List.map_nil]); first | done | rfl | (simp only [List.length_drop, List.length_take]; rfl)) ?_; (with_reducible refine (cadence_find.calls k3 _ _ l1 x51_3 t544 t545 _ ?side1 ?side2 A25.out).mono ?_); (case side1 => repeat (first | exact (Kd.C_below HR1.out HB.out) | (with_reducible refine Kd.C_alloc ?_ _) | (with_reducible refine Kd.C_drewN ?_ _) | (with_reducible refine Kd.C_drew ?_))); (case side2 => exact HC1.out); rintro e w27 ⟨rfl, hb⟩; refine ⟨_, rfl, ?_⟩; have n0_ := Aside0.mk (Kd.S_below (by (with_reducible repeat (first | apply Kd.S_alloc | apply Kd.S_drewN | apply Kd.S_drew)); exact HO_9.out) hb); have n1_ := Aside0.mk (zT (by repeat (first | (with_reducible first | exact HB.out | apply zA | apply zN | apply zD) | exact HB.out)) hb); clear HO_9; clear HB; have HO_9 := n0_; have HB := n1_; clear n0_ n1_; (try clear hb); (try clear hb2); (try clear hk); (try clear hi)))
            go_ret2
            exact ⟨_, by first | rfl | (simp [errW_none, errW_some] <;> rfl) | (simp [*, errW_none, errW_some] <;> rfl), by first | exact Kd.S_nil _ _ _ _ _ | exact Kd.N_nil _ _ _ _ _ | exact Kd.V_nil _ _ _ _ _ | exact Kd.Q_nil _ _ _ _ _ | exact Kd.R_nil _ _ _ _ _, by repeat (first | (with_reducible first | exact HB.out | apply zA | apply zN | apply zD) | exact HB.out)⟩
           ·rw [if_neg c26] at H
            have c26b0 : decide (t544 < 0) = false := decide_eq_false c26
            clear c26
            by_cases c28 : t545 < 0
            ·rw [if_pos c28] at H
             have c28b0 : decide (t545 < 0) = true := decide_eq_true c28
             clear c28
             simp only [Option.some.injEq, Prod.mk.injEq] at H
             obtain ⟨rfl, rfl⟩ := H
             go_wp2_with (first | ((with_reducible refine xC (f := 64) rfl ?_); refine goesL_ (some 57) rfl rfl Try.func64 (by kernel_rfl) rfl #[.slice A1 l1.length c1, .int .i64 x51_3] rfl (by (try simp only [List.map_toArray, List.map_cons, List.map_nil]); first | done | rfl | (simp only [List.length_drop, List.length_take]; rfl)) ?_; (with_reducible refine (cadence_find.calls k3 _ _ l1 x51_3 t544 t545 _ ?side1 ?side2 A25.out).mono ?_); (case side1 => repeat (first | exact (Kd.C_below HR1.out HB.out) | (with_reducible refine Kd.C_alloc ?_ _) | (with_reducible refine Kd.C_drewN ?_ _) | (with_reducible refine Kd.C_drew ?_))); (case side2 => exact HC1.out); rintro e w29 ⟨rfl, hb⟩; refine ⟨_, rfl, ?_⟩; have n0_ := Aside0.mk (Kd.S_below (by (with_reducible repeat (first | apply Kd.S_alloc | apply Kd.S_drewN | apply Kd.S_drew)); exact HO_9.out) hb); have n1_ := Aside0.mk (zT (by repeat (first | (with_reducible first | exact HB.out | apply zA | apply zN | apply zD) | exact HB.out)) hb); clear HO_9; clear HB; have HO_9 := n0_; have HB := n1_; clear n0_ n1_; (try clear hb); (try clear hb2); (try clear hk); (try clear hi)))
             go_ret2
             exact ⟨_, by first | rfl | (simp [errW_none, errW_some] <;> rfl) | (simp [*, errW_none, errW_some] <;> rfl), by first | exact Kd.S_nil _ _ _ _ _ | exact Kd.N_nil _ _ _ _ _ | exact Kd.V_nil _ _ _ _ _ | exact Kd.Q_nil _ _ _ _ _ | exact Kd.R_nil _ _ _ _ _, by repeat (first | (with_reducible first | exact HB.out | apply zA | apply zN | apply zD) | exact HB.out)⟩
            ·rw [if_neg c28] at H
             have c28b0 : decide (t545 < 0) = false := decide_eq_false c28
             clear c28
             by_cases c30 : 0 ≤ t544
             ·rw [if_pos c30] at H
              have c30b0 : decide (0 ≤ t544) = true := decide_eq_true c30
              clear c30
              by_cases c31 : t544 < (l0.length : Int)
              ·rw [if_pos c31] at H
               have c31b0 : decide (t544 < (l0.length : Int)) = true := decide_eq_true c31
               clear c31
               by_cases c32 : 0 ≤ t545
               ·rw [if_pos c32] at H
                have c32b0 : decide (0 ≤ t545) = true := decide_eq_true c32
                clear c32
                by_cases c33 : t545 < (l0.length : Int)
                ·rw [if_pos c33] at H
                 have c33b0 : decide (t545 < (l0.length : Int)) = true := decide_eq_true c33
                 clear c33
                 replace H := Option.bind_eq_some_iff.mp H
                 obtain ⟨⟨t548, t549, t550, t553, t556⟩, A340, H⟩ := H
                 replace H : (if x9_3.length < 1599289640401 then (cadence_Restore.l1 k3 l0 l1 (x9_3 ++ [(⟨t548, t549, t550, t553, t556⟩ : S52)]) (wrap64 (x6_2 + 1)) (wrap64 (x51_3 + 1))) else (none)) = some (r1, r2) := H
                 have A34 := Aside0.mk A340
                 clear A340
                 by_cases c35 : x9_3.length < 1599289640401
                 ·rw [if_pos c35] at H
                  have LMc35 := Aside0.mk c35
                  clear c35
                  obtain ⟨y559, hy559⟩ : ∃ y_ : List (S52), y_ = (x9_3 ++ [(⟨t548, t549, t550, t553, t556⟩ : S52)]) := ⟨_, rfl⟩
                  replace H : (cadence_Restore.l1 k3 l0 l1 y559 (wrap64 (x6_2 + 1)) (wrap64 (x51_3 + 1))) = some (r1, r2) := by first | (rw [hy559]; with_reducible exact H) | (have H2_ := (Option.bind_some _ _).symm.trans H; rw [hy559]; with_reducible exact H2_) | (have H2_ := (Option.bind_some _ _).symm.trans H; with_reducible exact H2_) | with_reducible exact H | (rw [hy559]; exact H) | exact H
                  have Ny559 := Aside0.mk hy559
                  clear hy559
                  have H' := Aside0.mk H
                  clear H
                  try go_wp2_with (first | ((with_reducible refine xC (f := 64) rfl ?_); refine goesL_ (some 57) rfl rfl Try.func64 (by kernel_rfl) rfl #[.slice A1 l1.length c1, .int .i64 x51_3] rfl (by (try simp only [List.map_toArray, List.map_cons, List.map_nil]); first | done | rfl | (simp only [List.length_drop, List.length_take]; rfl)) ?_; (with_reducible refine (cadence_find.calls k3 _ _ l1 x51_3 t544 t545 _ ?side1 ?side2 A25.out).mono ?_); (case side1 => repeat (first | exact (Kd.C_below HR1.out HB.out) | (with_reducible refine Kd.C_alloc ?_ _) | (with_reducible refine Kd.C_drewN ?_ _) | (with_reducible refine Kd.C_drew ?_))); (case side2 => exact HC1.out); rintro e w36 ⟨rfl, hb⟩; refine ⟨_, rfl, ?_⟩; have n0_ := Aside0.mk (Kd.S_below (by (with_reducible repeat (first | apply Kd.S_alloc | apply Kd.S_drewN | apply Kd.S_drew)); exact HO_9.out) hb); have n1_ := Aside0.mk (zT (by repeat (first | (with_reducible first | exact HB.out | apply zA | apply zN | apply zD) | exact HB.out)) hb); clear HO_9; clear HB; have HO_9 := n0_; have HB := n1_; clear n0_ n1_; (try clear hb); (try clear hb2); (try clear hk); (try clear hi)))
                  have n0_ := Aside0.mk (Kd.S_drew HO_9.out)
                  have n1_ := Aside0.mk (zD HB.out)
                  clear HO_9
                  clear HB
                  have HO_9 := n0_
                  have HB := n1_
                  clear n0_ n1_
                  have p546 : 0 ≤ (t544 : Int) := of_decide_eq_true (by first | (with_reducible assumption) | assumption)
                  have q546 : t544 < (l0.length : Int) := of_decide_eq_true (by first | (with_reducible assumption) | assumption)
                  obtain ⟨ad546, A546_2, c546_2, A546_3, c546_3, A546_4, c546_4, e546, hx546_0, hx546_1, hx546_2, hx546_3, hx546_4, hl546_2, hi546_2, hl546_3, hi546_3, hl546_4, hi546_4⟩ := at_T52 HR0.out t544 p546 q546
                  have hw546_4 := hx546_4
                  have hw546_3 := hx546_3
                  have hw546_2 := hx546_2
                  have hw546_1 := hx546_1
                  have hw546_0 := hx546_0
                  cases e546
                  replace hx546_0 := (HB.out.cell (World.block_lt_of_cell? w _ hx546_0)).trans hx546_0
                  replace hx546_1 := (HB.out.cell (World.block_lt_of_cell? w _ hx546_1)).trans hx546_1
                  replace hx546_2 := (HB.out.cell (World.block_lt_of_cell? w _ hx546_2)).trans hx546_2
                  replace hx546_3 := (HB.out.cell (World.block_lt_of_cell? w _ hx546_3)).trans hx546_3
                  replace hx546_4 := (HB.out.cell (World.block_lt_of_cell? w _ hx546_4)).trans hx546_4
                  have HR546_2 := Aside0.mk hi546_2
                  have HC546_2 := Aside0.mk hl546_2
                  clear hi546_2 hl546_2
                  have HR546_3 := Aside0.mk hi546_3
                  have HC546_3 := Aside0.mk hl546_3
                  clear hi546_3 hl546_3
                  have HR546_4 := Aside0.mk hi546_4
                  have HC546_4 := Aside0.mk hl546_4
                  clear hi546_4 hl546_4
                  replace p546 := eq_true p546
                  replace q546 := eq_true q546
                  have p547 : 0 ≤ (t545 : Int) := of_decide_eq_true (by first | (with_reducible assumption) | assumption)
                  have q547 : t545 < (l0.length : Int) := of_decide_eq_true (by first | (with_reducible assumption) | assumption)
                  obtain ⟨ad547, A547_2, c547_2, A547_3, c547_3, A547_4, c547_4, e547, hx547_0, hx547_1, hx547_2, hx547_3, hx547_4, hl547_2, hi547_2, hl547_3, hi547_3, hl547_4, hi547_4⟩ := at_T52 HR0.out t545 p547 q547
                  have hw547_4 := hx547_4
                  have hw547_3 := hx547_3
                  have hw547_2 := hx547_2
                  have hw547_1 := hx547_1
                  have hw547_0 := hx547_0
                  obtain rfl : ad546 = ad547 := (by injection e547)
                  replace hx547_0 := (HB.out.cell (World.block_lt_of_cell? w _ hx547_0)).trans hx547_0
                  replace hx547_1 := (HB.out.cell (World.block_lt_of_cell? w _ hx547_1)).trans hx547_1
                  replace hx547_2 := (HB.out.cell (World.block_lt_of_cell? w _ hx547_2)).trans hx547_2
                  replace hx547_3 := (HB.out.cell (World.block_lt_of_cell? w _ hx547_3)).trans hx547_3
                  replace hx547_4 := (HB.out.cell (World.block_lt_of_cell? w _ hx547_4)).trans hx547_4
                  have HR547_2 := Aside0.mk hi547_2
                  have HC547_2 := Aside0.mk hl547_2
                  clear hi547_2 hl547_2
                  have HR547_3 := Aside0.mk hi547_3
                  have HC547_3 := Aside0.mk hl547_3
                  clear hi547_3 hl547_3
                  have HR547_4 := Aside0.mk hi547_4
                  have HC547_4 := Aside0.mk hl547_4
                  clear hi547_4 hl547_4
                  replace p547 := eq_true p547
                  replace q547 := eq_true q547
                  refine start_ (n := 13) (S := fun w' => w'.cell? (ad546.add ((t544).toNat * 5)) = some (.int .i64 ((rd_T52 l0 t544).f0)) ∧ w'.cell? ⟨(ad546.add ((t544).toNat * 5)).block, (ad546.add ((t544).toNat * 5)).off + 1, none⟩ = some (.int .i64 ((rd_T52 l0 t544).f1)) ∧ w'.cell? ⟨(ad546.add ((t544).toNat * 5)).block, (ad546.add ((t544).toNat * 5)).off + 2, none⟩ = some (.slice A546_2 ((rd_T52 l0 t544).f2).length c546_2) ∧ w'.cell? ⟨(ad546.add ((t544).toNat * 5)).block, (ad546.add ((t544).toNat * 5)).off + 3, none⟩ = some (.slice A546_3 ((rd_T52 l0 t544).f3).length c546_3) ∧ w'.cell? ⟨(ad546.add ((t544).toNat * 5)).block, (ad546.add ((t544).toNat * 5)).off + 4, none⟩ = some (.slice A546_4 ((rd_T52 l0 t544).f4).length c546_4) ∧ w'.cell? (ad546.add ((t545).toNat * 5)) = some (.int .i64 ((rd_T52 l0 t545).f0)) ∧ w'.cell? ⟨(ad546.add ((t545).toNat * 5)).block, (ad546.add ((t545).toNat * 5)).off + 1, none⟩ = some (.int .i64 ((rd_T52 l0 t545).f1)) ∧ w'.cell? ⟨(ad546.add ((t545).toNat * 5)).block, (ad546.add ((t545).toNat * 5)).off + 2, none⟩ = some (.slice A547_2 ((rd_T52 l0 t545).f2).length c547_2) ∧ w'.cell? ⟨(ad546.add ((t545).toNat * 5)).block, (ad546.add ((t545).toNat * 5)).off + 3, none⟩ = some (.slice A547_3 ((rd_T52 l0 t545).f3).length c547_3) ∧ w'.cell? ⟨(ad546.add ((t545).toNat * 5)).block, (ad546.add ((t545).toNat * 5)).off + 4, none⟩ = some (.slice A547_4 ((rd_T52 l0 t545).f4).length c547_4)) (ds := []) #[false, false, false, false, false, false, false, false, false, false, false, false, false] (by kernel_rfl) rfl rfl ⟨((HB.out.cell (World.block_lt_of_cell? w _ hw546_0)).trans hw546_0), ((HB.out.cell (World.block_lt_of_cell? w _ hw546_1)).trans hw546_1), ((HB.out.cell (World.block_lt_of_cell? w _ hw546_2)).trans hw546_2), ((HB.out.cell (World.block_lt_of_cell? w _ hw546_3)).trans hw546_3), ((HB.out.cell (World.block_lt_of_cell? w _ hw546_4)).trans hw546_4), ((HB.out.cell (World.block_lt_of_cell? w _ hw547_0)).trans hw547_0), ((HB.out.cell (World.block_lt_of_cell? w _ hw547_1)).trans hw547_1), ((HB.out.cell (World.block_lt_of_cell? w _ hw547_2)).trans hw547_2), ((HB.out.cell (World.block_lt_of_cell? w _ hw547_3)).trans hw547_3), ((HB.out.cell (World.block_lt_of_cell? w _ hw547_4)).trans hw547_4)⟩ (fun hHeld => ?_); refine with_tabW cadence_Restore.tab20 cadence_Restore.bits20 (fun HT_ HW_ => ?_)
                  generalize w36.drew = w37 at HO_9 HB HR546_2 HR546_3 HR546_4 HR547_2 HR547_3 HR547_4 hx546_0 hx546_1 hx546_2 hx546_3 hx546_4 hx547_0 hx547_1 hx547_2 hx547_3 hx547_4 hHeld ⊢
                  refine pure_ (i := 0) (N := some 66) (v := ?_) (a' := ?_) #[T', F', F', F', F', F', F', F', F', F', F', F', F'] rfl rfl (any_of HT_.out (by kernel_rfl)) (fun _ _ _ h => h) (Or.inl ⟨by rfl, ?_⟩) ?_ ?_;rotate_left;(intro w';go_simp;with_reducible rfl);rotate_left;(simp only [Act.put, sA, sZ, sS, i64_w, i32_w];rfl)
                  refine pure_ (i := 1) (N := some 67) (v := ?_) (a' := ?_) #[T', T', F', F', F', F', F', F', F', F', F', F', F'] rfl rfl (any_of HT_.out (by kernel_rfl)) (fun _ _ _ h => h) (Or.inl ⟨by rfl, ?_⟩) ?_ ?_;rotate_left;(intro w';go_simp;with_reducible rfl);rotate_left;(simp only [Act.put, sA, sZ, sS, i64_w, i32_w];rfl)
                  refine pure_ (i := 2) (N := some 68) (v := ?_) (a' := ?_) #[T', T', T', F', F', F', F', F', F', F', F', F', F'] rfl rfl (any_of HT_.out (by kernel_rfl)) (fun _ _ _ h => h) (Or.inl ⟨by rfl, ?_⟩) ?_ ?_;rotate_left;(intro w';go_simp;with_reducible rfl);rotate_left;(simp only [Act.put, sA, sZ, sS, i64_w, i32_w];rfl)
                  refine pure_ (i := 3) (N := some 69) (v := ?_) (a' := ?_) #[T', T', T', T', F', F', F', F', F', F', F', F', F'] rfl rfl (any_of HT_.out (by kernel_rfl)) (fun _ _ _ h => h) (Or.inl ⟨by rfl, ?_⟩) ?_ ?_;rotate_left;(intro w';go_simp;with_reducible rfl);rotate_left;(simp only [Act.put, sA, sZ, sS, i64_w, i32_w];rfl)
                  refine pure_ (i := 5) (N := some 71) (v := ?_) (a' := ?_) #[T', T', T', T', F', T', F', F', F', F', F', F', F'] rfl rfl (any_of HT_.out (by kernel_rfl)) (fun _ _ _ h => h) (Or.inl ⟨by rfl, ?_⟩) ?_ ?_;rotate_left;(intro w';go_simp;with_reducible rfl);rotate_left;(simp only [Act.put, sA, sZ, sS, i64_w, i32_w];rfl)
                  refine pure_ (i := 6) (N := some 72) (v := ?_) (a' := ?_) #[T', T', T', T', F', T', T', F', F', F', F', F', F'] rfl rfl (any_of HT_.out (by kernel_rfl)) (fun _ _ _ h => h) (Or.inl ⟨by rfl, ?_⟩) ?_ ?_;rotate_left;(intro w';go_simp;with_reducible rfl);rotate_left;(simp only [Act.put, sA, sZ, sS, i64_w, i32_w];rfl)
                  refine pure_ (i := 7) (N := some 73) (v := ?_) (a' := ?_) #[T', T', T', T', F', T', T', T', F', F', F', F', F'] rfl rfl (any_of HT_.out (by kernel_rfl)) (fun _ _ _ h => h) (Or.inl ⟨by rfl, ?_⟩) ?_ ?_;rotate_left;(intro w';go_simp;with_reducible rfl);rotate_left;(simp only [Act.put, sA, sZ, sS, i64_w, i32_w];rfl)
                  refine take_ (i := 4) (N := some 70) (v := ?_) (a' := ?_) #[T', T', T', T', T', T', T', T', F', F', F', F', F'] rfl rfl (take_ofW HT_.out HW_.out (by kernel_rfl)) (fun _ _ _ h => h) (Or.inl ⟨by rfl, ?_⟩) hHeld ?_ ?_;rotate_left;(rintro w' ⟨s0, s1, s2, s3, s4, s5, s6, s7, s8, s9⟩;go_simp;with_reducible rfl);rotate_left;(simp only [Act.put, sA, sZ, sS, i64_w, i32_w];rfl)
                  refine take_ (i := 8) (N := some 74) (v := ?_) (a' := ?_) #[T', T', T', T', T', T', T', T', T', F', F', F', F'] rfl rfl (take_ofW HT_.out HW_.out (by kernel_rfl)) (fun _ _ _ h => h) (Or.inl ⟨by rfl, ?_⟩) hHeld ?_ ?_;rotate_left;(rintro w' ⟨s0, s1, s2, s3, s4, s5, s6, s7, s8, s9⟩;go_simp;with_reducible rfl);rotate_left;(simp only [Act.put, sA, sZ, sS, i64_w, i32_w];rfl)
                  refine one_ (i := 9) (N := some 75) #[T', T', T', T', T', T', T', T', T', T', F', F', F'] rfl rfl (one_of HT_.out (by kernel_rfl)) (by decide) (fun K hK => ?_)
                  refine goes_ Try.func62 (by kernel_rfl) rfl #[.agg #[.int .i64 ((rd_T52 l0 t544).f0), .int .i64 ((rd_T52 l0 t544).f1), .slice A546_2 ((rd_T52 l0 t544).f2).length c546_2, .slice A546_3 ((rd_T52 l0 t544).f3).length c546_3, .slice A546_4 ((rd_T52 l0 t544).f4).length c546_4], .agg #[.int .i64 ((rd_T52 l0 t545).f0), .int .i64 ((rd_T52 l0 t545).f1), .slice A547_2 ((rd_T52 l0 t545).f2).length c547_2, .slice A547_3 ((rd_T52 l0 t545).f3).length c547_3, .slice A547_4 ((rd_T52 l0 t545).f4).length c547_4]] (by rfl) rfl rfl (by (try simp only [List.map_toArray, List.map_cons, List.map_nil]); first | done | rfl | (simp only [List.length_drop, List.length_take]; rfl)) ?_
                  with_reducible refine (cadence_woven.calls ((rd_T52 l0 t544).f0) ((rd_T52 l0 t544).f1) _ _ ((rd_T52 l0 t544).f2) _ _ ((rd_T52 l0 t544).f3) _ _ ((rd_T52 l0 t544).f4) ((rd_T52 l0 t545).f0) ((rd_T52 l0 t545).f1) _ _ ((rd_T52 l0 t545).f2) _ _ ((rd_T52 l0 t545).f3) _ _ ((rd_T52 l0 t545).f4) t548 t549 t550 t553 t556 _ ?side1 ?side2 ?side3 ?side4 ?side5 ?side6 ?side7 ?side8 ?side9 ?side10 ?side11 ?side12 A34.out).mono ?_
                  (case side1 => repeat (first | exact (Kd.C_below HR546_2.out HB.out) | (with_reducible refine Kd.C_alloc ?_ _) | (with_reducible refine Kd.C_drewN ?_ _) | (with_reducible refine Kd.C_drew ?_)))
                  (case side2 => exact HC546_2.out)
                  (case side3 => repeat (first | exact (Kd.C_below HR546_3.out HB.out) | (with_reducible refine Kd.C_alloc ?_ _) | (with_reducible refine Kd.C_drewN ?_ _) | (with_reducible refine Kd.C_drew ?_)))
                  (case side4 => exact HC546_3.out)
                  (case side5 => repeat (first | exact (Kd.C_below HR546_4.out HB.out) | (with_reducible refine Kd.C_alloc ?_ _) | (with_reducible refine Kd.C_drewN ?_ _) | (with_reducible refine Kd.C_drew ?_)))
                  (case side6 => exact HC546_4.out)
                  (case side7 => repeat (first | exact (Kd.C_below HR547_2.out HB.out) | (with_reducible refine Kd.C_alloc ?_ _) | (with_reducible refine Kd.C_drewN ?_ _) | (with_reducible refine Kd.C_drew ?_)))
                  (case side8 => exact HC547_2.out)
                  (case side9 => repeat (first | exact (Kd.C_below HR547_3.out HB.out) | (with_reducible refine Kd.C_alloc ?_ _) | (with_reducible refine Kd.C_drewN ?_ _) | (with_reducible refine Kd.C_drew ?_)))
                  (case side10 => exact HC547_3.out)
                  (case side11 => repeat (first | exact (Kd.C_below HR547_4.out HB.out) | (with_reducible refine Kd.C_alloc ?_ _) | (with_reducible refine Kd.C_drewN ?_ _) | (with_reducible refine Kd.C_drew ?_)))
                  (case side12 => exact HC547_4.out)
                  rintro e w38 ⟨v551, v554, v557, rfl, ho0, ho1, ho2, hb⟩
                  refine ⟨_, rfl, ?_⟩
                  have n0_ := Aside0.mk (Kd.S_mono (Kd.S_told (Kd.S_told (Kd.S_told (Kd.S_old (by (with_reducible repeat (first | apply Kd.S_alloc | apply Kd.S_drewN | apply Kd.S_drew)); exact HO_9.out) hb) (Kd.R_base ho0)) (Kd.R_base ho1)) (Kd.R_base ho2)) (fun _ h_ => h_.1))
                  have n1_ := Aside0.mk (Kd.R_lower ho0 (zS (by repeat (first | (with_reducible first | exact HB.out | apply zA | apply zN | apply zD) | exact HB.out))))
                  have n2_ := Aside0.mk (Kd.R_lower ho1 (zS (by repeat (first | (with_reducible first | exact HB.out | apply zA | apply zN | apply zD) | exact HB.out))))
                  have n3_ := Aside0.mk (Kd.R_lower ho2 (zS (by repeat (first | (with_reducible first | exact HB.out | apply zA | apply zN | apply zD) | exact HB.out))))
                  have n4_ := Aside0.mk (zT (by repeat (first | (with_reducible first | exact HB.out | apply zA | apply zN | apply zD) | exact HB.out)) hb)
                  clear HO_9
                  clear HB
                  have HO_9 := n0_
                  have HO552 := n1_
                  have HO555 := n2_
                  have HO558 := n3_
                  have HB := n4_
                  clear n0_ n1_ n2_ n3_ n4_
                  (try clear hb)
                  (try clear hb2)
                  (try clear hk)
                  (try clear hi)
                  (try clear ho0)
                  (try clear ho1)
                  (try clear ho2)
                  obtain ⟨Ao40, co40, eo40⟩ := Kd.R_slice HO552.out
                  (first | subst eo40 | (injection eo40 with f1_ f2_ f3_; have f4_ := f1_.symm; have f5_ := f3_.symm; clear f1_ f2_ f3_; subst f4_; subst f5_))
                  obtain ⟨Ao41, co41, eo41⟩ := Kd.R_slice HO555.out
                  (first | subst eo41 | (injection eo41 with f1_ f2_ f3_; have f4_ := f1_.symm; have f5_ := f3_.symm; clear f1_ f2_ f3_; subst f4_; subst f5_))
                  obtain ⟨Ao42, co42, eo42⟩ := Kd.R_slice HO558.out
                  (first | subst eo42 | (injection eo42 with f1_ f2_ f3_; have f4_ := f1_.symm; have f5_ := f3_.symm; clear f1_ f2_ f3_; subst f4_; subst f5_))
                  refine hK.out _ _ ⟨((HB.out.cell (World.block_lt_of_cell? w _ hw546_0)).trans hw546_0), ((HB.out.cell (World.block_lt_of_cell? w _ hw546_1)).trans hw546_1), ((HB.out.cell (World.block_lt_of_cell? w _ hw546_2)).trans hw546_2), ((HB.out.cell (World.block_lt_of_cell? w _ hw546_3)).trans hw546_3), ((HB.out.cell (World.block_lt_of_cell? w _ hw546_4)).trans hw546_4), ((HB.out.cell (World.block_lt_of_cell? w _ hw547_0)).trans hw547_0), ((HB.out.cell (World.block_lt_of_cell? w _ hw547_1)).trans hw547_1), ((HB.out.cell (World.block_lt_of_cell? w _ hw547_2)).trans hw547_2), ((HB.out.cell (World.block_lt_of_cell? w _ hw547_3)).trans hw547_3), ((HB.out.cell (World.block_lt_of_cell? w _ hw547_4)).trans hw547_4)⟩ (fun hHeld => ?_)
                  clear hK K
                  refine norm_ (a' := ?_) ?_ ?_
                  rotate_left
                  ·show Act.put _ (some 75) _ = _
                   simp only [Act.put, sA, sZ, sS, i64_w, i32_w]
                   rfl
                  refine one_ (i := 10) (N := some 76) #[T', T', T', T', T', T', T', T', T', T', T', F', F'] rfl rfl (one_of HT_.out (by kernel_rfl)) (by decide) (fun K hK => ?_)
                  refine value_ (w1 := ?_) (v := ?_) (by rfl) rfl ?_ ?_
                  rotate_left 2
                  ·go_simp
                   constructor
                   ·rfl
                   ·rfl
                  refine hK.out _ _ ⟨(World.cell?_alloc_lt _ _ _ (World.block_lt_of_cell? _ _ (((HB.out.cell (World.block_lt_of_cell? w _ hw546_0)).trans hw546_0)))).trans (((HB.out.cell (World.block_lt_of_cell? w _ hw546_0)).trans hw546_0)), (World.cell?_alloc_lt _ _ _ (World.block_lt_of_cell? _ _ (((HB.out.cell (World.block_lt_of_cell? w _ hw546_1)).trans hw546_1)))).trans (((HB.out.cell (World.block_lt_of_cell? w _ hw546_1)).trans hw546_1)), (World.cell?_alloc_lt _ _ _ (World.block_lt_of_cell? _ _ (((HB.out.cell (World.block_lt_of_cell? w _ hw546_2)).trans hw546_2)))).trans (((HB.out.cell (World.block_lt_of_cell? w _ hw546_2)).trans hw546_2)), (World.cell?_alloc_lt _ _ _ (World.block_lt_of_cell? _ _ (((HB.out.cell (World.block_lt_of_cell? w _ hw546_3)).trans hw546_3)))).trans (((HB.out.cell (World.block_lt_of_cell? w _ hw546_3)).trans hw546_3)), (World.cell?_alloc_lt _ _ _ (World.block_lt_of_cell? _ _ (((HB.out.cell (World.block_lt_of_cell? w _ hw546_4)).trans hw546_4)))).trans (((HB.out.cell (World.block_lt_of_cell? w _ hw546_4)).trans hw546_4)), (World.cell?_alloc_lt _ _ _ (World.block_lt_of_cell? _ _ (((HB.out.cell (World.block_lt_of_cell? w _ hw547_0)).trans hw547_0)))).trans (((HB.out.cell (World.block_lt_of_cell? w _ hw547_0)).trans hw547_0)), (World.cell?_alloc_lt _ _ _ (World.block_lt_of_cell? _ _ (((HB.out.cell (World.block_lt_of_cell? w _ hw547_1)).trans hw547_1)))).trans (((HB.out.cell (World.block_lt_of_cell? w _ hw547_1)).trans hw547_1)), (World.cell?_alloc_lt _ _ _ (World.block_lt_of_cell? _ _ (((HB.out.cell (World.block_lt_of_cell? w _ hw547_2)).trans hw547_2)))).trans (((HB.out.cell (World.block_lt_of_cell? w _ hw547_2)).trans hw547_2)), (World.cell?_alloc_lt _ _ _ (World.block_lt_of_cell? _ _ (((HB.out.cell (World.block_lt_of_cell? w _ hw547_3)).trans hw547_3)))).trans (((HB.out.cell (World.block_lt_of_cell? w _ hw547_3)).trans hw547_3)), (World.cell?_alloc_lt _ _ _ (World.block_lt_of_cell? _ _ (((HB.out.cell (World.block_lt_of_cell? w _ hw547_4)).trans hw547_4)))).trans (((HB.out.cell (World.block_lt_of_cell? w _ hw547_4)).trans hw547_4))⟩ (fun hHeld => ?_)
                  clear hK K
                  refine norm_ (a' := ?_) ?_ ?_
                  rotate_left
                  ·show Act.put _ (some 76) _ = _
                   simp only [Act.put, sA, sZ, sS, i64_w, i32_w]
                   rfl
                  refine one_ (i := 11) (N := some 77) #[T', T', T', T', T', T', T', T', T', T', T', T', F'] rfl rfl (one_of HT_.out (by kernel_rfl)) (by decide) (fun K hK => ?_)
                  refine Kd.S_append_step k52 (w0 := w) w.heap.size (by rfl) (.tmp 66) (.tmp 76) 48 52 (.agg #[(.int .i64 0), (.int .i64 0), (.slice none 0 0), (.slice none 0 0), (.slice none 0 0)]) 88 rfl Try.underlying48 info52 rfl (by decide) (by omega) u9 x9_3 (⟨t548, t549, t550, t553, t556⟩ : S52) [.int .i64 t548, .int .i64 t549, .slice Ao40 t550.length co40, .slice Ao41 t553.length co41, .slice Ao42 t556.length co42] (fun _ => True) (fun k_ => some k_ = (.slice Ao40 t550.length co40 : Value).ownBlock ∨ some k_ = (.slice Ao41 t553.length co41 : Value).ownBlock ∨ some k_ = (.slice Ao42 t556.length co42 : Value).ownBlock) rfl rfl ?aP (fun k_ hk_ => hk_.elim (fun h_ => ((Kd.R_mono (ok' := fun k_ => ((fun _ => True)) k_ ∧ some k_ ≠ (u9 : Value).ownBlock) (Kd.R_apart' (HO552.out) (Kd.S_typed HO_9.out) (by decide)) (fun k_ hk => ⟨trivial, hk.2⟩))).1 k_ h_.symm) (fun h_ => h_.elim (fun h_ => ((Kd.R_mono (ok' := fun k_ => ((fun _ => True)) k_ ∧ some k_ ≠ (u9 : Value).ownBlock) (Kd.R_apart' (HO555.out) (Kd.S_typed HO_9.out) (by decide)) (fun k_ hk => ⟨trivial, hk.2⟩))).1 k_ h_.symm) (fun h_ => ((Kd.R_mono (ok' := fun k_ => ((fun _ => True)) k_ ∧ some k_ ≠ (u9 : Value).ownBlock) (Kd.R_apart' (HO558.out) (Kd.S_typed HO_9.out) (by decide)) (fun k_ hk => ⟨trivial, hk.2⟩))).1 k_ h_.symm))) ?aF ?aO ?aB ?aS ?aL ?_
                  (case aP => exact k52_mkM _ _ _ (⟨t548, t549, t550, t553, t556⟩ : S52) (Kd.R_mono (Kd.R_tight rfl (Kd.R_mono (ok' := fun k_ => ((fun _ => True)) k_ ∧ some k_ ≠ (u9 : Value).ownBlock) (Kd.R_apart' (HO552.out) (Kd.S_typed HO_9.out) (by decide)) (fun k_ hk => ⟨trivial, hk.2⟩))) (fun _ h_ => Or.inl h_)) (Kd.R_mono (Kd.R_tight rfl (Kd.R_mono (ok' := fun k_ => ((fun _ => True)) k_ ∧ some k_ ≠ (u9 : Value).ownBlock) (Kd.R_apart' (HO555.out) (Kd.S_typed HO_9.out) (by decide)) (fun k_ hk => ⟨trivial, hk.2⟩))) (fun _ h_ => Or.inr (Or.inl h_))) (Kd.R_mono (Kd.R_tight rfl (Kd.R_mono (ok' := fun k_ => ((fun _ => True)) k_ ∧ some k_ ≠ (u9 : Value).ownBlock) (Kd.R_apart' (HO558.out) (Kd.S_typed HO_9.out) (by decide)) (fun k_ hk => ⟨trivial, hk.2⟩))) (fun _ h_ => Or.inr (Or.inr (h_)))))
                  (case aB => exact (by repeat (first | (with_reducible first | exact HB.out | apply zA | apply zN | apply zD) | exact HB.out)))
                  (case aF => exact (fun _ _ => trivial))
                  (case aO => exact (by (with_reducible repeat (first | apply Kd.S_alloc | apply Kd.S_drewN | apply Kd.S_drew)); exact Kd.S_mono HO_9.out (fun k_ hk => ⟨trivial, fun e_ => e_.elim (fun h_ => hk.1.1.2 h_) (fun h_ => h_.elim (fun h_ => hk.1.2 h_) (fun h_ => hk.2 h_))⟩)))
                  (case aS => exact (zS (by repeat (first | (with_reducible first | exact HB.out | apply zA | apply zN | apply zD) | exact HB.out))))
                  (case aL => have := LMc35.out; omega)
                  intro v560 w39 ho hb hg hat
                  rw [← Ny559.out] at ho
                  have n0_ := Aside0.mk (hb)
                  have n1_ := Aside0.mk (ho)
                  clear HB
                  clear HO_9
                  clear HO552
                  clear HO555
                  clear HO558
                  have HB := n0_
                  have HO561 := n1_
                  clear n0_ n1_
                  clear ho hb hg hat
                  refine hK.out _ _ ⟨((HB.out.cell (World.block_lt_of_cell? w _ hw546_0)).trans hw546_0), ((HB.out.cell (World.block_lt_of_cell? w _ hw546_1)).trans hw546_1), ((HB.out.cell (World.block_lt_of_cell? w _ hw546_2)).trans hw546_2), ((HB.out.cell (World.block_lt_of_cell? w _ hw546_3)).trans hw546_3), ((HB.out.cell (World.block_lt_of_cell? w _ hw546_4)).trans hw546_4), ((HB.out.cell (World.block_lt_of_cell? w _ hw547_0)).trans hw547_0), ((HB.out.cell (World.block_lt_of_cell? w _ hw547_1)).trans hw547_1), ((HB.out.cell (World.block_lt_of_cell? w _ hw547_2)).trans hw547_2), ((HB.out.cell (World.block_lt_of_cell? w _ hw547_3)).trans hw547_3), ((HB.out.cell (World.block_lt_of_cell? w _ hw547_4)).trans hw547_4)⟩ (fun hHeld => ?_)
                  clear hK K
                  refine norm_ (a' := ?_) ?_ ?_
                  rotate_left
                  ·show Act.put _ (some 77) _ = _
                   simp only [Act.put, sA, sZ, sS, i64_w, i32_w]
                   rfl
                  refine pure_ (i := 12) (N := some 9) (v := ?_) (a' := ?_) #[T', T', T', T', T', T', T', T', T', T', T', T', T'] rfl rfl (any_of HT_.out (by kernel_rfl)) (fun _ _ _ h => h) (Or.inl ⟨by rfl, ?_⟩) ?_ ?_;rotate_left;(intro w';go_simp;with_reducible rfl);rotate_left;(simp only [Act.put, sA, sZ, sS, i64_w, i32_w];rfl)
                  refine done_ (done_of HT_.out (by kernel_rfl)) ?_
                  try go_wp2
                  go_roundg k3
                  case measure => have := HJ2.out; have := HK2.out; have := HK3.out; omega
                  case rel => exact ⟨(y559), (wrap64 (x51_3 + 1)), (by first | rfl | (simp; done) | (simp [*]; done)), H', ⟨by have := HJ2.out; have := HK2.out; have := HK3.out; omega⟩, ⟨by (with_reducible repeat (first | apply Kd.S_alloc | apply Kd.S_drewN | apply Kd.S_drew)); exact HO561.out⟩, ⟨by repeat (first | (with_reducible first | exact HB.out | apply zA | apply zN | apply zD) | exact HB.out)⟩⟩
                 ·rw [if_neg c35] at H
                  exact absurd H (by simp)
                ·rw [if_neg c33] at H
                 exact absurd H (by simp)
               ·rw [if_neg c32] at H
                exact absurd H (by simp)
              ·rw [if_neg c31] at H
               exact absurd H (by simp)
             ·rw [if_neg c30] at H
              exact absurd H (by simp)
          ·rw [if_neg c24] at H
           have c24b0 : decide (x51_3 < (wrap64 (x6_2 + 1))) = false := decide_eq_false c24
           clear c24
           simp only [Option.some.injEq, Prod.mk.injEq] at H
           obtain ⟨rfl, rfl⟩ := H
           go_wp2
           go_ret2
           exact ⟨_, by first | rfl | (simp [errW_none, errW_some] <;> rfl) | (simp [*, errW_none, errW_some] <;> rfl), by (with_reducible repeat (first | apply Kd.S_alloc | apply Kd.S_drewN | apply Kd.S_drew)); exact HO_9.out, by repeat (first | (with_reducible first | exact HB.out | apply zA | apply zN | apply zD) | exact HB.out)⟩

end Go.Proofs.Ytcofjbbflcnaaaa.P
