-- Written by this session's own program (wip/tools/myprint.py), which runs the kit's print with turns of its own: not a text of the kit's print.sh.
import Derived.Test.YtjcjbbcamkkeiaaPx0
import Derived.Test.YtjcjbbcamkkeiaaPx34
namespace Go.Proofs.Ytjcjbbcamkkeiaa.P
open Go.RowKit Go.Proofs.YtjcjbbcamkkeiaaW.PrintWords Go.Proofs.YtjcjbbcamkkeiaaW.PrintLast Go.Proofs.YtjcjbbcamkkeiaaW.PrintMore
attribute [local go_sem] max2_int min2_int max_two min_two max_three min_three max_four min_four   -- for this text's walks alone
set_option linter.unusedVariables false
set_option linter.unusedSimpArgs false

/-! ### cutroomref28_Peak: function 18 -/
mutual
def cutroomref28_Peak.l0 : Nat → List (List Int) → Int → Int → Option (Int)
 | 0, _, _, _ => none
 | k + 1, x0, x3, x4 => if x4 < (x0.length : Int) then (cutroomref28_Peak.l1 k x0 x3 x4 0) else (some x3)
def cutroomref28_Peak.l1 : Nat → List (List Int) → Int → Int → Int → Option (Int)
 | 0, _, _, _, _ => none
 | k + 1, x0, x3, x4, x5 => if 0 ≤ x4 then (if x4 < (x0.length : Int) then (if x5 < ((rd_L2 x0 x4).length : Int) then (if 0 ≤ x5 then (cutroomref28_Peak.l1 k x0 (mx (mx x3 (wrap64 (rd (rd_L2 x0 x4) x5))) (wrap64 (-(wrap64 (rd (rd_L2 x0 x4) x5))))) x4 (wrap64 (x5 + 1))) else (none)) else (cutroomref28_Peak.l0 k x0 x3 (wrap64 (x4 + 1)))) else (none)) else (none)
end
def cutroomref28_Peak.f (k : Nat) (l0 : List (List Int)) : Option (Int) := (cutroomref28_Proper.f k l0).bind fun t155 => (if t155 = true then (cutroomref28_Peak.l0 k l0 0 0) else (some 0))
theorem cutroomref28_Peak.mono_l : ∀ k, (∀ y0 y1 y2, LeO (cutroomref28_Peak.l0 k y0 y1 y2) (cutroomref28_Peak.l0 (k + 1) y0 y1 y2)) ∧ (∀ y0 y1 y2 y3, LeO (cutroomref28_Peak.l1 k y0 y1 y2 y3) (cutroomref28_Peak.l1 (k + 1) y0 y1 y2 y3))
 | 0 => ⟨fun _ _ _ r h => by simp [cutroomref28_Peak.l0] at h, fun _ _ _ _ r h => by simp [cutroomref28_Peak.l1] at h⟩
 | k + 1 => by
  obtain ⟨ih0, ih1⟩ := cutroomref28_Peak.mono_l k
  refine ⟨?_, ?_⟩
  ·intro y0 y1 y2
   unfold cutroomref28_Peak.l0
   repeat' first
   | (with_reducible exact ih0 _ _ _)
   | (with_reducible exact ih1 _ _ _ _)
   | (with_reducible exact cutroomref28_Proper.mono _ _)
   | (with_reducible exact LeO.refl _)
   | (with_reducible exact LeO.none _)
   | (with_reducible refine LeO.ite ?_ ?_)
   | (with_reducible refine LeO.bind ?_ (fun _ => ?_))
   | exact ih0 _ _ _
   | exact ih1 _ _ _ _
   | exact cutroomref28_Proper.mono _ _
   | exact LeO.none _
   | refine LeO.ite ?_ ?_
   | refine LeO.bind ?_ (fun _ => ?_)
  ·intro y0 y1 y2 y3
   unfold cutroomref28_Peak.l1
   repeat' first
   | (with_reducible exact ih0 _ _ _)
   | (with_reducible exact ih1 _ _ _ _)
   | (with_reducible exact cutroomref28_Proper.mono _ _)
   | (with_reducible exact LeO.refl _)
   | (with_reducible exact LeO.none _)
   | (with_reducible refine LeO.ite ?_ ?_)
   | (with_reducible refine LeO.bind ?_ (fun _ => ?_))
   | exact ih0 _ _ _
   | exact ih1 _ _ _ _
   | exact cutroomref28_Proper.mono _ _
   | exact LeO.none _
   | refine LeO.ite ?_ ?_
   | refine LeO.bind ?_ (fun _ => ?_)
theorem cutroomref28_Peak.mono : ∀ a0 k, LeO (cutroomref28_Peak.f k a0) (cutroomref28_Peak.f (k + 1) a0) := by
 intro a0 k
 obtain ⟨ih0, ih1⟩ := cutroomref28_Peak.mono_l k
 unfold cutroomref28_Peak.f
 repeat' first
   | (with_reducible exact ih0 _ _ _)
   | (with_reducible exact ih1 _ _ _ _)
   | (with_reducible exact cutroomref28_Proper.mono _ _)
   | (with_reducible exact LeO.refl _)
   | (with_reducible exact LeO.none _)
   | (with_reducible refine LeO.ite ?_ ?_)
   | (with_reducible refine LeO.bind ?_ (fun _ => ?_))
   | exact ih0 _ _ _
   | exact ih1 _ _ _ _
   | exact cutroomref28_Proper.mono _ _
   | exact LeO.none _
   | refine LeO.ite ?_ ?_
   | refine LeO.bind ?_ (fun _ => ?_)
set_option maxHeartbeats 8000000 in
set_option maxRecDepth 100000 in
theorem cutroomref28_Peak.calls (k : Nat) (A0 : Option Addr) (c0 : Nat) (l0 : List (List Int)) (r : Int) (w : World) (hr0 : Kd.C (Kd.slice 48 (Kd.int .i16)) w A0 l0.length l0) (hc0 : l0.length ≤ c0) (h : cutroomref28_Peak.f k l0 = some r) :
  Calls Try.prog 18 #[.slice A0 l0.length c0] w fun e w' => e = .returned (.int .i64 r) ∧ Below w.heap.size w w' := by
 have HR0 := Aside0.mk hr0
 have HC0 := Aside0.mk hc0
 clear hr0 hc0
 have HB := Aside0.mk (Below.refl w.heap.size w)
 have H : ((cutroomref28_Proper.f k l0).bind fun t155 => (if t155 = true then (cutroomref28_Peak.l0 k l0 0 0) else (some 0))) = some r := h
 clear h
 replace H := Option.bind_eq_some_iff.mp H
 obtain ⟨t155, A20, H⟩ := H
 replace H : (if t155 = true then (cutroomref28_Peak.l0 k l0 0 0) else (some 0)) = some r := H
 have A2 := Aside0.mk A20
 clear A20
 by_cases c3 : t155 = true
 ·subst c3
  have H1 : (cutroomref28_Peak.l0 k l0 0 0) = some r := by rw [if_pos rfl] at H; exact H
  clear H
  have H := H1
  clear H1
  have H' := Aside0.mk H
  clear H
  go_enter Try.func18, Try.ntmps18
  go_wp2_with (first | (go_at_call 33; (with_reducible refine (cutroomref28_Proper.calls k _ _ l0 true _ ?side1 ?side2 A2.out).mono ?_); (case side1 => repeat (first | exact HR0.out | (with_reducible refine Kd.C_alloc ?_ _) | (with_reducible refine Kd.C_drewN ?_ _) | (with_reducible refine Kd.C_drew ?_))); (case side2 => exact HC0.out); rintro e w' ⟨rfl, ⟨nd, rfl⟩⟩; (try first | exact ⟨rfl, _, World.drewN_drewN _ _ _⟩ | exact ⟨rfl, _, Eq.trans (World.drewN_drewN _ _ _) (congrArg (World.drewN _) (Nat.add_assoc _ _ _))⟩)))
  repeat (go_quiet (first | (go_at_call 33; (with_reducible refine (cutroomref28_Proper.calls k _ _ l0 true _ ?side1 ?side2 A2.out).mono ?_); (case side1 => repeat (first | exact HR0.out | (with_reducible refine Kd.C_alloc ?_ _) | (with_reducible refine Kd.C_drewN ?_ _) | (with_reducible refine Kd.C_drew ?_))); (case side2 => exact HC0.out); rintro e w' ⟨rfl, ⟨nd, rfl⟩⟩; (try first | exact ⟨rfl, _, World.drewN_drewN _ _ _⟩ | exact ⟨rfl, _, Eq.trans (World.drewN_drewN _ _ _) (congrArg (World.drewN _) (Nat.add_assoc _ _ _))⟩))); try go_wp2_with (first | (go_at_call 33; (with_reducible refine (cutroomref28_Proper.calls k _ _ l0 true _ ?side1 ?side2 A2.out).mono ?_); (case side1 => repeat (first | exact HR0.out | (with_reducible refine Kd.C_alloc ?_ _) | (with_reducible refine Kd.C_drewN ?_ _) | (with_reducible refine Kd.C_drew ?_))); (case side2 => exact HC0.out); rintro e w' ⟨rfl, ⟨nd, rfl⟩⟩; (try first | exact ⟨rfl, _, World.drewN_drewN _ _ _⟩ | exact ⟨rfl, _, Eq.trans (World.drewN_drewN _ _ _) (congrArg (World.drewN _) (Nat.add_assoc _ _ _))⟩))))
  go_loopg [3, 4] k (fun kq v3 v4 w' => ∃ (x3_1 : Int) (x4_1 : Int), v3 = .int .i64 x3_1 ∧ v4 = .int .i64 x4_1 ∧ Aside0 (cutroomref28_Peak.l0 kq l0 x3_1 x4_1 = some r) ∧ Aside0 (kq ≤ k) ∧ Aside0 (Below w.heap.size w w'))
  case atStart => exact ⟨(0), (0), (by first | rfl | (simp; done) | (simp [*]; done)), (by first | rfl | (simp; done) | (simp [*]; done)), H', ⟨Nat.le_refl _⟩, ⟨by repeat (first | (with_reducible first | exact HB.out | apply below_alloc | apply pw_below_drewN | apply below_drew1) | exact HB.out)⟩⟩
  case round =>
   clear H'
   (try clear c1);(try clear p2);(try clear c3)
   obtain ⟨x3_1, x4_1, rfl, rfl, HA, HK1, HB⟩ := hrel
   cases gk with
   | zero => exact absurd HA.out (by simp [cutroomref28_Peak.l0])
   | succ k1 =>
    have H := HA.out
    clear HA
    simp only [cutroomref28_Peak.l0] at H
    by_cases c4 : x4_1 < (l0.length : Int)
    ·rw [if_pos c4] at H
     have c4b0 : decide (x4_1 < (l0.length : Int)) = true := decide_eq_true c4
     clear c4
     have H' := Aside0.mk H
     clear H
     go_wp2
     repeat (go_quiet (fail); try go_wp2)
     go_loopg [3, 5] k1 (fun kq v3 v5 w' => ∃ (x3_2 : Int) (x5_2 : Int), v3 = .int .i64 x3_2 ∧ v5 = .int .i64 x5_2 ∧ Aside0 (cutroomref28_Peak.l1 kq l0 x3_2 x4_1 x5_2 = some r) ∧ Aside0 (kq ≤ k1) ∧ Aside0 (Below w.heap.size w w'))
     case atStart => exact ⟨(x3_1), (0), (by first | rfl | (simp; done) | (simp [*]; done)), (by first | rfl | (simp; done) | (simp [*]; done)), H', ⟨Nat.le_refl _⟩, ⟨by repeat (first | (with_reducible first | exact HB.out | apply below_alloc | apply pw_below_drewN | apply below_drew1) | exact HB.out)⟩⟩
     case round =>
      clear H'
      (try clear c1);(try clear p2);(try clear c3);(try clear c4);(try clear c4b0);(try clear p2)
      obtain ⟨x3_2, x5_2, rfl, rfl, HA, HK2, HB⟩ := hrel
      cases gk with
      | zero => exact absurd HA.out (by simp [cutroomref28_Peak.l1])
      | succ k2 =>
       have H := HA.out
       clear HA
       simp only [cutroomref28_Peak.l1] at H
       by_cases c5 : 0 ≤ x4_1
       ·rw [if_pos c5] at H
        have c5b0 : decide (0 ≤ x4_1) = true := decide_eq_true c5
        clear c5
        by_cases c6 : x4_1 < (l0.length : Int)
        ·rw [if_pos c6] at H
         have c6b0 : decide (x4_1 < (l0.length : Int)) = true := decide_eq_true c6
         clear c6
         by_cases c7 : x5_2 < ((rd_L2 l0 x4_1).length : Int)
         ·rw [if_pos c7] at H
          have c7b0 : decide (x5_2 < ((rd_L2 l0 x4_1).length : Int)) = true := decide_eq_true c7
          clear c7
          by_cases c8 : 0 ≤ x5_2
          ·rw [if_pos c8] at H
           have c8b0 : decide (0 ≤ x5_2) = true := decide_eq_true c8
           clear c8
           obtain ⟨ji9, hji9⟩ : ∃ j_ : Int, (mx x3_2 (wrap64 (rd (rd_L2 l0 x4_1) x5_2))) = j_ := ⟨_, rfl⟩
           replace H : (cutroomref28_Peak.l1 k2 l0 (mx (ji9) (wrap64 (-(wrap64 (rd (rd_L2 l0 x4_1) x5_2))))) x4_1 (wrap64 (x5_2 + 1))) = some r := by first | (rw [hji9] at H; exact H) | (simp only [hji9] at H ⊢; exact H)
           have hji9_ : (if x3_2 < (wrap64 (rd (rd_L2 l0 x4_1) x5_2)) then (wrap64 (rd (rd_L2 l0 x4_1) x5_2)) else x3_2) = ji9 := hji9
           obtain ⟨ji10, hji10⟩ : ∃ j_ : Int, (mx (ji9) (wrap64 (-(wrap64 (rd (rd_L2 l0 x4_1) x5_2))))) = j_ := ⟨_, rfl⟩
           replace H : (cutroomref28_Peak.l1 k2 l0 ji10 x4_1 (wrap64 (x5_2 + 1))) = some r := by first | (rw [hji10] at H; exact H) | (simp only [hji10] at H ⊢; exact H)
           have hji10_ : (if (ji9) < (wrap64 (-(wrap64 (rd (rd_L2 l0 x4_1) x5_2)))) then (wrap64 (-(wrap64 (rd (rd_L2 l0 x4_1) x5_2)))) else (ji9)) = ji10 := hji10
           have H' := Aside0.mk H
           clear H
           have p156 : 0 ≤ (x4_1 : Int) := of_decide_eq_true (by first | (with_reducible assumption) | assumption)
           have q156 : x4_1 < (l0.length : Int) := of_decide_eq_true (by first | (with_reducible assumption) | assumption)
           obtain ⟨ad156, A156_0, c156_0, e156, hx156_0, hl156_0, hi156_0⟩ := at_L2 HR0.out x4_1 p156 q156
           cases e156
           replace hx156_0 := (HB.out.cell (World.block_lt_of_cell? w _ hx156_0)).trans hx156_0
           have HR156_0 := Aside0.mk hi156_0
           have HC156_0 := Aside0.mk hl156_0
           clear hi156_0 hl156_0
           replace p156 := eq_true p156
           replace q156 := eq_true q156
           have p157 : 0 ≤ (x4_1 : Int) := of_decide_eq_true (by first | (with_reducible assumption) | assumption)
           have q157 : x4_1 < (l0.length : Int) := of_decide_eq_true (by first | (with_reducible assumption) | assumption)
           obtain ⟨ad157, A157_0, c157_0, e157, hx157_0, hl157_0, hi157_0⟩ := at_L2 HR0.out x4_1 p157 q157
           obtain rfl : ad156 = ad157 := (by injection e157)
           replace hx157_0 := (HB.out.cell (World.block_lt_of_cell? w _ hx157_0)).trans hx157_0
           have HR157_0 := Aside0.mk hi157_0
           have HC157_0 := Aside0.mk hl157_0
           clear hi157_0 hl157_0
           replace p157 := eq_true p157
           replace q157 := eq_true q157
           have ea_ := Option.some.inj (hx156_0.symm.trans hx157_0)
           injection ea_ with ea_ en_ ec_
           subst ea_
           subst ec_
           clear en_
           have p158 : 0 ≤ (x5_2 : Int) := of_decide_eq_true (by first | (with_reducible assumption) | assumption)
           have q158 : x5_2 < ((rd_L2 l0 x4_1).length : Int) := of_decide_eq_true (by first | (with_reducible assumption) | assumption)
           obtain ⟨ad158, e158, hx158_0⟩ := Kd.at_int HR157_0.out x5_2 p158 q158
           cases e158
           replace hx158_0 := (HB.out.cell (World.block_lt_of_cell? w _ hx158_0)).trans hx158_0
           replace p158 := eq_true p158
           replace q158 := eq_true q158
           have p159 : 0 ≤ (x4_1 : Int) := of_decide_eq_true (by first | (with_reducible assumption) | assumption)
           have q159 : x4_1 < (l0.length : Int) := of_decide_eq_true (by first | (with_reducible assumption) | assumption)
           obtain ⟨ad159, A159_0, c159_0, e159, hx159_0, hl159_0, hi159_0⟩ := at_L2 HR0.out x4_1 p159 q159
           obtain rfl : ad156 = ad159 := (by injection e159)
           replace hx159_0 := (HB.out.cell (World.block_lt_of_cell? w _ hx159_0)).trans hx159_0
           have HR159_0 := Aside0.mk hi159_0
           have HC159_0 := Aside0.mk hl159_0
           clear hi159_0 hl159_0
           replace p159 := eq_true p159
           replace q159 := eq_true q159
           have ea_ := Option.some.inj (hx156_0.symm.trans hx159_0)
           injection ea_ with ea_ en_ ec_
           subst ea_
           subst ec_
           clear en_
           have p160 : 0 ≤ (x5_2 : Int) := of_decide_eq_true (by first | (with_reducible assumption) | assumption)
           have q160 : x5_2 < ((rd_L2 l0 x4_1).length : Int) := of_decide_eq_true (by first | (with_reducible assumption) | assumption)
           obtain ⟨ad160, e160, hx160_0⟩ := Kd.at_int HR159_0.out x5_2 p160 q160
           cases e160
           replace hx160_0 := (HB.out.cell (World.block_lt_of_cell? w _ hx160_0)).trans hx160_0
           replace p160 := eq_true p160
           replace q160 := eq_true q160
           go_wp2
           repeat (go_quiet (fail); try go_wp2)
           go_roundg k2
           case measure => have := HK1.out; have := HK2.out; omega
           case rel => exact ⟨(ji10), (wrap64 (x5_2 + 1)), (by first | rfl | (simp; done) | (simp only [← hji10] <;> (first | rfl | simp)) | (simp [*]; done)), (by first | rfl | (simp; done) | (simp [*]; done)), H', ⟨by have := HK1.out; have := HK2.out; omega⟩, ⟨by repeat (first | (with_reducible first | exact HB.out | apply below_alloc | apply pw_below_drewN | apply below_drew1) | exact HB.out)⟩⟩
          ·rw [if_neg c8] at H
           exact absurd H (by simp)
         ·rw [if_neg c7] at H
          have c7b0 : decide (x5_2 < ((rd_L2 l0 x4_1).length : Int)) = false := decide_eq_false c7
          clear c7
          have H' := Aside0.mk H
          clear H
          have p156 : 0 ≤ (x4_1 : Int) := of_decide_eq_true (by first | (with_reducible assumption) | assumption)
          have q156 : x4_1 < (l0.length : Int) := of_decide_eq_true (by first | (with_reducible assumption) | assumption)
          obtain ⟨ad156, A156_0, c156_0, e156, hx156_0, hl156_0, hi156_0⟩ := at_L2 HR0.out x4_1 p156 q156
          cases e156
          replace hx156_0 := (HB.out.cell (World.block_lt_of_cell? w _ hx156_0)).trans hx156_0
          have HR156_0 := Aside0.mk hi156_0
          have HC156_0 := Aside0.mk hl156_0
          clear hi156_0 hl156_0
          replace p156 := eq_true p156
          replace q156 := eq_true q156
          go_wp2
          repeat (go_quiet (fail); try go_wp2)
          go_roundg k2
          case measure => have := HK1.out; have := HK2.out; omega
          case rel => exact ⟨(x3_2), (wrap64 (x4_1 + 1)), (by first | rfl | (simp; done) | (simp [*]; done)), (by first | rfl | (simp; done) | (simp [*]; done)), H', ⟨by have := HK1.out; have := HK2.out; omega⟩, ⟨by repeat (first | (with_reducible first | exact HB.out | apply below_alloc | apply pw_below_drewN | apply below_drew1) | exact HB.out)⟩⟩
        ·rw [if_neg c6] at H
         exact absurd H (by simp)
       ·rw [if_neg c5] at H
        exact absurd H (by simp)
    ·rw [if_neg c4] at H
     have c4b0 : decide (x4_1 < (l0.length : Int)) = false := decide_eq_false c4
     clear c4
     obtain rfl := Option.some.inj H
     go_wp2
     repeat (go_quiet (fail); try go_wp2)
     go_ret
     exact ⟨by first | rfl | (simp [errW_none, errW_some] <;> rfl) | (simp [*, errW_none, errW_some] <;> rfl), by repeat (first | (with_reducible first | exact HB.out | apply below_alloc | apply pw_below_drewN | apply below_drew1) | exact HB.out)⟩
 ·replace c3 := Bool.eq_false_iff.mpr c3
  subst c3
  have H1 : (some 0) = some r := by rw [if_neg (show ¬ (false = true) by decide)] at H; exact H
  clear H
  have H := H1
  clear H1
  obtain rfl := Option.some.inj H
  go_enter Try.func18, Try.ntmps18
  go_wp2_with (first | (go_at_call 33; (with_reducible refine (cutroomref28_Proper.calls k _ _ l0 false _ ?side1 ?side2 A2.out).mono ?_); (case side1 => repeat (first | exact HR0.out | (with_reducible refine Kd.C_alloc ?_ _) | (with_reducible refine Kd.C_drewN ?_ _) | (with_reducible refine Kd.C_drew ?_))); (case side2 => exact HC0.out); rintro e w' ⟨rfl, ⟨nd, rfl⟩⟩; (try first | exact ⟨rfl, _, World.drewN_drewN _ _ _⟩ | exact ⟨rfl, _, Eq.trans (World.drewN_drewN _ _ _) (congrArg (World.drewN _) (Nat.add_assoc _ _ _))⟩)))
  repeat (go_quiet (first | (go_at_call 33; (with_reducible refine (cutroomref28_Proper.calls k _ _ l0 false _ ?side1 ?side2 A2.out).mono ?_); (case side1 => repeat (first | exact HR0.out | (with_reducible refine Kd.C_alloc ?_ _) | (with_reducible refine Kd.C_drewN ?_ _) | (with_reducible refine Kd.C_drew ?_))); (case side2 => exact HC0.out); rintro e w' ⟨rfl, ⟨nd, rfl⟩⟩; (try first | exact ⟨rfl, _, World.drewN_drewN _ _ _⟩ | exact ⟨rfl, _, Eq.trans (World.drewN_drewN _ _ _) (congrArg (World.drewN _) (Nat.add_assoc _ _ _))⟩))); try go_wp2_with (first | (go_at_call 33; (with_reducible refine (cutroomref28_Proper.calls k _ _ l0 false _ ?side1 ?side2 A2.out).mono ?_); (case side1 => repeat (first | exact HR0.out | (with_reducible refine Kd.C_alloc ?_ _) | (with_reducible refine Kd.C_drewN ?_ _) | (with_reducible refine Kd.C_drew ?_))); (case side2 => exact HC0.out); rintro e w' ⟨rfl, ⟨nd, rfl⟩⟩; (try first | exact ⟨rfl, _, World.drewN_drewN _ _ _⟩ | exact ⟨rfl, _, Eq.trans (World.drewN_drewN _ _ _) (congrArg (World.drewN _) (Nat.add_assoc _ _ _))⟩))))
  go_ret
  exact ⟨by first | rfl | (simp [errW_none, errW_some] <;> rfl) | (simp [*, errW_none, errW_some] <;> rfl), by repeat (first | (with_reducible first | exact HB.out | apply below_alloc | apply pw_below_drewN | apply below_drew1) | exact HB.out)⟩

end Go.Proofs.Ytjcjbbcamkkeiaa.P
