-- Written by this session's own program (wip/tools/myprint.py), which runs the kit's print with turns of its own: not a text of the kit's print.sh.
import Derived.Test.YtjcjbbcamkkeiaaPx0
namespace Go.Proofs.Ytjcjbbcamkkeiaa.P
open Go.RowKit Go.Proofs.YtjcjbbcamkkeiaaW.PrintWords Go.Proofs.YtjcjbbcamkkeiaaW.PrintLast Go.Proofs.YtjcjbbcamkkeiaaW.PrintMore
attribute [local go_sem] max2_int min2_int max_two min_two max_three min_three max_four min_four   -- for this text's walks alone
set_option linter.unusedVariables false
set_option linter.unusedSimpArgs false

/-! ### cutroomref28_Proper: function 33 -/
def cutroomref28_Proper.l0 : Nat → List (List Int) → Int → Option (Bool)
 | 0, _, _ => none
 | k + 1, x0, x3 => if x3 < (x0.length : Int) then (if 0 ≤ x3 then (if 0 < (x0.length : Int) then (if ((rd_L2 x0 x3).length : Int) = ((rd_L2 x0 0).length : Int) then (if ((rd_L2 x0 x3).length : Int) > 1048576 then (some false) else (cutroomref28_Proper.l0 k x0 (wrap64 (x3 + 1)))) else (some false)) else (none)) else (none)) else (if (x0.length : Int) ≥ 1 then (some (decide ((x0.length : Int) ≤ 4))) else (some false))
def cutroomref28_Proper.f (k : Nat) (l0 : List (List Int)) : Option (Bool) := cutroomref28_Proper.l0 k l0 0
theorem cutroomref28_Proper.mono_l : ∀ k, (∀ y0 y1, LeO (cutroomref28_Proper.l0 k y0 y1) (cutroomref28_Proper.l0 (k + 1) y0 y1))
 | 0 => fun _ _ r h => by simp [cutroomref28_Proper.l0] at h
 | k + 1 => by
  have ih0 := cutroomref28_Proper.mono_l k
  ·intro y0 y1
   unfold cutroomref28_Proper.l0
   repeat' first
   | (with_reducible exact ih0 _ _)
   | (with_reducible exact LeO.refl _)
   | (with_reducible exact LeO.none _)
   | (with_reducible refine LeO.ite ?_ ?_)
   | (with_reducible refine LeO.bind ?_ (fun _ => ?_))
   | exact ih0 _ _
   | exact LeO.none _
   | refine LeO.ite ?_ ?_
   | refine LeO.bind ?_ (fun _ => ?_)
theorem cutroomref28_Proper.mono : ∀ a0 k, LeO (cutroomref28_Proper.f k a0) (cutroomref28_Proper.f (k + 1) a0) := by
 intro a0 k
 have ih0 := cutroomref28_Proper.mono_l k
 unfold cutroomref28_Proper.f
 repeat' first
   | (with_reducible exact ih0 _ _)
   | (with_reducible exact LeO.refl _)
   | (with_reducible exact LeO.none _)
   | (with_reducible refine LeO.ite ?_ ?_)
   | (with_reducible refine LeO.bind ?_ (fun _ => ?_))
   | exact ih0 _ _
   | exact LeO.none _
   | refine LeO.ite ?_ ?_
   | refine LeO.bind ?_ (fun _ => ?_)
set_option maxHeartbeats 8000000 in
set_option maxRecDepth 100000 in
theorem cutroomref28_Proper.calls (k : Nat) (A0 : Option Addr) (c0 : Nat) (l0 : List (List Int)) (r : Bool) (w : World) (hr0 : Kd.C (Kd.slice 48 (Kd.int .i16)) w A0 l0.length l0) (hc0 : l0.length ≤ c0) (h : cutroomref28_Proper.f k l0 = some r) :
  Calls Try.prog 33 #[.slice A0 l0.length c0] w fun e w' => e = .returned (.bool r) ∧ Drawn0 w w' := by
 have HR0 := Aside0.mk hr0
 have HC0 := Aside0.mk hc0
 clear hr0 hc0
 have H : (cutroomref28_Proper.l0 k l0 0) = some r := h
 clear h
 have H' := Aside0.mk H
 clear H
 go_enter Try.func33, Try.ntmps33
 go_wp2
 repeat (go_quiet (fail); try go_wp2)
 go_loopg [3] k (fun kq v3 w' => ∃ (x3_1 : Int), v3 = .int .i64 x3_1 ∧ Aside0 (cutroomref28_Proper.l0 kq l0 x3_1 = some r) ∧ Aside0 (kq ≤ k) ∧ Drawn0 w w')
 case atStart => exact ⟨(0), (by first | rfl | (simp; done) | (simp [*]; done)), H', ⟨Nat.le_refl _⟩, by repeat (first | exact Drawn0.refl _ | apply Drawn0.step)⟩
 case round =>
  clear H'
  obtain ⟨x3_1, rfl, HA, HK1, ⟨m1, rfl⟩⟩ := hrel
  cases gk with
  | zero => exact absurd HA.out (by simp [cutroomref28_Proper.l0])
  | succ k1 =>
   have H := HA.out
   clear HA
   simp only [cutroomref28_Proper.l0] at H
   by_cases c2 : x3_1 < (l0.length : Int)
   ·rw [if_pos c2] at H
    have c2b0 : decide (x3_1 < (l0.length : Int)) = true := decide_eq_true c2
    clear c2
    by_cases c3 : 0 ≤ x3_1
    ·rw [if_pos c3] at H
     have c3b0 : decide (0 ≤ x3_1) = true := decide_eq_true c3
     clear c3
     by_cases c4 : 0 < (l0.length : Int)
     ·rw [if_pos c4] at H
      have c4b0 : decide (0 < (l0.length : Int)) = true := decide_eq_true c4
      have c4b1 : decide (0 < l0.length) = true := decide_eq_true (by omega)
      clear c4
      by_cases c5 : ((rd_L2 l0 x3_1).length : Int) = ((rd_L2 l0 0).length : Int)
      ·rw [if_pos c5] at H
       have c5b0 : (((rd_L2 l0 x3_1).length : Int) == ((rd_L2 l0 0).length : Int)) = true := beq_iff_eq.mpr c5
       have c5b1 : (((rd_L2 l0 x3_1).length : Int) != ((rd_L2 l0 0).length : Int)) = false := bne_eq_false_iff_eq.mpr c5
       have c5b2 : ((rd_L2 l0 x3_1).length == (rd_L2 l0 0).length) = true := by first | simpa using c5 | (simp at c5 ⊢; omega)
       clear c5
       by_cases c6 : ((rd_L2 l0 x3_1).length : Int) > 1048576
       ·rw [if_pos c6] at H
        have c6b0 : decide (1048576 < ((rd_L2 l0 x3_1).length : Int)) = true := decide_eq_true c6
        have c6b1 : decide (1048576 < (rd_L2 l0 x3_1).length) = true := decide_eq_true (by omega)
        clear c6
        obtain rfl := Option.some.inj H
        have p138 : 0 ≤ (x3_1 : Int) := of_decide_eq_true (by first | (with_reducible assumption) | assumption)
        have q138 : x3_1 < (l0.length : Int) := of_decide_eq_true (by first | (with_reducible assumption) | assumption)
        obtain ⟨ad138, A138_0, c138_0, e138, hx138_0, hl138_0, hi138_0⟩ := at_L2 HR0.out x3_1 p138 q138
        cases e138
        have HR138_0 := Aside0.mk hi138_0
        have HC138_0 := Aside0.mk hl138_0
        clear hi138_0 hl138_0
        replace p138 := eq_true p138
        replace q138 := eq_true q138
        have p139 : 0 ≤ (0 : Int) := (by omega)
        have q139 : 0 < (l0.length : Int) := of_decide_eq_true (by first | (with_reducible assumption) | assumption)
        obtain ⟨ad139, A139_0, c139_0, e139, hx139_0, hl139_0, hi139_0⟩ := at_L2 HR0.out 0 p139 q139
        obtain rfl : ad138 = ad139 := (by injection e139)
        have qi139 : (0 < l0.length) = True := eq_true (by omega)
        (try rw [show ((0 : Int)).toNat = 0 from rfl] at hx139_0)
        (try rw [Addr.add_zero'] at hx139_0)
        have HR139_0 := Aside0.mk hi139_0
        have HC139_0 := Aside0.mk hl139_0
        clear hi139_0 hl139_0
        replace p139 := eq_true p139
        replace q139 := eq_true q139
        have p140 : 0 ≤ (x3_1 : Int) := of_decide_eq_true (by first | (with_reducible assumption) | assumption)
        have q140 : x3_1 < (l0.length : Int) := of_decide_eq_true (by first | (with_reducible assumption) | assumption)
        obtain ⟨ad140, A140_0, c140_0, e140, hx140_0, hl140_0, hi140_0⟩ := at_L2 HR0.out x3_1 p140 q140
        obtain rfl : ad138 = ad140 := (by injection e140)
        have HR140_0 := Aside0.mk hi140_0
        have HC140_0 := Aside0.mk hl140_0
        clear hi140_0 hl140_0
        replace p140 := eq_true p140
        replace q140 := eq_true q140
        have ea_ := Option.some.inj (hx138_0.symm.trans hx140_0)
        injection ea_ with ea_ en_ ec_
        subst ea_
        subst ec_
        clear en_
        go_wp2
        repeat (go_quiet (fail); try go_wp2)
        go_ret
        exact ⟨by first | rfl | (simp; done) | (simp [*]; done), by repeat (first | exact Drawn0.refl _ | apply Drawn0.step)⟩
       ·rw [if_neg c6] at H
        have c6b0 : decide (1048576 < ((rd_L2 l0 x3_1).length : Int)) = false := decide_eq_false c6
        have c6b1 : decide (1048576 < (rd_L2 l0 x3_1).length) = false := decide_eq_false (by omega)
        clear c6
        have H' := Aside0.mk H
        clear H
        have p138 : 0 ≤ (x3_1 : Int) := of_decide_eq_true (by first | (with_reducible assumption) | assumption)
        have q138 : x3_1 < (l0.length : Int) := of_decide_eq_true (by first | (with_reducible assumption) | assumption)
        obtain ⟨ad138, A138_0, c138_0, e138, hx138_0, hl138_0, hi138_0⟩ := at_L2 HR0.out x3_1 p138 q138
        cases e138
        have HR138_0 := Aside0.mk hi138_0
        have HC138_0 := Aside0.mk hl138_0
        clear hi138_0 hl138_0
        replace p138 := eq_true p138
        replace q138 := eq_true q138
        have p139 : 0 ≤ (0 : Int) := (by omega)
        have q139 : 0 < (l0.length : Int) := of_decide_eq_true (by first | (with_reducible assumption) | assumption)
        obtain ⟨ad139, A139_0, c139_0, e139, hx139_0, hl139_0, hi139_0⟩ := at_L2 HR0.out 0 p139 q139
        obtain rfl : ad138 = ad139 := (by injection e139)
        have qi139 : (0 < l0.length) = True := eq_true (by omega)
        (try rw [show ((0 : Int)).toNat = 0 from rfl] at hx139_0)
        (try rw [Addr.add_zero'] at hx139_0)
        have HR139_0 := Aside0.mk hi139_0
        have HC139_0 := Aside0.mk hl139_0
        clear hi139_0 hl139_0
        replace p139 := eq_true p139
        replace q139 := eq_true q139
        have p140 : 0 ≤ (x3_1 : Int) := of_decide_eq_true (by first | (with_reducible assumption) | assumption)
        have q140 : x3_1 < (l0.length : Int) := of_decide_eq_true (by first | (with_reducible assumption) | assumption)
        obtain ⟨ad140, A140_0, c140_0, e140, hx140_0, hl140_0, hi140_0⟩ := at_L2 HR0.out x3_1 p140 q140
        obtain rfl : ad138 = ad140 := (by injection e140)
        have HR140_0 := Aside0.mk hi140_0
        have HC140_0 := Aside0.mk hl140_0
        clear hi140_0 hl140_0
        replace p140 := eq_true p140
        replace q140 := eq_true q140
        have ea_ := Option.some.inj (hx138_0.symm.trans hx140_0)
        injection ea_ with ea_ en_ ec_
        subst ea_
        subst ec_
        clear en_
        go_wp2
        repeat (go_quiet (fail); try go_wp2)
        go_roundg k1
        case measure => have := HK1.out; omega
        case rel => exact ⟨(wrap64 (x3_1 + 1)), (by first | rfl | (simp; done) | (simp [*]; done)), H', ⟨by have := HK1.out; omega⟩, by repeat (first | exact Drawn0.refl _ | apply Drawn0.step)⟩
      ·rw [if_neg c5] at H
       have c5b0 : (((rd_L2 l0 x3_1).length : Int) == ((rd_L2 l0 0).length : Int)) = false := beq_eq_false_iff_ne.mpr c5
       have c5b1 : (((rd_L2 l0 x3_1).length : Int) != ((rd_L2 l0 0).length : Int)) = true := bne_iff_ne.mpr c5
       have c5b2 : ((rd_L2 l0 x3_1).length == (rd_L2 l0 0).length) = false := by first | simpa using c5 | (simp at c5 ⊢; omega)
       obtain rfl := Option.some.inj H
       have p138 : 0 ≤ (x3_1 : Int) := of_decide_eq_true (by first | (with_reducible assumption) | assumption)
       have q138 : x3_1 < (l0.length : Int) := of_decide_eq_true (by first | (with_reducible assumption) | assumption)
       obtain ⟨ad138, A138_0, c138_0, e138, hx138_0, hl138_0, hi138_0⟩ := at_L2 HR0.out x3_1 p138 q138
       cases e138
       have HR138_0 := Aside0.mk hi138_0
       have HC138_0 := Aside0.mk hl138_0
       clear hi138_0 hl138_0
       replace p138 := eq_true p138
       replace q138 := eq_true q138
       have p139 : 0 ≤ (0 : Int) := (by omega)
       have q139 : 0 < (l0.length : Int) := of_decide_eq_true (by first | (with_reducible assumption) | assumption)
       obtain ⟨ad139, A139_0, c139_0, e139, hx139_0, hl139_0, hi139_0⟩ := at_L2 HR0.out 0 p139 q139
       obtain rfl : ad138 = ad139 := (by injection e139)
       have qi139 : (0 < l0.length) = True := eq_true (by omega)
       (try rw [show ((0 : Int)).toNat = 0 from rfl] at hx139_0)
       (try rw [Addr.add_zero'] at hx139_0)
       have HR139_0 := Aside0.mk hi139_0
       have HC139_0 := Aside0.mk hl139_0
       clear hi139_0 hl139_0
       replace p139 := eq_true p139
       replace q139 := eq_true q139
       go_wp2
       repeat (go_quiet (fail); try go_wp2)
       go_ret
       exact ⟨by first | rfl | (simp; done) | (simp [*]; done), by repeat (first | exact Drawn0.refl _ | apply Drawn0.step)⟩
     ·rw [if_neg c4] at H
      exact absurd H (by simp)
    ·rw [if_neg c3] at H
     exact absurd H (by simp)
   ·rw [if_neg c2] at H
    have c2b0 : decide (x3_1 < (l0.length : Int)) = false := decide_eq_false c2
    clear c2
    by_cases c7 : (l0.length : Int) ≥ 1
    ·rw [if_pos c7] at H
     have c7b0 : decide (1 ≤ (l0.length : Int)) = true := decide_eq_true c7
     have c7b1 : decide (1 ≤ l0.length) = true := decide_eq_true (by omega)
     clear c7
     obtain rfl := Option.some.inj H
     go_wp2
     repeat (go_quiet (fail); try go_wp2)
     go_ret
     exact ⟨by first | rfl | (simp; done) | (simp [*]; done), by repeat (first | exact Drawn0.refl _ | apply Drawn0.step)⟩
    ·rw [if_neg c7] at H
     have c7b0 : decide (1 ≤ (l0.length : Int)) = false := decide_eq_false c7
     have c7b1 : decide (1 ≤ l0.length) = false := decide_eq_false (by omega)
     clear c7
     obtain rfl := Option.some.inj H
     go_wp2
     repeat (go_quiet (fail); try go_wp2)
     go_ret
     exact ⟨by first | rfl | (simp; done) | (simp [*]; done), by repeat (first | exact Drawn0.refl _ | apply Drawn0.step)⟩

end Go.Proofs.Ytjcjbbcamkkeiaa.P
