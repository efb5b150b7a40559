-- Written by this session's own program (wip/tools/myprint.py), which runs the kit's print with turns of its own: not a text of the kit's print.sh.
import Derived.Test.YtjcjbbcamkkeiaaPx0
namespace Go.Proofs.Ytjcjbbcamkkeiaa.P
open Go.RowKit Go.Proofs.YtjcjbbcamkkeiaaW.PrintWords Go.Proofs.YtjcjbbcamkkeiaaW.PrintLast Go.Proofs.YtjcjbbcamkkeiaaW.PrintMore
attribute [local go_sem] max2_int min2_int max_two min_two max_three min_three max_four min_four   -- for this text's walks alone
set_option linter.unusedVariables false
set_option linter.unusedSimpArgs false

/-! ### loudness_proper: function 32 -/
def loudness_proper.l0 : Nat → List (List Int) → List (List Int) → Int → Int → Option (Bool)
 | 0, _, _, _, _ => none
 | k + 1, x0, x5, x6, x7 => if x7 < x6 then (if 0 ≤ x7 then (if x7 < (x5.length : Int) then (if 0 < (x0.length : Int) then (if ((rd_L2 x5 x7).length : Int) = ((rd_L2 x0 0).length : Int) then (if ((rd_L2 x5 x7).length : Int) > 1048576 then (some false) else (loudness_proper.l0 k x0 x5 x6 (wrap64 (x7 + 1)))) else (some false)) else (none)) else (none)) else (none)) else (if (x0.length : Int) ≥ 1 then (some (decide ((x0.length : Int) ≤ 4))) else (some false))
def loudness_proper.f (k : Nat) (l0 : List (List Int)) : Option (Bool) := loudness_proper.l0 k l0 l0 (l0.length : Int) 0
theorem loudness_proper.mono_l : ∀ k, (∀ y0 y1 y2 y3, LeO (loudness_proper.l0 k y0 y1 y2 y3) (loudness_proper.l0 (k + 1) y0 y1 y2 y3))
 | 0 => fun _ _ _ _ r h => by simp [loudness_proper.l0] at h
 | k + 1 => by
  have ih0 := loudness_proper.mono_l k
  ·intro y0 y1 y2 y3
   unfold loudness_proper.l0
   repeat' first
   | (with_reducible exact ih0 _ _ _ _)
   | (with_reducible exact LeO.refl _)
   | (with_reducible exact LeO.none _)
   | (with_reducible refine LeO.ite ?_ ?_)
   | (with_reducible refine LeO.bind ?_ (fun _ => ?_))
   | exact ih0 _ _ _ _
   | exact LeO.none _
   | refine LeO.ite ?_ ?_
   | refine LeO.bind ?_ (fun _ => ?_)
theorem loudness_proper.mono : ∀ a0 k, LeO (loudness_proper.f k a0) (loudness_proper.f (k + 1) a0) := by
 intro a0 k
 have ih0 := loudness_proper.mono_l k
 unfold loudness_proper.f
 repeat' first
   | (with_reducible exact ih0 _ _ _ _)
   | (with_reducible exact LeO.refl _)
   | (with_reducible exact LeO.none _)
   | (with_reducible refine LeO.ite ?_ ?_)
   | (with_reducible refine LeO.bind ?_ (fun _ => ?_))
   | exact ih0 _ _ _ _
   | exact LeO.none _
   | refine LeO.ite ?_ ?_
   | refine LeO.bind ?_ (fun _ => ?_)
set_option maxHeartbeats 8000000 in
set_option maxRecDepth 100000 in
theorem loudness_proper.calls (k : Nat) (A0 : Option Addr) (c0 : Nat) (l0 : List (List Int)) (r : Bool) (w : World) (hr0 : Kd.C (Kd.slice 48 (Kd.int .i16)) w A0 l0.length l0) (hc0 : l0.length ≤ c0) (h : loudness_proper.f k l0 = some r) :
  Calls Try.prog 32 #[.slice A0 l0.length c0] w fun e w' => e = .returned (.bool r) ∧ Drawn0 w w' := by
 have HR0 := Aside0.mk hr0
 have HC0 := Aside0.mk hc0
 clear hr0 hc0
 have H : (loudness_proper.l0 k l0 l0 (l0.length : Int) 0) = some r := h
 clear h
 have H' := Aside0.mk H
 clear H
 go_enter Try.func32, Try.ntmps32
 go_wp2
 go_loopg [7] k (fun kq v7 w' => ∃ (x7_1 : Int), v7 = .int .i64 x7_1 ∧ Aside0 (loudness_proper.l0 kq l0 l0 (l0.length : Int) x7_1 = some r) ∧ Aside0 (kq ≤ k) ∧ Drawn0 w w')
 case atStart => exact ⟨(0), (by first | rfl | (simp; done) | (simp [*]; done)), H', ⟨Nat.le_refl _⟩, by repeat (first | exact Drawn0.refl _ | apply Drawn0.step)⟩
 case round =>
  clear H'
  obtain ⟨x7_1, rfl, HA, HK1, ⟨m1, rfl⟩⟩ := hrel
  cases gk with
  | zero => exact absurd HA.out (by simp [loudness_proper.l0])
  | succ k1 =>
   have H := HA.out
   clear HA
   simp only [loudness_proper.l0] at H
   by_cases c2 : x7_1 < (l0.length : Int)
   ·rw [if_pos c2] at H
    have c2b0 : decide (x7_1 < (l0.length : Int)) = true := decide_eq_true c2
    clear c2
    by_cases c3 : 0 ≤ x7_1
    ·rw [if_pos c3] at H
     have c3b0 : decide (0 ≤ x7_1) = true := decide_eq_true c3
     clear c3
     by_cases c4 : x7_1 < (l0.length : Int)
     ·rw [if_pos c4] at H
      have c4b0 : decide (x7_1 < (l0.length : Int)) = true := decide_eq_true c4
      clear c4
      by_cases c5 : 0 < (l0.length : Int)
      ·rw [if_pos c5] at H
       have c5b0 : decide (0 < (l0.length : Int)) = true := decide_eq_true c5
       have c5b1 : decide (0 < l0.length) = true := decide_eq_true (by omega)
       clear c5
       by_cases c6 : ((rd_L2 l0 x7_1).length : Int) = ((rd_L2 l0 0).length : Int)
       ·rw [if_pos c6] at H
        have c6b0 : (((rd_L2 l0 x7_1).length : Int) == ((rd_L2 l0 0).length : Int)) = true := beq_iff_eq.mpr c6
        have c6b1 : (((rd_L2 l0 x7_1).length : Int) != ((rd_L2 l0 0).length : Int)) = false := bne_eq_false_iff_eq.mpr c6
        have c6b2 : ((rd_L2 l0 x7_1).length == (rd_L2 l0 0).length) = true := by first | simpa using c6 | (simp at c6 ⊢; omega)
        clear c6
        by_cases c7 : ((rd_L2 l0 x7_1).length : Int) > 1048576
        ·rw [if_pos c7] at H
         have c7b0 : decide (1048576 < ((rd_L2 l0 x7_1).length : Int)) = true := decide_eq_true c7
         have c7b1 : decide (1048576 < (rd_L2 l0 x7_1).length) = true := decide_eq_true (by omega)
         clear c7
         obtain rfl := Option.some.inj H
         have p125 : 0 ≤ (x7_1 : Int) := of_decide_eq_true (by first | (with_reducible assumption) | assumption)
         have q125 : x7_1 < (l0.length : Int) := of_decide_eq_true (by first | (with_reducible assumption) | assumption)
         obtain ⟨ad125, A125_0, c125_0, e125, hx125_0, hl125_0, hi125_0⟩ := at_L2 HR0.out x7_1 p125 q125
         cases e125
         have HR125_0 := Aside0.mk hi125_0
         have HC125_0 := Aside0.mk hl125_0
         clear hi125_0 hl125_0
         replace p125 := eq_true p125
         replace q125 := eq_true q125
         have p126 : 0 ≤ (0 : Int) := (by omega)
         have q126 : 0 < (l0.length : Int) := of_decide_eq_true (by first | (with_reducible assumption) | assumption)
         obtain ⟨ad126, A126_0, c126_0, e126, hx126_0, hl126_0, hi126_0⟩ := at_L2 HR0.out 0 p126 q126
         obtain rfl : ad125 = ad126 := (by injection e126)
         have qi126 : (0 < l0.length) = True := eq_true (by omega)
         (try rw [show ((0 : Int)).toNat = 0 from rfl] at hx126_0)
         (try rw [Addr.add_zero'] at hx126_0)
         have HR126_0 := Aside0.mk hi126_0
         have HC126_0 := Aside0.mk hl126_0
         clear hi126_0 hl126_0
         replace p126 := eq_true p126
         replace q126 := eq_true q126
         go_wp2
         go_ret
         exact ⟨by first | rfl | (simp; done) | (simp [*]; done), by repeat (first | exact Drawn0.refl _ | apply Drawn0.step)⟩
        ·rw [if_neg c7] at H
         have c7b0 : decide (1048576 < ((rd_L2 l0 x7_1).length : Int)) = false := decide_eq_false c7
         have c7b1 : decide (1048576 < (rd_L2 l0 x7_1).length) = false := decide_eq_false (by omega)
         clear c7
         have H' := Aside0.mk H
         clear H
         have p125 : 0 ≤ (x7_1 : Int) := of_decide_eq_true (by first | (with_reducible assumption) | assumption)
         have q125 : x7_1 < (l0.length : Int) := of_decide_eq_true (by first | (with_reducible assumption) | assumption)
         obtain ⟨ad125, A125_0, c125_0, e125, hx125_0, hl125_0, hi125_0⟩ := at_L2 HR0.out x7_1 p125 q125
         cases e125
         have HR125_0 := Aside0.mk hi125_0
         have HC125_0 := Aside0.mk hl125_0
         clear hi125_0 hl125_0
         replace p125 := eq_true p125
         replace q125 := eq_true q125
         have p126 : 0 ≤ (0 : Int) := (by omega)
         have q126 : 0 < (l0.length : Int) := of_decide_eq_true (by first | (with_reducible assumption) | assumption)
         obtain ⟨ad126, A126_0, c126_0, e126, hx126_0, hl126_0, hi126_0⟩ := at_L2 HR0.out 0 p126 q126
         obtain rfl : ad125 = ad126 := (by injection e126)
         have qi126 : (0 < l0.length) = True := eq_true (by omega)
         (try rw [show ((0 : Int)).toNat = 0 from rfl] at hx126_0)
         (try rw [Addr.add_zero'] at hx126_0)
         have HR126_0 := Aside0.mk hi126_0
         have HC126_0 := Aside0.mk hl126_0
         clear hi126_0 hl126_0
         replace p126 := eq_true p126
         replace q126 := eq_true q126
         go_wp2
         go_roundg k1
         case measure => have := HK1.out; omega
         case rel => exact ⟨(wrap64 (x7_1 + 1)), (by first | rfl | (simp; done) | (simp [*]; done)), H', ⟨by have := HK1.out; omega⟩, by repeat (first | exact Drawn0.refl _ | apply Drawn0.step)⟩
       ·rw [if_neg c6] at H
        have c6b0 : (((rd_L2 l0 x7_1).length : Int) == ((rd_L2 l0 0).length : Int)) = false := beq_eq_false_iff_ne.mpr c6
        have c6b1 : (((rd_L2 l0 x7_1).length : Int) != ((rd_L2 l0 0).length : Int)) = true := bne_iff_ne.mpr c6
        have c6b2 : ((rd_L2 l0 x7_1).length == (rd_L2 l0 0).length) = false := by first | simpa using c6 | (simp at c6 ⊢; omega)
        obtain rfl := Option.some.inj H
        have p125 : 0 ≤ (x7_1 : Int) := of_decide_eq_true (by first | (with_reducible assumption) | assumption)
        have q125 : x7_1 < (l0.length : Int) := of_decide_eq_true (by first | (with_reducible assumption) | assumption)
        obtain ⟨ad125, A125_0, c125_0, e125, hx125_0, hl125_0, hi125_0⟩ := at_L2 HR0.out x7_1 p125 q125
        cases e125
        have HR125_0 := Aside0.mk hi125_0
        have HC125_0 := Aside0.mk hl125_0
        clear hi125_0 hl125_0
        replace p125 := eq_true p125
        replace q125 := eq_true q125
        have p126 : 0 ≤ (0 : Int) := (by omega)
        have q126 : 0 < (l0.length : Int) := of_decide_eq_true (by first | (with_reducible assumption) | assumption)
        obtain ⟨ad126, A126_0, c126_0, e126, hx126_0, hl126_0, hi126_0⟩ := at_L2 HR0.out 0 p126 q126
        obtain rfl : ad125 = ad126 := (by injection e126)
        have qi126 : (0 < l0.length) = True := eq_true (by omega)
        (try rw [show ((0 : Int)).toNat = 0 from rfl] at hx126_0)
        (try rw [Addr.add_zero'] at hx126_0)
        have HR126_0 := Aside0.mk hi126_0
        have HC126_0 := Aside0.mk hl126_0
        clear hi126_0 hl126_0
        replace p126 := eq_true p126
        replace q126 := eq_true q126
        go_wp2
        go_ret
        exact ⟨by first | rfl | (simp; done) | (simp [*]; done), by repeat (first | exact Drawn0.refl _ | apply Drawn0.step)⟩
      ·rw [if_neg c5] at H
       exact absurd H (by simp)
     ·rw [if_neg c4] at H
      exact absurd H (by simp)
    ·rw [if_neg c3] at H
     exact absurd H (by simp)
   ·rw [if_neg c2] at H
    have c2b0 : decide (x7_1 < (l0.length : Int)) = false := decide_eq_false c2
    clear c2
    by_cases c8 : (l0.length : Int) ≥ 1
    ·rw [if_pos c8] at H
     have c8b0 : decide (1 ≤ (l0.length : Int)) = true := decide_eq_true c8
     have c8b1 : decide (1 ≤ l0.length) = true := decide_eq_true (by omega)
     clear c8
     obtain rfl := Option.some.inj H
     go_wp2
     go_ret
     exact ⟨by first | rfl | (simp; done) | (simp [*]; done), by repeat (first | exact Drawn0.refl _ | apply Drawn0.step)⟩
    ·rw [if_neg c8] at H
     have c8b0 : decide (1 ≤ (l0.length : Int)) = false := decide_eq_false c8
     have c8b1 : decide (1 ≤ l0.length) = false := decide_eq_false (by omega)
     clear c8
     obtain rfl := Option.some.inj H
     go_wp2
     go_ret
     exact ⟨by first | rfl | (simp; done) | (simp [*]; done), by repeat (first | exact Drawn0.refl _ | apply Drawn0.step)⟩

end Go.Proofs.Ytjcjbbcamkkeiaa.P
