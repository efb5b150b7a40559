-- Written by this session's own program (wip/tools/myprint.py), which runs the kit's print with turns of its own: not a text of the kit's print.sh.
import Derived.Test.YtdndhbfagoghfaaPx0
import Derived.Test.YtdndhbfagoghfaaPx29
namespace Go.Proofs.Ytdndhbfagoghfaa.P
open Go.RowKit Go.Proofs.YtdndhbfagoghfaaW.PrintWords Go.Proofs.YtdndhbfagoghfaaW.PrintLast Go.Proofs.YtdndhbfagoghfaaW.PrintMore
attribute [local go_sem] max2_int min2_int max_two min_two max_three min_three max_four min_four   -- for this text's walks alone
set_option linter.unusedVariables false
set_option linter.unusedSimpArgs false

/-! ### cutroomref17_Jitter: function 31 -/
mutual
def cutroomref17_Jitter.j0 : Nat → List (S24) → Int → Int → Bool → Option (Int × Int)
  | 0, _, _, _, _ => none
  | k + 1, x0, x1, x2, x21 => if x21 = true then (some (0, 1)) else (cutroomref17_Jitter.l0 k x0 x1 x2 (-1) 0 0)
def cutroomref17_Jitter.l0 : Nat → List (S24) → Int → Int → Int → Int → Int → Option (Int × Int)
  | 0, _, _, _, _, _, _ => none
  | k + 1, x0, x1, x2, x8, x9, x10 => if x10 < (x0.length : Int) then (if 0 ≤ x10 then (if ((rd_T24 x0 x10).f0) = x1 then (if ((rd_T24 x0 x10).f3) < 0 then (cutroomref17_Jitter.j2 k x0 x1 x2 x8 x9 x10 true) else (cutroomref17_Jitter.j2 k x0 x1 x2 x8 x9 x10 (decide (((rd_T24 x0 x10).f3) ≥ 2576980377600)))) else (cutroomref17_Jitter.j2 k x0 x1 x2 x8 x9 x10 true)) else (none)) else (some (x9, 0))
def cutroomref17_Jitter.j2 : Nat → List (S24) → Int → Int → Int → Int → Int → Bool → Option (Int × Int)
  | 0, _, _, _, _, _, _, _ => none
  | k + 1, x0, x1, x2, x8, x9, x10, x50 => if x50 = true then (cutroomref17_Jitter.l0 k x0 x1 x2 x8 x9 (wrap64 (x10 + 1))) else (if x8 < 0 then (cutroomref17_Jitter.j3 k x0 x1 x2 x10 x9 x10) else (cutroomref17_Jitter.j3 k x0 x1 x2 x8 x9 x10))
def cutroomref17_Jitter.j3 : Nat → List (S24) → Int → Int → Int → Int → Int → Option (Int × Int)
  | 0, _, _, _, _, _, _ => none
  | k + 1, x0, x1, x2, x8, x9, x10 => (cutroomref17_Arrival.f k x10 x2).bind fun bt677 => ((cutroomref17_Arrival.f k x8 x2).bind fun bt679 => (if 0 ≤ x10 then (if x10 < (x0.length : Int) then (if 0 ≤ x8 then (if x8 < (x0.length : Int) then (if (Int.tmod (wrap64 ((wrap64 (((rd_T24 x0 x10).f3) - ((rd_T24 x0 x8).f3))) - (Int.tmod (wrap64 (bt677.1 - bt679.1)) 2576980377600))) 2576980377600) < 0 then (cutroomref17_Jitter.l0 k x0 x1 x2 x8 (mx x9 (mn (wrap64 ((Int.tmod (wrap64 ((wrap64 (((rd_T24 x0 x10).f3) - ((rd_T24 x0 x8).f3))) - (Int.tmod (wrap64 (bt677.1 - bt679.1)) 2576980377600))) 2576980377600) + 2576980377600)) (wrap64 (2576980377600 - (wrap64 ((Int.tmod (wrap64 ((wrap64 (((rd_T24 x0 x10).f3) - ((rd_T24 x0 x8).f3))) - (Int.tmod (wrap64 (bt677.1 - bt679.1)) 2576980377600))) 2576980377600) + 2576980377600)))))) (wrap64 (x10 + 1))) else (cutroomref17_Jitter.l0 k x0 x1 x2 x8 (mx x9 (mn (Int.tmod (wrap64 ((wrap64 (((rd_T24 x0 x10).f3) - ((rd_T24 x0 x8).f3))) - (Int.tmod (wrap64 (bt677.1 - bt679.1)) 2576980377600))) 2576980377600) (wrap64 (2576980377600 - (Int.tmod (wrap64 ((wrap64 (((rd_T24 x0 x10).f3) - ((rd_T24 x0 x8).f3))) - (Int.tmod (wrap64 (bt677.1 - bt679.1)) 2576980377600))) 2576980377600))))) (wrap64 (x10 + 1)))) else (none)) else (none)) else (none)) else (none)))
end
def cutroomref17_Jitter.f (k : Nat) (l0 : List (S24)) (a1 : Int) (a2 : Int) : Option (Int × Int) := if a2 < 1 then (cutroomref17_Jitter.j0 k l0 a1 a2 true) else (cutroomref17_Jitter.j0 k l0 a1 a2 (decide (a2 > 1073741824)))
theorem cutroomref17_Jitter.mono_l : ∀ k, (∀ y0 y1 y2 y3, LeO (cutroomref17_Jitter.j0 k y0 y1 y2 y3) (cutroomref17_Jitter.j0 (k + 1) y0 y1 y2 y3)) ∧ (∀ y0 y1 y2 y3 y4 y5, LeO (cutroomref17_Jitter.l0 k y0 y1 y2 y3 y4 y5) (cutroomref17_Jitter.l0 (k + 1) y0 y1 y2 y3 y4 y5)) ∧ (∀ y0 y1 y2 y3 y4 y5 y6, LeO (cutroomref17_Jitter.j2 k y0 y1 y2 y3 y4 y5 y6) (cutroomref17_Jitter.j2 (k + 1) y0 y1 y2 y3 y4 y5 y6)) ∧ (∀ y0 y1 y2 y3 y4 y5, LeO (cutroomref17_Jitter.j3 k y0 y1 y2 y3 y4 y5) (cutroomref17_Jitter.j3 (k + 1) y0 y1 y2 y3 y4 y5))
  | 0 => ⟨fun _ _ _ _ r h => by simp [cutroomref17_Jitter.j0] at h, fun _ _ _ _ _ _ r h => by simp [cutroomref17_Jitter.l0] at h, fun _ _ _ _ _ _ _ r h => by simp [cutroomref17_Jitter.j2] at h, fun _ _ _ _ _ _ r h => by simp [cutroomref17_Jitter.j3] at h⟩
  | k + 1 => by
    obtain ⟨ih0, ih1, ih2, ih3⟩ := cutroomref17_Jitter.mono_l k
    refine ⟨?_, ?_, ?_, ?_⟩
    · intro y0 y1 y2 y3
      unfold cutroomref17_Jitter.j0
      repeat' first
      | (with_reducible exact ih0 _ _ _ _)
      | (with_reducible exact ih1 _ _ _ _ _ _)
      | (with_reducible exact ih2 _ _ _ _ _ _ _)
      | (with_reducible exact ih3 _ _ _ _ _ _)
      | (with_reducible exact cutroomref17_Arrival.mono _ _ _)
      | (with_reducible exact LeO.refl _)
      | (with_reducible exact LeO.none _)
      | (with_reducible refine LeO.ite ?_ ?_)
      | (with_reducible refine LeO.bind ?_ (fun _ => ?_))
      | exact ih0 _ _ _ _
      | exact ih1 _ _ _ _ _ _
      | exact ih2 _ _ _ _ _ _ _
      | exact ih3 _ _ _ _ _ _
      | exact cutroomref17_Arrival.mono _ _ _
      | exact LeO.none _
      | refine LeO.ite ?_ ?_
      | refine LeO.bind ?_ (fun _ => ?_)
    · intro y0 y1 y2 y3 y4 y5
      unfold cutroomref17_Jitter.l0
      repeat' first
      | (with_reducible exact ih0 _ _ _ _)
      | (with_reducible exact ih1 _ _ _ _ _ _)
      | (with_reducible exact ih2 _ _ _ _ _ _ _)
      | (with_reducible exact ih3 _ _ _ _ _ _)
      | (with_reducible exact cutroomref17_Arrival.mono _ _ _)
      | (with_reducible exact LeO.refl _)
      | (with_reducible exact LeO.none _)
      | (with_reducible refine LeO.ite ?_ ?_)
      | (with_reducible refine LeO.bind ?_ (fun _ => ?_))
      | exact ih0 _ _ _ _
      | exact ih1 _ _ _ _ _ _
      | exact ih2 _ _ _ _ _ _ _
      | exact ih3 _ _ _ _ _ _
      | exact cutroomref17_Arrival.mono _ _ _
      | exact LeO.none _
      | refine LeO.ite ?_ ?_
      | refine LeO.bind ?_ (fun _ => ?_)
    · intro y0 y1 y2 y3 y4 y5 y6
      unfold cutroomref17_Jitter.j2
      repeat' first
      | (with_reducible exact ih0 _ _ _ _)
      | (with_reducible exact ih1 _ _ _ _ _ _)
      | (with_reducible exact ih2 _ _ _ _ _ _ _)
      | (with_reducible exact ih3 _ _ _ _ _ _)
      | (with_reducible exact cutroomref17_Arrival.mono _ _ _)
      | (with_reducible exact LeO.refl _)
      | (with_reducible exact LeO.none _)
      | (with_reducible refine LeO.ite ?_ ?_)
      | (with_reducible refine LeO.bind ?_ (fun _ => ?_))
      | exact ih0 _ _ _ _
      | exact ih1 _ _ _ _ _ _
      | exact ih2 _ _ _ _ _ _ _
      | exact ih3 _ _ _ _ _ _
      | exact cutroomref17_Arrival.mono _ _ _
      | exact LeO.none _
      | refine LeO.ite ?_ ?_
      | refine LeO.bind ?_ (fun _ => ?_)
    · intro y0 y1 y2 y3 y4 y5
      unfold cutroomref17_Jitter.j3
      repeat' first
      | (with_reducible exact ih0 _ _ _ _)
      | (with_reducible exact ih1 _ _ _ _ _ _)
      | (with_reducible exact ih2 _ _ _ _ _ _ _)
      | (with_reducible exact ih3 _ _ _ _ _ _)
      | (with_reducible exact cutroomref17_Arrival.mono _ _ _)
      | (with_reducible exact LeO.refl _)
      | (with_reducible exact LeO.none _)
      | (with_reducible refine LeO.ite ?_ ?_)
      | (with_reducible refine LeO.bind ?_ (fun _ => ?_))
      | exact ih0 _ _ _ _
      | exact ih1 _ _ _ _ _ _
      | exact ih2 _ _ _ _ _ _ _
      | exact ih3 _ _ _ _ _ _
      | exact cutroomref17_Arrival.mono _ _ _
      | exact LeO.none _
      | refine LeO.ite ?_ ?_
      | refine LeO.bind ?_ (fun _ => ?_)
theorem cutroomref17_Jitter.mono : ∀ a0 a1 a2 k, LeO (cutroomref17_Jitter.f k a0 a1 a2) (cutroomref17_Jitter.f (k + 1) a0 a1 a2) := by
  intro a0 a1 a2 k
  obtain ⟨ih0, ih1, ih2, ih3⟩ := cutroomref17_Jitter.mono_l k
  unfold cutroomref17_Jitter.f
  repeat' first
      | (with_reducible exact ih0 _ _ _ _)
      | (with_reducible exact ih1 _ _ _ _ _ _)
      | (with_reducible exact ih2 _ _ _ _ _ _ _)
      | (with_reducible exact ih3 _ _ _ _ _ _)
      | (with_reducible exact cutroomref17_Arrival.mono _ _ _)
      | (with_reducible exact LeO.refl _)
      | (with_reducible exact LeO.none _)
      | (with_reducible refine LeO.ite ?_ ?_)
      | (with_reducible refine LeO.bind ?_ (fun _ => ?_))
      | exact ih0 _ _ _ _
      | exact ih1 _ _ _ _ _ _
      | exact ih2 _ _ _ _ _ _ _
      | exact ih3 _ _ _ _ _ _
      | exact cutroomref17_Arrival.mono _ _ _
      | exact LeO.none _
      | refine LeO.ite ?_ ?_
      | refine LeO.bind ?_ (fun _ => ?_)
set_option maxHeartbeats 8000000 in
set_option maxRecDepth 100000 in
theorem cutroomref17_Jitter.calls (k : Nat) (A0 : Option Addr) (c0 : Nat) (l0 : List (S24)) (a1 : Int) (a2 : Int) (r1 : Int) (r2 : Int) (w : World) (hr0 : Kd.C k24 w A0 l0.length l0) (hc0 : l0.length ≤ c0) (h : cutroomref17_Jitter.f k l0 a1 a2 = some (r1, r2)) :
    Calls Try.prog 31 #[.slice A0 l0.length c0, .int .i64 a1, .int .i64 a2] w fun e w' => e = .returned (.tuple #[.int .i64 r1, .int .i64 r2]) ∧ Below w.heap.size w w' := by
  have HR0 := Aside0.mk hr0
  have HC0 := Aside0.mk hc0
  clear hr0 hc0
  have HB := Aside0.mk (Below.refl w.heap.size w)
  have H : (if a2 < 1 then (cutroomref17_Jitter.j0 k l0 a1 a2 true) else (cutroomref17_Jitter.j0 k l0 a1 a2 (decide (a2 > 1073741824)))) = some (r1, r2) := h
  clear h
  have HC4 := Aside0.mk H
  clear H
  go_enter Try.func31, Try.ntmps31
  go_upto_region 1 with (fail)
  repeat (go_quiet (fail); go_upto_region 1 with (fail))
  go_cut [21] (fun v21 wc => ∃ (kq : Nat) (x21_3 : Bool), v21 = .bool x21_3 ∧ Aside0 (cutroomref17_Jitter.j0 kq l0 a1 a2 x21_3 = some (r1, r2)) ∧ Aside0 (kq ≤ k) ∧ Aside0 (Below w.heap.size w wc))
  case first =>
    have H := HC4.out
    clear HC4
    by_cases c5 : a2 < 1
    · rw [if_pos c5] at H
      have c5b0 : decide (a2 < 1) = true := decide_eq_true c5
      clear c5
      (first | rw [c5b0] | (simp only [i64_w, i32_w]; rw [c5b0]) | skip)
      have H' := Aside0.mk H
      clear H
      go_wp2
      repeat (go_quiet (fail); try go_wp2)
      go_meet
      case rel => exact ⟨_, (true), (by first | rfl | (simp; done) | (simp [*]; done)), H', ⟨by first | omega | exact Nat.le_refl _⟩, ⟨by repeat (first | (with_reducible first | exact HB.out | apply below_alloc | apply pw_below_drewN | apply below_drew1) | exact HB.out)⟩⟩
    · rw [if_neg c5] at H
      have c5b0 : decide (a2 < 1) = false := decide_eq_false c5
      clear c5
      (first | rw [c5b0] | (simp only [i64_w, i32_w]; rw [c5b0]) | skip)
      have H' := Aside0.mk H
      clear H
      go_wp2
      repeat (go_quiet (fail); try go_wp2)
      go_meet
      case rel => exact ⟨_, (decide (a2 > 1073741824)), (by first | rfl | (simp; done) | (simp [*]; done)), H', ⟨by first | omega | exact Nat.le_refl _⟩, ⟨by repeat (first | (with_reducible first | exact HB.out | apply below_alloc | apply pw_below_drewN | apply below_drew1) | exact HB.out)⟩⟩
  case rest =>
    clear HC4
    try clear p2
    try clear c3
    try clear c5
    try clear c5b0
    obtain ⟨kq, x21_3, rfl, HA, HJ3, HB⟩ := hcut
    cases kq with
    | zero => exact absurd HA.out (by simp [cutroomref17_Jitter.j0])
    | succ kj3 =>
      have H := HA.out
      clear HA
      simp only [cutroomref17_Jitter.j0] at H
      by_cases c6 : x21_3 = true
      · subst c6
        have H1 : (some (0, 1)) = some (r1, r2) := by rw [if_pos rfl] at H; exact H
        clear H
        have H := H1
        clear H1
        simp only [Option.some.injEq, Prod.mk.injEq] at H
        obtain ⟨rfl, rfl⟩ := H
        go_wp2
        repeat (go_quiet (fail); try go_wp2)
        go_ret2
        exact ⟨by first | rfl | (simp [errW_none, errW_some] <;> rfl) | (simp [*, errW_none, errW_some] <;> rfl), by repeat (first | (with_reducible first | exact HB.out | apply below_alloc | apply pw_below_drewN | apply below_drew1) | exact HB.out)⟩
      · replace c6 := Bool.eq_false_iff.mpr c6
        subst c6
        have H1 : (cutroomref17_Jitter.l0 kj3 l0 a1 a2 (-1) 0 0) = some (r1, r2) := by rw [if_neg (show ¬ (false = true) by decide)] at H; exact H
        clear H
        have H := H1
        clear H1
        have H' := Aside0.mk H
        clear H
        go_wp2
        repeat (go_quiet (fail); try go_wp2)
        go_loopg [8, 9, 10] kj3 (fun kq v8 v9 v10 w' => ∃ (x8_2 : Int) (x9_2 : Int) (x10_2 : Int), v8 = .int .i64 x8_2 ∧ v9 = .int .i64 x9_2 ∧ v10 = .int .i64 x10_2 ∧ Aside0 (cutroomref17_Jitter.l0 kq l0 a1 a2 x8_2 x9_2 x10_2 = some (r1, r2)) ∧ Aside0 (kq ≤ kj3) ∧ Aside0 (Below w.heap.size w w'))
        case atStart => exact ⟨((-1)), (0), (0), (by first | rfl | (simp; done) | (simp [*]; done)), (by first | rfl | (simp; done) | (simp [*]; done)), (by first | rfl | (simp; done) | (simp [*]; done)), H', ⟨Nat.le_refl _⟩, ⟨by repeat (first | (with_reducible first | exact HB.out | apply below_alloc | apply pw_below_drewN | apply below_drew1) | exact HB.out)⟩⟩
        case round =>
          clear H'
          try clear p2
          try clear c3
          try clear c5
          try clear c5b0
          try clear c6
          try clear p2
          obtain ⟨x8_2, x9_2, x10_2, rfl, rfl, rfl, HA, HK2, HB⟩ := hrel
          cases gk with
          | zero => exact absurd HA.out (by simp [cutroomref17_Jitter.l0])
          | succ k2 =>
            have H := HA.out
            clear HA
            simp only [cutroomref17_Jitter.l0] at H
            by_cases c7 : x10_2 < (l0.length : Int)
            · rw [if_pos c7] at H
              have c7b0 : decide (x10_2 < (l0.length : Int)) = true := decide_eq_true c7
              clear c7
              have HC8 := Aside0.mk H
              clear H
              go_upto_region 7 with (fail)
              repeat (go_quiet (fail); go_upto_region 7 with (fail))
              go_cut [50] (fun v50 wc => ∃ (kq : Nat) (x50_7 : Bool), v50 = .bool x50_7 ∧ Aside0 (cutroomref17_Jitter.j2 kq l0 a1 a2 x8_2 x9_2 x10_2 x50_7 = some (r1, r2)) ∧ Aside0 (kq ≤ k2) ∧ Aside0 (Below w.heap.size w wc))
              case first =>
                have H := HC8.out
                clear HC8
                by_cases c9 : 0 ≤ x10_2
                · rw [if_pos c9] at H
                  have c9b0 : decide (0 ≤ x10_2) = true := decide_eq_true c9
                  clear c9
                  (first | rw [c9b0] | (simp only [i64_w, i32_w]; rw [c9b0]) | skip)
                  by_cases c10 : ((rd_T24 l0 x10_2).f0) = a1
                  · rw [if_pos c10] at H
                    have c10b0 : (((rd_T24 l0 x10_2).f0) == a1) = true := beq_iff_eq.mpr c10
                    have c10b1 : (((rd_T24 l0 x10_2).f0) != a1) = false := bne_eq_false_iff_eq.mpr c10
                    clear c10
                    by_cases c11 : ((rd_T24 l0 x10_2).f3) < 0
                    · rw [if_pos c11] at H
                      have c11b0 : decide (((rd_T24 l0 x10_2).f3) < 0) = true := decide_eq_true c11
                      clear c11
                      have H' := Aside0.mk H
                      clear H
                      have p674 : 0 ≤ (x10_2 : Int) := of_decide_eq_true (by first | (with_reducible assumption) | assumption)
                      have q674 : x10_2 < (l0.length : Int) := of_decide_eq_true (by first | (with_reducible assumption) | assumption)
                      obtain ⟨ad674, A674_4, c674_4, e674, hx674_0, hx674_1, hx674_2, hx674_3, hx674_4, hl674_4, hi674_4⟩ := at_T24 HR0.out x10_2 p674 q674
                      cases e674
                      replace hx674_0 := (HB.out.cell (World.block_lt_of_cell? w _ hx674_0)).trans hx674_0
                      replace hx674_1 := (HB.out.cell (World.block_lt_of_cell? w _ hx674_1)).trans hx674_1
                      replace hx674_2 := (HB.out.cell (World.block_lt_of_cell? w _ hx674_2)).trans hx674_2
                      replace hx674_3 := (HB.out.cell (World.block_lt_of_cell? w _ hx674_3)).trans hx674_3
                      replace hx674_4 := (HB.out.cell (World.block_lt_of_cell? w _ hx674_4)).trans hx674_4
                      have HR674_4 := Aside0.mk hi674_4
                      have HC674_4 := Aside0.mk hl674_4
                      clear hi674_4 hl674_4
                      replace p674 := eq_true p674
                      replace q674 := eq_true q674
                      have p675 : 0 ≤ (x10_2 : Int) := of_decide_eq_true (by first | (with_reducible assumption) | assumption)
                      have q675 : x10_2 < (l0.length : Int) := of_decide_eq_true (by first | (with_reducible assumption) | assumption)
                      obtain ⟨ad675, A675_4, c675_4, e675, hx675_0, hx675_1, hx675_2, hx675_3, hx675_4, hl675_4, hi675_4⟩ := at_T24 HR0.out x10_2 p675 q675
                      obtain rfl : ad674 = ad675 := (by injection e675)
                      replace hx675_0 := (HB.out.cell (World.block_lt_of_cell? w _ hx675_0)).trans hx675_0
                      replace hx675_1 := (HB.out.cell (World.block_lt_of_cell? w _ hx675_1)).trans hx675_1
                      replace hx675_2 := (HB.out.cell (World.block_lt_of_cell? w _ hx675_2)).trans hx675_2
                      replace hx675_3 := (HB.out.cell (World.block_lt_of_cell? w _ hx675_3)).trans hx675_3
                      replace hx675_4 := (HB.out.cell (World.block_lt_of_cell? w _ hx675_4)).trans hx675_4
                      have HR675_4 := Aside0.mk hi675_4
                      have HC675_4 := Aside0.mk hl675_4
                      clear hi675_4 hl675_4
                      replace p675 := eq_true p675
                      replace q675 := eq_true q675
                      have ea_ := Option.some.inj (hx674_4.symm.trans hx675_4)
                      injection ea_ with ea_ en_ ec_
                      subst ea_
                      subst ec_
                      clear en_
                      go_wp2
                      repeat (go_quiet (fail); try go_wp2)
                      go_meet
                      case rel => exact ⟨_, (true), (by first | rfl | (simp; done) | (simp [*]; done)), H', ⟨by have := HJ3.out; have := HK2.out; first | omega | exact Nat.le_refl _⟩, ⟨by repeat (first | (with_reducible first | exact HB.out | apply below_alloc | apply pw_below_drewN | apply below_drew1) | exact HB.out)⟩⟩
                    · rw [if_neg c11] at H
                      have c11b0 : decide (((rd_T24 l0 x10_2).f3) < 0) = false := decide_eq_false c11
                      clear c11
                      have H' := Aside0.mk H
                      clear H
                      have p674 : 0 ≤ (x10_2 : Int) := of_decide_eq_true (by first | (with_reducible assumption) | assumption)
                      have q674 : x10_2 < (l0.length : Int) := of_decide_eq_true (by first | (with_reducible assumption) | assumption)
                      obtain ⟨ad674, A674_4, c674_4, e674, hx674_0, hx674_1, hx674_2, hx674_3, hx674_4, hl674_4, hi674_4⟩ := at_T24 HR0.out x10_2 p674 q674
                      cases e674
                      replace hx674_0 := (HB.out.cell (World.block_lt_of_cell? w _ hx674_0)).trans hx674_0
                      replace hx674_1 := (HB.out.cell (World.block_lt_of_cell? w _ hx674_1)).trans hx674_1
                      replace hx674_2 := (HB.out.cell (World.block_lt_of_cell? w _ hx674_2)).trans hx674_2
                      replace hx674_3 := (HB.out.cell (World.block_lt_of_cell? w _ hx674_3)).trans hx674_3
                      replace hx674_4 := (HB.out.cell (World.block_lt_of_cell? w _ hx674_4)).trans hx674_4
                      have HR674_4 := Aside0.mk hi674_4
                      have HC674_4 := Aside0.mk hl674_4
                      clear hi674_4 hl674_4
                      replace p674 := eq_true p674
                      replace q674 := eq_true q674
                      have p675 : 0 ≤ (x10_2 : Int) := of_decide_eq_true (by first | (with_reducible assumption) | assumption)
                      have q675 : x10_2 < (l0.length : Int) := of_decide_eq_true (by first | (with_reducible assumption) | assumption)
                      obtain ⟨ad675, A675_4, c675_4, e675, hx675_0, hx675_1, hx675_2, hx675_3, hx675_4, hl675_4, hi675_4⟩ := at_T24 HR0.out x10_2 p675 q675
                      obtain rfl : ad674 = ad675 := (by injection e675)
                      replace hx675_0 := (HB.out.cell (World.block_lt_of_cell? w _ hx675_0)).trans hx675_0
                      replace hx675_1 := (HB.out.cell (World.block_lt_of_cell? w _ hx675_1)).trans hx675_1
                      replace hx675_2 := (HB.out.cell (World.block_lt_of_cell? w _ hx675_2)).trans hx675_2
                      replace hx675_3 := (HB.out.cell (World.block_lt_of_cell? w _ hx675_3)).trans hx675_3
                      replace hx675_4 := (HB.out.cell (World.block_lt_of_cell? w _ hx675_4)).trans hx675_4
                      have HR675_4 := Aside0.mk hi675_4
                      have HC675_4 := Aside0.mk hl675_4
                      clear hi675_4 hl675_4
                      replace p675 := eq_true p675
                      replace q675 := eq_true q675
                      have ea_ := Option.some.inj (hx674_4.symm.trans hx675_4)
                      injection ea_ with ea_ en_ ec_
                      subst ea_
                      subst ec_
                      clear en_
                      have p676 : 0 ≤ (x10_2 : Int) := of_decide_eq_true (by first | (with_reducible assumption) | assumption)
                      have q676 : x10_2 < (l0.length : Int) := of_decide_eq_true (by first | (with_reducible assumption) | assumption)
                      obtain ⟨ad676, A676_4, c676_4, e676, hx676_0, hx676_1, hx676_2, hx676_3, hx676_4, hl676_4, hi676_4⟩ := at_T24 HR0.out x10_2 p676 q676
                      obtain rfl : ad674 = ad676 := (by injection e676)
                      replace hx676_0 := (HB.out.cell (World.block_lt_of_cell? w _ hx676_0)).trans hx676_0
                      replace hx676_1 := (HB.out.cell (World.block_lt_of_cell? w _ hx676_1)).trans hx676_1
                      replace hx676_2 := (HB.out.cell (World.block_lt_of_cell? w _ hx676_2)).trans hx676_2
                      replace hx676_3 := (HB.out.cell (World.block_lt_of_cell? w _ hx676_3)).trans hx676_3
                      replace hx676_4 := (HB.out.cell (World.block_lt_of_cell? w _ hx676_4)).trans hx676_4
                      have HR676_4 := Aside0.mk hi676_4
                      have HC676_4 := Aside0.mk hl676_4
                      clear hi676_4 hl676_4
                      replace p676 := eq_true p676
                      replace q676 := eq_true q676
                      have ea_ := Option.some.inj (hx674_4.symm.trans hx676_4)
                      injection ea_ with ea_ en_ ec_
                      subst ea_
                      subst ec_
                      clear en_
                      go_wp2
                      repeat (go_quiet (fail); try go_wp2)
                      go_meet
                      case rel => exact ⟨_, (decide (((rd_T24 l0 x10_2).f3) ≥ 2576980377600)), (by first | rfl | (simp; done) | (simp [*]; done)), H', ⟨by have := HJ3.out; have := HK2.out; first | omega | exact Nat.le_refl _⟩, ⟨by repeat (first | (with_reducible first | exact HB.out | apply below_alloc | apply pw_below_drewN | apply below_drew1) | exact HB.out)⟩⟩
                  · rw [if_neg c10] at H
                    have c10b0 : (((rd_T24 l0 x10_2).f0) == a1) = false := beq_eq_false_iff_ne.mpr c10
                    have c10b1 : (((rd_T24 l0 x10_2).f0) != a1) = true := bne_iff_ne.mpr c10
                    have H' := Aside0.mk H
                    clear H
                    have p674 : 0 ≤ (x10_2 : Int) := of_decide_eq_true (by first | (with_reducible assumption) | assumption)
                    have q674 : x10_2 < (l0.length : Int) := of_decide_eq_true (by first | (with_reducible assumption) | assumption)
                    obtain ⟨ad674, A674_4, c674_4, e674, hx674_0, hx674_1, hx674_2, hx674_3, hx674_4, hl674_4, hi674_4⟩ := at_T24 HR0.out x10_2 p674 q674
                    cases e674
                    replace hx674_0 := (HB.out.cell (World.block_lt_of_cell? w _ hx674_0)).trans hx674_0
                    replace hx674_1 := (HB.out.cell (World.block_lt_of_cell? w _ hx674_1)).trans hx674_1
                    replace hx674_2 := (HB.out.cell (World.block_lt_of_cell? w _ hx674_2)).trans hx674_2
                    replace hx674_3 := (HB.out.cell (World.block_lt_of_cell? w _ hx674_3)).trans hx674_3
                    replace hx674_4 := (HB.out.cell (World.block_lt_of_cell? w _ hx674_4)).trans hx674_4
                    have HR674_4 := Aside0.mk hi674_4
                    have HC674_4 := Aside0.mk hl674_4
                    clear hi674_4 hl674_4
                    replace p674 := eq_true p674
                    replace q674 := eq_true q674
                    go_wp2
                    repeat (go_quiet (fail); try go_wp2)
                    go_meet
                    case rel => exact ⟨_, (true), (by first | rfl | (simp; done) | (simp [*]; done)), H', ⟨by have := HJ3.out; have := HK2.out; first | omega | exact Nat.le_refl _⟩, ⟨by repeat (first | (with_reducible first | exact HB.out | apply below_alloc | apply pw_below_drewN | apply below_drew1) | exact HB.out)⟩⟩
                · rw [if_neg c9] at H
                  exact absurd H (by simp)
              case rest =>
                clear HC8
                try clear c1
                try clear p2
                try clear c3
                try clear c5
                try clear c5b0
                try clear c6
                try clear p6
                try clear q6
                try clear hx6
                try clear c7
                try clear c7b0
                try clear c9
                try clear c9b0
                try clear c10
                try clear c10b0
                try clear c10b1
                try clear c11
                try clear c11b0
                try clear hx674_0
                try clear hx674_1
                try clear hx674_2
                try clear hx674_3
                try clear hx674_4
                try clear hx675_0
                try clear hx675_1
                try clear hx675_2
                try clear hx675_3
                try clear hx675_4
                try clear hx676_0
                try clear hx676_1
                try clear hx676_2
                try clear hx676_3
                try clear hx676_4
                try clear p2
                try clear p674
                try clear p675
                try clear p676
                try clear q674
                try clear q675
                try clear q676
                obtain ⟨kq, x50_7, rfl, HA, HJ7, HB⟩ := hcut
                cases kq with
                | zero => exact absurd HA.out (by simp [cutroomref17_Jitter.j2])
                | succ kj7 =>
                  have H := HA.out
                  clear HA
                  simp only [cutroomref17_Jitter.j2] at H
                  by_cases c12 : x50_7 = true
                  · subst c12
                    have H1 : (cutroomref17_Jitter.l0 kj7 l0 a1 a2 x8_2 x9_2 (wrap64 (x10_2 + 1))) = some (r1, r2) := by rw [if_pos rfl] at H; exact H
                    clear H
                    have H := H1
                    clear H1
                    have H' := Aside0.mk H
                    clear H
                    go_wp2
                    repeat (go_quiet (fail); try go_wp2)
                    go_roundg kj7
                    case measure => have := HJ3.out; have := HK2.out; have := HJ7.out; omega
                    case rel => exact ⟨(x8_2), (x9_2), (wrap64 (x10_2 + 1)), (by first | rfl | (simp; done) | (simp [*]; done)), (by first | rfl | (simp; done) | (simp [*]; done)), (by first | rfl | (simp; done) | (simp [*]; done)), H', ⟨by have := HJ3.out; have := HK2.out; have := HJ7.out; omega⟩, ⟨by repeat (first | (with_reducible first | exact HB.out | apply below_alloc | apply pw_below_drewN | apply below_drew1) | exact HB.out)⟩⟩
                  · replace c12 := Bool.eq_false_iff.mpr c12
                    subst c12
                    have H1 : (if x8_2 < 0 then (cutroomref17_Jitter.j3 kj7 l0 a1 a2 x10_2 x9_2 x10_2) else (cutroomref17_Jitter.j3 kj7 l0 a1 a2 x8_2 x9_2 x10_2)) = some (r1, r2) := by rw [if_neg (show ¬ (false = true) by decide)] at H; exact H
                    clear H
                    have H := H1
                    clear H1
                    have HC13 := Aside0.mk H
                    clear H
                    go_upto_if 52 with (fail)
                    repeat (go_quiet (fail); go_upto_if 52 with (fail))
                    go_cut [8] (fun v8 wc => ∃ (kq : Nat) (x8_12 : Int), v8 = .int .i64 x8_12 ∧ Aside0 (cutroomref17_Jitter.j3 kq l0 a1 a2 x8_12 x9_2 x10_2 = some (r1, r2)) ∧ Aside0 (kq ≤ kj7) ∧ Aside0 (Below w.heap.size w wc))
                    case first =>
                      have H := HC13.out
                      clear HC13
                      by_cases c14 : x8_2 < 0
                      · rw [if_pos c14] at H
                        have c14b0 : decide (x8_2 < 0) = true := decide_eq_true c14
                        clear c14
                        (first | rw [c14b0] | (simp only [i64_w, i32_w]; rw [c14b0]) | skip)
                        have H' := Aside0.mk H
                        clear H
                        go_wp2
                        repeat (go_quiet (fail); try go_wp2)
                        go_meet
                        case rel => exact ⟨_, (x10_2), (by first | rfl | (simp; done) | (simp [*]; done)), H', ⟨by have := HJ3.out; have := HK2.out; have := HJ7.out; first | omega | exact Nat.le_refl _⟩, ⟨by repeat (first | (with_reducible first | exact HB.out | apply below_alloc | apply pw_below_drewN | apply below_drew1) | exact HB.out)⟩⟩
                      · rw [if_neg c14] at H
                        have c14b0 : decide (x8_2 < 0) = false := decide_eq_false c14
                        clear c14
                        (first | rw [c14b0] | (simp only [i64_w, i32_w]; rw [c14b0]) | skip)
                        have H' := Aside0.mk H
                        clear H
                        go_wp2
                        repeat (go_quiet (fail); try go_wp2)
                        go_meet
                        case rel => exact ⟨_, (x8_2), (by first | rfl | (simp; done) | (simp [*]; done)), H', ⟨by have := HJ3.out; have := HK2.out; have := HJ7.out; first | omega | exact Nat.le_refl _⟩, ⟨by repeat (first | (with_reducible first | exact HB.out | apply below_alloc | apply pw_below_drewN | apply below_drew1) | exact HB.out)⟩⟩
                    case rest =>
                      clear HC13
                      try clear c1
                      try clear p2
                      try clear c3
                      try clear c5
                      try clear c5b0
                      try clear c6
                      try clear p6
                      try clear q6
                      try clear hx6
                      try clear c7
                      try clear c7b0
                      try clear c9
                      try clear c9b0
                      try clear c10
                      try clear c10b0
                      try clear c10b1
                      try clear c11
                      try clear c11b0
                      try clear c12
                      try clear c14
                      try clear c14b0
                      try clear hx674_0
                      try clear hx674_1
                      try clear hx674_2
                      try clear hx674_3
                      try clear hx674_4
                      try clear hx675_0
                      try clear hx675_1
                      try clear hx675_2
                      try clear hx675_3
                      try clear hx675_4
                      try clear hx676_0
                      try clear hx676_1
                      try clear hx676_2
                      try clear hx676_3
                      try clear hx676_4
                      try clear p2
                      try clear p6
                      try clear p674
                      try clear p675
                      try clear p676
                      try clear q6
                      try clear q674
                      try clear q675
                      try clear q676
                      obtain ⟨kq, x8_12, rfl, HA, HJ12, HB⟩ := hcut
                      cases kq with
                      | zero => exact absurd HA.out (by simp [cutroomref17_Jitter.j3])
                      | succ kj12 =>
                        have H := HA.out
                        clear HA
                        simp only [cutroomref17_Jitter.j3] at H
                        replace H := Option.bind_eq_some_iff.mp H
                        obtain ⟨⟨t677, t678⟩, A150, H⟩ := H
                        replace H : ((cutroomref17_Arrival.f kj12 x8_12 a2).bind fun bt679 => (if 0 ≤ x10_2 then (if x10_2 < (l0.length : Int) then (if 0 ≤ x8_12 then (if x8_12 < (l0.length : Int) then (if (Int.tmod (wrap64 ((wrap64 (((rd_T24 l0 x10_2).f3) - ((rd_T24 l0 x8_12).f3))) - (Int.tmod (wrap64 (t677 - bt679.1)) 2576980377600))) 2576980377600) < 0 then (cutroomref17_Jitter.l0 kj12 l0 a1 a2 x8_12 (mx x9_2 (mn (wrap64 ((Int.tmod (wrap64 ((wrap64 (((rd_T24 l0 x10_2).f3) - ((rd_T24 l0 x8_12).f3))) - (Int.tmod (wrap64 (t677 - bt679.1)) 2576980377600))) 2576980377600) + 2576980377600)) (wrap64 (2576980377600 - (wrap64 ((Int.tmod (wrap64 ((wrap64 (((rd_T24 l0 x10_2).f3) - ((rd_T24 l0 x8_12).f3))) - (Int.tmod (wrap64 (t677 - bt679.1)) 2576980377600))) 2576980377600) + 2576980377600)))))) (wrap64 (x10_2 + 1))) else (cutroomref17_Jitter.l0 kj12 l0 a1 a2 x8_12 (mx x9_2 (mn (Int.tmod (wrap64 ((wrap64 (((rd_T24 l0 x10_2).f3) - ((rd_T24 l0 x8_12).f3))) - (Int.tmod (wrap64 (t677 - bt679.1)) 2576980377600))) 2576980377600) (wrap64 (2576980377600 - (Int.tmod (wrap64 ((wrap64 (((rd_T24 l0 x10_2).f3) - ((rd_T24 l0 x8_12).f3))) - (Int.tmod (wrap64 (t677 - bt679.1)) 2576980377600))) 2576980377600))))) (wrap64 (x10_2 + 1)))) else (none)) else (none)) else (none)) else (none))) = some (r1, r2) := H
                        have A15 := Aside0.mk A150
                        clear A150
                        replace H := Option.bind_eq_some_iff.mp H
                        obtain ⟨⟨t679, t680⟩, A160, H⟩ := H
                        replace H : (if 0 ≤ x10_2 then (if x10_2 < (l0.length : Int) then (if 0 ≤ x8_12 then (if x8_12 < (l0.length : Int) then (if (Int.tmod (wrap64 ((wrap64 (((rd_T24 l0 x10_2).f3) - ((rd_T24 l0 x8_12).f3))) - (Int.tmod (wrap64 (t677 - t679)) 2576980377600))) 2576980377600) < 0 then (cutroomref17_Jitter.l0 kj12 l0 a1 a2 x8_12 (mx x9_2 (mn (wrap64 ((Int.tmod (wrap64 ((wrap64 (((rd_T24 l0 x10_2).f3) - ((rd_T24 l0 x8_12).f3))) - (Int.tmod (wrap64 (t677 - t679)) 2576980377600))) 2576980377600) + 2576980377600)) (wrap64 (2576980377600 - (wrap64 ((Int.tmod (wrap64 ((wrap64 (((rd_T24 l0 x10_2).f3) - ((rd_T24 l0 x8_12).f3))) - (Int.tmod (wrap64 (t677 - t679)) 2576980377600))) 2576980377600) + 2576980377600)))))) (wrap64 (x10_2 + 1))) else (cutroomref17_Jitter.l0 kj12 l0 a1 a2 x8_12 (mx x9_2 (mn (Int.tmod (wrap64 ((wrap64 (((rd_T24 l0 x10_2).f3) - ((rd_T24 l0 x8_12).f3))) - (Int.tmod (wrap64 (t677 - t679)) 2576980377600))) 2576980377600) (wrap64 (2576980377600 - (Int.tmod (wrap64 ((wrap64 (((rd_T24 l0 x10_2).f3) - ((rd_T24 l0 x8_12).f3))) - (Int.tmod (wrap64 (t677 - t679)) 2576980377600))) 2576980377600))))) (wrap64 (x10_2 + 1)))) else (none)) else (none)) else (none)) else (none)) = some (r1, r2) := H
                        have A16 := Aside0.mk A160
                        clear A160
                        by_cases c17 : 0 ≤ x10_2
                        · rw [if_pos c17] at H
                          have c17b0 : decide (0 ≤ x10_2) = true := decide_eq_true c17
                          clear c17
                          by_cases c18 : x10_2 < (l0.length : Int)
                          · rw [if_pos c18] at H
                            have c18b0 : decide (x10_2 < (l0.length : Int)) = true := decide_eq_true c18
                            clear c18
                            by_cases c19 : 0 ≤ x8_12
                            · rw [if_pos c19] at H
                              have c19b0 : decide (0 ≤ x8_12) = true := decide_eq_true c19
                              clear c19
                              by_cases c20 : x8_12 < (l0.length : Int)
                              · rw [if_pos c20] at H
                                have c20b0 : decide (x8_12 < (l0.length : Int)) = true := decide_eq_true c20
                                clear c20
                                by_cases c21 : (Int.tmod (wrap64 ((wrap64 (((rd_T24 l0 x10_2).f3) - ((rd_T24 l0 x8_12).f3))) - (Int.tmod (wrap64 (t677 - t679)) 2576980377600))) 2576980377600) < 0
                                · rw [if_pos c21] at H
                                  have c21b0 : decide ((Int.tmod (wrap64 ((wrap64 (((rd_T24 l0 x10_2).f3) - ((rd_T24 l0 x8_12).f3))) - (Int.tmod (wrap64 (t677 - t679)) 2576980377600))) 2576980377600) < 0) = true := decide_eq_true c21
                                  clear c21
                                  obtain ⟨ji22, hji22⟩ : ∃ j_ : Int, (mn (wrap64 ((Int.tmod (wrap64 ((wrap64 (((rd_T24 l0 x10_2).f3) - ((rd_T24 l0 x8_12).f3))) - (Int.tmod (wrap64 (t677 - t679)) 2576980377600))) 2576980377600) + 2576980377600)) (wrap64 (2576980377600 - (wrap64 ((Int.tmod (wrap64 ((wrap64 (((rd_T24 l0 x10_2).f3) - ((rd_T24 l0 x8_12).f3))) - (Int.tmod (wrap64 (t677 - t679)) 2576980377600))) 2576980377600) + 2576980377600))))) = j_ := ⟨_, rfl⟩
                                  replace H : (cutroomref17_Jitter.l0 kj12 l0 a1 a2 x8_12 (mx x9_2 (ji22)) (wrap64 (x10_2 + 1))) = some (r1, r2) := by first | (rw [hji22] at H; exact H) | (simp only [hji22] at H ⊢; exact H)
                                  (try rw [hji22] at A15)
                                  (try rw [hji22] at A16)
                                  have hji22_ : (if (wrap64 (2576980377600 - (wrap64 ((Int.tmod (wrap64 ((wrap64 (((rd_T24 l0 x10_2).f3) - ((rd_T24 l0 x8_12).f3))) - (Int.tmod (wrap64 (t677 - t679)) 2576980377600))) 2576980377600) + 2576980377600)))) < (wrap64 ((Int.tmod (wrap64 ((wrap64 (((rd_T24 l0 x10_2).f3) - ((rd_T24 l0 x8_12).f3))) - (Int.tmod (wrap64 (t677 - t679)) 2576980377600))) 2576980377600) + 2576980377600)) then (wrap64 (2576980377600 - (wrap64 ((Int.tmod (wrap64 ((wrap64 (((rd_T24 l0 x10_2).f3) - ((rd_T24 l0 x8_12).f3))) - (Int.tmod (wrap64 (t677 - t679)) 2576980377600))) 2576980377600) + 2576980377600)))) else (wrap64 ((Int.tmod (wrap64 ((wrap64 (((rd_T24 l0 x10_2).f3) - ((rd_T24 l0 x8_12).f3))) - (Int.tmod (wrap64 (t677 - t679)) 2576980377600))) 2576980377600) + 2576980377600))) = ji22 := hji22
                                  obtain ⟨ji23, hji23⟩ : ∃ j_ : Int, (mx x9_2 (ji22)) = j_ := ⟨_, rfl⟩
                                  replace H : (cutroomref17_Jitter.l0 kj12 l0 a1 a2 x8_12 ji23 (wrap64 (x10_2 + 1))) = some (r1, r2) := by first | (rw [hji23] at H; exact H) | (simp only [hji23] at H ⊢; exact H)
                                  (try rw [hji23] at A15)
                                  (try rw [hji23] at A16)
                                  have hji23_ : (if x9_2 < (ji22) then (ji22) else x9_2) = ji23 := hji23
                                  have H' := Aside0.mk H
                                  clear H
                                  go_wp2_with (first | (go_at_call 28; (with_reducible refine (cutroomref17_Arrival.calls kj12 x10_2 a2 t677 t678 _ A15.out).mono ?_); rintro e w24 ⟨rfl, hb⟩; have n0_ := Aside0.mk (below_step (by repeat (first | (with_reducible first | exact HB.out | apply below_alloc | apply pw_below_drewN | apply below_drew1) | exact HB.out)) hb); clear HB; have HB := n0_; clear n0_; (try clear hb); (try clear hb2); (try clear hk); (try clear hi)) | (go_at_call 28; (with_reducible refine (cutroomref17_Arrival.calls kj12 x8_12 a2 t679 t680 _ A16.out).mono ?_); rintro e w25 ⟨rfl, hb⟩; have n0_ := Aside0.mk (below_step (by repeat (first | (with_reducible first | exact HB.out | apply below_alloc | apply pw_below_drewN | apply below_drew1) | exact HB.out)) hb); clear HB; have HB := n0_; clear n0_; (try clear hb); (try clear hb2); (try clear hk); (try clear hi); have p681 : 0 ≤ (x10_2 : Int) := of_decide_eq_true (by first | (with_reducible assumption) | assumption); have q681 : x10_2 < (l0.length : Int) := of_decide_eq_true (by first | (with_reducible assumption) | assumption); obtain ⟨ad681, A681_4, c681_4, e681, hx681_0, hx681_1, hx681_2, hx681_3, hx681_4, hl681_4, hi681_4⟩ := at_T24 HR0.out x10_2 p681 q681; cases e681; replace hx681_0 := (HB.out.cell (World.block_lt_of_cell? w _ hx681_0)).trans hx681_0; replace hx681_1 := (HB.out.cell (World.block_lt_of_cell? w _ hx681_1)).trans hx681_1; replace hx681_2 := (HB.out.cell (World.block_lt_of_cell? w _ hx681_2)).trans hx681_2; replace hx681_3 := (HB.out.cell (World.block_lt_of_cell? w _ hx681_3)).trans hx681_3; replace hx681_4 := (HB.out.cell (World.block_lt_of_cell? w _ hx681_4)).trans hx681_4; have HR681_4 := Aside0.mk hi681_4; have HC681_4 := Aside0.mk hl681_4; clear hi681_4 hl681_4; replace p681 := eq_true p681; replace q681 := eq_true q681; have p682 : 0 ≤ (x8_12 : Int) := of_decide_eq_true (by first | (with_reducible assumption) | assumption); have q682 : x8_12 < (l0.length : Int) := of_decide_eq_true (by first | (with_reducible assumption) | assumption); obtain ⟨ad682, A682_4, c682_4, e682, hx682_0, hx682_1, hx682_2, hx682_3, hx682_4, hl682_4, hi682_4⟩ := at_T24 HR0.out x8_12 p682 q682; obtain rfl : ad681 = ad682 := (by injection e682); replace hx682_0 := (HB.out.cell (World.block_lt_of_cell? w _ hx682_0)).trans hx682_0; replace hx682_1 := (HB.out.cell (World.block_lt_of_cell? w _ hx682_1)).trans hx682_1; replace hx682_2 := (HB.out.cell (World.block_lt_of_cell? w _ hx682_2)).trans hx682_2; replace hx682_3 := (HB.out.cell (World.block_lt_of_cell? w _ hx682_3)).trans hx682_3; replace hx682_4 := (HB.out.cell (World.block_lt_of_cell? w _ hx682_4)).trans hx682_4; have HR682_4 := Aside0.mk hi682_4; have HC682_4 := Aside0.mk hl682_4; clear hi682_4 hl682_4; replace p682 := eq_true p682; replace q682 := eq_true q682))
                                  repeat (go_quiet (first | (go_at_call 28; (with_reducible refine (cutroomref17_Arrival.calls kj12 x10_2 a2 t677 t678 _ A15.out).mono ?_); rintro e w24 ⟨rfl, hb⟩; have n0_ := Aside0.mk (below_step (by repeat (first | (with_reducible first | exact HB.out | apply below_alloc | apply pw_below_drewN | apply below_drew1) | exact HB.out)) hb); clear HB; have HB := n0_; clear n0_; (try clear hb); (try clear hb2); (try clear hk); (try clear hi)) | (go_at_call 28; (with_reducible refine (cutroomref17_Arrival.calls kj12 x8_12 a2 t679 t680 _ A16.out).mono ?_); rintro e w25 ⟨rfl, hb⟩; have n0_ := Aside0.mk (below_step (by repeat (first | (with_reducible first | exact HB.out | apply below_alloc | apply pw_below_drewN | apply below_drew1) | exact HB.out)) hb); clear HB; have HB := n0_; clear n0_; (try clear hb); (try clear hb2); (try clear hk); (try clear hi); have p681 : 0 ≤ (x10_2 : Int) := of_decide_eq_true (by first | (with_reducible assumption) | assumption); have q681 : x10_2 < (l0.length : Int) := of_decide_eq_true (by first | (with_reducible assumption) | assumption); obtain ⟨ad681, A681_4, c681_4, e681, hx681_0, hx681_1, hx681_2, hx681_3, hx681_4, hl681_4, hi681_4⟩ := at_T24 HR0.out x10_2 p681 q681; cases e681; replace hx681_0 := (HB.out.cell (World.block_lt_of_cell? w _ hx681_0)).trans hx681_0; replace hx681_1 := (HB.out.cell (World.block_lt_of_cell? w _ hx681_1)).trans hx681_1; replace hx681_2 := (HB.out.cell (World.block_lt_of_cell? w _ hx681_2)).trans hx681_2; replace hx681_3 := (HB.out.cell (World.block_lt_of_cell? w _ hx681_3)).trans hx681_3; replace hx681_4 := (HB.out.cell (World.block_lt_of_cell? w _ hx681_4)).trans hx681_4; have HR681_4 := Aside0.mk hi681_4; have HC681_4 := Aside0.mk hl681_4; clear hi681_4 hl681_4; replace p681 := eq_true p681; replace q681 := eq_true q681; have p682 : 0 ≤ (x8_12 : Int) := of_decide_eq_true (by first | (with_reducible assumption) | assumption); have q682 : x8_12 < (l0.length : Int) := of_decide_eq_true (by first | (with_reducible assumption) | assumption); obtain ⟨ad682, A682_4, c682_4, e682, hx682_0, hx682_1, hx682_2, hx682_3, hx682_4, hl682_4, hi682_4⟩ := at_T24 HR0.out x8_12 p682 q682; obtain rfl : ad681 = ad682 := (by injection e682); replace hx682_0 := (HB.out.cell (World.block_lt_of_cell? w _ hx682_0)).trans hx682_0; replace hx682_1 := (HB.out.cell (World.block_lt_of_cell? w _ hx682_1)).trans hx682_1; replace hx682_2 := (HB.out.cell (World.block_lt_of_cell? w _ hx682_2)).trans hx682_2; replace hx682_3 := (HB.out.cell (World.block_lt_of_cell? w _ hx682_3)).trans hx682_3; replace hx682_4 := (HB.out.cell (World.block_lt_of_cell? w _ hx682_4)).trans hx682_4; have HR682_4 := Aside0.mk hi682_4; have HC682_4 := Aside0.mk hl682_4; clear hi682_4 hl682_4; replace p682 := eq_true p682; replace q682 := eq_true q682)); try go_wp2_with (first | (go_at_call 28; (with_reducible refine (cutroomref17_Arrival.calls kj12 x10_2 a2 t677 t678 _ A15.out).mono ?_); rintro e w24 ⟨rfl, hb⟩; have n0_ := Aside0.mk (below_step (by repeat (first | (with_reducible first | exact HB.out | apply below_alloc | apply pw_below_drewN | apply below_drew1) | exact HB.out)) hb); clear HB; have HB := n0_; clear n0_; (try clear hb); (try clear hb2); (try clear hk); (try clear hi)) | (go_at_call 28; (with_reducible refine (cutroomref17_Arrival.calls kj12 x8_12 a2 t679 t680 _ A16.out).mono ?_); rintro e w25 ⟨rfl, hb⟩; have n0_ := Aside0.mk (below_step (by repeat (first | (with_reducible first | exact HB.out | apply below_alloc | apply pw_below_drewN | apply below_drew1) | exact HB.out)) hb); clear HB; have HB := n0_; clear n0_; (try clear hb); (try clear hb2); (try clear hk); (try clear hi); have p681 : 0 ≤ (x10_2 : Int) := of_decide_eq_true (by first | (with_reducible assumption) | assumption); have q681 : x10_2 < (l0.length : Int) := of_decide_eq_true (by first | (with_reducible assumption) | assumption); obtain ⟨ad681, A681_4, c681_4, e681, hx681_0, hx681_1, hx681_2, hx681_3, hx681_4, hl681_4, hi681_4⟩ := at_T24 HR0.out x10_2 p681 q681; cases e681; replace hx681_0 := (HB.out.cell (World.block_lt_of_cell? w _ hx681_0)).trans hx681_0; replace hx681_1 := (HB.out.cell (World.block_lt_of_cell? w _ hx681_1)).trans hx681_1; replace hx681_2 := (HB.out.cell (World.block_lt_of_cell? w _ hx681_2)).trans hx681_2; replace hx681_3 := (HB.out.cell (World.block_lt_of_cell? w _ hx681_3)).trans hx681_3; replace hx681_4 := (HB.out.cell (World.block_lt_of_cell? w _ hx681_4)).trans hx681_4; have HR681_4 := Aside0.mk hi681_4; have HC681_4 := Aside0.mk hl681_4; clear hi681_4 hl681_4; replace p681 := eq_true p681; replace q681 := eq_true q681; have p682 : 0 ≤ (x8_12 : Int) := of_decide_eq_true (by first | (with_reducible assumption) | assumption); have q682 : x8_12 < (l0.length : Int) := of_decide_eq_true (by first | (with_reducible assumption) | assumption); obtain ⟨ad682, A682_4, c682_4, e682, hx682_0, hx682_1, hx682_2, hx682_3, hx682_4, hl682_4, hi682_4⟩ := at_T24 HR0.out x8_12 p682 q682; obtain rfl : ad681 = ad682 := (by injection e682); replace hx682_0 := (HB.out.cell (World.block_lt_of_cell? w _ hx682_0)).trans hx682_0; replace hx682_1 := (HB.out.cell (World.block_lt_of_cell? w _ hx682_1)).trans hx682_1; replace hx682_2 := (HB.out.cell (World.block_lt_of_cell? w _ hx682_2)).trans hx682_2; replace hx682_3 := (HB.out.cell (World.block_lt_of_cell? w _ hx682_3)).trans hx682_3; replace hx682_4 := (HB.out.cell (World.block_lt_of_cell? w _ hx682_4)).trans hx682_4; have HR682_4 := Aside0.mk hi682_4; have HC682_4 := Aside0.mk hl682_4; clear hi682_4 hl682_4; replace p682 := eq_true p682; replace q682 := eq_true q682)))
                                  go_roundg kj12
                                  case measure => have := HJ3.out; have := HK2.out; have := HJ7.out; have := HJ12.out; omega
                                  case rel => exact ⟨(x8_12), (ji23), (wrap64 (x10_2 + 1)), (by first | rfl | (simp; done) | (simp [*]; done)), (by first | rfl | (simp; done) | (simp only [← hji23] <;> (first | rfl | simp)) | (simp [*]; done)), (by first | rfl | (simp; done) | (simp [*]; done)), H', ⟨by have := HJ3.out; have := HK2.out; have := HJ7.out; have := HJ12.out; omega⟩, ⟨by repeat (first | (with_reducible first | exact HB.out | apply below_alloc | apply pw_below_drewN | apply below_drew1) | exact HB.out)⟩⟩
                                · rw [if_neg c21] at H
                                  have c21b0 : decide ((Int.tmod (wrap64 ((wrap64 (((rd_T24 l0 x10_2).f3) - ((rd_T24 l0 x8_12).f3))) - (Int.tmod (wrap64 (t677 - t679)) 2576980377600))) 2576980377600) < 0) = false := decide_eq_false c21
                                  clear c21
                                  obtain ⟨ji26, hji26⟩ : ∃ j_ : Int, (mn (Int.tmod (wrap64 ((wrap64 (((rd_T24 l0 x10_2).f3) - ((rd_T24 l0 x8_12).f3))) - (Int.tmod (wrap64 (t677 - t679)) 2576980377600))) 2576980377600) (wrap64 (2576980377600 - (Int.tmod (wrap64 ((wrap64 (((rd_T24 l0 x10_2).f3) - ((rd_T24 l0 x8_12).f3))) - (Int.tmod (wrap64 (t677 - t679)) 2576980377600))) 2576980377600)))) = j_ := ⟨_, rfl⟩
                                  replace H : (cutroomref17_Jitter.l0 kj12 l0 a1 a2 x8_12 (mx x9_2 (ji26)) (wrap64 (x10_2 + 1))) = some (r1, r2) := by first | (rw [hji26] at H; exact H) | (simp only [hji26] at H ⊢; exact H)
                                  (try rw [hji26] at A15)
                                  (try rw [hji26] at A16)
                                  have hji26_ : (if (wrap64 (2576980377600 - (Int.tmod (wrap64 ((wrap64 (((rd_T24 l0 x10_2).f3) - ((rd_T24 l0 x8_12).f3))) - (Int.tmod (wrap64 (t677 - t679)) 2576980377600))) 2576980377600))) < (Int.tmod (wrap64 ((wrap64 (((rd_T24 l0 x10_2).f3) - ((rd_T24 l0 x8_12).f3))) - (Int.tmod (wrap64 (t677 - t679)) 2576980377600))) 2576980377600) then (wrap64 (2576980377600 - (Int.tmod (wrap64 ((wrap64 (((rd_T24 l0 x10_2).f3) - ((rd_T24 l0 x8_12).f3))) - (Int.tmod (wrap64 (t677 - t679)) 2576980377600))) 2576980377600))) else (Int.tmod (wrap64 ((wrap64 (((rd_T24 l0 x10_2).f3) - ((rd_T24 l0 x8_12).f3))) - (Int.tmod (wrap64 (t677 - t679)) 2576980377600))) 2576980377600)) = ji26 := hji26
                                  obtain ⟨ji27, hji27⟩ : ∃ j_ : Int, (mx x9_2 (ji26)) = j_ := ⟨_, rfl⟩
                                  replace H : (cutroomref17_Jitter.l0 kj12 l0 a1 a2 x8_12 ji27 (wrap64 (x10_2 + 1))) = some (r1, r2) := by first | (rw [hji27] at H; exact H) | (simp only [hji27] at H ⊢; exact H)
                                  (try rw [hji27] at A15)
                                  (try rw [hji27] at A16)
                                  have hji27_ : (if x9_2 < (ji26) then (ji26) else x9_2) = ji27 := hji27
                                  have H' := Aside0.mk H
                                  clear H
                                  go_wp2_with (first | (go_at_call 28; (with_reducible refine (cutroomref17_Arrival.calls kj12 x10_2 a2 t677 t678 _ A15.out).mono ?_); rintro e w28 ⟨rfl, hb⟩; have n0_ := Aside0.mk (below_step (by repeat (first | (with_reducible first | exact HB.out | apply below_alloc | apply pw_below_drewN | apply below_drew1) | exact HB.out)) hb); clear HB; have HB := n0_; clear n0_; (try clear hb); (try clear hb2); (try clear hk); (try clear hi)) | (go_at_call 28; (with_reducible refine (cutroomref17_Arrival.calls kj12 x8_12 a2 t679 t680 _ A16.out).mono ?_); rintro e w29 ⟨rfl, hb⟩; have n0_ := Aside0.mk (below_step (by repeat (first | (with_reducible first | exact HB.out | apply below_alloc | apply pw_below_drewN | apply below_drew1) | exact HB.out)) hb); clear HB; have HB := n0_; clear n0_; (try clear hb); (try clear hb2); (try clear hk); (try clear hi); have p681 : 0 ≤ (x10_2 : Int) := of_decide_eq_true (by first | (with_reducible assumption) | assumption); have q681 : x10_2 < (l0.length : Int) := of_decide_eq_true (by first | (with_reducible assumption) | assumption); obtain ⟨ad681, A681_4, c681_4, e681, hx681_0, hx681_1, hx681_2, hx681_3, hx681_4, hl681_4, hi681_4⟩ := at_T24 HR0.out x10_2 p681 q681; cases e681; replace hx681_0 := (HB.out.cell (World.block_lt_of_cell? w _ hx681_0)).trans hx681_0; replace hx681_1 := (HB.out.cell (World.block_lt_of_cell? w _ hx681_1)).trans hx681_1; replace hx681_2 := (HB.out.cell (World.block_lt_of_cell? w _ hx681_2)).trans hx681_2; replace hx681_3 := (HB.out.cell (World.block_lt_of_cell? w _ hx681_3)).trans hx681_3; replace hx681_4 := (HB.out.cell (World.block_lt_of_cell? w _ hx681_4)).trans hx681_4; have HR681_4 := Aside0.mk hi681_4; have HC681_4 := Aside0.mk hl681_4; clear hi681_4 hl681_4; replace p681 := eq_true p681; replace q681 := eq_true q681; have p682 : 0 ≤ (x8_12 : Int) := of_decide_eq_true (by first | (with_reducible assumption) | assumption); have q682 : x8_12 < (l0.length : Int) := of_decide_eq_true (by first | (with_reducible assumption) | assumption); obtain ⟨ad682, A682_4, c682_4, e682, hx682_0, hx682_1, hx682_2, hx682_3, hx682_4, hl682_4, hi682_4⟩ := at_T24 HR0.out x8_12 p682 q682; obtain rfl : ad681 = ad682 := (by injection e682); replace hx682_0 := (HB.out.cell (World.block_lt_of_cell? w _ hx682_0)).trans hx682_0; replace hx682_1 := (HB.out.cell (World.block_lt_of_cell? w _ hx682_1)).trans hx682_1; replace hx682_2 := (HB.out.cell (World.block_lt_of_cell? w _ hx682_2)).trans hx682_2; replace hx682_3 := (HB.out.cell (World.block_lt_of_cell? w _ hx682_3)).trans hx682_3; replace hx682_4 := (HB.out.cell (World.block_lt_of_cell? w _ hx682_4)).trans hx682_4; have HR682_4 := Aside0.mk hi682_4; have HC682_4 := Aside0.mk hl682_4; clear hi682_4 hl682_4; replace p682 := eq_true p682; replace q682 := eq_true q682))
                                  repeat (go_quiet (first | (go_at_call 28; (with_reducible refine (cutroomref17_Arrival.calls kj12 x10_2 a2 t677 t678 _ A15.out).mono ?_); rintro e w28 ⟨rfl, hb⟩; have n0_ := Aside0.mk (below_step (by repeat (first | (with_reducible first | exact HB.out | apply below_alloc | apply pw_below_drewN | apply below_drew1) | exact HB.out)) hb); clear HB; have HB := n0_; clear n0_; (try clear hb); (try clear hb2); (try clear hk); (try clear hi)) | (go_at_call 28; (with_reducible refine (cutroomref17_Arrival.calls kj12 x8_12 a2 t679 t680 _ A16.out).mono ?_); rintro e w29 ⟨rfl, hb⟩; have n0_ := Aside0.mk (below_step (by repeat (first | (with_reducible first | exact HB.out | apply below_alloc | apply pw_below_drewN | apply below_drew1) | exact HB.out)) hb); clear HB; have HB := n0_; clear n0_; (try clear hb); (try clear hb2); (try clear hk); (try clear hi); have p681 : 0 ≤ (x10_2 : Int) := of_decide_eq_true (by first | (with_reducible assumption) | assumption); have q681 : x10_2 < (l0.length : Int) := of_decide_eq_true (by first | (with_reducible assumption) | assumption); obtain ⟨ad681, A681_4, c681_4, e681, hx681_0, hx681_1, hx681_2, hx681_3, hx681_4, hl681_4, hi681_4⟩ := at_T24 HR0.out x10_2 p681 q681; cases e681; replace hx681_0 := (HB.out.cell (World.block_lt_of_cell? w _ hx681_0)).trans hx681_0; replace hx681_1 := (HB.out.cell (World.block_lt_of_cell? w _ hx681_1)).trans hx681_1; replace hx681_2 := (HB.out.cell (World.block_lt_of_cell? w _ hx681_2)).trans hx681_2; replace hx681_3 := (HB.out.cell (World.block_lt_of_cell? w _ hx681_3)).trans hx681_3; replace hx681_4 := (HB.out.cell (World.block_lt_of_cell? w _ hx681_4)).trans hx681_4; have HR681_4 := Aside0.mk hi681_4; have HC681_4 := Aside0.mk hl681_4; clear hi681_4 hl681_4; replace p681 := eq_true p681; replace q681 := eq_true q681; have p682 : 0 ≤ (x8_12 : Int) := of_decide_eq_true (by first | (with_reducible assumption) | assumption); have q682 : x8_12 < (l0.length : Int) := of_decide_eq_true (by first | (with_reducible assumption) | assumption); obtain ⟨ad682, A682_4, c682_4, e682, hx682_0, hx682_1, hx682_2, hx682_3, hx682_4, hl682_4, hi682_4⟩ := at_T24 HR0.out x8_12 p682 q682; obtain rfl : ad681 = ad682 := (by injection e682); replace hx682_0 := (HB.out.cell (World.block_lt_of_cell? w _ hx682_0)).trans hx682_0; replace hx682_1 := (HB.out.cell (World.block_lt_of_cell? w _ hx682_1)).trans hx682_1; replace hx682_2 := (HB.out.cell (World.block_lt_of_cell? w _ hx682_2)).trans hx682_2; replace hx682_3 := (HB.out.cell (World.block_lt_of_cell? w _ hx682_3)).trans hx682_3; replace hx682_4 := (HB.out.cell (World.block_lt_of_cell? w _ hx682_4)).trans hx682_4; have HR682_4 := Aside0.mk hi682_4; have HC682_4 := Aside0.mk hl682_4; clear hi682_4 hl682_4; replace p682 := eq_true p682; replace q682 := eq_true q682)); try go_wp2_with (first | (go_at_call 28; (with_reducible refine (cutroomref17_Arrival.calls kj12 x10_2 a2 t677 t678 _ A15.out).mono ?_); rintro e w28 ⟨rfl, hb⟩; have n0_ := Aside0.mk (below_step (by repeat (first | (with_reducible first | exact HB.out | apply below_alloc | apply pw_below_drewN | apply below_drew1) | exact HB.out)) hb); clear HB; have HB := n0_; clear n0_; (try clear hb); (try clear hb2); (try clear hk); (try clear hi)) | (go_at_call 28; (with_reducible refine (cutroomref17_Arrival.calls kj12 x8_12 a2 t679 t680 _ A16.out).mono ?_); rintro e w29 ⟨rfl, hb⟩; have n0_ := Aside0.mk (below_step (by repeat (first | (with_reducible first | exact HB.out | apply below_alloc | apply pw_below_drewN | apply below_drew1) | exact HB.out)) hb); clear HB; have HB := n0_; clear n0_; (try clear hb); (try clear hb2); (try clear hk); (try clear hi); have p681 : 0 ≤ (x10_2 : Int) := of_decide_eq_true (by first | (with_reducible assumption) | assumption); have q681 : x10_2 < (l0.length : Int) := of_decide_eq_true (by first | (with_reducible assumption) | assumption); obtain ⟨ad681, A681_4, c681_4, e681, hx681_0, hx681_1, hx681_2, hx681_3, hx681_4, hl681_4, hi681_4⟩ := at_T24 HR0.out x10_2 p681 q681; cases e681; replace hx681_0 := (HB.out.cell (World.block_lt_of_cell? w _ hx681_0)).trans hx681_0; replace hx681_1 := (HB.out.cell (World.block_lt_of_cell? w _ hx681_1)).trans hx681_1; replace hx681_2 := (HB.out.cell (World.block_lt_of_cell? w _ hx681_2)).trans hx681_2; replace hx681_3 := (HB.out.cell (World.block_lt_of_cell? w _ hx681_3)).trans hx681_3; replace hx681_4 := (HB.out.cell (World.block_lt_of_cell? w _ hx681_4)).trans hx681_4; have HR681_4 := Aside0.mk hi681_4; have HC681_4 := Aside0.mk hl681_4; clear hi681_4 hl681_4; replace p681 := eq_true p681; replace q681 := eq_true q681; have p682 : 0 ≤ (x8_12 : Int) := of_decide_eq_true (by first | (with_reducible assumption) | assumption); have q682 : x8_12 < (l0.length : Int) := of_decide_eq_true (by first | (with_reducible assumption) | assumption); obtain ⟨ad682, A682_4, c682_4, e682, hx682_0, hx682_1, hx682_2, hx682_3, hx682_4, hl682_4, hi682_4⟩ := at_T24 HR0.out x8_12 p682 q682; obtain rfl : ad681 = ad682 := (by injection e682); replace hx682_0 := (HB.out.cell (World.block_lt_of_cell? w _ hx682_0)).trans hx682_0; replace hx682_1 := (HB.out.cell (World.block_lt_of_cell? w _ hx682_1)).trans hx682_1; replace hx682_2 := (HB.out.cell (World.block_lt_of_cell? w _ hx682_2)).trans hx682_2; replace hx682_3 := (HB.out.cell (World.block_lt_of_cell? w _ hx682_3)).trans hx682_3; replace hx682_4 := (HB.out.cell (World.block_lt_of_cell? w _ hx682_4)).trans hx682_4; have HR682_4 := Aside0.mk hi682_4; have HC682_4 := Aside0.mk hl682_4; clear hi682_4 hl682_4; replace p682 := eq_true p682; replace q682 := eq_true q682)))
                                  go_roundg kj12
                                  case measure => have := HJ3.out; have := HK2.out; have := HJ7.out; have := HJ12.out; omega
                                  case rel => exact ⟨(x8_12), (ji27), (wrap64 (x10_2 + 1)), (by first | rfl | (simp; done) | (simp [*]; done)), (by first | rfl | (simp; done) | (simp only [← hji27] <;> (first | rfl | simp)) | (simp [*]; done)), (by first | rfl | (simp; done) | (simp [*]; done)), H', ⟨by have := HJ3.out; have := HK2.out; have := HJ7.out; have := HJ12.out; omega⟩, ⟨by repeat (first | (with_reducible first | exact HB.out | apply below_alloc | apply pw_below_drewN | apply below_drew1) | exact HB.out)⟩⟩
                              · rw [if_neg c20] at H
                                exact absurd H (by simp)
                            · rw [if_neg c19] at H
                              exact absurd H (by simp)
                          · rw [if_neg c18] at H
                            exact absurd H (by simp)
                        · rw [if_neg c17] at H
                          exact absurd H (by simp)
            · rw [if_neg c7] at H
              have c7b0 : decide (x10_2 < (l0.length : Int)) = false := decide_eq_false c7
              clear c7
              simp only [Option.some.injEq, Prod.mk.injEq] at H
              obtain ⟨rfl, rfl⟩ := H
              go_wp2
              repeat (go_quiet (fail); try go_wp2)
              go_ret2
              exact ⟨by first | rfl | (simp [errW_none, errW_some] <;> rfl) | (simp [*, errW_none, errW_some] <;> rfl), by repeat (first | (with_reducible first | exact HB.out | apply below_alloc | apply pw_below_drewN | apply below_drew1) | exact HB.out)⟩

end Go.Proofs.Ytdndhbfagoghfaa.P
