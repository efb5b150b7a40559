/- What transport's Arrival and within come to, and the reference's Arrival; what keeps the law awake. No condition of its own. -/
import Derived.Test.YtdndhbfagoghfaaRatM
import Derived.Test.YtdndhbfagoghfaaPx28
import Derived.Test.YtdndhbfagoghfaaPx48
import Derived.Test.YtdndhbfagoghfaaPx29
import Derived.Test.YtdndhbfagoghfaaPx16
namespace Go.Proofs.Ytdndhbfagoghfaa.P
open Go.RowKit Go.Proofs.YtdndhbfagoghfaaW.PrintWords Go.Proofs.YtdndhbfagoghfaaW.PrintLast Go.Proofs.YtdndhbfagoghfaaW.PrintMore
set_option linter.unusedVariables false

theorem within_f (a : Int) : transport_within.f a = some (a % 2576980377600) := by
  unfold transport_within.f
  congr 1
  rcases Int.le_total 0 a with h | h
  · rw [Int.tmod_eq_emod_of_nonneg h, w64 (by omega) (by omega), Int.tmod_eq_emod_of_nonneg (by omega)]
    omega
  · obtain ⟨b, rfl⟩ : ∃ b, a = -b := ⟨-a, by omega⟩
    have hb : 0 ≤ b := by omega
    rw [Int.neg_tmod, Int.tmod_eq_emod_of_nonneg hb, w64 (by omega) (by omega), Int.tmod_eq_emod_of_nonneg (by omega)]
    omega

def AR (t r : Int) : Int × Int := if t < 0 then (0, 1) else if r < 1 then (0, 1) else if r > 1073741824 then (0, 1) else if fits (t * 40608000000 / r) = true then (t * 40608000000 / r, 0) else (0, 2)

theorem arrival_ev (t r : Int) (h0 : -9223372036854775808 ≤ t) (h1 : t ≤ 9223372036854775807) : Ev (fun k => transport_Arrival.f k t r) (AR t r) := by
  unfold transport_Arrival.f AR
  by_cases c1 : t < 0
  · simp only [if_pos c1]; exact Ev.now _
  · simp only [if_neg c1]
    by_cases c2 : r < 1
    · simp only [if_pos c2]; exact Ev.now _
    · simp only [if_neg c2]
      by_cases c3 : r > 1073741824
      · simp only [if_pos c3]; exact Ev.now _
      · simp only [if_neg c3]
        refine Ev.bind (muldiv t 40608000000 r h0 h1 (by decide) (by decide) (by omega) (by omega)) ?_
        by_cases c4 : fits (t * 40608000000 / r) = true
        · simp only [if_pos c4]; exact Ev.now _
        · simp only [if_neg c4]; exact Ev.now _

theorem ref_muldiv (t r : Int) (h0 : 0 ≤ t) (h1 : t ≤ 9223372036854775807) (r0 : 1 ≤ r) (r1 : r ≤ 1073741824) :
    Ev (fun k => cutroomref01_MulDiv.f k t 40608000000 r) (if fits (t * 40608000000 / r) = true then (t * 40608000000 / r, t * 40608000000 % r, 0) else (0, 0, 2)) := by
  unfold cutroomref01_MulDiv.f
  simp only [if_neg (show ¬ r < 1 by omega)]
  rw [show cutroomref01_mag.f t = some t by unfold cutroomref01_mag.f; rw [if_neg (by omega), wu h0 (by omega)]]
  rw [show cutroomref01_mag.f 40608000000 = some 40608000000 by decide +kernel]
  simp only [Option.bind_some]
  rw [show cutroomref01_times.f t 40608000000 = some (t * 40608000000 / 18446744073709551616, t * 40608000000 % 18446744073709551616) by unfold cutroomref01_times.f; rw [mul64 t 40608000000 h0 (by omega) (by decide) (by decide)]; rfl]
  simp only [Option.bind_some]
  rw [wu (x := r) (by omega) (by omega)]
  generalize hm : t * 40608000000 = m
  have m0 : 0 ≤ m := by omega
  unfold cutroomref01_over.f
  by_cases c : m / 18446744073709551616 ≥ r
  · simp only [if_pos c, Option.bind_some, Bool.false_eq_true, if_false]
    refine Ev.step (fun k => by rw [cutroomref01_MulDiv.j0]) ?_
    have hq : 18446744073709551616 ≤ m / r := Int.le_ediv_of_mul_le (by omega) (by omega)
    have hf : fits (m / r) = false := by unfold fits; exact decide_eq_false (by omega)
    simp only [hf, Bool.false_eq_true, if_false, if_true]
    exact Ev.now _
  · simp only [if_neg c]
    have hd := div64 (m / 18446744073709551616) (m % 18446744073709551616) r (by omega) (by omega) (by omega) (by omega) (by omega)
    rw [show m / 18446744073709551616 * 18446744073709551616 + m % 18446744073709551616 = m by omega] at hd
    have q0 : 0 ≤ m / r := Int.ediv_nonneg m0 (by omega)
    have s0 := Int.emod_nonneg m (show r ≠ 0 by omega)
    have s1 := Int.emod_lt_of_pos m (show 0 < r by omega)
    have q1 : m / r < 18446744073709551616 := Int.ediv_lt_of_lt_mul (by omega) (by omega)
    refine Ev.bind (Ev.bind hd (Ev.now _)) ?_
    simp only [if_true]
    refine Ev.step (fun k => by rw [cutroomref01_MulDiv.j0]) ?_
    by_cases c2 : m / r > 9223372036854775808
    · have hf : fits (m / r) = false := by unfold fits; exact decide_eq_false (by omega)
      simp only [decide_eq_true c2, hf, Bool.false_eq_true, if_false, if_true]
      exact Ev.now _
    · have e1 : (decide (t < 0) != decide ((40608000000 : Int) < 0)) = false := by rw [decide_eq_false (show ¬ t < 0 by omega)]; rfl
      simp only [decide_eq_false c2, e1, Bool.false_eq_true, if_false]
      refine Ev.step (fun k => by rw [cutroomref01_MulDiv.j1]) ?_
      simp only [Bool.false_eq_true, if_false]
      unfold cutroomref01_signed.f
      simp only [Bool.false_eq_true, if_false, Option.bind_some]
      by_cases c3 : m / r ≤ 9223372036854775807
      · have hf : fits (m / r) = true := by unfold fits; exact decide_eq_true (by omega)
        simp only [decide_eq_true c3, hf, if_true]
        rw [w64 (by omega) (by omega), w64 (by omega) (by omega)]
        exact Ev.now _
      · have hf : fits (m / r) = false := by unfold fits; exact decide_eq_false (by omega)
        simp only [decide_eq_false c3, hf, Bool.false_eq_true, if_false]
        exact Ev.now _

theorem ref_arrival_ev (t r : Int) (h0 : -9223372036854775808 ≤ t) (h1 : t ≤ 9223372036854775807) : Ev (fun k => cutroomref17_Arrival.f k t r) (AR t r) := by
  unfold cutroomref17_Arrival.f AR
  by_cases c1 : t < 0
  · simp only [if_pos c1]; exact Ev.now _
  · simp only [if_neg c1]
    by_cases c2 : r < 1
    · simp only [if_pos c2]; exact Ev.now _
    · simp only [if_neg c2]
      by_cases c3 : r > 1073741824
      · simp only [if_pos c3]; exact Ev.now _
      · simp only [if_neg c3]
        refine Ev.bind (ref_muldiv t r (by omega) h1 (by omega) (by omega)) ?_
        by_cases c4 : fits (t * 40608000000 / r) = true
        · simp only [if_pos c4]; exact Ev.now _
        · simp only [if_neg c4]; exact Ev.now _

/-- An arrival of a packet among few: it fits. -/
theorem AR_few (t r : Int) (h0 : 0 ≤ t) (h1 : t ≤ 60) (r0 : 1 ≤ r) (r1 : r ≤ 1073741824) : ∃ a, AR t r = (a, 0) ∧ 0 ≤ a ∧ a ≤ 2436480000000 := by
  have q0 : 0 ≤ t * 40608000000 / r := Int.ediv_nonneg (by omega) (by omega)
  have q1 : t * 40608000000 / r ≤ 2436480000000 := by
    have := Int.ediv_le_self r (show 0 ≤ t * 40608000000 by omega)
    omega
  refine ⟨t * 40608000000 / r, ?_, q0, q1⟩
  have hf : fits (t * 40608000000 / r) = true := by unfold fits; exact decide_eq_true (by omega)
  unfold AR
  rw [if_neg (by omega), if_neg (by omega), if_neg (by omega), if_pos hf]

theorem awake_ev : Ev (fun k => cutroomlaw17_awake.f k) true := by
  refine Ev.of (k := 3) (fun k => cutroomlaw17_awake.mono k) ?_
  decide +kernel

end Go.Proofs.Ytdndhbfagoghfaa.P
