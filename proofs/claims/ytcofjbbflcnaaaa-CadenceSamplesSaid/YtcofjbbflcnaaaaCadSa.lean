/- What the reference's Sample comes to. No condition of its own. -/
import Derived.Test.YtcofjbbflcnaaaaCadS
import Derived.Test.YtcofjbbflcnaaaaPx27
namespace Go.Proofs.Ytcofjbbflcnaaaa.P
open Go.RowKit Go.Proofs.YtcofjbbflcnaaaaW.PrintWords Go.Proofs.YtcofjbbflcnaaaaW.PrintLast Go.Proofs.YtcofjbbflcnaaaaW.PrintMore
set_option linter.unusedVariables false

theorem ref_sample_ev (n num den : Int) : Ev (fun k => cutroomref20_Sample.f k n num den) (sampleR n num den) := by
  unfold cutroomref20_Sample.f sampleR
  refine Ev.bind (ref_usable_ev num den) ?_
  by_cases c1 : usable num den = true
  · simp only [c1, if_true]
    rw [ref_inRange_f]
    simp only [Option.bind_some]
    by_cases c2 : -2147483647 ≤ n ∧ n ≤ 2147483647
    · simp only [c2, and_self, decide_true, if_true]
      have u := usable_iff.1 c1
      rw [w64 (x := 48000 * den) (by omega) (by omega)]
      have am2 := abs_mul (n := n) (B := 2147483647) (C := 48000 * den) (by omega) (by omega) (by omega)
      have dr := div_rng (p := n * (48000 * den)) (d := num) (B := 6755399441055744000) (by omega) (by omega) (by omega) (by decide)
      have am3 := abs_mul (n := (n.natAbs : Int)) (B := 2147483647) (C := 48000 * den) (by omega) (by omega) (by omega)
      have dr3 := div_rng (p := (n.natAbs : Int) * (48000 * den)) (d := num) (B := 6755399441055744000) (by omega) (by omega) (by omega) (by decide)
      refine Ev.bind (split_ev n (48000 * den) num (by omega) (by omega) (by omega) (by omega) (by omega) (by omega) (by omega)) ?_
      unfold SMP
      rw [SMP_eq _ num (by omega)]
      have e1 : n * (96000 * den) = 2 * (n * (48000 * den)) := by grind
      rw [e1, Int.mul_ediv_mul_of_pos _ _ (by decide), Int.mul_emod_mul_of_pos _ _ (by decide)]
      have t0 := Int.emod_nonneg (n * (48000 * den)) (show num ≠ 0 by omega)
      have t1 := Int.emod_lt_of_pos (n * (48000 * den)) (show 0 < num by omega)
      rw [w64 (x := 2 * (n * (48000 * den) % num)) (by omega) (by omega)]
      by_cases c3 : 2 * (n * (48000 * den) % num) ≥ num
      · simp only [if_pos c3]
        rw [w64 (by omega) (by omega)]
        exact Ev.now _
      · simp only [if_neg c3]
        exact Ev.now _
    · simp only [c2, decide_false, Bool.false_eq_true, if_false]
      exact Ev.now _
  · simp only [c1, Bool.false_eq_true, if_false]
    exact Ev.now _

end Go.Proofs.Ytcofjbbflcnaaaa.P
