/- A sample belongs to the last frame that begins at or before it. No condition of its own. -/
import Derived.Test.YtcofjbbflcnaaaaPx10
import Derived.Test.YtcofjbbflcnaaaaCadA
namespace Go.Proofs.Ytcofjbbflcnaaaa.Pure
open Go.RowKit Go.Proofs.Ytcofjbbflcnaaaa.P Go.Proofs.YtcofjbbflcnaaaaW.PrintWords Go.Proofs.YtcofjbbflcnaaaaW.PrintLast
set_option linter.unusedVariables false

theorem CadenceOwns : cutroomlaw20_CadenceOwns.Pure := by
  intro s num den hn ha hb
  refine Ev.rounds (g := fun k => cutroomlaw20_CadenceOwns.f k s num den) ?_
  unfold cutroomlaw20_CadenceOwns.f
  have out : ∀ n, Ev (fun k => cutroomlaw20_CadenceOwns.j0 k s n true num den) true := by
    intro n
    refine Ev.step (fun k => by rw [cutroomlaw20_CadenceOwns.j0]) ?_
    simp only [if_true]
    refine Ev.bind awake_ev ?_
    exact Ev.now _
  refine Ev.bind (owner_ev s num den ha hb) ?_
  by_cases c1 : usable num den = true
  · by_cases c2 : -1099511627776 ≤ s ∧ s ≤ 1099511627776
    · have e1 : ownerR s num den = (OW s num den, 0) := by unfold ownerR; rw [if_pos c1, if_pos c2]
      rw [e1]
      simp only [if_true]
      obtain ⟨n, hn⟩ : ∃ n, n = OW s num den := ⟨_, rfl⟩
      rw [← hn]
      by_cases c3 : n ≤ -2147483648
      · simp only [if_pos c3]; exact out _
      · by_cases c4 : n ≥ 2147483647
        · simp only [if_neg c3, c4, decide_true]; exact out _
        · simp only [if_neg c3, c4, decide_false]
          refine Ev.step (fun k => by rw [cutroomlaw20_CadenceOwns.j0]) ?_
          simp only [Bool.false_eq_true, if_false]
          rw [w64 (x := n + 1) (by omega) (by omega)]
          refine Ev.bind (sample_ev n num den ha hb) ?_
          refine Ev.bind (sample_ev (n + 1) num den ha hb) ?_
          have u := usable_iff.1 c1
          have s1 : sampleR n num den = (SMP n num den, 0) := by unfold sampleR; rw [if_pos c1, if_pos (by omega)]
          have s2 : sampleR (n + 1) num den = (SMP (n + 1) num den, 0) := by unfold sampleR; rw [if_pos c1, if_pos (by omega)]
          rw [s1, s2]
          simp only [if_true]
          have m := Int.mul_ediv_add_emod ((2 * s + 1) * num - 1) (96000 * den)
          have m0 := Int.emod_nonneg ((2 * s + 1) * num - 1) (show 96000 * den ≠ 0 by omega)
          have m1 := Int.emod_lt_of_pos ((2 * s + 1) * num - 1) (show 0 < 96000 * den by omega)
          rw [show ((2 * s + 1) * num - 1) / (96000 * den) = n by rw [hn]; rfl, Int.mul_comm] at m
          have k1 : SMP n num den ≤ s := by
            unfold SMP
            have : (n * (96000 * den) + num) / (2 * num) < s + 1 := Int.ediv_lt_of_lt_mul (by omega) (by
              have : (s + 1) * (2 * num) = (2 * s + 1) * num + num := by grind
              omega)
            omega
          have k2 : s < SMP (n + 1) num den := by
            unfold SMP
            have : s + 1 ≤ ((n + 1) * (96000 * den) + num) / (2 * num) := Int.le_ediv_of_mul_le (by omega) (by
              have : (s + 1) * (2 * num) = (2 * s + 1) * num + num := by grind
              have : (n + 1) * (96000 * den) = n * (96000 * den) + 96000 * den := by grind
              omega)
            omega
          simp only [if_pos k1, if_pos k2]
          refine Ev.bind awake_ev ?_
          exact Ev.now _
    · have e1 : ownerR s num den = (0, 2) := by unfold ownerR; rw [if_pos c1, if_neg c2]
      rw [e1]
      simp only [if_neg (show ¬ (2 : Int) = 0 by decide)]
      exact out _
  · have e1 : ownerR s num den = (0, 1) := by unfold ownerR; rw [if_neg c1]
    rw [e1]
    simp only [if_neg (show ¬ (1 : Int) = 0 by decide)]
    exact out _

end Go.Proofs.Ytcofjbbflcnaaaa.Pure
