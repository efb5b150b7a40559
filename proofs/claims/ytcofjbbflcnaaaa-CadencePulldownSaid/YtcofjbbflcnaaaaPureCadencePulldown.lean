/- Film at 24000/1001 is shown at 30000/1001 for two and three fields alternately, and so is film at 24 at 30. No condition of its own. -/
import Derived.Test.YtcofjbbflcnaaaaPx12
import Derived.Test.YtcofjbbflcnaaaaCadA
namespace Go.Proofs.Ytcofjbbflcnaaaa.Pure
open Go.RowKit Go.Proofs.Ytcofjbbflcnaaaa.P Go.Proofs.YtcofjbbflcnaaaaW.PrintWords Go.Proofs.YtcofjbbflcnaaaaW.PrintLast
set_option linter.unusedVariables false

theorem CadencePulldown : cutroomlaw20_CadencePulldown.Pure := by
  intro n hn
  have nw := wf64 hn
  refine Ev.rounds (g := fun k => cutroomlaw20_CadencePulldown.f k n) ?_
  unfold cutroomlaw20_CadencePulldown.f
  have out : Ev (fun k => cutroomlaw20_CadencePulldown.j0 k n true) true := by
    refine Ev.step (fun k => by rw [cutroomlaw20_CadencePulldown.j0]) ?_
    simp only [if_true]
    refine Ev.bind awake_ev ?_
    exact Ev.now _
  by_cases c1 : n < 0
  · simp only [if_pos c1]; exact out
  · by_cases c2 : n > 2147483646
    · simp only [if_neg c1, c2, decide_true]; exact out
    · simp only [if_neg c1, c2, decide_false]
      refine Ev.step (fun k => by rw [cutroomlaw20_CadencePulldown.j0]) ?_
      simp only [Bool.false_eq_true, if_false]
      refine Ev.bind (fields_ev n 24000 1001 30000 1001 (by decide) (by decide) (by decide) (by decide)) ?_
      refine Ev.bind (fields_ev n 24 1 30 1 (by decide) (by decide) (by decide) (by decide)) ?_
      have e1 : fieldsR n 24000 1001 30000 1001 = (2 + n % 2, 0) := by
        unfold fieldsR
        rw [if_pos (by decide +kernel), if_pos (by omega)]
        unfold FF
        congr 1
        rcases (show n = 2 * (n / 2) ∨ n = 2 * (n / 2) + 1 by omega) with h | h
        · generalize n / 2 = m at h; subst h; omega
        · generalize n / 2 = m at h; subst h; omega
      have e2 : fieldsR n 24 1 30 1 = (2 + n % 2, 0) := by
        unfold fieldsR
        rw [if_pos (by decide +kernel), if_pos (by omega)]
        unfold FF
        congr 1
        rcases (show n = 2 * (n / 2) ∨ n = 2 * (n / 2) + 1 by omega) with h | h
        · generalize n / 2 = m at h; subst h; omega
        · generalize n / 2 = m at h; subst h; omega
      rw [e1, e2, Int.tmod_eq_emod_of_nonneg (a := n) (by omega), w64 (x := 2 + n % 2) (by omega) (by omega)]
      simp only [if_true]
      refine Ev.bind awake_ev ?_
      exact Ev.now _

end Go.Proofs.Ytcofjbbflcnaaaa.Pure
