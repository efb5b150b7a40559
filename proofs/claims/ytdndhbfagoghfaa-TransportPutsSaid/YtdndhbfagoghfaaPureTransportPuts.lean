/- Put writes what the reference writes, and Take reads it back. No condition of its own. -/
import Derived.Test.YtdndhbfagoghfaaPx4
import Derived.Test.YtdndhbfagoghfaaTrQ
import Derived.Test.YtdndhbfagoghfaaTrT
import Derived.Test.YtdndhbfagoghfaaTrW
namespace Go.Proofs.Ytdndhbfagoghfaa.Pure
open Go.RowKit Go.Proofs.Ytdndhbfagoghfaa.P Go.Proofs.YtdndhbfagoghfaaW.PrintWords Go.Proofs.YtdndhbfagoghfaaW.PrintLast
set_option linter.unusedVariables false

theorem TransportPuts : cutroomlaw17_TransportPuts.Pure := by
  intro a0 a1 a2 a3 l h0 h1 h3 hl
  refine Ev.rounds (g := fun k => cutroomlaw17_TransportPuts.f k a0 a1 a2 a3 l) ?_
  unfold cutroomlaw17_TransportPuts.f cutroomlaw17_given.f
  by_cases c : (l.length : Int) > 400
  · simp only [if_pos c]; exact Ev.now _
  · simp only [if_neg c, Option.bind_some]
    refine Ev.bind (put_ev a0 a1 a2 a3 l) ?_
    refine Ev.bind (ref_put_ev a0 a1 a2 a3 l) ?_
    simp only [if_true, same_bytes, Option.bind_some, Bool.not_true]
    refine Ev.step (fun k => by rw [cutroomlaw17_TransportPuts.j0]) ?_
    simp only [Bool.false_eq_true, if_false]
    by_cases h : VB a0 a1 a2 a3 l.length
    · simp only [if_pos h, if_true]
      refine Ev.bind (take_pkt a0 a1 a2 a3 l h) ?_
      refine Ev.bind awake_ev ?_
      simp only [if_true]
      unfold cutroomlaw17_same.f
      simp only [if_true, beq_self_eq_true, same_bytes, Option.bind_some]
      exact Ev.now _
    · simp only [if_neg h, if_neg (show ¬ (1 : Int) = 0 by decide)]
      refine Ev.bind awake_ev ?_
      exact Ev.now _

end Go.Proofs.Ytdndhbfagoghfaa.Pure
