/- For every number and rate cadence.Sample returns what the reference returns. No condition of its own. -/
import Derived.Test.YtcofjbbflcnaaaaPx7
import Derived.Test.YtcofjbbflcnaaaaCadSa
namespace Go.Proofs.Ytcofjbbflcnaaaa.Pure
open Go.RowKit Go.Proofs.Ytcofjbbflcnaaaa.P Go.Proofs.YtcofjbbflcnaaaaW.PrintWords Go.Proofs.YtcofjbbflcnaaaaW.PrintLast
set_option linter.unusedVariables false

theorem CadenceSamples : cutroomlaw20_CadenceSamples.Pure := by
  intro n a b hn ha hb
  refine Ev.rounds (g := fun k => cutroomlaw20_CadenceSamples.f k n a b) ?_
  unfold cutroomlaw20_CadenceSamples.f
  refine Ev.bind (sample_ev n a b ha hb) ?_
  refine Ev.bind (ref_sample_ev n a b) ?_
  simp only [if_true]
  refine Ev.bind awake_ev ?_
  exact Ev.now _

end Go.Proofs.Ytcofjbbflcnaaaa.Pure
