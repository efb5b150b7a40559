/- For every frame and rates cadence.Fields returns what the reference returns. No condition of its own. -/
import Derived.Test.YtcofjbbflcnaaaaPx11
import Derived.Test.YtcofjbbflcnaaaaCadFi
namespace Go.Proofs.Ytcofjbbflcnaaaa.Pure
open Go.RowKit Go.Proofs.Ytcofjbbflcnaaaa.P Go.Proofs.YtcofjbbflcnaaaaW.PrintWords Go.Proofs.YtcofjbbflcnaaaaW.PrintLast
set_option linter.unusedVariables false

theorem CadenceFields : cutroomlaw20_CadenceFields.Pure := by
  intro n a b c d hn ha hb hc hd
  refine Ev.rounds (g := fun k => cutroomlaw20_CadenceFields.f k n a b c d) ?_
  unfold cutroomlaw20_CadenceFields.f
  refine Ev.bind (fields_ev n a b c d ha hb hc hd) ?_
  refine Ev.bind (ref_fields_ev n a b c d) ?_
  simp only [if_true]
  refine Ev.bind awake_ev ?_
  exact Ev.now _

end Go.Proofs.Ytcofjbbflcnaaaa.Pure
