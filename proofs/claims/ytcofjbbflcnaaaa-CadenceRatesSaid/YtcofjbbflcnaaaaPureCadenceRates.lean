/- For every rate cadence.Usable reports what the reference reports. No condition of its own. -/
import Derived.Test.YtcofjbbflcnaaaaPx4
import Derived.Test.YtcofjbbflcnaaaaCadS
namespace Go.Proofs.Ytcofjbbflcnaaaa.Pure
open Go.RowKit Go.Proofs.Ytcofjbbflcnaaaa.P Go.Proofs.YtcofjbbflcnaaaaW.PrintWords Go.Proofs.YtcofjbbflcnaaaaW.PrintLast
set_option linter.unusedVariables false

theorem CadenceRates : cutroomlaw20_CadenceRates.Pure := by
  intro n d hn hd
  refine Ev.rounds (g := fun k => cutroomlaw20_CadenceRates.f k n d) ?_
  unfold cutroomlaw20_CadenceRates.f
  refine Ev.bind (usable_ev n d hn hd) ?_
  refine Ev.bind (ref_usable_ev n d) ?_
  simp only [BEq.rfl, if_true]
  refine Ev.bind awake_ev ?_
  exact Ev.now _

end Go.Proofs.Ytcofjbbflcnaaaa.Pure
