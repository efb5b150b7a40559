/- For every sample and rate cadence.Owner returns what the reference returns. No condition of its own. -/
import Derived.Test.YtcofjbbflcnaaaaPx9
import Derived.Test.YtcofjbbflcnaaaaCadO
namespace Go.Proofs.Ytcofjbbflcnaaaa.Pure
open Go.RowKit Go.Proofs.Ytcofjbbflcnaaaa.P Go.Proofs.YtcofjbbflcnaaaaW.PrintWords Go.Proofs.YtcofjbbflcnaaaaW.PrintLast
set_option linter.unusedVariables false

theorem CadenceOwners : cutroomlaw20_CadenceOwners.Pure := by
  intro n a b hn ha hb
  refine Ev.rounds (g := fun k => cutroomlaw20_CadenceOwners.f k n a b) ?_
  unfold cutroomlaw20_CadenceOwners.f
  refine Ev.bind (owner_ev n a b ha hb) ?_
  refine Ev.bind (ref_owner_ev n a b) ?_
  simp only [if_true]
  refine Ev.bind awake_ev ?_
  exact Ev.now _

end Go.Proofs.Ytcofjbbflcnaaaa.Pure
