/- For every number and rate cadence.Frame returns what the reference returns. No condition of its own. -/
import Derived.Test.YtcofjbbflcnaaaaPx5
import Derived.Test.YtcofjbbflcnaaaaCadF
namespace Go.Proofs.Ytcofjbbflcnaaaa.Pure
open Go.RowKit Go.Proofs.Ytcofjbbflcnaaaa.P Go.Proofs.YtcofjbbflcnaaaaW.PrintWords Go.Proofs.YtcofjbbflcnaaaaW.PrintLast
set_option linter.unusedVariables false

theorem CadenceFrames : cutroomlaw20_CadenceFrames.Pure := by
  intro n a b c d hn ha hb hc hd
  refine Ev.rounds (g := fun k => cutroomlaw20_CadenceFrames.f k n a b c d) ?_
  unfold cutroomlaw20_CadenceFrames.f
  refine Ev.bind (frame_ev n a b c d ha hb hc hd) ?_
  refine Ev.bind (ref_frame_ev n a b c d) ?_
  simp only [if_true]
  refine Ev.bind awake_ev ?_
  exact Ev.now _

end Go.Proofs.Ytcofjbbflcnaaaa.Pure
