/- What keeps the law awake. No condition of its own. -/
import Derived.Test.YtdndhbfagoghfaaPx16
namespace Go.Proofs.Ytdndhbfagoghfaa.P
open Go.RowKit Go.Proofs.YtdndhbfagoghfaaW.PrintWords Go.Proofs.YtdndhbfagoghfaaW.PrintLast Go.Proofs.YtdndhbfagoghfaaW.PrintMore
set_option linter.unusedVariables false
set_option linter.unusedSimpArgs false

theorem awake_ev : Ev (fun k => cutroomlaw17_awake.f k) true := by
  refine Ev.of (k := 3) (fun k => cutroomlaw17_awake.mono k) ?_
  decide +kernel

end Go.Proofs.Ytdndhbfagoghfaa.P
