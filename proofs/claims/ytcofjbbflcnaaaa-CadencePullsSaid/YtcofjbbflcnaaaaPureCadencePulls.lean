/- Pull returns the documented frames, or the documented error, for any frames and any list. No condition of its own. -/
import Derived.Test.YtcofjbbflcnaaaaPx16
import Derived.Test.YtcofjbbflcnaaaaCadP
import Derived.Test.YtcofjbbflcnaaaaCadV
namespace Go.Proofs.Ytcofjbbflcnaaaa.Pure
open Go.RowKit Go.Proofs.Ytcofjbbflcnaaaa.P Go.Proofs.YtcofjbbflcnaaaaW.PrintWords Go.Proofs.YtcofjbbflcnaaaaW.PrintLast
set_option linter.unusedVariables false

theorem CadencePulls : cutroomlaw20_CadencePulls.Pure := by
  intro tape raw ws ht hr hw
  obtain ⟨xs, S, hF, hn, _, _⟩ := frames_ev tape 4 (by omega) (by omega)
  obtain ⟨_, hr2, _⟩ := hr
  obtain ⟨_, hw2, _⟩ := hw
  have hlen : (xs ++ raw).length ≤ 4611686018427387904 := by rw [List.length_append]; omega
  refine Ev.rounds (g := fun k => cutroomlaw20_CadencePulls.f k tape raw ws) ?_
  unfold cutroomlaw20_CadencePulls.f
  refine Ev.bind hF ?_
  simp only [if_pos (show (xs.length + raw.length) * 88 ≤ 140737488355328 by omega)]
  refine Ev.bind (pull_ev (xs ++ raw) ws hlen (by omega)) ?_
  refine Ev.bind (ref_pull_ev (xs ++ raw) ws hlen (by omega)) ?_
  simp only [if_true]
  have := pullR_len (xs ++ raw) ws
  refine Ev.bind (ref_frames_same _ (by omega)) ?_
  simp only [if_true]
  exact Ev.now _

end Go.Proofs.Ytcofjbbflcnaaaa.Pure
