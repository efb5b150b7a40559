/- Restore returns the documented frames, or the documented error, for any frames and any list. No condition of its own. -/
import Derived.Test.YtcofjbbflcnaaaaPx17
import Derived.Test.YtcofjbbflcnaaaaCadR
import Derived.Test.YtcofjbbflcnaaaaCadV
namespace Go.Proofs.Ytcofjbbflcnaaaa.Pure
open Go.RowKit Go.Proofs.Ytcofjbbflcnaaaa.P Go.Proofs.YtcofjbbflcnaaaaW.PrintWords Go.Proofs.YtcofjbbflcnaaaaW.PrintLast
set_option linter.unusedVariables false

theorem CadenceRestores : cutroomlaw20_CadenceRestores.Pure := by
  intro tape raw ws0 ht hr hw
  obtain ⟨xs, S, hF, hn, _, _⟩ := frames_ev tape 6 (by omega) (by omega)
  obtain ⟨_, hr2, _⟩ := hr
  obtain ⟨_, hw2, _⟩ := hw
  have hlen : (xs ++ raw).length ≤ 4611686018427387904 := by rw [List.length_append]; omega
  refine Ev.rounds (g := fun k => cutroomlaw20_CadenceRestores.f k tape raw ws0) ?_
  unfold cutroomlaw20_CadenceRestores.f
  refine Ev.bind hF ?_
  simp only [if_pos (show (xs.length + raw.length) * 88 ≤ 140737488355328 by omega)]
  have hwl : (ws0.take (xs ++ raw).length).length ≤ 4611686018427387904 := by rw [List.length_take]; omega
  generalize ws0.take (xs ++ raw).length = ws at hwl ⊢
  have hyl : ((xs ++ raw).take ws.length).length ≤ 4611686018427387904 := by rw [List.length_take]; omega
  refine Ev.bind (rest_ev ((xs ++ raw).take ws.length) ws hyl hwl) ?_
  refine Ev.bind (ref_rest_ev ((xs ++ raw).take ws.length) ws hyl hwl) ?_
  refine Ev.bind (rest_ev (xs ++ raw) ws hlen hwl) ?_
  refine Ev.bind (ref_rest_ev (xs ++ raw) ws hlen hwl) ?_
  simp only [and_self, if_true]
  have l1 := restR_len ((xs ++ raw).take ws.length) ws
  have l2 := restR_len (xs ++ raw) ws
  refine Ev.bind (ref_frames_same _ (by omega)) ?_
  refine Ev.bind (ref_frames_same _ (by omega)) ?_
  simp only [and_self, if_true]
  exact Ev.now _

end Go.Proofs.Ytcofjbbflcnaaaa.Pure
