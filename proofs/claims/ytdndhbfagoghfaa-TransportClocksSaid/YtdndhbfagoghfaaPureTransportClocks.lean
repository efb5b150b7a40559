/- For every list of packets, pid, rate and index the clocks' Arrival and Jitter return what the reference's do. No condition of its own. -/
import Derived.Test.YtdndhbfagoghfaaPx10
import Derived.Test.YtdndhbfagoghfaaTrJ
namespace Go.Proofs.Ytdndhbfagoghfaa.Pure
open Go.RowKit Go.Proofs.Ytdndhbfagoghfaa.P Go.Proofs.YtdndhbfagoghfaaW.PrintWords Go.Proofs.YtdndhbfagoghfaaW.PrintLast
set_option linter.unusedVariables false

theorem TransportClocks : cutroomlaw17_TransportClocks.Pure := by
  intro l pid r t hl hp hr ht
  refine Ev.rounds (g := fun k => cutroomlaw17_TransportClocks.f k l pid r t) ?_
  unfold cutroomlaw17_TransportClocks.f
  by_cases c : (l.length : Int) > 60
  · simp only [if_pos c]; exact Ev.now _
  · simp only [if_neg c]
    have ht' := wf64 ht
    refine Ev.bind (arrival_ev t r ht'.1 ht'.2) ?_
    refine Ev.bind (ref_arrival_ev t r ht'.1 ht'.2) ?_
    simp only [if_true, bne_self_eq_false]
    refine Ev.step (fun k => by rw [cutroomlaw17_TransportClocks.j0]) ?_
    simp only [Bool.false_eq_true, if_false]
    refine Ev.bind (all_ev l (by omega)) ?_
    obtain ⟨v, h1, h2⟩ := jitter_ev l (by omega) pid r
    refine Ev.bind h1 ?_
    refine Ev.bind h2 ?_
    refine Ev.bind awake_ev ?_
    simp only [if_true, beq_self_eq_true]
    exact Ev.now _

end Go.Proofs.Ytdndhbfagoghfaa.Pure
