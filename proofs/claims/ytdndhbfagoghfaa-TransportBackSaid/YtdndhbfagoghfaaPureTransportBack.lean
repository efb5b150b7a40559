/- What is written is scanned back, whole. No condition of its own. -/
import Derived.Test.YtdndhbfagoghfaaPx7
import Derived.Test.YtdndhbfagoghfaaTrS
namespace Go.Proofs.Ytdndhbfagoghfaa.Pure
open Go.RowKit Go.Proofs.Ytdndhbfagoghfaa.P Go.Proofs.YtdndhbfagoghfaaW.PrintWords Go.Proofs.YtdndhbfagoghfaaW.PrintLast
set_option linter.unusedVariables false
set_option linter.unusedSimpArgs false

theorem TransportBack : cutroomlaw17_TransportBack.Pure := by
  intro l hl
  refine Ev.rounds (g := fun k => cutroomlaw17_TransportBack.f k l) ?_
  unfold cutroomlaw17_TransportBack.f
  refine Ev.bind (few_ev l) ?_
  by_cases c : (decide (l.length ≤ 12) && l.all (fun s => decide (VS s))) = true
  · simp only [if_pos c]
    rw [Bool.and_eq_true] at c
    have c1 : l.length ≤ 12 := of_decide_eq_true c.1
    have c2 : ∀ s ∈ l, VS s := fun s hs => of_decide_eq_true (List.all_eq_true.1 c.2 s hs)
    refine Ev.bind (written_ev l c1 c2) ?_
    simp only [if_true]
    refine Ev.bind (scan_ev l c2 c1) ?_
    refine Ev.bind awake_ev ?_
    simp only [if_true]
    refine Ev.bind (sameAll_ev l c1) ?_
    exact Ev.now _
  · simp only [if_neg c]
    refine Ev.bind awake_ev ?_
    exact Ev.now _

end Go.Proofs.Ytdndhbfagoghfaa.Pure
