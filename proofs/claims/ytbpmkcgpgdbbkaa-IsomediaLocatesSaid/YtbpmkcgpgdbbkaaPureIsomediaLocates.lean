/- Which sample every time leads to. No condition of its own. -/
import Derived.Test.YtbpmkcgpgdbbkaaPx5
import Derived.Test.YtbpmkcgpgdbbkaaIsB
namespace Go.Proofs.Ytbpmkcgpgdbbkaa.Pure
open Go.RowKit Go.Proofs.Ytbpmkcgpgdbbkaa.P Go.Proofs.YtbpmkcgpgdbbkaaW.PrintWords Go.Proofs.YtbpmkcgpgdbbkaaW.PrintLast
set_option linter.unusedVariables false
set_option linter.unusedSimpArgs false

theorem IsomediaLocates : cutroomlaw18_IsomediaLocates.Pure := by
  intro a ts i time _ hq _ _
  have hq3 : ∀ q ∈ ts, q.f3.length < 2932031007402 := fun q h => by have := (hq.2.2 q h).2.2.2.1.2.1; omega
  have hq4 : ∀ q ∈ ts, q.f4.length < 8796093022208 := fun q h => by have := (hq.2.2 q h).2.2.2.2.2.1; omega
  refine Ev.rounds (g := fun k => cutroomlaw18_IsomediaLocates.f k a ts i time) ?_
  unfold cutroomlaw18_IsomediaLocates.f
  obtain ⟨b, hb⟩ := light_ev a ts hq3
  have yes : Ev (fun k => cutroomlaw18_IsomediaLocates.j0 k i time true a ts) true := by
    refine Ev.step (fun k => by rw [cutroomlaw18_IsomediaLocates.j0]) ?_
    simp only [if_true]
    exact Ev.bind awake_ev (Ev.now _)
  refine Ev.bind hb ?_
  cases b with
  | false => simp only [Bool.false_eq_true, if_false]; exact yes
  | true =>
    simp only [if_true]
    by_cases c0 : i < 0
    · simp only [if_pos c0]; exact yes
    by_cases c1 : i ≥ (ts.length : Int)
    · simp only [if_neg c0, decide_eq_true c1]; exact yes
    · simp only [if_neg c0, decide_eq_false c1]
      obtain ⟨n, rfl⟩ : ∃ n : Nat, i = (n : Int) := ⟨i.toNat, by omega⟩
      have hlt : n < ts.length := by omega
      have h3 := hq3 _ (List.getElem_mem hlt)
      have h4 := hq4 _ (List.getElem_mem hlt)
      obtain ⟨r, r1, r2⟩ := locate_both ts[n].f0 ts[n].f1 ts[n].f2 ts[n].f3 ts[n].f4 time h3
      refine Ev.step (fun k => by rw [cutroomlaw18_IsomediaLocates.j0]) ?_
      simp only [Bool.false_eq_true, if_false]
      refine Ev.bind awake_ev ?_
      simp only [if_true, if_pos (show (0 : Int) ≤ (n : Int) by omega), if_pos (show (n : Int) < (ts.length : Int) by omega), rd48 hlt]
      refine Ev.bind (track_ev ts[n].f0 ts[n].f1 ts[n].f2 ts[n].f3 ts[n].f4 h3 h4) ?_
      refine Ev.bind r1 ?_
      refine Ev.bind r2 ?_
      simp only [beq_self_eq_true]
      exact Ev.now _

end Go.Proofs.Ytbpmkcgpgdbbkaa.Pure
