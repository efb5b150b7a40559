/- The gated windows and the measure are the reference's. No condition of its own. -/
import Derived.Test.YtjcjbbcamkkeiaaPx5
import Derived.Test.YtjcjbbcamkkeiaaLoD
import Derived.Test.YtjcjbbcamkkeiaaLoJ
import Derived.Test.YtjcjbbcamkkeiaaLoW
namespace Go.Proofs.Ytjcjbbcamkkeiaa.Pure
open Go.RowKit Go.Proofs.Ytjcjbbcamkkeiaa.P Go.Proofs.YtjcjbbcamkkeiaaW.PrintWords Go.Proofs.YtjcjbbcamkkeiaaW.PrintLast
set_option linter.unusedVariables false
set_option linter.unusedSimpArgs false

theorem gates_l0 (xs : List (List (List Int))) (h : ∀ x ∈ xs, Snd x) (hl : xs.length ≤ 10) : ∀ (m i : Nat), i + m = xs.length → Ev (fun k => cutroomlaw28_LoudnessGates.l0 k xs (xs.length : Int) (i : Int)) true := by
  intro m
  induction m with
  | zero =>
    intro i hi
    refine Ev.step (fun k => by rw [cutroomlaw28_LoudnessGates.l0]) ?_
    simp only [if_neg (show ¬ (i : Int) < (xs.length : Int) by omega)]
    exact Ev.bind awake_ev (Ev.now _)
  | succ m ih =>
    intro i hi
    have hlt : i < xs.length := by omega
    have hx := h _ (List.getElem_mem hlt)
    have e : rd_L3 xs (i : Int) = xs[i] := by simp [rd_L3, List.getD, hlt]
    have hlen : (if prp xs[i] = true then (G (pws xs[i]), (0 : Int)) else ([], 1)).1.length ≤ 100000 := by
      split
      · rename_i c
        have := (pws_bd (pr_of hx c)).1
        have := G_len (pws xs[i])
        show (G (pws xs[i])).length ≤ _
        omega
      · show 0 ≤ _; omega
    refine Ev.step (fun k => by rw [cutroomlaw28_LoudnessGates.l0]) ?_
    simp only [if_pos (show (i : Int) < (xs.length : Int) by omega), if_pos (show (0 : Int) ≤ (i : Int) by omega), e]
    refine Ev.bind (gated_ev _ hx) ?_
    refine Ev.bind (rgated_ev _ hx) ?_
    refine Ev.bind (measure_ev _ hx) ?_
    refine Ev.bind (rmeasure_ev _ hx) ?_
    simp only [if_true]
    refine Ev.bind (sints_ev _ hlen) ?_
    simp only [if_true, beq_self_eq_true, Bool.not_true, Bool.or_self, Bool.false_eq_true, if_false]
    rw [w64 (by omega) (by omega)]
    exact ih (i + 1) (by omega)

theorem LoudnessGates : cutroomlaw28_LoudnessGates.Pure := by
  intro raw tape h0 h1
  refine Ev.rounds (g := fun k => cutroomlaw28_LoudnessGates.f k raw tape) ?_
  unfold cutroomlaw28_LoudnessGates.f
  obtain ⟨r1, m1, e1⟩ := made_ev tape 32767 (by decide) (by decide)
  obtain ⟨r2, m2, e2⟩ := made_ev tape 300 (by decide) (by decide)
  obtain ⟨r3, m3, e3⟩ := made_ev tape 9 (by decide) (by decide)
  refine Ev.bind e1 ?_
  refine Ev.bind e2 ?_
  refine Ev.bind e3 ?_
  simp only [Option.bind_some]
  refine gates_l0 [raw, r1, r2, r3] (fun x hx => ?_) (by show 4 ≤ 10; decide) 4 0 rfl
  rcases List.mem_cons.1 hx with rfl | hx
  · exact snd_raw h0
  rcases List.mem_cons.1 hx with rfl | hx
  · exact snd_md m1 (by decide)
  rcases List.mem_cons.1 hx with rfl | hx
  · exact snd_md m2 (by decide)
  rcases List.mem_cons.1 hx with rfl | hx
  · exact snd_md m3 (by decide)
  · simp at hx

end Go.Proofs.Ytjcjbbcamkkeiaa.Pure
