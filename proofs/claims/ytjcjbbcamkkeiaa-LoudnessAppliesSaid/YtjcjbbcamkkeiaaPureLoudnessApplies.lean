/- Sound with a gain is the reference's. No condition of its own. -/
import Derived.Test.YtjcjbbcamkkeiaaPx12
import Derived.Test.YtjcjbbcamkkeiaaLoP
import Derived.Test.YtjcjbbcamkkeiaaLoC
namespace Go.Proofs.Ytjcjbbcamkkeiaa.Pure
open Go.RowKit Go.Proofs.Ytjcjbbcamkkeiaa.P Go.Proofs.YtjcjbbcamkkeiaaW.PrintWords Go.Proofs.YtjcjbbcamkkeiaaW.PrintLast
set_option linter.unusedVariables false
set_option linter.unusedSimpArgs false

theorem app_small {x : List (List Int)} (hx : Snd x) (g : Int) : (∀ l ∈ (app x g).1, l.length ≤ 1048576) ∧ (app x g).1.length ≤ 100 := by
  unfold app
  split
  · rename_i c
    have hP := pr_of hx c.1
    have hm := hP.most
    have h4 := hP.len
    refine ⟨fun l hl => ?_, by show (x.map (mp g)).length ≤ 100; rw [List.length_map]; omega⟩
    obtain ⟨y, hy, rfl⟩ := List.mem_map.1 hl
    unfold mp
    rw [List.length_map, (hP.rows y hy).2]
    exact hm
  · exact ⟨fun l hl => absurd hl (by simp), by decide⟩
theorem applies_l1 (a2 : Int) (x : List (List Int)) (hx : Snd x) (xs : List (List (List Int))) (n i : Int) (gs : List Int) (hgs : gs.length ≤ 10) (hr : Ev (fun k => cutroomlaw28_LoudnessApplies.l0 k a2 xs n (wrap64 (i + 1))) true) :
    ∀ (m q : Nat), q + m = gs.length → Ev (fun k => cutroomlaw28_LoudnessApplies.l1 k a2 x xs n i gs (gs.length : Int) (q : Int)) true := by
  intro m
  induction m with
  | zero =>
    intro q hq
    refine Ev.step (fun k => by rw [cutroomlaw28_LoudnessApplies.l1]) ?_
    simp only [if_neg (show ¬ (q : Int) < (gs.length : Int) by omega)]
    exact hr
  | succ m ih =>
    intro q hq
    obtain ⟨s1, s2⟩ := app_small hx (rd gs (q : Int))
    refine Ev.step (fun k => by rw [cutroomlaw28_LoudnessApplies.l1]) ?_
    simp only [if_pos (show (q : Int) < (gs.length : Int) by omega), if_pos (show (0 : Int) ≤ (q : Int) by omega)]
    refine Ev.bind (apply_ev x hx _) ?_
    refine Ev.bind (rapply_ev x hx _) ?_
    simp only [if_true]
    refine Ev.bind (same_ev _ s1 s2) ?_
    simp only [if_true]
    rw [w64 (by omega) (by omega)]
    exact ih (q + 1) (by omega)
theorem applies_l0 (a2 : Int) (xs : List (List (List Int))) (h : ∀ x ∈ xs, Snd x) (hl : xs.length ≤ 10) : ∀ (m i : Nat), i + m = xs.length → Ev (fun k => cutroomlaw28_LoudnessApplies.l0 k a2 xs (xs.length : Int) (i : Int)) true := by
  intro m
  induction m with
  | zero =>
    intro i hi
    refine Ev.step (fun k => by rw [cutroomlaw28_LoudnessApplies.l0]) ?_
    simp only [if_neg (show ¬ (i : Int) < (xs.length : Int) by omega)]
    exact Ev.bind awake_ev (Ev.now _)
  | succ m ih =>
    intro i hi
    have hlt : i < xs.length := by omega
    have hx := h _ (List.getElem_mem hlt)
    have e : rd_L3 xs (i : Int) = xs[i] := by simp [rd_L3, List.getD, hlt]
    have h1 := ih (i + 1) (by omega)
    refine Ev.step (fun k => by rw [cutroomlaw28_LoudnessApplies.l0]) ?_
    simp only [if_pos (show (i : Int) < (xs.length : Int) by omega), if_pos (show (0 : Int) ≤ (i : Int) by omega), Option.bind_some, e]
    refine applies_l1 a2 _ hx xs _ (i : Int) _ (by show 2 ≤ 10; decide) ?_ 2 0 rfl
    rw [w64 (by omega) (by omega)]
    exact h1

theorem LoudnessApplies : cutroomlaw28_LoudnessApplies.Pure := by
  intro raw tape a2 h0 h1 h2
  refine Ev.rounds (g := fun k => cutroomlaw28_LoudnessApplies.f k raw tape a2) ?_
  unfold cutroomlaw28_LoudnessApplies.f
  obtain ⟨r1, m1, e1⟩ := made_ev tape 32767 (by decide) (by decide)
  refine Ev.bind e1 ?_
  simp only [Option.bind_some]
  refine applies_l0 a2 [raw, r1] (fun x hx => ?_) (by show 2 ≤ 10; decide) 2 0 rfl
  rcases List.mem_cons.1 hx with rfl | hx
  · exact snd_raw h0
  rcases List.mem_cons.1 hx with rfl | hx
  · exact snd_md m1 (by decide)
  · simp at hx

end Go.Proofs.Ytjcjbbcamkkeiaa.Pure
