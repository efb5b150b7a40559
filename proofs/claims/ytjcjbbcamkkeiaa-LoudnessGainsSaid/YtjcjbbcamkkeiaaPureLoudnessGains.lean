/- The gain is the reference's. No condition of its own. -/
import Derived.Test.YtjcjbbcamkkeiaaPx11
import Derived.Test.YtjcjbbcamkkeiaaLoG
import Derived.Test.YtjcjbbcamkkeiaaLoW
namespace Go.Proofs.Ytjcjbbcamkkeiaa.Pure
open Go.RowKit Go.Proofs.Ytjcjbbcamkkeiaa.P Go.Proofs.YtjcjbbcamkkeiaaW.PrintWords Go.Proofs.YtjcjbbcamkkeiaaW.PrintLast
set_option linter.unusedVariables false
set_option linter.unusedSimpArgs false

theorem gains_l2 (x2 x3 x12 : Int) (x : List (List Int)) (hx : Snd x) (xs : List (List (List Int))) (n i : Int) (ts : List Int) (tn j : Int) (ps : List Int) (hps : ps.length ≤ 10)
    (hr : Ev (fun k => cutroomlaw28_LoudnessGains.l1 k x2 x3 x xs n i ts tn (wrap64 (j + 1))) true) : ∀ (m q : Nat), q + m = ps.length → Ev (fun k => cutroomlaw28_LoudnessGains.l2 k x2 x3 x x12 xs n i ts tn j ps (ps.length : Int) (q : Int)) true := by
  intro m
  induction m with
  | zero =>
    intro q hq
    refine Ev.step (fun k => by rw [cutroomlaw28_LoudnessGains.l2]) ?_
    simp only [if_neg (show ¬ (q : Int) < (ps.length : Int) by omega)]
    exact hr
  | succ m ih =>
    intro q hq
    obtain ⟨r, g1, g2⟩ := same_gain x hx x12 (rd ps (q : Int))
    refine Ev.step (fun k => by rw [cutroomlaw28_LoudnessGains.l2]) ?_
    simp only [if_pos (show (q : Int) < (ps.length : Int) by omega), if_pos (show (0 : Int) ≤ (q : Int) by omega)]
    refine Ev.bind g1 ?_
    refine Ev.bind g2 ?_
    simp only [if_true]
    rw [w64 (by omega) (by omega)]
    exact ih (q + 1) (by omega)
theorem gains_l1 (x2 x3 : Int) (x : List (List Int)) (hx : Snd x) (xs : List (List (List Int))) (n i : Int) (ts : List Int) (hts : ts.length ≤ 10)
    (hr : Ev (fun k => cutroomlaw28_LoudnessGains.l0 k x2 x3 xs n (wrap64 (i + 1))) true) : ∀ (m q : Nat), q + m = ts.length → Ev (fun k => cutroomlaw28_LoudnessGains.l1 k x2 x3 x xs n i ts (ts.length : Int) (q : Int)) true := by
  intro m
  induction m with
  | zero =>
    intro q hq
    refine Ev.step (fun k => by rw [cutroomlaw28_LoudnessGains.l1]) ?_
    simp only [if_neg (show ¬ (q : Int) < (ts.length : Int) by omega)]
    exact hr
  | succ m ih =>
    intro q hq
    have h1 := ih (q + 1) (by omega)
    refine Ev.step (fun k => by rw [cutroomlaw28_LoudnessGains.l1]) ?_
    simp only [if_pos (show (q : Int) < (ts.length : Int) by omega), if_pos (show (0 : Int) ≤ (q : Int) by omega), Option.bind_some]
    refine gains_l2 x2 x3 _ x hx xs n i ts _ (q : Int) _ (by show 2 ≤ 10; decide) ?_ 2 0 rfl
    rw [w64 (by omega) (by omega)]
    exact h1
theorem gains_l0 (x2 x3 : Int) (xs : List (List (List Int))) (h : ∀ x ∈ xs, Snd x) (hl : xs.length ≤ 10) : ∀ (m i : Nat), i + m = xs.length → Ev (fun k => cutroomlaw28_LoudnessGains.l0 k x2 x3 xs (xs.length : Int) (i : Int)) true := by
  intro m
  induction m with
  | zero =>
    intro i hi
    refine Ev.step (fun k => by rw [cutroomlaw28_LoudnessGains.l0]) ?_
    simp only [if_neg (show ¬ (i : Int) < (xs.length : Int) by omega)]
    exact Ev.bind awake_ev (Ev.now _)
  | succ m ih =>
    intro i hi
    have hlt : i < xs.length := by omega
    have hx := h _ (List.getElem_mem hlt)
    have e : rd_L3 xs (i : Int) = xs[i] := by simp [rd_L3, List.getD, hlt]
    have h1 := ih (i + 1) (by omega)
    refine Ev.step (fun k => by rw [cutroomlaw28_LoudnessGains.l0]) ?_
    simp only [if_pos (show (i : Int) < (xs.length : Int) by omega), if_pos (show (0 : Int) ≤ (i : Int) by omega), Option.bind_some, e]
    refine gains_l1 x2 x3 _ hx xs _ (i : Int) _ (by show 3 ≤ 10; decide) ?_ 3 0 rfl
    rw [w64 (by omega) (by omega)]
    exact h1

theorem LoudnessGains : cutroomlaw28_LoudnessGains.Pure := by
  intro raw tape a2 a3 h0 h1 h2 h3
  refine Ev.rounds (g := fun k => cutroomlaw28_LoudnessGains.f k raw tape a2 a3) ?_
  unfold cutroomlaw28_LoudnessGains.f
  obtain ⟨r1, m1, e1⟩ := made_ev tape 32767 (by decide) (by decide)
  obtain ⟨r2, m2, e2⟩ := made_ev tape 300 (by decide) (by decide)
  refine Ev.bind e1 ?_
  refine Ev.bind e2 ?_
  simp only [Option.bind_some]
  refine gains_l0 a2 a3 [raw, r1, r2] (fun x hx => ?_) (by show 3 ≤ 10; decide) 3 0 rfl
  rcases List.mem_cons.1 hx with rfl | hx
  · exact snd_raw h0
  rcases List.mem_cons.1 hx with rfl | hx
  · exact snd_md m1 (by decide)
  rcases List.mem_cons.1 hx with rfl | hx
  · exact snd_md m2 (by decide)
  · simp at hx

end Go.Proofs.Ytjcjbbcamkkeiaa.Pure
