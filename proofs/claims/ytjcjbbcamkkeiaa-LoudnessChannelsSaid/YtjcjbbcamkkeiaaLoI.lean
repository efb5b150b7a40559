/- Lists that are the same. No condition of its own. -/
import Derived.Test.YtjcjbbcamkkeiaaLoA
import Derived.Test.YtjcjbbcamkkeiaaPx17
namespace Go.Proofs.Ytjcjbbcamkkeiaa.P
open Go.RowKit Go.Proofs.YtjcjbbcamkkeiaaW.PrintWords Go.Proofs.YtjcjbbcamkkeiaaW.PrintLast Go.Proofs.YtjcjbbcamkkeiaaW.PrintMore
set_option linter.unusedVariables false
set_option linter.unusedSimpArgs false
theorem ints_l0 (l : List Int) (hl : l.length ≤ 100000) : ∀ (m i : Nat), i + m = l.length → Ev (fun k => cutroomlaw28_ints.l0 k l l (l.length : Int) (i : Int)) true := by
  intro m
  induction m with
  | zero =>
    intro i hi
    refine Ev.step (fun k => by rw [cutroomlaw28_ints.l0]) ?_
    simp only [if_neg (show ¬ (i : Int) < (l.length : Int) by omega)]
    exact Ev.now _
  | succ m ih =>
    intro i hi
    refine Ev.step (fun k => by rw [cutroomlaw28_ints.l0]) ?_
    simp only [if_pos (show (i : Int) < (l.length : Int) by omega), if_pos (show (0 : Int) ≤ (i : Int) by omega), if_true]
    rw [w64 (by omega) (by omega)]
    exact ih (i + 1) (by omega)
theorem ints_ev (l : List Int) (hl : l.length ≤ 100000) : Ev (fun k => cutroomlaw28_ints.f k l l) true := by
  unfold cutroomlaw28_ints.f
  simp only [if_true]
  exact ints_l0 l hl l.length 0 (by omega)
end Go.Proofs.Ytjcjbbcamkkeiaa.P
