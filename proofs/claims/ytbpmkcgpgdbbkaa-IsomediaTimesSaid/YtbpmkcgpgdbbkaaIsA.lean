/- One empty box, and an empty file. No condition of its own. -/
import Derived.Test.YtbpmkcgpgdbbkaaPx13
import Derived.Test.YtbpmkcgpgdbbkaaPx29
namespace Go.Proofs.Ytbpmkcgpgdbbkaa.P
open Go.RowKit Go.Proofs.YtbpmkcgpgdbbkaaW.PrintWords Go.Proofs.YtbpmkcgpgdbbkaaW.PrintLast Go.Proofs.YtbpmkcgpgdbbkaaW.PrintMore
set_option linter.unusedVariables false
set_option linter.unusedSimpArgs false
theorem w64 {x : Int} (h0 : -9223372036854775808 ≤ x) (h1 : x < 9223372036854775808) : wrap64 x = x := by unfold wrap64; omega
theorem rdI {x : List Int} {i : Nat} (h : i < x.length) : rd x (i : Int) = x[i] := by simp [rd, List.getD, h]
theorem free_box : isomedia_Boxes.f 5 [0, 0, 0, 8, 102, 114, 101, 101] 0 8 = some ([⟨⟨#[102, 114, 101, 101]⟩, 0, 8, 8⟩], 0) := by kernel_rfl
theorem no_box : isomedia_Boxes.f 5 [] 0 0 = some ([], 0) := by kernel_rfl
theorem awake_ev : Ev (fun k => cutroomlaw18_awake.f k) true := by
  unfold cutroomlaw18_awake.f
  refine Ev.bind (Ev.of (fun k => isomedia_Boxes.mono _ _ _ _) free_box) ?_
  refine Ev.bind (Ev.of (fun k => isomedia_Boxes.mono _ _ _ _) no_box) ?_
  exact Ev.congr (fun _ => if_pos ⟨rfl, rfl, rfl, rfl, rfl, rfl⟩) (Ev.now _)
end Go.Proofs.Ytbpmkcgpgdbbkaa.P
