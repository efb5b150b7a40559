/- The reference's Frames of a list and itself. No condition of its own. -/
import Derived.Test.YtcofjbbflcnaaaaCadN
import Derived.Test.YtcofjbbflcnaaaaPx43
namespace Go.Proofs.Ytcofjbbflcnaaaa.P
open Go.RowKit Go.Proofs.YtcofjbbflcnaaaaW.PrintWords Go.Proofs.YtcofjbbflcnaaaaW.PrintLast Go.Proofs.YtcofjbbflcnaaaaW.PrintMore
set_option linter.unusedVariables false

theorem ref_same_self (f : S52) : cutroomref20_Same.f f.f0 f.f1 f.f2 f.f3 f.f4 f.f0 f.f1 f.f2 f.f3 f.f4 = some true := by
  unfold cutroomref20_Same.f
  rw [if_pos rfl, if_pos rfl, if_pos rfl, if_pos rfl, BEq.rfl]
theorem ref_frames_l0 (xs : List S52) (hl : xs.length ≤ 4611686018427387904) : ∀ (d i : Nat), i + d = xs.length → Ev (fun k => cutroomref20_Frames.l0 k xs xs (i : Int)) true := by
  intro d
  induction d with
  | zero =>
    intro i hi
    refine Ev.step (fun k => by rw [cutroomref20_Frames.l0]) ?_
    simp only [if_neg (show ¬ (i : Int) < (xs.length : Int) by omega)]
    exact Ev.now _
  | succ d ih =>
    intro i hi
    refine Ev.step (fun k => by rw [cutroomref20_Frames.l0]) ?_
    simp only [if_pos (show (i : Int) < (xs.length : Int) by omega), if_pos (show (0 : Int) ≤ (i : Int) by omega), ref_same_self, Option.bind_some, if_true]
    rw [m64 (x := (i : Int) + 1) (by omega) (by omega)]
    exact ih (i + 1) (by omega)
theorem ref_frames_same (xs : List S52) (hl : xs.length ≤ 4611686018427387904) : Ev (fun k => cutroomref20_Frames.f k xs xs) true := by
  unfold cutroomref20_Frames.f
  simp only [if_true]
  exact ref_frames_l0 xs hl xs.length 0 (by omega)
theorem pullR_len (xs : List S52) (ws : List S43) : (pullR xs ws).1.length ≤ 256 := by
  unfold pullR
  split
  · split
    · split
      · simp
      · rw [List.length_map]; omega
    · simp
  · simp
end Go.Proofs.Ytcofjbbflcnaaaa.P
