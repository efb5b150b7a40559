-- Written by this session's own program (wip/tools/myprint.py), which runs the kit's print with turns of its own: not a text of the kit's print.sh.
import Derived.Test.YtcofjbbflcnaaaaPx0
import Derived.Test.YtcofjbbflcnaaaaLen64
namespace Go.Proofs.Ytcofjbbflcnaaaa.P
open Go.RowKit Go.Proofs.YtcofjbbflcnaaaaW.PrintWords Go.Proofs.YtcofjbbflcnaaaaW.PrintLast Go.Proofs.YtcofjbbflcnaaaaW.PrintMore
attribute [local go_sem] max2_int min2_int max_two min_two max_three min_three max_four min_four   -- for this text's walks alone
set_option linter.unusedVariables false
set_option linter.unusedSimpArgs false

/-! ### bits_Len64: function 80 (by hand) -/
-- IMPORT Derived.Test.YtcofjbbflcnaaaaLen64
def bits_Len64.f (a0 : Int) : Option (Int) := if 0 ≤ a0 then (if a0 ≤ 18446744073709551615 then (some ((Lib.bitLen a0.toNat : Nat) : Int)) else none) else none
set_option maxHeartbeats 4000000 in
set_option maxRecDepth 100000 in
theorem bits_Len64.calls (a0 : Int) (r : Int) (w : World) (h : bits_Len64.f a0 = some r) :
    Calls Try.prog 80 #[.int .u64 a0] w fun e w' => e = .returned (.int .i64 r) ∧ Drawn0 w w' := by
  have h0 : 0 ≤ a0 := by
    by_cases c : 0 ≤ a0
    · exact c
    · unfold bits_Len64.f at h; rw [if_neg c] at h; cases h
  have h1 : a0 ≤ 18446744073709551615 := by
    by_cases c : a0 ≤ 18446744073709551615
    · exact c
    · unfold bits_Len64.f at h; rw [if_pos h0, if_neg c] at h; cases h
  unfold bits_Len64.f at h
  rw [if_pos h0, if_pos h1] at h
  obtain rfl := Option.some.inj h
  clear h
  exact (Try.bits_Len64 a0 w h0 h1).mono fun e w' ⟨he, hw⟩ => ⟨he, hw ▸ Drawn0.refl w⟩


end Go.Proofs.Ytcofjbbflcnaaaa.P
