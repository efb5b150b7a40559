-- Written by this session's own program (wip/tools/myprint.py), which runs the kit's print with turns of its own: not a text of the kit's print.sh.
import Derived.Test.YtcofjbbflcnaaaaPx0
namespace Go.Proofs.Ytcofjbbflcnaaaa.P
open Go.RowKit Go.Proofs.YtcofjbbflcnaaaaW.PrintWords Go.Proofs.YtcofjbbflcnaaaaW.PrintLast Go.Proofs.YtcofjbbflcnaaaaW.PrintMore
attribute [local go_sem] max2_int min2_int max_two min_two max_three min_three max_four min_four   -- for this text's walks alone
set_option linter.unusedVariables false
set_option linter.unusedSimpArgs false

/-! ### bits_Div64: function 76 (by hand) -/
def bits_Div64.f (a0 a1 a2 : Int) : Option (Int × Int) := if a0 = 0 ∧ 1 ≤ a2 ∧ a2 < 18446744073709551616 ∧ 0 ≤ a1 ∧ a1 < 18446744073709551616 then some (a1 / a2, a1 % a2) else none
set_option maxHeartbeats 1000000 in
/-- a division whose high part is zero -/
theorem bits_Div64.calls (a0 a1 a2 r1 r2 : Int) (w : World) (h : bits_Div64.f a0 a1 a2 = some (r1, r2)) :
    Calls Try.prog 76 #[.int .u64 a0, .int .u64 a1, .int .u64 a2] w fun e w' => e = .returned (.tuple #[.int .u64 r1, .int .u64 r2]) ∧ Drawn0 w w' := by
  unfold bits_Div64.f at h
  by_cases c : a0 = 0 ∧ 1 ≤ a2 ∧ a2 < 18446744073709551616 ∧ 0 ≤ a1 ∧ a1 < 18446744073709551616
  · rw [if_pos c] at h
    obtain ⟨rfl, c1, c2, c3, c4⟩ := c
    simp only [Option.some.injEq, Prod.mk.injEq] at h
    obtain ⟨rfl, rfl⟩ := h
    have f1 : (a2 == 0) = false := beq_eq_false_iff_ne.2 (by omega)
    have f2 : decide (a2 ≤ 0) = false := decide_eq_false (by omega)
    have f3 : ¬ a2 = 0 := by omega
    have e1 : a1 / a2 ≤ a1 := Int.ediv_le_self a2 c3
    have e2 : 0 ≤ a1 / a2 := Int.ediv_nonneg c3 (by omega)
    have e3 : IntKind.u64.wrap (a1 / a2) = a1 / a2 := by simp only [IntKind.wrap, IntKind.bits, IntKind.signed]; simp; exact Int.emod_eq_of_lt e2 (by omega)
    have e4 : a1.tdiv a2 = a1 / a2 := Int.tdiv_eq_ediv_of_nonneg c3
    have e5 : a1.tmod a2 = a1 % a2 := Int.tmod_eq_emod_of_nonneg c3
    go_enter Try.func76, Try.ntmps76
    go_wp2
    go_quiet (fail)
    go_wp2
    go_ret2
    exact ⟨rfl, ⟨_, rfl⟩⟩
  · rw [if_neg c] at h; cases h


end Go.Proofs.Ytcofjbbflcnaaaa.P
