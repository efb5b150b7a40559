-- Written by this session's own program (wip/tools/myprint.py), which runs the kit's print with turns of its own: not a text of the kit's print.sh.
import Derived.Test.YtdndhbfagoghfaaPx0
import Derived.Lib.SliceRun
import Derived.WalkSpells
namespace Go.Proofs.Ytdndhbfagoghfaa.P
open Go.RowKit Go.Proofs.YtdndhbfagoghfaaW.PrintWords Go.Proofs.YtdndhbfagoghfaaW.PrintLast Go.Proofs.YtdndhbfagoghfaaW.PrintMore
attribute [local go_sem] max2_int min2_int max_two min_two max_three min_three max_four min_four   -- for this text's walks alone
set_option linter.unusedVariables false
set_option linter.unusedSimpArgs false

/-! ### slices_Clone_byte_byte: function 42 (by hand) -/
-- IMPORT Derived.Lib.SliceRun
-- IMPORT Derived.WalkSpells
def slices_Clone_byte_byte.f (l0 : List Int) : Option (List Int) := if l0.length ≤ 140737488355328 then some l0 else none
set_option maxHeartbeats 1000000 in
theorem slices_Clone_byte_byte.calls (A0 : Option Addr) (c0 : Nat) (l0 : List Int) (r : List Int) (w : World) (hr0 : Kd.C (Kd.int .u8) w A0 l0.length l0) (hc0 : l0.length ≤ c0) (h : slices_Clone_byte_byte.f l0 = some r) :
    Calls Try.prog 42 #[.slice A0 l0.length c0] w fun e w' => ∃ v0_ : Value, e = .returned (v0_) ∧ Kd.R (Kd.int .u8) 5 w' w.heap.size (fun _ => True) v0_ r ∧ Below w.heap.size w w' := by
  have hl : l0.length ≤ 140737488355328 := by
    unfold slices_Clone_byte_byte.f at h
    by_cases c : l0.length ≤ 140737488355328
    · exact c
    · rw [if_neg c] at h; cases h
  unfold slices_Clone_byte_byte.f at h
  rw [if_pos hl] at h
  obtain rfl := Option.some.inj h
  clear h
  have q22 : ∀ (w : World) (a : Option Addr) (n c n' c' : Nat), (binOp .eql 22 (.slice a n c) (.slice none n' c')).run Try.prog w = .ok (.bool a.isNone) w := fun w a n c n' c' => Lib.run_eql_slice_nil w _ _ a n c n' c' Try.underlying22
  have HR := Aside0.mk hr0
  clear hr0
  rcases A0 with _ | ad
  · have hn : l0.length = 0 := by
      rcases Nat.eq_zero_or_pos l0.length with h | h
      · exact h
      · obtain ⟨ad, e, _⟩ := HR.out.2.2 h
        cases e
    have hn2 : l0 = [] := List.eq_nil_of_length_eq_zero hn
    subst hn2
    go_enter Try.func42, Try.ntmps42
    go_wp2
    go_ret
    exact ⟨_, rfl, Kd.R_nil _ _ _ _ _, Below.refl _ _⟩
  · have HB : Below w.heap.size w (w.alloc (Obj.cells #[] 5)) := below_alloc (Below.refl _ _) _
    have HRo := Aside0.mk (Kd.reads_of_C (d := (0 : Int)) (Kd.C_below HR.out HB))
    clear HB
    go_enter Try.func42, Try.ntmps42
    go_wp2_with (at_builtin; refine print_append_row_of (w0 := w) (Value.int .u8) (0 : Int) w.heap.size rfl _ _ 22 5 (.int .u8 0) 1 rfl Try.underlying22 info5 rfl (by decide) (fun _ => rfl) _ [] l0 (some ad) l0.length c0 rfl rfl ?c1 ?c2 ?c3 ?c4 ?c5 ?_)
    case c1 => exact own_lit_of w w.heap.size 5 ([] : List Int) (Nat.le_refl _) (by simp)
    case c2 => exact HRo.out
    case c3 => exact below_alloc (Below.refl _ _) _
    case c4 => simp
    case c5 => simp; omega
    intro v1 w1 hown hb hg hat
    have HO := Aside0.mk hown
    have HBq := Aside0.mk hb
    clear hown hb hg hat
    go_wp2
    go_ret
    exact ⟨v1, rfl, Kd.R_of_own (by simpa using HO.out) (fun _ _ => trivial), HBq.out⟩


end Go.Proofs.Ytdndhbfagoghfaa.P
