/- The sample of a frame is never more than half a sample away from the beginning of the frame. No condition of its own. -/
import Derived.Test.YtcofjbbflcnaaaaPx8
import Derived.Test.YtcofjbbflcnaaaaCadS
namespace Go.Proofs.Ytcofjbbflcnaaaa.Pure
open Go.RowKit Go.Proofs.Ytcofjbbflcnaaaa.P Go.Proofs.YtcofjbbflcnaaaaW.PrintWords Go.Proofs.YtcofjbbflcnaaaaW.PrintLast
set_option linter.unusedVariables false

theorem wf32 {x : Int} (h : (Lit.int .i32 x).wf = true) : -2147483648 ≤ x ∧ x ≤ 2147483647 := by
  simp [Lit.wf, IntKind.min, IntKind.max, IntKind.signed, IntKind.bits] at h
  omega

theorem CadenceHalf : cutroomlaw20_CadenceHalf.Pure := by
  intro n num den hn ha hb
  have nw := wf32 hn
  refine Ev.rounds (g := fun k => cutroomlaw20_CadenceHalf.f k n num den) ?_
  unfold cutroomlaw20_CadenceHalf.f
  have out : Ev (fun k => cutroomlaw20_CadenceHalf.j0 k n true num den) true := by
    refine Ev.step (fun k => by rw [cutroomlaw20_CadenceHalf.j0]) ?_
    simp only [if_true]
    refine Ev.bind awake_ev ?_
    exact Ev.now _
  refine Ev.bind (ref_usable_ev num den) ?_
  by_cases c1 : usable num den = true
  · simp only [c1, if_true]
    by_cases c2 : n = -2147483648
    · simp only [c2, BEq.rfl]; rw [← c2]; exact out
    · simp only [show (n == -2147483648) = false by simpa using c2]
      refine Ev.step (fun k => by rw [cutroomlaw20_CadenceHalf.j0]) ?_
      simp only [Bool.false_eq_true, if_false]
      rw [w64 (x := n) (by omega) (by omega)]
      refine Ev.bind (sample_ev n num den ha hb) ?_
      have u := usable_iff.1 c1
      have e1 : sampleR n num den = (SMP n num den, 0) := by unfold sampleR; rw [if_pos c1, if_pos (by omega)]
      rw [e1]
      simp only [if_true]
      obtain ⟨p, hp⟩ : ∃ p, p = n * (48000 * den) := ⟨_, rfl⟩
      obtain ⟨s, hs⟩ : ∃ s, s = SMP n num den := ⟨_, rfl⟩
      have hs' : s = (2 * p + num) / (2 * num) := by rw [hs, hp]; unfold SMP; congr 1; grind
      have am := abs_mul (n := n) (B := 2147483647) (C := 48000 * den) (by omega) (by omega) (by omega)
      rw [← hp] at am
      have m := Int.mul_ediv_add_emod (2 * p + num) (2 * num)
      have m0 := Int.emod_nonneg (2 * p + num) (show 2 * num ≠ 0 by omega)
      have m1 := Int.emod_lt_of_pos (2 * p + num) (show 0 < 2 * num by omega)
      rw [← hs'] at m
      have e2 : 2 * num * s = 2 * (s * num) := by grind
      rw [← hs, w64 (x := n * 48000) (by omega) (by omega), show n * 48000 * den = p by rw [hp]; grind, w64 (x := p) (by omega) (by omega), w64 (x := s * num) (by omega) (by omega), w64 (x := s * num - p) (by omega) (by omega), w64 (x := 2 * (s * num - p)) (by omega) (by omega), w64 (x := -num) (by omega) (by omega)]
      simp only [if_pos (show s * num - p > -1099511627776 by omega), if_pos (show s * num - p < 1099511627776 by omega), if_pos (show 2 * (s * num - p) ≤ num by omega), if_pos (show 2 * (s * num - p) ≥ -num by omega)]
      refine Ev.bind awake_ev ?_
      exact Ev.now _
  · simp only [c1, Bool.false_eq_true, if_false]
    exact out

end Go.Proofs.Ytcofjbbflcnaaaa.Pure
