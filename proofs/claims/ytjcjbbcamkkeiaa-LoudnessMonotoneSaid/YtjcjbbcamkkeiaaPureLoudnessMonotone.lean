/- A greater target, or a greater peak, never gives a smaller gain. No condition of its own. -/
import Derived.Test.YtjcjbbcamkkeiaaPx7
import Derived.Test.YtjcjbbcamkkeiaaLoD
import Derived.Test.YtjcjbbcamkkeiaaLoW
namespace Go.Proofs.Ytjcjbbcamkkeiaa.Pure
open Go.RowKit Go.Proofs.Ytjcjbbcamkkeiaa.P Go.Proofs.YtjcjbbcamkkeiaaW.PrintWords Go.Proofs.YtjcjbbcamkkeiaaW.PrintLast
set_option linter.unusedVariables false
set_option linter.unusedSimpArgs false

theorem wfu16 {x : Int} (h : (Lit.int .u16 x).wf = true) : 0 ≤ x ∧ x ≤ 65535 := by
  simp [Lit.wf, IntKind.min, IntKind.max, IntKind.signed, IntKind.bits] at h
  omega
theorem wu16 {n : Int} (h0 : 0 ≤ n) (h1 : n < 2 ^ 16) : IntKind.u16.wrap n = n := by
  have : IntKind.u16.wrap n = n % 65536 := by simp [IntKind.wrap, IntKind.bits, IntKind.signed]
  omega
theorem and15 {x : Int} (h0 : 0 ≤ x) (h1 : x ≤ 65535) : Go.bits .and .u16 x 32767 = x % 32768 := by
  have := bits_mask .u16 16 (by decide) (fun n a b => wu16 a b) 15 (by decide) x h0 (by omega)
  rwa [show ((2 : Int) ^ 15 - 1) = 32767 by decide, show ((2 : Int) ^ 15) = 32768 by decide] at this
/-- a greater limit, a later first yes -/
theorem later {p q : Nat → Bool} (hpq : ∀ t, q t = true → p t = true) {a b : Nat} (ha : a ≤ 65536) (hb : b ≤ 65536) (h1 : ∀ t, t < a → p t = false) (h2 : b < 65536 → q b = true) : a ≤ b := by
  rcases Nat.lt_or_ge b a with h | h
  · have h3 := hpq b (h2 (by omega))
    rw [h1 b h] at h3
    cases h3
  · exact h

theorem LoudnessMonotone : cutroomlaw28_LoudnessMonotone.Pure := by
  intro tape a b p q t0 t1 t2 wa wb wp wq
  refine Ev.rounds (g := fun k => cutroomlaw28_LoudnessMonotone.f k tape a b p q) ?_
  unfold cutroomlaw28_LoudnessMonotone.f
  obtain ⟨a0, a1⟩ := wfu16 wa
  obtain ⟨b0, b1⟩ := wfu16 wb
  obtain ⟨p0, p1⟩ := wfu16 wp
  obtain ⟨q0, q1⟩ := wfu16 wq
  obtain ⟨x, m1, e1⟩ := made_ev tape 3000 (by decide) (by decide)
  obtain ⟨L, _, hP⟩ := md_pr m1 (by decide)
  obtain ⟨lo, hlo, l0, l1, l2⟩ : ∃ lo, mn a b = lo ∧ 0 ≤ lo ∧ lo ≤ 65535 ∧ lo ≤ mx a b := ⟨_, rfl, by unfold mn; split <;> omega, by unfold mn; split <;> omega, by unfold mn mx; split <;> split <;> omega⟩
  obtain ⟨hi, hhi, h0, h1⟩ : ∃ hi, mx a b = hi ∧ 0 ≤ hi ∧ hi ≤ 65535 := ⟨_, rfl, by unfold mx; split <;> omega, by unfold mx; split <;> omega⟩
  obtain ⟨pk', hpk, k0, k1⟩ : ∃ z, mn p q = z ∧ 0 ≤ z ∧ z ≤ 65535 := ⟨_, rfl, by unfold mn; split <;> omega, by unfold mn; split <;> omega⟩
  rw [hhi] at l2
  rw [hlo, hhi, hpk, and15 k0 k1, w64 (x := lo) (by omega) (by omega), w64 (x := hi) (by omega) (by omega), w64 (x := pk' % 32768) (by omega) (by omega)]
  obtain ⟨b5, b6⟩ := pws_bd hP
  have mb := meas_bd b5 b6
  obtain ⟨g, g1, g2, g3, G1⟩ := gain_ev x hP lo (pk' % 32768) (by omega) (by omega) (by omega) (by omega)
  obtain ⟨h, h1', h2', h3', G2⟩ := gain_ev x hP hi (pk' % 32768) (by omega) (by omega) (by omega) (by omega)
  obtain ⟨i, i1, i2, i3, G3⟩ := gain_ev x hP lo 32767 (by omega) (by omega) (by omega) (by omega)
  have gh : g ≤ h := later (fun t ht => by
    unfold loudness_Gain.over at ht ⊢
    rw [Bool.or_eq_true, decide_eq_true_eq, decide_eq_true_eq] at ht ⊢
    rcases ht with ht | ht
    · exact .inl (Int.lt_of_le_of_lt (Int.mul_le_mul_of_nonneg_right (by omega) (by omega)) ht)
    · exact .inr ht) g1 h1' g2 h3'
  have gi : g ≤ i := later (fun t ht => by
    unfold loudness_Gain.over at ht ⊢
    rw [Bool.or_eq_true, decide_eq_true_eq, decide_eq_true_eq] at ht ⊢
    rcases ht with ht | ht
    · exact .inl ht
    · exact .inr (by omega)) g1 i1 g2 i3
  refine Ev.bind e1 ?_
  refine Ev.bind G1 ?_
  refine Ev.bind G2 ?_
  refine Ev.bind G3 ?_
  simp only [if_true, if_pos (show (g : Int) ≤ (h : Int) by omega), if_pos (show (g : Int) ≤ (i : Int) by omega)]
  exact Ev.bind awake_ev (Ev.now _)

end Go.Proofs.Ytjcjbbcamkkeiaa.Pure
