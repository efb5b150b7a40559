/- What the reference's Usable and Split come to. No condition of its own. -/
import Derived.Test.YtcofjbbflcnaaaaCadA
import Derived.Test.YtcofjbbflcnaaaaPx21
import Derived.Test.YtcofjbbflcnaaaaPx52
import Derived.Test.YtcofjbbflcnaaaaPx51
namespace Go.Proofs.Ytcofjbbflcnaaaa.P
open Go.RowKit Go.Proofs.YtcofjbbflcnaaaaW.PrintWords Go.Proofs.YtcofjbbflcnaaaaW.PrintLast Go.Proofs.YtcofjbbflcnaaaaW.PrintMore
set_option linter.unusedVariables false

theorem ref_gcd_ev : ∀ (n : Nat) (a b : Int), 0 ≤ a → 0 ≤ b → b ≤ n → Ev (fun k => cutroomref20_Usable.l0 k a b) (Int.gcd a b == 1) := by
  intro n
  induction n with
  | zero =>
    intro a b ha hb hn
    obtain rfl : b = 0 := by omega
    refine Ev.step (fun k => by rw [cutroomref20_Usable.l0]) ?_
    simp only [if_true]
    rw [Int.gcd_zero_right, show (a == 1) = (a.natAbs == 1) by rw [Bool.eq_iff_iff]; simp; omega]
    exact Ev.now _
  | succ n ih =>
    intro a b ha hb hn
    refine Ev.step (fun k => by rw [cutroomref20_Usable.l0]) ?_
    by_cases h : b = 0
    · subst h
      simp only [if_true]
      rw [Int.gcd_zero_right, show (a == 1) = (a.natAbs == 1) by rw [Bool.eq_iff_iff]; simp; omega]
      exact Ev.now _
    · simp only [if_neg h]
      rw [Int.tmod_eq_emod_of_nonneg ha]
      have h1 := Int.emod_nonneg a h
      have h2 := Int.emod_lt_of_pos a (show 0 < b by omega)
      have := ih b (a % b) hb h1 (by omega)
      have e : Int.gcd b (a % b) = Int.gcd a b := by
        obtain ⟨p, rfl⟩ := Int.eq_ofNat_of_zero_le ha
        obtain ⟨q, rfl⟩ := Int.eq_ofNat_of_zero_le hb
        rw [← Int.natCast_emod, Int.gcd_natCast_natCast, Int.gcd_natCast_natCast, Nat.gcd_comm q, ← Nat.gcd_rec, Nat.gcd_comm]
      rw [e] at this
      exact this

theorem ref_usable_ev (n d : Int) : Ev (fun k => cutroomref20_Usable.f k n d) (usable n d) := by
  have no : usable n d = false → Ev (fun k => cutroomref20_Usable.j0 k true n d) (usable n d) := by
    intro h
    rw [h]
    refine Ev.step (fun k => by rw [cutroomref20_Usable.j0]) ?_
    simp only [if_true]
    exact Ev.now _
  unfold cutroomref20_Usable.f
  by_cases c1 : n < 1
  · simp only [if_pos c1]; exact no (by unfold usable; simp; omega)
  · by_cases c2 : n > 1048576
    · simp only [if_neg c1, if_pos c2]; exact no (by unfold usable; simp; omega)
    · by_cases c3 : d < 1
      · simp only [if_neg c1, if_neg c2, if_pos c3]; exact no (by unfold usable; simp; omega)
      · simp only [if_neg c1, if_neg c2, if_neg c3]
        by_cases c4 : d > 65536
        · simp only [c4, decide_true]; exact no (by unfold usable; simp; omega)
        · simp only [c4, decide_false]
          refine Ev.step (fun k => by rw [cutroomref20_Usable.j0]) ?_
          simp only [Bool.false_eq_true, if_false]
          rw [show usable n d = (Int.gcd n d == 1) by unfold usable; rw [Bool.eq_iff_iff]; simp; omega]
          exact ref_gcd_ev d.toNat n d (by omega) (by omega) (by omega)

/-! ### Split -/
theorem div_step {m num den q r b : Int} (hd : 0 < den) (h : m * num = q * den + r) (hr : 0 ≤ r) (hr' : r < den) (hb : b = 0 ∨ b = 1) (hn : 0 ≤ num) (e : Int) (he : e = 2 * r + b * (num % den)) (q2 : Int) (hq2 : q2 = 2 * q + b * (num / den)) :
    (2 * m + b) * num = q2 * den + e ∧ 0 ≤ e ∧ e < 3 * den := by
  have e1 := Int.mul_ediv_add_emod num den
  have e2 := Int.emod_nonneg num (show den ≠ 0 by omega)
  have e3 := Int.emod_lt_of_pos num hd
  rcases hb with rfl | rfl
  · refine ⟨?_, by omega, by omega⟩
    subst he; subst hq2
    have : (2 * m + 0) * num = 2 * (m * num) := by grind
    rw [this, h]; grind
  · refine ⟨?_, by omega, by omega⟩
    subst he; subst hq2
    have : (2 * m + 1) * num = 2 * (m * num) + num := by grind
    have e4 : num = den * (num / den) + num % den := e1.symm
    rw [this, h]
    generalize num / den = s at *
    generalize num % den = t at *
    rw [e4]; grind

theorem bit_of (m i : Int) (h0 : 0 ≤ m) (hm : m < 9223372036854775808) (i0 : 0 ≤ i) (i1 : i ≤ 63) : Go.bits .and .i64 (shr .i64 m i) 1 = m / 2 ^ i.toNat % 2 := by
  have hp : (0 : Int) < 2 ^ i.toNat := by exact_mod_cast Nat.two_pow_pos _
  have e : shr .i64 m i = m / 2 ^ i.toNat := by unfold shr; rw [Nat.min_eq_left (by show i.toNat ≤ 64; omega)]
  rw [e]
  have h1 : 0 ≤ m / 2 ^ i.toNat := Int.ediv_nonneg h0 (by omega)
  have h2 : m / 2 ^ i.toNat ≤ m := Int.ediv_le_self _ h0
  exact bits_mask .i64 63 (by decide) (fun n a b => by rw [IntKind.wrap_i64]; omega) 1 (by decide) _ h1 (by omega)

section
variable {x0 x1 x2 : Int}
theorem split_l1 (hd : 0 < x2) (hd' : x2 ≤ 18014398509481984) (x8 x11 : Int) (R : Int × Int) : ∀ (n : Nat) (q r : Int), 0 ≤ r → r < (n + 1) * x2 → n ≤ 3 → 0 ≤ q → q + r / x2 ≤ 9223372036854775807 →
    Ev (fun k => cutroomref20_Split.l0 k x0 x1 x2 x8 (q + r / x2) (r % x2) (wrap64 (x11 - 1))) R → Ev (fun k => cutroomref20_Split.l1 k x0 x1 x2 x8 q r x11) R := by
  intro n
  induction n with
  | zero =>
    intro q r h0 h1 hn hq hq' h
    refine Ev.step (fun k => by rw [cutroomref20_Split.l1]) ?_
    simp only [Int.natCast_zero, Int.zero_add, Int.one_mul] at h1
    simp only [if_neg (show ¬ r ≥ x2 by omega)]
    rw [Int.ediv_eq_zero_of_lt h0 h1, Int.emod_eq_of_lt h0 h1, Int.add_zero] at h
    exact h
  | succ n ih =>
    intro q r h0 h1 hn hq hq' h
    refine Ev.step (fun k => by rw [cutroomref20_Split.l1]) ?_
    by_cases c : r ≥ x2
    · simp only [if_pos c]
      have e1 : ((n + 1 : Nat) + 1 : Int) * x2 = ((n : Int) + 1) * x2 + x2 := by push_cast; grind
      have e2 : ((n : Int) + 1) * x2 ≤ 4 * x2 := Int.mul_le_mul_of_nonneg_right (by omega) (by omega)
      have e3 : r / x2 = (r - x2) / x2 + 1 := by
        rw [show r = (r - x2) + 1 * x2 by omega, Int.add_mul_ediv_right _ _ (by omega)]; congr 1; congr 1; omega
      have e4 : r % x2 = (r - x2) % x2 := by
        rw [show r = (r - x2) + 1 * x2 by omega, Int.add_mul_emod_self_right]; congr 1; omega
      have e5 : 0 ≤ (r - x2) / x2 := Int.ediv_nonneg (by omega) (by omega)
      rw [w64 (x := q + 1) (by omega) (by omega), w64 (x := r - x2) (by omega) (by omega)]
      rw [e3, e4, show q + ((r - x2) / x2 + 1) = (q + 1) + (r - x2) / x2 by omega] at h
      exact ih (q + 1) (r - x2) (by omega) (by omega) (by omega) (by omega) (by omega) h
    · simp only [if_neg c]
      rw [Int.ediv_eq_zero_of_lt h0 (by omega), Int.emod_eq_of_lt h0 (by omega), Int.add_zero] at h
      exact h

theorem split_l0 (hd : 0 < x2) (hd' : x2 ≤ 18014398509481984) (h1 : 0 ≤ x1) (h1' : x1 ≤ 18014398509481984) (x8 : Int) (h8 : 0 ≤ x8) (h8' : x8 < 4294967296) (hfit : x8 * x1 / x2 ≤ 9223372036854775806) :
    ∀ (n : Nat), n ≤ 32 → Ev (fun k => cutroomref20_Split.l0 k x0 x1 x2 x8 (x8 / 2 ^ n * x1 / x2) (x8 / 2 ^ n * x1 % x2) ((n : Int) - 1))
      (if x0 < 0 then (-(x8 * x1) / x2, -(x8 * x1) % x2) else (x8 * x1 / x2, x8 * x1 % x2)) := by
  intro n
  induction n with
  | zero =>
    intro _
    refine Ev.step (fun k => by rw [cutroomref20_Split.l0]) ?_
    have e0 : x8 / 2 ^ 0 = x8 := by simp
    rw [e0]
    have r0 := Int.emod_nonneg (x8 * x1) (show x2 ≠ 0 by omega)
    have r1 := Int.emod_lt_of_pos (x8 * x1) hd
    have q0 : 0 ≤ x8 * x1 / x2 := Int.ediv_nonneg (Int.mul_nonneg h8 h1) (by omega)
    simp only [if_neg (show ¬ ((0 : Nat) : Int) - 1 ≥ 0 by omega)]
    by_cases c : x0 < 0
    · simp only [if_pos c]
      have nd := neg_div (m := x8 * x1) hd
      rw [nd.1, nd.2]
      generalize x8 * x1 / x2 = q at *
      generalize x8 * x1 % x2 = r at *
      by_cases c2 : r > 0
      · simp only [if_pos c2]
        rw [if_neg (by omega), if_neg (by omega), w64 (x := -q) (by omega) (by omega), w64 (x := -q - 1) (by omega) (by omega), w64 (x := x2 - r) (by omega) (by omega)]
        exact Ev.now _
      · simp only [if_neg c2]
        rw [if_pos (by omega), if_pos (by omega), w64 (x := -q) (by omega) (by omega), show r = 0 by omega]
        exact Ev.now _
    · simp only [if_neg c]
      exact Ev.now _
  | succ n ih =>
    intro hn
    refine Ev.step (fun k => by rw [cutroomref20_Split.l0]) ?_
    have hi : ((n + 1 : Nat) : Int) - 1 = (n : Int) := by omega
    rw [hi]
    have b0 := bit_of x8 (n : Int) h8 (by omega) (by omega) (by omega)
    rw [Int.toNat_natCast] at b0
    simp only [if_pos (show (n : Int) ≥ 0 by omega)]
    rw [wu (x := (n : Int)) (by omega) (by omega), b0]
    simp only [if_pos (show (0 : Int) ≤ (n : Int) by omega)]
    obtain ⟨m, hm⟩ : ∃ m, m = x8 / 2 ^ (n + 1) := ⟨_, rfl⟩
    obtain ⟨b, hb⟩ : ∃ b, b = x8 / 2 ^ n % 2 := ⟨_, rfl⟩
    have hp : (0 : Int) < 2 ^ n := by exact_mod_cast Nat.two_pow_pos _
    have hmb : x8 / 2 ^ n = 2 * m + b := by
      have : x8 / 2 ^ (n + 1) = x8 / 2 ^ n / 2 := by rw [Int.pow_succ, Int.ediv_ediv_of_nonneg (by omega)]
      rw [hm, hb, this]; omega
    rw [← hm, ← hb]
    have hm0 : 0 ≤ m := by rw [hm]; exact Int.ediv_nonneg h8 (by have : (0:Int) < 2 ^ (n+1) := (by exact_mod_cast Nat.two_pow_pos _); omega)
    have hb2 : b = 0 ∨ b = 1 := by omega
    have hmx : 2 * m + b ≤ x8 := by rw [← hmb]; exact Int.ediv_le_self _ h8
    have r0 := Int.emod_nonneg (m * x1) (show x2 ≠ 0 by omega)
    have r1 := Int.emod_lt_of_pos (m * x1) hd
    have em := Int.mul_ediv_add_emod (m * x1) x2
    have q0 : 0 ≤ m * x1 / x2 := Int.ediv_nonneg (Int.mul_nonneg hm0 h1) (by omega)
    have st := div_step (m := m) (num := x1) (den := x2) (q := m * x1 / x2) (r := m * x1 % x2) (b := b) hd (by rw [Int.mul_comm (m * x1 / x2)]; omega) r0 r1 hb2 h1 _ rfl _ rfl
    have key := ih (by omega)
    rw [hmb] at key
    obtain ⟨Q, hQ⟩ : ∃ Q, Q = 2 * (m * x1 / x2) + b * (x1 / x2) := ⟨_, rfl⟩
    obtain ⟨E, hE⟩ : ∃ E, E = 2 * (m * x1 % x2) + b * (x1 % x2) := ⟨_, rfl⟩
    rw [← hQ, ← hE] at st
    obtain ⟨s1, s2, s3⟩ := st
    have d1 : (2 * m + b) * x1 / x2 = Q + E / x2 := by
      rw [s1, Int.add_comm, Int.add_mul_ediv_right _ _ (by omega), Int.add_comm]
    have d2 : (2 * m + b) * x1 % x2 = E % x2 := by
      rw [s1, Int.add_comm, Int.add_mul_emod_self_right]
    have d3 : (2 * m + b) * x1 / x2 ≤ x8 * x1 / x2 := Int.ediv_le_ediv hd (Int.mul_le_mul_of_nonneg_right hmx h1)
    have d4 : 0 ≤ E / x2 := Int.ediv_nonneg s2 (by omega)
    rw [d1, d2] at key
    have s0 : 0 ≤ x1 / x2 := Int.ediv_nonneg h1 (by omega)
    have t0 := Int.emod_nonneg x1 (show x2 ≠ 0 by omega)
    have t1 := Int.emod_lt_of_pos x1 hd
    have wq : wrap64 ((n : Int) - 1) = (n : Int) - 1 := w64 (by omega) (by omega)
    rcases hb2 with hb2 | hb2
    · rw [hb2] at hQ hE ⊢
      simp only [Int.zero_mul, Int.add_zero] at hQ hE
      rw [← hQ, ← hE, w64 (x := Q) (by omega) (by omega), w64 (x := E) (by omega) (by omega)]
      simp only [if_neg (show ¬ (0 : Int) = 1 by decide)]
      refine Ev.step (fun k => by rw [cutroomref20_Split.j2]) ?_
      exact split_l1 hd hd' x8 _ _ 2 Q E s2 (by omega) (by omega) (by omega) (by omega) (by rw [wq]; exact key)
    · rw [hb2] at hQ hE ⊢
      simp only [Int.one_mul] at hQ hE
      rw [Int.tdiv_eq_ediv_of_nonneg h1, Int.tmod_eq_emod_of_nonneg h1]
      rw [w64 (x := x1 / x2) (by omega) (by omega), w64 (x := 2 * (m * x1 / x2)) (by omega) (by omega), w64 (x := 2 * (m * x1 % x2)) (by omega) (by omega), ← hQ, ← hE, w64 (x := Q) (by omega) (by omega), w64 (x := E) (by omega) (by omega)]
      simp only [if_true, if_neg (show ¬ x2 = 0 by omega)]
      refine Ev.step (fun k => by rw [cutroomref20_Split.j2]) ?_
      exact split_l1 hd hd' x8 _ _ 2 Q E s2 (by omega) (by omega) (by omega) (by omega) (by rw [wq]; exact key)
end

/-- The reference's Split: quotient and rest, rounded down. -/
theorem split_ev (n num den : Int) (n0 : -4294967296 < n) (n1 : n < 4294967296) (h1 : 0 ≤ num) (h1' : num ≤ 18014398509481984) (hd : 0 < den) (hd' : den ≤ 18014398509481984)
    (hfit : (n.natAbs : Int) * num / den ≤ 9223372036854775806) : Ev (fun k => cutroomref20_Split.f k n num den) (n * num / den, n * num % den) := by
  have go : ∀ m : Int, m = (n.natAbs : Int) → Ev (fun k => cutroomref20_Split.j0 k n num den m) (n * num / den, n * num % den) := by
    intro m hm
    refine Ev.step (fun k => by rw [cutroomref20_Split.j0]) ?_
    have key := split_l0 (x0 := n) hd hd' h1 h1' m (by omega) (by omega) (by rw [hm]; exact hfit) 32 (Nat.le_refl _)
    rw [show m / 2 ^ 32 = 0 by omega] at key
    simp only [Int.zero_mul, Int.zero_ediv, Int.zero_emod, show ((32 : Nat) : Int) - 1 = 31 by decide] at key
    have e : (if n < 0 then (-(m * num) / den, -(m * num) % den) else (m * num / den, m * num % den)) = (n * num / den, n * num % den) := by
      by_cases c : n < 0
      · rw [if_pos c, show -(m * num) = n * num by rw [show m = -n by omega]; grind]
      · rw [if_neg c, show m = n by omega]
    rw [e] at key
    exact key
  unfold cutroomref20_Split.f
  by_cases c : n < 0
  · simp only [if_pos c]
    rw [w64 (by omega) (by omega)]
    exact go _ (by omega)
  · simp only [if_neg c]
    exact go _ (by omega)
theorem ref_inRange_f (n : Int) : cutroomref20_InRange.f n = some (decide (-2147483647 ≤ n ∧ n ≤ 2147483647)) := by
  unfold cutroomref20_InRange.f
  by_cases c : n ≥ -2147483647
  · rw [if_pos c]; congr 1; simp; omega
  · rw [if_neg c]; congr 1; simp; omega

end Go.Proofs.Ytcofjbbflcnaaaa.P
