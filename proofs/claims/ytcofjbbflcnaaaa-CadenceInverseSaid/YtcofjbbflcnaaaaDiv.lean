/- What bits.Div64 comes to: the quotient and the rest of a number of two words. No condition of its own. -/
import Derived.Test.YtcofjbbflcnaaaaMul
import Derived.Test.YtcofjbbflcnaaaaPx80
import Derived.Laws.BitsLemmas
import Derived.Lib.BitFns
namespace Go.Proofs.Ytcofjbbflcnaaaa.P
open Go.RowKit Go.Proofs.YtcofjbbflcnaaaaW.PrintWords Go.Proofs.YtcofjbbflcnaaaaW.PrintLast Go.Proofs.YtcofjbbflcnaaaaW.PrintMore
set_option linter.unusedVariables false

/-! ### bitLen -/
theorem bitLen_upper : ∀ (f x : Nat), x < 2 ^ f → x < 2 ^ Lib.bitLenAux f x
  | 0, x, h => by simpa [Lib.bitLenAux] using h
  | f + 1, x, h => by
    unfold Lib.bitLenAux
    split
    · subst_vars; decide
    · have := bitLen_upper f (x / 2) (by rw [Nat.pow_succ] at h; omega)
      rw [Nat.pow_add, Nat.pow_one]
      omega
theorem bitLen_lower : ∀ (f x : Nat), x < 2 ^ f → x ≠ 0 → 2 ^ Lib.bitLenAux f x ≤ 2 * x
  | 0, x, h, h0 => by simp at h; exact absurd h h0
  | f + 1, x, h, h0 => by
    unfold Lib.bitLenAux
    rw [if_neg h0]
    by_cases hx : x / 2 = 0
    · have : x = 1 := by omega
      subst this
      cases f <;> simp [Lib.bitLenAux]
    · have := bitLen_lower f (x / 2) (by rw [Nat.pow_succ] at h; omega) hx
      rw [Nat.pow_add, Nat.pow_one]
      omega

/-! ### Div64 -/
section
variable {x2 x8 x9 x10 x11 x13 x14 Q : Int} {R : Int × Int}
theorem q_up {q r : Int} (hy : x2 = x9 * 4294967296 + x10) (h : q * x9 + r = x11) : q * x2 - (x11 * 4294967296 + x13) = q * x10 - (r * 4294967296 + x13) := by
  subst hy; subst h; grind
theorem lt_of_mul {a b c : Int} (hc : 0 < c) (h : a * c < b * c) : a < b := Int.lt_of_mul_lt_mul_right h (Int.le_of_lt hc)
/-- The first and the second digit of the quotient are found alike. -/
theorem digit_down {q r : Int} (h9 : 2147483648 ≤ x9) (h9' : x9 < 4294967296) (h10 : 0 ≤ x10) (h10' : x10 < 4294967296) (hy : x2 = x9 * 4294967296 + x10) (h11 : 0 ≤ x11) (h11' : x11 < x2) (h13 : 0 ≤ x13) (h13' : x13 < 4294967296)
    (hQ : Q * x2 ≤ x11 * 4294967296 + x13) (hQ' : x11 * 4294967296 + x13 < (Q + 1) * x2) (hq : q * x9 + r = x11) (hr : 0 ≤ r) (hle : Q ≤ q)
    (hc : 4294967296 ≤ q ∨ r * 4294967296 + x13 < q * x10) : Q < q := by
  rcases hc with hc | hc
  · have : Q < 4294967296 := lt_of_mul (c := x2) (by omega) (by omega)
    omega
  · have e := q_up (x13 := x13) hy hq
    refine lt_of_mul (c := x2) (by omega) ?_
    omega
theorem digit_stay {q r : Int} (h9 : 2147483648 ≤ x9) (hy : x2 = x9 * 4294967296 + x10) (h10 : 0 ≤ x10)
    (hQ' : x11 * 4294967296 + x13 < (Q + 1) * x2) (hq : q * x9 + r = x11) (hle : Q ≤ q) (hc : q * x10 ≤ r * 4294967296 + x13) : q = Q := by
  have e := q_up (x13 := x13) hy hq
  have : q < Q + 1 := lt_of_mul (c := x2) (by omega) (by omega)
  omega
theorem digit_out {q r : Int} (h9 : 2147483648 ≤ x9) (hy : x2 = x9 * 4294967296 + x10) (h10 : 0 ≤ x10) (h10' : x10 < 4294967296) (h13 : 0 ≤ x13)
    (hQ' : x11 * 4294967296 + x13 < (Q + 1) * x2) (hq : q * x9 + r = x11) (hle : Q ≤ q) (hr : 4294967296 ≤ r) (hq0 : 0 ≤ q) (hqB : q ≤ 4294967296) : q = Q := by
  refine digit_stay h9 hy h10 hQ' hq hle ?_
  have := mul_lt hq0 h10 hqB (B := 4294967295) (by omega)
  omega

theorem div64_l0 (h9 : 2147483648 ≤ x9) (h9' : x9 < 4294967296) (h10 : 0 ≤ x10) (h10' : x10 < 4294967296) (hy : x2 = x9 * 4294967296 + x10) (h11 : 0 ≤ x11) (h11' : x11 < x2) (h13 : 0 ≤ x13) (h13' : x13 < 4294967296) (hQ0 : 0 ≤ Q)
    (hQ : Q * x2 ≤ x11 * 4294967296 + x13) (hQ' : x11 * 4294967296 + x13 < (Q + 1) * x2) (hrest : Ev (fun k => bits_Div64.j2 k x2 x8 x9 x10 x11 x13 x14 Q) R) :
    ∀ (n : Nat) (q r : Int), q * x9 + r = x11 → 0 ≤ r → r < 4294967296 → Q ≤ q → q ≤ 4294967297 → q - Q ≤ n → Ev (fun k => bits_Div64.l0 k x2 x8 x9 x10 x11 x13 x14 q r) R := by
  intro n
  induction n with
  | zero =>
    intro q r hq hr hr' hle hqB hn
    have hqQ : q = Q := by omega
    have no : ¬ (4294967296 ≤ q ∨ r * 4294967296 + x13 < q * x10) := fun h => by
      have := digit_down h9 h9' h10 h10' hy h11 h11' h13 h13' hQ hQ' hq hr hle h
      omega
    refine Ev.step (fun k => by rw [bits_Div64.l0]) ?_
    have c1 : ¬ q ≥ 4294967296 := by omega
    have hm := mul_lt (a := q) (b := x10) (A := 4294967295) (B := 4294967295) (by omega) h10 (by omega) (by omega)
    have hm0 := Int.mul_nonneg (a := q) (b := x10) (by omega) h10
    have c2 : (decide ((IntKind.u64.wrap (q * x10)) > (IntKind.u64.wrap ((IntKind.u64.wrap (4294967296 * r)) + x13)))) = false := by
      rw [wu (x := q * x10) hm0 (by omega), wu (x := 4294967296 * r) (by omega) (by omega), wu (x := 4294967296 * r + x13) (by omega) (by omega)]
      simp only [decide_eq_false_iff_not]
      omega
    simp only [if_neg c1, c2]
    refine Ev.step (fun k => by rw [bits_Div64.j1]) ?_
    simp only [Bool.false_eq_true, if_false]
    rw [hqQ]
    exact hrest
  | succ n ih =>
    intro q r hq hr hr' hle hqB hn
    refine Ev.step (fun k => by rw [bits_Div64.l0]) ?_
    have down : (4294967296 ≤ q ∨ r * 4294967296 + x13 < q * x10) → Ev (fun k => bits_Div64.j1 k x2 x8 x9 x10 x11 x13 x14 q r true) R := by
      intro h
      have hlt := digit_down h9 h9' h10 h10' hy h11 h11' h13 h13' hQ hQ' hq hr hle h
      refine Ev.step (fun k => by rw [bits_Div64.j1]) ?_
      rw [wu (x := r + x9) (by omega) (by omega), wu (x := q - 1) (by omega) (by omega)]
      have hq2 : (q - 1) * x9 + (r + x9) = x11 := by rw [← hq]; grind
      by_cases c : r + x9 ≥ 4294967296
      · simp only [if_true, if_pos c]
        have := digit_out (q := q - 1) (r := r + x9) h9 hy h10 h10' h13 hQ' hq2 (by omega) c (by omega) (by omega)
        rw [this]
        exact hrest
      · simp only [if_true, if_neg c]
        exact ih (q - 1) (r + x9) hq2 (by omega) (by omega) (by omega) (by omega) (by omega)
    by_cases c1 : q ≥ 4294967296
    · simp only [if_pos c1]
      exact down (.inl c1)
    · simp only [if_neg c1]
      have hm := mul_lt (a := q) (b := x10) (A := 4294967295) (B := 4294967295) (by omega) h10 (by omega) (by omega)
      have hm0 := Int.mul_nonneg (a := q) (b := x10) (by omega) h10
      rw [wu (x := q * x10) hm0 (by omega), wu (x := 4294967296 * r) (by omega) (by omega), wu (x := 4294967296 * r + x13) (by omega) (by omega)]
      by_cases c2 : q * x10 > 4294967296 * r + x13
      · simp only [c2, decide_true]
        exact down (.inr (by omega))
      · simp only [c2, decide_false]
        refine Ev.step (fun k => by rw [bits_Div64.j1]) ?_
        simp only [Bool.false_eq_true, if_false]
        have := digit_stay h9 hy h10 hQ' hq hle (by omega)
        rw [this]
        exact hrest
end

section
variable {x2 x8 x9 x10 x14 x15 x17 Q : Int}
theorem div64_l1 (h8 : 0 ≤ x8) (h9 : 2147483648 ≤ x9) (h9' : x9 < 4294967296) (h10 : 0 ≤ x10) (h10' : x10 < 4294967296) (hy : x2 = x9 * 4294967296 + x10) (h17 : 0 ≤ x17) (h17' : x17 < x2) (h14 : 0 ≤ x14) (h14' : x14 < 4294967296) (hQ0 : 0 ≤ Q)
    (hQ : Q * x2 ≤ x17 * 4294967296 + x14) (hQ' : x17 * 4294967296 + x14 < (Q + 1) * x2) :
    ∀ (n : Nat) (q r : Int), q * x9 + r = x17 → 0 ≤ r → r < 4294967296 → Q ≤ q → q ≤ 4294967297 → q - Q ≤ n →
      Ev (fun k => bits_Div64.l1 k x2 x8 x9 x10 x14 x15 r x17 q) (IntKind.u64.wrap ((IntKind.u64.wrap (x15 * 4294967296)) + Q), shr .u64 (IntKind.u64.wrap ((IntKind.u64.wrap ((IntKind.u64.wrap (x17 * 4294967296)) + x14)) - (IntKind.u64.wrap (Q * x2)))) x8) := by
  intro n
  induction n with
  | zero =>
    intro q r hq hr hr' hle hqB hn
    have hqQ : q = Q := by omega
    have no : ¬ (4294967296 ≤ q ∨ r * 4294967296 + x14 < q * x10) := fun h => by
      have := digit_down h9 h9' h10 h10' hy h17 h17' h14 h14' hQ hQ' hq hr hle h
      omega
    refine Ev.step (fun k => by rw [bits_Div64.l1]) ?_
    have c1 : ¬ q ≥ 4294967296 := by omega
    have hm := mul_lt (a := q) (b := x10) (A := 4294967295) (B := 4294967295) (by omega) h10 (by omega) (by omega)
    have hm0 := Int.mul_nonneg (a := q) (b := x10) (by omega) h10
    have c2 : (decide ((IntKind.u64.wrap (q * x10)) > (IntKind.u64.wrap ((IntKind.u64.wrap (4294967296 * r)) + x14)))) = false := by
      rw [wu (x := q * x10) hm0 (by omega), wu (x := 4294967296 * r) (by omega) (by omega), wu (x := 4294967296 * r + x14) (by omega) (by omega)]
      simp only [decide_eq_false_iff_not]
      omega
    simp only [if_neg c1, c2]
    refine Ev.step (fun k => by rw [bits_Div64.j4]) ?_
    simp only [Bool.false_eq_true, if_false, if_pos h8]
    rw [hqQ]
    exact Ev.now _
  | succ n ih =>
    intro q r hq hr hr' hle hqB hn
    refine Ev.step (fun k => by rw [bits_Div64.l1]) ?_
    have down : (4294967296 ≤ q ∨ r * 4294967296 + x14 < q * x10) → Ev (fun k => bits_Div64.j4 k x2 x8 x9 x10 x14 x15 r x17 q true) (IntKind.u64.wrap ((IntKind.u64.wrap (x15 * 4294967296)) + Q), shr .u64 (IntKind.u64.wrap ((IntKind.u64.wrap ((IntKind.u64.wrap (x17 * 4294967296)) + x14)) - (IntKind.u64.wrap (Q * x2)))) x8) := by
      intro h
      have hlt := digit_down h9 h9' h10 h10' hy h17 h17' h14 h14' hQ hQ' hq hr hle h
      refine Ev.step (fun k => by rw [bits_Div64.j4]) ?_
      rw [wu (x := r + x9) (by omega) (by omega), wu (x := q - 1) (by omega) (by omega)]
      have hq2 : (q - 1) * x9 + (r + x9) = x17 := by rw [← hq]; grind
      by_cases c : r + x9 ≥ 4294967296
      · simp only [if_true, if_pos c, if_pos h8]
        have := digit_out (q := q - 1) (r := r + x9) h9 hy h10 h10' h14 hQ' hq2 (by omega) c (by omega) (by omega)
        rw [this]
        exact Ev.now _
      · simp only [if_true, if_neg c]
        exact ih (q - 1) (r + x9) hq2 (by omega) (by omega) (by omega) (by omega) (by omega)
    by_cases c1 : q ≥ 4294967296
    · simp only [if_pos c1]
      exact down (.inl c1)
    · simp only [if_neg c1]
      have hm := mul_lt (a := q) (b := x10) (A := 4294967295) (B := 4294967295) (by omega) h10 (by omega) (by omega)
      have hm0 := Int.mul_nonneg (a := q) (b := x10) (by omega) h10
      rw [wu (x := q * x10) hm0 (by omega), wu (x := 4294967296 * r) (by omega) (by omega), wu (x := 4294967296 * r + x14) (by omega) (by omega)]
      by_cases c2 : q * x10 > 4294967296 * r + x14
      · simp only [c2, decide_true]
        exact down (.inr (by omega))
      · simp only [c2, decide_false]
        refine Ev.step (fun k => by rw [bits_Div64.j4]) ?_
        simp only [Bool.false_eq_true, if_false, if_pos h8]
        have := digit_stay h9 hy h10 hQ' hq hle (by omega)
        rw [this]
        exact Ev.now _
end

/-- The first guess of a digit. -/
theorem guess_le {u x2 x9 x10 d Q : Int} (h9 : 2147483648 ≤ x9) (h10 : 0 ≤ x10) (hy : x2 = x9 * 4294967296 + x10) (h11 : 0 ≤ u) (hd : 0 ≤ d) (hd' : d < 4294967296) (hQ : Q * x2 ≤ u * 4294967296 + d) (hQ0 : 0 ≤ Q) : Q ≤ u / x9 := by
  refine Int.le_ediv_of_mul_le (by omega) ?_
  have h1 := Int.mul_nonneg hQ0 h10
  have h2 : Q * x2 = Q * x9 * 4294967296 + Q * x10 := by subst hy; grind
  omega
theorem guess_top {u x2 x9 x10 : Int} (h9 : 2147483648 ≤ x9) (h10' : x10 < 4294967296) (hy : x2 = x9 * 4294967296 + x10) (h11' : u < x2) : u / x9 ≤ 4294967297 := by
  have : u / x9 < 4294967298 := Int.ediv_lt_of_lt_mul (by omega) (by omega)
  omega

/-- The quotient of a number of three halves by one of two, normalized: two digits, and the rest. -/
theorem div64_norm (x2 x8 x9 x10 u d1 d0 : Int) (h8 : 0 ≤ x8) (h9 : 2147483648 ≤ x9) (h9' : x9 < 4294967296) (h10 : 0 ≤ x10) (h10' : x10 < 4294967296) (hy : x2 = x9 * 4294967296 + x10) (h11 : 0 ≤ u) (h11' : u < x2)
    (h13 : 0 ≤ d1) (h13' : d1 < 4294967296) (h14 : 0 ≤ d0) (h14' : d0 < 4294967296) (q r : Int) (hq : q = u / x9) (hr : r = u - q * x9) :
    Ev (fun k => bits_Div64.l0 k x2 x8 x9 x10 u d1 d0 q r) ((u * 18446744073709551616 + d1 * 4294967296 + d0) / x2, shr .u64 ((u * 18446744073709551616 + d1 * 4294967296 + d0) % x2) x8) := by
  have hx2 : 0 < x2 := by omega
  obtain ⟨A, hA⟩ : ∃ A, A = u * 4294967296 + d1 := ⟨_, rfl⟩
  obtain ⟨Q, hQd⟩ : ∃ Q, Q = A / x2 := ⟨_, rfl⟩
  obtain ⟨v, hv⟩ : ∃ v, v = A % x2 := ⟨_, rfl⟩
  have hdm := Int.mul_ediv_add_emod A x2
  rw [← hQd, ← hv, Int.mul_comm] at hdm
  have hv0 : 0 ≤ v := by rw [hv]; exact Int.emod_nonneg _ (by omega)
  have hv1 : v < x2 := by rw [hv]; exact Int.emod_lt_of_pos _ hx2
  have hQ0 : 0 ≤ Q := by rw [hQd]; exact Int.ediv_nonneg (by omega) (by omega)
  have hQB : Q < 4294967296 := lt_of_mul (c := x2) hx2 (by omega)
  have e1 : (Q + 1) * x2 = Q * x2 + x2 := by grind
  obtain ⟨C, hC⟩ : ∃ C, C = v * 4294967296 + d0 := ⟨_, rfl⟩
  obtain ⟨S, hS⟩ : ∃ S, S = C / x2 := ⟨_, rfl⟩
  obtain ⟨z, hz⟩ : ∃ z, z = C % x2 := ⟨_, rfl⟩
  have hdn := Int.mul_ediv_add_emod C x2
  rw [← hS, ← hz, Int.mul_comm] at hdn
  have hz0 : 0 ≤ z := by rw [hz]; exact Int.emod_nonneg _ (by omega)
  have hz1 : z < x2 := by rw [hz]; exact Int.emod_lt_of_pos _ hx2
  have hS0 : 0 ≤ S := by rw [hS]; exact Int.ediv_nonneg (by omega) (by omega)
  have hSB : S < 4294967296 := lt_of_mul (c := x2) hx2 (by omega)
  have e2 : (S + 1) * x2 = S * x2 + x2 := by grind
  have whole : u * 18446744073709551616 + d1 * 4294967296 + d0 = z + (Q * 4294967296 + S) * x2 := by
    have : (Q * 4294967296 + S) * x2 = Q * x2 * 4294967296 + S * x2 := by grind
    rw [this]; omega
  have r1 : (u * 18446744073709551616 + d1 * 4294967296 + d0) / x2 = Q * 4294967296 + S := by
    rw [whole, Int.add_mul_ediv_right _ _ (by omega), Int.ediv_eq_zero_of_lt hz0 hz1]; omega
  have r2 : (u * 18446744073709551616 + d1 * 4294967296 + d0) % x2 = z := by
    rw [whole, Int.add_mul_emod_self_right, Int.emod_eq_of_lt hz0 hz1]
  rw [r1, r2]
  have g1 : Q ≤ q := by rw [hq]; exact guess_le h9 h10 hy h11 h13 h13' (by omega) hQ0
  have g2 : q ≤ 4294967297 := by rw [hq]; exact guess_top h9 h10' hy h11'
  have mr : r = u % x9 := by rw [hr, hq, Int.emod_def, Int.mul_comm]
  have r0 : 0 ≤ r := by rw [mr]; exact Int.emod_nonneg _ (by omega)
  have r9 : r < x9 := by rw [mr]; exact Int.emod_lt_of_pos _ (by omega)
  refine div64_l0 (Q := Q) h9 h9' h10 h10' hy h11 h11' h13 h13' hQ0 (by omega) (by omega) ?_ 4294967297 q r (by omega) r0 (by omega) g1 g2 (by omega)
  refine Ev.step (fun k => by rw [bits_Div64.j2]) ?_
  have u21 : (IntKind.u64.wrap ((IntKind.u64.wrap ((IntKind.u64.wrap (u * 4294967296)) + d1)) - (IntKind.u64.wrap (Q * x2)))) = v := by
    rw [wu64, wu64, wu64, wu64]; omega
  simp only [u21]
  have gq : Int.tdiv v x9 = v / x9 := Int.tdiv_eq_ediv_of_nonneg hv0
  have gm := Int.mul_ediv_add_emod v x9
  have gm0 := Int.emod_nonneg v (show x9 ≠ 0 by omega)
  have gm1 := Int.emod_lt_of_pos v (show 0 < x9 by omega)
  have g3 : S ≤ v / x9 := guess_le h9 h10 hy hv0 h14 h14' (by omega) hS0
  have g4 : v / x9 ≤ 4294967297 := guess_top h9 h10' hy hv1
  have g5 : 0 ≤ v / x9 := Int.ediv_nonneg hv0 (by omega)
  rw [gq, wu (x := v / x9) g5 (by omega)]
  have gc : v / x9 * x9 = x9 * (v / x9) := Int.mul_comm _ _
  have gn : 0 ≤ v / x9 * x9 := Int.mul_nonneg g5 (by omega)
  rw [wu (x := v / x9 * x9) (by omega) (by omega), wu (x := v - v / x9 * x9) (by omega) (by omega)]
  simp only [if_neg (show ¬ x9 = 0 by omega)]
  have fin : (IntKind.u64.wrap ((IntKind.u64.wrap (Q * 4294967296)) + S), shr .u64 (IntKind.u64.wrap ((IntKind.u64.wrap ((IntKind.u64.wrap (v * 4294967296)) + d0)) - (IntKind.u64.wrap (S * x2)))) x8) = (Q * 4294967296 + S, shr .u64 z x8) := by
    rw [wu (x := Q * 4294967296) (by omega) (by omega), wu (x := Q * 4294967296 + S) (by omega) (by omega)]
    congr 2
    rw [wu64, wu64, wu64, wu64]; omega
  rw [← fin]
  exact div64_l1 h8 h9 h9' h10 h10' hy hv0 hv1 h14 h14' hS0 (by omega) (by omega) 4294967297 (v / x9) (v - v / x9 * x9) (by omega) (by omega) (by omega) g3 g4 (by omega)

/-- bits.Div64: the quotient and the rest of a number of two words by one that is greater than the first. -/
theorem div64 (hi lo y : Int) (h0 : 0 ≤ hi) (h1 : hi < y) (l0 : 0 ≤ lo) (l1 : lo < 18446744073709551616) (y1 : y < 18446744073709551616) :
    Ev (fun k => bits_Div64.f k hi lo y) ((hi * 18446744073709551616 + lo) / y, (hi * 18446744073709551616 + lo) % y) := by
  unfold bits_Div64.f
  simp only [if_neg (show ¬ y = 0 by omega), if_neg (show ¬ y ≤ hi by omega)]
  by_cases hz : hi = 0
  · subst hz
    simp only [if_true]
    rw [Int.tdiv_eq_ediv_of_nonneg l0, Int.tmod_eq_emod_of_nonneg l0, wu (Int.ediv_nonneg l0 (by omega)) (Int.lt_of_le_of_lt (Int.ediv_le_self _ l0) l1)]
    simp only [Int.zero_mul, Int.zero_add]
    exact Ev.now _
  · simp only [if_neg hz]
    obtain ⟨yn, rfl⟩ := Int.eq_ofNat_of_zero_le (show 0 ≤ y by omega)
    have hyn : yn < 2 ^ 64 := by omega
    have hb1 := bitLen_upper 64 yn hyn
    have hb2 := bitLen_lower 64 yn hyn (by omega)
    have hb3 := Lib.bitLen_le yn 64 (Nat.le_refl _) hyn
    have hb4 : Lib.bitLen yn = Lib.bitLenAux 64 yn := rfl
    rw [← hb4] at hb1 hb2
    have hb5 : 1 ≤ Lib.bitLen yn := by
      by_cases c : Lib.bitLen yn = 0
      · rw [c] at hb1; omega
      · omega
    obtain ⟨s, hs⟩ : ∃ s, s = 64 - Lib.bitLen yn := ⟨_, rfl⟩
    have hsum : Lib.bitLen yn + s = 64 := by omega
    have hpow : 2 ^ Lib.bitLen yn * 2 ^ s = 2 ^ 64 := by rw [← Nat.pow_add, hsum]
    have hlead : bits_LeadingZeros64.f (yn : Int) = some (s : Int) := by
      unfold bits_LeadingZeros64.f bits_Len64.f
      rw [if_pos (by omega), if_pos (by omega)]
      simp only [Option.bind_some, Int.toNat_natCast]
      rw [w64 (by omega) (by omega)]
      congr 1
      omega
    obtain ⟨T, hT⟩ : ∃ T : Int, T = 2 ^ s := ⟨_, rfl⟩
    obtain ⟨V, hV⟩ : ∃ V : Int, V = 2 ^ Lib.bitLen yn := ⟨_, rfl⟩
    have hVn : V = ((2 ^ Lib.bitLen yn : Nat) : Int) := by rw [hV]; simp
    have hTn : T = ((2 ^ s : Nat) : Int) := by rw [hT]; simp
    have hVT : V * T = 18446744073709551616 := by rw [hVn, hTn, ← Int.natCast_mul, hpow]; rfl
    have hV0 : 0 < V := by rw [hVn]; exact_mod_cast Nat.two_pow_pos _
    have hT0 : 0 < T := by rw [hTn]; exact_mod_cast Nat.two_pow_pos _
    have hyV : (yn : Int) < V := by rw [hVn]; exact_mod_cast hb1
    have hyV2 : V ≤ 2 * (yn : Int) := by rw [hVn]; exact_mod_cast hb2
    rw [hlead]
    simp only [Option.bind_some]
    rw [wu (x := (s : Int)) (by omega) (by omega), wu (x := 64 - (s : Int)) (by omega) (by omega)]
    generalize (yn : Int) = y at *
    have e1 : y * T < 18446744073709551616 := by rw [← hVT]; exact Int.mul_lt_mul_of_pos_right hyV hT0
    have e2 : 18446744073709551616 ≤ 2 * (y * T) := by
      rw [← hVT, ← Int.mul_assoc]; exact Int.mul_le_mul_of_nonneg_right hyV2 (by omega)
    have e3 : hi * T < y * T := Int.mul_lt_mul_of_pos_right h1 hT0
    have e4 : 0 ≤ hi * T := Int.mul_nonneg h0 (by omega)
    have e5 : hi * T + T ≤ y * T := by
      have : (hi + 1) * T ≤ y * T := Int.mul_le_mul_of_nonneg_right (by omega) (by omega)
      have : (hi + 1) * T = hi * T + T := by grind
      omega
    have p1 : (2 : Int) ^ min ((s : Int)).toNat IntKind.u64.bits = T := by
      rw [hT, Int.toNat_natCast, Nat.min_eq_left (by show s ≤ 64; omega)]
    have p2 : (2 : Int) ^ min (64 - (s : Int)).toNat IntKind.u64.bits = V := by
      rw [hV, show (64 - (s : Int)).toNat = Lib.bitLen yn by omega, Nat.min_eq_left (by show Lib.bitLen yn ≤ 64; omega)]
    have s1 : shl .u64 y (s : Int) = y * T := by unfold shl; rw [p1, wu (by omega) e1]
    have s2 : shl .u64 hi (s : Int) = hi * T := by unfold shl; rw [p1, wu e4 (by omega)]
    have lm := Int.mul_ediv_add_emod lo V
    have lm0 := Int.emod_nonneg lo (show V ≠ 0 by omega)
    have lm1 := Int.emod_lt_of_pos lo hV0
    obtain ⟨A, hA⟩ : ∃ A, A = lo / V := ⟨_, rfl⟩
    obtain ⟨C, hC⟩ : ∃ C, C = lo % V := ⟨_, rfl⟩
    rw [← hA, ← hC] at lm
    rw [← hC] at lm0 lm1
    have hA0 : 0 ≤ A := by rw [hA]; exact Int.ediv_nonneg l0 (by omega)
    have hAT : A < T := by rw [hA]; exact Int.ediv_lt_of_lt_mul hV0 (by rw [Int.mul_comm, hVT]; exact l1)
    have hCT : C * T < 18446744073709551616 := by rw [← hVT]; exact Int.mul_lt_mul_of_pos_right lm1 hT0
    have hCT0 : 0 ≤ C * T := Int.mul_nonneg lm0 (by omega)
    have hloT : lo * T = A * 18446744073709551616 + C * T := by rw [← lm, ← hVT]; grind
    have s3 : shl .u64 lo (s : Int) = C * T := by
      unfold shl
      rw [p1, wu64, hloT]; omega
    have s4 : shr .u64 lo (64 - (s : Int)) = A := by unfold shr; rw [p2, hA]
    have s5 : Go.bits .or .u64 (hi * T) A = hi * T + A :=
      bits_join .u64 64 (by decide) (fun n a b => wu a b) s (hi * T) A e4 (by rw [← hT]; exact Int.mul_emod_left _ _) (by omega) hA0 (by rw [← hT]; exact hAT) (by omega)
    rw [s1, s2, s3, s4, s5]
    simp only [if_pos (show (0 : Int) ≤ s by omega), if_pos (show (0 : Int) ≤ 64 - (s : Int) by omega)]
    rw [and32 (x := y * T) (by omega) e1, and32 (x := C * T) hCT0 hCT]
    simp only [if_neg (show ¬ y * T / 4294967296 = 0 by omega)]
    have hu0 : 0 ≤ hi * T + A := by omega
    have gq : Int.tdiv (hi * T + A) (y * T / 4294967296) = (hi * T + A) / (y * T / 4294967296) := Int.tdiv_eq_ediv_of_nonneg hu0
    have g4 := guess_top (u := hi * T + A) (x2 := y * T) (x9 := y * T / 4294967296) (x10 := y * T % 4294967296) (by omega) (by omega) (by omega) (by omega)
    have g5 : 0 ≤ (hi * T + A) / (y * T / 4294967296) := Int.ediv_nonneg hu0 (by omega)
    have gm := Int.mul_ediv_add_emod (hi * T + A) (y * T / 4294967296)
    have gm0 := Int.emod_nonneg (hi * T + A) (show y * T / 4294967296 ≠ 0 by omega)
    have gc : (hi * T + A) / (y * T / 4294967296) * (y * T / 4294967296) = (y * T / 4294967296) * ((hi * T + A) / (y * T / 4294967296)) := Int.mul_comm _ _
    have gn : 0 ≤ (hi * T + A) / (y * T / 4294967296) * (y * T / 4294967296) := Int.mul_nonneg g5 (by omega)
    rw [gq, wu (x := (hi * T + A) / (y * T / 4294967296)) g5 (by omega)]
    rw [wu (x := (hi * T + A) / (y * T / 4294967296) * (y * T / 4294967296)) gn (by omega)]
    rw [wu (x := hi * T + A - (hi * T + A) / (y * T / 4294967296) * (y * T / 4294967296)) (by omega) (by omega)]
    have key := div64_norm (y * T) (s : Int) (y * T / 4294967296) (y * T % 4294967296) (hi * T + A) (C * T / 4294967296) (C * T % 4294967296) (by omega) (by omega) (by omega) (by omega) (by omega) (by omega) hu0 (by omega)
      (by omega) (by omega) (by omega) (by omega) _ _ rfl rfl
    have whole : (hi * T + A) * 18446744073709551616 + C * T / 4294967296 * 4294967296 + C * T % 4294967296 = (hi * 18446744073709551616 + lo) * T := by
      have : (hi * 18446744073709551616 + lo) * T = hi * T * 18446744073709551616 + lo * T := by grind
      rw [this, hloT]
      omega
    have r1 : (hi * 18446744073709551616 + lo) * T / (y * T) = (hi * 18446744073709551616 + lo) / y := Int.mul_ediv_mul_of_pos_left _ _ hT0
    have r2 : (hi * 18446744073709551616 + lo) * T % (y * T) = T * ((hi * 18446744073709551616 + lo) % y) := by
      rw [Int.mul_comm _ T, Int.mul_comm y T, Int.mul_emod_mul_of_pos _ _ hT0]
    have s6 : shr .u64 (T * ((hi * 18446744073709551616 + lo) % y)) (s : Int) = (hi * 18446744073709551616 + lo) % y := by
      unfold shr
      rw [p1, Int.mul_ediv_cancel_left _ (by omega)]
    rw [whole, r1, r2, s6] at key
    exact key
end Go.Proofs.Ytcofjbbflcnaaaa.P
