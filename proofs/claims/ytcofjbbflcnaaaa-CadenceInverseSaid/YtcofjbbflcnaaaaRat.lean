/- What package rational's abs, gcd and MulDiv come to. No condition of its own. -/
import Derived.Test.YtcofjbbflcnaaaaDiv
import Derived.Test.YtcofjbbflcnaaaaPx67
import Derived.Test.YtcofjbbflcnaaaaPx70
namespace Go.Proofs.Ytcofjbbflcnaaaa.P
open Go.RowKit Go.Proofs.YtcofjbbflcnaaaaW.PrintWords Go.Proofs.YtcofjbbflcnaaaaW.PrintLast Go.Proofs.YtcofjbbflcnaaaaW.PrintMore
set_option linter.unusedVariables false

theorem wf64 {x : Int} (h : (Lit.int .i64 x).wf = true) : -9223372036854775808 ≤ x ∧ x ≤ 9223372036854775807 := by
  simp [Lit.wf, IntKind.min, IntKind.max, IntKind.signed, IntKind.bits] at h
  omega

theorem abs_f (x : Int) (h0 : -9223372036854775808 ≤ x) (h1 : x ≤ 9223372036854775807) : rational_abs.f x = some (x.natAbs : Int) := by
  unfold rational_abs.f
  split
  · rw [wu64, wu64]; congr 1; omega
  · rw [wu64]; congr 1; omega

theorem gcd_ev : ∀ (n : Nat) (a b : Int), 0 ≤ a → 0 ≤ b → b ≤ n → Ev (fun k => rational_gcd.l0 k a b) (Int.gcd a b : Int) := by
  intro n
  induction n with
  | zero =>
    intro a b ha hb hn
    obtain rfl : b = 0 := by omega
    refine Ev.step (fun k => by rw [rational_gcd.l0]) ?_
    simp only [if_true]
    rw [Int.gcd_zero_right, show ((a.natAbs : Nat) : Int) = a by omega]
    exact Ev.now _
  | succ n ih =>
    intro a b ha hb hn
    refine Ev.step (fun k => by rw [rational_gcd.l0]) ?_
    by_cases h : b = 0
    · subst h
      simp only [if_true]
      rw [Int.gcd_zero_right, show ((a.natAbs : Nat) : Int) = a by omega]
      exact Ev.now _
    · simp only [if_neg h]
      rw [Int.tmod_eq_emod_of_nonneg ha]
      have h1 := Int.emod_nonneg a h
      have h2 := Int.emod_lt_of_pos a (show 0 < b by omega)
      have := ih b (a % b) hb h1 (by omega)
      have e : Int.gcd b (a % b) = Int.gcd a b := by
        obtain ⟨p, rfl⟩ := Int.eq_ofNat_of_zero_le ha
        obtain ⟨q, rfl⟩ := Int.eq_ofNat_of_zero_le hb
        rw [← Int.natCast_emod, Int.gcd_natCast_natCast, Int.gcd_natCast_natCast, Nat.gcd_comm q, ← Nat.gcd_rec, Nat.gcd_comm]
      rw [e] at this
      exact this
theorem gcd_f (a b : Int) (ha : 0 ≤ a) (hb : 0 ≤ b) : Ev (fun k => rational_gcd.f k a b) (Int.gcd a b : Int) := by
  unfold rational_gcd.f
  exact gcd_ev b.toNat a b ha hb (by omega)

/-- The magnitude's quotient and rest give the quotient and the rest of a number below zero. -/
theorem neg_div {m d : Int} (hd : 0 < d) : (-m) / d = (if m % d = 0 then -(m / d) else -(m / d) - 1) ∧ (-m) % d = (if m % d = 0 then 0 else d - m % d) := by
  have e := Int.mul_ediv_add_emod m d
  have h0 := Int.emod_nonneg m (show d ≠ 0 by omega)
  have h1 := Int.emod_lt_of_pos m hd
  split
  · rename_i hz
    have w : -m = 0 + (-(m / d)) * d := by
      have : (-(m / d)) * d = -(d * (m / d)) := by grind
      omega
    constructor
    · rw [w, Int.add_mul_ediv_right _ _ (by omega)]; simp
    · rw [w, Int.add_mul_emod_self_right]; simp
  · rename_i hz
    have w : -m = (d - m % d) + (-(m / d) - 1) * d := by
      have : (-(m / d) - 1) * d = -(d * (m / d)) - d := by grind
      omega
    constructor
    · rw [w, Int.add_mul_ediv_right _ _ (by omega), Int.ediv_eq_zero_of_lt (by omega) (by omega)]; omega
    · rw [w, Int.add_mul_emod_self_right, Int.emod_eq_of_lt (by omega) (by omega)]

def fits (x : Int) : Bool := decide (-9223372036854775808 ≤ x ∧ x ≤ 9223372036854775807)

theorem floor_ev (neg : Bool) (m d : Int) (hm : 0 ≤ m) (hm' : m < 340282366920938463463374607431768211456) (hd : 1 ≤ d) (hd' : d ≤ 9223372036854775807) :
    Ev (fun k => rational_wide_floor.f k neg (m / 18446744073709551616) (m % 18446744073709551616) d)
      (if fits ((if neg = true then -m else m) / d) = true then ((if neg = true then -m else m) / d, (if neg = true then -m else m) % d, true) else (0, 0, false))
    ∨ (Ev (fun k => rational_wide_floor.f k neg (m / 18446744073709551616) (m % 18446744073709551616) d) ((if neg = true then -m else m) / d - 18446744073709551616, m % d, false) ∧ neg = false ∧ fits (m / d) = false) := by
  have e := Int.mul_ediv_add_emod m d
  have r0 := Int.emod_nonneg m (show d ≠ 0 by omega)
  have r1 := Int.emod_lt_of_pos m (show 0 < d by omega)
  unfold rational_wide_floor.f
  by_cases c : m / 18446744073709551616 ≥ d
  · left
    have hbig : 18446744073709551616 ≤ m / d := Int.le_ediv_of_mul_le (by omega) (by omega)
    have nf : fits ((if neg = true then -m else m) / d) = false := by
      unfold fits
      cases neg
      · simp only [Bool.false_eq_true, if_false, decide_eq_false_iff_not]; omega
      · simp only [if_true, decide_eq_false_iff_not]
        rw [(neg_div (m := m) (show 0 < d by omega)).1]
        split <;> omega
    simp only [if_pos c, nf, Bool.false_eq_true, if_false]
    exact Ev.now _
  · have hdiv := div64 (m / 18446744073709551616) (m % 18446744073709551616) d (by omega) (by omega) (by omega) (by omega) (by omega)
    rw [show m / 18446744073709551616 * 18446744073709551616 + m % 18446744073709551616 = m by omega] at hdiv
    have hq0 : 0 ≤ m / d := Int.ediv_nonneg hm (by omega)
    have hq1 : m / d < 18446744073709551616 := Int.ediv_lt_of_lt_mul (by omega) (by omega)
    simp only [if_neg c]
    cases neg with
    | true =>
      left
      refine Ev.bind hdiv ?_
      simp only [if_true]
      have nd := neg_div (m := m) (show 0 < d by omega)
      generalize m / d = q at *
      generalize m % d = r at *
      by_cases c1 : q > 9223372036854775808
      · have nf : fits (-m / d) = false := by
          unfold fits; rw [nd.1]; simp only [decide_eq_false_iff_not]; split <;> omega
        simp only [if_pos c1, nf]
        refine Ev.step (fun k => by rw [rational_wide_floor.j0]) ?_
        simp only [if_true, Bool.false_eq_true, if_false]
        exact Ev.now _
      · simp only [if_neg c1]
        by_cases c2 : q = 9223372036854775808
        · simp only [if_pos c2]
          refine Ev.step (fun k => by rw [rational_wide_floor.j0]) ?_
          by_cases c3 : r = 0
          · have hf : fits (-m / d) = true := by
              unfold fits; rw [nd.1, if_pos c3]; simp only [decide_eq_true_eq]; omega
            simp only [hf, if_true, show decide (r > 0) = false by simp; omega, Bool.false_eq_true, if_false, if_neg (show ¬ r > 0 by omega)]
            rw [nd.1, nd.2, if_pos c3, if_pos c3, show wrap64 (-(wrap64 q)) = -q by rw [c2]; unfold wrap64; omega, c3]
            exact Ev.now _
          · have nf : fits (-m / d) = false := by
              unfold fits; rw [nd.1, if_neg c3]; simp only [decide_eq_false_iff_not]; omega
            simp only [nf, Bool.false_eq_true, if_false, show decide (r > 0) = true by simp; omega, if_true]
            exact Ev.now _
        · simp only [if_neg c2]
          refine Ev.step (fun k => by rw [rational_wide_floor.j0]) ?_
          have hf : fits (-m / d) = true := by
            unfold fits; rw [nd.1]; simp only [decide_eq_true_eq]; split <;> omega
          simp only [hf, if_true, Bool.false_eq_true, if_false]
          by_cases c3 : r = 0
          · simp only [if_neg (show ¬ r > 0 by omega)]
            rw [nd.1, nd.2, if_pos c3, if_pos c3, w64 (x := q) (by omega) (by omega), w64 (by omega) (by omega), c3]
            exact Ev.now _
          · simp only [if_pos (show r > 0 by omega)]
            rw [nd.1, nd.2, if_neg c3, if_neg c3, wu (x := q + 1) (by omega) (by omega), wu (x := d - r) (by omega) (by omega)]
            have : wrap64 (-(wrap64 (q + 1))) = -q - 1 := by unfold wrap64; omega
            rw [this]
            exact Ev.now _
    | false =>
      by_cases hf : fits (m / d) = true
      · left
        refine Ev.bind hdiv ?_
        simp only [Bool.false_eq_true, if_false, hf, if_true]
        have hf' : m / d ≤ 9223372036854775807 := by
          unfold fits at hf; simp only [decide_eq_true_eq] at hf; omega
        rw [w64 (by omega) (by omega), show decide (m / d ≤ 9223372036854775807) = true by simpa using hf']
        exact Ev.now _
      · right
        have hf' : ¬ m / d ≤ 9223372036854775807 := by
          unfold fits at hf; simp only [decide_eq_true_eq] at hf; omega
        refine ⟨?_, rfl, by simpa using hf⟩
        refine Ev.bind hdiv ?_
        simp only [Bool.false_eq_true, if_false]
        rw [show decide (m / d ≤ 9223372036854775807) = false by simpa using hf', show wrap64 (m / d) = m / d - 18446744073709551616 by unfold wrap64; omega]
        exact Ev.now _

theorem times_f (x y : Int) (h0 : -9223372036854775808 ≤ x) (h1 : x ≤ 9223372036854775807) (y0 : 0 ≤ y) (y1 : y < 18446744073709551616) :
    rational_times.f x y = some (decide (x < 0), (x.natAbs : Int) * y / 18446744073709551616, (x.natAbs : Int) * y % 18446744073709551616) := by
  unfold rational_times.f
  rw [abs_f x h0 h1]
  simp only [Option.bind_some]
  rw [mul64 _ _ (by omega) (by omega) y0 y1]
  rfl

/-- rational.MulDiv. -/
theorem muldiv (x num den : Int) (x0 : -9223372036854775808 ≤ x) (x1 : x ≤ 9223372036854775807) (n0 : -9223372036854775808 ≤ num) (n1 : num ≤ 9223372036854775807) (d0 : 1 ≤ den) (d1 : den ≤ 9223372036854775807) :
    Ev (fun k => rational_MulDiv.f k x num den) (if fits (x * num / den) = true then (x * num / den, x * num % den, 0) else (0, 0, 2)) := by
  unfold rational_MulDiv.f
  simp only [if_neg (show ¬ den < 1 by omega)]
  rw [abs_f num n0 n1]
  simp only [Option.bind_some]
  rw [times_f x _ x0 x1 (by omega) (by omega)]
  simp only [Option.bind_some]
  rw [wu (x := den) (by omega) (by omega)]
  obtain ⟨m, hm⟩ : ∃ m, m = (x.natAbs : Int) * (num.natAbs : Int) := ⟨_, rfl⟩
  have hm0 : 0 ≤ m := by rw [hm]; exact Int.mul_nonneg (by omega) (by omega)
  have hm1 : m ≤ 9223372036854775808 * 9223372036854775808 := by rw [hm]; exact mul_lt (by omega) (by omega) (by omega) (by omega)
  have hsg : (if (decide (x < 0) != decide (num < 0)) = true then -m else m) = x * num := by
    rw [hm]
    by_cases a : x < 0 <;> by_cases b : num < 0
    · simp only [a, b, decide_true, bne_self_eq_false, Bool.false_eq_true, if_false]
      rw [show (x.natAbs : Int) = -x by omega, show (num.natAbs : Int) = -num by omega]; grind
    · simp only [a, b, decide_true, decide_false, bne_iff_ne, ne_eq, Bool.true_eq_false, not_false_eq_true, if_true]
      rw [show (x.natAbs : Int) = -x by omega, show (num.natAbs : Int) = num by omega]; grind
    · simp only [a, b, decide_true, decide_false, bne_iff_ne, ne_eq, Bool.false_eq_true, not_false_eq_true, if_true]
      rw [show (x.natAbs : Int) = x by omega, show (num.natAbs : Int) = -num by omega]; grind
    · simp only [a, b, decide_false, bne_self_eq_false, Bool.false_eq_true, if_false]
      rw [show (x.natAbs : Int) = x by omega, show (num.natAbs : Int) = num by omega]
  rw [← hm]
  have key := floor_ev (decide (x < 0) != decide (num < 0)) m den hm0 (by omega) d0 d1
  rw [hsg] at key
  rcases key with key | ⟨key, ng, nf⟩
  · refine Ev.bind key ?_
    by_cases hf : fits (x * num / den) = true
    · simp only [hf, if_true]
      have r0 := Int.emod_nonneg (x * num) (show den ≠ 0 by omega)
      have r1 := Int.emod_lt_of_pos (x * num) (show 0 < den by omega)
      rw [w64 (by omega) (by omega)]
      exact Ev.now _
    · simp only [hf, Bool.false_eq_true, if_false]
      exact Ev.now _
  · refine Ev.bind key ?_
    have : x * num = m := by rw [← hsg, ng]; simp
    rw [this, nf]
    simp only [Bool.false_eq_true, if_false]
    exact Ev.now _
end Go.Proofs.Ytcofjbbflcnaaaa.P
