/- Numbers in lowest terms, the product's and the reference's. No condition of its own. -/
import Derived.Test.YtjcjbbcamkkeiaaMul
import Derived.Test.YtjcjbbcamkkeiaaPx44
import Derived.Test.YtjcjbbcamkkeiaaPx37
import Derived.Test.YtjcjbbcamkkeiaaPx47
namespace Go.Proofs.Ytjcjbbcamkkeiaa.P
open Go.RowKit Go.Proofs.YtjcjbbcamkkeiaaW.PrintWords Go.Proofs.YtjcjbbcamkkeiaaW.PrintLast Go.Proofs.YtjcjbbcamkkeiaaW.PrintMore
set_option linter.unusedVariables false
set_option linter.unusedSimpArgs false

theorem tmod_pos {a b : Int} (ha : 0 ≤ a) : Int.tmod a b = a % b := Int.tmod_eq_emod_of_nonneg ha
theorem gcd_step {a b : Int} (ha : 0 ≤ a) (hb : 0 ≤ b) : Int.gcd b (a % b) = Int.gcd a b := by
  obtain ⟨p, rfl⟩ := Int.eq_ofNat_of_zero_le ha
  obtain ⟨q, rfl⟩ := Int.eq_ofNat_of_zero_le hb
  rw [← Int.natCast_emod, Int.gcd_natCast_natCast, Int.gcd_natCast_natCast, Nat.gcd_comm q, ← Nat.gcd_rec, Nat.gcd_comm]
theorem rgcd_ev : ∀ (n : Nat) (a b : Int), 0 ≤ a → 0 ≤ b → b ≤ n → Ev (fun k => rational_gcd.l0 k a b) (Int.gcd a b : Int) := by
  intro n
  induction n with
  | zero =>
    intro a b ha hb hn
    obtain rfl : b = 0 := by omega
    refine Ev.step (fun k => by rw [rational_gcd.l0]) ?_
    simp only [if_true]
    rw [show ((Int.gcd a 0 : Nat) : Int) = a by rw [Int.gcd_zero_right]; omega]
    exact Ev.now _
  | succ n ih =>
    intro a b ha hb hn
    refine Ev.step (fun k => by rw [rational_gcd.l0]) ?_
    by_cases c : b = 0
    · subst c
      simp only [if_true]
      rw [show ((Int.gcd a 0 : Nat) : Int) = a by rw [Int.gcd_zero_right]; omega]
      exact Ev.now _
    · simp only [if_neg c]
      have h1 := Int.emod_nonneg a c
      have h2 := Int.emod_lt_of_pos a (show 0 < b by omega)
      have := ih b (a % b) hb h1 (by omega)
      rw [gcd_step ha hb] at this
      rw [tmod_pos ha]
      exact this
theorem mgcd_ev : ∀ (n : Nat) (a b : Int), 0 ≤ a → 0 ≤ b → b ≤ n → Ev (fun k => cutroomref01_gcd.l0 k a b) (Int.gcd a b : Int) := by
  intro n
  induction n with
  | zero =>
    intro a b ha hb hn
    obtain rfl : b = 0 := by omega
    refine Ev.step (fun k => by rw [cutroomref01_gcd.l0]) ?_
    simp only [if_true]
    rw [show ((Int.gcd a 0 : Nat) : Int) = a by rw [Int.gcd_zero_right]; omega]
    exact Ev.now _
  | succ n ih =>
    intro a b ha hb hn
    refine Ev.step (fun k => by rw [cutroomref01_gcd.l0]) ?_
    by_cases c : b = 0
    · subst c
      simp only [if_true]
      rw [show ((Int.gcd a 0 : Nat) : Int) = a by rw [Int.gcd_zero_right]; omega]
      exact Ev.now _
    · simp only [if_neg c]
      have h1 := Int.emod_nonneg a c
      have h2 := Int.emod_lt_of_pos a (show 0 < b by omega)
      have := ih b (a % b) hb h1 (by omega)
      rw [gcd_step ha hb] at this
      rw [tmod_pos ha]
      exact this

/-- A number in lowest terms. -/
theorem of_ev (n d : Int) (n0 : 0 ≤ n) (n1 : n ≤ 4611686018427387904) (d0 : 1 ≤ d) (d1 : d ≤ 4611686018427387904) :
    Ev (fun k => rational_Of.f k n d) (n / (Int.gcd n d : Int), d / (Int.gcd n d : Int), 0) := by
  have g0 : 0 < (Int.gcd n d : Int) := by
    have : Int.gcd n d ≠ 0 := fun e => by have := (Int.gcd_eq_zero_iff.1 e).2; omega
    omega
  have q1 : 0 ≤ n / (Int.gcd n d : Int) := Int.ediv_nonneg n0 (Int.le_of_lt g0)
  have q2 : n / (Int.gcd n d : Int) ≤ n := Int.ediv_le_self _ n0
  have q3 : 0 ≤ d / (Int.gcd n d : Int) := Int.ediv_nonneg (by omega) (Int.le_of_lt g0)
  have q4 : d / (Int.gcd n d : Int) ≤ d := Int.ediv_le_self _ (by omega)
  unfold rational_Of.f rational_abs.f
  simp only [if_neg (show ¬ d = 0 by omega), if_neg (show ¬ n < 0 by omega), if_neg (show ¬ d < 0 by omega), wu (x := n) n0 (by omega), wu (x := d) (by omega) (by omega), Option.bind_some]
  have hg : Ev (fun k => rational_gcd.f k n d) (Int.gcd n d : Int) := by
    unfold rational_gcd.f
    exact rgcd_ev d.toNat n d n0 (by omega) (by omega)
  refine Ev.bind hg ?_
  simp only [if_neg (show ¬ (Int.gcd n d : Int) = 0 by omega), Int.tdiv_eq_ediv_of_nonneg n0, Int.tdiv_eq_ediv_of_nonneg (show 0 ≤ d by omega), wu q1 (by omega), wu q3 (by omega), decide_eq_false (show ¬ n < 0 by omega), decide_eq_false (show ¬ d < 0 by omega), bne_self_eq_false]
  refine Ev.bind (a := (n / (Int.gcd n d : Int), d / (Int.gcd n d : Int), 0)) ?_ (Ev.now _)
  unfold rational_made.f
  simp only [if_neg (show ¬ n / (Int.gcd n d : Int) > 9223372036854775807 by omega), decide_eq_false (show ¬ d / (Int.gcd n d : Int) > 9223372036854775807 by omega)]
  refine Ev.step (fun k => by rw [rational_made.j0]) ?_
  simp only [Bool.false_eq_true, if_false, w64 (x := n / (Int.gcd n d : Int)) (by omega) (by omega), w64 (x := d / (Int.gcd n d : Int)) (by omega) (by omega)]
  exact Ev.now _

theorem rof_ev (n d : Int) (n0 : 0 ≤ n) (n1 : n ≤ 4611686018427387904) (d0 : 1 ≤ d) (d1 : d ≤ 4611686018427387904) :
    Ev (fun k => cutroomref01_Of.f k n d) (n / (Int.gcd n d : Int), d / (Int.gcd n d : Int), 0) := by
  have g0 : 0 < (Int.gcd n d : Int) := by
    have : Int.gcd n d ≠ 0 := fun e => by have := (Int.gcd_eq_zero_iff.1 e).2; omega
    omega
  have q1 : 0 ≤ n / (Int.gcd n d : Int) := Int.ediv_nonneg n0 (Int.le_of_lt g0)
  have q2 : n / (Int.gcd n d : Int) ≤ n := Int.ediv_le_self _ n0
  have q3 : 0 ≤ d / (Int.gcd n d : Int) := Int.ediv_nonneg (by omega) (Int.le_of_lt g0)
  have q4 : d / (Int.gcd n d : Int) ≤ d := Int.ediv_le_self _ (by omega)
  unfold cutroomref01_Of.f cutroomref01_mag.f
  simp only [if_neg (show ¬ d = 0 by omega), if_neg (show ¬ n < 0 by omega), if_neg (show ¬ d < 0 by omega), wu (x := n) n0 (by omega), wu (x := d) (by omega) (by omega), Option.bind_some]
  have hg : Ev (fun k => cutroomref01_gcd.f k n d) (Int.gcd n d : Int) := by
    unfold cutroomref01_gcd.f
    exact mgcd_ev d.toNat n d n0 (by omega) (by omega)
  refine Ev.bind hg ?_
  have md : Ev (fun k => cutroomref01_made.f k false (n / (Int.gcd n d : Int)) (d / (Int.gcd n d : Int))) (n / (Int.gcd n d : Int), d / (Int.gcd n d : Int), 0) := by
    unfold cutroomref01_made.f
    simp only [if_neg (show ¬ n / (Int.gcd n d : Int) > 9223372036854775807 by omega), decide_eq_false (show ¬ d / (Int.gcd n d : Int) > 9223372036854775807 by omega)]
    refine Ev.step (fun k => by rw [cutroomref01_made.j0]) ?_
    simp only [Bool.false_eq_true, if_false, w64 (x := n / (Int.gcd n d : Int)) (by omega) (by omega), w64 (x := d / (Int.gcd n d : Int)) (by omega) (by omega)]
    exact Ev.now _
  simp only [if_neg (show ¬ (Int.gcd n d : Int) = 0 by omega), Int.tdiv_eq_ediv_of_nonneg n0, Int.tdiv_eq_ediv_of_nonneg (show 0 ≤ d by omega), wu q1 (by omega), wu q3 (by omega), decide_eq_false (show ¬ n < 0 by omega), decide_eq_false (show ¬ d < 0 by omega), bne_self_eq_false]
  by_cases c : n = 0
  · simp only [if_pos c]
    exact Ev.bind md (Ev.now _)
  · simp only [if_neg c]
    exact Ev.bind md (Ev.now _)

end Go.Proofs.Ytjcjbbcamkkeiaa.P
