/- What the reference's Owner comes to. No condition of its own. -/
import Derived.Test.YtcofjbbflcnaaaaCadS
import Derived.Test.YtcofjbbflcnaaaaPx29
namespace Go.Proofs.Ytcofjbbflcnaaaa.P
open Go.RowKit Go.Proofs.YtcofjbbflcnaaaaW.PrintWords Go.Proofs.YtcofjbbflcnaaaaW.PrintLast Go.Proofs.YtcofjbbflcnaaaaW.PrintMore
set_option linter.unusedVariables false

section
variable {x y Q : Int}
theorem ref_owner_l1 (hy : 0 < y) (hy' : y ≤ 6291456000) (hQ : Q * y < x) (hQ' : x ≤ (Q + 1) * y) (hQr : -4611686018427387904 ≤ Q * y) (hx : x ≤ 4611686018427387904) : ∀ (d : Nat) (n : Int), Q ≤ n → n - Q ≤ d → d ≤ 3 → Ev (fun k => cutroomref20_Owner.l1 k x y n) (Q, 0) := by
  intro d
  induction d with
  | zero =>
    intro n h1 h2 _
    refine Ev.step (fun k => by rw [cutroomref20_Owner.l1]) ?_
    rw [show n = Q by omega, w64 (x := Q * y) (by omega) (by omega)]
    simp only [if_neg (show ¬ Q * y ≥ x by omega)]
    exact Ev.now _
  | succ d ih =>
    intro n h1 h2 h3
    refine Ev.step (fun k => by rw [cutroomref20_Owner.l1]) ?_
    have b1 : n * y ≤ (Q + 4) * y := Int.mul_le_mul_of_nonneg_right (by omega) (by omega)
    have b2 : Q * y ≤ n * y := Int.mul_le_mul_of_nonneg_right h1 (by omega)
    have b3 : (Q + 4) * y = Q * y + 4 * y := by grind
    have qr : Q ≤ 4611686018427387904 ∧ -4611686018427387904 ≤ Q := by
      constructor
      · by_cases c : Q ≤ 0
        · omega
        · have := Int.mul_le_mul_of_nonneg_left (show (1 : Int) ≤ y by omega) (show 0 ≤ Q by omega)
          omega
      · by_cases c : 0 ≤ Q
        · omega
        · have := Int.mul_le_mul_of_nonneg_left (show (1 : Int) ≤ y by omega) (show 0 ≤ -Q by omega)
          have : -Q * y = -(Q * y) := by grind
          omega
    rw [w64 (x := n * y) (by omega) (by omega)]
    by_cases c : n * y ≥ x
    · simp only [if_pos c]
      have : Q < n := by
        by_cases e : n = Q
        · rw [e] at c; omega
        · omega
      rw [w64 (x := n - 1) (by omega) (by omega)]
      exact ih (n - 1) (by omega) (by omega) (by omega)
    · simp only [if_neg c]
      have : ¬ Q + 1 ≤ n := fun h => by
        have := Int.mul_le_mul_of_nonneg_right h (show 0 ≤ y by omega)
        omega
      rw [show n = Q by omega]
      exact Ev.now _
end

theorem ref_owner_ev (s num den : Int) : Ev (fun k => cutroomref20_Owner.f k s num den) (ownerR s num den) := by
  unfold cutroomref20_Owner.f ownerR
  refine Ev.bind (ref_usable_ev num den) ?_
  by_cases c1 : usable num den = true
  · simp only [c1, if_true]
    have u := usable_iff.1 c1
    have no : ¬ (-1099511627776 ≤ s ∧ s ≤ 1099511627776) → Ev (fun k => cutroomref20_Owner.j0 k s true num den) (if -1099511627776 ≤ s ∧ s ≤ 1099511627776 then (OW s num den, (0 : Int)) else (0, 2)) := by
      intro h
      rw [if_neg h]
      refine Ev.step (fun k => by rw [cutroomref20_Owner.j0]) ?_
      simp only [if_true]
      exact Ev.now _
    by_cases c2 : s < -1099511627776
    · simp only [if_pos c2]
      exact no (by omega)
    · by_cases c3 : s > 1099511627776
      · simp only [if_neg c2, c3, decide_true]
        exact no (by omega)
      · have hs : -1099511627776 ≤ s ∧ s ≤ 1099511627776 := by omega
        have r := owner_rng c1 hs
        simp only [if_neg c2, c3, decide_false]
        rw [if_pos hs]
        refine Ev.step (fun k => by rw [cutroomref20_Owner.j0]) ?_
        simp only [Bool.false_eq_true, if_false]
        rw [w64 (x := 2 * s) (by omega) (by omega), w64 (x := 2 * s + 1) (by omega) (by omega), w64 (x := (2 * s + 1) * num) (by omega) (by omega), w64 (x := 96000 * den) (by omega) (by omega)]
        simp only [if_neg (show ¬ 96000 * den = 0 by omega)]
        unfold OW
        obtain ⟨x, hx⟩ : ∃ x, x = (2 * s + 1) * num := ⟨_, rfl⟩
        obtain ⟨y, hy⟩ : ∃ y, y = 96000 * den := ⟨_, rfl⟩
        rw [← hx, ← hy]
        rw [← hx] at r
        have hy0 : 0 < y := by omega
        have hy1 : y ≤ 6291456000 := by omega
        have e := Int.mul_ediv_add_emod (x - 1) y
        have m0 := Int.emod_nonneg (x - 1) (show y ≠ 0 by omega)
        have m1 := Int.emod_lt_of_pos (x - 1) hy0
        obtain ⟨Q, hQ⟩ : ∃ Q, Q = (x - 1) / y := ⟨_, rfl⟩
        rw [← hQ, Int.mul_comm] at e
        rw [← hQ]
        have q1 : (Q + 1) * y = Q * y + y := by grind
        have tr : Q ≤ Int.tdiv x y ∧ Int.tdiv x y ≤ Q + 1 := by
          by_cases c : 0 ≤ x
          · rw [Int.tdiv_eq_ediv_of_nonneg c]
            constructor
            · exact Int.le_ediv_of_mul_le hy0 (by omega)
            · exact Int.ediv_le_of_le_mul hy0 (by omega)
          · have e1 : Int.tdiv x y = -((-x) / y) := by
              rw [← Int.tdiv_eq_ediv_of_nonneg (by omega : 0 ≤ -x), Int.neg_tdiv]; omega
            rw [e1]
            have a1 : (-x) / y ≤ -Q := Int.ediv_le_of_le_mul hy0 (by have : -Q * y = -(Q * y) := by grind
                                                                     omega)
            have a2 : -(Q + 1) ≤ (-x) / y := Int.le_ediv_of_mul_le hy0 (by have : -(Q + 1) * y = -((Q + 1) * y) := by grind
                                                                           omega)
            omega
        have dr := div_rng (p := x - 1) (d := y) (B := 2305843009215021057) (by omega) (by omega) (by omega) (by decide)
        rw [← hQ] at dr
        have t := ref_owner_l1 (x := x) (y := y) (Q := Q) hy0 hy1 (by omega) (by omega) (by omega) (by omega) 1
        rw [w64 (x := Int.tdiv x y) (by omega) (by omega)]
        have l0 : ∀ n, Q + 1 ≤ n → n ≤ Q + 1 → Ev (fun k => cutroomref20_Owner.l0 k x y n) (Q, 0) := by
          intro n h1 h2
          refine Ev.step (fun k => by rw [cutroomref20_Owner.l0]) ?_
          rw [show n = Q + 1 by omega, w64 (x := (Q + 1) * y) (by omega) (by omega)]
          simp only [if_neg (show ¬ (Q + 1) * y < x by omega)]
          exact t (Q + 1) (by omega) (by omega) (by omega)
        by_cases c : Int.tdiv x y = Q + 1
        · exact l0 _ (by omega) (by omega)
        · have hq : Int.tdiv x y = Q := by omega
          rw [hq]
          refine Ev.step (fun k => by rw [cutroomref20_Owner.l0]) ?_
          rw [w64 (x := Q * y) (by omega) (by omega)]
          simp only [if_pos (show Q * y < x by omega)]
          rw [w64 (x := Q + 1) (by omega) (by omega)]
          exact l0 _ (by omega) (by omega)
  · simp only [c1, Bool.false_eq_true, if_false]
    exact Ev.now _

end Go.Proofs.Ytcofjbbflcnaaaa.P
