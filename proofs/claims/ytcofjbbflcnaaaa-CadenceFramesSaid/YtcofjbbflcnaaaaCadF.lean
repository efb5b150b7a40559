/- What the reference's Frame comes to. No condition of its own. -/
import Derived.Test.YtcofjbbflcnaaaaCadS
import Derived.Test.YtcofjbbflcnaaaaPx24
namespace Go.Proofs.Ytcofjbbflcnaaaa.P
open Go.RowKit Go.Proofs.YtcofjbbflcnaaaaW.PrintWords Go.Proofs.YtcofjbbflcnaaaaW.PrintLast Go.Proofs.YtcofjbbflcnaaaaW.PrintMore
set_option linter.unusedVariables false

theorem mul_split (m num den : Int) (hd : 0 < den) : m * num / den = m * (num % den) / den + m * (num / den) ∧ m * num % den = m * (num % den) % den := by
  have e := Int.mul_ediv_add_emod num den
  have w : m * num = m * (num % den) + m * (num / den) * den := by
    generalize num % den = a at *
    generalize num / den = b at *
    rw [← e]; grind
  rw [w]
  exact ⟨Int.add_mul_ediv_right _ _ (by omega), Int.add_mul_emod_self_right ..⟩

theorem ref_frame_ev (n fn fd tn td : Int) : Ev (fun k => cutroomref20_Frame.f k n fn fd tn td) (frameR n fn fd tn td) := by
  unfold cutroomref20_Frame.f
  refine Ev.bind (ref_usable_ev fn fd) ?_
  have no : ¬ (usable fn fd = true ∧ usable tn td = true) → Ev (fun k => cutroomref20_Frame.j0 k n true fn fd tn td) (frameR n fn fd tn td) := by
    intro h
    refine Ev.step (fun k => by rw [cutroomref20_Frame.j0]) ?_
    simp only [if_true]
    unfold frameR
    rw [if_neg h]
    exact Ev.now _
  by_cases c1 : usable fn fd = true
  · simp only [c1, if_true]
    refine Ev.bind (ref_usable_ev tn td) ?_
    by_cases c2 : usable tn td = true
    · simp only [c2, Bool.not_true]
      refine Ev.step (fun k => by rw [cutroomref20_Frame.j0]) ?_
      simp only [Bool.false_eq_true, if_false]
      rw [ref_inRange_f]
      simp only [Option.bind_some]
      unfold frameR
      rw [if_pos ⟨c1, c2⟩]
      by_cases c3 : -2147483647 ≤ n ∧ n ≤ 2147483647
      · simp only [c3, and_self, decide_true, if_true]
        have cr := cross c1 c2
        have cr2 : 1 ≤ td * fn ∧ td * fn ≤ 68719476736 := by rw [Int.mul_comm]; exact ⟨cr.1, cr.2.1⟩
        rw [w64 (x := tn * fd) (by omega) (by omega), w64 (x := td * fn) (by omega) (by omega)]
        obtain ⟨num, hnum⟩ : ∃ x, x = tn * fd := ⟨_, rfl⟩
        obtain ⟨den, hden⟩ : ∃ x, x = td * fn := ⟨_, rfl⟩
        rw [← hnum, ← hden]
        rw [← hnum] at cr
        rw [← hden] at cr2
        simp only [if_neg (show ¬ den = 0 by omega)]
        obtain ⟨m, hm⟩ : ∃ m : Int, m = (n.natAbs : Int) := ⟨_, rfl⟩
        have hmx : mx n (wrap64 (-n)) = m := by rw [w64 (x := -n) (by omega) (by omega)]; unfold mx; split <;> omega
        rw [hmx, Int.tmod_eq_emod_of_nonneg (a := num) (by omega), Int.tdiv_eq_ediv_of_nonneg (a := num) (by omega)]
        have hw0 : 0 ≤ num / den := Int.ediv_nonneg (by omega) (by omega)
        have hw1 : num / den ≤ num := Int.ediv_le_self _ (by omega)
        have t0 := Int.emod_nonneg num (show den ≠ 0 by omega)
        have t1 := Int.emod_lt_of_pos num (show 0 < den by omega)
        rw [w64 (x := num / den) (by omega) (by omega)]
        have hqm : m * (num % den) / den ≤ m := Int.ediv_le_of_le_mul (by omega) (Int.mul_le_mul_of_nonneg_left (by omega) (by omega))
        have sp := split_ev m (num % den) den (by omega) (by omega) t0 (by omega) (by omega) (by omega) (by rw [show (m.natAbs : Int) = m by omega]; omega)
        refine Ev.bind sp ?_
        have ms := mul_split m num den (by omega)
        have hq0 : 0 ≤ m * (num % den) / den := Int.ediv_nonneg (Int.mul_nonneg (by omega) t0) (by omega)
        have hr0 := Int.emod_nonneg (m * (num % den)) (show den ≠ 0 by omega)
        have hr1 := Int.emod_lt_of_pos (m * (num % den)) (show 0 < den by omega)
        have nm : n * num = (if n < 0 then -(m * num) else m * num) := by
          split
          · rw [hm, show (n.natAbs : Int) = -n by omega]; grind
          · rw [hm, show (n.natAbs : Int) = n by omega]
        have nd := neg_div (m := m * num) (d := den) (by omega)
        obtain ⟨T, hT⟩ : ∃ T, T = m * num / den := ⟨_, rfl⟩
        obtain ⟨r, hr⟩ : ∃ r, r = m * num % den := ⟨_, rfl⟩
        rw [← hT, ← hr] at nd
        rw [← hT, ← hr] at ms
        rw [← ms.2] at hr0 hr1 ⊢
        obtain ⟨q, hq⟩ : ∃ q, q = m * (num % den) / den := ⟨_, rfl⟩
        obtain ⟨p, hp⟩ : ∃ p, p = m * (num / den) := ⟨_, rfl⟩
        rw [← hq] at hq0 hqm ⊢
        have hTq : T = q + p := by rw [hq, hp]; exact ms.1
        have hp0 : 0 ≤ p := by rw [hp]; exact Int.mul_nonneg (by omega) hw0
        have goal : n * num / den = (if n < 0 then (if r = 0 then -T else -T - 1) else T) := by
          rw [nm]
          split
          · rw [nd.1]
          · rw [hT]
        have bad : 9223372036854775807 < T → (if fits (n * num / den) = true ∧ n * num / den ≠ -9223372036854775808 then (n * num / den, (0 : Int)) else (0, 2)) = (0, 2) := by
          intro h
          rw [if_neg]
          rw [goal]
          unfold fits
          simp only [decide_eq_true_eq]
          split
          · split <;> omega
          · omega
        have j1bad : 9223372036854775807 < T → Ev (fun k => cutroomref20_Frame.j1 k n m (num / den) q r true) (if fits (n * num / den) = true ∧ n * num / den ≠ -9223372036854775808 then (n * num / den, (0 : Int)) else (0, 2)) := by
          intro h
          rw [bad h]
          refine Ev.step (fun k => by rw [cutroomref20_Frame.j1]) ?_
          simp only [if_true]
          exact Ev.now _
        have j1ok : T ≤ 9223372036854775807 → Ev (fun k => cutroomref20_Frame.j1 k n m (num / den) q r false) (if fits (n * num / den) = true ∧ n * num / den ≠ -9223372036854775808 then (n * num / den, (0 : Int)) else (0, 2)) := by
          intro h
          refine Ev.step (fun k => by rw [cutroomref20_Frame.j1]) ?_
          simp only [Bool.false_eq_true, if_false]
          rw [← hp, w64 (x := p) (by omega) (by omega), w64 (x := q + p) (by omega) (by omega), ← hTq, goal]
          by_cases c4 : n < 0
          · simp only [if_pos c4]
            by_cases c5 : r = 0
            · rw [if_pos c5, if_pos (by unfold fits; simp only [decide_eq_true_eq]; omega)]
              simp only [show decide (r > 0) = false by simp; omega]
              refine Ev.step (fun k => by rw [cutroomref20_Frame.j2]) ?_
              simp only [Bool.false_eq_true, if_false, if_pos c4]
              rw [w64 (x := -T) (by omega) (by omega)]
              exact Ev.now _
            · rw [if_neg c5]
              simp only [show decide (r > 0) = true by simp; omega]
              refine Ev.step (fun k => by rw [cutroomref20_Frame.j2]) ?_
              simp only [if_true, if_pos c4]
              by_cases c6 : T = 9223372036854775807
              · simp only [if_pos c6]
                rw [if_neg (by unfold fits; simp only [decide_eq_true_eq]; omega)]
                exact Ev.now _
              · simp only [if_neg c6]
                rw [if_pos (by unfold fits; simp only [decide_eq_true_eq]; omega), w64 (x := T + 1) (by omega) (by omega), w64 (x := -(T + 1)) (by omega) (by omega), show -(T + 1) = -T - 1 by omega]
                exact Ev.now _
          · simp only [if_neg c4]
            rw [if_pos (by unfold fits; simp only [decide_eq_true_eq]; omega)]
            refine Ev.step (fun k => by rw [cutroomref20_Frame.j2]) ?_
            simp only [Bool.false_eq_true, if_false, if_neg c4]
            exact Ev.now _
        by_cases cw : num / den > 0
        · simp only [if_pos cw, if_neg (show ¬ num / den = 0 by omega)]
          have hdw : 0 ≤ 9223372036854775807 / (num / den) ∧ 9223372036854775807 / (num / den) ≤ 9223372036854775807 := ⟨Int.ediv_nonneg (by decide) (by omega), Int.ediv_le_self _ (by decide)⟩
          rw [w64 (x := 9223372036854775807 / (num / den)) (by omega) (by omega)]
          by_cases cm : m > 9223372036854775807 / (num / den)
          · simp only [if_pos cm]
            refine j1bad ?_
            have : 9223372036854775807 < m * (num / den) := Int.lt_mul_of_ediv_lt cw cm
            omega
          · simp only [if_neg cm]
            have hle : m * (num / den) ≤ 9223372036854775807 := Int.mul_le_of_le_ediv cw (by omega)
            rw [← hp, w64 (x := p) (by omega) (by omega), w64 (x := 9223372036854775807 - q) (by omega) (by omega)]
            by_cases cb : p > 9223372036854775807 - q
            · simp only [cb, decide_true]
              exact j1bad (by omega)
            · simp only [cb, decide_false]
              exact j1ok (by omega)
        · simp only [if_neg cw]
          have hz : p = 0 := by rw [hp, show num / den = 0 by omega]; simp
          rw [← hp, w64 (x := p) (by omega) (by omega), w64 (x := 9223372036854775807 - q) (by omega) (by omega)]
          simp only [show decide (p > 9223372036854775807 - q) = false by simp; omega]
          exact j1ok (by omega)
      · simp only [c3, decide_false, Bool.false_eq_true, if_false]
        exact Ev.now _
    · simp only [c2, Bool.not_false]
      exact no (fun h => c2 h.2)
  · simp only [c1, Bool.false_eq_true, if_false]
    exact no (fun h => c1 h.1)
end Go.Proofs.Ytcofjbbflcnaaaa.P
