/- What the reference's Restore comes to. No condition of its own. -/
import Derived.Test.YtcofjbbflcnaaaaCadP
import Derived.Test.YtcofjbbflcnaaaaPx45
namespace Go.Proofs.Ytcofjbbflcnaaaa.P
open Go.RowKit Go.Proofs.YtcofjbbflcnaaaaW.PrintWords Go.Proofs.YtcofjbbflcnaaaaW.PrintLast Go.Proofs.YtcofjbbflcnaaaaW.PrintMore
set_option linter.unusedVariables false

theorem fst0_drop (p : S43 → Bool) (ws : List S43) (d : Nat) (h : d < ws.length) : fst0 p (ws.drop d) (d : Int) = if p (rd_T43 ws (d : Int)) = true then (d : Int) else fst0 p (ws.drop (d + 1)) ((d + 1 : Nat) : Int) := by
  rw [drop_cons ws d h, ← rd43_get ws d h]
  rfl
/-- the search from the end -/
theorem ref_rest_l2 (xs : List S52) (ws : List S43) (m a : Int) (acc : List S52) (hl : ws.length ≤ 4611686018427387904) (R : List S52 × Int)
    (hR : Ev (fun k => cutroomref20_Restore.l2 k xs ws m acc a (fst0 (fun w => decide (w.f0 = a)) ws 0) (fst0 (fun w => decide (w.f1 = a)) ws 0) (-1)) R) :
    ∀ d : Nat, d ≤ ws.length → Ev (fun k => cutroomref20_Restore.l2 k xs ws m acc a (fst0 (fun w => decide (w.f0 = a)) (ws.drop d) (d : Int)) (fst0 (fun w => decide (w.f1 = a)) (ws.drop d) (d : Int)) ((d : Int) - 1)) R := by
  intro d
  induction d with
  | zero =>
    intro _
    rw [List.drop_zero]
    exact hR
  | succ d ih =>
    intro hd
    have h := ih (by omega)
    rw [fst0_drop _ ws d (by omega), fst0_drop _ ws d (by omega)] at h
    simp only [decide_eq_true_eq] at h
    generalize fst0 (fun w => decide (w.f0 = a)) (ws.drop (d + 1)) ((d + 1 : Nat) : Int) = u at h ⊢
    generalize fst0 (fun w => decide (w.f1 = a)) (ws.drop (d + 1)) ((d + 1 : Nat) : Int) = v at h ⊢
    have e : ((d + 1 : Nat) : Int) - 1 = (d : Int) := by omega
    have e2 : wrap64 ((d : Int) - 1) = (d : Int) - 1 := m64 (by omega) (by omega)
    rw [e]
    refine Ev.step (fun k => by rw [cutroomref20_Restore.l2]) ?_
    simp only [if_pos (show (d : Int) ≥ 0 by omega), if_pos (show (d : Int) < (ws.length : Int) by omega), e2]
    by_cases c1 : (rd_T43 ws (d : Int)).f0 = a
    · by_cases c2 : (rd_T43 ws (d : Int)).f1 = a
      · simp only [if_pos c1, if_pos c2] at h ⊢; exact h
      · simp only [if_pos c1, if_neg c2] at h ⊢; exact h
    · by_cases c2 : (rd_T43 ws (d : Int)).f1 = a
      · simp only [if_neg c1, if_pos c2] at h ⊢; exact h
      · simp only [if_neg c1, if_neg c2] at h ⊢; exact h
theorem ref_rest_l1 (xs : List S52) (ws : List S43) (hx : alikeB xs = true) (he : xs.length = ws.length) (hl : ws.length ≤ 256) (n : Nat) (hn : n ≤ 100000) : ∀ (d i : Nat) (acc : List S52), i + d = n → acc.length = i →
    Ev (fun k => cutroomref20_Restore.l1 k xs ws ((n : Int) - 1) acc (i : Int)) (restG xs ws d (i : Int) acc) := by
  intro d
  induction d with
  | zero =>
    intro i acc hi ha
    refine Ev.step (fun k => by rw [cutroomref20_Restore.l1]) ?_
    simp only [if_neg (show ¬ (i : Int) ≤ (n : Int) - 1 by omega), restG]
    exact Ev.now _
  | succ d ih =>
    intro i acc hi ha
    refine Ev.step (fun k => by rw [cutroomref20_Restore.l1]) ?_
    simp only [if_pos (show (i : Int) ≤ (n : Int) - 1 by omega)]
    rw [m64 (x := (ws.length : Int) - 1) (by omega) (by omega)]
    have key := ref_rest_l2 xs ws ((n : Int) - 1) (i : Int) acc (by omega) (restG xs ws (d + 1) (i : Int) acc) ?_ ws.length (Nat.le_refl _)
    · rw [List.drop_of_length_le (Nat.le_refl _)] at key
      exact key
    · unfold restG
      have r1 := fst0_rng (fun w => decide (w.f0 = (i : Int))) ws 0 (by omega)
      have r2 := fst0_rng (fun w => decide (w.f1 = (i : Int))) ws 0 (by omega)
      generalize fst0 (fun w => decide (w.f0 = (i : Int))) ws 0 = t at r1 ⊢
      generalize fst0 (fun w => decide (w.f1 = (i : Int))) ws 0 = b at r2 ⊢
      refine Ev.step (fun k => by rw [cutroomref20_Restore.l2]) ?_
      simp only [if_neg (show ¬ (-1 : Int) ≥ 0 by omega)]
      by_cases c1 : t < 0
      · simp only [if_pos c1]; exact Ev.now _
      · simp only [if_neg c1]
        by_cases c2 : b < 0
        · simp only [if_pos c2]; exact Ev.now _
        · simp only [if_neg c2]
          obtain ⟨v1, s1, s2⟩ := alike_at hx t (by omega) (by omega)
          obtain ⟨v2, s3, s4⟩ := alike_at hx b (by omega) (by omega)
          simp only [if_pos (show 0 ≤ t by omega), if_pos (show t < (xs.length : Int) by omega), if_pos (show 0 ≤ b by omega), if_pos (show b < (xs.length : Int) by omega)]
          refine Ev.bind (join_ev _ _ v1 v2 (s1.trans s3.symm) (s2.trans s4.symm)) ?_
          simp only [if_pos (show acc.length < 1599289640401 by omega)]
          rw [m64 (x := (i : Int) + 1) (by omega) (by omega)]
          exact ih (i + 1) (acc ++ [wvF (rd_T52 xs t) (rd_T52 xs b)]) (by omega) (by simp; omega)
theorem ref_rest_l0 (xs : List S52) (ws : List S43) (hx : alikeB xs = true) (he : xs.length = ws.length) (hl : ws.length ≤ 4611686018427387904) : ∀ (d i : Nat) (m : Int), i + d = ws.length → -1 ≤ m → m < 256 →
    Ev (fun k => cutroomref20_Restore.l0 k xs ws m (i : Int)) (if (ws.drop i).all nmB = true then (if 256 < ws.length then ([], 5) else restG xs ws (mostOf (ws.drop i) m + 1).toNat 0 []) else ([], 1)) := by
  intro d
  induction d with
  | zero =>
    intro i m hi hm hm'
    rw [List.drop_of_length_le (by omega), List.all_nil, if_pos rfl]
    refine Ev.step (fun k => by rw [cutroomref20_Restore.l0]) ?_
    simp only [if_neg (show ¬ (i : Int) < (ws.length : Int) by omega)]
    by_cases c : 256 < ws.length
    · simp only [if_pos (show (ws.length : Int) > 256 by omega), if_pos c]
      exact Ev.now _
    · simp only [if_neg (show ¬ (ws.length : Int) > 256 by omega), if_neg c, mostOf]
      have := ref_rest_l1 xs ws hx he (by omega) (m + 1).toNat (by omega) (m + 1).toNat 0 [] (by omega) rfl
      rw [Int.toNat_of_nonneg (by omega), show m + 1 - 1 = m by omega] at this
      exact this
  | succ d ih =>
    intro i m hi hm hm'
    rw [drop_cons ws i (by omega), List.all_cons, ← rd43_get ws i (by omega)]
    refine Ev.step (fun k => by rw [cutroomref20_Restore.l0]) ?_
    simp only [if_pos (show (i : Int) < (ws.length : Int) by omega), if_pos (show (0 : Int) ≤ (i : Int) by omega)]
    by_cases c : nmB (rd_T43 ws (i : Int)) = true
    · have c' := c
      unfold nmB at c'
      rw [Bool.and_eq_true] at c'
      obtain ⟨b1, b2⟩ := of_decide_eq_true c'.1
      obtain ⟨b3, b4⟩ := of_decide_eq_true c'.2
      simp only [if_neg (show ¬ (rd_T43 ws (i : Int)).f0 < 0 by omega), if_neg (show ¬ (rd_T43 ws (i : Int)).f0 ≥ 256 by omega), if_neg (show ¬ (rd_T43 ws (i : Int)).f1 < 0 by omega), if_neg (show ¬ (rd_T43 ws (i : Int)).f1 ≥ 256 by omega), c, Bool.true_and, mostOf]
      rw [m64 (x := (i : Int) + 1) (by omega) (by omega)]
      exact ih (i + 1) _ (by omega) (by unfold mx; omega) (by unfold mx; omega)
    · have c0 : nmB (rd_T43 ws (i : Int)) = false := Bool.eq_false_iff.2 c
      have hn : ¬ ((0 ≤ (rd_T43 ws (i : Int)).f0 ∧ (rd_T43 ws (i : Int)).f0 < 256) ∧ (0 ≤ (rd_T43 ws (i : Int)).f1 ∧ (rd_T43 ws (i : Int)).f1 < 256)) := fun h => c (by unfold nmB; rw [decide_eq_true h.1, decide_eq_true h.2]; rfl)
      simp only [c0, Bool.false_and, Bool.false_eq_true, if_false]
      by_cases d1 : (rd_T43 ws (i : Int)).f0 < 0
      · simp only [if_pos d1]; exact Ev.now _
      · simp only [if_neg d1]
        by_cases d2 : (rd_T43 ws (i : Int)).f0 ≥ 256
        · simp only [if_pos d2]; exact Ev.now _
        · simp only [if_neg d2]
          by_cases d3 : (rd_T43 ws (i : Int)).f1 < 0
          · simp only [if_pos d3]; exact Ev.now _
          · simp only [if_neg d3]
            simp only [if_pos (show (rd_T43 ws (i : Int)).f1 ≥ 256 by omega)]
            exact Ev.now _
theorem ref_rest_ev (xs : List S52) (ws : List S43) (hx : xs.length ≤ 4611686018427387904) (hl : ws.length ≤ 4611686018427387904) : Ev (fun k => cutroomref20_Restore.f k xs ws) (restR xs ws) := by
  unfold cutroomref20_Restore.f restR
  by_cases c0 : xs.length = ws.length
  · simp only [if_pos (show (xs.length : Int) = (ws.length : Int) by omega)]
    refine Ev.bind (ref_alike_ev xs hx) ?_
    refine Ev.step (fun k => by rw [cutroomref20_Restore.j0]) ?_
    by_cases c : alikeB xs = true
    · rw [if_pos ⟨c0, c⟩]
      simp only [c, Bool.not_true, Bool.false_eq_true, if_false]
      have := ref_rest_l0 xs ws c c0 hl ws.length 0 (-1) (by omega) (by omega) (by omega)
      rwa [List.drop_zero] at this
    · rw [if_neg (fun h => c h.2)]
      simp only [Bool.eq_false_iff.2 c, Bool.not_false, if_true]
      exact Ev.now _
  · simp only [if_neg (show ¬ (xs.length : Int) = (ws.length : Int) by omega)]
    rw [if_neg (fun h => c0 h.1)]
    refine Ev.step (fun k => by rw [cutroomref20_Restore.j0]) ?_
    simp only [if_true]
    exact Ev.now _
theorem mostOf_rng : ∀ (ws : List S43) (m : Int), -1 ≤ m → m < 256 → ws.all nmB = true → -1 ≤ mostOf ws m ∧ mostOf ws m < 256
  | [], m, h0, h1, _ => ⟨h0, h1⟩
  | w :: r, m, h0, h1, h => by
    rw [List.all_cons, Bool.and_eq_true] at h
    have c := h.1
    unfold nmB at c
    rw [Bool.and_eq_true] at c
    have b1 := of_decide_eq_true c.1
    have b2 := of_decide_eq_true c.2
    unfold mostOf
    exact mostOf_rng r _ (by unfold mx; omega) (by unfold mx; omega) h.2
theorem restG_len (xs : List S52) (ws : List S43) : ∀ (d : Nat) (k : Int) (acc : List S52), (restG xs ws d k acc).1.length ≤ acc.length + d
  | 0, k, acc => by simp [restG]
  | d + 1, k, acc => by
    unfold restG
    split
    · simp
    · split
      · simp
      · have := restG_len xs ws d (k + 1) (acc ++ [wvF (rd_T52 xs (fst0 (fun w => decide (w.f0 = k)) ws 0)) (rd_T52 xs (fst0 (fun w => decide (w.f1 = k)) ws 0))])
        rw [List.length_append, List.length_singleton] at this
        omega
theorem restR_len (xs : List S52) (ws : List S43) : (restR xs ws).1.length ≤ 256 := by
  unfold restR
  split
  · split
    · rename_i _ h
      split
      · simp
      · have := restG_len xs ws (mostOf ws (-1) + 1).toNat 0 []
        have := mostOf_rng ws (-1) (by omega) (by omega) h
        simp only [List.length_nil] at *
        omega
    · simp
  · simp
end Go.Proofs.Ytcofjbbflcnaaaa.P
