/- A steady clock has no jitter, whatever the rate, the start and the packets that carry it. No condition of its own. -/
import Derived.Test.YtdndhbfagoghfaaPx11
import Derived.Test.YtdndhbfagoghfaaTrJ
namespace Go.Proofs.Ytdndhbfagoghfaa.Pure
open Go.RowKit Go.Proofs.Ytdndhbfagoghfaa.P Go.Proofs.YtdndhbfagoghfaaW.PrintWords Go.Proofs.YtdndhbfagoghfaaW.PrintLast
set_option linter.unusedVariables false

/-- What the packet at place j of a steady stream says. -/
def Clock (x r : Int) (j : Nat) (s : S28) : Prop := s.f0 = 7 ∧ (s.f3 = -1 ∨ ∃ a, AR (j : Int) r = (a, 0) ∧ 0 ≤ a ∧ a ≤ 2436480000000 ∧ s.f3 = (x + a % 2576980377600) % 2576980377600)
def Steady (x r : Int) (l : List S28) : Prop := ∀ (j : Nat) (h : j < l.length), Clock x r j l[j]

theorem steady_add {x r : Int} {l : List S28} {s : S28} (h : Steady x r l) (hs : Clock x r l.length s) : Steady x r (l ++ [s]) := by
  intro j hj
  rw [List.length_append, List.length_singleton] at hj
  by_cases c : j < l.length
  · rw [List.getElem_append_left c]; exact h j c
  · obtain rfl : j = l.length := by omega
    rw [List.getElem_append_right (Nat.le_refl _)]
    simpa using hs

theorem steady_jit (x r : Int) (x0 : 0 ≤ x) (x1 : x < 2576980377600) (r0 : 1 ≤ r) (r1 : r ≤ 1073741824) (l : List S28) (hl : l.length ≤ 60) (hs : Steady x r l) :
    ∀ (m i : Nat) (base : Int), i + m = l.length → (base = -1 ∨ base = x) → Ev (fun k => transport_Jitter.l0 k 7 r base 0 l (l.length : Int) (i : Int)) (0, 0) := by
  intro m
  induction m with
  | zero =>
    intro i base hi hb
    refine Ev.step (fun k => by rw [transport_Jitter.l0]) ?_
    simp only [if_neg (show ¬ ((i : Nat) : Int) < (l.length : Int) by omega)]
    exact Ev.now _
  | succ m ih =>
    intro i base hi hb
    have hlt : i < l.length := by omega
    have hil : ((i : Nat) : Int) < (l.length : Int) := by omega
    have hi0 : (0 : Int) ≤ (i : Int) := by omega
    have hw : wrap64 ((i : Int) + 1) = ((i + 1 : Nat) : Int) := by rw [w64 (by omega) (by omega)]; rfl
    have h28 : rd_T28 l (i : Int) = l[i] := by simp [rd_T28, List.getD, hlt]
    obtain ⟨c1, hc⟩ := hs i hlt
    generalize l[i] = s at h28 c1 hc
    refine Ev.step (fun k => by rw [transport_Jitter.l0]) ?_
    simp only [if_pos hil, if_pos hi0, h28, if_pos c1]
    rcases hc with c2 | ⟨a, ha, a0, a1, c2⟩
    · simp only [if_pos (show s.f3 < 0 by omega)]
      refine Ev.step (fun k => by rw [transport_Jitter.j2]) ?_
      simp only [if_true, hw]
      exact ih (i + 1) base (by omega) hb
    · simp only [if_neg (show ¬ s.f3 < 0 by omega), decide_eq_false (show ¬ s.f3 ≥ 2576980377600 by omega)]
      refine Ev.step (fun k => by rw [transport_Jitter.j2]) ?_
      simp only [Bool.false_eq_true, if_false]
      have eA : Ev (fun k => transport_Arrival.f k (i : Int) r) (a, 0) := by rw [← ha]; exact arrival_ev _ _ (by omega) (by omega)
      refine Ev.bind eA ?_
      simp only [if_true, within_f, Option.bind_some, hw]
      rw [w64 (x := s.f3 - a % 2576980377600) (by omega) (by omega), show (s.f3 - a % 2576980377600) % 2576980377600 = x by omega]
      have e1 : wrap64 (x - x) % 2576980377600 = 0 := by rw [w64 (by omega) (by omega)]; omega
      have e2 : mx 0 (mn 0 (wrap64 (2576980377600 - 0))) = 0 := by decide +kernel
      rcases hb with rfl | rfl
      · simp only [if_pos (show (-1 : Int) < 0 by decide), e1, e2]
        exact ih (i + 1) x (by omega) (Or.inr rfl)
      · simp only [if_neg (show ¬ base < 0 by omega), e1, e2]
        exact ih (i + 1) base (by omega) (Or.inr rfl)

theorem steady_l0 (x r : Int) (x0 : 0 ≤ x) (x1 : x < 2576980377600) (r0 : 1 ≤ r) (r1 : r ≤ 1073741824) (bs : List Bool) (hl : bs.length ≤ 60) :
    ∀ (m i : Nat) (l : List S28), i + m = bs.length → l.length = i → Steady x r l → Ev (fun k => cutroomlaw17_TransportSteady.l0 k x bs r l (i : Int)) true := by
  intro m
  induction m with
  | zero =>
    intro i l hi hli hs
    refine Ev.step (fun k => by rw [cutroomlaw17_TransportSteady.l0]) ?_
    simp only [if_neg (show ¬ ((i : Nat) : Int) < (bs.length : Int) by omega)]
    have hj : Ev (fun k => transport_Jitter.f k l 7 r) (0, 0) := by
      unfold transport_Jitter.f
      simp only [if_neg (show ¬ r < 1 by omega), decide_eq_false (show ¬ r > 1073741824 by omega)]
      refine Ev.step (fun k => by rw [transport_Jitter.j0]) ?_
      simp only [Bool.false_eq_true, if_false]
      exact steady_jit x r x0 x1 r0 r1 l (by omega) hs l.length 0 (-1) (by omega) (Or.inl rfl)
    refine Ev.bind hj ?_
    refine Ev.bind awake_ev ?_
    exact Ev.now _
  | succ m ih =>
    intro i l hi hli hs
    refine Ev.step (fun k => by rw [cutroomlaw17_TransportSteady.l0]) ?_
    have hw : wrap64 ((i : Int) + 1) = ((i + 1 : Nat) : Int) := by rw [w64 (by omega) (by omega)]; rfl
    obtain ⟨a, ha, a0, a1⟩ := AR_few (i : Int) r (by omega) (by omega) r0 r1
    have eA : Ev (fun k => transport_Arrival.f k (i : Int) r) (a, 0) := by rw [← ha]; exact arrival_ev _ _ (by omega) (by omega)
    simp only [if_pos (show ((i : Nat) : Int) < (bs.length : Int) by omega)]
    refine Ev.bind eA ?_
    simp only [if_true, Option.bind_some, if_pos (show (0 : Int) ≤ (i : Int) by omega), if_pos (show l.length < 2513169434916 by omega), hw]
    by_cases c : rdOf false bs (i : Int) = true
    · simp only [if_pos c]
      refine ih (i + 1) _ (by omega) (by simp [hli]) (steady_add hs ⟨rfl, Or.inr ⟨a, by rw [hli]; exact ha, a0, a1, ?_⟩⟩)
      show Int.tmod (wrap64 (x + Int.tmod a 2576980377600)) 2576980377600 = _
      rw [Int.tmod_eq_emod_of_nonneg a0, w64 (by omega) (by omega), Int.tmod_eq_emod_of_nonneg (by omega)]
    · simp only [if_neg c]
      exact ih (i + 1) _ (by omega) (by simp [hli]) (steady_add hs ⟨rfl, Or.inl rfl⟩)

theorem TransportSteady : cutroomlaw17_TransportSteady.Pure := by
  intro x bs r hx hb hr
  refine Ev.rounds (g := fun k => cutroomlaw17_TransportSteady.f k x bs r) ?_
  have out : Ev (fun k => cutroomlaw17_TransportSteady.j0 k x bs r true) true := by
    refine Ev.step (fun k => by rw [cutroomlaw17_TransportSteady.j0]) ?_
    simp only [if_true]
    exact Ev.bind awake_ev (Ev.now _)
  unfold cutroomlaw17_TransportSteady.f
  by_cases c0 : (bs.length : Int) > 60
  · simp only [if_pos c0]; exact out
  · simp only [if_neg c0]
    by_cases c1 : x < 0
    · simp only [if_pos c1]; exact out
    · simp only [if_neg c1]
      by_cases c2 : x ≥ 2576980377600
      · simp only [if_pos c2]; exact out
      · simp only [if_neg c2]
        by_cases c3 : r < 1
        · simp only [if_pos c3]; exact out
        · simp only [if_neg c3]
          by_cases c4 : r > 1073741824
          · simp only [decide_eq_true c4]; exact out
          · simp only [decide_eq_false c4]
            refine Ev.step (fun k => by rw [cutroomlaw17_TransportSteady.j0]) ?_
            simp only [Bool.false_eq_true, if_false]
            exact steady_l0 x r (by omega) (by omega) (by omega) (by omega) bs (by omega) bs.length 0 [] (by omega) rfl (fun j hj => absurd hj (Nat.not_lt_zero _))

end Go.Proofs.Ytdndhbfagoghfaa.Pure
