/- What the two Jitters come to: the same. No condition of its own. -/
import Derived.Test.YtdndhbfagoghfaaTrR
import Derived.Test.YtdndhbfagoghfaaPx48
import Derived.Test.YtdndhbfagoghfaaPx32
import Derived.Test.YtdndhbfagoghfaaPx31
namespace Go.Proofs.Ytdndhbfagoghfaa.P
open Go.RowKit Go.Proofs.YtdndhbfagoghfaaW.PrintWords Go.Proofs.YtdndhbfagoghfaaW.PrintLast Go.Proofs.YtdndhbfagoghfaaW.PrintMore
set_option linter.unusedVariables false

theorem tmod_cases (a : Int) : (0 ≤ a ∧ Int.tmod a 2576980377600 = a % 2576980377600) ∨ (a < 0 ∧ Int.tmod a 2576980377600 = -((-a) % 2576980377600)) := by
  rcases Int.lt_or_le a 0 with h | h
  · right
    obtain ⟨b, rfl⟩ : ∃ b, a = -b := ⟨-a, by omega⟩
    refine ⟨h, ?_⟩
    rw [Int.neg_tmod, Int.tmod_eq_emod_of_nonneg (a := b) (by omega), Int.neg_neg]
  · left
    exact ⟨h, Int.tmod_eq_emod_of_nonneg h⟩

def cv (s : S24) : S28 := ⟨s.f0, s.f1, s.f2, s.f3, s.f4⟩

theorem rd24 {l : List S24} {i : Nat} (h : i < l.length) : rd_T24 l (i : Int) = l[i] := by
  simp [rd_T24, List.getD, h]
theorem rd28 {l : List S24} {i : Nat} (h : i < l.length) : rd_T28 (l.map cv) (i : Int) = cv (rd_T24 l (i : Int)) := by
  simp [rd_T28, rd_T24, List.getD, h]

theorem all_l0 (l : List S24) (hl : l.length ≤ 60) : ∀ (m i : Nat), i + m = l.length → Ev (fun k => cutroomlaw17_all.l0 k l ((l.take i).map cv) (i : Int)) (l.map cv) := by
  intro m
  induction m with
  | zero =>
    intro i hi
    refine Ev.step (fun k => by rw [cutroomlaw17_all.l0]) ?_
    simp only [if_neg (show ¬ ((i : Nat) : Int) < (l.length : Int) by omega)]
    rw [List.take_of_length_le (by omega)]
    exact Ev.now _
  | succ m ih =>
    intro i hi
    refine Ev.step (fun k => by rw [cutroomlaw17_all.l0]) ?_
    have hlt : i < l.length := by omega
    have hlen : ((l.take i).map cv).length < 2513169434916 := by simp; omega
    simp only [if_pos (show ((i : Nat) : Int) < (l.length : Int) by omega), if_pos (show (0 : Int) ≤ (i : Int) by omega), cutroomlaw17_given.f, Option.bind_some, if_pos hlen]
    rw [w64 (by omega) (by omega), rd24 hlt]
    have := ih (i + 1) (by omega)
    rw [List.take_succ_eq_append_getElem hlt, List.map_append] at this
    exact this

theorem all_ev (l : List S24) (hl : l.length ≤ 60) : Ev (fun k => cutroomlaw17_all.f k l) (l.map cv) := by
  unfold cutroomlaw17_all.f
  exact all_l0 l hl l.length 0 (by omega)

/-- Where the two loops stand alike: the first clock that counts, by its offset and by its place. -/
def JRel (l : List S24) (r base first : Int) : Prop :=
  (base = -1 ∧ first = -1) ∨ ∃ (f : Nat) (a : Int), first = (f : Int) ∧ f < l.length ∧ AR (f : Int) r = (a, 0) ∧ 0 ≤ a ∧ a ≤ 2436480000000 ∧ 0 ≤ (rd_T24 l (f : Int)).f3 ∧ (rd_T24 l (f : Int)).f3 < 2576980377600 ∧ base = ((rd_T24 l (f : Int)).f3 - a % 2576980377600) % 2576980377600

theorem jit (l : List S24) (hl : l.length ≤ 60) (pid r : Int) (r0 : 1 ≤ r) (r1 : r ≤ 1073741824) : ∀ (m i : Nat) (base first worst : Int), i + m = l.length → JRel l r base first →
    ∃ v, Ev (fun k => transport_Jitter.l0 k pid r base worst (l.map cv) (l.length : Int) (i : Int)) v ∧ Ev (fun k => cutroomref17_Jitter.l0 k l pid r first worst (i : Int)) v := by
  intro m
  induction m with
  | zero =>
    intro i base first worst hi hr
    refine ⟨(worst, 0), Ev.step (fun k => by rw [transport_Jitter.l0]) ?_, Ev.step (fun k => by rw [cutroomref17_Jitter.l0]) ?_⟩
    · simp only [if_neg (show ¬ ((i : Nat) : Int) < (l.length : Int) by omega)]
      exact Ev.now _
    · simp only [if_neg (show ¬ ((i : Nat) : Int) < (l.length : Int) by omega)]
      exact Ev.now _
  | succ m ih =>
    intro i base first worst hi hr
    have hlt : i < l.length := by omega
    have hil : ((i : Nat) : Int) < (l.length : Int) := by omega
    have hil' : ((i : Nat) : Int) < ((l.map cv).length : Int) := by rw [List.length_map]; omega
    have hi0 : (0 : Int) ≤ (i : Int) := by omega
    have hw : wrap64 ((i : Int) + 1) = ((i + 1 : Nat) : Int) := by rw [w64 (by omega) (by omega)]; rfl
    generalize hs : rd_T24 l (i : Int) = s
    have h28 : rd_T28 (l.map cv) (i : Int) = cv s := by rw [rd28 hlt, hs]
    have skip : ∃ v, Ev (fun k => transport_Jitter.l0 k pid r base worst (l.map cv) (l.length : Int) ((i + 1 : Nat) : Int)) v ∧ Ev (fun k => cutroomref17_Jitter.l0 k l pid r first worst ((i + 1 : Nat) : Int)) v := ih (i + 1) base first worst (by omega) hr
    by_cases hc : s.f0 = pid ∧ 0 ≤ s.f3 ∧ s.f3 < 2576980377600
    · obtain ⟨c1, c2, c3⟩ := hc
      obtain ⟨a, ha, a0, a1⟩ := AR_few (i : Int) r hi0 (by omega) r0 r1
      have eA : Ev (fun k => transport_Arrival.f k (i : Int) r) (a, 0) := by rw [← ha]; exact arrival_ev _ _ (by omega) (by omega)
      have eB : Ev (fun k => cutroomref17_Arrival.f k (i : Int) r) (a, 0) := by rw [← ha]; exact ref_arrival_ev _ _ (by omega) (by omega)
      rcases hr with ⟨rfl, rfl⟩ | ⟨f, b, rfl, hf, hb, b0, b1, p0, p1, hbase⟩
      · -- the first clock
        obtain ⟨v, hv1, hv2⟩ := ih (i + 1) ((s.f3 - a % 2576980377600) % 2576980377600) (i : Int) (mx worst (mn 0 2576980377600)) (by omega) (Or.inr ⟨i, a, rfl, hlt, ha, a0, a1, by rw [hs]; exact c2, by rw [hs]; exact c3, by rw [hs]⟩)
        refine ⟨v, Ev.step (fun k => by rw [transport_Jitter.l0]) ?_, Ev.step (fun k => by rw [cutroomref17_Jitter.l0]) ?_⟩
        · simp only [if_pos hil, if_pos hil', if_pos hi0, h28, cv, if_pos c1, if_neg (show ¬ s.f3 < 0 by omega), decide_eq_false (show ¬ s.f3 ≥ 2576980377600 by omega)]
          refine Ev.step (fun k => by rw [transport_Jitter.j2]) ?_
          simp only [Bool.false_eq_true, if_false]
          refine Ev.bind eA ?_
          simp only [if_true, within_f, Option.bind_some, if_pos (show (-1 : Int) < 0 by decide), hw]
          rw [w64 (x := s.f3 - a % 2576980377600) (by omega) (by omega), Int.sub_self, show wrap64 0 = 0 by decide +kernel, show (0 : Int) % 2576980377600 = 0 by decide, show wrap64 (2576980377600 - 0) = 2576980377600 by decide +kernel]
          exact hv1
        · simp only [if_pos hil, if_pos hi0, hs, if_pos c1, if_neg (show ¬ s.f3 < 0 by omega), decide_eq_false (show ¬ s.f3 ≥ 2576980377600 by omega)]
          refine Ev.step (fun k => by rw [cutroomref17_Jitter.j2]) ?_
          simp only [Bool.false_eq_true, if_false, if_pos (show (-1 : Int) < 0 by decide)]
          refine Ev.step (fun k => by rw [cutroomref17_Jitter.j3]) ?_
          refine Ev.bind eB ?_
          refine Ev.bind eB ?_
          have e0 : (wrap64 (wrap64 0 - (wrap64 0).tmod 2576980377600)).tmod 2576980377600 = 0 := by decide +kernel
          simp only [if_pos hil, if_pos hi0, hs, Int.sub_self, hw, e0, if_neg (show ¬ (0 : Int) < 0 by decide)]
          rw [show wrap64 (2576980377600 - 0) = 2576980377600 by decide +kernel]
          exact hv2
      · -- a later one
        have eC : Ev (fun k => cutroomref17_Arrival.f k (f : Int) r) (b, 0) := by rw [← hb]; exact ref_arrival_ev _ _ (by omega) (by omega)
        generalize hq : (rd_T24 l (f : Int)).f3 = q at p0 p1 hbase
        have nb : ¬ base < 0 := by omega
        obtain ⟨D, hD⟩ : ∃ D, D = ((s.f3 - q) - (a - b)) % 2576980377600 := ⟨_, rfl⟩
        have hw2 : wrap64 (2576980377600 - D) = 2576980377600 - D := w64 (by omega) (by omega)
        obtain ⟨v, hv1, hv2⟩ := ih (i + 1) base (f : Int) (mx worst (mn D (2576980377600 - D))) (by omega) (Or.inr ⟨f, b, rfl, hf, hb, b0, b1, by rw [hq]; exact p0, by rw [hq]; exact p1, by rw [hq]; exact hbase⟩)
        refine ⟨v, Ev.step (fun k => by rw [transport_Jitter.l0]) ?_, Ev.step (fun k => by rw [cutroomref17_Jitter.l0]) ?_⟩
        · simp only [if_pos hil, if_pos hil', if_pos hi0, h28, cv, if_pos c1, if_neg (show ¬ s.f3 < 0 by omega), decide_eq_false (show ¬ s.f3 ≥ 2576980377600 by omega)]
          refine Ev.step (fun k => by rw [transport_Jitter.j2]) ?_
          simp only [Bool.false_eq_true, if_false]
          refine Ev.bind eA ?_
          simp only [if_true, within_f, Option.bind_some, if_neg nb, hw]
          rw [w64 (x := s.f3 - a % 2576980377600) (by omega) (by omega), w64 (x := (s.f3 - a % 2576980377600) % 2576980377600 - base) (by omega) (by omega)]
          rw [show ((s.f3 - a % 2576980377600) % 2576980377600 - base) % 2576980377600 = D by omega, hw2]
          exact hv1
        · simp only [if_pos hil, if_pos hi0, hs, if_pos c1, if_neg (show ¬ s.f3 < 0 by omega), decide_eq_false (show ¬ s.f3 ≥ 2576980377600 by omega)]
          refine Ev.step (fun k => by rw [cutroomref17_Jitter.j2]) ?_
          simp only [Bool.false_eq_true, if_false, if_neg (show ¬ ((f : Nat) : Int) < 0 by omega)]
          refine Ev.step (fun k => by rw [cutroomref17_Jitter.j3]) ?_
          refine Ev.bind eB ?_
          refine Ev.bind eC ?_
          simp only [if_pos hil, if_pos hi0, hs, hq, if_pos (show (0 : Int) ≤ (f : Int) by omega), if_pos (show ((f : Nat) : Int) < (l.length : Int) by omega), hw]
          rw [w64 (x := a - b) (by omega) (by omega), w64 (x := s.f3 - q) (by omega) (by omega)]
          obtain ⟨t1, ht1⟩ : ∃ t1, t1 = Int.tmod (a - b) 2576980377600 := ⟨_, rfl⟩
          have k1 := tmod_cases (a - b)
          rw [← ht1] at k1 ⊢
          rw [w64 (x := s.f3 - q - t1) (by omega) (by omega)]
          obtain ⟨t2, ht2⟩ : ∃ t2, t2 = Int.tmod (s.f3 - q - t1) 2576980377600 := ⟨_, rfl⟩
          have k2 := tmod_cases (s.f3 - q - t1)
          rw [← ht2] at k2 ⊢
          by_cases c4 : t2 < 0
          · simp only [if_pos c4]
            rw [w64 (x := t2 + 2576980377600) (by omega) (by omega), show t2 + 2576980377600 = D by omega, hw2]
            exact hv2
          · simp only [if_neg c4]
            rw [show t2 = D by omega, hw2]
            exact hv2
    · obtain ⟨v, hv1, hv2⟩ := skip
      refine ⟨v, Ev.step (fun k => by rw [transport_Jitter.l0]) ?_, Ev.step (fun k => by rw [cutroomref17_Jitter.l0]) ?_⟩
      · simp only [if_pos hil, if_pos hil', if_pos hi0, h28, cv]
        have fin : Ev (fun k => transport_Jitter.j2 k pid r base worst (i : Int) (l.map cv) (l.length : Int) (i : Int) true s.f0 s.f1 s.f2 s.f3 s.f4) v := by
          refine Ev.step (fun k => by rw [transport_Jitter.j2]) ?_
          simp only [if_true, hw]
          exact hv1
        by_cases c1 : s.f0 = pid
        · simp only [if_pos c1]
          by_cases c2 : s.f3 < 0
          · simp only [if_pos c2]; exact fin
          · simp only [if_neg c2]
            have c3 : s.f3 ≥ 2576980377600 := by
              apply Classical.byContradiction; intro h; exact hc ⟨c1, by omega, by omega⟩
            simp only [decide_eq_true c3]; exact fin
        · simp only [if_neg c1]; exact fin
      · simp only [if_pos hil, if_pos hi0, hs]
        have fin : Ev (fun k => cutroomref17_Jitter.j2 k l pid r first worst (i : Int) true) v := by
          refine Ev.step (fun k => by rw [cutroomref17_Jitter.j2]) ?_
          simp only [if_true, hw]
          exact hv2
        by_cases c1 : s.f0 = pid
        · simp only [if_pos c1]
          by_cases c2 : s.f3 < 0
          · simp only [if_pos c2]; exact fin
          · simp only [if_neg c2]
            have c3 : s.f3 ≥ 2576980377600 := by
              apply Classical.byContradiction; intro h; exact hc ⟨c1, by omega, by omega⟩
            simp only [decide_eq_true c3]; exact fin
        · simp only [if_neg c1]; exact fin

theorem jitter_ev (l : List S24) (hl : l.length ≤ 60) (pid r : Int) : ∃ v, Ev (fun k => transport_Jitter.f k (l.map cv) pid r) v ∧ Ev (fun k => cutroomref17_Jitter.f k l pid r) v := by
  have bad : ∃ v, Ev (fun k => transport_Jitter.j0 k (l.map cv) pid r true) v ∧ Ev (fun k => cutroomref17_Jitter.j0 k l pid r true) v := by
    refine ⟨(0, 1), Ev.step (fun k => by rw [transport_Jitter.j0]) ?_, Ev.step (fun k => by rw [cutroomref17_Jitter.j0]) ?_⟩
    · simp only [if_true]; exact Ev.now _
    · simp only [if_true]; exact Ev.now _
  unfold transport_Jitter.f cutroomref17_Jitter.f
  by_cases c1 : r < 1
  · simp only [if_pos c1]; exact bad
  · simp only [if_neg c1]
    by_cases c2 : r > 1073741824
    · simp only [decide_eq_true c2]; exact bad
    · simp only [decide_eq_false c2]
      obtain ⟨v, h1, h2⟩ := jit l hl pid r (by omega) (by omega) l.length 0 (-1) (-1) 0 (by omega) (Or.inl ⟨rfl, rfl⟩)
      refine ⟨v, Ev.step (fun k => by rw [transport_Jitter.j0]) ?_, Ev.step (fun k => by rw [cutroomref17_Jitter.j0]) ?_⟩
      · simp only [Bool.false_eq_true, if_false, List.length_map]; exact h1
      · simp only [Bool.false_eq_true, if_false]; exact h2

end Go.Proofs.Ytdndhbfagoghfaa.P
