/- Which packets and which defects any bytes contain. No condition of its own. -/
import Derived.Test.YtdndhbfagoghfaaPx6
import Derived.Test.YtdndhbfagoghfaaPx41
import Derived.Test.YtdndhbfagoghfaaPx40
import Derived.Test.YtdndhbfagoghfaaPx22
import Derived.Test.YtdndhbfagoghfaaTrU
import Derived.Test.YtdndhbfagoghfaaTrW
namespace Go.Proofs.Ytdndhbfagoghfaa.Pure
open Go.RowKit Go.Proofs.Ytdndhbfagoghfaa.P Go.Proofs.YtdndhbfagoghfaaW.PrintWords Go.Proofs.YtdndhbfagoghfaaW.PrintLast
set_option linter.unusedVariables false
set_option linter.unusedSimpArgs false

theorem wfu8 {x : Int} (h : (Lit.int .u8 x).wf = true) : 0 ≤ x ∧ x ≤ 255 := by
  simp [Lit.wf, IntKind.min, IntKind.max, IntKind.signed, IntKind.bits] at h
  omega
def cv (s : S24) : S28 := ⟨s.f0, s.f1, s.f2, s.f3, s.f4⟩
def cd (s : S51) : S50 := ⟨s.f0, s.f1⟩

theorem sub_take (b : List Int) (j : Nat) (h : j + 188 ≤ b.length) : (((b.take (j + 188)).drop j).length : Int) = 188 ∧ rd ((b.take (j + 188)).drop j) 0 = rd b (j : Int) := by
  have hl : ((b.take (j + 188)).drop j).length = 188 := by rw [List.length_drop, List.length_take]; omega
  refine ⟨by rw [hl]; rfl, ?_⟩
  have e : rd b (j : Int) = b[j] := by simp [rd, List.getD, show j < b.length by omega]
  rw [e]
  show ((b.take (j + 188)).drop j).getD 0 0 = b[j]
  rw [List.getD_eq_getElem?_getD, List.getElem?_drop, List.getElem?_take]
  simp [show j < b.length by omega]

theorem begins_same (b : List Int) (hb : By b) (hl : b.length ≤ 3000) (j : Nat) (hj : j < b.length) :
    Ev (fun k => transport_begins.f k b (j : Int)) (0, 0, false, 0, [], false) ∧ Ev (fun k => cutroomref17_begins.f k b (j : Int)) (0, 0, false, 0, [], false) ∨
      ∃ s : Pk, Ev (fun k => transport_begins.f k b (j : Int)) (s.a0, s.a1, s.a2, s.a3, s.l, true) ∧ Ev (fun k => cutroomref17_begins.f k b (j : Int)) (s.a0, s.a1, s.a2, s.a3, s.l, true) := by
  have w : wrap64 ((j : Int) + 188) = ((j + 188 : Nat) : Int) := by rw [w64 (by omega) (by omega)]; omega
  unfold transport_begins.f cutroomref17_begins.f
  simp only [w, if_pos (show (0 : Int) ≤ (j : Int) by omega), if_pos (show (j : Int) < (b.length : Int) by omega), Int.toNat_natCast]
  by_cases c1 : j + 188 ≤ b.length
  · have st := sub_take b j c1
    have hsub : By ((b.take (j + 188)).drop j) := by_drop (by_take hb _) _
    simp only [if_neg (show ¬ ((j + 188 : Nat) : Int) > (b.length : Int) by omega), if_pos (show (0 : Int) ≤ ((j + 188 : Nat) : Int) by omega), if_pos (show (j : Int) ≤ ((j + 188 : Nat) : Int) by omega), if_pos (show ((j + 188 : Nat) : Int) ≤ (b.length : Int) by omega)]
    generalize (b.take (j + 188)).drop j = z at *
    by_cases c2 : ((j + 188 : Nat) : Int) < (b.length : Int) ∧ ¬ rd b ((j + 188 : Nat) : Int) = 71
    · left
      simp only [if_pos c2.1, if_neg c2.2]
      by_cases c3 : rd b (j : Int) = 71
      · simp only [if_pos c3]; exact ⟨Ev.now _, Ev.now _⟩
      · simp only [if_neg c3]; exact ⟨Ev.now _, Ev.now _⟩
    · rcases takes_same z st.1 hsub with ⟨s, hs, e1, e2⟩ | ⟨e1, e2⟩
      · right
        have h71 : rd b (j : Int) = 71 := by
          rw [← st.2, ← hs.2, pkt_cons]
          rfl
        refine ⟨s, ?_, ?_⟩
        · simp only [if_pos h71]
          by_cases c4 : ((j + 188 : Nat) : Int) < (b.length : Int)
          · have c5 : rd b ((j + 188 : Nat) : Int) = 71 := by
              by_cases e : rd b ((j + 188 : Nat) : Int) = 71
              · exact e
              · exact absurd ⟨c4, e⟩ c2
            simp only [if_pos c4, if_pos c5]
            exact Ev.bind e1 (Ev.now _)
          · simp only [if_neg c4]
            exact Ev.bind e1 (Ev.now _)
        · by_cases c4 : ((j + 188 : Nat) : Int) < (b.length : Int)
          · have c5 : rd b ((j + 188 : Nat) : Int) = 71 := by
              by_cases e : rd b ((j + 188 : Nat) : Int) = 71
              · exact e
              · exact absurd ⟨c4, e⟩ c2
            simp only [if_pos c4, if_pos c5]
            exact Ev.bind e2 (Ev.now _)
          · simp only [if_neg c4]
            exact Ev.bind e2 (Ev.now _)
      · left
        refine ⟨?_, ?_⟩
        · by_cases c3 : rd b (j : Int) = 71
          · simp only [if_pos c3]
            by_cases c4 : ((j + 188 : Nat) : Int) < (b.length : Int)
            · simp only [if_pos c4]
              by_cases c5 : rd b ((j + 188 : Nat) : Int) = 71
              · simp only [if_pos c5]
                exact Ev.bind e1 (Ev.now _)
              · simp only [if_neg c5]
                exact Ev.now _
            · simp only [if_neg c4]
              exact Ev.bind e1 (Ev.now _)
          · simp only [if_neg c3]
            exact Ev.now _
        · by_cases c4 : ((j + 188 : Nat) : Int) < (b.length : Int)
          · simp only [if_pos c4]
            by_cases c5 : rd b ((j + 188 : Nat) : Int) = 71
            · simp only [if_pos c5]
              exact Ev.bind e2 (Ev.now _)
            · simp only [if_neg c5]
              exact Ev.now _
          · simp only [if_neg c4]
            exact Ev.bind e2 (Ev.now _)
  · left
    simp only [if_pos (show ((j + 188 : Nat) : Int) > (b.length : Int) by omega)]
    by_cases c3 : rd b (j : Int) = 71
    · simp only [if_pos c3]; exact ⟨Ev.now _, Ev.now _⟩
    · simp only [if_neg c3]; exact ⟨Ev.now _, Ev.now _⟩

theorem scan_same (b : List Int) (hb : By b) (hl : b.length ≤ 3000) : ∀ (d j f : Nat) (acc : List S24) (bd : List S51), b.length - j ≤ d → j ≤ b.length + 188 → acc.length ≤ j → bd.length ≤ j → f ≤ j →
    ∃ (r : List S24) (w : List S51), r.length ≤ 4000 ∧ w.length ≤ 4000 ∧ Ev (fun k => transport_Scan.l0 k b (acc.map cv) (bd.map cd) (f : Int) (j : Int)) (r.map cv, w.map cd) ∧ Ev (fun k => cutroomref17_Scan.l0 k b acc bd (f : Int) (j : Int)) (r, w) := by
  intro d
  induction d using Nat.strongRecOn with
  | _ d ih =>
  intro j f acc bd hd hjl ha hbd hf
  by_cases c : j < b.length
  · rcases begins_same b hb hl j c with ⟨e1, e2⟩ | ⟨s, e1, e2⟩
    · obtain ⟨r, w, l1, l2, g1, g2⟩ := ih (b.length - (j + 1)) (by omega) (j + 1) f acc bd (Nat.le_refl _) (by omega) (by omega) (by omega) (by omega)
      refine ⟨r, w, l1, l2, ?_, ?_⟩
      · refine Ev.step (fun k => by rw [transport_Scan.l0]) ?_
        simp only [if_pos (show (j : Int) < (b.length : Int) by omega)]
        refine Ev.bind e1 ?_
        simp only [Bool.false_eq_true, if_false]
        rw [w64 (by omega) (by omega)]
        exact g1
      · refine Ev.step (fun k => by rw [cutroomref17_Scan.l0]) ?_
        simp only [if_pos (show (j : Int) < (b.length : Int) by omega)]
        refine Ev.bind e2 ?_
        simp only [Bool.false_eq_true, if_false]
        rw [w64 (by omega) (by omega)]
        exact g2
    · have w1 : wrap64 ((j : Int) + 188) = ((j + 188 : Nat) : Int) := by rw [w64 (by omega) (by omega)]; omega
      by_cases c2 : f < j
      · obtain ⟨r, w, l1, l2, g1, g2⟩ := ih (b.length - (j + 188)) (by omega) (j + 188) (j + 188) (acc ++ [⟨s.a0, s.a1, s.a2, s.a3, s.l⟩]) (bd ++ [⟨(f : Int), (j : Int)⟩]) (Nat.le_refl _) (by omega) (by rw [List.length_append]; show acc.length + 1 ≤ _; omega) (by rw [List.length_append]; show bd.length + 1 ≤ _; omega) (Nat.le_refl _)
        refine ⟨r, w, l1, l2, ?_, ?_⟩
        · refine Ev.step (fun k => by rw [transport_Scan.l0]) ?_
          simp only [if_pos (show (j : Int) < (b.length : Int) by omega)]
          refine Ev.bind e1 ?_
          simp only [if_true, if_pos (show (f : Int) < (j : Int) by omega), List.length_map, if_pos (show bd.length < 8796093022208 by omega), if_pos (show acc.length < 2513169434916 by omega), w1]
          rw [List.map_append, List.map_append] at g1
          exact g1
        · refine Ev.step (fun k => by rw [cutroomref17_Scan.l0]) ?_
          simp only [if_pos (show (j : Int) < (b.length : Int) by omega)]
          refine Ev.bind e2 ?_
          simp only [if_true, if_pos (show (j : Int) > (f : Int) by omega), if_pos (show bd.length < 8796093022208 by omega), if_pos (show acc.length < 2513169434916 by omega), w1]
          exact g2
      · obtain ⟨r, w, l1, l2, g1, g2⟩ := ih (b.length - (j + 188)) (by omega) (j + 188) (j + 188) (acc ++ [⟨s.a0, s.a1, s.a2, s.a3, s.l⟩]) bd (Nat.le_refl _) (by omega) (by rw [List.length_append]; show acc.length + 1 ≤ _; omega) (by omega) (Nat.le_refl _)
        refine ⟨r, w, l1, l2, ?_, ?_⟩
        · refine Ev.step (fun k => by rw [transport_Scan.l0]) ?_
          simp only [if_pos (show (j : Int) < (b.length : Int) by omega)]
          refine Ev.bind e1 ?_
          simp only [if_true, if_neg (show ¬ (f : Int) < (j : Int) by omega), List.length_map, if_pos (show acc.length < 2513169434916 by omega), w1]
          rw [List.map_append] at g1
          exact g1
        · refine Ev.step (fun k => by rw [cutroomref17_Scan.l0]) ?_
          simp only [if_pos (show (j : Int) < (b.length : Int) by omega)]
          refine Ev.bind e2 ?_
          simp only [if_true, if_neg (show ¬ (j : Int) > (f : Int) by omega), if_pos (show acc.length < 2513169434916 by omega), w1]
          exact g2
  · by_cases c2 : f < b.length
    · refine ⟨acc, bd ++ [⟨(f : Int), (b.length : Int)⟩], by omega, by rw [List.length_append]; show bd.length + 1 ≤ _; omega, ?_, ?_⟩
      · refine Ev.step (fun k => by rw [transport_Scan.l0]) ?_
        simp only [if_neg (show ¬ (j : Int) < (b.length : Int) by omega), if_pos (show (f : Int) < (b.length : Int) by omega), List.length_map, if_pos (show bd.length < 8796093022208 by omega), List.map_append]
        exact Ev.now _
      · refine Ev.step (fun k => by rw [cutroomref17_Scan.l0]) ?_
        simp only [if_neg (show ¬ (j : Int) < (b.length : Int) by omega), if_pos (show (f : Int) < (b.length : Int) by omega), if_pos (show bd.length < 8796093022208 by omega)]
        exact Ev.now _
    · refine ⟨acc, bd, by omega, by omega, ?_, ?_⟩
      · refine Ev.step (fun k => by rw [transport_Scan.l0]) ?_
        simp only [if_neg (show ¬ (j : Int) < (b.length : Int) by omega), if_neg (show ¬ (f : Int) < (b.length : Int) by omega)]
        exact Ev.now _
      · refine Ev.step (fun k => by rw [cutroomref17_Scan.l0]) ?_
        simp only [if_neg (show ¬ (j : Int) < (b.length : Int) by omega), if_neg (show ¬ (f : Int) < (b.length : Int) by omega)]
        exact Ev.now _

theorem rdA {l : List S24} {i : Nat} (h : i < l.length) : rd_T24 l (i : Int) = l[i] := by simp [rd_T24, List.getD, h]
theorem rdB {l : List S24} {i : Nat} (h : i < l.length) : rd_T28 (l.map cv) (i : Int) = cv l[i] := by simp [rd_T28, List.getD, h]
theorem rdC {l : List S51} {i : Nat} (h : i < l.length) : rd_T51 l (i : Int) = l[i] := by simp [rd_T51, List.getD, h]
theorem rdD {l : List S51} {i : Nat} (h : i < l.length) : rd_T50 (l.map cd) (i : Int) = cd l[i] := by simp [rd_T50, List.getD, h]
theorem same_f (a0 a1 : Int) (a2 : Bool) (a3 : Int) (l : List Int) : cutroomlaw17_same.f a0 a1 a2 a3 l a0 a1 a2 a3 l = some true := by
  unfold cutroomlaw17_same.f
  simp only [if_true, beq_self_eq_true, same_bytes, Option.bind_some]
theorem all_l0 (l : List S24) (hl : l.length ≤ 4000) : ∀ (m i : Nat), i + m = l.length → Ev (fun k => cutroomlaw17_sameAll.l0 k (l.map cv) l (i : Int)) true := by
  intro m
  induction m with
  | zero =>
    intro i hi
    refine Ev.step (fun k => by rw [cutroomlaw17_sameAll.l0]) ?_
    simp only [List.length_map, if_neg (show ¬ ((i : Nat) : Int) < (l.length : Int) by omega)]
    exact Ev.now _
  | succ m ih =>
    intro i hi
    have hlt : i < l.length := by omega
    refine Ev.step (fun k => by rw [cutroomlaw17_sameAll.l0]) ?_
    simp only [List.length_map, if_pos (show ((i : Nat) : Int) < (l.length : Int) by omega), if_pos (show (0 : Int) ≤ (i : Int) by omega), rdB hlt, rdA hlt, cv, same_f, Option.bind_some, if_true]
    rw [w64 (by omega) (by omega)]
    exact ih (i + 1) (by omega)
theorem all_ev (l : List S24) (hl : l.length ≤ 4000) : Ev (fun k => cutroomlaw17_sameAll.f k (l.map cv) l) true := by
  unfold cutroomlaw17_sameAll.f
  simp only [List.length_map, if_true]
  exact all_l0 l hl l.length 0 (by omega)
theorem def_l0 (w : List S51) (hl : w.length ≤ 4000) : ∀ (m i : Nat), i + m = w.length → Ev (fun k => cutroomlaw17_TransportScans.l0 k (w.map cd) w (i : Int)) true := by
  intro m
  induction m with
  | zero =>
    intro i hi
    refine Ev.step (fun k => by rw [cutroomlaw17_TransportScans.l0]) ?_
    simp only [List.length_map, if_neg (show ¬ ((i : Nat) : Int) < (w.length : Int) by omega)]
    exact Ev.bind awake_ev (Ev.now _)
  | succ m ih =>
    intro i hi
    have hlt : i < w.length := by omega
    refine Ev.step (fun k => by rw [cutroomlaw17_TransportScans.l0]) ?_
    simp only [List.length_map, if_pos (show ((i : Nat) : Int) < (w.length : Int) by omega), if_pos (show (0 : Int) ≤ (i : Int) by omega), rdD hlt, rdC hlt, cd, if_true]
    rw [w64 (by omega) (by omega)]
    exact ih (i + 1) (by omega)

theorem TransportScans : cutroomlaw17_TransportScans.Pure := by
  intro b h0 h1 h2
  refine Ev.rounds (g := fun k => cutroomlaw17_TransportScans.f k b) ?_
  have hb : By b := fun v hv => wfu8 (h2 v hv)
  unfold cutroomlaw17_TransportScans.f
  by_cases c : (b.length : Int) > 3000
  · simp only [if_pos c]
    exact Ev.now _
  · simp only [if_neg c]
    obtain ⟨r, w, l1, l2, g1, g2⟩ := scan_same b hb (by omega) b.length 0 0 [] [] (by omega) (by omega) (by simp) (by simp) (Nat.le_refl _)
    have e1 : Ev (fun k => transport_Scan.f k b) (r.map cv, w.map cd) := by unfold transport_Scan.f; exact g1
    have e2 : Ev (fun k => cutroomref17_Scan.f k b) (r, w) := by unfold cutroomref17_Scan.f; exact g2
    refine Ev.bind e1 ?_
    refine Ev.bind e2 ?_
    refine Ev.bind (all_ev r l1) ?_
    simp only [if_true, List.length_map, bne_self_eq_false]
    refine Ev.step (fun k => by rw [cutroomlaw17_TransportScans.j0]) ?_
    simp only [Bool.false_eq_true, if_false]
    exact def_l0 w l2 w.length 0 (by omega)

end Go.Proofs.Ytdndhbfagoghfaa.Pure
