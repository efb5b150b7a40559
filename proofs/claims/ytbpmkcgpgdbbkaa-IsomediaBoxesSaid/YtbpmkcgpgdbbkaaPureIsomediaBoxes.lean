/- The boxes of any bytes are the reference's. No condition of its own. -/
import Derived.Test.YtbpmkcgpgdbbkaaPx4
import Derived.Test.YtbpmkcgpgdbbkaaPx30
import Derived.Test.YtbpmkcgpgdbbkaaIsA
namespace Go.Proofs.Ytbpmkcgpgdbbkaa.Pure
open Go.RowKit Go.Proofs.Ytbpmkcgpgdbbkaa.P Go.Proofs.YtbpmkcgpgdbbkaaW.PrintWords Go.Proofs.YtbpmkcgpgdbbkaaW.PrintLast
set_option linter.unusedVariables false
set_option linter.unusedSimpArgs false

def to32 (s : S31) : S32 := ⟨s.f0, s.f1, s.f2, s.f3⟩
theorem rd31 {x : List S31} {i : Nat} (h : i < x.length) : rd_T31 x (i : Int) = x[i] := by simp [rd_T31, List.getD, h]
theorem rd32 {x : List S32} {i : Nat} (h : i < x.length) : rd_T32 x (i : Int) = x[i] := by simp [rd_T32, List.getD, h]

/-- four bytes -/
theorem numbers (l : List Int) (i : Nat) (h : i + 8 ≤ l.length) (hl : l.length ≤ 1000) : ∃ t, isomedia_number.f (l.drop ((i : Nat) : Int).toNat) = some t ∧ cutroomref18_number.f l (i : Int) = some t := by
  have hd : (l.drop i).length = l.length - i := List.length_drop
  have e0 : rd (l.drop i) 0 = rd l (i : Int) := by rw [show (0 : Int) = ((0 : Nat) : Int) from rfl, rdI (by omega), rdI (by omega)]; simp
  have e1 : rd (l.drop i) 1 = rd l ((i : Int) + 1) := by rw [show (1 : Int) = ((1 : Nat) : Int) from rfl, show (i : Int) + ((1 : Nat) : Int) = ((i + 1 : Nat) : Int) by omega, rdI (by omega), rdI (by omega)]; simp
  have e2 : rd (l.drop i) 2 = rd l ((i : Int) + 2) := by rw [show (2 : Int) = ((2 : Nat) : Int) from rfl, show (i : Int) + ((2 : Nat) : Int) = ((i + 2 : Nat) : Int) by omega, rdI (by omega), rdI (by omega)]; simp
  have e3 : rd (l.drop i) 3 = rd l ((i : Int) + 3) := by rw [show (3 : Int) = ((3 : Nat) : Int) from rfl, show (i : Int) + ((3 : Nat) : Int) = ((i + 3 : Nat) : Int) by omega, rdI (by omega), rdI (by omega)]; simp
  unfold isomedia_number.f cutroomref18_number.f
  rw [w64 (x := (i : Int) + 1) (by omega) (by omega), w64 (x := (i : Int) + 2) (by omega) (by omega), w64 (x := (i : Int) + 3) (by omega) (by omega), Int.toNat_natCast, e0, e1, e2, e3]
  rw [if_pos (show (0 : Int) < ((l.drop i).length : Int) by omega), if_pos (show (1 : Int) < ((l.drop i).length : Int) by omega), if_pos (show (2 : Int) < ((l.drop i).length : Int) by omega), if_pos (show (3 : Int) < ((l.drop i).length : Int) by omega)]
  rw [if_pos (show (0 : Int) ≤ (i : Int) by omega), if_pos (show (i : Int) < (l.length : Int) by omega), if_pos (show (0 : Int) ≤ (i : Int) + 1 by omega), if_pos (show (i : Int) + 1 < (l.length : Int) by omega), if_pos (show (0 : Int) ≤ (i : Int) + 2 by omega), if_pos (show (i : Int) + 2 < (l.length : Int) by omega), if_pos (show (0 : Int) ≤ (i : Int) + 3 by omega), if_pos (show (i : Int) + 3 < (l.length : Int) by omega)]
  exact ⟨_, rfl, rfl⟩

set_option maxHeartbeats 2000000 in
theorem boxes_l0 (l : List Int) (hl : l.length ≤ 1000) (b : Nat) (hb : b ≤ l.length) : ∀ (n a : Nat) (acc : List S31), b - a ≤ n → a ≤ b → acc.length ≤ a →
    ∃ r : List S31 × Int, Ev (fun k => isomedia_Boxes.l0 k l (a : Int) (b : Int) acc) r ∧ Ev (fun k => cutroomref18_Boxes.l0 k l (b : Int) (acc.map to32) (a : Int)) (r.1.map to32, r.2) ∧ r.1.length ≤ 1000 := by
  intro n
  induction n with
  | zero =>
    intro a acc hn hab hacc
    refine ⟨(acc, 0), Ev.step (fun k => by rw [isomedia_Boxes.l0]) ?_, Ev.step (fun k => by rw [cutroomref18_Boxes.l0]) ?_, by show acc.length ≤ 1000; omega⟩
    · simp only [if_neg (show ¬ (a : Int) < (b : Int) by omega)]; exact Ev.now _
    · simp only [if_neg (show ¬ (a : Int) < (b : Int) by omega)]; exact Ev.now _
  | succ n ih =>
    intro a acc hn hab hacc
    by_cases c0 : a < b
    · have ew : Aside0 (wrap64 ((b : Int) - (a : Int)) = (b : Int) - (a : Int)) := ⟨w64 (by omega) (by omega)⟩
      by_cases c1 : b - a < 8
      · refine ⟨([], 4), Ev.step (fun k => by rw [isomedia_Boxes.l0]) ?_, Ev.step (fun k => by rw [cutroomref18_Boxes.l0]) ?_, by show (0 : Nat) ≤ 1000; omega⟩
        · simp only [if_pos (show (a : Int) < (b : Int) by omega), ew.out, if_pos (show (b : Int) - (a : Int) < 8 by omega)]; exact Ev.now _
        · simp only [if_pos (show (a : Int) < (b : Int) by omega), ew.out, if_pos (show (b : Int) - (a : Int) < 8 by omega)]; exact Ev.now _
      · obtain ⟨t, t1, t2⟩ := numbers l a (by omega) hl
        have T1 := Aside0.mk t1
        have T2 := Aside0.mk t2
        clear t1 t2
        by_cases c2 : t < 8
        · refine ⟨([], 3), Ev.step (fun k => by rw [isomedia_Boxes.l0]) ?_, Ev.step (fun k => by rw [cutroomref18_Boxes.l0]) ?_, by show (0 : Nat) ≤ 1000; omega⟩
          · simp only [if_pos (show (a : Int) < (b : Int) by omega), ew.out, if_neg (show ¬ (b : Int) - (a : Int) < 8 by omega), if_pos (show (0 : Int) ≤ (a : Int) by omega), if_pos (show (a : Int) ≤ (l.length : Int) by omega), T1.out, Option.bind_some, if_pos c2]; exact Ev.now _
          · simp only [if_pos (show (a : Int) < (b : Int) by omega), ew.out, if_neg (show ¬ (b : Int) - (a : Int) < 8 by omega), T2.out, Option.bind_some, if_pos c2]; exact Ev.now _
        · by_cases c3 : t > (b : Int) - (a : Int)
          · refine ⟨([], 4), Ev.step (fun k => by rw [isomedia_Boxes.l0]) ?_, Ev.step (fun k => by rw [cutroomref18_Boxes.l0]) ?_, by show (0 : Nat) ≤ 1000; omega⟩
            · simp only [if_pos (show (a : Int) < (b : Int) by omega), ew.out, if_neg (show ¬ (b : Int) - (a : Int) < 8 by omega), if_pos (show (0 : Int) ≤ (a : Int) by omega), if_pos (show (a : Int) ≤ (l.length : Int) by omega), T1.out, Option.bind_some, if_neg c2, if_pos c3]; exact Ev.now _
            · simp only [if_pos (show (a : Int) < (b : Int) by omega), ew.out, if_neg (show ¬ (b : Int) - (a : Int) < 8 by omega), T2.out, Option.bind_some, if_neg c2, if_pos c3]; exact Ev.now _
          · obtain ⟨u, rfl⟩ : ∃ u : Nat, t = (u : Int) := ⟨t.toNat, by omega⟩
            have e4 : Aside0 (wrap64 ((a : Int) + 4) = (a : Int) + 4) := ⟨w64 (by omega) (by omega)⟩
            have e8 : Aside0 (wrap64 ((a : Int) + 8) = (a : Int) + 8) := ⟨w64 (by omega) (by omega)⟩
            have eu : Aside0 (wrap64 ((a : Int) + (u : Int)) = ((a + u : Nat) : Int)) := ⟨by rw [w64 (by omega) (by omega)]; omega⟩
            obtain ⟨s, hs⟩ : ∃ s, strOfNums ((l.take ((a : Int) + 8).toNat).drop ((a : Int) + 4).toNat) = s := ⟨_, rfl⟩
            obtain ⟨r, r1, r2, r3⟩ := ih (a + u) (acc ++ [⟨s, (a : Int), (a : Int) + 8, ((a + u : Nat) : Int)⟩]) (by omega) (by omega) (by rw [List.length_append]; show acc.length + 1 ≤ a + u; omega)
            refine ⟨r, Ev.step (fun k => by rw [isomedia_Boxes.l0]) ?_, Ev.step (fun k => by rw [cutroomref18_Boxes.l0]) ?_, r3⟩
            · simp only [if_pos (show (a : Int) < (b : Int) by omega), ew.out, if_neg (show ¬ (b : Int) - (a : Int) < 8 by omega), if_pos (show (0 : Int) ≤ (a : Int) by omega), if_pos (show (a : Int) ≤ (l.length : Int) by omega), T1.out, Option.bind_some, if_neg c2, if_neg c3, e4.out, e8.out, eu.out, hs, if_pos (show (0 : Int) ≤ (a : Int) + 4 by omega), if_pos (show (a : Int) + 4 ≤ (a : Int) + 8 by omega), if_pos (show (a : Int) + 8 ≤ (l.length : Int) by omega), if_pos (show acc.length < 3518437208883 by omega)]
              exact r1
            · rw [List.map_append] at r2
              simp only [if_pos (show (a : Int) < (b : Int) by omega), ew.out, if_neg (show ¬ (b : Int) - (a : Int) < 8 by omega), T2.out, Option.bind_some, if_neg c2, if_neg c3, e4.out, e8.out, eu.out, hs, if_pos (show (0 : Int) ≤ (a : Int) + 4 by omega), if_pos (show (a : Int) + 4 ≤ (a : Int) + 8 by omega), if_pos (show (a : Int) + 8 ≤ (l.length : Int) by omega), List.length_map, if_pos (show acc.length < 3518437208883 by omega)]
              exact r2
    · refine ⟨(acc, 0), Ev.step (fun k => by rw [isomedia_Boxes.l0]) ?_, Ev.step (fun k => by rw [cutroomref18_Boxes.l0]) ?_, by show acc.length ≤ 1000; omega⟩
      · simp only [if_neg (show ¬ (a : Int) < (b : Int) by omega)]; exact Ev.now _
      · simp only [if_neg (show ¬ (a : Int) < (b : Int) by omega)]; exact Ev.now _

theorem boxes_f (l : List Int) (hl : l.length ≤ 1000) (a b : Int) :
    ∃ r : List S31 × Int, Ev (fun k => isomedia_Boxes.f k l a b) r ∧ Ev (fun k => cutroomref18_Boxes.f k l a b) (r.1.map to32, r.2) ∧ r.1.length ≤ 1000 := by
  unfold isomedia_Boxes.f cutroomref18_Boxes.f
  have bad : (∃ r : List S31 × Int, Ev (fun k => isomedia_Boxes.j0 k l a b true) r ∧ Ev (fun k => cutroomref18_Boxes.j0 k l a b true) (r.1.map to32, r.2) ∧ r.1.length ≤ 1000) := by
    refine ⟨([], 1), Ev.step (fun k => by rw [isomedia_Boxes.j0]) ?_, Ev.step (fun k => by rw [cutroomref18_Boxes.j0]) ?_, by show (0 : Nat) ≤ 1000; omega⟩
    · simp only [if_true]; exact Ev.now _
    · simp only [if_true]; exact Ev.now _
  by_cases c0 : a < 0
  · simp only [if_pos c0]; exact bad
  by_cases c1 : b < a
  · simp only [if_neg c0, if_pos c1]; exact bad
  by_cases c2 : b > (l.length : Int)
  · simp only [if_neg c0, if_neg c1, decide_eq_true c2]; exact bad
  · simp only [if_neg c0, if_neg c1, decide_eq_false c2]
    obtain ⟨x, rfl⟩ : ∃ x : Nat, a = (x : Int) := ⟨a.toNat, by omega⟩
    obtain ⟨y, rfl⟩ : ∃ y : Nat, b = (y : Int) := ⟨b.toNat, by omega⟩
    obtain ⟨r, r1, r2, r3⟩ := boxes_l0 l hl y (by omega) (y - x) x [] (Nat.le_refl _) (by omega) (Nat.zero_le _)
    refine ⟨r, Ev.step (fun k => by rw [isomedia_Boxes.j0]) ?_, Ev.step (fun k => by rw [cutroomref18_Boxes.j0]) ?_, r3⟩
    · simp only [Bool.false_eq_true, if_false]; exact r1
    · simp only [Bool.false_eq_true, if_false]; exact r2

theorem law_l0 (x : List S31) (hx : x.length ≤ 1000) : ∀ (m i : Nat), i + m = x.length → Ev (fun k => cutroomlaw18_IsomediaBoxes.l0 k x (x.map to32) (i : Int)) true := by
  intro m
  induction m with
  | zero =>
    intro i hi
    refine Ev.step (fun k => by rw [cutroomlaw18_IsomediaBoxes.l0]) ?_
    simp only [if_neg (show ¬ (i : Int) < (x.length : Int) by omega)]
    exact Ev.bind awake_ev (Ev.now _)
  | succ m ih =>
    intro i hi
    have hlt : i < x.length := by omega
    have e : rd_T32 (x.map to32) (i : Int) = to32 x[i] := by rw [rd32 (by rw [List.length_map]; exact hlt), List.getElem_map]
    refine Ev.step (fun k => by rw [cutroomlaw18_IsomediaBoxes.l0]) ?_
    simp only [if_pos (show (i : Int) < (x.length : Int) by omega), if_pos (show (0 : Int) ≤ (i : Int) by omega), List.length_map, rd31 hlt, e, to32, if_true]
    rw [w64 (by omega) (by omega)]
    exact ih (i + 1) (by omega)

theorem IsomediaBoxes : cutroomlaw18_IsomediaBoxes.Pure := by
  intro l a b _ _ _ _ _
  refine Ev.rounds (g := fun k => cutroomlaw18_IsomediaBoxes.f k l a b) ?_
  unfold cutroomlaw18_IsomediaBoxes.f
  by_cases c : (l.length : Int) > 1000
  · simp only [if_pos c]
    exact Ev.now _
  · simp only [if_neg c]
    obtain ⟨r, r1, r2, r3⟩ := boxes_f l (by omega) a b
    refine Ev.bind r1 ?_
    refine Ev.bind r2 ?_
    simp only [if_true, List.length_map, bne_self_eq_false]
    refine Ev.step (fun k => by rw [cutroomlaw18_IsomediaBoxes.j0]) ?_
    simp only [Bool.false_eq_true, if_false]
    exact law_l0 r.1 r3 r.1.length 0 (by omega)

end Go.Proofs.Ytbpmkcgpgdbbkaa.Pure
