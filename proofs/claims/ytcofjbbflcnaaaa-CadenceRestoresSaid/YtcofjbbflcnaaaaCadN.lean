/- What alike, Pull, find and Restore come to. No condition of its own. -/
import Derived.Test.YtcofjbbflcnaaaaCadM
import Derived.Test.YtcofjbbflcnaaaaPx41
import Derived.Test.YtcofjbbflcnaaaaPx44
namespace Go.Proofs.Ytcofjbbflcnaaaa.P
open Go.RowKit Go.Proofs.YtcofjbbflcnaaaaW.PrintWords Go.Proofs.YtcofjbbflcnaaaaW.PrintLast Go.Proofs.YtcofjbbflcnaaaaW.PrintMore
set_option linter.unusedVariables false

/-- a valid frame -/
def VF (f : S52) : Prop := 16 ≤ f.f0 ∧ f.f0 ≤ 64 ∧ f.f0 % 16 = 0 ∧ 16 ≤ f.f1 ∧ f.f1 ≤ 64 ∧ f.f1 % 16 = 0 ∧ (f.f2.length : Int) = f.f0 * f.f1 ∧ (f.f3.length : Int) = f.f0 / 2 * (f.f1 / 2) ∧ (f.f4.length : Int) = f.f0 / 2 * (f.f1 / 2)
def vfB (f : S52) : Bool := decide (16 ≤ f.f0 ∧ f.f0 ≤ 64 ∧ f.f0 % 16 = 0 ∧ 16 ≤ f.f1 ∧ f.f1 ≤ 64 ∧ f.f1 % 16 = 0 ∧ (f.f2.length : Int) = f.f0 * f.f1 ∧ (f.f3.length : Int) = f.f0 / 2 * (f.f1 / 2) ∧ (f.f4.length : Int) = f.f0 / 2 * (f.f1 / 2))
theorem vfB_iff {f : S52} : vfB f = true ↔ VF f := decide_eq_true_iff
theorem mul_rng {a b A B : Int} (ha : 0 ≤ a) (hb : 0 ≤ b) (hA : a ≤ A) (hB : b ≤ B) : 0 ≤ a * b ∧ a * b ≤ A * B :=
  ⟨Int.mul_nonneg ha hb, Int.le_trans (Int.mul_le_mul_of_nonneg_right hA hb) (Int.mul_le_mul_of_nonneg_left hB (Int.le_trans ha hA))⟩
theorem side_f (a : Int) : cadence_side.f a 64 = some (decide (16 ≤ a ∧ a ≤ 64 ∧ a % 16 = 0)) := by
  unfold cadence_side.f
  by_cases h1 : a ≥ 16
  · rw [if_pos h1]
    by_cases h2 : a ≤ 64
    · rw [if_pos h2, Int.tmod_eq_emod_of_nonneg (by omega)]
      by_cases h3 : a % 16 = 0
      · rw [h3, decide_eq_true ⟨by omega, h2, rfl⟩]; rfl
      · rw [decide_eq_false (fun h => h3 h.2.2), beq_eq_false_iff_ne.2 h3]
    · rw [if_neg h2, decide_eq_false (fun h => h2 h.2.1)]
  · rw [if_neg h1, decide_eq_false (fun h => h1 h.1)]
theorem valid_f (f : S52) : cadence_valid.f f.f0 f.f1 f.f2 f.f3 f.f4 = some (vfB f) := by
  unfold cadence_valid.f
  rw [side_f, side_f]
  simp only [Option.bind_some]
  by_cases h1 : 16 ≤ f.f0 ∧ f.f0 ≤ 64 ∧ f.f0 % 16 = 0
  · rw [if_pos (decide_eq_true h1)]
    by_cases h2 : 16 ≤ f.f1 ∧ f.f1 ≤ 64 ∧ f.f1 % 16 = 0
    · rw [if_pos (decide_eq_true h2)]
      have r1 := mul_rng (a := f.f0) (b := f.f1) (A := 64) (B := 64) (by omega) (by omega) (by omega) (by omega)
      have r2 := mul_rng (a := f.f0 / 2) (b := f.f1 / 2) (A := 64) (B := 64) (by omega) (by omega) (by omega) (by omega)
      rw [Int.tdiv_eq_ediv_of_nonneg (by omega), Int.tdiv_eq_ediv_of_nonneg (by omega), m64 (x := f.f0 / 2) (by omega) (by omega), m64 (x := f.f1 / 2) (by omega) (by omega), m64 (x := f.f0 * f.f1) (by omega) (by omega), m64 (x := f.f0 / 2 * (f.f1 / 2)) (by omega) (by omega)]
      by_cases h3 : (f.f2.length : Int) = f.f0 * f.f1
      · rw [if_pos h3]
        by_cases h4 : (f.f3.length : Int) = f.f0 / 2 * (f.f1 / 2)
        · rw [if_pos h4]
          by_cases h5 : (f.f4.length : Int) = f.f0 / 2 * (f.f1 / 2)
          · rw [beq_iff_eq.2 h5, vfB_iff.2 ⟨h1.1, h1.2.1, h1.2.2, h2.1, h2.2.1, h2.2.2, h3, h4, h5⟩]
          · rw [beq_eq_false_iff_ne.2 h5, show vfB f = false from decide_eq_false (fun h => h5 h.2.2.2.2.2.2.2.2)]
        · rw [if_neg h4, show vfB f = false from decide_eq_false (fun h => h4 h.2.2.2.2.2.2.2.1)]
      · rw [if_neg h3, show vfB f = false from decide_eq_false (fun h => h3 h.2.2.2.2.2.2.1)]
    · rw [if_neg (by rw [decide_eq_false h2]; decide), show vfB f = false from decide_eq_false (fun h => h2 ⟨h.2.2.2.1, h.2.2.2.2.1, h.2.2.2.2.2.1⟩)]
  · rw [if_neg (by rw [decide_eq_false h1]; decide), show vfB f = false from decide_eq_false (fun h => h1 ⟨h.1, h.2.1, h.2.2.1⟩)]
/-- from element i on all are valid and of the first one's size -/
def alkB (xs : List S52) (f : S52) : Bool := vfB f && decide (f.f0 = (rd_T52 xs 0).f0) && decide (f.f1 = (rd_T52 xs 0).f1)
def alikeB (xs : List S52) : Bool := xs.all (alkB xs)
theorem rd52_get (xs : List S52) (i : Nat) (h : i < xs.length) : rd_T52 xs (i : Int) = xs[i] := by
  unfold rd_T52
  rw [Int.toNat_natCast, List.getD_eq_getElem?_getD, List.getElem?_eq_getElem h, Option.getD_some]
theorem drop_cons {α : Type} (xs : List α) (i : Nat) (h : i < xs.length) : xs.drop i = xs[i] :: xs.drop (i + 1) := by rw [List.drop_eq_getElem_cons h]
theorem alike_l0 (xs : List S52) (hl : xs.length ≤ 4611686018427387904) : ∀ (d i : Nat), i + d = xs.length → Ev (fun k => cadence_alike.l0 k xs xs (xs.length : Int) (i : Int)) ((xs.drop i).all (alkB xs)) := by
  intro d
  induction d with
  | zero =>
    intro i hi
    rw [List.drop_of_length_le (by omega)]
    refine Ev.step (fun k => by rw [cadence_alike.l0]) ?_
    simp only [if_neg (show ¬ (i : Int) < (xs.length : Int) by omega)]
    exact Ev.now _
  | succ d ih =>
    intro i hi
    have h := rd52_get xs i (by omega)
    rw [drop_cons xs i (by omega), List.all_cons, ← h]
    refine Ev.step (fun k => by rw [cadence_alike.l0]) ?_
    simp only [if_pos (show (i : Int) < (xs.length : Int) by omega), if_pos (show (0 : Int) ≤ (i : Int) by omega), valid_f, Option.bind_some]
    unfold alkB
    by_cases c1 : vfB (rd_T52 xs (i : Int)) = true
    · simp only [if_pos c1, if_pos (show (0 : Int) < (xs.length : Int) by omega)]
      by_cases c2 : (rd_T52 xs (i : Int)).f0 = (rd_T52 xs 0).f0
      · simp only [if_pos c2]
        by_cases c3 : (rd_T52 xs (i : Int)).f1 = (rd_T52 xs 0).f1
        · simp only [if_pos c3]
          rw [c1, decide_eq_true c2, decide_eq_true c3, m64 (x := (i : Int) + 1) (by omega) (by omega)]
          simp only [Bool.and_self, Bool.true_and]
          exact ih (i + 1) (by omega)
        · simp only [if_neg c3]
          rw [decide_eq_false c3, Bool.and_false, Bool.false_and]
          exact Ev.now _
      · simp only [if_neg c2]
        rw [decide_eq_false c2, Bool.and_false, Bool.false_and, Bool.false_and]
        exact Ev.now _
    · simp only [if_neg c1]
      rw [Bool.eq_false_iff.2 c1, Bool.false_and, Bool.false_and, Bool.false_and]
      exact Ev.now _
theorem alike_ev (xs : List S52) (hl : xs.length ≤ 4611686018427387904) : Ev (fun k => cadence_alike.f k xs) (alikeB xs) := by
  unfold cadence_alike.f
  have := alike_l0 xs hl xs.length 0 (by omega)
  rwa [List.drop_zero] at this
theorem alike_at {xs : List S52} (h : alikeB xs = true) (i : Int) (h0 : 0 ≤ i) (h1 : i < (xs.length : Int)) : VF (rd_T52 xs i) ∧ (rd_T52 xs i).f0 = (rd_T52 xs 0).f0 ∧ (rd_T52 xs i).f1 = (rd_T52 xs 0).f1 := by
  have hm : rd_T52 xs i ∈ xs := by
    obtain ⟨n, rfl⟩ := Int.eq_ofNat_of_zero_le h0
    rw [rd52_get xs n (by omega)]
    exact List.getElem_mem _
  have := List.all_eq_true.1 h _ hm
  unfold alkB at this
  simp only [Bool.and_eq_true, decide_eq_true_eq] at this
  exact ⟨vfB_iff.1 this.1.1, this.1.2, this.2⟩
/-- the frame with the top field of a and the bottom field of b -/
def wvF (a b : S52) : S52 := ⟨a.f0, a.f1, wvJoin a.f0.toNat a.f2 b.f2, wvJoin (a.f0 / 2).toNat a.f3 b.f3, wvJoin (a.f0 / 2).toNat a.f4 b.f4⟩
theorem woven_f (a b : S52) (ha : VF a) (hb : VF b) (h0 : a.f0 = b.f0) (h1 : a.f1 = b.f1) : cadence_woven.f a.f0 a.f1 a.f2 a.f3 a.f4 b.f0 b.f1 b.f2 b.f3 b.f4 = some ((wvF a b).f0, (wvF a b).f1, (wvF a b).f2, (wvF a b).f3, (wvF a b).f4) := by
  unfold cadence_woven.f
  obtain ⟨p1, p2, p3, p4, p5, p6, p7, p8, p9⟩ := ha
  obtain ⟨q1, q2, q3, q4, q5, q6, q7, q8, q9⟩ := hb
  rw [← h0, ← h1] at q7 q8 q9
  rw [if_pos (show wvFits a.f0 a.f1 a.f2 a.f3 a.f4 b.f2 b.f3 b.f4 = true from decide_eq_true ⟨by omega, by omega, by omega, by omega, by omega, by omega, p7, p8, p9, by omega, by omega, by omega⟩)]
  rfl
theorem pull_l1 (xs : List S52) (ws : List S43) (hx : alikeB xs = true) (hl : ws.length ≤ 256) (hw : ∀ i : Nat, i < ws.length → 0 ≤ (rd_T43 ws i).f0 ∧ (rd_T43 ws i).f0 < (xs.length : Int) ∧ 0 ≤ (rd_T43 ws i).f1 ∧ (rd_T43 ws i).f1 < (xs.length : Int)) :
    ∀ (d i : Nat) (acc : List S52), i + d = ws.length → acc.length = i → Ev (fun k => cadence_Pull.l1 k xs acc ws (ws.length : Int) (i : Int)) (acc ++ (ws.drop i).map (fun w => wvF (rd_T52 xs w.f0) (rd_T52 xs w.f1)), 0) := by
  intro d
  induction d with
  | zero =>
    intro i acc hi ha
    rw [List.drop_of_length_le (by omega), List.map_nil, List.append_nil]
    refine Ev.step (fun k => by rw [cadence_Pull.l1]) ?_
    simp only [if_neg (show ¬ (i : Int) < (ws.length : Int) by omega)]
    exact Ev.now _
  | succ d ih =>
    intro i acc hi ha
    obtain ⟨b1, b2, b3, b4⟩ := hw i (by omega)
    have hg : rd_T43 ws (i : Int) = ws[i]'(by omega) := by
      unfold rd_T43
      rw [Int.toNat_natCast, List.getD_eq_getElem?_getD, List.getElem?_eq_getElem (by omega), Option.getD_some]
    rw [drop_cons ws i (by omega), List.map_cons, ← hg]
    obtain ⟨v1, s1, s2⟩ := alike_at hx _ b1 b2
    obtain ⟨v2, s3, s4⟩ := alike_at hx _ b3 b4
    refine Ev.step (fun k => by rw [cadence_Pull.l1]) ?_
    simp only [if_pos (show (i : Int) < (ws.length : Int) by omega), if_pos (show (0 : Int) ≤ (i : Int) by omega), if_pos b1, if_pos b2, if_pos b3, if_pos b4, woven_f _ _ v1 v2 (s1.trans s3.symm) (s2.trans s4.symm), Option.bind_some, if_pos (show acc.length < 1599289640401 by omega)]
    rw [m64 (x := (i : Int) + 1) (by omega) (by omega)]
    have := ih (i + 1) (acc ++ [wvF (rd_T52 xs (rd_T43 ws (i : Int)).f0) (rd_T52 xs (rd_T43 ws (i : Int)).f1)]) (by omega) (by simp; omega)
    rw [List.append_assoc] at this
    exact this
theorem rd43_get (ws : List S43) (i : Nat) (h : i < ws.length) : rd_T43 ws (i : Int) = ws[i] := by
  unfold rd_T43
  rw [Int.toNat_natCast, List.getD_eq_getElem?_getD, List.getElem?_eq_getElem h, Option.getD_some]
def inRB (n : Nat) (w : S43) : Bool := decide (0 ≤ w.f0 ∧ w.f0 < (n : Int) ∧ 0 ≤ w.f1 ∧ w.f1 < (n : Int))
def pullR (xs : List S52) (ws : List S43) : List S52 × Int :=
  if alikeB xs = true then (if ws.all (inRB xs.length) = true then (if 256 < ws.length then ([], 5) else (ws.map (fun w => wvF (rd_T52 xs w.f0) (rd_T52 xs w.f1)), 0)) else ([], 1)) else ([], 1)
theorem pull_l0 (xs : List S52) (ws : List S43) (hx : alikeB xs = true) (hl : ws.length ≤ 4611686018427387904) : ∀ (d i : Nat), i + d = ws.length → (∀ j : Nat, j < i → inRB xs.length (rd_T43 ws j) = true) →
    Ev (fun k => cadence_Pull.l0 k xs ws ws (ws.length : Int) (i : Int)) (if (ws.drop i).all (inRB xs.length) = true then (if 256 < ws.length then ([], 5) else (ws.map (fun w => wvF (rd_T52 xs w.f0) (rd_T52 xs w.f1)), 0)) else ([], 1)) := by
  intro d
  induction d with
  | zero =>
    intro i hi hp
    rw [List.drop_of_length_le (by omega), List.all_nil, if_pos rfl]
    refine Ev.step (fun k => by rw [cadence_Pull.l0]) ?_
    simp only [if_neg (show ¬ (i : Int) < (ws.length : Int) by omega)]
    by_cases c : 256 < ws.length
    · simp only [if_pos (show (ws.length : Int) > 256 by omega), if_pos c]
      exact Ev.now _
    · simp only [if_neg (show ¬ (ws.length : Int) > 256 by omega), if_neg c]
      have := pull_l1 xs ws hx (by omega) (fun j hj => by
        have := of_decide_eq_true (hp j (by omega))
        exact this) ws.length 0 [] (by omega) rfl
      rwa [List.drop_zero, List.nil_append] at this
  | succ d ih =>
    intro i hi hp
    rw [drop_cons ws i (by omega), List.all_cons, ← rd43_get ws i (by omega)]
    refine Ev.step (fun k => by rw [cadence_Pull.l0]) ?_
    simp only [if_pos (show (i : Int) < (ws.length : Int) by omega), if_pos (show (0 : Int) ≤ (i : Int) by omega)]
    by_cases c : inRB xs.length (rd_T43 ws (i : Int)) = true
    · obtain ⟨b1, b2, b3, b4⟩ := of_decide_eq_true c
      simp only [if_neg (show ¬ (rd_T43 ws (i : Int)).f0 < 0 by omega), if_neg (show ¬ (rd_T43 ws (i : Int)).f0 ≥ (xs.length : Int) by omega), if_neg (show ¬ (rd_T43 ws (i : Int)).f1 < 0 by omega), if_neg (show ¬ (rd_T43 ws (i : Int)).f1 ≥ (xs.length : Int) by omega), c, Bool.true_and]
      rw [m64 (x := (i : Int) + 1) (by omega) (by omega)]
      exact ih (i + 1) (by omega) (fun j hj => by
        by_cases e : j = i
        · subst e; exact c
        · exact hp j (by omega))
    · have c0 : inRB xs.length (rd_T43 ws (i : Int)) = false := Bool.eq_false_iff.2 c
      have hn : ¬ (0 ≤ (rd_T43 ws (i : Int)).f0 ∧ (rd_T43 ws (i : Int)).f0 < (xs.length : Int) ∧ 0 ≤ (rd_T43 ws (i : Int)).f1 ∧ (rd_T43 ws (i : Int)).f1 < (xs.length : Int)) := of_decide_eq_false c0
      simp only [c0, Bool.false_and, Bool.false_eq_true, if_false]
      by_cases d1 : (rd_T43 ws (i : Int)).f0 < 0
      · simp only [if_pos d1]; exact Ev.now _
      · simp only [if_neg d1]
        by_cases d2 : (rd_T43 ws (i : Int)).f0 ≥ (xs.length : Int)
        · simp only [if_pos d2]; exact Ev.now _
        · simp only [if_neg d2]
          by_cases d3 : (rd_T43 ws (i : Int)).f1 < 0
          · simp only [if_pos d3]; exact Ev.now _
          · simp only [if_neg d3]
            simp only [if_pos (show (rd_T43 ws (i : Int)).f1 ≥ (xs.length : Int) by omega)]
            exact Ev.now _
theorem pull_ev (xs : List S52) (ws : List S43) (hx : xs.length ≤ 4611686018427387904) (hl : ws.length ≤ 4611686018427387904) : Ev (fun k => cadence_Pull.f k xs ws) (pullR xs ws) := by
  unfold cadence_Pull.f pullR
  refine Ev.bind (alike_ev xs hx) ?_
  by_cases c : alikeB xs = true
  · simp only [if_pos c]
    have := pull_l0 xs ws c hl ws.length 0 (by omega) (fun j hj => by omega)
    rwa [List.drop_zero] at this
  · simp only [if_neg c]
    exact Ev.now _
/-- the first place from i on where p holds; -1: none -/
def fst0 (p : S43 → Bool) : List S43 → Int → Int
  | [], _ => -1
  | w :: r, i => if p w then i else fst0 p r (i + 1)
theorem find_l0 (a : Int) (ws : List S43) (hl : ws.length ≤ 4611686018427387904) : ∀ (d i : Nat) (u v : Int), i + d = ws.length → -1 ≤ u → -1 ≤ v →
    Ev (fun k => cadence_find.l0 k a u v ws (ws.length : Int) (i : Int)) (if u < 0 then fst0 (fun w => decide (w.f0 = a)) (ws.drop i) i else u, if v < 0 then fst0 (fun w => decide (w.f1 = a)) (ws.drop i) i else v) := by
  intro d
  induction d with
  | zero =>
    intro i u v hi hu hv
    rw [List.drop_of_length_le (by omega)]
    refine Ev.step (fun k => by rw [cadence_find.l0]) ?_
    simp only [if_neg (show ¬ (i : Int) < (ws.length : Int) by omega), fst0]
    rw [show (if u < 0 then (-1 : Int) else u) = u by split <;> omega, show (if v < 0 then (-1 : Int) else v) = v by split <;> omega]
    exact Ev.now _
  | succ d ih =>
    intro i u v hi hu hv
    rw [drop_cons ws i (by omega), ← rd43_get ws i (by omega)]
    have e1 : ((i + 1 : Nat) : Int) = (i : Int) + 1 := by omega
    refine Ev.step (fun k => by rw [cadence_find.l0]) ?_
    simp only [if_pos (show (i : Int) < (ws.length : Int) by omega), if_pos (show (0 : Int) ≤ (i : Int) by omega), fst0, decide_eq_true_eq]
    have hw : wrap64 ((i : Int) + 1) = ((i + 1 : Nat) : Int) := m64 (by omega) (by omega)
    -- the second half: the bottom field's place
    have bot : ∀ u', -1 ≤ u' → (if u < 0 then (if (rd_T43 ws (i : Int)).f0 = a then (i : Int) else fst0 (fun w => decide (w.f0 = a)) (ws.drop (i + 1)) ((i : Int) + 1)) else u) = (if u' < 0 then fst0 (fun w => decide (w.f0 = a)) (ws.drop (i + 1)) ((i + 1 : Nat) : Int) else u') →
        Ev (fun k => if (rd_T43 ws (i : Int)).f1 = a then (if v < 0 then cadence_find.l0 k a u' (i : Int) ws (ws.length : Int) (wrap64 ((i : Int) + 1)) else cadence_find.l0 k a u' v ws (ws.length : Int) (wrap64 ((i : Int) + 1))) else cadence_find.l0 k a u' v ws (ws.length : Int) (wrap64 ((i : Int) + 1)))
          (if u < 0 then (if (rd_T43 ws (i : Int)).f0 = a then (i : Int) else fst0 (fun w => decide (w.f0 = a)) (ws.drop (i + 1)) ((i : Int) + 1)) else u, if v < 0 then (if (rd_T43 ws (i : Int)).f1 = a then (i : Int) else fst0 (fun w => decide (w.f1 = a)) (ws.drop (i + 1)) ((i : Int) + 1)) else v) := by
      intro u' hu' he
      rw [he]
      by_cases c1 : (rd_T43 ws (i : Int)).f1 = a
      · simp only [if_pos c1]
        by_cases c2 : v < 0
        · simp only [if_pos c2, hw]
          have := ih (i + 1) u' (i : Int) (by omega) hu' (by omega)
          rwa [if_neg (show ¬ (i : Int) < 0 by omega)] at this
        · simp only [if_neg c2, hw]
          have := ih (i + 1) u' v (by omega) hu' hv
          rwa [if_neg c2] at this
      · simp only [if_neg c1, hw]
        have := ih (i + 1) u' v (by omega) hu' hv
        rwa [e1] at this ⊢
    by_cases c : (rd_T43 ws (i : Int)).f0 = a
    · simp only [if_pos c]
      by_cases d1 : u < 0
      · refine Ev.step (fun k => by rw [cadence_find.j1, if_pos (decide_eq_true d1)]) ?_
        have := bot (i : Int) (by omega) (by rw [if_pos d1, if_pos c, if_neg (show ¬ (i : Int) < 0 by omega)])
        simpa only [if_pos c, if_pos d1] using this
      · refine Ev.step (fun k => by rw [cadence_find.j1, if_neg (by rw [decide_eq_false d1]; decide)]) ?_
        have := bot u hu (by rw [if_neg d1, if_neg d1])
        simpa only [if_pos c, if_neg d1] using this
    · simp only [if_neg c]
      refine Ev.step (fun k => by rw [cadence_find.j1, if_neg (by decide)]) ?_
      have := bot u hu (by
        by_cases d1 : u < 0
        · rw [if_pos d1, if_pos d1, if_neg c, e1]
        · rw [if_neg d1, if_neg d1])
      simpa only [if_neg c] using this
theorem find_ev (a : Int) (ws : List S43) (hl : ws.length ≤ 4611686018427387904) : Ev (fun k => cadence_find.f k ws a) (fst0 (fun w => decide (w.f0 = a)) ws 0, fst0 (fun w => decide (w.f1 = a)) ws 0) := by
  unfold cadence_find.f
  have := find_l0 a ws hl ws.length 0 (-1) (-1) (by omega) (by omega) (by omega)
  rwa [List.drop_zero, if_pos (by decide), if_pos (by decide)] at this
theorem fst0_rng (p : S43 → Bool) : ∀ (ws : List S43) (i : Int), 0 ≤ i → fst0 p ws i = -1 ∨ (i ≤ fst0 p ws i ∧ fst0 p ws i < i + (ws.length : Int))
  | [], i, h => .inl rfl
  | w :: r, i, h => by
    unfold fst0
    by_cases c : p w
    · rw [if_pos c]; right; simp only [List.length_cons]; omega
    · rw [if_neg c]
      rcases fst0_rng p r (i + 1) (by omega) with h1 | h1
      · exact .inl h1
      · right; simp only [List.length_cons]; omega
/-- the film frames from k on -/
def restG (xs : List S52) (ws : List S43) : Nat → Int → List S52 → List S52 × Int
  | 0, _, acc => (acc, 0)
  | d + 1, k, acc => if fst0 (fun w => decide (w.f0 = k)) ws 0 < 0 then ([], 6) else if fst0 (fun w => decide (w.f1 = k)) ws 0 < 0 then ([], 6) else restG xs ws d (k + 1) (acc ++ [wvF (rd_T52 xs (fst0 (fun w => decide (w.f0 = k)) ws 0)) (rd_T52 xs (fst0 (fun w => decide (w.f1 = k)) ws 0))])
theorem rest_l1 (xs : List S52) (ws : List S43) (hx : alikeB xs = true) (he : xs.length = ws.length) (hl : ws.length ≤ 4611686018427387904) (n : Nat) (hn : n ≤ 100000) : ∀ (d i : Nat) (acc : List S52), i + d = n → acc.length = i →
    Ev (fun k => cadence_Restore.l1 k xs ws acc (n : Int) (i : Int)) (restG xs ws d (i : Int) acc) := by
  intro d
  induction d with
  | zero =>
    intro i acc hi ha
    refine Ev.step (fun k => by rw [cadence_Restore.l1]) ?_
    simp only [if_neg (show ¬ (i : Int) < (n : Int) by omega), restG]
    exact Ev.now _
  | succ d ih =>
    intro i acc hi ha
    refine Ev.step (fun k => by rw [cadence_Restore.l1]) ?_
    simp only [if_pos (show (i : Int) < (n : Int) by omega)]
    refine Ev.bind (find_ev (i : Int) ws hl) ?_
    unfold restG
    have r1 := fst0_rng (fun w => decide (w.f0 = (i : Int))) ws 0 (by omega)
    have r2 := fst0_rng (fun w => decide (w.f1 = (i : Int))) ws 0 (by omega)
    generalize fst0 (fun w => decide (w.f0 = (i : Int))) ws 0 = t at r1 ⊢
    generalize fst0 (fun w => decide (w.f1 = (i : Int))) ws 0 = b at r2 ⊢
    by_cases c1 : t < 0
    · simp only [if_pos c1]; exact Ev.now _
    · simp only [if_neg c1]
      by_cases c2 : b < 0
      · simp only [if_pos c2]; exact Ev.now _
      · simp only [if_neg c2]
        obtain ⟨v1, s1, s2⟩ := alike_at hx t (by omega) (by omega)
        obtain ⟨v2, s3, s4⟩ := alike_at hx b (by omega) (by omega)
        simp only [if_pos (show 0 ≤ t by omega), if_pos (show t < (xs.length : Int) by omega), if_pos (show 0 ≤ b by omega), if_pos (show b < (xs.length : Int) by omega), woven_f _ _ v1 v2 (s1.trans s3.symm) (s2.trans s4.symm), Option.bind_some, if_pos (show acc.length < 1599289640401 by omega)]
        rw [m64 (x := (i : Int) + 1) (by omega) (by omega)]
        exact ih (i + 1) (acc ++ [wvF (rd_T52 xs t) (rd_T52 xs b)]) (by omega) (by simp; omega)
def nmB (w : S43) : Bool := decide (0 ≤ w.f0 ∧ w.f0 < 256) && decide (0 ≤ w.f1 ∧ w.f1 < 256)
def mostOf : List S43 → Int → Int
  | [], m => m
  | w :: r, m => mostOf r (mx (mx m w.f0) w.f1)
theorem named_f (a : Int) : cadence_named.f a = some (decide (0 ≤ a ∧ a < 256)) := by
  unfold cadence_named.f
  by_cases h : a ≥ 0
  · rw [if_pos h]; congr 1; exact decide_eq_decide.2 ⟨fun h2 => ⟨h, h2⟩, fun h2 => h2.2⟩
  · rw [if_neg h, decide_eq_false (fun h2 => h h2.1)]
def restR (xs : List S52) (ws : List S43) : List S52 × Int :=
  if xs.length = ws.length ∧ alikeB xs = true then (if ws.all nmB = true then (if 256 < ws.length then ([], 5) else restG xs ws (mostOf ws (-1) + 1).toNat 0 []) else ([], 1)) else ([], 1)
theorem rest_l0 (xs : List S52) (ws : List S43) (hx : alikeB xs = true) (he : xs.length = ws.length) (hl : ws.length ≤ 4611686018427387904) : ∀ (d i : Nat) (m : Int), i + d = ws.length → -1 ≤ m → m < 256 →
    Ev (fun k => cadence_Restore.l0 k xs ws m ws (ws.length : Int) (i : Int)) (if (ws.drop i).all nmB = true then (if 256 < ws.length then ([], 5) else restG xs ws (mostOf (ws.drop i) m + 1).toNat 0 []) else ([], 1)) := by
  intro d
  induction d with
  | zero =>
    intro i m hi hm hm'
    rw [List.drop_of_length_le (by omega), List.all_nil, if_pos rfl]
    refine Ev.step (fun k => by rw [cadence_Restore.l0]) ?_
    simp only [if_neg (show ¬ (i : Int) < (ws.length : Int) by omega)]
    by_cases c : 256 < ws.length
    · simp only [if_pos (show (ws.length : Int) > 256 by omega), if_pos c]
      exact Ev.now _
    · simp only [if_neg (show ¬ (ws.length : Int) > 256 by omega), if_neg c, mostOf]
      rw [m64 (x := m + 1) (by omega) (by omega)]
      have := rest_l1 xs ws hx he hl (m + 1).toNat (by omega) (m + 1).toNat 0 [] (by omega) rfl
      rw [Int.toNat_of_nonneg (by omega)] at this
      exact this
  | succ d ih =>
    intro i m hi hm hm'
    rw [drop_cons ws i (by omega), List.all_cons, ← rd43_get ws i (by omega)]
    refine Ev.step (fun k => by rw [cadence_Restore.l0]) ?_
    simp only [if_pos (show (i : Int) < (ws.length : Int) by omega), if_pos (show (0 : Int) ≤ (i : Int) by omega), named_f, Option.bind_some]
    unfold nmB
    by_cases c1 : 0 ≤ (rd_T43 ws (i : Int)).f0 ∧ (rd_T43 ws (i : Int)).f0 < 256
    · simp only [if_pos (show decide (0 ≤ (rd_T43 ws (i : Int)).f0 ∧ (rd_T43 ws (i : Int)).f0 < 256) = true from decide_eq_true c1)]
      by_cases c2 : 0 ≤ (rd_T43 ws (i : Int)).f1 ∧ (rd_T43 ws (i : Int)).f1 < 256
      · simp only [if_pos (show decide (0 ≤ (rd_T43 ws (i : Int)).f1 ∧ (rd_T43 ws (i : Int)).f1 < 256) = true from decide_eq_true c2)]
        rw [decide_eq_true c1, decide_eq_true c2, m64 (x := (i : Int) + 1) (by omega) (by omega)]
        simp only [Bool.and_self, Bool.true_and, mostOf]
        exact ih (i + 1) _ (by omega) (by unfold mx; omega) (by unfold mx; omega)
      · simp only [if_neg (show ¬ decide (0 ≤ (rd_T43 ws (i : Int)).f1 ∧ (rd_T43 ws (i : Int)).f1 < 256) = true by rw [decide_eq_false c2]; decide)]
        rw [decide_eq_false c2, Bool.and_false, Bool.false_and]
        exact Ev.now _
    · simp only [if_neg (show ¬ decide (0 ≤ (rd_T43 ws (i : Int)).f0 ∧ (rd_T43 ws (i : Int)).f0 < 256) = true by rw [decide_eq_false c1]; decide)]
      rw [decide_eq_false c1, Bool.false_and, Bool.false_and]
      exact Ev.now _
theorem rest_ev (xs : List S52) (ws : List S43) (hx : xs.length ≤ 4611686018427387904) (hl : ws.length ≤ 4611686018427387904) : Ev (fun k => cadence_Restore.f k xs ws) (restR xs ws) := by
  unfold cadence_Restore.f restR
  by_cases c0 : xs.length = ws.length
  · simp only [if_pos (show (xs.length : Int) = (ws.length : Int) by omega)]
    refine Ev.bind (alike_ev xs hx) ?_
    refine Ev.step (fun k => by rw [cadence_Restore.j0]) ?_
    by_cases c : alikeB xs = true
    · rw [if_pos ⟨c0, c⟩]
      simp only [c, Bool.not_true, Bool.false_eq_true, if_false]
      have := rest_l0 xs ws c c0 hl ws.length 0 (-1) (by omega) (by omega) (by omega)
      rwa [List.drop_zero] at this
    · rw [if_neg (fun h => c h.2)]
      simp only [Bool.eq_false_iff.2 c, Bool.not_false, if_true]
      exact Ev.now _
  · simp only [if_neg (show ¬ (xs.length : Int) = (ws.length : Int) by omega)]
    rw [if_neg (fun h => c0 h.1)]
    refine Ev.step (fun k => by rw [cadence_Restore.j0]) ?_
    simp only [if_true]
    exact Ev.now _
end Go.Proofs.Ytcofjbbflcnaaaa.P
