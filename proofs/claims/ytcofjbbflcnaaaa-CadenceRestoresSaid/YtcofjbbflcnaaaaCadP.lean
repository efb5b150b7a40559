/- What the reference's Alike, Join and Pull come to. No condition of its own. -/
import Derived.Test.YtcofjbbflcnaaaaCadN
import Derived.Test.YtcofjbbflcnaaaaPx42
namespace Go.Proofs.Ytcofjbbflcnaaaa.P
open Go.RowKit Go.Proofs.YtcofjbbflcnaaaaW.PrintWords Go.Proofs.YtcofjbbflcnaaaaW.PrintLast Go.Proofs.YtcofjbbflcnaaaaW.PrintMore
set_option linter.unusedVariables false

theorem quarter {x y : Int} (hx : x % 16 = 0) (hy : y % 16 = 0) (h0 : 0 ≤ x) (h1 : 0 ≤ y) : x * y / 4 = x / 2 * (y / 2) := by
  obtain ⟨p, rfl⟩ : ∃ p, x = 2 * p := ⟨x / 2, by omega⟩
  obtain ⟨q, rfl⟩ : ∃ q, y = 2 * q := ⟨y / 2, by omega⟩
  rw [show 2 * p / 2 = p by omega, show 2 * q / 2 = q by omega, show 2 * p * (2 * q) = 4 * (p * q) by rw [Int.mul_assoc, Int.mul_left_comm p 2 q, ← Int.mul_assoc]; rfl]
  omega
theorem ref_valid_f (f : S52) : cutroomref20_Valid.f f.f0 f.f1 f.f2 f.f3 f.f4 = some (vfB f) := by
  unfold cutroomref20_Valid.f
  have no : ∀ p : Prop, ¬ p → (VF f → p) → some false = some (vfB f) := fun p hp h => by rw [show vfB f = false from Bool.eq_false_iff.2 (fun e => hp (h (vfB_iff.1 e)))]
  by_cases h1 : f.f0 < 16
  · rw [if_pos h1]; exact no (¬ f.f0 < 16) (fun h => h h1) (fun h => by have := h.1; omega)
  rw [if_neg h1]
  by_cases h2 : f.f0 > 64
  · rw [if_pos h2]; exact no (¬ f.f0 > 64) (fun h => h h2) (fun h => by have := h.2.1; omega)
  rw [if_neg h2, Int.tmod_eq_emod_of_nonneg (by omega)]
  by_cases h3 : f.f0 % 16 = 0
  · rw [if_pos h3]
    by_cases h4 : f.f1 < 16
    · rw [if_pos h4]; exact no (¬ f.f1 < 16) (fun h => h h4) (fun h => by have := h.2.2.2.1; omega)
    rw [if_neg h4]
    by_cases h5 : f.f1 > 64
    · rw [if_pos h5]; exact no (¬ f.f1 > 64) (fun h => h h5) (fun h => by have := h.2.2.2.2.1; omega)
    rw [if_neg h5, Int.tmod_eq_emod_of_nonneg (by omega)]
    by_cases h6 : f.f1 % 16 = 0
    · rw [if_pos h6]
      have r1 := mul_rng (a := f.f0) (b := f.f1) (A := 64) (B := 64) (by omega) (by omega) (by omega) (by omega)
      rw [m64 (x := f.f0 * f.f1) (by omega) (by omega), Int.tdiv_eq_ediv_of_nonneg r1.1, quarter h3 h6 (by omega) (by omega)]
      have r2 := mul_rng (a := f.f0 / 2) (b := f.f1 / 2) (A := 64) (B := 64) (by omega) (by omega) (by omega) (by omega)
      rw [m64 (x := f.f0 / 2 * (f.f1 / 2)) (by omega) (by omega)]
      by_cases h7 : (f.f2.length : Int) = f.f0 * f.f1
      · rw [if_pos h7]
        by_cases h8 : (f.f3.length : Int) = f.f0 / 2 * (f.f1 / 2)
        · rw [if_pos h8]
          by_cases h9 : (f.f4.length : Int) = f.f0 / 2 * (f.f1 / 2)
          · rw [beq_iff_eq.2 h9, vfB_iff.2 ⟨by omega, by omega, h3, by omega, by omega, h6, h7, h8, h9⟩]
          · rw [beq_eq_false_iff_ne.2 h9]; exact no _ h9 (fun h => h.2.2.2.2.2.2.2.2)
        · rw [if_neg h8]; exact no _ h8 (fun h => h.2.2.2.2.2.2.2.1)
      · rw [if_neg h7]; exact no _ h7 (fun h => h.2.2.2.2.2.2.1)
    · rw [if_neg h6]; exact no _ h6 (fun h => h.2.2.2.2.2.1)
  · rw [if_neg h3]; exact no _ h3 (fun h => h.2.2.1)
theorem ref_alike_l0 (xs : List S52) (hl : xs.length ≤ 4611686018427387904) : ∀ (d i : Nat), i + d = xs.length → Ev (fun k => cutroomref20_Alike.l0 k xs (i : Int)) ((xs.drop i).all (alkB xs)) := by
  intro d
  induction d with
  | zero =>
    intro i hi
    rw [List.drop_of_length_le (by omega)]
    refine Ev.step (fun k => by rw [cutroomref20_Alike.l0]) ?_
    simp only [if_neg (show ¬ (i : Int) < (xs.length : Int) by omega)]
    exact Ev.now _
  | succ d ih =>
    intro i hi
    have h := rd52_get xs i (by omega)
    rw [drop_cons xs i (by omega), List.all_cons, ← h]
    refine Ev.step (fun k => by rw [cutroomref20_Alike.l0]) ?_
    simp only [if_pos (show (i : Int) < (xs.length : Int) by omega), if_pos (show (0 : Int) ≤ (i : Int) by omega), ref_valid_f, Option.bind_some]
    unfold alkB
    by_cases c1 : vfB (rd_T52 xs (i : Int)) = true
    · simp only [if_pos c1, if_pos (show (0 : Int) < (xs.length : Int) by omega)]
      by_cases c2 : (rd_T52 xs (i : Int)).f0 = (rd_T52 xs 0).f0
      · simp only [if_pos c2]
        by_cases c3 : (rd_T52 xs (i : Int)).f1 = (rd_T52 xs 0).f1
        · simp only [if_pos c3]
          rw [c1, decide_eq_true c2, decide_eq_true c3, m64 (x := (i : Int) + 1) (by omega) (by omega)]
          simp only [Bool.and_self, Bool.true_and]
          exact ih (i + 1) (by omega)
        · simp only [if_neg c3]
          rw [decide_eq_false c3, Bool.and_false, Bool.false_and]
          exact Ev.now _
      · simp only [if_neg c2]
        rw [decide_eq_false c2, Bool.and_false, Bool.false_and, Bool.false_and]
        exact Ev.now _
    · simp only [if_neg c1]
      rw [Bool.eq_false_iff.2 c1, Bool.false_and, Bool.false_and, Bool.false_and]
      exact Ev.now _
theorem ref_alike_ev (xs : List S52) (hl : xs.length ≤ 4611686018427387904) : Ev (fun k => cutroomref20_Alike.f k xs) (alikeB xs) := by
  unfold cutroomref20_Alike.f
  have := ref_alike_l0 xs hl xs.length 0 (by omega)
  rwa [List.drop_zero] at this
/-- the first i samples are laid -/
def lnPart (W : Nat) (a b : List Int) (i : Nat) : List Int := (List.range a.length).map fun j => if j < i then (if j / W % 2 = 1 then b.getD j 0 else a.getD j 0) else 0
theorem lnPart_len (W : Nat) (a b : List Int) (i : Nat) : (lnPart W a b i).length = a.length := by simp [lnPart]
theorem lnPart_set (W : Nat) (a b : List Int) (i : Nat) (hi : i < a.length) : (lnPart W a b i).set i (if i / W % 2 = 1 then b.getD i 0 else a.getD i 0) = lnPart W a b (i + 1) := by
  apply List.ext_getElem?
  intro j
  rw [List.getElem?_set]
  by_cases h : i = j
  · subst h
    rw [if_pos rfl, if_pos (by rw [lnPart_len]; exact hi)]
    unfold lnPart
    rw [List.getElem?_map, List.getElem?_range hi, Option.map_some, if_pos (show i < i + 1 by omega)]
  · rw [if_neg h]
    by_cases hj : j < a.length
    · unfold lnPart
      rw [List.getElem?_map, List.getElem?_map, List.getElem?_range hj, Option.map_some, Option.map_some]
      by_cases c : j < i
      · rw [if_pos c, if_pos (show j < i + 1 by omega)]
      · rw [if_neg c, if_neg (show ¬ j < i + 1 by omega)]
    · rw [List.getElem?_eq_none (by rw [lnPart_len]; omega), List.getElem?_eq_none (by rw [lnPart_len]; omega)]
theorem lnPart_all (W : Nat) (a b : List Int) : lnPart W a b a.length = wvJoin W a b := by
  unfold lnPart wvJoin
  refine List.map_congr_left fun j hj => ?_
  rw [if_pos (List.mem_range.1 hj)]
theorem lnPart_zero (W : Nat) (a b : List Int) : lnPart W a b 0 = List.replicate a.length 0 := by
  unfold lnPart
  rw [List.eq_replicate_iff]
  refine ⟨by simp, fun x hx => ?_⟩
  obtain ⟨j, _, rfl⟩ := List.mem_map.1 hx
  rw [if_neg (by omega)]
theorem lines_l0 (W : Nat) (hW : 0 < W) (a b : List Int) (hb : b.length = a.length) (hl : a.length ≤ 65536) : ∀ (d i : Nat), i + d = a.length → Ev (fun k => cutroomref20_lines.l0 k a b (W : Int) (lnPart W a b i) (i : Int)) (wvJoin W a b) := by
  intro d
  induction d with
  | zero =>
    intro i hi
    obtain rfl : i = a.length := by omega
    rw [lnPart_all]
    refine Ev.step (fun k => by rw [cutroomref20_lines.l0]) ?_
    simp only [if_neg (show ¬ (a.length : Int) < (a.length : Int) by omega)]
    exact Ev.now _
  | succ d ih =>
    intro i hi
    refine Ev.step (fun k => by rw [cutroomref20_lines.l0]) ?_
    have e1 : Int.tdiv (i : Int) (W : Int) = ((i / W : Nat) : Int) := by rw [Int.tdiv_eq_ediv_of_nonneg (by omega), Int.natCast_ediv]
    have e2 : i / W ≤ i := Nat.div_le_self _ _
    have e3 : wrap64 ((i / W : Nat) : Int) = ((i / W : Nat) : Int) := by generalize i / W = z at e2 ⊢; exact m64 (by omega) (by omega)
    have e4 : Int.tmod ((i / W : Nat) : Int) 2 = ((i / W % 2 : Nat) : Int) := by generalize i / W = z; rw [Int.tmod_eq_emod_of_nonneg (by omega)]; omega
    simp only [if_pos (show (i : Int) < (a.length : Int) by omega), if_pos (show (0 : Int) ≤ (i : Int) by omega), lnPart_len, Option.bind_some, if_neg (show ¬ (W : Int) = 0 by omega), e1, e3, e4, Int.toNat_natCast]
    have hs := lnPart_set W a b i (by omega)
    have hw : wrap64 ((i : Int) + 1) = ((i + 1 : Nat) : Int) := m64 (by omega) (by omega)
    have ha : rd a (i : Int) = a.getD i 0 := by unfold rd; rw [Int.toNat_natCast]
    have hb' : rd b (i : Int) = b.getD i 0 := by unfold rd; rw [Int.toNat_natCast]
    rw [ha, hb', hw]
    by_cases c : i / W % 2 = 1
    · rw [if_pos c] at hs
      simp only [if_pos (show ((i / W % 2 : Nat) : Int) = 1 by omega), if_pos (show (i : Int) < (b.length : Int) by omega), List.set_set, hs]
      exact ih (i + 1) (by omega)
    · rw [if_neg c] at hs
      simp only [if_neg (show ¬ ((i / W % 2 : Nat) : Int) = 1 by omega), hs]
      exact ih (i + 1) (by omega)
theorem lines_ev (w : Int) (hw : 0 < w) (a b : List Int) (hb : b.length = a.length) (hl : a.length ≤ 65536) : Ev (fun k => cutroomref20_lines.f k a b w) (wvJoin w.toNat a b) := by
  unfold cutroomref20_lines.f
  obtain ⟨W, rfl⟩ := Int.eq_ofNat_of_zero_le (Int.le_of_lt hw)
  simp only [if_pos (show (0 : Int) ≤ (a.length : Int) by omega), Int.toNat_natCast, if_pos (show a.length ≤ 281474976710656 by omega)]
  have := lines_l0 W (by omega) a b hb hl a.length 0 (by omega)
  rw [lnPart_zero] at this
  exact this
theorem join_ev (a b : S52) (ha : VF a) (hb : VF b) (h0 : a.f0 = b.f0) (h1 : a.f1 = b.f1) : Ev (fun k => cutroomref20_Join.f k a.f0 a.f1 a.f2 a.f3 a.f4 b.f0 b.f1 b.f2 b.f3 b.f4) ((wvF a b).f0, (wvF a b).f1, (wvF a b).f2, (wvF a b).f3, (wvF a b).f4) := by
  obtain ⟨p1, p2, p3, p4, p5, p6, p7, p8, p9⟩ := ha
  obtain ⟨q1, q2, q3, q4, q5, q6, q7, q8, q9⟩ := hb
  rw [← h0, ← h1] at q7 q8 q9
  have r1 := mul_rng (a := a.f0) (b := a.f1) (A := 64) (B := 64) (by omega) (by omega) (by omega) (by omega)
  have r2 := mul_rng (a := a.f0 / 2) (b := a.f1 / 2) (A := 64) (B := 64) (by omega) (by omega) (by omega) (by omega)
  unfold cutroomref20_Join.f
  rw [Int.tdiv_eq_ediv_of_nonneg (by omega), m64 (x := a.f0 / 2) (by omega) (by omega)]
  refine Ev.bind (lines_ev a.f0 (by omega) a.f2 b.f2 (by omega) (by omega)) ?_
  refine Ev.bind (lines_ev (a.f0 / 2) (by omega) a.f3 b.f3 (by omega) (by omega)) ?_
  refine Ev.bind (lines_ev (a.f0 / 2) (by omega) a.f4 b.f4 (by omega) (by omega)) ?_
  exact Ev.now _
theorem ref_pull_l1 (xs : List S52) (ws : List S43) (hx : alikeB xs = true) (hl : ws.length ≤ 256) (hw : ∀ i : Nat, i < ws.length → 0 ≤ (rd_T43 ws i).f0 ∧ (rd_T43 ws i).f0 < (xs.length : Int) ∧ 0 ≤ (rd_T43 ws i).f1 ∧ (rd_T43 ws i).f1 < (xs.length : Int)) :
    ∀ (d i : Nat) (acc : List S52), i + d = ws.length → acc.length = i → Ev (fun k => cutroomref20_Pull.l1 k xs ws acc (i : Int)) (acc ++ (ws.drop i).map (fun w => wvF (rd_T52 xs w.f0) (rd_T52 xs w.f1)), 0) := by
  intro d
  induction d with
  | zero =>
    intro i acc hi ha
    rw [List.drop_of_length_le (by omega), List.map_nil, List.append_nil]
    refine Ev.step (fun k => by rw [cutroomref20_Pull.l1]) ?_
    simp only [if_neg (show ¬ (i : Int) < (ws.length : Int) by omega)]
    exact Ev.now _
  | succ d ih =>
    intro i acc hi ha
    obtain ⟨b1, b2, b3, b4⟩ := hw i (by omega)
    rw [drop_cons ws i (by omega), List.map_cons, ← rd43_get ws i (by omega)]
    obtain ⟨v1, s1, s2⟩ := alike_at hx _ b1 b2
    obtain ⟨v2, s3, s4⟩ := alike_at hx _ b3 b4
    refine Ev.step (fun k => by rw [cutroomref20_Pull.l1]) ?_
    simp only [if_pos (show (i : Int) < (ws.length : Int) by omega), if_pos (show (0 : Int) ≤ (i : Int) by omega), if_pos b1, if_pos b2, if_pos b3, if_pos b4]
    refine Ev.bind (join_ev _ _ v1 v2 (s1.trans s3.symm) (s2.trans s4.symm)) ?_
    simp only [if_pos (show acc.length < 1599289640401 by omega)]
    rw [m64 (x := (i : Int) + 1) (by omega) (by omega)]
    have := ih (i + 1) (acc ++ [wvF (rd_T52 xs (rd_T43 ws (i : Int)).f0) (rd_T52 xs (rd_T43 ws (i : Int)).f1)]) (by omega) (by simp; omega)
    rw [List.append_assoc] at this
    exact this
theorem ref_pull_l0 (xs : List S52) (ws : List S43) (hx : alikeB xs = true) (hl : ws.length ≤ 4611686018427387904) : ∀ (d i : Nat), i + d = ws.length → (∀ j : Nat, j < i → inRB xs.length (rd_T43 ws j) = true) →
    Ev (fun k => cutroomref20_Pull.l0 k xs ws (i : Int)) (if (ws.drop i).all (inRB xs.length) = true then (if 256 < ws.length then ([], 5) else (ws.map (fun w => wvF (rd_T52 xs w.f0) (rd_T52 xs w.f1)), 0)) else ([], 1)) := by
  intro d
  induction d with
  | zero =>
    intro i hi hp
    rw [List.drop_of_length_le (by omega), List.all_nil, if_pos rfl]
    refine Ev.step (fun k => by rw [cutroomref20_Pull.l0]) ?_
    simp only [if_neg (show ¬ (i : Int) < (ws.length : Int) by omega)]
    by_cases c : 256 < ws.length
    · simp only [if_pos (show (ws.length : Int) > 256 by omega), if_pos c]
      exact Ev.now _
    · simp only [if_neg (show ¬ (ws.length : Int) > 256 by omega), if_neg c]
      have := ref_pull_l1 xs ws hx (by omega) (fun j hj => by
        have := of_decide_eq_true (hp j (by omega))
        exact this) ws.length 0 [] (by omega) rfl
      rwa [List.drop_zero, List.nil_append] at this
  | succ d ih =>
    intro i hi hp
    rw [drop_cons ws i (by omega), List.all_cons, ← rd43_get ws i (by omega)]
    refine Ev.step (fun k => by rw [cutroomref20_Pull.l0]) ?_
    simp only [if_pos (show (i : Int) < (ws.length : Int) by omega), if_pos (show (0 : Int) ≤ (i : Int) by omega)]
    by_cases c : inRB xs.length (rd_T43 ws (i : Int)) = true
    · obtain ⟨b1, b2, b3, b4⟩ := of_decide_eq_true c
      simp only [if_neg (show ¬ (rd_T43 ws (i : Int)).f0 < 0 by omega), if_neg (show ¬ (rd_T43 ws (i : Int)).f0 ≥ (xs.length : Int) by omega), if_neg (show ¬ (rd_T43 ws (i : Int)).f1 < 0 by omega), if_neg (show ¬ (rd_T43 ws (i : Int)).f1 ≥ (xs.length : Int) by omega), c, Bool.true_and]
      rw [m64 (x := (i : Int) + 1) (by omega) (by omega)]
      exact ih (i + 1) (by omega) (fun j hj => by
        by_cases e : j = i
        · subst e; exact c
        · exact hp j (by omega))
    · have c0 : inRB xs.length (rd_T43 ws (i : Int)) = false := Bool.eq_false_iff.2 c
      have hn : ¬ (0 ≤ (rd_T43 ws (i : Int)).f0 ∧ (rd_T43 ws (i : Int)).f0 < (xs.length : Int) ∧ 0 ≤ (rd_T43 ws (i : Int)).f1 ∧ (rd_T43 ws (i : Int)).f1 < (xs.length : Int)) := of_decide_eq_false c0
      simp only [c0, Bool.false_and, Bool.false_eq_true, if_false]
      by_cases d1 : (rd_T43 ws (i : Int)).f0 < 0
      · simp only [if_pos d1]; exact Ev.now _
      · simp only [if_neg d1]
        by_cases d2 : (rd_T43 ws (i : Int)).f0 ≥ (xs.length : Int)
        · simp only [if_pos d2]; exact Ev.now _
        · simp only [if_neg d2]
          by_cases d3 : (rd_T43 ws (i : Int)).f1 < 0
          · simp only [if_pos d3]; exact Ev.now _
          · simp only [if_neg d3]
            simp only [if_pos (show (rd_T43 ws (i : Int)).f1 ≥ (xs.length : Int) by omega)]
            exact Ev.now _
theorem ref_pull_ev (xs : List S52) (ws : List S43) (hx : xs.length ≤ 4611686018427387904) (hl : ws.length ≤ 4611686018427387904) : Ev (fun k => cutroomref20_Pull.f k xs ws) (pullR xs ws) := by
  unfold cutroomref20_Pull.f pullR
  refine Ev.bind (ref_alike_ev xs hx) ?_
  by_cases c : alikeB xs = true
  · simp only [if_pos c]
    have := ref_pull_l0 xs ws c hl ws.length 0 (by omega) (fun j hj => by omega)
    rwa [List.drop_zero] at this
  · simp only [if_neg c]
    exact Ev.now _
end Go.Proofs.Ytcofjbbflcnaaaa.P
