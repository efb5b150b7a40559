/- Which sound is proper, and the powers of its windows. No condition of its own. -/
import Derived.Test.YtjcjbbcamkkeiaaMul
import Derived.Test.YtjcjbbcamkkeiaaPx15
import Derived.Test.YtjcjbbcamkkeiaaPx33
import Derived.Test.YtjcjbbcamkkeiaaPx16
import Derived.Test.YtjcjbbcamkkeiaaPx34
import Derived.Test.YtjcjbbcamkkeiaaPx44
import Derived.Test.YtjcjbbcamkkeiaaPx37
import Derived.Test.YtjcjbbcamkkeiaaPx47
namespace Go.Proofs.Ytjcjbbcamkkeiaa.P
open Go.RowKit Go.Proofs.YtjcjbbcamkkeiaaW.PrintWords Go.Proofs.YtjcjbbcamkkeiaaW.PrintLast Go.Proofs.YtjcjbbcamkkeiaaW.PrintMore
set_option linter.unusedVariables false
set_option linter.unusedSimpArgs false

def Row (l : List Int) : Prop := ∀ v ∈ l, -32768 ≤ v ∧ v ≤ 32767
def okRow (x : List (List Int)) (l : List Int) : Bool := decide (l.length = (x.headD []).length) && decide (l.length ≤ 1048576)
def prp (x : List (List Int)) : Bool := x.all (okRow x) && decide (1 ≤ x.length) && decide (x.length ≤ 4)
def sq : List Int → Int
  | [] => 0
  | v :: l => v * v + sq l
def win (i : Nat) (l : List Int) : List Int := (l.take (120 * i + 480)).drop (120 * i)
def sumsq (i : Nat) : List (List Int) → Int
  | [] => 0
  | l :: x => sq (win i l) + sumsq i x
def nw (x : List (List Int)) : Nat := if 480 ≤ (x.headD []).length then ((x.headD []).length - 480) / 120 + 1 else 0
def pws (x : List (List Int)) : List Int := (List.range (nw x)).map (fun i => sumsq i x)

theorem rdL {x : List (List Int)} {i : Nat} (h : i < x.length) : rd_L2 x (i : Int) = x[i] := by simp [rd_L2, List.getD, h]
theorem rdL0 {x : List (List Int)} (h : 0 < x.length) : rd_L2 x 0 = x.headD [] := by
  cases x with
  | nil => exact absurd h (Nat.lt_irrefl 0)
  | cons a l => rfl
theorem rdI {x : List Int} {i : Nat} (h : i < x.length) : rd x (i : Int) = x[i] := by simp [rd, List.getD, h]

theorem proper_l0 (x : List (List Int)) (hx : x.length < 9223372036854775807) (hr : ∀ l ∈ x, l.length < 9223372036854775807) : ∀ (m i : Nat), i + m = x.length →
    Ev (fun k => loudness_proper.l0 k x x (x.length : Int) (i : Int)) ((x.drop i).all (okRow x) && decide (1 ≤ x.length) && decide (x.length ≤ 4)) := by
  intro m
  induction m with
  | zero =>
    intro i hi
    refine Ev.step (fun k => by rw [loudness_proper.l0]) ?_
    simp only [if_neg (show ¬ (i : Int) < (x.length : Int) by omega), List.drop_of_length_le (show x.length ≤ i by omega), List.all_nil, Bool.true_and]
    by_cases c : 1 ≤ x.length
    · simp only [if_pos (show (x.length : Int) ≥ 1 by omega), decide_eq_true c, Bool.true_and]
      rw [show decide (x.length ≤ 4) = decide ((x.length : Int) ≤ 4) from decide_eq_decide.2 (by omega)]
      exact Ev.now _
    · simp only [if_neg (show ¬ (x.length : Int) ≥ 1 by omega), decide_eq_false c, Bool.false_and]
      exact Ev.now _
  | succ m ih =>
    intro i hi
    have hlt : i < x.length := by omega
    have hl := hr _ (List.getElem_mem hlt)
    have h1 := ih (i + 1) (by omega)
    refine Ev.step (fun k => by rw [loudness_proper.l0]) ?_
    simp only [if_pos (show (i : Int) < (x.length : Int) by omega), if_pos (show (0 : Int) ≤ (i : Int) by omega), if_pos (show (0 : Int) < (x.length : Int) by omega), rdL hlt, rdL0 (show 0 < x.length by omega)]
    rw [List.drop_eq_getElem_cons hlt, List.all_cons]
    by_cases c1 : x[i].length = (x.headD []).length
    · simp only [if_pos (show (x[i].length : Int) = ((x.headD []).length : Int) by omega)]
      by_cases c2 : x[i].length ≤ 1048576
      · simp only [if_neg (show ¬ (x[i].length : Int) > 1048576 by omega)]
        have e : okRow x x[i] = true := by unfold okRow; rw [decide_eq_true c1, decide_eq_true c2]; rfl
        rw [e, Bool.true_and, w64 (by omega) (by omega)]
        exact h1
      · simp only [if_pos (show (x[i].length : Int) > 1048576 by omega)]
        have e : okRow x x[i] = false := by unfold okRow; rw [decide_eq_false c2, Bool.and_false]
        rw [e, Bool.false_and, Bool.false_and, Bool.false_and]
        exact Ev.now _
    · simp only [if_neg (show ¬ (x[i].length : Int) = ((x.headD []).length : Int) by omega)]
      have e : okRow x x[i] = false := by unfold okRow; rw [decide_eq_false c1, Bool.false_and]
      rw [e, Bool.false_and, Bool.false_and, Bool.false_and]
      exact Ev.now _

theorem refproper_l0 (x : List (List Int)) (hx : x.length < 9223372036854775807) (hr : ∀ l ∈ x, l.length < 9223372036854775807) : ∀ (m i : Nat), i + m = x.length →
    Ev (fun k => cutroomref28_Proper.l0 k x (i : Int)) ((x.drop i).all (okRow x) && decide (1 ≤ x.length) && decide (x.length ≤ 4)) := by
  intro m
  induction m with
  | zero =>
    intro i hi
    refine Ev.step (fun k => by rw [cutroomref28_Proper.l0]) ?_
    simp only [if_neg (show ¬ (i : Int) < (x.length : Int) by omega), List.drop_of_length_le (show x.length ≤ i by omega), List.all_nil, Bool.true_and]
    by_cases c : 1 ≤ x.length
    · simp only [if_pos (show (x.length : Int) ≥ 1 by omega), decide_eq_true c, Bool.true_and]
      rw [show decide (x.length ≤ 4) = decide ((x.length : Int) ≤ 4) from decide_eq_decide.2 (by omega)]
      exact Ev.now _
    · simp only [if_neg (show ¬ (x.length : Int) ≥ 1 by omega), decide_eq_false c, Bool.false_and]
      exact Ev.now _
  | succ m ih =>
    intro i hi
    have hlt : i < x.length := by omega
    have hl := hr _ (List.getElem_mem hlt)
    have h1 := ih (i + 1) (by omega)
    refine Ev.step (fun k => by rw [cutroomref28_Proper.l0]) ?_
    simp only [if_pos (show (i : Int) < (x.length : Int) by omega), if_pos (show (0 : Int) ≤ (i : Int) by omega), if_pos (show (0 : Int) < (x.length : Int) by omega), rdL hlt, rdL0 (show 0 < x.length by omega)]
    rw [List.drop_eq_getElem_cons hlt, List.all_cons]
    by_cases c1 : x[i].length = (x.headD []).length
    · simp only [if_pos (show (x[i].length : Int) = ((x.headD []).length : Int) by omega)]
      by_cases c2 : x[i].length ≤ 1048576
      · simp only [if_neg (show ¬ (x[i].length : Int) > 1048576 by omega)]
        have e : okRow x x[i] = true := by unfold okRow; rw [decide_eq_true c1, decide_eq_true c2]; rfl
        rw [e, Bool.true_and, w64 (by omega) (by omega)]
        exact h1
      · simp only [if_pos (show (x[i].length : Int) > 1048576 by omega)]
        have e : okRow x x[i] = false := by unfold okRow; rw [decide_eq_false c2, Bool.and_false]
        rw [e, Bool.false_and, Bool.false_and, Bool.false_and]
        exact Ev.now _
    · simp only [if_neg (show ¬ (x[i].length : Int) = ((x.headD []).length : Int) by omega)]
      have e : okRow x x[i] = false := by unfold okRow; rw [decide_eq_false c1, Bool.false_and]
      rw [e, Bool.false_and, Bool.false_and, Bool.false_and]
      exact Ev.now _

/-- Sound as a slice of slices holds it. -/
def Snd (x : List (List Int)) : Prop := x.length < 9223372036854775807 ∧ ∀ l ∈ x, Row l ∧ l.length < 9223372036854775807
theorem proper_ev (x : List (List Int)) (hx : Snd x) : Ev (fun k => loudness_proper.f k x) (prp x) := by
  unfold loudness_proper.f
  exact proper_l0 x hx.1 (fun l hl => (hx.2 l hl).2) x.length 0 (by omega)
theorem refproper_ev (x : List (List Int)) (hx : Snd x) : Ev (fun k => cutroomref28_Proper.f k x) (prp x) := by
  unfold cutroomref28_Proper.f
  exact refproper_l0 x hx.1 (fun l hl => (hx.2 l hl).2) x.length 0 (by omega)

/-- what a proper sound is -/
structure Pr (x : List (List Int)) (L : Nat) : Prop where
  len : x.length ≤ 4
  pos : 1 ≤ x.length
  head : (x.headD []).length = L
  most : L ≤ 1048576
  rows : ∀ l ∈ x, Row l ∧ l.length = L
theorem pr_of {x : List (List Int)} (hx : Snd x) (h : prp x = true) : Pr x (x.headD []).length := by
  unfold prp at h
  rw [Bool.and_eq_true, Bool.and_eq_true] at h
  obtain ⟨⟨h1, h2⟩, h3⟩ := h
  have h2 := of_decide_eq_true h2
  have h3 := of_decide_eq_true h3
  have hr : ∀ l ∈ x, l.length = (x.headD []).length ∧ l.length ≤ 1048576 := fun l hl => by
    have := List.all_eq_true.1 h1 l hl
    unfold okRow at this
    rw [Bool.and_eq_true] at this
    exact ⟨of_decide_eq_true this.1, of_decide_eq_true this.2⟩
  refine ⟨h3, h2, rfl, ?_, fun l hl => ⟨(hx.2 l hl).1, (hr l hl).1⟩⟩
  cases x with
  | nil => exact absurd h2 (by decide)
  | cons a x => exact (hr a (List.mem_cons_self ..)).2
theorem snd_of {x : List (List Int)} {L : Nat} (h : Pr x L) : Snd x := ⟨by have := h.len; omega, fun l hl => ⟨(h.rows l hl).1, by have := (h.rows l hl).2; have := h.most; omega⟩⟩
theorem prp_of {x : List (List Int)} {L : Nat} (h : Pr x L) : prp x = true := by
  unfold prp
  rw [Bool.and_eq_true, Bool.and_eq_true]
  refine ⟨⟨List.all_eq_true.2 fun l hl => ?_, decide_eq_true h.pos⟩, decide_eq_true h.len⟩
  unfold okRow
  rw [Bool.and_eq_true]
  exact ⟨decide_eq_true (by rw [h.head]; exact (h.rows l hl).2), decide_eq_true (by have := (h.rows l hl).2; have := h.most; omega)⟩

/-! ### squares -/
theorem sq1 {v : Int} (h0 : -32768 ≤ v) (h1 : v ≤ 32767) : 0 ≤ v * v ∧ v * v ≤ 1073741824 := by
  have h2 : 0 ≤ (32768 - v) * (32768 + v) := Int.mul_nonneg (by omega) (by omega)
  have h3 : (32768 - v) * (32768 + v) = 1073741824 - v * v := by grind
  refine ⟨?_, by omega⟩
  rcases Int.le_total 0 v with h | h
  · exact Int.mul_nonneg h h
  · have := Int.mul_nonneg (show 0 ≤ -v by omega) (show 0 ≤ -v by omega)
    rwa [Int.neg_mul_neg] at this
theorem sq_bd : ∀ {l : List Int}, Row l → 0 ≤ sq l ∧ sq l ≤ 1073741824 * (l.length : Int)
  | [], _ => by simp [sq]
  | v :: l, h => by
    have h1 := sq_bd (l := l) (fun u hu => h u (List.mem_cons_of_mem _ hu))
    have h2 := sq1 (h v (List.mem_cons_self ..)).1 (h v (List.mem_cons_self ..)).2
    have h3 : ((v :: l).length : Int) = (l.length : Int) + 1 := by simp
    rw [h3]
    show 0 ≤ v * v + sq l ∧ v * v + sq l ≤ _
    omega
theorem row_win {l : List Int} (h : Row l) (i : Nat) : Row (win i l) := fun v hv => h v (List.mem_of_mem_take (List.mem_of_mem_drop hv))
theorem win_len {l : List Int} {i : Nat} (h : 120 * i + 480 ≤ l.length) : (win i l).length = 480 := by
  unfold win
  rw [List.length_drop, List.length_take, Nat.min_eq_left h]
  omega
theorem sumsq_bd (i : Nat) : ∀ {x : List (List Int)}, (∀ l ∈ x, Row l) → 0 ≤ sumsq i x ∧ sumsq i x ≤ 515396075520 * (x.length : Int)
  | [], _ => by simp [sumsq]
  | l :: x, h => by
    have h1 := sumsq_bd i (x := x) (fun u hu => h u (List.mem_cons_of_mem _ hu))
    have h2 := sq_bd (row_win (h l (List.mem_cons_self ..)) i)
    have h4 : (win i l).length ≤ 480 := by unfold win; rw [List.length_drop, List.length_take]; omega
    have h3 : ((l :: x).length : Int) = (x.length : Int) + 1 := by simp
    rw [h3]
    show 0 ≤ sq (win i l) + sumsq i x ∧ sq (win i l) + sumsq i x ≤ _
    omega
theorem set_self {o : List Int} {i : Nat} (h : i < o.length) : o.set i (rd o (i : Int)) = o := by rw [rdI h]; exact List.set_getElem_self h
theorem rd_set {o : List Int} {i : Nat} (h : i < o.length) (v : Int) : rd (o.set i v) (i : Int) = v := by
  rw [rdI (by rw [List.length_set]; exact h), List.getElem_set_self]

/-! ### Powers -/
theorem pow_l2 (x z : List (List Int)) (i n : Nat) (zl j' : Int) (ys : List Int) (hy : Row ys) (hyl : ys.length ≤ 480) (r : List Int × Int) :
    ∀ (m j : Nat) (o : List Int), j + m = ys.length → i < o.length → 0 ≤ rd o (i : Int) → rd o (i : Int) + sq (ys.drop j) < 4611686018427387904 →
      Ev (fun k => loudness_Powers.l1 k x (o.set i (rd o (i : Int) + sq (ys.drop j))) (i : Int) (n : Int) (i : Int) z zl (wrap64 (j' + 1))) r →
      Ev (fun k => loudness_Powers.l2 k x o (i : Int) (n : Int) (i : Int) z zl j' ys (ys.length : Int) (j : Int)) r := by
  intro m
  induction m with
  | zero =>
    intro j o hj hi h0 h1 hr
    refine Ev.step (fun k => by rw [loudness_Powers.l2]) ?_
    simp only [if_neg (show ¬ (j : Int) < (ys.length : Int) by omega)]
    rw [List.drop_of_length_le (by omega)] at hr
    simp only [sq, Int.add_zero, set_self hi] at hr
    exact hr
  | succ m ih =>
    intro j o hj hi h0 h1 hr
    have hlt : j < ys.length := by omega
    have hv := hy _ (List.getElem_mem hlt)
    have hs := sq1 hv.1 hv.2
    have hd : sq (ys.drop j) = ys[j] * ys[j] + sq (ys.drop (j + 1)) := by rw [List.drop_eq_getElem_cons hlt]; rfl
    have hb := sq_bd (l := ys.drop (j + 1)) (fun v hv => hy v (List.mem_of_mem_drop hv))
    rw [hd] at h1 hr
    have e1 : wrap64 (ys[j]) = ys[j] := w64 (by omega) (by omega)
    have e2 : wrap64 (ys[j] * ys[j]) = ys[j] * ys[j] := w64 (by omega) (by omega)
    have e3 : wrap64 (rd o (i : Int) + ys[j] * ys[j]) = rd o (i : Int) + ys[j] * ys[j] := w64 (by omega) (by omega)
    have hi2 : i < (o.set i (rd o (i : Int) + ys[j] * ys[j])).length := by rw [List.length_set]; exact hi
    have hrd := rd_set hi (rd o (i : Int) + ys[j] * ys[j])
    have h2 := ih (j + 1) (o.set i (rd o (i : Int) + ys[j] * ys[j])) (by omega) hi2 (by rw [hrd]; omega) (by rw [hrd]; omega) (by
      rw [hrd, List.set_set]
      rw [show rd o (i : Int) + ys[j] * ys[j] + sq (ys.drop (j + 1)) = rd o (i : Int) + (ys[j] * ys[j] + sq (ys.drop (j + 1))) by omega]
      exact hr)
    refine Ev.step (fun k => by rw [loudness_Powers.l2]) ?_
    simp only [if_pos (show (j : Int) < (ys.length : Int) by omega), if_pos (show (0 : Int) ≤ (j : Int) by omega), if_pos (show (0 : Int) ≤ (i : Int) by omega), if_pos (show (i : Int) < (o.length : Int) by omega), rdI hlt, e1, e2, e3, Int.toNat_natCast]
    rw [w64 (x := (j : Int) + 1) (by omega) (by omega)]
    exact h2

theorem pow_l1 (x : List (List Int)) (i n L : Nat) (hL : 120 * i + 480 ≤ L) (hL2 : L ≤ 1048576) (hx : ∀ l ∈ x, Row l ∧ l.length = L) (hxl : x.length ≤ 4) (r : List Int × Int) :
    ∀ (m c : Nat) (o : List Int), c + m = x.length → i < o.length → 0 ≤ rd o (i : Int) → rd o (i : Int) + sumsq i (x.drop c) < 4611686018427387904 →
      Ev (fun k => loudness_Powers.l0 k x (o.set i (rd o (i : Int) + sumsq i (x.drop c))) (n : Int) (wrap64 ((i : Int) + 1))) r →
      Ev (fun k => loudness_Powers.l1 k x o (i : Int) (n : Int) (i : Int) x (x.length : Int) (c : Int)) r := by
  intro m
  induction m with
  | zero =>
    intro c o hj hi h0 h1 hr
    refine Ev.step (fun k => by rw [loudness_Powers.l1]) ?_
    simp only [if_neg (show ¬ (c : Int) < (x.length : Int) by omega)]
    rw [List.drop_of_length_le (by omega)] at hr
    simp only [sumsq, Int.add_zero, set_self hi] at hr
    exact hr
  | succ m ih =>
    intro c o hj hi h0 h1 hr
    have hlt : c < x.length := by omega
    obtain ⟨hrow, hlen⟩ := hx _ (List.getElem_mem hlt)
    have hd : sumsq i (x.drop c) = sq (win i x[c]) + sumsq i (x.drop (c + 1)) := by rw [List.drop_eq_getElem_cons hlt]; rfl
    have hb := sumsq_bd i (x := x.drop (c + 1)) (fun l hl => (hx l (List.mem_of_mem_drop hl)).1)
    have hq := sq_bd (row_win hrow i)
    have hwl := win_len (l := x[c]) (i := i) (by omega)
    rw [hd] at h1 hr
    have hi2 : i < (o.set i (rd o (i : Int) + sq (win i x[c]))).length := by rw [List.length_set]; exact hi
    have hrd := rd_set hi (rd o (i : Int) + sq (win i x[c]))
    have h2 := ih (c + 1) (o.set i (rd o (i : Int) + sq (win i x[c]))) (by omega) hi2 (by rw [hrd]; omega) (by rw [hrd]; omega) (by
      rw [hrd, List.set_set]
      rw [show rd o (i : Int) + sq (win i x[c]) + sumsq i (x.drop (c + 1)) = rd o (i : Int) + (sq (win i x[c]) + sumsq i (x.drop (c + 1))) by omega]
      exact hr)
    have e0 : wrap64 (120 * (i : Int)) = ((120 * i : Nat) : Int) := by rw [w64 (by omega) (by omega)]; omega
    have e1 : wrap64 (((120 * i : Nat) : Int) + 480) = ((120 * i + 480 : Nat) : Int) := by rw [w64 (by omega) (by omega)]; omega
    refine Ev.step (fun k => by rw [loudness_Powers.l1]) ?_
    simp only [if_pos (show (c : Int) < (x.length : Int) by omega), if_pos (show (0 : Int) ≤ (c : Int) by omega), rdL hlt, e0, e1, Int.toNat_natCast, if_pos (show (0 : Int) ≤ ((120 * i : Nat) : Int) by omega), if_pos (show ((120 * i : Nat) : Int) ≤ ((120 * i + 480 : Nat) : Int) by omega), if_pos (show ((120 * i + 480 : Nat) : Int) ≤ (x[c].length : Int) by omega)]
    refine pow_l2 x x i n (x.length : Int) (c : Int) (win i x[c]) (row_win hrow i) (by omega) r (win i x[c]).length 0 o (by omega) hi h0 (by rw [List.drop_zero]; omega) ?_
    rw [List.drop_zero, w64 (x := (c : Int) + 1) (by omega) (by omega)]
    exact h2

theorem nw_iff {x : List (List Int)} {L : Nat} (hL : (x.headD []).length = L) (i : Nat) : i < nw x ↔ 120 * i + 480 ≤ L := by
  unfold nw
  rw [hL]
  split <;> omega
theorem nw_le {x : List (List Int)} {L : Nat} (hL : (x.headD []).length = L) : 120 * nw x ≤ L := by
  unfold nw
  rw [hL]
  split <;> omega

theorem mid_set (f : Nat → Int) (i m : Nat) : ((List.range i).map f ++ List.replicate (m + 1) 0).set i (f i) = (List.range (i + 1)).map f ++ List.replicate m 0 := by
  have hl : ((List.range i).map f).length = i := by simp
  rw [List.set_append_right _ _ (by omega), hl, Nat.sub_self, List.replicate_succ, List.set_cons_zero, List.range_succ, List.map_append, List.append_assoc]
  rfl
theorem mid_rd (f : Nat → Int) (i m : Nat) : rd ((List.range i).map f ++ List.replicate (m + 1) 0) (i : Int) = 0 := by
  have hl : ((List.range i).map f).length = i := by simp
  rw [rdI (by rw [List.length_append, hl, List.length_replicate]; omega), List.getElem_append_right (by omega)]
  simp

theorem pow_l0 (x : List (List Int)) (L : Nat) (h : Pr x L) : ∀ (m i : Nat), i + m = nw x →
    Ev (fun k => loudness_Powers.l0 k x ((List.range i).map (fun i => sumsq i x) ++ List.replicate m 0) (nw x : Int) (i : Int)) (pws x, 0) := by
  intro m
  have hn := nw_le h.head
  have hm := h.most
  induction m with
  | zero =>
    intro i hi
    refine Ev.step (fun k => by rw [loudness_Powers.l0]) ?_
    simp only [if_neg (show ¬ (i : Int) < (nw x : Int) by omega), List.replicate_zero, List.append_nil]
    rw [show i = nw x by omega]
    exact Ev.now _
  | succ m ih =>
    intro i hi
    have hlt := (nw_iff h.head i).1 (by omega)
    have h1 := ih (i + 1) (by omega)
    have hb := sumsq_bd i (x := x) (fun l hl => (h.rows l hl).1)
    have hx4 := h.len
    have hrd := mid_rd (fun i => sumsq i x) i m
    refine Ev.step (fun k => by rw [loudness_Powers.l0]) ?_
    simp only [if_pos (show (i : Int) < (nw x : Int) by omega)]
    refine pow_l1 x i (nw x) L hlt hm h.rows h.len _ x.length 0 _ (by omega) (by first | (simp; done) | (simp; omega)) (by rw [hrd]; omega) (by rw [hrd, List.drop_zero]; omega) ?_
    rw [hrd, List.drop_zero, Int.zero_add, mid_set (fun i => sumsq i x) i m, w64 (by omega) (by omega)]
    exact h1

theorem powers_ev (x : List (List Int)) (hx : Snd x) : Ev (fun k => loudness_Powers.f k x) (if prp x = true then (pws x, 0) else ([], 1)) := by
  unfold loudness_Powers.f
  refine Ev.bind (proper_ev x hx) ?_
  by_cases c : prp x = true
  · simp only [if_pos c]
    have h := pr_of hx c
    have hp := h.pos
    have hm := h.most
    have h0 := pow_l0 x _ h (nw x) 0 (by omega)
    simp only [if_pos (show (0 : Int) < (x.length : Int) by omega), rdL0 (show 0 < x.length by omega)]
    have fin : ∀ n : Nat, n = nw x → Ev (fun k => loudness_Powers.j0 k x (n : Int)) (pws x, 0) := by
      rintro n rfl
      have hn := nw_le h.head
      refine Ev.step (fun k => by rw [loudness_Powers.j0]) ?_
      simp only [if_pos (show (0 : Int) ≤ (nw x : Int) by omega), Int.toNat_natCast, if_pos (show nw x ≤ 35184372088832 by omega), Option.bind_some, List.length_replicate]
      exact h0
    by_cases c2 : 480 ≤ (x.headD []).length
    · simp only [if_pos (show ((x.headD []).length : Int) ≥ 480 by omega)]
      have e : wrap64 (wrap64 (Int.tdiv (wrap64 (((x.headD []).length : Int) - 480)) 120) + 1) = ((((x.headD []).length - 480) / 120 + 1 : Nat) : Int) := by
        rw [w64 (x := ((x.headD []).length : Int) - 480) (by omega) (by omega), Int.tdiv_eq_ediv_of_nonneg (by omega), w64 (x := _ / _) (by omega) (by omega), w64 (by omega) (by omega)]
        omega
      rw [e]
      exact fin _ (by unfold nw; rw [if_pos c2])
    · simp only [if_neg (show ¬ ((x.headD []).length : Int) ≥ 480 by omega)]
      exact fin 0 (by unfold nw; rw [if_neg c2])
  · simp only [if_neg c]
    exact Ev.now _

/-! ### the reference's -/
theorem rpow_l2 (x : List (List Int)) (o : List Int) (at_ c : Nat) (hc : c < x.length) (hrow : Row x[c]) (hL : at_ + 480 ≤ x[c].length) (hL2 : x[c].length ≤ 1048576) (r : List Int × Int) :
    ∀ (m j : Nat) (s : Int), j + m = at_ + 480 → 0 ≤ s → s + sq ((x[c].take (at_ + 480)).drop j) < 4611686018427387904 →
      Ev (fun k => cutroomref28_Powers.l1 k x o (at_ : Int) (s + sq ((x[c].take (at_ + 480)).drop j)) (wrap64 ((c : Int) + 1))) r →
      Ev (fun k => cutroomref28_Powers.l2 k x o (at_ : Int) s (c : Int) (j : Int)) r := by
  intro m
  have e1 : wrap64 ((at_ : Int) + 480) = ((at_ + 480 : Nat) : Int) := by rw [w64 (by omega) (by omega)]; omega
  induction m with
  | zero =>
    intro j s hj h0 h1 hr
    refine Ev.step (fun k => by rw [cutroomref28_Powers.l2]) ?_
    rw [e1]
    simp only [if_neg (show ¬ (j : Int) < ((at_ + 480 : Nat) : Int) by omega)]
    rw [List.drop_of_length_le (by rw [List.length_take]; omega)] at hr
    simp only [sq, Int.add_zero] at hr
    exact hr
  | succ m ih =>
    intro j s hj h0 h1 hr
    have hlt : j < x[c].length := by omega
    have hlt2 : j < (x[c].take (at_ + 480)).length := by rw [List.length_take]; omega
    have hv := hrow _ (List.getElem_mem hlt)
    have hs := sq1 hv.1 hv.2
    have hd : sq ((x[c].take (at_ + 480)).drop j) = x[c][j] * x[c][j] + sq ((x[c].take (at_ + 480)).drop (j + 1)) := by
      rw [List.drop_eq_getElem_cons hlt2, List.getElem_take]; rfl
    have hb := sq_bd (l := (x[c].take (at_ + 480)).drop (j + 1)) (fun v hv => hrow v (List.mem_of_mem_take (List.mem_of_mem_drop hv)))
    rw [hd] at h1 hr
    have e2 : wrap64 (x[c][j]) = x[c][j] := w64 (by omega) (by omega)
    have e3 : wrap64 (x[c][j] * x[c][j]) = x[c][j] * x[c][j] := w64 (by omega) (by omega)
    have e4 : wrap64 (s + x[c][j] * x[c][j]) = s + x[c][j] * x[c][j] := w64 (by omega) (by omega)
    have h2 := ih (j + 1) (s + x[c][j] * x[c][j]) (by omega) (by omega) (by omega) (by
      rw [show s + x[c][j] * x[c][j] + sq ((x[c].take (at_ + 480)).drop (j + 1)) = s + (x[c][j] * x[c][j] + sq ((x[c].take (at_ + 480)).drop (j + 1))) by omega]
      exact hr)
    refine Ev.step (fun k => by rw [cutroomref28_Powers.l2]) ?_
    rw [e1]
    simp only [if_pos (show (j : Int) < ((at_ + 480 : Nat) : Int) by omega), if_pos (show (0 : Int) ≤ (c : Int) by omega), if_pos (show (c : Int) < (x.length : Int) by omega), if_pos (show (0 : Int) ≤ (j : Int) by omega), rdL hc, if_pos (show (j : Int) < (x[c].length : Int) by omega), rdI hlt, e2, e3, e4]
    rw [w64 (x := (j : Int) + 1) (by omega) (by omega)]
    exact h2

theorem rpow_l1 (x : List (List Int)) (o : List Int) (i L : Nat) (hL : 120 * i + 480 ≤ L) (hL2 : L ≤ 1048576) (hx : ∀ l ∈ x, Row l ∧ l.length = L) (hxl : x.length ≤ 4) (ho : o.length < 17592186044416) (r : List Int × Int) :
    ∀ (m c : Nat) (s : Int), c + m = x.length → 0 ≤ s → s + sumsq i (x.drop c) < 4611686018427387904 →
      Ev (fun k => cutroomref28_Powers.l0 k x (o ++ [s + sumsq i (x.drop c)]) ((120 * (i + 1) : Nat) : Int)) r →
      Ev (fun k => cutroomref28_Powers.l1 k x o ((120 * i : Nat) : Int) s (c : Int)) r := by
  intro m
  induction m with
  | zero =>
    intro c s hj h0 h1 hr
    refine Ev.step (fun k => by rw [cutroomref28_Powers.l1]) ?_
    simp only [if_neg (show ¬ (c : Int) < (x.length : Int) by omega), if_pos ho]
    rw [List.drop_of_length_le (by omega)] at hr
    simp only [sumsq, Int.add_zero] at hr
    rw [w64 (by omega) (by omega), show ((120 * i : Nat) : Int) + 120 = ((120 * (i + 1) : Nat) : Int) by omega]
    exact hr
  | succ m ih =>
    intro c s hj h0 h1 hr
    have hlt : c < x.length := by omega
    obtain ⟨hrow, hlen⟩ := hx _ (List.getElem_mem hlt)
    have hd : sumsq i (x.drop c) = sq (win i x[c]) + sumsq i (x.drop (c + 1)) := by rw [List.drop_eq_getElem_cons hlt]; rfl
    have hb := sumsq_bd i (x := x.drop (c + 1)) (fun l hl => (hx l (List.mem_of_mem_drop hl)).1)
    have hq := sq_bd (row_win hrow i)
    rw [hd] at h1 hr
    have h2 := ih (c + 1) (s + sq (win i x[c])) (by omega) (by omega) (by omega) (by
      rw [show s + sq (win i x[c]) + sumsq i (x.drop (c + 1)) = s + (sq (win i x[c]) + sumsq i (x.drop (c + 1))) by omega]
      exact hr)
    refine Ev.step (fun k => by rw [cutroomref28_Powers.l1]) ?_
    simp only [if_pos (show (c : Int) < (x.length : Int) by omega)]
    refine rpow_l2 x o (120 * i) c hlt hrow (by omega) (by omega) r 480 (120 * i) s (by omega) h0 (by show s + sq (win i x[c]) < _; omega) ?_
    show Ev (fun k => cutroomref28_Powers.l1 k x o ((120 * i : Nat) : Int) (s + sq (win i x[c])) (wrap64 ((c : Int) + 1))) r
    rw [w64 (x := (c : Int) + 1) (by omega) (by omega)]
    exact h2

theorem rpow_l0 (x : List (List Int)) (L : Nat) (h : Pr x L) : ∀ (m i : Nat), i + m = nw x →
    Ev (fun k => cutroomref28_Powers.l0 k x ((List.range i).map (fun i => sumsq i x)) ((120 * i : Nat) : Int)) (pws x, 0) := by
  intro m
  have hn := nw_le h.head
  have hm := h.most
  have hp := h.pos
  induction m with
  | zero =>
    intro i hi
    have hno := mt (nw_iff h.head i).2 (by omega)
    refine Ev.step (fun k => by rw [cutroomref28_Powers.l0]) ?_
    rw [w64 (by omega) (by omega)]
    simp only [if_pos (show (0 : Int) < (x.length : Int) by omega), rdL0 (show 0 < x.length by omega), h.head, if_neg (show ¬ ((120 * i : Nat) : Int) + 480 ≤ (L : Int) by omega)]
    rw [show i = nw x by omega]
    exact Ev.now _
  | succ m ih =>
    intro i hi
    have hlt := (nw_iff h.head i).1 (by omega)
    have h1 := ih (i + 1) (by omega)
    have hb := sumsq_bd i (x := x) (fun l hl => (h.rows l hl).1)
    have hx4 := h.len
    refine Ev.step (fun k => by rw [cutroomref28_Powers.l0]) ?_
    rw [w64 (by omega) (by omega)]
    simp only [if_pos (show (0 : Int) < (x.length : Int) by omega), rdL0 (show 0 < x.length by omega), h.head, if_pos (show ((120 * i : Nat) : Int) + 480 ≤ (L : Int) by omega)]
    refine rpow_l1 x _ i L hlt hm h.rows h.len (by simp; omega) _ x.length 0 0 (by omega) (by omega) (by rw [List.drop_zero]; omega) ?_
    rw [List.drop_zero, Int.zero_add]
    rw [List.range_succ, List.map_append] at h1
    exact h1

theorem rpowers_ev (x : List (List Int)) (hx : Snd x) : Ev (fun k => cutroomref28_Powers.f k x) (if prp x = true then (pws x, 0) else ([], 1)) := by
  unfold cutroomref28_Powers.f
  refine Ev.bind (refproper_ev x hx) ?_
  by_cases c : prp x = true
  · simp only [if_pos c]
    exact rpow_l0 x _ (pr_of hx c) (nw x) 0 (by omega)
  · simp only [if_neg c]
    exact Ev.now _

theorem pws_bd {x : List (List Int)} {L : Nat} (h : Pr x L) : (pws x).length ≤ 8738 ∧ ∀ p ∈ pws x, 0 ≤ p ∧ p ≤ 2061584302080 := by
  have hn := nw_le h.head
  have hm := h.most
  have hx4 := h.len
  refine ⟨by unfold pws; rw [List.length_map, List.length_range]; omega, fun p hp => ?_⟩
  unfold pws at hp
  obtain ⟨i, _, rfl⟩ := List.mem_map.1 hp
  have := sumsq_bd i (x := x) (fun l hl => (h.rows l hl).1)
  omega


theorem tmod_pos {a b : Int} (ha : 0 ≤ a) : Int.tmod a b = a % b := Int.tmod_eq_emod_of_nonneg ha
theorem gcd_step {a b : Int} (ha : 0 ≤ a) (hb : 0 ≤ b) : Int.gcd b (a % b) = Int.gcd a b := by
  obtain ⟨p, rfl⟩ := Int.eq_ofNat_of_zero_le ha
  obtain ⟨q, rfl⟩ := Int.eq_ofNat_of_zero_le hb
  rw [← Int.natCast_emod, Int.gcd_natCast_natCast, Int.gcd_natCast_natCast, Nat.gcd_comm q, ← Nat.gcd_rec, Nat.gcd_comm]
theorem rgcd_ev : ∀ (n : Nat) (a b : Int), 0 ≤ a → 0 ≤ b → b ≤ n → Ev (fun k => rational_gcd.l0 k a b) (Int.gcd a b : Int) := by
  intro n
  induction n with
  | zero =>
    intro a b ha hb hn
    obtain rfl : b = 0 := by omega
    refine Ev.step (fun k => by rw [rational_gcd.l0]) ?_
    simp only [if_true]
    rw [show ((Int.gcd a 0 : Nat) : Int) = a by rw [Int.gcd_zero_right]; omega]
    exact Ev.now _
  | succ n ih =>
    intro a b ha hb hn
    refine Ev.step (fun k => by rw [rational_gcd.l0]) ?_
    by_cases c : b = 0
    · subst c
      simp only [if_true]
      rw [show ((Int.gcd a 0 : Nat) : Int) = a by rw [Int.gcd_zero_right]; omega]
      exact Ev.now _
    · simp only [if_neg c]
      have h1 := Int.emod_nonneg a c
      have h2 := Int.emod_lt_of_pos a (show 0 < b by omega)
      have := ih b (a % b) hb h1 (by omega)
      rw [gcd_step ha hb] at this
      rw [tmod_pos ha]
      exact this
theorem mgcd_ev : ∀ (n : Nat) (a b : Int), 0 ≤ a → 0 ≤ b → b ≤ n → Ev (fun k => cutroomref01_gcd.l0 k a b) (Int.gcd a b : Int) := by
  intro n
  induction n with
  | zero =>
    intro a b ha hb hn
    obtain rfl : b = 0 := by omega
    refine Ev.step (fun k => by rw [cutroomref01_gcd.l0]) ?_
    simp only [if_true]
    rw [show ((Int.gcd a 0 : Nat) : Int) = a by rw [Int.gcd_zero_right]; omega]
    exact Ev.now _
  | succ n ih =>
    intro a b ha hb hn
    refine Ev.step (fun k => by rw [cutroomref01_gcd.l0]) ?_
    by_cases c : b = 0
    · subst c
      simp only [if_true]
      rw [show ((Int.gcd a 0 : Nat) : Int) = a by rw [Int.gcd_zero_right]; omega]
      exact Ev.now _
    · simp only [if_neg c]
      have h1 := Int.emod_nonneg a c
      have h2 := Int.emod_lt_of_pos a (show 0 < b by omega)
      have := ih b (a % b) hb h1 (by omega)
      rw [gcd_step ha hb] at this
      rw [tmod_pos ha]
      exact this

/-- A number in lowest terms. -/
theorem of_ev (n d : Int) (n0 : 0 ≤ n) (n1 : n ≤ 4611686018427387904) (d0 : 1 ≤ d) (d1 : d ≤ 4611686018427387904) :
    Ev (fun k => rational_Of.f k n d) (n / (Int.gcd n d : Int), d / (Int.gcd n d : Int), 0) := by
  have g0 : 0 < (Int.gcd n d : Int) := by
    have : Int.gcd n d ≠ 0 := fun e => by have := (Int.gcd_eq_zero_iff.1 e).2; omega
    omega
  have q1 : 0 ≤ n / (Int.gcd n d : Int) := Int.ediv_nonneg n0 (Int.le_of_lt g0)
  have q2 : n / (Int.gcd n d : Int) ≤ n := Int.ediv_le_self _ n0
  have q3 : 0 ≤ d / (Int.gcd n d : Int) := Int.ediv_nonneg (by omega) (Int.le_of_lt g0)
  have q4 : d / (Int.gcd n d : Int) ≤ d := Int.ediv_le_self _ (by omega)
  unfold rational_Of.f rational_abs.f
  simp only [if_neg (show ¬ d = 0 by omega), if_neg (show ¬ n < 0 by omega), if_neg (show ¬ d < 0 by omega), wu (x := n) n0 (by omega), wu (x := d) (by omega) (by omega), Option.bind_some]
  have hg : Ev (fun k => rational_gcd.f k n d) (Int.gcd n d : Int) := by
    unfold rational_gcd.f
    exact rgcd_ev d.toNat n d n0 (by omega) (by omega)
  refine Ev.bind hg ?_
  simp only [if_neg (show ¬ (Int.gcd n d : Int) = 0 by omega), Int.tdiv_eq_ediv_of_nonneg n0, Int.tdiv_eq_ediv_of_nonneg (show 0 ≤ d by omega), wu q1 (by omega), wu q3 (by omega), decide_eq_false (show ¬ n < 0 by omega), decide_eq_false (show ¬ d < 0 by omega), bne_self_eq_false]
  refine Ev.bind (a := (n / (Int.gcd n d : Int), d / (Int.gcd n d : Int), 0)) ?_ (Ev.now _)
  unfold rational_made.f
  simp only [if_neg (show ¬ n / (Int.gcd n d : Int) > 9223372036854775807 by omega), decide_eq_false (show ¬ d / (Int.gcd n d : Int) > 9223372036854775807 by omega)]
  refine Ev.step (fun k => by rw [rational_made.j0]) ?_
  simp only [Bool.false_eq_true, if_false, w64 (x := n / (Int.gcd n d : Int)) (by omega) (by omega), w64 (x := d / (Int.gcd n d : Int)) (by omega) (by omega)]
  exact Ev.now _

theorem rof_ev (n d : Int) (n0 : 0 ≤ n) (n1 : n ≤ 4611686018427387904) (d0 : 1 ≤ d) (d1 : d ≤ 4611686018427387904) :
    Ev (fun k => cutroomref01_Of.f k n d) (n / (Int.gcd n d : Int), d / (Int.gcd n d : Int), 0) := by
  have g0 : 0 < (Int.gcd n d : Int) := by
    have : Int.gcd n d ≠ 0 := fun e => by have := (Int.gcd_eq_zero_iff.1 e).2; omega
    omega
  have q1 : 0 ≤ n / (Int.gcd n d : Int) := Int.ediv_nonneg n0 (Int.le_of_lt g0)
  have q2 : n / (Int.gcd n d : Int) ≤ n := Int.ediv_le_self _ n0
  have q3 : 0 ≤ d / (Int.gcd n d : Int) := Int.ediv_nonneg (by omega) (Int.le_of_lt g0)
  have q4 : d / (Int.gcd n d : Int) ≤ d := Int.ediv_le_self _ (by omega)
  unfold cutroomref01_Of.f cutroomref01_mag.f
  simp only [if_neg (show ¬ d = 0 by omega), if_neg (show ¬ n < 0 by omega), if_neg (show ¬ d < 0 by omega), wu (x := n) n0 (by omega), wu (x := d) (by omega) (by omega), Option.bind_some]
  have hg : Ev (fun k => cutroomref01_gcd.f k n d) (Int.gcd n d : Int) := by
    unfold cutroomref01_gcd.f
    exact mgcd_ev d.toNat n d n0 (by omega) (by omega)
  refine Ev.bind hg ?_
  have md : Ev (fun k => cutroomref01_made.f k false (n / (Int.gcd n d : Int)) (d / (Int.gcd n d : Int))) (n / (Int.gcd n d : Int), d / (Int.gcd n d : Int), 0) := by
    unfold cutroomref01_made.f
    simp only [if_neg (show ¬ n / (Int.gcd n d : Int) > 9223372036854775807 by omega), decide_eq_false (show ¬ d / (Int.gcd n d : Int) > 9223372036854775807 by omega)]
    refine Ev.step (fun k => by rw [cutroomref01_made.j0]) ?_
    simp only [Bool.false_eq_true, if_false, w64 (x := n / (Int.gcd n d : Int)) (by omega) (by omega), w64 (x := d / (Int.gcd n d : Int)) (by omega) (by omega)]
    exact Ev.now _
  simp only [if_neg (show ¬ (Int.gcd n d : Int) = 0 by omega), Int.tdiv_eq_ediv_of_nonneg n0, Int.tdiv_eq_ediv_of_nonneg (show 0 ≤ d by omega), wu q1 (by omega), wu q3 (by omega), decide_eq_false (show ¬ n < 0 by omega), decide_eq_false (show ¬ d < 0 by omega), bne_self_eq_false]
  by_cases c : n = 0
  · simp only [if_pos c]
    exact Ev.bind md (Ev.now _)
  · simp only [if_neg c]
    exact Ev.bind md (Ev.now _)

end Go.Proofs.Ytjcjbbcamkkeiaa.P
