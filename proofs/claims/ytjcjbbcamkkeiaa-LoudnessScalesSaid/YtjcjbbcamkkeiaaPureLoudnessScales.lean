/- Where the same windows pass the gates, doubling every sample makes the measure four times as great. No condition of its own. -/
import Derived.Test.YtjcjbbcamkkeiaaPx8
import Derived.Test.YtjcjbbcamkkeiaaLoD
import Derived.Test.YtjcjbbcamkkeiaaLoC
import Derived.Test.YtjcjbbcamkkeiaaPx25
namespace Go.Proofs.Ytjcjbbcamkkeiaa.Pure
open Go.RowKit Go.Proofs.Ytjcjbbcamkkeiaa.P Go.Proofs.YtjcjbbcamkkeiaaW.PrintWords Go.Proofs.YtjcjbbcamkkeiaaW.PrintLast
set_option linter.unusedVariables false
set_option linter.unusedSimpArgs false

theorem same_l0 (a b : List Int) (hl : a.length ≤ 100000) (he : a.length = b.length) : ∀ (m i : Nat), i + m = a.length → Ev (fun k => cutroomref20_SameInts.l0 k a b (i : Int)) (decide (a.drop i = b.drop i)) := by
  intro m
  induction m with
  | zero =>
    intro i hi
    refine Ev.step (fun k => by rw [cutroomref20_SameInts.l0]) ?_
    simp only [if_neg (show ¬ (i : Int) < (a.length : Int) by omega)]
    rw [List.drop_of_length_le (show a.length ≤ i by omega), List.drop_of_length_le (show b.length ≤ i by omega)]
    exact Ev.now _
  | succ m ih =>
    intro i hi
    have h1 : i < a.length := by omega
    have h2 : i < b.length := by omega
    have h3 := ih (i + 1) (by omega)
    refine Ev.step (fun k => by rw [cutroomref20_SameInts.l0]) ?_
    simp only [if_pos (show (i : Int) < (a.length : Int) by omega), if_pos (show (0 : Int) ≤ (i : Int) by omega), if_pos (show (i : Int) < (b.length : Int) by omega), rdI h1, rdI h2]
    rw [List.drop_eq_getElem_cons h1, List.drop_eq_getElem_cons h2]
    by_cases c : a[i] = b[i]
    · simp only [if_pos c]
      rw [w64 (by omega) (by omega), show decide (a[i] :: a.drop (i + 1) = b[i] :: b.drop (i + 1)) = decide (a.drop (i + 1) = b.drop (i + 1)) from decide_eq_decide.2 ⟨fun z => (List.cons.inj z).2, fun z => by rw [c, z]⟩]
      exact h3
    · simp only [if_neg c]
      rw [decide_eq_false (fun z => c (List.cons.inj z).1)]
      exact Ev.now _
theorem same_ev (a b : List Int) (hl : a.length ≤ 100000) : Ev (fun k => cutroomref20_SameInts.f k a b) (decide (a = b)) := by
  unfold cutroomref20_SameInts.f
  by_cases c : a.length = b.length
  · simp only [if_pos (show (a.length : Int) = (b.length : Int) by omega)]
    have := same_l0 a b hl c a.length 0 (by omega)
    rwa [List.drop_zero, List.drop_zero] at this
  · simp only [if_neg (show ¬ (a.length : Int) = (b.length : Int) by omega)]
    rw [decide_eq_false (fun z => c (by rw [z]))]
    exact Ev.now _

def dr (l : List Int) : List Int := l.map (fun v => 2 * v)
def dbl (x : List (List Int)) : List (List Int) := x.map dr
theorem sq_dr : ∀ l : List Int, sq (dr l) = 4 * sq l
  | [] => rfl
  | v :: l => by
    have h := sq_dr l
    show 2 * v * (2 * v) + sq (dr l) = 4 * (v * v + sq l)
    rw [h]
    grind
theorem win_dr (i : Nat) (l : List Int) : win i (dr l) = dr (win i l) := by
  unfold win dr
  rw [List.map_drop, List.map_take]
theorem sumsq_dbl (i : Nat) : ∀ x : List (List Int), sumsq i (dbl x) = 4 * sumsq i x
  | [] => rfl
  | l :: x => by
    have h := sumsq_dbl i x
    show sq (win i (dr l)) + sumsq i (dbl x) = 4 * (sq (win i l) + sumsq i x)
    rw [h, win_dr, sq_dr]
    omega
theorem dbl_pr {x : List (List Int)} {L : Nat} (h : Pr x L) (hv : ∀ l ∈ x, ∀ v ∈ l, -3000 ≤ v ∧ v ≤ 3000) : Pr (dbl x) L := by
  have hp := h.pos
  refine ⟨by unfold dbl; rw [List.length_map]; exact h.len, by unfold dbl; rw [List.length_map]; exact hp, ?_, h.most, fun l hl => ?_⟩
  · have := h.head
    cases x with
    | nil => exact this
    | cons a x => show (dr a).length = L; unfold dr; rw [List.length_map]; exact this
  · obtain ⟨l', hl', rfl⟩ := List.mem_map.1 hl
    refine ⟨fun v hv' => ?_, by unfold dr; rw [List.length_map]; exact (h.rows l' hl').2⟩
    obtain ⟨v', hv2, rfl⟩ := List.mem_map.1 hv'
    have := hv l' hl' v' hv2
    show -32768 ≤ 2 * v' ∧ 2 * v' ≤ 32767
    omega
theorem pws_dbl {x : List (List Int)} {L : Nat} (h : Pr x L) (h2 : Pr (dbl x) L) : pws (dbl x) = (pws x).map (fun p => 4 * p) := by
  unfold pws nw
  rw [h.head, h2.head, List.map_map]
  exact List.map_congr_left (fun i _ => sumsq_dbl i x)
theorem rd4 (l : List Int) (j : Int) : rd (l.map (fun p => 4 * p)) j = 4 * rd l j := by
  unfold rd
  rw [List.getD_eq_getElem?_getD, List.getD_eq_getElem?_getD, List.getElem?_map]
  cases l[j.toNat]? <;> rfl
theorem sumAt4 (l : List Int) : ∀ g : List Int, sumAt (l.map (fun p => 4 * p)) g = 4 * sumAt l g
  | [] => rfl
  | j :: g => by
    have h := sumAt4 l g
    show rd (l.map (fun p => 4 * p)) j + sumAt (l.map (fun p => 4 * p)) g = 4 * (rd l j + sumAt l g)
    rw [h, rd4]
    omega
theorem T4 {l : List Int} (h : G l = G (l.map (fun p => 4 * p))) : T (l.map (fun p => 4 * p)) = 4 * T l := by
  rw [← sumAt_G, ← sumAt_G, ← h, sumAt4]
theorem ratio (t D g g' : Int) (hg : 0 < g) (hg' : 0 < g') (h1 : g ∣ t) (h2 : g ∣ D) (h3 : g' ∣ 4 * t) (h4 : g' ∣ D) : 4 * (t / g) * (D / g') = 4 * t / g' * (D / g) := by
  obtain ⟨a, rfl⟩ := h1
  obtain ⟨b, hb⟩ := h2
  obtain ⟨c, hc⟩ := h3
  obtain ⟨d, hd⟩ := h4
  have e1 : g * a / g = a := Int.mul_ediv_cancel_left _ (by omega)
  have e2 : D / g = b := by rw [hb]; exact Int.mul_ediv_cancel_left _ (by omega)
  have e3 : 4 * (g * a) / g' = c := by rw [hc]; exact Int.mul_ediv_cancel_left _ (by omega)
  have e4 : D / g' = d := by rw [hd]; exact Int.mul_ediv_cancel_left _ (by omega)
  rw [e1, e2, e3, e4]
  have hne : g * g' ≠ 0 := fun z => by rcases Int.mul_eq_zero.1 z with z | z <;> omega
  refine Int.eq_of_mul_eq_mul_left hne ?_
  have k1 : g * g' * (4 * a * d) = 4 * (g * a) * (g' * d) := by grind
  have k2 : g * g' * (c * b) = (g' * c) * (g * b) := by grind
  rw [k1, k2, ← hc, ← hd, ← hb]
theorem meas4 {l : List Int} (h : G l = G (l.map (fun p => 4 * p))) : 4 * (meas l).1 * (meas (l.map (fun p => 4 * p))).2.1 = (meas (l.map (fun p => 4 * p))).1 * (meas l).2.1 := by
  have e := T4 h
  unfold meas
  rw [e, ← h]
  have m1 := mx1 (G l).length
  have hD : 0 < 480 * mx 1 ((G l).length : Int) := by omega
  generalize 480 * mx 1 ((G l).length : Int) = D at hD ⊢
  have pos : ∀ a : Int, (0 : Int) < (Int.gcd a D : Int) := fun a => by
    have := Int.gcd_pos_of_ne_zero_right a (show D ≠ 0 by omega)
    omega
  exact ratio (T l) D _ _ (pos _) (pos _) (Int.gcd_dvd_left ..) (Int.gcd_dvd_right ..) (Int.gcd_dvd_left ..) (Int.gcd_dvd_right ..)

theorem scales_end (x : List (List Int)) {L : Nat} (h : Pr x L) (hy : Pr (dbl x) L) : Ev (fun k => cutroomlaw28_LoudnessScales.l0 k x (dbl x) (x.length : Int) (x.length : Int)) true := by
  have G1 := gated_ev x (snd_of h)
  have G2 := gated_ev (dbl x) (snd_of hy)
  have M1 := measure_ev x (snd_of h)
  have M2 := measure_ev (dbl x) (snd_of hy)
  rw [if_pos (prp_of h)] at G1 M1
  rw [if_pos (prp_of hy)] at G2 M2
  have b1 := pws_bd h
  have b2 := pws_bd hy
  rw [pws_dbl h hy] at b2 G2 M2
  have d1 := meas_bd b1.1 b1.2
  have d2 := meas_bd b2.1 b2.2
  have hT := gat_bd (gs (pws x)) (gc (pws x)) (l := pws x) b1.2
  have hT2 : T (pws x) = gat (gs (pws x)) (gc (pws x)) (pws x) := rfl
  have hT3 : (meas (pws x)).1 ≤ 4611686018427387904 / 4 := by omega
  have gl := G_len (pws x)
  refine Ev.step (fun k => by rw [cutroomlaw28_LoudnessScales.l0]) ?_
  simp only [if_neg (show ¬ (x.length : Int) < (x.length : Int) by omega)]
  refine Ev.bind G1 ?_
  refine Ev.bind G2 ?_
  refine Ev.bind M1 ?_
  refine Ev.bind M2 ?_
  simp only [if_true, if_pos d1.2.2.2.2, if_pos d2.2.2.2.2, if_neg (show ¬ (meas (pws x)).2.1 < 1 by omega)]
  rw [decide_eq_false (show ¬ (meas ((pws x).map (fun p => 4 * p))).2.1 < 1 by omega)]
  refine Ev.step (fun k => by rw [cutroomlaw28_LoudnessScales.j2]) ?_
  simp only [Bool.false_eq_true, if_false]
  refine Ev.bind (same_ev _ _ (by omega)) ?_
  by_cases c : G (pws x) = G ((pws x).map (fun p => 4 * p))
  · have e := meas4 c
    simp only [decide_eq_true c, if_true]
    rw [w64 (x := 4 * (meas (pws x)).1) (by omega) (by omega)]
    simp only [e, if_true]
    exact Ev.bind awake_ev (Ev.now _)
  · simp only [decide_eq_false c, Bool.false_eq_true, if_false]
    exact Ev.bind awake_ev (Ev.now _)

theorem scales_l1 (x : List (List Int)) (c : Nat) (n : Int) (ys : List Int) (hv : ∀ v ∈ ys, -3000 ≤ v ∧ v ≤ 3000) (hl : ys.length ≤ 1048576) (hc : c < 10) : ∀ (m i : Nat) (y : List (List Int)), i + m = ys.length → c < y.length → rd_L2 y (c : Int) = dr (ys.take i) ++ ys.drop i →
    Ev (fun k => cutroomlaw28_LoudnessScales.l0 k x (y.set c (dr ys)) n ((c + 1 : Nat) : Int)) true → Ev (fun k => cutroomlaw28_LoudnessScales.l1 k x y (c : Int) n (c : Int) (ys.length : Int) (i : Int)) true := by
  intro m
  induction m with
  | zero =>
    intro i y hi hcy hr hk
    rw [List.take_of_length_le (show ys.length ≤ i by omega), List.drop_of_length_le (show ys.length ≤ i by omega), List.append_nil] at hr
    refine Ev.step (fun k => by rw [cutroomlaw28_LoudnessScales.l1]) ?_
    simp only [if_neg (show ¬ (i : Int) < (ys.length : Int) by omega)]
    rw [w64 (by omega) (by omega), show (c : Int) + 1 = ((c + 1 : Nat) : Int) by omega]
    rw [rdL hcy] at hr
    rwa [← hr, List.set_getElem_self hcy] at hk
  | succ m ih =>
    intro i y hi hcy hr hk
    have hlt : i < ys.length := by omega
    have hd : (dr (ys.take i)).length = i := by unfold dr; rw [List.length_map, List.length_take]; omega
    have hlen : (rd_L2 y (c : Int)).length = ys.length := by rw [hr, List.length_append, hd, List.length_drop]; omega
    have hrd : rd (rd_L2 y (c : Int)) (i : Int) = ys[i] := by
      rw [rdI (by omega)]
      simp only [hr]
      rw [List.getElem_append_right (by omega)]
      simp [hd]
    have hb := hv _ (List.getElem_mem hlt)
    refine Ev.step (fun k => by rw [cutroomlaw28_LoudnessScales.l1]) ?_
    simp only [if_pos (show (i : Int) < (ys.length : Int) by omega), if_pos (show (0 : Int) ≤ (c : Int) by omega), if_pos (show (c : Int) < (y.length : Int) by omega), if_pos (show (0 : Int) ≤ (i : Int) by omega), if_pos (show (i : Int) < ((rd_L2 y (c : Int)).length : Int) by omega), hrd, Int.toNat_natCast]
    rw [wi16 (by omega) (by omega), w64 (x := (i : Int) + 1) (by omega) (by omega)]
    refine ih (i + 1) _ (by omega) (by rw [List.length_set]; exact hcy) ?_ (by rw [List.set_set]; exact hk)
    rw [rdL (by rw [List.length_set]; exact hcy), List.getElem_set_self, hr, List.set_append_right _ _ (by omega), hd, Nat.sub_self, List.drop_eq_getElem_cons hlt, List.set_cons_zero, List.take_succ_eq_append_getElem hlt]
    unfold dr
    rw [List.map_append, List.append_assoc]
    rfl

theorem scales_l0 (x y : List (List Int)) (c : Nat) (n : Int) (hn : (c : Int) < n) (hc : c < 10) (hcy : c < y.length) (hv : ∀ v ∈ y[c], -3000 ≤ v ∧ v ≤ 3000) (hl : y[c].length ≤ 1048576)
    (hk : Ev (fun k => cutroomlaw28_LoudnessScales.l0 k x (y.set c (dr y[c])) n ((c + 1 : Nat) : Int)) true) : Ev (fun k => cutroomlaw28_LoudnessScales.l0 k x y n (c : Int)) true := by
  refine Ev.step (fun k => by rw [cutroomlaw28_LoudnessScales.l0]) ?_
  simp only [if_pos hn, if_pos (show (0 : Int) ≤ (c : Int) by omega), if_pos (show (c : Int) < (y.length : Int) by omega), rdL hcy]
  exact scales_l1 x c n y[c] hv hl hc y[c].length 0 y (by omega) hcy (by rw [rdL hcy]; rfl) hk

theorem LoudnessScales (tape : List Int) : ∃ k, cutroomlaw28_LoudnessScales.f k tape = some true := by
  refine Ev.rounds (g := fun k => cutroomlaw28_LoudnessScales.f k tape) ?_
  unfold cutroomlaw28_LoudnessScales.f cutroomlaw28_LoudnessScales.f2
  obtain ⟨x, m1, e1⟩ := made_ev tape 3000 (by decide) (by decide)
  have hlen := m1.1
  obtain ⟨L, hL, hP⟩ := md_pr m1 (by decide)
  obtain ⟨_, L', hL', hR⟩ := m1
  have hv : ∀ l ∈ x, ∀ v ∈ l, -3000 ≤ v ∧ v ≤ 3000 := fun l hl => by
    obtain ⟨j, hj, rfl⟩ := List.getElem_of_mem hl
    exact (hR j hj).2
  have hY := dbl_pr hP hv
  have fin := scales_end x hP hY
  refine Ev.bind e1 ?_
  refine Ev.bind e1 ?_
  have hr : ∀ l ∈ x, l.length ≤ 1048576 := fun l hl => by have := (hP.rows l hl).2; have := hP.most; omega
  match x, hlen, fin, hv, hr with
  | [a], _, fin, hv, hr =>
    refine scales_l0 [a] [a] 0 _ (by simp) (by decide) (by simp) (hv a (by simp)) (hr a (by simp)) ?_
    exact fin
  | [a, b], _, fin, hv, hr =>
    refine scales_l0 [a, b] [a, b] 0 _ (by simp) (by decide) (by simp) (hv a (by simp)) (hr a (by simp)) ?_
    refine scales_l0 [a, b] [dr a, b] 1 _ (by simp) (by decide) (by simp) (hv b (by simp)) (hr b (by simp)) ?_
    exact fin

end Go.Proofs.Ytjcjbbcamkkeiaa.Pure
