/- The gated windows, the loudest one, and the measure between the least and the greatest of them. No condition of its own. -/
import Derived.Test.YtjcjbbcamkkeiaaPx10
import Derived.Test.YtjcjbbcamkkeiaaLoD
import Derived.Test.YtjcjbbcamkkeiaaLoW
namespace Go.Proofs.Ytjcjbbcamkkeiaa.Pure
open Go.RowKit Go.Proofs.Ytjcjbbcamkkeiaa.P Go.Proofs.YtjcjbbcamkkeiaaW.PrintWords Go.Proofs.YtjcjbbcamkkeiaaW.PrintLast
set_option linter.unusedVariables false
set_option linter.unusedSimpArgs false

def mxl : Int → List Int → Int
  | m, [] => m
  | m, v :: l => mxl (mx m v) l
theorem mxl_ge : ∀ (l : List Int) (m : Int), m ≤ mxl m l ∧ ∀ v ∈ l, v ≤ mxl m l
  | [], m => ⟨Int.le_refl _, fun v hv => absurd hv (by simp)⟩
  | u :: l, m => by
    obtain ⟨h1, h2⟩ := mxl_ge l (mx m u)
    have h3 : m ≤ mx m u ∧ u ≤ mx m u := by unfold mx; split <;> omega
    refine ⟨Int.le_trans h3.1 h1, fun v hv => ?_⟩
    rcases List.mem_cons.1 hv with rfl | hv
    · exact Int.le_trans h3.2 h1
    · exact h2 v hv
theorem mxl_at : ∀ (l : List Int) (m : Int), mxl m l = m ∨ mxl m l ∈ l
  | [], m => .inl rfl
  | u :: l, m => by
    show mxl (mx m u) l = m ∨ mxl (mx m u) l ∈ u :: l
    rcases mxl_at l (mx m u) with h | h
    · rw [h]
      unfold mx
      split
      · exact .inr (List.mem_cons_self ..)
      · exact .inl rfl
    · exact .inr (List.mem_cons_of_mem _ h)
def mnl : Int → List Int → Int
  | m, [] => m
  | m, v :: l => mnl (mn m v) l
theorem mnl_le : ∀ (l : List Int) (m : Int), mnl m l ≤ m ∧ ∀ v ∈ l, mnl m l ≤ v
  | [], m => ⟨Int.le_refl _, fun v hv => absurd hv (by simp)⟩
  | u :: l, m => by
    obtain ⟨h1, h2⟩ := mnl_le l (mn m u)
    have h3 : mn m u ≤ m ∧ mn m u ≤ u := by unfold mn; split <;> omega
    refine ⟨Int.le_trans h1 h3.1, fun v hv => ?_⟩
    rcases List.mem_cons.1 hv with rfl | hv
    · exact Int.le_trans h1 h3.2
    · exact h2 v hv
theorem mnl_ge {c : Int} : ∀ (l : List Int) (m : Int), c ≤ m → (∀ v ∈ l, c ≤ v) → c ≤ mnl m l
  | [], m, h, _ => h
  | u :: l, m, h, hl => by
    refine mnl_ge l (mn m u) ?_ (fun v hv => hl v (List.mem_cons_of_mem _ hv))
    have := hl u (List.mem_cons_self ..)
    unfold mn; split <;> omega

/-! ### which windows are gated -/
theorem mem_gix {S C q : Int} : ∀ {l : List Int} {i : Nat}, q ∈ gix S C i l → ∃ t : Nat, ∃ h : t < l.length, q = ((i + t : Nat) : Int) ∧ pass S C l[t]
  | [], _, h => absurd h (by simp [gix])
  | p :: l, i, h => by
    unfold gix at h
    by_cases c : pass S C p
    · rw [if_pos c] at h
      rcases List.mem_cons.1 h with rfl | h
      · exact ⟨0, by simp, by simp, c⟩
      · obtain ⟨t, ht, e, hp⟩ := mem_gix h
        exact ⟨t + 1, by simp; omega, by rw [e]; congr 1; omega, by simpa using hp⟩
    · rw [if_neg c] at h
      obtain ⟨t, ht, e, hp⟩ := mem_gix h
      exact ⟨t + 1, by simp; omega, by rw [e]; congr 1; omega, by simpa using hp⟩
theorem gix_mem {S C : Int} : ∀ {l : List Int} {i t : Nat} (h : t < l.length), pass S C l[t] → ((i + t : Nat) : Int) ∈ gix S C i l
  | [], _, _, h, _ => absurd h (Nat.not_lt_zero _)
  | p :: l, i, 0, h, hp => by
    unfold gix
    rw [if_pos (show pass S C p from hp)]
    exact List.mem_cons_self ..
  | p :: l, i, t + 1, h, hp => by
    have ht : t < l.length := by simpa using h
    have := gix_mem (i := i + 1) (t := t) ht (show pass S C (l[t]'ht) from hp)
    rw [show i + 1 + t = i + (t + 1) by omega] at this
    unfold gix
    split
    · exact List.mem_cons_of_mem _ this
    · exact this
theorem mem_G {l : List Int} {q : Int} (h : q ∈ G l) : ∃ t : Nat, ∃ ht : t < l.length, q = (t : Int) ∧ pass (gs l) (gc l) l[t] := by
  obtain ⟨t, ht, e, hp⟩ := mem_gix h
  exact ⟨t, ht, by rw [e]; congr 1; omega, hp⟩
theorem G_mem {l : List Int} {t : Nat} (h : t < l.length) (hp : pass (gs l) (gc l) l[t]) : (t : Int) ∈ G l := by
  have := gix_mem (S := gs l) (C := gc l) (i := 0) h hp
  rwa [Nat.zero_add] at this
theorem gs_le {M : Int} (hM : 30720 ≤ M) : ∀ (l : List Int), (∀ p ∈ l, p ≤ M) → gs l ≤ M * gc l
  | [], _ => by simp [gs, gc]
  | p :: l, h => by
    have h1 := gs_le hM l (fun q hq => h q (List.mem_cons_of_mem _ hq))
    have h2 := h p (List.mem_cons_self ..)
    unfold gs gc
    split
    · rw [Int.mul_add, Int.mul_one]; omega
    · exact h1
/-- the loudest window is gated, if any counts -/
theorem top_pass {l : List Int} {M : Int} (hM : 30720 ≤ M) (h : ∀ p ∈ l, p ≤ M) : pass (gs l) (gc l) M := by
  have h1 := gs_le hM l h
  have h2 := (gc_bd l).1
  have h3 := Int.mul_nonneg (show 0 ≤ M by omega) h2
  refine ⟨hM, ?_⟩
  rw [Int.mul_assoc]
  generalize M * gc l = z at *
  omega

theorem sumAt_le {l : List Int} {hi : Int} : ∀ {g : List Int}, (∀ j ∈ g, rd l j ≤ hi) → sumAt l g ≤ hi * (g.length : Int)
  | [], _ => by simp [sumAt]
  | j :: g, h => by
    have h1 := sumAt_le (g := g) (fun u hu => h u (List.mem_cons_of_mem _ hu))
    have h2 := h j (List.mem_cons_self ..)
    have h3 : ((j :: g).length : Int) = (g.length : Int) + 1 := by simp
    rw [h3, Int.mul_add, Int.mul_one]
    show rd l j + sumAt l g ≤ _
    omega
theorem le_sumAt {l : List Int} {lo : Int} : ∀ {g : List Int}, (∀ j ∈ g, lo ≤ rd l j) → lo * (g.length : Int) ≤ sumAt l g
  | [], _ => by simp [sumAt]
  | j :: g, h => by
    have h1 := le_sumAt (g := g) (fun u hu => h u (List.mem_cons_of_mem _ hu))
    have h2 := h j (List.mem_cons_self ..)
    have h3 : ((j :: g).length : Int) = (g.length : Int) + 1 := by simp
    rw [h3, Int.mul_add, Int.mul_one]
    show _ ≤ rd l j + sumAt l g
    omega
theorem up_next {n : Nat} : ∀ {g : List Int} {i : Nat}, Up n i g → ∀ (j : Nat) (h : j + 1 < g.length), g[j] < g[j + 1]
  | [], _, _, j, h => absurd h (Nat.not_lt_zero _)
  | [a], _, _, j, h => by simp at h
  | a :: b :: g, i, hu, 0, h => by
    obtain ⟨q, e, _, _, q', e', h1, _⟩ := hu
    show a < b
    omega
  | a :: b :: g, i, hu, j + 1, h => by
    obtain ⟨q, e, _, _, h3⟩ := hu
    exact up_next h3 j (by simpa using h)

theorem vals_mem {l g : List Int} {v : Int} (h : v ∈ g.map (rd l)) : ∃ j ∈ g, rd l j = v := List.mem_map.1 h
/-- the measure lies between them -/
theorem between {l : List Int} {lo hi : Int} (h0 : (G l).length ≠ 0) (hl : ∀ j ∈ G l, lo ≤ rd l j) (hh : ∀ j ∈ G l, rd l j ≤ hi) : lo * (meas l).2.1 ≤ (meas l).1 * 480 ∧ (meas l).1 * 480 ≤ hi * (meas l).2.1 := by
  have s1 := le_sumAt hl
  have s2 := sumAt_le hh
  rw [sumAt_G] at s1 s2
  have hm : mx 1 ((G l).length : Int) = ((G l).length : Int) := by unfold mx; split <;> omega
  unfold meas
  rw [hm]
  have g0 : 0 < (Int.gcd (T l) (480 * ((G l).length : Int)) : Int) := by
    have : Int.gcd (T l) (480 * ((G l).length : Int)) ≠ 0 := fun e => by have := (Int.gcd_eq_zero_iff.1 e).2; omega
    omega
  obtain ⟨a, ha⟩ := Int.gcd_dvd_left (a := T l) (b := 480 * ((G l).length : Int))
  obtain ⟨b, hb⟩ := Int.gcd_dvd_right (a := T l) (b := 480 * ((G l).length : Int))
  generalize hg : (Int.gcd (T l) (480 * ((G l).length : Int)) : Int) = g at *
  have ea : T l / g = a := by rw [ha, Int.mul_ediv_cancel_left _ (by omega)]
  have eb : 480 * ((G l).length : Int) / g = b := by rw [hb, Int.mul_ediv_cancel_left _ (by omega)]
  dsimp only
  rw [ea, eb]
  generalize ((G l).length : Int) = n at *
  generalize T l = t at *
  have c1 : g * (lo * b) ≤ g * (a * 480) := by
    have : g * (lo * b) = lo * (480 * n) := by rw [hb]; grind
    have : g * (a * 480) = 480 * t := by rw [ha]; grind
    have : lo * (480 * n) = 480 * (lo * n) := by grind
    omega
  have c2 : g * (a * 480) ≤ g * (hi * b) := by
    have : g * (hi * b) = hi * (480 * n) := by rw [hb]; grind
    have : g * (a * 480) = 480 * t := by rw [ha]; grind
    have : hi * (480 * n) = 480 * (hi * n) := by grind
    omega
  exact ⟨Int.le_of_mul_le_mul_left c1 g0, Int.le_of_mul_le_mul_left c2 g0⟩

theorem quiet_l1 (l g : List Int) (top num den : Int) (hw : Pw l) (hl : l.length ≤ 8738) (hg : ∀ j ∈ g, ∃ t : Nat, ∃ h : t < l.length, j = (t : Int) ∧ 30720 ≤ l[t]) (hup : ∀ (j : Nat) (h : j + 1 < g.length), g[j] < g[j + 1]) (hgl : g.length ≤ 8738)
    (fin : mxl 0 (g.map (rd l)) = top ∧ den ≥ 1 ∧ wrap64 (num * 480) ≥ wrap64 (mnl 4611686018427387904 (g.map (rd l)) * den) ∧ wrap64 (num * 480) ≤ wrap64 (mxl 0 (g.map (rd l)) * den)) :
    ∀ (m i : Nat) (a b : Int), i + m = g.length → mnl a ((g.drop i).map (rd l)) = mnl 4611686018427387904 (g.map (rd l)) → mxl b ((g.drop i).map (rd l)) = mxl 0 (g.map (rd l)) →
      Ev (fun k => cutroomlaw28_LoudnessQuiet.l1 k l g top a b (g.length : Int) (i : Int) num den) true := by
  intro m
  induction m with
  | zero =>
    intro i a b hi h1 h2
    rw [List.drop_of_length_le (by omega)] at h1 h2
    refine Ev.step (fun k => by rw [cutroomlaw28_LoudnessQuiet.l1]) ?_
    have ea : a = mnl 4611686018427387904 (g.map (rd l)) := h1
    have eb : b = mxl 0 (g.map (rd l)) := h2
    rw [ea, eb]
    simp only [if_neg (show ¬ (i : Int) < (g.length : Int) by omega), if_pos fin.1, if_pos fin.2.1, if_pos fin.2.2.1, if_pos fin.2.2.2]
    exact Ev.bind awake_ev (Ev.now _)
  | succ m ih =>
    intro i a b hi h1 h2
    have hlt : i < g.length := by omega
    obtain ⟨t, ht, e, hp⟩ := hg _ (List.getElem_mem hlt)
    rw [List.drop_eq_getElem_cons hlt] at h1 h2
    have h3 := ih (i + 1) (mn a l[t]) (mx b l[t]) (by omega) (by rw [← h1]; show _ = mnl (mn a (rd l g[i])) _; rw [e, rdI ht]) (by rw [← h2]; show _ = mxl (mx b (rd l g[i])) _; rw [e, rdI ht])
    refine Ev.step (fun k => by rw [cutroomlaw28_LoudnessQuiet.l1]) ?_
    simp only [if_pos (show (i : Int) < (g.length : Int) by omega), if_pos (show (0 : Int) ≤ (i : Int) by omega), rdI hlt, e, if_neg (show ¬ (t : Int) < 0 by omega), if_neg (show ¬ (t : Int) ≥ (l.length : Int) by omega), if_pos (show (0 : Int) ≤ (t : Int) by omega), if_pos (show (t : Int) < (l.length : Int) by omega), rdI ht, if_neg (show ¬ l[t] < 30720 by omega)]
    rw [w64 (x := (i : Int) + 1) (by omega) (by omega)]
    by_cases c : i = 0
    · simp only [if_neg (show ¬ (i : Int) > 0 by omega)]
      exact h3
    · obtain ⟨j, rfl⟩ : ∃ j, i = j + 1 := ⟨i - 1, by omega⟩
      have hj : j < g.length := by omega
      have hn := hup j hlt
      have ew : wrap64 (((j + 1 : Nat) : Int) - 1) = (j : Int) := by rw [w64 (by omega) (by omega)]; omega
      simp only [if_pos (show ((j + 1 : Nat) : Int) > 0 by omega), ew, if_pos (show (0 : Int) ≤ (j : Int) by omega), if_pos (show (j : Int) < (g.length : Int) by omega), rdI hj]
      simp only [if_neg (show ¬ (t : Int) ≤ g[j] by omega)]
      exact h3

theorem quiet_l0 (l g : List Int) (num den : Int) (hl : l.length ≤ 8738) (hr : Ev (fun k => if (g.length : Int) = 0 then (if mxl 0 l < 30720 then (if (num == 0 && (den == 1)) = true then ((cutroomlaw28_awake.f k).bind fun t403 => (some t403)) else (some false)) else (some false)) else (cutroomlaw28_LoudnessQuiet.l1 k l g (mxl 0 l) 4611686018427387904 0 (g.length : Int) 0 num den)) true) :
    ∀ (m i : Nat) (a : Int), i + m = l.length → mxl a (l.drop i) = mxl 0 l → Ev (fun k => cutroomlaw28_LoudnessQuiet.l0 k l g a (l.length : Int) (i : Int) num den) true := by
  intro m
  induction m with
  | zero =>
    intro i a hi h1
    rw [List.drop_of_length_le (by omega)] at h1
    refine Ev.step (fun k => by rw [cutroomlaw28_LoudnessQuiet.l0]) ?_
    have ea : a = mxl 0 l := h1
    simp only [if_neg (show ¬ (i : Int) < (l.length : Int) by omega), ea]
    exact hr
  | succ m ih =>
    intro i a hi h1
    have hlt : i < l.length := by omega
    rw [List.drop_eq_getElem_cons hlt] at h1
    refine Ev.step (fun k => by rw [cutroomlaw28_LoudnessQuiet.l0]) ?_
    simp only [if_pos (show (i : Int) < (l.length : Int) by omega), if_pos (show (0 : Int) ≤ (i : Int) by omega), rdI hlt]
    rw [w64 (by omega) (by omega)]
    exact ih (i + 1) (mx a l[i]) (by omega) h1

theorem quiet_powers (l : List Int) (b1 : l.length ≤ 8738) (b2 : Pw l) : Ev (fun k => cutroomlaw28_LoudnessQuiet.j0 k l (G l) false (meas l).1 (meas l).2.1) true := by
  have mb := meas_bd b1 b2
  have gl := G_len l
  have hgm : ∀ j ∈ G l, ∃ t : Nat, ∃ h : t < l.length, j = (t : Int) ∧ 30720 ≤ l[t] := fun j hj => by
    obtain ⟨t, ht, e, hp⟩ := mem_G hj
    exact ⟨t, ht, e, hp.1⟩
  refine Ev.step (fun k => by rw [cutroomlaw28_LoudnessQuiet.j0]) ?_
  simp only [Bool.false_eq_true, if_false]
  refine quiet_l0 l (G l) _ _ b1 ?_ l.length 0 0 (by omega) (by rw [List.drop_zero])
  obtain ⟨t1, t2⟩ := mxl_ge l 0
  have big : 30720 ≤ mxl 0 l → ∃ t : Nat, ∃ h : t < l.length, (t : Int) ∈ G l ∧ l[t] = mxl 0 l := fun hb => by
    rcases mxl_at l 0 with h | h
    · omega
    · obtain ⟨t, ht, e⟩ := List.getElem_of_mem h
      exact ⟨t, ht, G_mem ht (by rw [e]; exact top_pass hb t2), e⟩
  by_cases c : (G l).length = 0
  · simp only [if_pos (show ((G l).length : Int) = 0 by omega)]
    have hs : mxl 0 l < 30720 := by
      rcases Int.lt_or_le (mxl 0 l) 30720 with h | h
      · exact h
      · obtain ⟨t, ht, hm, _⟩ := big h
        rw [List.eq_nil_of_length_eq_zero c] at hm
        simp at hm
    have hz : meas l = (0, 1, 0) := by
      unfold meas
      rw [T_nil c, c]
      rfl
    simp only [if_pos hs, hz, beq_self_eq_true, Bool.and_self, if_true]
    exact Ev.bind awake_ev (Ev.now _)
  · simp only [if_neg (show ¬ ((G l).length : Int) = 0 by omega)]
    obtain ⟨j0, hj0⟩ : ∃ j, j ∈ G l := by
      cases hgl : G l with
      | nil => rw [hgl] at c; exact absurd rfl c
      | cons j g => exact ⟨j, List.mem_cons_self ..⟩
    obtain ⟨q, hq, rfl, hq2⟩ := hgm j0 hj0
    have hge : 30720 ≤ mxl 0 l := Int.le_trans hq2 (t2 _ (List.getElem_mem hq))
    obtain ⟨t, ht, hm, et⟩ := big hge
    have hv : ∀ v ∈ (G l).map (rd l), 0 ≤ v ∧ v ≤ mxl 0 l ∧ v ≤ 2061584302080 := fun v hv => by
      obtain ⟨j, hj, rfl⟩ := List.mem_map.1 hv
      obtain ⟨u, hu, rfl, _⟩ := hgm j hj
      rw [rdI hu]
      have := b2 _ (List.getElem_mem hu)
      exact ⟨this.1, t2 _ (List.getElem_mem hu), this.2⟩
    have tv : mxl 0 l ∈ (G l).map (rd l) := List.mem_map.2 ⟨_, hm, by rw [rdI ht, et]⟩
    obtain ⟨x1, x2⟩ := mxl_ge ((G l).map (rd l)) 0
    obtain ⟨n1, n2⟩ := mnl_le ((G l).map (rd l)) 4611686018427387904
    have x3 : mxl 0 ((G l).map (rd l)) ≤ mxl 0 l := by
      rcases mxl_at ((G l).map (rd l)) 0 with h | h
      · omega
      · exact (hv _ h).2.1
    have xe : mxl 0 ((G l).map (rd l)) = mxl 0 l := Int.le_antisymm x3 (x2 _ tv)
    have n0 : 0 ≤ mnl 4611686018427387904 ((G l).map (rd l)) := mnl_ge _ _ (by decide) (fun v h => (hv v h).1)
    have n3 : mnl 4611686018427387904 ((G l).map (rd l)) ≤ 2061584302080 := Int.le_trans (n2 _ tv) (hv _ tv).2.2
    have bt := between (lo := mnl 4611686018427387904 ((G l).map (rd l))) (hi := mxl 0 ((G l).map (rd l))) c (fun j hj => n2 _ (List.mem_map.2 ⟨j, hj, rfl⟩)) (fun j hj => x2 _ (List.mem_map.2 ⟨j, hj, rfl⟩))
    have m1 := mx1 (G l).length
    have b5 := gat_bd (gs l) (gc l) (l := l) b2
    have hT : T l = gat (gs l) (gc l) l := rfl
    have d1 : (meas l).2.1 ≤ 4200000 := by have := mb.2.2.2.1; omega
    have hx9 : mxl 0 ((G l).map (rd l)) ≤ 2061584302080 := by rw [xe]; exact (hv _ tv).2.2
    have p1 := mul_lt n0 (show 0 ≤ (meas l).2.1 by omega) n3 d1
    have p2 := mul_lt (show 0 ≤ mxl 0 ((G l).map (rd l)) by omega) (show 0 ≤ (meas l).2.1 by omega) hx9 d1
    have p3 := Int.mul_nonneg n0 (show 0 ≤ (meas l).2.1 by omega)
    have p4 := Int.mul_nonneg (show 0 ≤ mxl 0 ((G l).map (rd l)) by omega) (show 0 ≤ (meas l).2.1 by omega)
    refine quiet_l1 l (G l) (mxl 0 l) _ _ b2 b1 hgm (up_next (G_up l)) (by omega) ⟨xe, mb.2.2.1, ?_, ?_⟩ (G l).length 0 4611686018427387904 0 (by omega) (by rw [List.drop_zero]) (by rw [List.drop_zero])
    · rw [w64 (x := (meas l).1 * 480) (by omega) (by omega), w64 (by omega) (by omega)]
      exact bt.1
    · rw [w64 (x := (meas l).1 * 480) (by omega) (by omega), w64 (by omega) (by omega)]
      exact bt.2

theorem LoudnessQuiet : cutroomlaw28_LoudnessQuiet.Pure := by
  intro tape t0 t1 t2
  refine Ev.rounds (g := fun k => cutroomlaw28_LoudnessQuiet.f k tape) ?_
  unfold cutroomlaw28_LoudnessQuiet.f
  obtain ⟨x, m1, e1⟩ := made_ev tape 9000 (by decide) (by decide)
  obtain ⟨L, hL, hP⟩ := md_pr m1 (by decide)
  obtain ⟨b1, b2⟩ := pws_bd hP
  have P1 := powers_ev x (snd_of hP)
  have G1 := gated_ev x (snd_of hP)
  have M1 := measure_ev x (snd_of hP)
  rw [if_pos (prp_of hP)] at P1 G1 M1
  have hw : (meas (pws x)).2.2 = 0 := rfl
  refine Ev.bind e1 ?_
  refine Ev.bind P1 ?_
  refine Ev.bind G1 ?_
  refine Ev.bind M1 ?_
  simp only [if_true, hw, bne_self_eq_false]
  exact quiet_powers (pws x) b1 b2

end Go.Proofs.Ytjcjbbcamkkeiaa.Pure
