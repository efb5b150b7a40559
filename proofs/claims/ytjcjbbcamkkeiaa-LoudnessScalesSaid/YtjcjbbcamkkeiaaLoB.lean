/- The gates, the measure and the peak of sound. No condition of its own. -/
import Derived.Test.YtjcjbbcamkkeiaaLoA
import Derived.Test.YtjcjbbcamkkeiaaPx21
import Derived.Test.YtjcjbbcamkkeiaaPx23
import Derived.Test.YtjcjbbcamkkeiaaPx18
import Derived.Test.YtjcjbbcamkkeiaaPx35
import Derived.Test.YtjcjbbcamkkeiaaPx24
import Derived.Test.YtjcjbbcamkkeiaaPx19
namespace Go.Proofs.Ytjcjbbcamkkeiaa.P
open Go.RowKit Go.Proofs.YtjcjbbcamkkeiaaW.PrintWords Go.Proofs.YtjcjbbcamkkeiaaW.PrintLast Go.Proofs.YtjcjbbcamkkeiaaW.PrintMore
set_option linter.unusedVariables false
set_option linter.unusedSimpArgs false

/-- the powers that count: their sum, how many -/
def gs : List Int → Int
  | [] => 0
  | p :: l => if 30720 ≤ p then p + gs l else gs l
def gc : List Int → Int
  | [] => 0
  | p :: l => if 30720 ≤ p then 1 + gc l else gc l
def pass (S C p : Int) : Prop := 30720 ≤ p ∧ S ≤ 10 * p * C
instance (S C p : Int) : Decidable (pass S C p) := by unfold pass; infer_instance
def gix (S C : Int) : Nat → List Int → List Int
  | _, [] => []
  | i, p :: l => if pass S C p then (i : Int) :: gix S C (i + 1) l else gix S C (i + 1) l
def gat (S C : Int) : List Int → Int
  | [] => 0
  | p :: l => if pass S C p then p + gat S C l else gat S C l
def G (l : List Int) : List Int := gix (gs l) (gc l) 0 l
def T (l : List Int) : Int := gat (gs l) (gc l) l
/-- powers, as windows of sound have them -/
def Pw (l : List Int) : Prop := ∀ p ∈ l, 0 ≤ p ∧ p ≤ 2061584302080

theorem gs_bd : ∀ {l : List Int}, Pw l → 0 ≤ gs l ∧ gs l ≤ 2061584302080 * (l.length : Int)
  | [], _ => by simp [gs]
  | p :: l, h => by
    have h1 := gs_bd (l := l) (fun u hu => h u (List.mem_cons_of_mem _ hu))
    have h2 := h p (List.mem_cons_self ..)
    have h3 : ((p :: l).length : Int) = (l.length : Int) + 1 := by simp
    rw [h3]
    unfold gs
    split <;> omega
theorem gc_bd : ∀ (l : List Int), 0 ≤ gc l ∧ gc l ≤ (l.length : Int)
  | [] => by simp [gc]
  | p :: l => by
    have h1 := gc_bd l
    have h3 : ((p :: l).length : Int) = (l.length : Int) + 1 := by simp
    rw [h3]
    unfold gc
    split <;> omega
theorem gat_bd (S C : Int) : ∀ {l : List Int}, Pw l → 0 ≤ gat S C l ∧ gat S C l ≤ 2061584302080 * (l.length : Int)
  | [], _ => by simp [gat]
  | p :: l, h => by
    have h1 := gat_bd S C (l := l) (fun u hu => h u (List.mem_cons_of_mem _ hu))
    have h2 := h p (List.mem_cons_self ..)
    have h3 : ((p :: l).length : Int) = (l.length : Int) + 1 := by simp
    rw [h3]
    unfold gat
    split <;> omega
theorem gix_len (S C : Int) : ∀ (i : Nat) (l : List Int), (gix S C i l).length ≤ l.length
  | _, [] => Nat.le_refl _
  | i, p :: l => by
    have := gix_len S C (i + 1) l
    unfold gix
    split <;> simp <;> omega
theorem pw_drop {l : List Int} (h : Pw l) (i : Nat) : Pw (l.drop i) := fun p hp => h p (List.mem_of_mem_drop hp)
theorem ten {p C : Int} (h0 : 0 ≤ p) (h1 : p ≤ 2061584302080) (c0 : 0 ≤ C) (c1 : C ≤ 8738) : wrap64 (wrap64 (10 * p) * C) = 10 * p * C := by
  have h2 : 0 ≤ 10 * p := by omega
  have h3 := Int.mul_nonneg h2 c0
  have h4 := mul_lt h2 c0 (show 10 * p ≤ 20615843020800 by omega) c1
  rw [w64 (x := 10 * p) (by omega) (by omega), w64 (by omega) (by omega)]

/-! ### Gated: the product's, the reference's -/
theorem gated_l0 (l : List Int) (h : Pw l) (hl : l.length ≤ 8738) (r : List Int × Int) : ∀ (m i : Nat) (s c : Int), i + m = l.length → 0 ≤ s → s + gs (l.drop i) ≤ 4611686018427387904 → 0 ≤ c → c ≤ (i : Int) →
    Ev (fun k => loudness_Gated.l1 k (s + gs (l.drop i)) (c + gc (l.drop i)) [] l (l.length : Int) 0) r → Ev (fun k => loudness_Gated.l0 k l s c l (l.length : Int) (i : Int)) r := by
  intro m
  induction m with
  | zero =>
    intro i s c hi h0 h1 c0 c1 hr
    refine Ev.step (fun k => by rw [loudness_Gated.l0]) ?_
    simp only [if_neg (show ¬ (i : Int) < (l.length : Int) by omega)]
    rw [List.drop_of_length_le (by omega)] at hr
    simpa only [gs, gc, Int.add_zero] using hr
  | succ m ih =>
    intro i s c hi h0 h1 c0 c1 hr
    have hlt : i < l.length := by omega
    have hp := h _ (List.getElem_mem hlt)
    have hb := gs_bd (pw_drop h (i + 1))
    have hd := List.drop_eq_getElem_cons hlt
    rw [hd] at h1 hr
    unfold gs at h1 hr
    unfold gc at hr
    refine Ev.step (fun k => by rw [loudness_Gated.l0]) ?_
    simp only [if_pos (show (i : Int) < (l.length : Int) by omega), if_pos (show (0 : Int) ≤ (i : Int) by omega), rdI hlt]
    by_cases c3 : 30720 ≤ l[i]
    · rw [if_pos c3] at h1
      rw [if_pos c3, if_pos c3] at hr
      simp only [if_pos (show l[i] ≥ 30720 by omega)]
      rw [w64 (x := s + l[i]) (by omega) (by omega), w64 (x := c + 1) (by omega) (by omega), w64 (x := (i : Int) + 1) (by omega) (by omega)]
      refine ih (i + 1) (s + l[i]) (c + 1) (by omega) (by omega) (by omega) (by omega) (by omega) ?_
      rw [Int.add_assoc, Int.add_assoc]
      exact hr
    · rw [if_neg c3] at h1
      rw [if_neg c3, if_neg c3] at hr
      simp only [if_neg (show ¬ l[i] ≥ 30720 by omega)]
      rw [w64 (x := (i : Int) + 1) (by omega) (by omega)]
      exact ih (i + 1) s c (by omega) h0 h1 c0 (by omega) hr

theorem gated_l1 (l : List Int) (h : Pw l) (hl : l.length ≤ 8738) (S C : Int) (C0 : 0 ≤ C) (C1 : C ≤ 8738) : ∀ (m i : Nat) (o : List Int) (a : Int), i + m = l.length → o.length ≤ i → 0 ≤ a → a + gat S C (l.drop i) ≤ 4611686018427387904 →
    Ev (fun k => loudness_Gated.l1 k S C o l (l.length : Int) (i : Int)) ((o ++ gix S C i (l.drop i)), (0 : Int)) := by
  intro m
  induction m with
  | zero =>
    intro i o a hi ho a0 a1
    refine Ev.step (fun k => by rw [loudness_Gated.l1]) ?_
    simp only [if_neg (show ¬ (i : Int) < (l.length : Int) by omega)]
    rw [List.drop_of_length_le (by omega)]
    simp only [gix, gat, List.append_nil, Int.add_zero]
    exact Ev.now _
  | succ m ih =>
    intro i o a hi ho a0 a1
    have hlt : i < l.length := by omega
    have hp := h _ (List.getElem_mem hlt)
    have hb := gat_bd S C (pw_drop h (i + 1))
    have hd := List.drop_eq_getElem_cons hlt
    have ht := ten hp.1 hp.2 C0 C1
    rw [hd] at a1 ⊢
    unfold gat at a1
    unfold gix
    (try unfold gat)
    refine Ev.step (fun k => by rw [loudness_Gated.l1]) ?_
    simp only [if_pos (show (i : Int) < (l.length : Int) by omega), if_pos (show (0 : Int) ≤ (i : Int) by omega), rdI hlt, ht]
    by_cases c3 : 30720 ≤ l[i]
    · simp only [if_pos (show l[i] ≥ 30720 by omega)]
      by_cases c4 : S ≤ 10 * l[i] * C
      · have hps : pass S C l[i] := ⟨c3, c4⟩
        rw [if_pos hps] at a1
        simp only [if_pos (show 10 * l[i] * C ≥ S from c4), if_pos hps, if_pos (show o.length < 17592186044416 by omega)]
        have h2 := ih (i + 1) (o ++ [(i : Int)]) (a + l[i]) (by omega) (by rw [List.length_append]; simp; omega) (by omega) (by omega)
        rw [List.append_assoc] at h2
        (try rw [Int.add_assoc] at h2)
        rw [w64 (x := (i : Int) + 1) (by omega) (by omega)]
        exact h2
      · have hps : ¬ pass S C l[i] := fun e => c4 e.2
        rw [if_neg hps] at a1
        simp only [if_neg (show ¬ 10 * l[i] * C ≥ S from c4), if_neg hps]
        rw [w64 (x := (i : Int) + 1) (by omega) (by omega)]
        exact ih (i + 1) o a (by omega) (by omega) a0 a1
    · have hps : ¬ pass S C l[i] := fun e => c3 e.1
      rw [if_neg hps] at a1
      simp only [if_neg (show ¬ l[i] ≥ 30720 by omega), if_neg hps]
      rw [w64 (x := (i : Int) + 1) (by omega) (by omega)]
      exact ih (i + 1) o a (by omega) (by omega) a0 a1

theorem rgated_l0 (l : List Int) (h : Pw l) (hl : l.length ≤ 8738) (r : List Int × Int) : ∀ (m i : Nat) (s c : Int), i + m = l.length → 0 ≤ s → s + gs (l.drop i) ≤ 4611686018427387904 → 0 ≤ c → c ≤ (i : Int) →
    Ev (fun k => cutroomref28_gated.l1 k l (s + gs (l.drop i)) (c + gc (l.drop i)) [] 0 0) r → Ev (fun k => cutroomref28_gated.l0 k l s c (i : Int)) r := by
  intro m
  induction m with
  | zero =>
    intro i s c hi h0 h1 c0 c1 hr
    refine Ev.step (fun k => by rw [cutroomref28_gated.l0]) ?_
    simp only [if_neg (show ¬ (i : Int) < (l.length : Int) by omega)]
    rw [List.drop_of_length_le (by omega)] at hr
    simpa only [gs, gc, Int.add_zero] using hr
  | succ m ih =>
    intro i s c hi h0 h1 c0 c1 hr
    have hlt : i < l.length := by omega
    have hp := h _ (List.getElem_mem hlt)
    have hb := gs_bd (pw_drop h (i + 1))
    have hd := List.drop_eq_getElem_cons hlt
    rw [hd] at h1 hr
    unfold gs at h1 hr
    unfold gc at hr
    refine Ev.step (fun k => by rw [cutroomref28_gated.l0]) ?_
    simp only [if_pos (show (i : Int) < (l.length : Int) by omega), if_pos (show (0 : Int) ≤ (i : Int) by omega), rdI hlt]
    by_cases c3 : 30720 ≤ l[i]
    · rw [if_pos c3] at h1
      rw [if_pos c3, if_pos c3] at hr
      simp only [if_pos (show l[i] ≥ 30720 by omega)]
      rw [w64 (x := s + l[i]) (by omega) (by omega), w64 (x := c + 1) (by omega) (by omega), w64 (x := (i : Int) + 1) (by omega) (by omega)]
      refine ih (i + 1) (s + l[i]) (c + 1) (by omega) (by omega) (by omega) (by omega) (by omega) ?_
      rw [Int.add_assoc, Int.add_assoc]
      exact hr
    · rw [if_neg c3] at h1
      rw [if_neg c3, if_neg c3] at hr
      simp only [if_neg (show ¬ l[i] ≥ 30720 by omega)]
      rw [w64 (x := (i : Int) + 1) (by omega) (by omega)]
      exact ih (i + 1) s c (by omega) h0 h1 c0 (by omega) hr

theorem rgated_l1 (l : List Int) (h : Pw l) (hl : l.length ≤ 8738) (S C : Int) (C0 : 0 ≤ C) (C1 : C ≤ 8738) : ∀ (m i : Nat) (o : List Int) (a : Int), i + m = l.length → o.length ≤ i → 0 ≤ a → a + gat S C (l.drop i) ≤ 4611686018427387904 →
    Ev (fun k => cutroomref28_gated.l1 k l S C o a (i : Int)) ((o ++ gix S C i (l.drop i)), (a + gat S C (l.drop i))) := by
  intro m
  induction m with
  | zero =>
    intro i o a hi ho a0 a1
    refine Ev.step (fun k => by rw [cutroomref28_gated.l1]) ?_
    simp only [if_neg (show ¬ (i : Int) < (l.length : Int) by omega)]
    rw [List.drop_of_length_le (by omega)]
    simp only [gix, gat, List.append_nil, Int.add_zero]
    exact Ev.now _
  | succ m ih =>
    intro i o a hi ho a0 a1
    have hlt : i < l.length := by omega
    have hp := h _ (List.getElem_mem hlt)
    have hb := gat_bd S C (pw_drop h (i + 1))
    have hd := List.drop_eq_getElem_cons hlt
    have ht := ten hp.1 hp.2 C0 C1
    rw [hd] at a1 ⊢
    unfold gat at a1
    unfold gix
    (try unfold gat)
    refine Ev.step (fun k => by rw [cutroomref28_gated.l1]) ?_
    simp only [if_pos (show (i : Int) < (l.length : Int) by omega), if_pos (show (0 : Int) ≤ (i : Int) by omega), rdI hlt, ht]
    by_cases c3 : 30720 ≤ l[i]
    · simp only [if_pos (show l[i] ≥ 30720 by omega)]
      by_cases c4 : S ≤ 10 * l[i] * C
      · have hps : pass S C l[i] := ⟨c3, c4⟩
        rw [if_pos hps] at a1
        simp only [if_pos (show 10 * l[i] * C ≥ S from c4), if_pos hps, if_pos (show o.length < 17592186044416 by omega)]
        have h2 := ih (i + 1) (o ++ [(i : Int)]) (a + l[i]) (by omega) (by rw [List.length_append]; simp; omega) (by omega) (by omega)
        rw [List.append_assoc] at h2
        (try rw [Int.add_assoc] at h2)
        rw [w64 (x := a + l[i]) (by omega) (by omega), w64 (x := (i : Int) + 1) (by omega) (by omega)]
        exact h2
      · have hps : ¬ pass S C l[i] := fun e => c4 e.2
        rw [if_neg hps] at a1
        simp only [if_neg (show ¬ 10 * l[i] * C ≥ S from c4), if_neg hps]
        rw [w64 (x := (i : Int) + 1) (by omega) (by omega)]
        exact ih (i + 1) o a (by omega) (by omega) a0 a1
    · have hps : ¬ pass S C l[i] := fun e => c3 e.1
      rw [if_neg hps] at a1
      simp only [if_neg (show ¬ l[i] ≥ 30720 by omega), if_neg hps]
      rw [w64 (x := (i : Int) + 1) (by omega) (by omega)]
      exact ih (i + 1) o a (by omega) (by omega) a0 a1

theorem gated_ev (x : List (List Int)) (hx : Snd x) : Ev (fun k => loudness_Gated.f k x) (if prp x = true then (G (pws x), 0) else ([], 1)) := by
  unfold loudness_Gated.f
  refine Ev.bind (powers_ev x hx) ?_
  by_cases c : prp x = true
  · simp only [if_pos c, if_true]
    obtain ⟨b1, b2⟩ := pws_bd (pr_of hx c)
    have b3 := gs_bd (l := pws x) b2
    have b4 := gc_bd (pws x)
    refine gated_l0 (pws x) b2 b1 _ (pws x).length 0 0 0 (by omega) (by omega) (by rw [List.drop_zero]; omega) (by omega) (by omega) ?_
    rw [List.drop_zero, Int.zero_add, Int.zero_add]
    have b5 := gat_bd (gs (pws x)) (gc (pws x)) (l := pws x) b2
    have := gated_l1 (pws x) b2 b1 (gs (pws x)) (gc (pws x)) b4.1 (by omega) (pws x).length 0 [] 0 (by omega) (by simp) (by omega) (by rw [List.drop_zero]; omega)
    rw [List.drop_zero, List.nil_append] at this
    exact this
  · simp only [if_neg c, if_neg (show ¬ (1 : Int) = 0 by decide)]
    exact Ev.now _
theorem rgated0_ev (l : List Int) (b1 : l.length ≤ 8738) (b2 : Pw l) : Ev (fun k => cutroomref28_gated.f k l) (G l, T l) := by
  unfold cutroomref28_gated.f
  have b3 := gs_bd (l := l) b2
  have b4 := gc_bd l
  refine rgated_l0 l b2 b1 _ l.length 0 0 0 (by omega) (by omega) (by rw [List.drop_zero]; omega) (by omega) (by omega) ?_
  rw [List.drop_zero, Int.zero_add, Int.zero_add]
  have b5 := gat_bd (gs l) (gc l) (l := l) b2
  have := rgated_l1 l b2 b1 (gs l) (gc l) b4.1 (by omega) l.length 0 [] 0 (by omega) (by simp) (by omega) (by rw [List.drop_zero]; omega)
  rw [List.drop_zero, List.nil_append, Int.zero_add] at this
  exact this
theorem rgated_ev (x : List (List Int)) (hx : Snd x) : Ev (fun k => cutroomref28_Gated.f k x) (if prp x = true then (G (pws x), 0) else ([], 1)) := by
  unfold cutroomref28_Gated.f
  refine Ev.bind (rpowers_ev x hx) ?_
  by_cases c : prp x = true
  · simp only [if_pos c, if_true]
    obtain ⟨b1, b2⟩ := pws_bd (pr_of hx c)
    exact Ev.bind (rgated0_ev _ b1 b2) (Ev.now _)
  · simp only [if_neg c, if_neg (show ¬ (1 : Int) = 0 by decide)]
    exact Ev.now _

/-! ### Measure -/
def sumAt (l : List Int) : List Int → Int
  | [] => 0
  | j :: g => rd l j + sumAt l g
theorem sumAt_gix (S C : Int) (l : List Int) : ∀ (m i : Nat), i + m = l.length → sumAt l (gix S C i (l.drop i)) = gat S C (l.drop i) := by
  intro m
  induction m with
  | zero => intro i hi; rw [List.drop_of_length_le (by omega)]; rfl
  | succ m ih =>
    intro i hi
    have hlt : i < l.length := by omega
    rw [List.drop_eq_getElem_cons hlt]
    unfold gix
    (try unfold gat)
    split
    · show rd l (i : Int) + sumAt l (gix S C (i + 1) (l.drop (i + 1))) = _
      rw [ih (i + 1) (by omega), rdI hlt]
    · exact ih (i + 1) (by omega)
/-- indexes within l, going up from i on -/
def Up (n : Nat) : Nat → List Int → Prop
  | _, [] => True
  | i, j :: g => ∃ q : Nat, j = (q : Int) ∧ i ≤ q ∧ q < n ∧ Up n (q + 1) g
theorem up_weak {n : Nat} : ∀ {g : List Int} {i i' : Nat}, i' ≤ i → Up n i g → Up n i' g
  | [], _, _, _, _ => trivial
  | j :: g, i, i', h, hu => by obtain ⟨q, e, h1, h2, h3⟩ := hu; exact ⟨q, e, Nat.le_trans h h1, h2, h3⟩
theorem up_gix (S C : Int) (n : Nat) : ∀ (l : List Int) (i : Nat), i + l.length ≤ n → Up n i (gix S C i l)
  | [], _, _ => trivial
  | p :: l, i, h => by
    have hl : (p :: l).length = l.length + 1 := rfl
    have h1 := up_gix S C n l (i + 1) (by omega)
    unfold gix
    split
    · exact ⟨i, rfl, Nat.le_refl _, by omega, h1⟩
    · exact up_weak (by omega) h1
theorem up_mem {n : Nat} : ∀ {g : List Int} {i : Nat}, Up n i g → ∀ j ∈ g, ∃ q : Nat, j = (q : Int) ∧ q < n
  | [], _, _, j, hj => absurd hj (by simp)
  | a :: g, i, h, j, hj => by
    obtain ⟨q, e, h1, h2, h3⟩ := h
    rcases List.mem_cons.1 hj with rfl | hj
    · exact ⟨q, e, h2⟩
    · exact up_mem h3 j hj
theorem sumAt_bd {l : List Int} (h : Pw l) : ∀ {g : List Int}, (∀ j ∈ g, ∃ q : Nat, j = (q : Int) ∧ q < l.length) → 0 ≤ sumAt l g
  | [], _ => by simp [sumAt]
  | j :: g, hg => by
    have h1 := sumAt_bd h (g := g) (fun u hu => hg u (List.mem_cons_of_mem _ hu))
    obtain ⟨q, rfl, hq⟩ := hg j (List.mem_cons_self ..)
    have := h _ (List.getElem_mem hq)
    show 0 ≤ rd l (q : Int) + sumAt l g
    rw [rdI hq]
    omega
theorem measure_l0 (l g : List Int) (h : Pw l) (hg : ∀ j ∈ g, ∃ q : Nat, j = (q : Int) ∧ q < l.length) (hgl : g.length ≤ 8738) (r : Int × Int × Int) : ∀ (m i : Nat) (s : Int), i + m = g.length → 0 ≤ s → s + sumAt l (g.drop i) ≤ 4611686018427387904 →
    Ev (fun k => rational_Of.f k (s + sumAt l (g.drop i)) (480 * mx 1 (g.length : Int))) r → Ev (fun k => loudness_Measure.l0 k g l s g (g.length : Int) (i : Int)) r := by
  intro m
  induction m with
  | zero =>
    intro i s hi h0 h1 hr
    refine Ev.step (fun k => by rw [loudness_Measure.l0]) ?_
    simp only [if_neg (show ¬ (i : Int) < (g.length : Int) by omega)]
    rw [List.drop_of_length_le (by omega)] at hr
    simp only [sumAt, Int.add_zero] at hr
    have e : wrap64 (480 * mx 1 (g.length : Int)) = 480 * mx 1 (g.length : Int) := w64 (by unfold mx; split <;> omega) (by unfold mx; split <;> omega)
    rw [e]
    exact Ev.bind hr (Ev.now _)
  | succ m ih =>
    intro i s hi h0 h1 hr
    have hlt : i < g.length := by omega
    obtain ⟨q, hq, hql⟩ := hg _ (List.getElem_mem hlt)
    have hp := h _ (List.getElem_mem hql)
    have hd : sumAt l (g.drop i) = l[q] + sumAt l (g.drop (i + 1)) := by
      rw [List.drop_eq_getElem_cons hlt]
      show rd l g[i] + _ = _
      rw [hq, rdI hql]
    have hb := sumAt_bd h (g := g.drop (i + 1)) (fun u hu => hg u (List.mem_of_mem_drop hu))
    rw [hd] at h1 hr
    refine Ev.step (fun k => by rw [loudness_Measure.l0]) ?_
    simp only [if_pos (show (i : Int) < (g.length : Int) by omega), if_pos (show (0 : Int) ≤ (i : Int) by omega), rdI hlt, hq, if_pos (show (0 : Int) ≤ (q : Int) by omega), if_pos (show (q : Int) < (l.length : Int) by omega), rdI hql]
    rw [w64 (x := s + l[q]) (by omega) (by omega), w64 (x := (i : Int) + 1) (by omega) (by omega)]
    refine ih (i + 1) (s + l[q]) (by omega) (by omega) (by omega) ?_
    rw [Int.add_assoc]
    exact hr

/-- the measure of powers -/
def meas (l : List Int) : Int × Int × Int := (T l / (Int.gcd (T l) (480 * mx 1 ((G l).length : Int)) : Int), (480 * mx 1 ((G l).length : Int)) / (Int.gcd (T l) (480 * mx 1 ((G l).length : Int)) : Int), 0)
theorem G_up (l : List Int) : Up l.length 0 (G l) := up_gix _ _ _ l 0 (by omega)
theorem G_len (l : List Int) : (G l).length ≤ l.length := gix_len _ _ _ _
theorem sumAt_G (l : List Int) : sumAt l (G l) = T l := by
  have := sumAt_gix (gs l) (gc l) l l.length 0 (by omega)
  rwa [List.drop_zero] at this
theorem mx1 (n : Nat) : 1 ≤ mx 1 (n : Int) ∧ mx 1 (n : Int) ≤ (n : Int) + 1 := by unfold mx; split <;> omega
theorem measure_ev (x : List (List Int)) (hx : Snd x) : Ev (fun k => loudness_Measure.f k x) (if prp x = true then meas (pws x) else (0, 0, 1)) := by
  unfold loudness_Measure.f
  refine Ev.bind (gated_ev x hx) ?_
  by_cases c : prp x = true
  · simp only [if_pos c, if_true]
    refine Ev.bind (powers_ev x hx) ?_
    simp only [if_pos c]
    obtain ⟨b1, b2⟩ := pws_bd (pr_of hx c)
    have b5 := gat_bd (gs (pws x)) (gc (pws x)) (l := pws x) b2
    have gl := G_len (pws x)
    have hT : T (pws x) = gat (gs (pws x)) (gc (pws x)) (pws x) := rfl
    have m1 := mx1 (G (pws x)).length
    refine measure_l0 (pws x) (G (pws x)) b2 (up_mem (G_up _)) (by omega) _ (G (pws x)).length 0 0 (by omega) (by omega) (by rw [List.drop_zero, sumAt_G]; omega) ?_
    rw [List.drop_zero, sumAt_G, Int.zero_add]
    exact of_ev _ _ (by omega) (by omega) (by omega) (by omega)
  · simp only [if_neg c, if_neg (show ¬ (1 : Int) = 0 by decide)]
    exact Ev.now _
theorem T_nil {l : List Int} (h : (G l).length = 0) : T l = 0 := by
  rw [← sumAt_G, List.eq_nil_of_length_eq_zero h]
  rfl
theorem rmeasure_ev (x : List (List Int)) (hx : Snd x) : Ev (fun k => cutroomref28_Measure.f k x) (if prp x = true then meas (pws x) else (0, 0, 1)) := by
  unfold cutroomref28_Measure.f
  refine Ev.bind (rpowers_ev x hx) ?_
  by_cases c : prp x = true
  · simp only [if_pos c, if_true]
    obtain ⟨b1, b2⟩ := pws_bd (pr_of hx c)
    refine Ev.bind (rgated0_ev _ b1 b2) ?_
    have b5 := gat_bd (gs (pws x)) (gc (pws x)) (l := pws x) b2
    have gl := G_len (pws x)
    have hT : T (pws x) = gat (gs (pws x)) (gc (pws x)) (pws x) := rfl
    by_cases c2 : (G (pws x)).length = 0
    · simp only [if_pos (show ((G (pws x)).length : Int) = 0 by omega)]
      unfold meas
      rw [T_nil c2, c2]
      exact Ev.now _
    · simp only [if_neg (show ¬ ((G (pws x)).length : Int) = 0 by omega)]
      rw [w64 (x := 480 * ((G (pws x)).length : Int)) (by omega) (by omega)]
      unfold meas
      rw [show mx 1 ((G (pws x)).length : Int) = ((G (pws x)).length : Int) by unfold mx; split <;> omega]
      exact Ev.bind (rof_ev _ _ (by omega) (by omega) (by omega) (by omega)) (Ev.now _)
  · simp only [if_neg c, if_neg (show ¬ (1 : Int) = 0 by decide)]
    exact Ev.now _

/-! ### Peak -/
def pkrow : Int → List Int → Int
  | m, [] => m
  | m, v :: l => pkrow (mx (mx m v) (-v)) l
def pk : Int → List (List Int) → Int
  | m, [] => m
  | m, l :: x => pk (pkrow m l) x
theorem peak_l1 (x : List (List Int)) (n c : Int) (ys : List Int) (hy : Row ys) (hl : ys.length ≤ 1048576) (r : Int) : ∀ (m i : Nat) (a : Int), i + m = ys.length →
    Ev (fun k => loudness_Peak.l0 k (pkrow a (ys.drop i)) x n (wrap64 (c + 1))) r → Ev (fun k => loudness_Peak.l1 k a x n c ys (ys.length : Int) (i : Int)) r := by
  intro m
  induction m with
  | zero =>
    intro i a hi hr
    refine Ev.step (fun k => by rw [loudness_Peak.l1]) ?_
    simp only [if_neg (show ¬ (i : Int) < (ys.length : Int) by omega)]
    rw [List.drop_of_length_le (by omega)] at hr
    exact hr
  | succ m ih =>
    intro i a hi hr
    have hlt : i < ys.length := by omega
    have hv := hy _ (List.getElem_mem hlt)
    rw [List.drop_eq_getElem_cons hlt] at hr
    refine Ev.step (fun k => by rw [loudness_Peak.l1]) ?_
    simp only [if_pos (show (i : Int) < (ys.length : Int) by omega), if_pos (show (0 : Int) ≤ (i : Int) by omega), rdI hlt]
    rw [w64 (x := ys[i]) (by omega) (by omega), w64 (x := -ys[i]) (by omega) (by omega), w64 (x := (i : Int) + 1) (by omega) (by omega)]
    exact ih (i + 1) _ (by omega) hr
theorem peak_l0 (x : List (List Int)) (hx : ∀ l ∈ x, Row l ∧ l.length ≤ 1048576) (hl : x.length ≤ 4) : ∀ (m i : Nat) (a : Int), i + m = x.length → Ev (fun k => loudness_Peak.l0 k a x (x.length : Int) (i : Int)) (pk a (x.drop i)) := by
  intro m
  induction m with
  | zero =>
    intro i a hi
    refine Ev.step (fun k => by rw [loudness_Peak.l0]) ?_
    simp only [if_neg (show ¬ (i : Int) < (x.length : Int) by omega)]
    rw [List.drop_of_length_le (by omega)]
    exact Ev.now _
  | succ m ih =>
    intro i a hi
    have hlt : i < x.length := by omega
    obtain ⟨h1, h2⟩ := hx _ (List.getElem_mem hlt)
    rw [List.drop_eq_getElem_cons hlt]
    refine Ev.step (fun k => by rw [loudness_Peak.l0]) ?_
    simp only [if_pos (show (i : Int) < (x.length : Int) by omega), if_pos (show (0 : Int) ≤ (i : Int) by omega), rdL hlt]
    refine peak_l1 x _ _ x[i] h1 h2 _ x[i].length 0 a (by omega) ?_
    rw [List.drop_zero, w64 (by omega) (by omega)]
    exact ih (i + 1) _ (by omega)
theorem rpeak_l1 (x : List (List Int)) (c : Nat) (hc : c < x.length) (hy : Row x[c]) (hl : x[c].length ≤ 1048576) (r : Int) : ∀ (m i : Nat) (a : Int), i + m = x[c].length →
    Ev (fun k => cutroomref28_Peak.l0 k x (pkrow a (x[c].drop i)) (wrap64 ((c : Int) + 1))) r → Ev (fun k => cutroomref28_Peak.l1 k x a (c : Int) (i : Int)) r := by
  intro m
  induction m with
  | zero =>
    intro i a hi hr
    refine Ev.step (fun k => by rw [cutroomref28_Peak.l1]) ?_
    simp only [if_pos (show (0 : Int) ≤ (c : Int) by omega), if_pos (show (c : Int) < (x.length : Int) by omega), rdL hc, if_neg (show ¬ (i : Int) < (x[c].length : Int) by omega)]
    rw [List.drop_of_length_le (by omega)] at hr
    exact hr
  | succ m ih =>
    intro i a hi hr
    have hlt : i < x[c].length := by omega
    have hv := hy _ (List.getElem_mem hlt)
    rw [List.drop_eq_getElem_cons hlt] at hr
    refine Ev.step (fun k => by rw [cutroomref28_Peak.l1]) ?_
    simp only [if_pos (show (0 : Int) ≤ (c : Int) by omega), if_pos (show (c : Int) < (x.length : Int) by omega), rdL hc, if_pos (show (i : Int) < (x[c].length : Int) by omega), if_pos (show (0 : Int) ≤ (i : Int) by omega), rdI hlt]
    rw [w64 (x := x[c][i]) (by omega) (by omega), w64 (x := -x[c][i]) (by omega) (by omega), w64 (x := (i : Int) + 1) (by omega) (by omega)]
    exact ih (i + 1) _ (by omega) hr
theorem rpeak_l0 (x : List (List Int)) (hx : ∀ l ∈ x, Row l ∧ l.length ≤ 1048576) (hl : x.length ≤ 4) : ∀ (m i : Nat) (a : Int), i + m = x.length → Ev (fun k => cutroomref28_Peak.l0 k x a (i : Int)) (pk a (x.drop i)) := by
  intro m
  induction m with
  | zero =>
    intro i a hi
    refine Ev.step (fun k => by rw [cutroomref28_Peak.l0]) ?_
    simp only [if_neg (show ¬ (i : Int) < (x.length : Int) by omega)]
    rw [List.drop_of_length_le (by omega)]
    exact Ev.now _
  | succ m ih =>
    intro i a hi
    have hlt : i < x.length := by omega
    obtain ⟨h1, h2⟩ := hx _ (List.getElem_mem hlt)
    rw [List.drop_eq_getElem_cons hlt]
    refine Ev.step (fun k => by rw [cutroomref28_Peak.l0]) ?_
    simp only [if_pos (show (i : Int) < (x.length : Int) by omega)]
    refine rpeak_l1 x i hlt h1 h2 _ x[i].length 0 a (by omega) ?_
    rw [List.drop_zero, w64 (by omega) (by omega)]
    exact ih (i + 1) _ (by omega)
theorem peak_ev (x : List (List Int)) (hx : Snd x) : Ev (fun k => loudness_Peak.f k x) (if prp x = true then pk 0 x else 0) := by
  unfold loudness_Peak.f
  refine Ev.bind (proper_ev x hx) ?_
  by_cases c : prp x = true
  · simp only [if_pos c]
    have h := pr_of hx c
    have hm := h.most
    exact peak_l0 x (fun l hl => ⟨(h.rows l hl).1, by rw [(h.rows l hl).2]; exact hm⟩) h.len x.length 0 0 (by omega)
  · simp only [if_neg c]
    exact Ev.now _
theorem rpeak_ev (x : List (List Int)) (hx : Snd x) : Ev (fun k => cutroomref28_Peak.f k x) (if prp x = true then pk 0 x else 0) := by
  unfold cutroomref28_Peak.f
  refine Ev.bind (refproper_ev x hx) ?_
  by_cases c : prp x = true
  · simp only [if_pos c]
    have h := pr_of hx c
    have hm := h.most
    exact rpeak_l0 x (fun l hl => ⟨(h.rows l hl).1, by rw [(h.rows l hl).2]; exact hm⟩) h.len x.length 0 0 (by omega)
  · simp only [if_neg c]
    exact Ev.now _

end Go.Proofs.Ytjcjbbcamkkeiaa.P
