/- What package cadence's functions come to: usable rates, the fields before a frame, Weave. No condition of its own. -/
import Derived.Test.YtcofjbbflcnaaaaRat
import Derived.Test.YtcofjbbflcnaaaaPx32
namespace Go.Proofs.Ytcofjbbflcnaaaa.P
open Go.RowKit Go.Proofs.YtcofjbbflcnaaaaW.PrintWords Go.Proofs.YtcofjbbflcnaaaaW.PrintLast Go.Proofs.YtcofjbbflcnaaaaW.PrintMore
set_option linter.unusedVariables false


def usable (n d : Int) : Bool := decide (1 ≤ n ∧ n ≤ 1048576 ∧ 1 ≤ d ∧ d ≤ 65536 ∧ Int.gcd n d = 1)

theorem usable_iff {n d : Int} : usable n d = true ↔ (1 ≤ n ∧ n ≤ 1048576 ∧ 1 ≤ d ∧ d ≤ 65536 ∧ Int.gcd n d = 1) := by unfold usable; exact decide_eq_true_iff

theorem usable_ev (n d : Int) (hn : (Lit.int .i64 n).wf = true) (hd : (Lit.int .i64 d).wf = true) : Ev (fun k => cadence_Usable.f k n d) (usable n d) := by
  have := wf64 hn
  have := wf64 hd
  have valid : Ev (fun k => rational_Valid.f k n d) (decide (1 ≤ d ∧ -9223372036854775807 ≤ n ∧ Int.gcd n d = 1)) := by
    unfold rational_Valid.f
    by_cases c : d ≥ 1
    · by_cases c2 : n ≥ -9223372036854775807
      · simp only [if_pos c, if_pos c2]
        rw [abs_f n (by omega) (by omega)]
        simp only [Option.bind_some]
        rw [wu (x := d) (by omega) (by omega)]
        refine Ev.bind (gcd_f _ _ (by omega) (by omega)) ?_
        have : ((Int.gcd ((n.natAbs : Nat) : Int) d : Nat) : Int) = (Int.gcd n d : Int) := by simp [Int.gcd]
        rw [this]
        rw [show (((Int.gcd n d : Nat) : Int) == 1) = decide (1 ≤ d ∧ -9223372036854775807 ≤ n ∧ Int.gcd n d = 1) by
          rw [Bool.eq_iff_iff]; simp; omega]
        exact Ev.now _
      · simp only [if_pos c, if_neg c2]
        rw [show decide (1 ≤ d ∧ -9223372036854775807 ≤ n ∧ Int.gcd n d = 1) = false by simp; omega]
        exact Ev.now _
    · simp only [if_neg c]
      rw [show decide (1 ≤ d ∧ -9223372036854775807 ≤ n ∧ Int.gcd n d = 1) = false by simp; omega]
      exact Ev.now _
  unfold cadence_Usable.f
  refine Ev.bind valid ?_
  by_cases c : decide (1 ≤ d ∧ -9223372036854775807 ≤ n ∧ Int.gcd n d = 1) = true
  · have c' := of_decide_eq_true c
    simp only [c, if_true]
    by_cases c1 : n ≥ 1
    · by_cases c2 : n ≤ 1048576
      · simp only [if_pos c1, if_pos c2]
        rw [show decide (d ≤ 65536) = usable n d by unfold usable; rw [Bool.eq_iff_iff]; simp only [decide_eq_true_eq]; omega]
        exact Ev.now _
      · simp only [if_pos c1, if_neg c2]
        rw [show usable n d = false by unfold usable; simp; omega]
        exact Ev.now _
    · simp only [if_neg c1]
      rw [show usable n d = false by unfold usable; simp; omega]
      exact Ev.now _
  · have c' := mt decide_eq_true c
    simp only [c, Bool.false_eq_true, if_false]
    rw [show usable n d = false by unfold usable; simp only [decide_eq_false_iff_not]; omega]
    exact Ev.now _


theorem prod_rng {a b A B : Int} (ha : 1 ≤ a) (hb : 1 ≤ b) (hA : a ≤ A) (hB : b ≤ B) : 1 ≤ a * b ∧ a * b ≤ A * B := by
  refine ⟨?_, mul_lt (by omega) (by omega) hA hB⟩
  have := Int.mul_le_mul_of_nonneg_right ha (show 0 ≤ b by omega)
  omega

/-- film can be shown as video -/
def tele (fn fd vn vd : Int) : Bool := usable fn fd && usable vn vd && decide (fn * vd ≤ vn * fd ∧ 2 * (vn * fd) ≤ 3 * (fn * vd))
theorem tele_iff {fn fd vn vd : Int} : tele fn fd vn vd = true ↔ (usable fn fd = true ∧ usable vn vd = true ∧ fn * vd ≤ vn * fd ∧ 2 * (vn * fd) ≤ 3 * (fn * vd)) := by
  unfold tele; simp only [Bool.and_eq_true, decide_eq_true_eq]; constructor
  · rintro ⟨⟨a, b⟩, c⟩; exact ⟨a, b, c⟩
  · rintro ⟨a, b, c⟩; exact ⟨⟨a, b⟩, c⟩

theorem cross {fn fd vn vd : Int} (hf : usable fn fd = true) (hv : usable vn vd = true) : 1 ≤ fn * vd ∧ fn * vd ≤ 68719476736 ∧ 1 ≤ vn * fd ∧ vn * fd ≤ 68719476736 := by
  rw [usable_iff] at hf hv
  have h1 := prod_rng (a := fn) (b := vd) (A := 1048576) (B := 65536) (by omega) (by omega) (by omega) (by omega)
  have h2 := prod_rng (a := vn) (b := fd) (A := 1048576) (B := 65536) (by omega) (by omega) (by omega) (by omega)
  omega

theorem tele_ev (fn fd vn vd : Int) (h1 : (Lit.int .i64 fn).wf = true) (h2 : (Lit.int .i64 fd).wf = true) (h3 : (Lit.int .i64 vn).wf = true) (h4 : (Lit.int .i64 vd).wf = true) : Ev (fun k => cadence_telecine.f k fn fd vn vd) (tele fn fd vn vd) := by
  unfold cadence_telecine.f
  refine Ev.bind (usable_ev fn fd h1 h2) ?_
  by_cases c1 : usable fn fd = true
  · simp only [c1, if_true]
    refine Ev.bind (usable_ev vn vd h3 h4) ?_
    by_cases c2 : usable vn vd = true
    · simp only [c2, if_true]
      have cr := cross c1 c2
      rw [w64 (x := vn * fd) (by omega) (by omega), w64 (x := fn * vd) (by omega) (by omega), w64 (x := 2 * (vn * fd)) (by omega) (by omega), w64 (x := 3 * (fn * vd)) (by omega) (by omega)]
      by_cases c3 : vn * fd ≥ fn * vd
      · simp only [if_pos c3]
        rw [show decide (2 * (vn * fd) ≤ 3 * (fn * vd)) = tele fn fd vn vd by unfold tele; rw [c1, c2]; simp; omega]
        exact Ev.now _
      · simp only [if_neg c3]
        rw [show tele fn fd vn vd = false by unfold tele; rw [c1, c2]; simp; omega]
        exact Ev.now _
    · simp only [c2, Bool.false_eq_true, if_false]
      rw [show tele fn fd vn vd = false by unfold tele; simp [c2]]
      exact Ev.now _
  · simp only [c1, Bool.false_eq_true, if_false]
    rw [show tele fn fd vn vd = false by unfold tele; simp [c1]]
    exact Ev.now _

/-- the number of fields before film frame k -/
def FF (fn fd vn vd k : Int) : Int := 2 * k * (vn * fd) / (vd * fn)

theorem FF_bounds {fn fd vn vd : Int} (h : tele fn fd vn vd = true) (k : Int) (hk : 0 ≤ k) : 2 * k ≤ FF fn fd vn vd k ∧ FF fn fd vn vd k ≤ 3 * k := by
  rw [tele_iff] at h
  obtain ⟨c1, c2, c3, c4⟩ := h
  have cr := cross c1 c2
  have e : vd * fn = fn * vd := Int.mul_comm _ _
  unfold FF
  rw [e]
  have a1 : 2 * k * (fn * vd) ≤ 2 * k * (vn * fd) := Int.mul_le_mul_of_nonneg_left c3 (by omega)
  have a2 : k * (2 * (vn * fd)) ≤ k * (3 * (fn * vd)) := Int.mul_le_mul_of_nonneg_left c4 hk
  have a3 : k * (2 * (vn * fd)) = 2 * k * (vn * fd) := by grind
  have a4 : k * (3 * (fn * vd)) = 3 * k * (fn * vd) := by grind
  constructor
  · exact Int.le_ediv_of_mul_le (by omega) a1
  · exact Int.ediv_le_of_le_mul (by omega) (by omega)

theorem first_ev {fn fd vn vd : Int} (h : tele fn fd vn vd = true) (k : Int) (hk : 0 ≤ k) (hk' : k ≤ 2147483648) : Ev (fun n => cadence_first.f n k fn fd vn vd) (FF fn fd vn vd k) := by
  have hb := FF_bounds h k hk
  rw [tele_iff] at h
  obtain ⟨c1, c2, c3, c4⟩ := h
  have cr := cross c1 c2
  have e : vd * fn = fn * vd := Int.mul_comm _ _
  unfold cadence_first.f
  rw [w64 (x := 2 * k) (by omega) (by omega), w64 (x := vn * fd) (by omega) (by omega), w64 (x := vd * fn) (by omega) (by omega)]
  have key := muldiv (2 * k) (vn * fd) (vd * fn) (by omega) (by omega) (by omega) (by omega) (by omega) (by omega)
  refine Ev.bind key ?_
  have hf : fits (2 * k * (vn * fd) / (vd * fn)) = true := by
    unfold fits
    have : FF fn fd vn vd k = 2 * k * (vn * fd) / (vd * fn) := rfl
    rw [← this]; simp; omega
  simp only [hf, if_true]
  exact Ev.now _

theorem FF_mono {fn fd vn vd : Int} (h : tele fn fd vn vd = true) {a b : Int} (hab : a ≤ b) : FF fn fd vn vd a ≤ FF fn fd vn vd b := by
  rw [tele_iff] at h
  have cr := cross h.1 h.2.1
  have e : vd * fn = fn * vd := Int.mul_comm _ _
  unfold FF
  exact Int.ediv_le_ediv (by omega) (Int.mul_le_mul_of_nonneg_right (by omega) (by omega))
/-- each film frame is shown for two or three fields -/
theorem FF_step {fn fd vn vd : Int} (h : tele fn fd vn vd = true) (k : Int) : FF fn fd vn vd k + 2 ≤ FF fn fd vn vd (k + 1) ∧ FF fn fd vn vd (k + 1) ≤ FF fn fd vn vd k + 3 := by
  rw [tele_iff] at h
  obtain ⟨c1, c2, c3, c4⟩ := h
  have cr := cross c1 c2
  have e : vd * fn = fn * vd := Int.mul_comm _ _
  unfold FF
  rw [e]
  have a : 2 * (k + 1) * (vn * fd) = 2 * k * (vn * fd) + 2 * (vn * fd) := by grind
  rw [a]
  generalize 2 * k * (vn * fd) = x
  generalize vn * fd = b at *
  generalize fn * vd = d at *
  have l1 : (x + 2 * d) / d = x / d + 2 := Int.add_mul_ediv_right _ _ (by omega)
  have l2 : (x + 3 * d) / d = x / d + 3 := Int.add_mul_ediv_right _ _ (by omega)
  have m1 : (x + 2 * d) / d ≤ (x + 2 * b) / d := Int.ediv_le_ediv (by omega) (by omega)
  have m2 : (x + 2 * b) / d ≤ (x + 3 * d) / d := Int.ediv_le_ediv (by omega) (by omega)
  omega
theorem FF_zero (fn fd vn vd : Int) : FF fn fd vn vd 0 = 0 := by unfold FF; simp

theorem countP_down (p : Nat → Bool) (hp : ∀ a b, a ≤ b → p b = true → p a = true) : ∀ (m j : Nat), j < (List.range m).countP p ↔ j < m ∧ p j = true
  | 0, j => by simp
  | m + 1, j => by
    rw [List.range_succ, List.countP_append]
    have ih := countP_down p hp m
    have hle : (List.range m).countP p ≤ m := by have := List.countP_le_length (p := p) (l := List.range m); simpa using this
    by_cases c : p m = true
    · have hall : (List.range m).countP p = m := by
        by_cases h : (List.range m).countP p < m
        · have := (ih ((List.range m).countP p)).2 ⟨h, hp _ m (by omega) c⟩
          omega
        · omega
      simp only [hall, List.countP_singleton, c, if_true]
      constructor
      · intro h; exact ⟨h, hp j m (by omega) c⟩
      · intro h; exact h.1
    · simp only [List.countP_singleton, c, Bool.false_eq_true, if_false, Nat.add_zero]
      rw [ih j]
      constructor
      · rintro ⟨a, b⟩; exact ⟨by omega, b⟩
      · rintro ⟨a, b⟩
        refine ⟨?_, b⟩
        by_cases h : j = m
        · subst h; exact absurd b c
        · omega

/-- the film frame of field f: as many frames as begin (behind the first) at or before it -/
def KF (F : Int → Int) (n f : Int) : Int := ((List.range (n - 1).toNat).countP (fun j : Nat => decide (F ((j : Int) + 1) ≤ f)) : Nat)

theorem KF_lt {F : Int → Int} (hF : ∀ a b, a ≤ b → F a ≤ F b) (n f j : Int) (hj : 0 ≤ j) : j < KF F n f ↔ j < n - 1 ∧ F (j + 1) ≤ f := by
  obtain ⟨m, rfl⟩ := Int.eq_ofNat_of_zero_le hj
  have := countP_down (fun j : Nat => decide (F ((j : Int) + 1) ≤ f)) (fun a b hab h => by
    simp only [decide_eq_true_eq] at h ⊢; exact Int.le_trans (hF _ _ (by omega)) h) (n - 1).toNat m
  unfold KF
  simp only [decide_eq_true_eq] at this
  omega
theorem KF_nonneg (F : Int → Int) (n f : Int) : 0 ≤ KF F n f := by unfold KF; omega
theorem KF_le (F : Int → Int) (n f : Int) (hn : 1 ≤ n) : KF F n f ≤ n - 1 := by
  unfold KF
  have := List.countP_le_length (p := fun j : Nat => decide (F ((j : Int) + 1) ≤ f)) (l := List.range (n - 1).toNat)
  rw [List.length_range] at this
  omega
theorem KF_mono {F : Int → Int} (hF : ∀ a b, a ≤ b → F a ≤ F b) (n : Int) {f g : Int} (h : f ≤ g) : KF F n f ≤ KF F n g := by
  by_cases c : KF F n g < KF F n f
  · have := (KF_lt hF n f (KF F n g) (KF_nonneg _ _ _)).1 c
    have := (KF_lt hF n g (KF F n g) (KF_nonneg _ _ _)).2 ⟨this.1, by omega⟩
    omega
  · omega

def upd (x9 : List S43) (f K : Int) : List S43 := if f % 2 = 0 then x9.set (f / 2).toNat ⟨K, (rd_T43 x9 (f / 2)).f1⟩ else x9.set (f / 2).toNat ⟨(rd_T43 x9 (f / 2)).f0, K⟩

/-- the woven frames when the first f fields are written -/
def WV (K : Int → Int) (L : Nat) (f : Int) : List S43 := (List.range L).map fun (i : Nat) => (⟨if 2 * (i : Int) < f then K (2 * (i : Int)) else 0, if 2 * (i : Int) + 1 < f then K (2 * (i : Int) + 1) else 0⟩ : S43)

theorem WV_length (K : Int → Int) (L : Nat) (f : Int) : (WV K L f).length = L := by simp [WV]
theorem rd_WV (K : Int → Int) (L : Nat) (f i : Int) (h0 : 0 ≤ i) (h1 : i < L) : rd_T43 (WV K L f) i = ⟨if 2 * i < f then K (2 * i) else 0, if 2 * i + 1 < f then K (2 * i + 1) else 0⟩ := by
  unfold rd_T43
  rw [List.getD_eq_getElem?_getD, List.getElem?_eq_getElem (by rw [WV_length]; omega)]
  simp only [Option.getD_some, WV, List.getElem_map, List.getElem_range]
  rw [show ((i.toNat : Nat) : Int) = i by omega]
theorem upd_WV (K : Int → Int) (L : Nat) (f : Int) (h0 : 0 ≤ f) (h1 : f < 2 * (L : Int)) : upd (WV K L f) f (K f) = WV K L (f + 1) := by
  have hi := rd_WV K L f (f / 2) (by omega) (by omega)
  unfold upd
  rw [hi]
  have len : ∀ (a b : S43) (c : Nat), (if f % 2 = 0 then (WV K L f).set c a else (WV K L f).set c b).length = L := by intro a b c; split <;> simp [WV_length]
  apply List.ext_getElem
  · rw [len, WV_length]
  · intro j hj1 hj2
    rw [WV_length] at hj2
    have e2 : (WV K L (f + 1))[j]'(by rw [WV_length]; exact hj2) = ⟨if 2 * (j : Int) < f + 1 then K (2 * (j : Int)) else 0, if 2 * (j : Int) + 1 < f + 1 then K (2 * (j : Int) + 1) else 0⟩ := by simp [WV]
    have e1 : (WV K L f)[j]'(by rw [WV_length]; exact hj2) = ⟨if 2 * (j : Int) < f then K (2 * (j : Int)) else 0, if 2 * (j : Int) + 1 < f then K (2 * (j : Int) + 1) else 0⟩ := by simp [WV]
    rw [e2]
    by_cases hp : f % 2 = 0
    · simp only [if_pos hp, List.getElem_set, e1]
      by_cases hj : (f / 2).toNat = j
      · rw [if_pos hj, if_neg (show ¬ 2 * (f / 2) + 1 < f by omega), if_pos (show 2 * (j : Int) < f + 1 by omega), if_neg (show ¬ 2 * (j : Int) + 1 < f + 1 by omega), show 2 * (j : Int) = f by omega]
      · rw [if_neg hj]
        congr 1
        · by_cases c : 2 * (j : Int) < f
          · rw [if_pos c, if_pos (by omega)]
          · rw [if_neg c, if_neg (by omega)]
        · by_cases c : 2 * (j : Int) + 1 < f
          · rw [if_pos c, if_pos (by omega)]
          · rw [if_neg c, if_neg (by omega)]
    · simp only [if_neg hp, List.getElem_set, e1]
      by_cases hj : (f / 2).toNat = j
      · rw [if_pos hj, if_pos (show 2 * (f / 2) < f by omega), if_pos (show 2 * (j : Int) < f + 1 by omega), if_pos (show 2 * (j : Int) + 1 < f + 1 by omega), show 2 * (f / 2) = 2 * (j : Int) by omega, show 2 * (j : Int) + 1 = f by omega]
      · rw [if_neg hj]
        congr 1
        · by_cases c : 2 * (j : Int) < f
          · rw [if_pos c, if_pos (by omega)]
          · rw [if_neg c, if_neg (by omega)]
        · by_cases c : 2 * (j : Int) + 1 < f
          · rw [if_pos c, if_pos (by omega)]
          · rw [if_neg c, if_neg (by omega)]

section
variable {fn fd vn vd : Int}
theorem weave_l1 (h : tele fn fd vn vd = true) (n : Int) (hn : 1 ≤ n) (hn' : n ≤ 256) (x9 : List S43) (f L2 : Int) (h0 : 0 ≤ f) (h1 : f < 2 * (x9.length : Int)) (hL : (x9.length : Int) ≤ 256) (R : List S43 × Int)
    (hr : Ev (fun k => cadence_Weave.l0 k n (upd x9 f (KF (FF fn fd vn vd) n f)) (KF (FF fn fd vn vd) n f) L2 (f + 1) fn fd vn vd) R) :
    ∀ (d : Nat) (k0 : Int), 0 ≤ k0 → k0 ≤ KF (FF fn fd vn vd) n f → KF (FF fn fd vn vd) n f - k0 ≤ d → Ev (fun k => cadence_Weave.l1 k n x9 k0 f L2 f fn fd vn vd) R := by
  have mono : ∀ a b : Int, a ≤ b → FF fn fd vn vd a ≤ FF fn fd vn vd b := fun a b hab => FF_mono h hab
  have top := KF_le (FF fn fd vn vd) n f hn
  have hd2 : Int.tdiv f 2 = f / 2 := Int.tdiv_eq_ediv_of_nonneg h0
  have hm2 : Int.tmod f 2 = f % 2 := Int.tmod_eq_emod_of_nonneg h0
  have stay : ¬ KF (FF fn fd vn vd) n f < n - 1 ∨ ¬ FF fn fd vn vd (KF (FF fn fd vn vd) n f + 1) ≤ f := by
    have := (not_congr (KF_lt mono n f (KF (FF fn fd vn vd) n f) (KF_nonneg _ _ _))).1 (by omega)
    by_cases c : KF (FF fn fd vn vd) n f < n - 1
    · exact .inr fun hh => this ⟨c, hh⟩
    · exact .inl c
  intro d
  induction d with
  | zero =>
    intro k0 hk hk2 hd
    obtain rfl : k0 = KF (FF fn fd vn vd) n f := by omega
    refine Ev.step (fun k => by rw [cadence_Weave.l1]) ?_
    rw [hd2, hm2, w64 (x := f / 2) (by omega) (by omega), w64 (x := f + 1) (by omega) (by omega), w64 (x := n - 1) (by omega) (by omega), w64 (x := KF (FF fn fd vn vd) n f + 1) (by omega) (by omega)]
    unfold upd at hr
    simp only [if_pos (show 0 ≤ f / 2 by omega), if_pos (show f / 2 < (x9.length : Int) by omega)]
    have fin : Ev (fun k => if f % 2 = 0 then cadence_Weave.l0 k n (x9.set (f / 2).toNat ⟨KF (FF fn fd vn vd) n f, (rd_T43 x9 (f / 2)).f1⟩) (KF (FF fn fd vn vd) n f) L2 (f + 1) fn fd vn vd else cadence_Weave.l0 k n (x9.set (f / 2).toNat ⟨(rd_T43 x9 (f / 2)).f0, KF (FF fn fd vn vd) n f⟩) (KF (FF fn fd vn vd) n f) L2 (f + 1) fn fd vn vd) R := by
      by_cases hp : f % 2 = 0
      · simp only [if_pos hp] at hr ⊢; exact hr
      · simp only [if_neg hp] at hr ⊢; exact hr
    by_cases c : KF (FF fn fd vn vd) n f < n - 1
    · simp only [if_pos c]
      refine Ev.bind (first_ev h _ (by have := KF_nonneg (FF fn fd vn vd) n f; omega) (by omega)) ?_
      have c2 : ¬ f ≥ FF fn fd vn vd (KF (FF fn fd vn vd) n f + 1) := by rcases stay with s | s <;> omega
      simp only [if_neg c2]
      exact fin
    · simp only [if_neg c]
      exact fin
  | succ d ih =>
    intro k0 hk hk2 hd
    by_cases e : k0 = KF (FF fn fd vn vd) n f
    · exact ih k0 hk hk2 (by omega)
    · have lt := (KF_lt mono n f k0 hk).1 (by omega)
      refine Ev.step (fun k => by rw [cadence_Weave.l1]) ?_
      rw [w64 (x := n - 1) (by omega) (by omega), w64 (x := k0 + 1) (by omega) (by omega)]
      simp only [if_pos lt.1]
      refine Ev.bind (first_ev h _ (by omega) (by omega)) ?_
      simp only [if_pos (show f ≥ FF fn fd vn vd (k0 + 1) from lt.2)]
      exact ih (k0 + 1) (by omega) (by omega) (by omega)

theorem weave_l0 (h : tele fn fd vn vd = true) (n : Int) (hn : 1 ≤ n) (hn' : n ≤ 256) (L : Nat) (hL : L ≤ 256) :
    ∀ (d : Nat) (f k0 : Int), 0 ≤ f → f + d = 2 * (L : Int) → 0 ≤ k0 → k0 ≤ KF (FF fn fd vn vd) n f →
      Ev (fun k => cadence_Weave.l0 k n (WV (KF (FF fn fd vn vd) n) L f) k0 (2 * (L : Int)) f fn fd vn vd) (WV (KF (FF fn fd vn vd) n) L (2 * (L : Int)), 0) := by
  intro d
  induction d with
  | zero =>
    intro f k0 h0 hf hk hk2
    refine Ev.step (fun k => by rw [cadence_Weave.l0]) ?_
    simp only [if_neg (show ¬ f < 2 * (L : Int) by omega)]
    rw [show f = 2 * (L : Int) by omega]
    exact Ev.now _
  | succ d ih =>
    intro f k0 h0 hf hk hk2
    refine Ev.step (fun k => by rw [cadence_Weave.l0]) ?_
    simp only [if_pos (show f < 2 * (L : Int) by omega)]
    refine weave_l1 h n hn hn' _ f _ h0 (by rw [WV_length]; omega) (by rw [WV_length]; omega) _ ?_ (KF (FF fn fd vn vd) n f - k0).toNat k0 hk hk2 (by omega)
    rw [upd_WV _ _ _ h0 (by omega)]
    refine ih (f + 1) _ (by omega) (by omega) (KF_nonneg _ _ _) (KF_mono (fun a b hab => FF_mono h hab) n (by omega))

theorem WV_zero (K : Int → Int) (L : Nat) : WV K L 0 = List.replicate L z43 := by
  apply List.ext_getElem
  · simp [WV]
  · intro j h1 h2
    simp only [WV, List.getElem_map, List.getElem_range, List.getElem_replicate]
    rw [if_neg (by omega), if_neg (by omega)]
    rfl

/-- the number of woven frames -/
def WL (F : Int → Int) (n : Int) : Nat := ((F n + 1) / 2).toNat
/-- the woven frames -/
def WW (F : Int → Int) (n : Int) : List S43 := (List.range (WL F n)).map fun (i : Nat) => (⟨KF F n (2 * (i : Int)), KF F n (2 * (i : Int) + 1)⟩ : S43)
theorem WV_full (F : Int → Int) (n : Int) : WV (KF F n) (WL F n) (2 * (WL F n : Int)) = WW F n := by
  unfold WV WW
  apply List.map_congr_left
  intro i hi
  rw [List.mem_range] at hi
  rw [if_pos (by omega), if_pos (by omega)]
/-- what Weave returns -/
def weaveR (n fn fd vn vd : Int) : List S43 × Int := if (tele fn fd vn vd && decide (0 ≤ n)) = false then ([], 1) else if 256 < n ∨ 256 < (WL (FF fn fd vn vd) n : Int) then ([], 5) else (WW (FF fn fd vn vd) n, 0)

theorem weave_ev (n fn fd vn vd : Int) (hnw : (Lit.int .i64 n).wf = true) (h1 : (Lit.int .i64 fn).wf = true) (h2 : (Lit.int .i64 fd).wf = true) (h3 : (Lit.int .i64 vn).wf = true) (h4 : (Lit.int .i64 vd).wf = true) :
    Ev (fun k => cadence_Weave.f k n fn fd vn vd) (weaveR n fn fd vn vd) := by
  have nw := wf64 hnw
  unfold cadence_Weave.f
  refine Ev.bind (tele_ev fn fd vn vd h1 h2 h3 h4) ?_
  by_cases ht : tele fn fd vn vd = true
  · simp only [ht, if_true]
    refine Ev.step (fun k => by rw [cadence_Weave.j0]) ?_
    by_cases c0 : n < 0
    · simp only [c0, decide_true, if_true]
      rw [show weaveR n fn fd vn vd = ([], 1) by unfold weaveR; rw [if_pos (by simp; omega)]]
      exact Ev.now _
    · simp only [c0, decide_false, Bool.false_eq_true, if_false]
      by_cases c1 : n > 256
      · simp only [if_pos c1]
        rw [show weaveR n fn fd vn vd = ([], 5) by unfold weaveR; rw [if_neg (by simp [ht]; omega), if_pos (by omega)]]
        exact Ev.now _
      · simp only [if_neg c1]
        refine Ev.bind (first_ev ht n (by omega) (by omega)) ?_
        have hb := FF_bounds ht n (by omega)
        have e : Int.tdiv (FF fn fd vn vd n + 1) 2 = (FF fn fd vn vd n + 1) / 2 := Int.tdiv_eq_ediv_of_nonneg (by omega)
        have e2 : ((FF fn fd vn vd n + 1) / 2) = (WL (FF fn fd vn vd) n : Int) := by unfold WL; omega
        rw [w64 (x := FF fn fd vn vd n + 1) (by omega) (by omega), e, w64 (x := (FF fn fd vn vd n + 1) / 2) (by omega) (by omega), e2]
        by_cases c2 : (WL (FF fn fd vn vd) n : Int) > 256
        · simp only [if_pos c2]
          rw [show weaveR n fn fd vn vd = ([], 5) by unfold weaveR; rw [if_neg (by simp [ht]; omega), if_pos (by omega)]]
          exact Ev.now _
        · simp only [if_neg c2, if_pos (show (0 : Int) ≤ (WL (FF fn fd vn vd) n : Int) by omega), Int.toNat_natCast, if_pos (show WL (FF fn fd vn vd) n ≤ 17592186044416 by omega), Option.bind_some, List.length_replicate]
          rw [w64 (x := 2 * (WL (FF fn fd vn vd) n : Int)) (by omega) (by omega)]
          rw [show weaveR n fn fd vn vd = (WW (FF fn fd vn vd) n, 0) by unfold weaveR; rw [if_neg (by simp [ht]; omega), if_neg (by omega)], ← WV_full, ← WV_zero (KF (FF fn fd vn vd) n)]
          by_cases cn : n = 0
          · have : WL (FF fn fd vn vd) n = 0 := by unfold WL; rw [cn, FF_zero]; decide
            rw [this]
            refine Ev.step (fun k => by rw [cadence_Weave.l0]) ?_
            simp only [if_neg (show ¬ (0 : Int) < 2 * ((0 : Nat) : Int) by decide)]
            exact Ev.now _
          · exact weave_l0 ht n (by omega) (by omega) _ (by omega) (2 * WL (FF fn fd vn vd) n) 0 0 (by omega) (by omega) (by omega) (KF_nonneg _ _ _)
  · simp only [ht, Bool.false_eq_true, if_false]
    refine Ev.step (fun k => by rw [cadence_Weave.j0]) ?_
    simp only [if_true]
    rw [show weaveR n fn fd vn vd = ([], 1) by unfold weaveR; rw [if_pos (by simp [ht])]]
    exact Ev.now _
end
end Go.Proofs.Ytcofjbbflcnaaaa.P
