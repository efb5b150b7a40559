/- The reference's gain is the product's. No condition of its own. -/
import Derived.Test.YtjcjbbcamkkeiaaLoD
import Derived.Test.YtjcjbbcamkkeiaaDiv
import Derived.Test.YtjcjbbcamkkeiaaPx41
import Derived.Test.YtjcjbbcamkkeiaaPx54
namespace Go.Proofs.Ytjcjbbcamkkeiaa.P
open Go.RowKit Go.Proofs.YtjcjbbcamkkeiaaW.PrintWords Go.Proofs.YtjcjbbcamkkeiaaW.PrintLast Go.Proofs.YtjcjbbcamkkeiaaW.PrintMore
set_option linter.unusedVariables false
set_option linter.unusedSimpArgs false

def fits63 (x : Int) : Bool := decide (x ≤ 9223372036854775807)
theorem rmuldiv_ev (t n r : Int) (h0 : 0 ≤ t) (h1 : t ≤ 9223372036854775807) (n0 : 0 ≤ n) (n1 : n ≤ 9223372036854775807) (r0 : 1 ≤ r) (r1 : r ≤ 9223372036854775807) :
    Ev (fun k => cutroomref01_MulDiv.f k t n r) (if fits63 (t * n / r) = true then (t * n / r, t * n % r, 0) else (0, 0, 2)) := by
  unfold cutroomref01_MulDiv.f
  simp only [if_neg (show ¬ r < 1 by omega)]
  rw [show cutroomref01_mag.f t = some t by unfold cutroomref01_mag.f; rw [if_neg (by omega), wu h0 (by omega)]]
  rw [show cutroomref01_mag.f n = some n by unfold cutroomref01_mag.f; rw [if_neg (by omega), wu n0 (by omega)]]
  simp only [Option.bind_some]
  rw [show cutroomref01_times.f t n = some (t * n / 18446744073709551616, t * n % 18446744073709551616) by unfold cutroomref01_times.f; rw [mul64 t n h0 (by omega) n0 (by omega)]; rfl]
  simp only [Option.bind_some]
  rw [wu (x := r) (by omega) (by omega)]
  have m0 : 0 ≤ t * n := Int.mul_nonneg h0 n0
  generalize hm : t * n = m at *
  unfold cutroomref01_over.f
  by_cases c : m / 18446744073709551616 ≥ r
  · simp only [if_pos c, Option.bind_some, Bool.false_eq_true, if_false]
    refine Ev.step (fun k => by rw [cutroomref01_MulDiv.j0]) ?_
    have hq : 18446744073709551616 ≤ m / r := Int.le_ediv_of_mul_le (by omega) (by omega)
    have hf : fits63 (m / r) = false := by unfold fits63; exact decide_eq_false (by omega)
    simp only [hf, Bool.false_eq_true, if_false, if_true]
    exact Ev.now _
  · simp only [if_neg c]
    have hd := div64 (m / 18446744073709551616) (m % 18446744073709551616) r (by omega) (by omega) (by omega) (by omega) (by omega)
    rw [show m / 18446744073709551616 * 18446744073709551616 + m % 18446744073709551616 = m by omega] at hd
    have q0 : 0 ≤ m / r := Int.ediv_nonneg m0 (by omega)
    have s0 := Int.emod_nonneg m (show r ≠ 0 by omega)
    have s1 := Int.emod_lt_of_pos m (show 0 < r by omega)
    have q1 : m / r < 18446744073709551616 := Int.ediv_lt_of_lt_mul (by omega) (by omega)
    refine Ev.bind (Ev.bind hd (Ev.now _)) ?_
    simp only [if_true]
    refine Ev.step (fun k => by rw [cutroomref01_MulDiv.j0]) ?_
    by_cases c2 : m / r > 9223372036854775808
    · have hf : fits63 (m / r) = false := by unfold fits63; exact decide_eq_false (by omega)
      simp only [decide_eq_true c2, hf, Bool.false_eq_true, if_false, if_true]
      exact Ev.now _
    · have e1 : (decide (t < 0) != decide (n < 0)) = false := by rw [decide_eq_false (show ¬ t < 0 by omega), decide_eq_false (show ¬ n < 0 by omega)]; rfl
      simp only [decide_eq_false c2, e1, Bool.false_eq_true, if_false]
      refine Ev.step (fun k => by rw [cutroomref01_MulDiv.j1]) ?_
      simp only [Bool.false_eq_true, if_false]
      unfold cutroomref01_signed.f
      simp only [Bool.false_eq_true, if_false, Option.bind_some]
      by_cases c3 : m / r ≤ 9223372036854775807
      · have hf : fits63 (m / r) = true := by unfold fits63; exact decide_eq_true (by omega)
        simp only [decide_eq_true c3, hf, if_true]
        rw [w64 (by omega) (by omega), w64 (by omega) (by omega)]
        exact Ev.now _
      · have hf : fits63 (m / r) = false := by unfold fits63; exact decide_eq_false (by omega)
        simp only [decide_eq_false c3, hf, Bool.false_eq_true, if_false]
        exact Ev.now _

theorem quiet_ev (g num den target : Int) (g0 : 0 ≤ g) (g1 : g ≤ 65536) (n0 : 0 ≤ num) (n1 : num ≤ 4611686018427387904) (d0 : 1 ≤ den) (d1 : den ≤ 4200000) (t0 : 0 ≤ target) (t1 : target ≤ 4294967296) :
    Ev (fun k => cutroomref28_quiet.f k g num den target) (decide (g * g * num ≤ target * 16777216 * den)) := by
  have a0 := Int.mul_nonneg g0 g0
  have a1 := mul_lt g0 g0 g1 g1
  have b0 : 0 ≤ target * 16777216 * den := Int.mul_nonneg (by omega) (by omega)
  unfold cutroomref28_quiet.f
  by_cases c : num = 0
  · subst c
    simp only [if_true, Int.mul_zero]
    rw [decide_eq_true b0]
    exact Ev.now _
  · simp only [if_neg c]
    have e := rmuldiv_ev target (den * 16777216) num t0 (by omega) (by omega) (by omega) (by omega) (by omega)
    have em : target * (den * 16777216) = target * 16777216 * den := by grind
    rw [em] at e
    rw [w64 (x := den * 16777216) (by omega) (by omega)]
    refine Ev.bind e ?_
    have hle : g * g ≤ target * 16777216 * den / num ↔ g * g * num ≤ target * 16777216 * den := Int.le_ediv_iff_mul_le (by omega)
    generalize target * 16777216 * den = m at *
    by_cases c2 : fits63 (m / num) = true
    · simp only [if_pos c2, if_true]
      rw [w64 (x := g * g) (by omega) (by omega)]
      rw [show decide (g * g * num ≤ m) = decide (g * g ≤ m / num) from decide_eq_decide.2 hle.symm]
      exact Ev.now _
    · have hbig : 9223372036854775807 < m / num := by
        unfold fits63 at c2
        rw [decide_eq_true_eq] at c2
        omega
      simp only [if_neg c2, if_neg (show ¬ (2 : Int) = 0 by decide)]
      rw [decide_eq_true (hle.1 (by omega))]
      exact Ev.now _

theorem avg_f (lo hi : Nat) (h1 : lo ≤ 65536) (h2 : hi ≤ 65536) : wrap64 (Int.tdiv (wrap64 ((wrap64 ((lo : Int) + (hi : Int))) + 1)) 2) = (((lo + hi + 1) / 2 : Nat) : Int) := by
  rw [w64 (x := (lo : Int) + (hi : Int)) (by omega) (by omega), w64 (x := (lo : Int) + (hi : Int) + 1) (by omega) (by omega), Int.tdiv_eq_ediv_of_nonneg (by omega), w64 (by omega) (by omega)]
  omega
theorem half_lt {lo hi : Nat} (h : lo < hi) : lo < (lo + hi + 1) / 2 ∧ (lo + hi + 1) / 2 ≤ hi := by omega
theorem rgain_l0 (num den p target peak : Int) (n0 : 0 ≤ num) (n1 : num ≤ 4611686018427387904) (d0 : 1 ≤ den) (d1 : den ≤ 4200000) (t0 : 0 ≤ target) (t1 : target ≤ 4294967296) (p0 : 0 ≤ p) (p1 : p ≤ 32768) (k0 : 0 ≤ peak) (k1 : peak ≤ 32767)
    (h : Nat) (h1 : h ≤ 65536) (H : Aside0 ((∀ t, t < h → loudness_Gain.over num den p target peak t = false) ∧ (h < 65536 → loudness_Gain.over num den p target peak h = true))) :
    ∀ (d lo hi : Nat), hi - lo ≤ d → lo ≤ h → h ≤ hi → hi ≤ 65536 → Ev (fun k => cutroomref28_Gain.l0 k target peak p (lo : Int) (hi : Int) num den) ((h : Int), 0) := by
  intro d
  induction d with
  | zero =>
    intro lo hi hd hl hh hm
    obtain rfl : lo = h := by omega
    refine Ev.step (fun k => by rw [cutroomref28_Gain.l0]) ?_
    simp only [if_neg (show ¬ (lo : Int) < (hi : Int) by omega)]
    exact Ev.now _
  | succ d ih =>
    intro lo hi hd hl hh hm
    by_cases c : lo < hi
    · obtain ⟨g, hg, glo, ghi⟩ : ∃ g : Nat, g = (lo + hi + 1) / 2 ∧ lo < g ∧ g ≤ hi := ⟨_, rfl, half_lt c⟩
      have g5 : (g : Int) ≤ 65536 := by omega
      have hq := quiet_ev (g : Int) num den target (by omega) g5 n0 n1 d0 d1 t0 t1
      have m0 := Int.mul_nonneg (show (0 : Int) ≤ (g : Int) by omega) p0
      have m1 := mul_lt (show (0 : Int) ≤ (g : Int) by omega) p0 g5 p1
      have ov : loudness_Gain.over num den p target peak (g - 1) = !(decide ((g : Int) * (g : Int) * num ≤ target * 16777216 * den) && decide ((g : Int) * p ≤ peak * 4096)) := by
        unfold loudness_Gain.over
        rw [show ((g - 1 : Nat) : Int) + 1 = (g : Int) by omega, Bool.not_and, ← decide_not, ← decide_not]
        congr 1
        · exact decide_eq_decide.2 Int.not_le.symm
        · exact decide_eq_decide.2 Int.not_le.symm
      have cI : (lo : Int) < (hi : Int) := by omega
      have eg : wrap64 (Int.tdiv (wrap64 ((wrap64 ((lo : Int) + (hi : Int))) + 1)) 2) = (g : Int) := by
        rw [hg]; exact avg_f lo hi (Nat.le_trans hl h1) hm
      refine Ev.step (fun k => by rw [cutroomref28_Gain.l0]) ?_
      simp only [if_pos cI, eg]
      clear eg hg
      refine Ev.bind hq ?_
      rw [w64 (x := (g : Int) * p) (by omega) (by omega), w64 (x := peak * 4096) (by omega) (by omega), w64 (x := (g : Int) - 1) (by omega) (by omega)]
      by_cases c2 : g ≤ h
      · have := H.out.1 (g - 1) (by omega)
        rw [ov, Bool.not_eq_false', Bool.and_eq_true, decide_eq_true_eq, decide_eq_true_eq] at this
        simp only [decide_eq_true this.1, if_true, if_pos this.2]
        exact ih g hi (by omega) c2 hh hm
      · have hb : loudness_Gain.over num den p target peak (g - 1) = true := loudness_Gain.over_mono num den p target peak n0 p0 h (g - 1) (by omega) (H.out.2 (by omega))
        have nx := ih lo (g - 1) (by omega) hl (by omega) (by omega)
        rw [show ((g - 1 : Nat) : Int) = (g : Int) - 1 by omega] at nx
        rw [ov, Bool.not_eq_true', Bool.and_eq_false_iff, decide_eq_false_iff_not, decide_eq_false_iff_not] at hb
        by_cases c3 : (g : Int) * (g : Int) * num ≤ target * 16777216 * den
        · have c4 : ¬ (g : Int) * p ≤ peak * 4096 := by
            rcases hb with e | e
            · exact absurd c3 e
            · exact e
          simp only [decide_eq_true c3, if_true, if_neg c4]
          exact nx
        · simp only [decide_eq_false c3, Bool.false_eq_true, if_false]
          exact nx
    · obtain rfl : lo = h := by omega
      refine Ev.step (fun k => by rw [cutroomref28_Gain.l0]) ?_
      simp only [if_neg (show ¬ (lo : Int) < (hi : Int) by omega)]
      exact Ev.now _

theorem same_gain (x : List (List Int)) (hx : Snd x) (a1 a2 : Int) : ∃ r, Ev (fun k => loudness_Gain.f k x a1 a2) r ∧ Ev (fun k => cutroomref28_Gain.f k x a1 a2) r := by
  have M := rmeasure_ev x hx
  by_cases c : prp x = true ∧ 0 ≤ a1 ∧ a1 ≤ 4294967296 ∧ 0 ≤ a2 ∧ a2 ≤ 32767
  · obtain ⟨c1, c2, c3, c4, c5⟩ := c
    have hP := pr_of hx c1
    obtain ⟨h, h1, h2, h3, G1⟩ := gain_ev x hP a1 a2 c2 c3 c4 c5
    refine ⟨_, G1, ?_⟩
    obtain ⟨b1, b2⟩ := pws_bd hP
    have mb := meas_bd b1 b2
    have pb := pk_pr hP
    have b5 := gat_bd (gs (pws x)) (gc (pws x)) (l := pws x) b2
    have hT : T (pws x) = gat (gs (pws x)) (gc (pws x)) (pws x) := rfl
    have m1 := mx1 (G (pws x)).length
    have gl := G_len (pws x)
    have K := rpeak_ev x hx
    have hw : (meas (pws x)).2.2 = 0 := rfl
    rw [if_pos c1] at M K
    unfold cutroomref28_Gain.f
    refine Ev.bind M ?_
    simp only [hw, if_true, if_neg (show ¬ a1 < 0 by omega), if_neg (show ¬ a1 > 4294967296 by omega), if_neg (show ¬ a2 < 0 by omega), decide_eq_false (show ¬ a2 > 32767 by omega)]
    refine Ev.step (fun k => by rw [cutroomref28_Gain.j0]) ?_
    simp only [Bool.false_eq_true, if_false]
    refine Ev.bind K ?_
    exact rgain_l0 _ _ _ _ _ mb.1 (by omega) mb.2.2.1 (by omega) c2 c3 pb.1 pb.2 c4 c5 h h1 ⟨⟨h2, h3⟩⟩ 65536 0 65536 (by omega) (by omega) h1 (by omega)
  · refine ⟨_, gain_bad x hx a1 a2 c, ?_⟩
    have bad : ∀ n d : Int, Ev (fun k => cutroomref28_Gain.j0 k x a1 a2 true n d) (0, 1) := fun n d => by
      refine Ev.step (fun k => by rw [cutroomref28_Gain.j0]) ?_
      simp only [if_true]
      exact Ev.now _
    unfold cutroomref28_Gain.f
    by_cases c1 : prp x = true
    · rw [if_pos c1] at M
      refine Ev.bind M ?_
      have hw : (meas (pws x)).2.2 = 0 := rfl
      simp only [hw, if_true]
      by_cases d1 : a1 < 0
      · simp only [if_pos d1]; exact bad _ _
      · simp only [if_neg d1]
        by_cases d2 : a1 > 4294967296
        · simp only [if_pos d2]; exact bad _ _
        · simp only [if_neg d2]
          by_cases d3 : a2 < 0
          · simp only [if_pos d3]; exact bad _ _
          · simp only [if_neg d3]
            have d4 : a2 > 32767 := by
              rcases Int.lt_or_le 32767 a2 with h | h
              · exact h
              · exact absurd ⟨c1, by omega, by omega, by omega, h⟩ c
            simp only [decide_eq_true d4]; exact bad _ _
    · rw [if_neg c1] at M
      refine Ev.bind M ?_
      simp only [if_neg (show ¬ (1 : Int) = 0 by decide)]
      exact bad _ _

end Go.Proofs.Ytjcjbbcamkkeiaa.P
