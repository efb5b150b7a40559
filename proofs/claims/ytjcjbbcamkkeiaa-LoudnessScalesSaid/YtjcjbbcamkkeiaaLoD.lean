/- The gain, the law's examples, lists that are the same. No condition of its own. -/
import Derived.Test.YtjcjbbcamkkeiaaLoB
import Derived.Test.YtjcjbbcamkkeiaaPx26
import Derived.Test.YtjcjbbcamkkeiaaPx20
namespace Go.Proofs.Ytjcjbbcamkkeiaa.P
open Go.RowKit Go.Proofs.YtjcjbbcamkkeiaaW.PrintWords Go.Proofs.YtjcjbbcamkkeiaaW.PrintLast Go.Proofs.YtjcjbbcamkkeiaaW.PrintMore
set_option linter.unusedVariables false
set_option linter.unusedSimpArgs false

theorem pkrow_bd {B : Int} : ∀ {l : List Int} {m : Int}, (∀ v ∈ l, -B ≤ v ∧ v ≤ B) → m ≤ B → m ≤ pkrow m l ∧ pkrow m l ≤ B
  | [], m, _, h => ⟨Int.le_refl _, h⟩
  | v :: l, m, hl, h => by
    have hv := hl v (List.mem_cons_self ..)
    have h1 : m ≤ mx (mx m v) (-v) ∧ mx (mx m v) (-v) ≤ B := by unfold mx; split <;> split <;> omega
    have h2 := pkrow_bd (l := l) (m := mx (mx m v) (-v)) (fun u hu => hl u (List.mem_cons_of_mem _ hu)) h1.2
    exact ⟨Int.le_trans h1.1 h2.1, h2.2⟩
theorem pk_bd {B : Int} : ∀ {x : List (List Int)} {m : Int}, (∀ l ∈ x, ∀ v ∈ l, -B ≤ v ∧ v ≤ B) → m ≤ B → m ≤ pk m x ∧ pk m x ≤ B
  | [], m, _, h => ⟨Int.le_refl _, h⟩
  | l :: x, m, hx, h => by
    have h1 := pkrow_bd (hx l (List.mem_cons_self ..)) h
    have h2 := pk_bd (x := x) (m := pkrow m l) (fun u hu => hx u (List.mem_cons_of_mem _ hu)) h1.2
    exact ⟨Int.le_trans h1.1 h2.1, h2.2⟩
theorem pk_pr {x : List (List Int)} {L : Nat} (h : Pr x L) : 0 ≤ pk 0 x ∧ pk 0 x ≤ 32768 :=
  pk_bd (B := 32768) (fun l hl v hv => by have := (h.rows l hl).1 v hv; omega) (by decide)

theorem meas_bd {l : List Int} (b1 : l.length ≤ 8738) (b2 : Pw l) : 0 ≤ (meas l).1 ∧ (meas l).1 ≤ T l ∧ 1 ≤ (meas l).2.1 ∧ (meas l).2.1 ≤ 480 * mx 1 ((G l).length : Int) ∧ (meas l).2.2 = 0 := by
  have b5 := gat_bd (gs l) (gc l) (l := l) b2
  have hT : T l = gat (gs l) (gc l) l := rfl
  have m1 := mx1 (G l).length
  have g0 : 0 < (Int.gcd (T l) (480 * mx 1 ((G l).length : Int)) : Int) := by
    have : Int.gcd (T l) (480 * mx 1 ((G l).length : Int)) ≠ 0 := fun e => by have := (Int.gcd_eq_zero_iff.1 e).2; omega
    omega
  have g1 : (Int.gcd (T l) (480 * mx 1 ((G l).length : Int)) : Int) ≤ 480 * mx 1 ((G l).length : Int) := Int.le_of_dvd (by omega) (Int.gcd_dvd_right ..)
  refine ⟨Int.ediv_nonneg (by omega) (Int.le_of_lt g0), Int.ediv_le_self _ (by omega), ?_, Int.ediv_le_self _ (by omega), rfl⟩
  exact (Int.le_ediv_iff_mul_le g0).2 (by rw [Int.one_mul]; exact g1)

/-- the first place at which a test that goes up says yes -/
theorem first_yes (p : Nat → Bool) (hm : ∀ a b, a ≤ b → p a = true → p b = true) : ∀ n : Nat, ∃ h, h ≤ n ∧ (∀ t, t < h → p t = false) ∧ (∀ t, h ≤ t → t < n → p t = true) := by
  intro n
  induction n with
  | zero => exact ⟨0, Nat.le_refl _, fun t ht => absurd ht (Nat.not_lt_zero _), fun t _ ht => absurd ht (Nat.not_lt_zero _)⟩
  | succ n ih =>
    obtain ⟨h, h1, h2, h3⟩ := ih
    by_cases c : h = n
    · subst c
      cases e : p h with
      | true => exact ⟨h, by omega, h2, fun t t1 t2 => by rw [show t = h by omega]; exact e⟩
      | false => exact ⟨h + 1, by omega, fun t ht => by
          by_cases z : t = h
          · rw [z]; exact e
          · exact h2 t (by omega), fun t t1 t2 => by omega⟩
    · exact ⟨h, by omega, h2, fun t t1 t2 => by
        by_cases z : t = n
        · rw [z]; exact hm (n - 1) n (by omega) (h3 (n - 1) (by omega) (by omega))
        · exact h3 t t1 (by omega)⟩

theorem gain_bad (x : List (List Int)) (hx : Snd x) (a1 a2 : Int) (hb : ¬ (prp x = true ∧ 0 ≤ a1 ∧ a1 ≤ 4294967296 ∧ 0 ≤ a2 ∧ a2 ≤ 32767)) : Ev (fun k => loudness_Gain.f k x a1 a2) (0, 1) := by
  unfold loudness_Gain.f
  refine Ev.bind (proper_ev x hx) ?_
  by_cases c : prp x = true
  · simp only [if_pos c]
    by_cases c1 : a1 < 0
    · simp only [if_pos c1]; exact Ev.now _
    · simp only [if_neg c1]
      by_cases c2 : 4294967296 < a1
      · simp only [if_pos c2]; exact Ev.now _
      · simp only [if_neg c2]
        by_cases c3 : a2 < 0
        · simp only [if_pos c3]; exact Ev.now _
        · simp only [if_neg c3]
          by_cases c4 : 32767 < a2
          · simp only [if_pos c4]; exact Ev.now _
          · exact absurd ⟨c, by omega, by omega, by omega, by omega⟩ hb
  · simp only [if_neg c]; exact Ev.now _
theorem gain_ev (x : List (List Int)) {L : Nat} (hP : Pr x L) (a1 a2 : Int) (h0 : 0 ≤ a1) (h1 : a1 ≤ 4294967296) (h2 : 0 ≤ a2) (h3 : a2 ≤ 32767) :
    ∃ h : Nat, h ≤ 65536 ∧ (∀ t, t < h → loudness_Gain.over (meas (pws x)).1 (meas (pws x)).2.1 (pk 0 x) a1 a2 t = false) ∧ (h < 65536 → loudness_Gain.over (meas (pws x)).1 (meas (pws x)).2.1 (pk 0 x) a1 a2 h = true) ∧
      Ev (fun k => loudness_Gain.f k x a1 a2) ((h : Int), 0) := by
  have hx := snd_of hP
  have c := prp_of hP
  obtain ⟨b1, b2⟩ := pws_bd hP
  have mb := meas_bd b1 b2
  have pb := pk_pr hP
  have b5 := gat_bd (gs (pws x)) (gc (pws x)) (l := pws x) b2
  have hT : T (pws x) = gat (gs (pws x)) (gc (pws x)) (pws x) := rfl
  have m1 := mx1 (G (pws x)).length
  have gl := G_len (pws x)
  obtain ⟨h, e1, e2, e3⟩ := first_yes (loudness_Gain.over (meas (pws x)).1 (meas (pws x)).2.1 (pk 0 x) a1 a2) (fun a b hab ha => loudness_Gain.over_mono _ _ _ _ _ mb.1 pb.1 a b hab ha) 65536
  refine ⟨h, e1, e2, fun hlt => e3 h (Nat.le_refl _) hlt, ?_⟩
  have hc := loudness_Gain.count 65536 h (loudness_Gain.over (meas (pws x)).1 (meas (pws x)).2.1 (pk 0 x) a1 a2) e2 e3 e1
  have M := measure_ev x hx
  have K := peak_ev x hx
  rw [if_pos c] at M K
  unfold loudness_Gain.f
  refine Ev.bind (proper_ev x hx) ?_
  simp only [if_pos c, if_neg (show ¬ a1 < 0 by omega), if_neg (show ¬ 4294967296 < a1 by omega), if_neg (show ¬ a2 < 0 by omega), if_neg (show ¬ 32767 < a2 by omega)]
  refine Ev.bind M ?_
  refine Ev.bind K ?_
  refine Ev.congr (fun n => if_pos ⟨mb.1, by omega, mb.2.2.1, by omega, pb.1, by omega⟩) ?_
  rw [hc]
  exact Ev.now _

/-! ### the law's examples -/
def tone (v : Int) : List (List Int) := [List.replicate 480 v]
theorem tone_pr (v : Int) (h0 : -32768 ≤ v) (h1 : v ≤ 32767) : Pr (tone v) 480 := by
  refine ⟨by show 1 ≤ 4; decide, by show 1 ≤ 1; decide, ?_, by decide, fun l hl => ?_⟩
  · show (List.replicate 480 v).length = 480
    exact List.length_replicate
  · obtain rfl : l = List.replicate 480 v := List.mem_singleton.1 hl
    exact ⟨fun u hu => by rw [(List.mem_replicate.1 hu).2]; exact ⟨h0, h1⟩, List.length_replicate⟩
theorem sq_rep (v : Int) : ∀ n : Nat, sq (List.replicate n v) = (n : Int) * (v * v)
  | 0 => by simp [sq]
  | n + 1 => by
    rw [List.replicate_succ]
    show v * v + sq (List.replicate n v) = _
    rw [sq_rep v n]
    generalize v * v = q
    rw [show ((n + 1 : Nat) : Int) = (n : Int) + 1 by omega, Int.add_mul, Int.one_mul, Int.add_comm]
theorem tone_all (v : Int) : pws (tone v) = [480 * (v * v)] := by
  have hl : (List.replicate 480 v).length = 480 := List.length_replicate
  have hn : nw (tone v) = 1 := by
    unfold nw
    rw [show ((tone v).headD []).length = 480 from hl, if_pos (Nat.le_refl _)]
  have hw : win 0 (List.replicate 480 v) = List.replicate 480 v := by
    unfold win
    rw [List.take_of_length_le (by rw [hl]; decide)]
    rfl
  unfold pws
  rw [hn]
  show [sumsq 0 (tone v)] = _
  show [sq (win 0 (List.replicate 480 v)) + 0] = _
  rw [hw, sq_rep, Int.add_zero]
  rfl
theorem tone_pws : pws (tone 100) = [4800000] := by rw [tone_all]; rfl
theorem pk_rep {v : Int} (h : 0 ≤ v) : ∀ n : Nat, pkrow v (List.replicate n v) = v
  | 0 => rfl
  | n + 1 => by
    rw [List.replicate_succ]
    show pkrow (mx (mx v v) (-v)) (List.replicate n v) = v
    rw [show mx (mx v v) (-v) = v by unfold mx; split <;> split <;> omega]
    exact pk_rep h n
theorem pkrow_cons (m v : Int) (l : List Int) : pkrow m (v :: l) = pkrow (mx (mx m v) (-v)) l := rfl
theorem pk_one (m : Int) (l : List Int) : pk m [l] = pkrow m l := rfl
theorem pk_rep0 {v : Int} (h : 0 ≤ v) (n : Nat) : pkrow 0 (List.replicate (n + 1) v) = v := by
  rw [List.replicate_succ, pkrow_cons, show mx (mx 0 v) (-v) = v by unfold mx; split <;> split <;> omega]
  exact pk_rep h n
theorem tone_pk0 {v : Int} (h : 0 ≤ v) : pk 0 (tone v) = v := by
  unfold tone
  rw [pk_one]
  exact pk_rep0 h 479
theorem tone_pk : pk 0 (tone 100) = 100 := tone_pk0 (by decide)
theorem tone_meas : meas [4800000] = (10000, 1, 0) := by decide +kernel
theorem tone0_pws : pws (tone 0) = [0] := by rw [tone_all]; rfl
theorem tone0_pk : pk 0 (tone 0) = 0 := tone_pk0 (by decide)
theorem tone0_meas : meas [0] = (0, 1, 0) := by decide +kernel
theorem awake_ev : Ev (fun k => cutroomlaw28_awake.f k) true := by
  have h := tone_pr 100 (by decide) (by decide)
  have z := tone_pr 0 (by decide) (by decide)
  have P1 := powers_ev (tone 100) (snd_of h)
  have M1 := measure_ev (tone 100) (snd_of h)
  rw [if_pos (prp_of h), tone_pws] at P1 M1
  rw [tone_meas] at M1
  obtain ⟨a, a1, a2, a3, G1⟩ := gain_ev (tone 100) h 2500 32767 (by decide) (by decide) (by decide) (by decide)
  obtain ⟨b, b1, b2, b3, G2⟩ := gain_ev (tone 0) z 1 1 (by decide) (by decide) (by decide) (by decide)
  rw [tone_pws, tone_meas, tone_pk] at a2 a3
  rw [tone0_pws, tone0_meas, tone0_pk] at b2 b3
  have ea : a = 2048 := by
    rcases Nat.lt_trichotomy a 2048 with hlt | heq | hgt
    · have := loudness_Gain.over_mono 10000 1 100 2500 32767 (by decide) (by decide) a 2047 (by omega) (a3 (by omega))
      exact absurd this (by decide)
    · exact heq
    · exact absurd (a2 2048 hgt) (by decide)
  have eb : b = 65536 := by
    by_cases c : b = 65536
    · exact c
    · have := loudness_Gain.over_mono 0 1 0 1 1 (by decide) (by decide) b 65535 (by omega) (b3 (by omega))
      exact absurd this (by decide)
  subst ea
  subst eb
  unfold tone at P1 M1 G1 G2
  unfold cutroomlaw28_awake.f
  refine Ev.bind P1 ?_
  refine Ev.bind M1 ?_
  refine Ev.bind G1 ?_
  refine Ev.bind G2 ?_
  refine Ev.congr (fun n => if_pos ⟨rfl, rfl, rfl, rfl⟩) ?_
  exact Ev.now _

end Go.Proofs.Ytjcjbbcamkkeiaa.P
