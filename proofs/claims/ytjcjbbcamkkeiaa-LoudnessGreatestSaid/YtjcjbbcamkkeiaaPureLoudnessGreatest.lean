/- The gain keeps both limits, and the next greater one exceeds one of them. No condition of its own. -/
import Derived.Test.YtjcjbbcamkkeiaaPx6
import Derived.Test.YtjcjbbcamkkeiaaPx27
import Derived.Test.YtjcjbbcamkkeiaaLoD
import Derived.Test.YtjcjbbcamkkeiaaLoW
namespace Go.Proofs.Ytjcjbbcamkkeiaa.Pure
open Go.RowKit Go.Proofs.Ytjcjbbcamkkeiaa.P Go.Proofs.YtjcjbbcamkkeiaaW.PrintWords Go.Proofs.YtjcjbbcamkkeiaaW.PrintLast
set_option linter.unusedVariables false
set_option linter.unusedSimpArgs false

theorem wfu16 {x : Int} (h : (Lit.int .u16 x).wf = true) : 0 ≤ x ∧ x ≤ 65535 := by
  simp [Lit.wf, IntKind.min, IntKind.max, IntKind.signed, IntKind.bits] at h
  omega
theorem wu16 {n : Int} (h0 : 0 ≤ n) (h1 : n < 2 ^ 16) : IntKind.u16.wrap n = n := by
  have : IntKind.u16.wrap n = n % 65536 := by simp [IntKind.wrap, IntKind.bits, IntKind.signed]
  omega
theorem and15 {x : Int} (h0 : 0 ≤ x) (h1 : x ≤ 65535) : Go.bits .and .u16 x 32767 = x % 32768 := by
  have := bits_mask .u16 16 (by decide) (fun n a b => wu16 a b) 15 (by decide) x h0 (by omega)
  rwa [show ((2 : Int) ^ 15 - 1) = 32767 by decide, show ((2 : Int) ^ 15) = 32768 by decide] at this

/-- rounded up, in parts -/
theorem up_iff (a num D N : Int) (hD : 0 < D) : a * (num / D) + ((a / D) * (num % D) + ((a % D) * (num % D) + D - 1) / D) ≤ N ↔ a * num ≤ N * D := by
  have e1 := Int.mul_ediv_add_emod num D
  have e2 := Int.mul_ediv_add_emod a D
  generalize num / D = w at *
  generalize num % D = r at *
  generalize a / D = q at *
  generalize a % D = s at *
  have key : a * num = (a * w + q * r) * D + s * r := by
    rw [← e1]
    have : a * r = (D * q + s) * r := by rw [e2]
    grind
  rw [key]
  generalize a * w = X at *
  generalize q * r = Y at *
  generalize s * r = Z at *
  have h1 : (Z + D - 1) / D ≤ N - (X + Y) ↔ Z + D - 1 < (N - (X + Y) + 1) * D := by
    rw [← Int.ediv_lt_iff_lt_mul hD]
    omega
  have h2 : (N - (X + Y) + 1) * D = N * D - (X + Y) * D + D := by grind
  rw [h2] at h1
  omega

theorem keeps_f (g num D target p limit : Int) (g0 : 0 ≤ g) (g1 : g ≤ 65537) (n0 : 0 ≤ num) (n1 : num ≤ 1300000000) (d0 : 1 ≤ D) (d1 : D ≤ 16384) (t0 : 0 ≤ target) (t1 : target ≤ 65535) (p0 : 0 ≤ p) (p1 : p ≤ 32768) (l0 : 0 ≤ limit) (l1 : limit ≤ 32767) :
    cutroomlaw28_keeps.f g num D target p limit = some (decide (g * g * num ≤ target * 16777216 * D) && decide (g * p ≤ limit * 4096)) := by
  have hD : 0 < D := by omega
  have hi := up_iff (g * g) num D (target * 16777216) hD
  have a0 := Int.mul_nonneg g0 g0
  have a1 := mul_lt g0 g0 g1 g1
  unfold cutroomlaw28_keeps.f
  rw [if_neg (show ¬ D = 0 by omega)]
  generalize g * g = a at *
  have w0 : 0 ≤ num / D := Int.ediv_nonneg n0 (by omega)
  have w1 : num / D ≤ num := Int.ediv_le_self _ n0
  have r0 : 0 ≤ num % D := Int.emod_nonneg _ (by omega)
  have r1 : num % D < D := Int.emod_lt_of_pos _ hD
  have q0 : 0 ≤ a / D := Int.ediv_nonneg a0 (by omega)
  have q1 : a / D ≤ a := Int.ediv_le_self _ a0
  have s0 : 0 ≤ a % D := Int.emod_nonneg _ (by omega)
  have s1 : a % D < D := Int.emod_lt_of_pos _ hD
  have x0 := Int.mul_nonneg a0 w0
  have x1 := mul_lt a0 w0 a1 (show num / D ≤ 1300000000 by omega)
  have y0 := Int.mul_nonneg q0 r0
  have y1 := mul_lt q0 r0 (show a / D ≤ 4295098369 by omega) (show num % D ≤ 16384 by omega)
  have z0 := Int.mul_nonneg s0 r0
  have z1 := mul_lt s0 r0 (show a % D ≤ 16384 by omega) (show num % D ≤ 16384 by omega)
  have m0 := Int.mul_nonneg g0 p0
  have m1 := mul_lt g0 p0 g1 p1
  rw [Int.tdiv_eq_ediv_of_nonneg n0, Int.tmod_eq_emod_of_nonneg n0, w64 (x := a) (by omega) (by omega), Int.tdiv_eq_ediv_of_nonneg a0, Int.tmod_eq_emod_of_nonneg a0, w64 (x := num / D) (by omega) (by omega), w64 (x := a / D) (by omega) (by omega)]
  generalize num / D = w at *
  generalize num % D = r at *
  generalize a / D = q at *
  generalize a % D = s at *
  generalize a * w = X at *
  generalize q * r = Y at *
  generalize s * r = Z at *
  generalize g * p = M at *
  have u0 : 0 ≤ (Z + D - 1) / D := Int.ediv_nonneg (by omega) (by omega)
  have u1 : (Z + D - 1) / D ≤ Z + D - 1 := Int.ediv_le_self _ (by omega)
  rw [w64 (x := X) (by omega) (by omega), w64 (x := Y) (by omega) (by omega), w64 (x := Z) (by omega) (by omega), w64 (x := Z + D) (by omega) (by omega), w64 (x := Z + D - 1) (by omega) (by omega), Int.tdiv_eq_ediv_of_nonneg (show 0 ≤ Z + D - 1 by omega), w64 (x := (Z + D - 1) / D) (by omega) (by omega), w64 (x := Y + (Z + D - 1) / D) (by omega) (by omega), w64 (x := X + (Y + (Z + D - 1) / D)) (by omega) (by omega), w64 (x := target * 4096) (by omega) (by omega), w64 (x := target * 4096 * 4096) (by omega) (by omega), w64 (x := M) (by omega) (by omega), w64 (x := limit * 4096) (by omega) (by omega)]
  rw [show target * 4096 * 4096 = target * 16777216 by omega]
  by_cases c : X + (Y + (Z + D - 1) / D) ≤ target * 16777216
  · rw [if_pos c, decide_eq_true (hi.1 c), Bool.true_and]
  · rw [if_neg c, decide_eq_false (fun e => c (hi.2 e)), Bool.false_and]

/-! ### how loud the sound of these laws can be -/
theorem sqB {B v : Int} (h0 : -B ≤ v) (h1 : v ≤ B) : v * v ≤ B * B := by
  have h2 : 0 ≤ (B - v) * (B + v) := Int.mul_nonneg (by omega) (by omega)
  have h3 : (B - v) * (B + v) = B * B - v * v := by grind
  omega
theorem sq_bdB {B : Int} : ∀ {l : List Int}, (∀ v ∈ l, -B ≤ v ∧ v ≤ B) → sq l ≤ B * B * (l.length : Int)
  | [], _ => by simp [sq]
  | v :: l, h => by
    have h1 := sq_bdB (l := l) (fun u hu => h u (List.mem_cons_of_mem _ hu))
    have h2 := sqB (h v (List.mem_cons_self ..)).1 (h v (List.mem_cons_self ..)).2
    have h3 : ((v :: l).length : Int) = (l.length : Int) + 1 := by simp
    rw [h3, Int.mul_add, Int.mul_one]
    show v * v + sq l ≤ _
    omega
theorem made200 {r : List (List Int)} (h : Md 200 r) : (pws r).length ≤ 33 ∧ ∀ p ∈ pws r, 0 ≤ p ∧ p ≤ 38400000 := by
  obtain ⟨L, hL, hP⟩ := md_pr h (by decide)
  have hn := nw_le hP.head
  obtain ⟨hr, L', hL', hR⟩ := h
  refine ⟨by unfold pws; rw [List.length_map, List.length_range]; omega, fun p hp => ?_⟩
  unfold pws at hp
  obtain ⟨i, _, rfl⟩ := List.mem_map.1 hp
  have hw : ∀ l ∈ r, sq (win i l) ≤ 19200000 := fun l hl => by
    obtain ⟨j, hj, rfl⟩ := List.getElem_of_mem hl
    have h1 := sq_bdB (B := 200) (l := win i r[j]) (fun v hv => (hR j hj).2 v (List.mem_of_mem_take (List.mem_of_mem_drop hv)))
    have h4 : (win i r[j]).length ≤ 480 := by unfold win; rw [List.length_drop, List.length_take]; omega
    omega
  have h0 := sumsq_bd i (x := r) (fun l hl => (hP.rows l hl).1)
  refine ⟨h0.1, ?_⟩
  match r, hr, hw with
  | [a], _, hw => have := hw a (by simp); show sq (win i a) + 0 ≤ _; omega
  | [a, b], _, hw => have := hw a (by simp); have := hw b (by simp); show sq (win i a) + (sq (win i b) + 0) ≤ _; omega
theorem gat_bdB (S C M : Int) : ∀ {l : List Int}, (∀ p ∈ l, 0 ≤ p ∧ p ≤ M) → gat S C l ≤ M * (l.length : Int)
  | [], _ => by simp [gat]
  | p :: l, h => by
    have h1 := gat_bdB S C M (l := l) (fun u hu => h u (List.mem_cons_of_mem _ hu))
    have h2 := h p (List.mem_cons_self ..)
    have h3 : ((p :: l).length : Int) = (l.length : Int) + 1 := by simp
    rw [h3, Int.mul_add, Int.mul_one]
    unfold gat
    split <;> omega

theorem LoudnessGreatest : cutroomlaw28_LoudnessGreatest.Pure := by
  intro tape a b t0 t1 t2 wa wb
  refine Ev.rounds (g := fun k => cutroomlaw28_LoudnessGreatest.f k tape a b) ?_
  unfold cutroomlaw28_LoudnessGreatest.f
  obtain ⟨a0, a1⟩ := wfu16 wa
  obtain ⟨b0, b1⟩ := wfu16 wb
  obtain ⟨x, m1, e1⟩ := made_ev tape 200 (by decide) (by decide)
  obtain ⟨L, _, hP⟩ := md_pr m1 (by decide)
  obtain ⟨c1, c2⟩ := made200 m1
  obtain ⟨b5, b6⟩ := pws_bd hP
  have mb := meas_bd b5 b6
  have gb := gat_bdB (gs (pws x)) (gc (pws x)) 38400000 (l := pws x) c2
  have hT : T (pws x) = gat (gs (pws x)) (gc (pws x)) (pws x) := rfl
  have gl := G_len (pws x)
  have m1' := mx1 (G (pws x)).length
  have pb := pk_pr hP
  have hx := snd_of hP
  have M := measure_ev x hx
  have K := peak_ev x hx
  rw [if_pos (prp_of hP)] at M K
  rw [and15 b0 b1, w64 (x := a) (by omega) (by omega), w64 (x := b % 32768) (by omega) (by omega)]
  obtain ⟨g, g1, g2, g3, G1⟩ := gain_ev x hP a (b % 32768) (by omega) (by omega) (by omega) (by omega)
  generalize hm : meas (pws x) = m at *
  obtain ⟨num, den, why⟩ := m
  obtain ⟨n0, n1, d0, d1, rfl⟩ := mb
  dsimp only at n0 n1 d0 d1 g2 g3
  generalize hp : pk 0 x = p at *
  have k1 : ∀ z : Int, 0 ≤ z → z ≤ 65537 → cutroomlaw28_keeps.f z num den a p (b % 32768) = some (decide (z * z * num ≤ a * 16777216 * den) && decide (z * p ≤ b % 32768 * 4096)) := fun z z0 z1 =>
    keeps_f z num den a p (b % 32768) z0 z1 n0 (by omega) d0 (by omega) a0 a1 pb.1 pb.2 (by omega) (by omega)
  have good : (decide ((g : Int) * (g : Int) * num ≤ a * 16777216 * den) && decide ((g : Int) * p ≤ b % 32768 * 4096)) = true := by
    cases g with
    | zero =>
      have : 0 ≤ a * 16777216 * den := Int.mul_nonneg (by omega) (by omega)
      simp only [Int.natCast_zero, Int.ofNat_zero, Int.zero_mul, Bool.and_eq_true, decide_eq_true_eq]
      exact ⟨by simpa using this, by omega⟩
    | succ t =>
      have := g2 t (by omega)
      unfold loudness_Gain.over at this
      rw [Bool.or_eq_false_iff, decide_eq_false_iff_not, decide_eq_false_iff_not] at this
      rw [Bool.and_eq_true, decide_eq_true_eq, decide_eq_true_eq, show ((t + 1 : Nat) : Int) = (t : Int) + 1 by omega]
      exact ⟨Int.not_lt.1 this.1, Int.not_lt.1 this.2⟩
  refine Ev.bind e1 ?_
  refine Ev.bind G1 ?_
  refine Ev.bind M ?_
  refine Ev.bind K ?_
  simp only [if_true, if_neg (show ¬ (g : Int) < 0 by omega), if_neg (show ¬ (g : Int) > 65536 by omega), if_neg (show ¬ den < 1 by omega), if_neg (show ¬ num < 0 by omega), if_neg (show ¬ num > 1099511627776 by omega), decide_eq_false (show ¬ den > 4194304 by omega)]
  refine Ev.step (fun k => by rw [cutroomlaw28_LoudnessGreatest.j0]) ?_
  rw [w64 (x := a) (by omega) (by omega), k1 (g : Int) (by omega) (by omega), good]
  simp only [Bool.false_eq_true, if_false, Option.bind_some, if_true]
  by_cases c : g = 65536
  · simp only [if_pos (show (g : Int) = 65536 by omega)]
    exact Ev.bind awake_ev (Ev.now _)
  · simp only [if_neg (show ¬ (g : Int) = 65536 by omega)]
    rw [w64 (x := (g : Int) + 1) (by omega) (by omega), k1 ((g : Int) + 1) (by omega) (by omega)]
    have bad : (decide (((g : Int) + 1) * ((g : Int) + 1) * num ≤ a * 16777216 * den) && decide (((g : Int) + 1) * p ≤ b % 32768 * 4096)) = false := by
      have := g3 (by omega)
      unfold loudness_Gain.over at this
      rw [Bool.or_eq_true, decide_eq_true_eq, decide_eq_true_eq] at this
      rcases this with h | h
      · rw [decide_eq_false (Int.not_le.2 h), Bool.false_and]
      · rw [decide_eq_false (p := _ ≤ b % 32768 * 4096) (Int.not_le.2 h), Bool.and_false]
    rw [bad]
    simp only [Option.bind_some, Bool.false_eq_true, if_false]
    exact Ev.bind awake_ev (Ev.now _)

end Go.Proofs.Ytjcjbbcamkkeiaa.Pure
