/- After the gain for a peak no sample is greater than the peak; the gain that changes nothing changes nothing. No condition of its own. -/
import Derived.Test.YtjcjbbcamkkeiaaPx13
import Derived.Test.YtjcjbbcamkkeiaaLoP
import Derived.Test.YtjcjbbcamkkeiaaLoC
namespace Go.Proofs.Ytjcjbbcamkkeiaa.Pure
open Go.RowKit Go.Proofs.Ytjcjbbcamkkeiaa.P Go.Proofs.YtjcjbbcamkkeiaaW.PrintWords Go.Proofs.YtjcjbbcamkkeiaaW.PrintLast
set_option linter.unusedVariables false
set_option linter.unusedSimpArgs false

theorem wfu16 {x : Int} (h : (Lit.int .u16 x).wf = true) : 0 ≤ x ∧ x ≤ 65535 := by
  simp [Lit.wf, IntKind.min, IntKind.max, IntKind.signed, IntKind.bits] at h
  omega
theorem wu16 {n : Int} (h0 : 0 ≤ n) (h1 : n < 2 ^ 16) : IntKind.u16.wrap n = n := by
  have : IntKind.u16.wrap n = n % 65536 := by simp [IntKind.wrap, IntKind.bits, IntKind.signed]
  omega
theorem and15 {x : Int} (h0 : 0 ≤ x) (h1 : x ≤ 65535) : Go.bits .and .u16 x 32767 = x % 32768 := by
  have := bits_mask .u16 16 (by decide) (fun n a b => wu16 a b) 15 (by decide) x h0 (by omega)
  rwa [show ((2 : Int) ^ 15 - 1) = 32767 by decide, show ((2 : Int) ^ 15) = 32768 by decide] at this

theorem pkrow_ge : ∀ (l : List Int) (m : Int), m ≤ pkrow m l ∧ ∀ v ∈ l, -pkrow m l ≤ v ∧ v ≤ pkrow m l
  | [], m => ⟨Int.le_refl _, fun v hv => absurd hv (by simp)⟩
  | u :: l, m => by
    obtain ⟨h1, h2⟩ := pkrow_ge l (mx (mx m u) (-u))
    have h3 : m ≤ mx (mx m u) (-u) ∧ u ≤ mx (mx m u) (-u) ∧ -u ≤ mx (mx m u) (-u) := by unfold mx; split <;> split <;> omega
    rw [pkrow_cons]
    refine ⟨by omega, fun v hv => ?_⟩
    rcases List.mem_cons.1 hv with rfl | hv
    · omega
    · exact h2 v hv
theorem pk_ge : ∀ (x : List (List Int)) (m : Int), m ≤ pk m x ∧ ∀ l ∈ x, ∀ v ∈ l, -pk m x ≤ v ∧ v ≤ pk m x
  | [], m => ⟨Int.le_refl _, fun l hl => absurd hl (by simp)⟩
  | a :: x, m => by
    obtain ⟨r1, r2⟩ := pkrow_ge a m
    obtain ⟨h1, h2⟩ := pk_ge x (pkrow m a)
    show m ≤ pk (pkrow m a) x ∧ ∀ l ∈ a :: x, ∀ v ∈ l, -pk (pkrow m a) x ≤ v ∧ v ≤ pk (pkrow m a) x
    refine ⟨by omega, fun l hl v hv => ?_⟩
    rcases List.mem_cons.1 hl with rfl | hl
    · have := r2 v hv; omega
    · exact h2 l hl v hv
theorem ap_unit (v : Int) (h0 : -32768 ≤ v) (h1 : v ≤ 32767) : ap 4096 v = v := by
  unfold ap
  rw [show (v * 4096 + 2048) / 4096 = v by omega]
  unfold mx mn
  split <;> split <;> omega
theorem ap_lim {g v p lim : Int} (g0 : 0 ≤ g) (hp : -p ≤ v ∧ v ≤ p) (hg : g * p ≤ lim * 4096) (l0 : 0 ≤ lim) (l1 : lim ≤ 32767) : -lim ≤ ap g v ∧ ap g v ≤ lim := by
  have h1 := Int.mul_le_mul_of_nonneg_right hp.1 g0
  have h2 := Int.mul_le_mul_of_nonneg_right hp.2 g0
  rw [Int.neg_mul] at h1
  rw [Int.mul_comm p g] at h1 h2
  unfold ap
  generalize v * g = q at *
  generalize g * p = z at *
  unfold mx mn
  split <;> split <;> omega

theorem LoudnessPeaks : cutroomlaw28_LoudnessPeaks.Pure := by
  intro tape a b t0 t1 t2 wa wb
  refine Ev.rounds (g := fun k => cutroomlaw28_LoudnessPeaks.f k tape a b) ?_
  unfold cutroomlaw28_LoudnessPeaks.f
  obtain ⟨a0, a1⟩ := wfu16 wa
  obtain ⟨b0, b1⟩ := wfu16 wb
  obtain ⟨x, m1, e1⟩ := made_ev tape 32767 (by decide) (by decide)
  obtain ⟨L, hL, hP⟩ := md_pr m1 (by decide)
  have hx := snd_of hP
  have hp := prp_of hP
  have h4 := hP.len
  have hmost := hP.most
  rw [and15 b0 b1, w64 (x := a) (by omega) (by omega), w64 (x := b % 32768) (by omega) (by omega)]
  obtain ⟨g, g1, g2, g3, G1⟩ := gain_ev x hP a (b % 32768) (by omega) (by omega) (by omega) (by omega)
  have kp : (g : Int) * pk 0 x ≤ b % 32768 * 4096 := by
    cases g with
    | zero => simp only [Int.natCast_zero, Int.ofNat_zero, Int.zero_mul]; omega
    | succ t =>
      have := g2 t (by omega)
      unfold loudness_Gain.over at this
      rw [Bool.or_eq_false_iff, decide_eq_false_iff_not, decide_eq_false_iff_not] at this
      rw [show ((t + 1 : Nat) : Int) = (t : Int) + 1 by omega]
      exact Int.not_lt.1 this.2
  have A1 := apply_ev x hx (g : Int)
  have A2 := apply_ev x hx 4096
  rw [show app x (g : Int) = (x.map (mp (g : Int)), 0) from if_pos ⟨hp, by omega, by omega⟩] at A1
  have hz : x.map (mp 4096) = x := by
    have : ∀ l ∈ x, mp 4096 l = l := fun l hl => by
      unfold mp
      have h : ∀ v ∈ l, ap 4096 v = v := fun v hv => ap_unit v ((hP.rows l hl).1 v hv).1 ((hP.rows l hl).1 v hv).2
      rw [List.map_congr_left h, List.map_id']
    rw [List.map_congr_left this, List.map_id']
  rw [show app x 4096 = (x.map (mp 4096), 0) from if_pos ⟨hp, by decide, by decide⟩, hz] at A2
  obtain ⟨_, pg⟩ := pk_ge x 0
  have hlim : ∀ l ∈ x.map (mp (g : Int)), ∀ v ∈ l, -(b % 32768) ≤ v ∧ v ≤ b % 32768 := fun l hl v hv => by
    obtain ⟨y, hy, rfl⟩ := List.mem_map.1 hl
    obtain ⟨u, hu, rfl⟩ := List.mem_map.1 hv
    exact ap_lim (by omega) (pg y hy u hu) kp (by omega) (by omega)
  have hy : Pr (x.map (mp (g : Int))) L := by
    refine ⟨by rw [List.length_map]; exact h4, by rw [List.length_map]; exact hP.pos, ?_, hmost, fun l hl => ?_⟩
    · have := hP.head
      cases x with
      | nil => exact this
      | cons c x => show (mp (g : Int) c).length = L; unfold mp; rw [List.length_map]; exact this
    · obtain ⟨y, hy, rfl⟩ := List.mem_map.1 hl
      refine ⟨fun v hv => ?_, by unfold mp; rw [List.length_map]; exact (hP.rows y hy).2⟩
      obtain ⟨u, _, rfl⟩ := List.mem_map.1 hv
      exact ap_bd _ _
  have K := peak_ev _ (snd_of hy)
  rw [if_pos (prp_of hy)] at K
  have kb := (pk_bd (B := b % 32768) (m := 0) hlim (by omega)).2
  refine Ev.bind e1 ?_
  refine Ev.bind G1 ?_
  refine Ev.bind A1 ?_
  refine Ev.bind A2 ?_
  simp only [if_true]
  refine Ev.bind K ?_
  simp only [if_pos kb]
  refine Ev.bind (same_ev x (fun l hl => by rw [(hP.rows l hl).2]; exact hmost) (by omega)) ?_
  simp only [if_true]
  exact Ev.bind awake_ev (Ev.now _)

end Go.Proofs.Ytjcjbbcamkkeiaa.Pure
