/- The order of the channels does not matter, and a silent channel more changes nothing. No condition of its own. -/
import Derived.Test.YtjcjbbcamkkeiaaPx9
import Derived.Test.YtjcjbbcamkkeiaaLoD
import Derived.Test.YtjcjbbcamkkeiaaLoI
import Derived.Test.YtjcjbbcamkkeiaaLoW
namespace Go.Proofs.Ytjcjbbcamkkeiaa.Pure
open Go.RowKit Go.Proofs.Ytjcjbbcamkkeiaa.P Go.Proofs.YtjcjbbcamkkeiaaW.PrintWords Go.Proofs.YtjcjbbcamkkeiaaW.PrintLast
set_option linter.unusedVariables false
set_option linter.unusedSimpArgs false

theorem sq_zero : ∀ {l : List Int}, (∀ v ∈ l, v = 0) → sq l = 0
  | [], _ => rfl
  | v :: l, h => by
    have h1 := sq_zero (l := l) (fun u hu => h u (List.mem_cons_of_mem _ hu))
    have h2 := h v (List.mem_cons_self ..)
    show v * v + sq l = 0
    rw [h1, h2]
    rfl
theorem mx_assoc (a b c : Int) : mx (mx a b) c = mx a (mx b c) := by
  unfold mx
  repeat' split
  all_goals omega
theorem mx_comm (a b : Int) : mx a b = mx b a := by unfold mx; split <;> split <;> omega
theorem pkrow_mx : ∀ (l : List Int) (m n : Int), pkrow (mx m n) l = mx m (pkrow n l)
  | [], _, _ => rfl
  | v :: l, m, n => by
    rw [pkrow_cons, pkrow_cons, mx_assoc m n v, mx_assoc m (mx n v) (-v)]
    exact pkrow_mx l m _
theorem pkrow_0 {m : Int} (h : 0 ≤ m) (l : List Int) : pkrow m l = mx m (pkrow 0 l) := by
  have := pkrow_mx l m 0
  rwa [show mx m 0 = m by unfold mx; split <;> omega] at this
theorem pkrow_nn (l : List Int) : 0 ≤ pkrow 0 l := by
  have := pkrow_0 (m := 0) (by omega) l
  unfold mx at this
  split at this <;> omega
theorem pkrow_z : ∀ {l : List Int}, (∀ v ∈ l, v = 0) → pkrow 0 l = 0
  | [], _ => rfl
  | v :: l, h => by
    have h2 := h v (List.mem_cons_self ..)
    rw [pkrow_cons, h2]
    exact pkrow_z (l := l) (fun u hu => h u (List.mem_cons_of_mem _ hu))

/-- the sound of the other order -/
def turned (L : Nat) (x : List (List Int)) : List (List Int) := List.replicate L 0 :: x.reverse
theorem turned_pr {x : List (List Int)} {L : Nat} (h : Pr x L) (hx : x.length ≤ 2) : Pr (turned L x) L := by
  have hp := h.pos
  refine ⟨by unfold turned; rw [List.length_cons, List.length_reverse]; omega, by unfold turned; rw [List.length_cons]; omega, List.length_replicate, h.most, fun l hl => ?_⟩
  rcases List.mem_cons.1 hl with rfl | hl
  · exact ⟨fun v hv => by rw [(List.mem_replicate.1 hv).2]; omega, List.length_replicate⟩
  · exact h.rows l (List.mem_reverse.1 hl)
theorem win_zero (i L : Nat) : sq (win i (List.replicate L 0)) = 0 := sq_zero (fun v hv => (List.mem_replicate.1 (List.mem_of_mem_take (List.mem_of_mem_drop hv))).2)
theorem turned_same {x : List (List Int)} {L : Nat} (h : Pr x L) (hx : x.length = 1 ∨ x.length = 2) : pws (turned L x) = pws x ∧ pk 0 (turned L x) = pk 0 x := by
  have hz : pkrow 0 (List.replicate L (0 : Int)) = 0 := pkrow_z (fun v hv => (List.mem_replicate.1 hv).2)
  have hn : nw (turned L x) = nw x := by
    unfold nw
    rw [h.head, show ((turned L x).headD []).length = L from List.length_replicate]
  have hs : ∀ i, sumsq i (turned L x) = sumsq i x ∧ True := fun i => by
    match x, hx with
    | [a], _ => exact ⟨by show sq (win i (List.replicate L 0)) + (sq (win i a) + 0) = sq (win i a) + 0; rw [win_zero]; omega, trivial⟩
    | [a, b], _ => exact ⟨by show sq (win i (List.replicate L 0)) + (sq (win i b) + (sq (win i a) + 0)) = sq (win i a) + (sq (win i b) + 0); rw [win_zero]; omega, trivial⟩
  refine ⟨?_, ?_⟩
  · unfold pws
    rw [hn]
    exact List.map_congr_left (fun i _ => (hs i).1)
  · match x, hx with
    | [a], _ => show pkrow (pkrow 0 (List.replicate L 0)) a = pkrow 0 a; rw [hz]
    | [a, b], _ =>
      show pkrow (pkrow (pkrow 0 (List.replicate L 0)) b) a = pkrow (pkrow 0 a) b
      rw [hz, pkrow_0 (pkrow_nn b), pkrow_0 (pkrow_nn a), mx_comm]

theorem channels_end (x y : List (List Int)) {L : Nat} (h : Pr x L) (hy : Pr y L) (e1 : pws y = pws x) (e2 : pk 0 y = pk 0 x) : Ev (fun k => cutroomlaw28_LoudnessChannels.l0 k x y (-1)) true := by
  have P1 := powers_ev x (snd_of h)
  have P2 := powers_ev y (snd_of hy)
  have M1 := measure_ev x (snd_of h)
  have M2 := measure_ev y (snd_of hy)
  have K1 := peak_ev x (snd_of h)
  have K2 := peak_ev y (snd_of hy)
  rw [if_pos (prp_of h)] at P1 M1 K1
  rw [if_pos (prp_of hy), e1] at P2 M2
  rw [if_pos (prp_of hy), e2] at K2
  have hw : (meas (pws x)).2.2 = 0 := rfl
  refine Ev.step (fun k => by rw [cutroomlaw28_LoudnessChannels.l0]) ?_
  simp only [if_neg (show ¬ (-1 : Int) ≥ 0 by decide)]
  refine Ev.bind P1 ?_
  refine Ev.bind P2 ?_
  refine Ev.bind M1 ?_
  refine Ev.bind M2 ?_
  simp only [if_true, hw]
  refine Ev.bind (ints_ev _ (by have := (pws_bd h).1; omega)) ?_
  simp only [if_true, beq_self_eq_true, Bool.and_self]
  refine Ev.bind K1 ?_
  refine Ev.bind K2 ?_
  simp only [if_true]
  exact Ev.bind awake_ev (Ev.now _)
theorem channels_step (x y : List (List Int)) (i : Nat) (hi : i < x.length) (hy : y.length ≤ 10) (hx : x.length ≤ 10) (h : Ev (fun k => cutroomlaw28_LoudnessChannels.l0 k x (y ++ [x[i]]) ((i : Int) - 1)) true) : Ev (fun k => cutroomlaw28_LoudnessChannels.l0 k x y (i : Int)) true := by
  refine Ev.step (fun k => by rw [cutroomlaw28_LoudnessChannels.l0]) ?_
  simp only [if_pos (show (i : Int) ≥ 0 by omega), if_pos (show (0 : Int) ≤ (i : Int) by omega), if_pos (show (i : Int) < (x.length : Int) by omega), if_pos (show y.length < 5864062014805 by omega), rdL hi]
  rw [w64 (by omega) (by omega)]
  exact h

theorem LoudnessChannels : cutroomlaw28_LoudnessChannels.Pure := by
  intro tape t0 t1 t2
  refine Ev.rounds (g := fun k => cutroomlaw28_LoudnessChannels.f k tape) ?_
  unfold cutroomlaw28_LoudnessChannels.f
  obtain ⟨x, m1, e1⟩ := made_ev tape 9000 (by decide) (by decide)
  have hlen := m1.1
  obtain ⟨L, hL, hP⟩ := md_pr m1 (by decide)
  obtain ⟨s1, s2⟩ := turned_same hP hlen
  have hT := turned_pr hP (by omega)
  have fin := channels_end x (turned L x) hP hT s1 s2
  refine Ev.bind e1 ?_
  simp only [if_pos (show (0 : Int) < (x.length : Int) by omega), rdL0 (show 0 < x.length by omega), hP.head, if_pos (show (0 : Int) ≤ (L : Int) by omega), Int.toNat_natCast, if_pos (show L ≤ 140737488355328 by omega)]
  match x, hlen, fin with
  | [a], _, fin =>
    rw [show (([a] : List (List Int)).length : Int) - 1 = ((0 : Nat) : Int) from rfl, w64 (x := ((0 : Nat) : Int)) (by decide) (by decide)]
    exact channels_step [a] _ 0 (by simp) (by simp) (by simp) fin
  | [a, b], _, fin =>
    rw [show (([a, b] : List (List Int)).length : Int) - 1 = ((1 : Nat) : Int) from rfl, w64 (x := ((1 : Nat) : Int)) (by decide) (by decide)]
    refine channels_step [a, b] _ 1 (by simp) (by simp) (by simp) ?_
    exact channels_step [a, b] _ 0 (by simp) (by simp) (by simp) fin

end Go.Proofs.Ytjcjbbcamkkeiaa.Pure
