/- What any bytes are read as; an accepted packet is the one that Put writes. No condition of its own. -/
import Derived.Test.YtdndhbfagoghfaaPx5
import Derived.Test.YtdndhbfagoghfaaTrU
import Derived.Test.YtdndhbfagoghfaaTrW
namespace Go.Proofs.Ytdndhbfagoghfaa.Pure
open Go.RowKit Go.Proofs.Ytdndhbfagoghfaa.P Go.Proofs.YtdndhbfagoghfaaW.PrintWords Go.Proofs.YtdndhbfagoghfaaW.PrintLast
set_option linter.unusedVariables false
set_option linter.unusedSimpArgs false

theorem wfu8 {x : Int} (h : (Lit.int .u8 x).wf = true) : 0 ≤ x ∧ x ≤ 255 := by
  simp [Lit.wf, IntKind.min, IntKind.max, IntKind.signed, IntKind.bits] at h
  omega
theorem same_f (a0 a1 : Int) (a2 : Bool) (a3 : Int) (l : List Int) : cutroomlaw17_same.f a0 a1 a2 a3 l a0 a1 a2 a3 l = some true := by
  unfold cutroomlaw17_same.f
  simp only [if_true, beq_self_eq_true, same_bytes, Option.bind_some]
theorem bad_end (b : List Int) (e : Int) (he : ¬ e = 0) (h1 : Ev (fun k => transport_Take.f k b) (0, 0, false, 0, [], e)) (h2 : Ev (fun k => cutroomref17_Take.f k b) (0, 0, false, 0, [], e)) (hl : ¬ (b.length : Int) > 400) : Ev (fun k => cutroomlaw17_TransportTakes.f k b) true := by
  unfold cutroomlaw17_TransportTakes.f
  simp only [if_neg hl]
  refine Ev.bind h1 ?_
  refine Ev.bind h2 ?_
  simp only [if_true, same_f, Option.bind_some, Bool.not_true]
  refine Ev.step (fun k => by rw [cutroomlaw17_TransportTakes.j0]) ?_
  simp only [Bool.false_eq_true, if_false, if_neg he]
  exact Ev.bind awake_ev (Ev.now _)

theorem TransportTakes : cutroomlaw17_TransportTakes.Pure := by
  intro b h0 h1 h2
  refine Ev.rounds (g := fun k => cutroomlaw17_TransportTakes.f k b) ?_
  have hb : By b := fun v hv => wfu8 (h2 v hv)
  by_cases c : (b.length : Int) > 400
  · unfold cutroomlaw17_TransportTakes.f
    simp only [if_pos c]
    exact Ev.now _
  by_cases c1 : (b.length : Int) < 188
  · refine bad_end b 4 (by decide) ?_ ?_ c
    · unfold transport_Take.f
      simp only [if_pos c1]
      exact Ev.now _
    · unfold cutroomref17_Take.f
      simp only [if_pos c1]
      exact Ev.now _
  by_cases c2 : (b.length : Int) > 188
  · refine bad_end b 3 (by decide) ?_ ?_ c
    · unfold transport_Take.f
      simp only [if_neg c1, if_pos c2]
      exact Ev.now _
    · unfold cutroomref17_Take.f
      simp only [if_neg c1, if_pos c2]
      exact Ev.now _
  rcases takes_same b (by omega) hb with ⟨s, hs, e1, e2⟩ | ⟨e1, e2⟩
  · have hp := put_ev s.a0 s.a1 s.a2 s.a3 s.l
    rw [if_pos hs.1, hs.2] at hp
    unfold cutroomlaw17_TransportTakes.f
    simp only [if_neg c]
    refine Ev.bind e1 ?_
    refine Ev.bind e2 ?_
    simp only [Pk.t, if_true, same_f, Option.bind_some, Bool.not_true]
    refine Ev.step (fun k => by rw [cutroomlaw17_TransportTakes.j0]) ?_
    simp only [Bool.false_eq_true, if_false, if_true]
    refine Ev.bind hp ?_
    refine Ev.bind awake_ev ?_
    simp only [if_true, same_bytes, Option.bind_some]
    exact Ev.now _
  · exact bad_end b 3 (by decide) e1 e2 c

end Go.Proofs.Ytdndhbfagoghfaa.Pure
