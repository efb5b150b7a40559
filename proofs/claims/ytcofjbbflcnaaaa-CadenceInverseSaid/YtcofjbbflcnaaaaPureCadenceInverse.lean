/- Restore of Pull returns the frames that were pulled, for every Weave of made frames. No condition of its own. -/
import Derived.Test.YtcofjbbflcnaaaaPx19
import Derived.Test.YtcofjbbflcnaaaaCadN
import Derived.Test.YtcofjbbflcnaaaaCadL
import Derived.Test.YtcofjbbflcnaaaaCadQ
namespace Go.Proofs.Ytcofjbbflcnaaaa.Pure
open Go.RowKit Go.Proofs.Ytcofjbbflcnaaaa.P Go.Proofs.YtcofjbbflcnaaaaW.PrintWords Go.Proofs.YtcofjbbflcnaaaaW.PrintLast
set_option linter.unusedVariables false

theorem CadenceInverse : cutroomlaw20_CadenceInverse.Pure := by
  intro tape fn fd vn vd hl ha hb hc hd
  obtain ⟨xs, S, hF, hn, hS, hG⟩ := frames_ev tape 6 (by omega) (by omega)
  refine Ev.rounds (g := fun k => cutroomlaw20_CadenceInverse.f k tape fn fd vn vd) ?_
  unfold cutroomlaw20_CadenceInverse.f
  refine Ev.bind hF ?_
  refine Ev.bind (weave_ev (xs.length : Int) fn fd vn vd (wf_of (by omega) (by omega)) ha hb hc hd) ?_
  have haw : Ev (fun _ : Nat => (cutroomlaw20_awake.f).bind fun t => some t) true := Ev.now _
  by_cases c : (weaveR (xs.length : Int) fn fd vn vd).2 = 0
  · simp only [if_pos c]
    obtain ⟨ht, hlen, hw⟩ := weaveR_ok c
    rw [hw]
    obtain ⟨p1, p2, p3, p4⟩ := pulled xs S hS hG (FF fn fd vn vd) (fun a b => FF_mono ht) (FF_zero fn fd vn vd) (fun k => (FF_step ht k).1) (by omega) hlen
    have q : ∀ {n : Nat}, n ≤ 256 → n ≤ 4611686018427387904 := fun h => by omega
    refine Ev.bind (pull_ev xs _ (by omega) (q p4)) ?_
    rw [p1]
    refine Ev.bind (rest_ev _ _ (q (Nat.le_trans (Nat.le_of_eq (List.length_map _)) p4)) (q p4)) ?_
    rw [p3]
    simp only [if_true]
    rw [p2]
    simp only [if_true]
    refine Ev.bind (ref_frames_same xs (by omega)) ?_
    simp only [if_true]
    exact haw
  · simp only [if_neg c]
    exact haw

end Go.Proofs.Ytcofjbbflcnaaaa.Pure
