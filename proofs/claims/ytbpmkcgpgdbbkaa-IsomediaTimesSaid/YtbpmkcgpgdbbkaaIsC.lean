/- Valid files, and when samples are shown. No condition of its own. -/
import Derived.Test.YtbpmkcgpgdbbkaaIsB
import Derived.Test.YtbpmkcgpgdbbkaaPx24
import Derived.Test.YtbpmkcgpgdbbkaaPx21
import Derived.Test.YtbpmkcgpgdbbkaaPx18
import Derived.Test.YtbpmkcgpgdbbkaaPx20
import Derived.Test.YtbpmkcgpgdbbkaaPx35
import Derived.Test.YtbpmkcgpgdbbkaaPx19
namespace Go.Proofs.Ytbpmkcgpgdbbkaa.P
open Go.RowKit Go.Proofs.YtbpmkcgpgdbbkaaW.PrintWords Go.Proofs.YtbpmkcgpgdbbkaaW.PrintLast Go.Proofs.YtbpmkcgpgdbbkaaW.PrintMore
set_option linter.unusedVariables false
set_option linter.unusedSimpArgs false
def s43 (t : S48) : S43 := ⟨t.f0, t.f1, t.f2, t.f3.map s76, t.f4.map s77⟩
theorem rd43 {x : List S48} {i : Nat} (h : i < x.length) : rd_T43 (x.map s43) (i : Int) = s43 x[i] := by simp [rd_T43, List.getD, h]
theorem vt_scale {f0 : ByteArray} {f1 : Int} {f2 : List Int} {fs : List S74} {es : List S61} (h : Ev (fun k => cutroomref18_validTrack.f k f0 f1 f2 fs es) true) : f1 ≠ 0 := by
  rintro rfl
  obtain ⟨K, hK⟩ := h
  have h1 := hK (K + 1) (by omega)
  simp only [cutroomref18_validTrack.f, within_f, Option.bind_some] at h1
  rw [show rng 0 1 16777216 = false from by decide] at h1
  split at h1 <;> simp [cutroomref18_validTrack.j0] at h1
/-- the files that both call valid -/
theorem val_l (a : Int) (ts : List S48) (ht : ts.length < 4611686018427387904) : ∀ (m i : Nat), i + m = ts.length →
    ∃ b, Ev (fun k => isomedia_Valid.l0 k (ts.map s43) (ts.length : Int) (i : Int) a (ts.map s43)) (b && (rng a 1 16777216 && decide (ts.length ≤ 4))) ∧ Ev (fun k => cutroomref18_Valid.l0 k (i : Int) a ts) b ∧ (b = true → ∀ (j : Nat) (hj : j < ts.length), i ≤ j → ts[j].f1 ≠ 0) := by
  intro m
  induction m with
  | zero =>
    intro i hi
    refine ⟨true, Ev.step (fun k => by rw [isomedia_Valid.l0]) ?_, Ev.step (fun k => by rw [cutroomref18_Valid.l0]) ?_, fun _ j hj h => by omega⟩
    · simp only [if_neg (show ¬ (i : Int) < (ts.length : Int) by omega), unit_f, Option.bind_some, List.length_map, Bool.true_and]
      cases rng a 1 16777216 with
      | true =>
        simp only [if_true, Bool.true_and]
        rw [show decide ((ts.length : Int) ≤ 4) = decide (ts.length ≤ 4) from decide_eq_decide.2 (by omega)]
        exact Ev.now _
      | false => simp only [Bool.false_eq_true, if_false, Bool.false_and]; exact Ev.now _
    · simp only [if_neg (show ¬ (i : Int) < (ts.length : Int) by omega)]; exact Ev.now _
  | succ m ih =>
    intro i hi
    have hlt : i < ts.length := by omega
    obtain ⟨c, c1, c2⟩ := vt_both ts[i].f0 ts[i].f1 ts[i].f2 ts[i].f3 ts[i].f4
    cases c with
    | false =>
      refine ⟨false, Ev.step (fun k => by rw [isomedia_Valid.l0]) ?_, Ev.step (fun k => by rw [cutroomref18_Valid.l0]) ?_, fun h => by cases h⟩
      · simp only [if_pos (show (i : Int) < (ts.length : Int) by omega), if_pos (show (0 : Int) ≤ (i : Int) by omega), List.length_map, rd43 hlt, s43]
        refine Ev.bind c1 ?_
        simp only [Bool.false_eq_true, if_false, Bool.false_and]; exact Ev.now _
      · simp only [if_pos (show (i : Int) < (ts.length : Int) by omega), if_pos (show (0 : Int) ≤ (i : Int) by omega), rd48 hlt]
        refine Ev.bind c2 ?_
        simp only [Bool.false_eq_true, if_false]; exact Ev.now _
    | true =>
      obtain ⟨b, b1, b2, b3⟩ := ih (i + 1) (by omega)
      have e1 : Aside0 (wrap64 ((i : Int) + 1) = ((i + 1 : Nat) : Int)) := ⟨by rw [w64 (by omega) (by omega)]; omega⟩
      refine ⟨b, Ev.step (fun k => by rw [isomedia_Valid.l0]) ?_, Ev.step (fun k => by rw [cutroomref18_Valid.l0]) ?_, fun h j hj hij => ?_⟩
      · simp only [if_pos (show (i : Int) < (ts.length : Int) by omega), if_pos (show (0 : Int) ≤ (i : Int) by omega), List.length_map, rd43 hlt]
        refine Ev.bind c1 ?_
        simp only [if_true, e1.out]; exact b1
      · simp only [if_pos (show (i : Int) < (ts.length : Int) by omega), if_pos (show (0 : Int) ≤ (i : Int) by omega), rd48 hlt]
        refine Ev.bind c2 ?_
        simp only [if_true, e1.out]; exact b2
      · by_cases e : j = i
        · subst e; exact vt_scale c2
        · exact b3 h j hj (by omega)
theorem val_both (a : Int) (ts : List S48) (ht : ts.length < 4611686018427387904) : ∃ b, Ev (fun k => isomedia_Valid.f k a (ts.map s43)) b ∧ Ev (fun k => cutroomref18_Valid.f k a ts) b ∧ (b = true → ∀ (j : Nat) (hj : j < ts.length), ts[j].f1 ≠ 0) := by
  unfold isomedia_Valid.f cutroomref18_Valid.f
  obtain ⟨b, b1, b2, b3⟩ := val_l a ts ht ts.length 0 (by omega)
  simp only [within_f, Option.bind_some, List.length_map]
  refine ⟨_, b1, ?_, fun h j hj => b3 (by cases b <;> simp at h ⊢) j hj (by omega)⟩
  cases rng a 1 16777216 with
  | false =>
    simp only [Bool.false_eq_true, if_false, Bool.false_and, Bool.and_false]
    refine Ev.step (fun k => by rw [cutroomref18_Valid.j0]) ?_
    simp only [if_true]; exact Ev.now _
  | true =>
    simp only [if_true, Bool.true_and]
    by_cases c : ts.length ≤ 4
    · rw [decide_eq_false (show ¬ (ts.length : Int) > 4 by omega), decide_eq_true c, Bool.and_true]
      refine Ev.step (fun k => by rw [cutroomref18_Valid.j0]) ?_
      simp only [Bool.false_eq_true, if_false]; exact b2
    · rw [decide_eq_true (show (ts.length : Int) > 4 by omega), decide_eq_false c, Bool.and_false]
      refine Ev.step (fun k => by rw [cutroomref18_Valid.j0]) ?_
      simp only [if_true]; exact Ev.now _
end Go.Proofs.Ytbpmkcgpgdbbkaa.P
