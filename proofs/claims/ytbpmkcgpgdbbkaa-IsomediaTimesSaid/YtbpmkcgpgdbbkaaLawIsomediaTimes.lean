-- Written by this session's own program (wip/tools/myprint.py), which runs the kit's print with turns of its own: not a text of the kit's print.sh.
import Derived.Test.YtbpmkcgpgdbbkaaRows
import Derived.Test.YtbpmkcgpgdbbkaaPx6
import Derived.Test.YtbpmkcgpgdbbkaaPureIsomediaTimes
import Derived.Test.YtbpmkcgpgdbbkaaOpens
import Derived.WalkKit
import Derived.ProofKit
import Derived.OpenShut
import Derived.ShutString
import Derived.ChangeOld
import Derived.Below
import Derived.SizedLaws
import Derived.Lib.SmallJoins
namespace Go.Proofs.Ytbpmkcgpgdbbkaa.isomediaTimes
open Go.ChangeShapes Go.WideShapes Go.ChangeAt Go.RowKit Go.Proofs.YtbpmkcgpgdbbkaaW.PrintWords Go.Proofs.Ytbpmkcgpgdbbkaa.Opens Go.Proofs.Ytbpmkcgpgdbbkaa.P
set_option linter.unusedVariables false
theorem own : ownKnob Try.prog.godebug = none := by kernel_rfl
theorem laidOut : laidOutB Try.prog = true := by kernel_rfl
theorem opens0 : Opens Try.prog 37 (Kd.pair (Kd.int .i64) (Kd.slice 48 k48)) (fun x => ((Lit.int .i64 x.1).wf = true ∧ (x.2.length ≤ maxLen ∧ x.2.length * 96 ≤ 140737488351232 ∧ ∀ q1 ∈ x.2, (q1.f0.size ≤ 140737488351232 ∧ (Lit.int .i64 q1.f1).wf = true ∧ (q1.f2.length ≤ maxLen ∧ q1.f2.length * 1 ≤ 140737488351232 ∧ ∀ q3 ∈ q1.f2, (Lit.int .u8 q3).wf = true) ∧ (q1.f3.length ≤ maxLen ∧ q1.f3.length * 48 ≤ 140737488351232 ∧ ∀ q3 ∈ q1.f3, ((q3.f0.length ≤ maxLen ∧ q3.f0.length * 1 ≤ 140737488351232 ∧ ∀ q5 ∈ q3.f0, (Lit.int .u8 q5).wf = true) ∧ (Lit.int .i64 q3.f1).wf = true ∧ (Lit.int .i64 q3.f2).wf = true ∧ True)) ∧ (q1.f4.length ≤ maxLen ∧ q1.f4.length * 16 ≤ 140737488351232 ∧ ∀ q3 ∈ q1.f4, ((Lit.int .i64 q3.f0).wf = true ∧ (Lit.int .i64 q3.f1).wf = true)))))) := (opens_struct Try.underlying37 (by kernel_rfl) (opensF_cons (by kernel_rfl) (by kernel_rfl) (opens_int Try.underlying2) (opensF_one (by kernel_rfl) (by kernel_rfl) (opens_slice Try.underlying35 (by kernel_rfl) (by kernel_rfl) (opens_iso (fun a => (⟨a.1, a.2.1, a.2.2.1, a.2.2.2.1, a.2.2.2.2⟩ : S48)) (fun _ => rfl) (opens_struct Try.underlying48 (by kernel_rfl) (opensF_cons (by kernel_rfl) (by kernel_rfl) (opens_string Try.underlying9) (opensF_cons (by kernel_rfl) (by kernel_rfl) (opens_int Try.underlying2) (opensF_cons (by kernel_rfl) (by kernel_rfl) (opens_slice Try.underlying22 (by kernel_rfl) (by kernel_rfl) (opens_int Try.underlying5)) (opensF_cons (by kernel_rfl) (by kernel_rfl) (opens_slice Try.underlying45 (by kernel_rfl) (by kernel_rfl) (opens_iso (fun a => (⟨a.1, a.2.1, a.2.2.1, a.2.2.2⟩ : S74)) (fun _ => rfl) (opens_struct Try.underlying74 (by kernel_rfl) (opensF_cons (by kernel_rfl) (by kernel_rfl) (opens_slice Try.underlying22 (by kernel_rfl) (by kernel_rfl) (opens_int Try.underlying5)) (opensF_cons (by kernel_rfl) (by kernel_rfl) (opens_int Try.underlying2) (opensF_cons (by kernel_rfl) (by kernel_rfl) (opens_int Try.underlying2) (opensF_one (by kernel_rfl) (by kernel_rfl) (opens_bool Try.underlying4)))))))) (opensF_one (by kernel_rfl) (by kernel_rfl) (opens_slice Try.underlying46 (by kernel_rfl) (by kernel_rfl) (opens_iso (fun a => (⟨a.1, a.2⟩ : S61)) (fun _ => rfl) (opens_struct Try.underlying61 (by kernel_rfl) (opensF_cons (by kernel_rfl) (by kernel_rfl) (opens_int Try.underlying2) (opensF_one (by kernel_rfl) (by kernel_rfl) (opens_int Try.underlying2)))))))))))))))))
theorem opens1 : Opens Try.prog 3 (Kd.int .i64) (fun x => (Lit.int .i64 x).wf = true) := (opens_int Try.underlying3)
set_option maxRecDepth 100000 in
theorem lifted (os : Os) (started : os.Started) (H : Type) (enc : TypeId × Value → H) :
    ReturnsInHanded {} Try.checked os 5 .any (Rows.isomediaTimesSpec.pre6 enc Try.prog Try.f5 Rows.isomediaTimesRow.domain false) (Rows.isomediaTimesSpec.post enc Try.prog Try.f5 false true false false) := by
  refine returnsInHanded_of_change_sized (C := Try.checked) own started (by kernel_rfl) Try.func5
    (ChangeSpec.witness6 (enc := enc) (C := Try.checked) false ⟨#[], #[.agg #[.int .i64 0, .slice none 0 0], .int .i64 0], []⟩ 8 (by kernel_rfl) (by kernel_rfl) (by kernel_rfl) (by kernel_rfl)) ?_
  intro W base args ds gs before hval0 hW hcnd hsz0 _
  have hsz : (DataW.weightsEach Try.prog (Try.f5.params.toList ++ Rows.isomediaTimesSpec.plain.varTypes Try.prog) (ds ++ gs)).all (· ≤ reachBytes) = true := hsz0
  have hval : ∀ (j : Nat) t v, Try.f5.params[j]? = some t → args[j]? = some v → Value.okWide Try.prog W .any base t v := hval0
  have hW' := hW
  obtain ⟨p, q, hA0, hV, rfl, hfz, hnd⟩ := hW
  have hA : DataW.TrodAll enc Try.prog W 0 (fun _ => true) true Try.f5.params.toList args.toList ds p := hA0
  rw [Try.params5] at hA hval hsz
  obtain ⟨v0, vs0, d0, ds0, p0, q0, hargs, rfl, rfl, h0, r0⟩ := trodAll_cons hA
  obtain ⟨v1, vs1, d1, ds1, p1, q1, rfl, rfl, rfl, h1, r1⟩ := trodAll_cons r0
  obtain ⟨rfl, rfl, rfl⟩ := trodAll_nil r1
  obtain rfl : args = #[v0, v1] := by cases args; simp_all
  obtain ⟨rfl, rfl⟩ := trodVars_none hV
  obtain ⟨cs0, rfl, hsz0⟩ := okWide_struct Try.underlying37 (hval 0 37 v0 rfl rfl)
  have k0 := h0
  have lt0 : ∀ x ∈ p0, x.block < W.heap.size := by obtain ⟨m, hm⟩ := k0; exact DataW.trod_lt m _ _ _ hm
  obtain ⟨x0, K0, Q0⟩ := opened opens0 0 hsz rfl rfl h0
  obtain ⟨cs0⟩ := cs0
  replace K0 : ((Kd.pair (Kd.int .i64) (Kd.slice 48 k48))).K W x0 cs0 := by simpa [Value.cells] using K0
  generalize hcs0 : cs0 = cz0 at K0
  obtain ⟨_, _, eK00, K0f0, K0r0⟩ := K0; subst eK00
  replace K0f0 : _ = ([.int .i64 x0.1] : List Value) := K0f0; subst K0f0
  obtain ⟨Az2, cz2, ez2, hcz2, hrz2⟩ := K0r0; subst ez2
  simp only [List.cons_append, List.nil_append] at hcs0; subst hcs0
  obtain ⟨a1, rfl⟩ := okWide_int Try.underlying3 (hval 1 3 v1 rfl rfl)
  have k1 := h1
  have lt1 : ∀ x ∈ p1, x.block < W.heap.size := by obtain ⟨m, hm⟩ := k1; exact DataW.trod_lt m _ _ _ hm
  obtain ⟨x1, K1, Q1⟩ := opened opens1 1 hsz rfl rfl h1
  obtain rfl : a1 = x1 := by simpa [Kd.int, Kd.bool, Kd.string, Kd.scalar, Value.cells] using K1
  clear hA0 hval0 hsz0 hsz
  obtain ⟨k, h⟩ := Pure.IsomediaTimes x0.1 x0.2 a1 Q0.1 Q0.2 Q1
  refine (cutroomlaw18_IsomediaTimes.calls k x0.1 _ _ x0.2 a1 true W hrz2 hcz2 h).mono fun e W' hh => ?_
  obtain ⟨he, bel0⟩ := hh
  have bel : Below W.heap.size W W' := bel0
  subst he
  exact ⟨_, rfl, _, _, _, [], _, [], hW', trodAll_mk1 (shut_bool Try.underlying4 _), (trodAll_cons_mk (Below.trod laidOut (by kernel_rfl) (of_decide_eq_true (by kernel_rfl)) k0 bel lt0) (trodAll_cons_mk (Below.trod laidOut (by kernel_rfl) (of_decide_eq_true (by kernel_rfl)) k1 bel lt1) trodAll_mk0)), rfl, bel.frame _, fun h => by cases h⟩
theorem over : Rows.isomediaTimesRow.holds Try.pinned (OpenSpec.ofChange Rows.isomediaTimesSpec) :=
  OpenClaim.holds_of_wide 5 Try.f5 rfl rfl rfl rfl rfl rfl rfl ⟨rfl, rfl, rfl, rfl, rfl⟩ rfl rfl rfl rfl rfl (by kernel_rfl) Try.func5 (by kernel_rfl)
    (of_decide_eq_true (by kernel_rfl)) (by unfold Func.isWrapper; first | (rw [if_pos (by decide +kernel)]; kernel_rfl) | (rw [if_neg (by decide +kernel)]; exact ⟨rfl, rfl⟩))
    (fun os started H enc _ => lifted os started H enc)
theorem proved : Rows.IsomediaTimesSaid := over
#print axioms proved
end Go.Proofs.Ytbpmkcgpgdbbkaa.isomediaTimes
namespace Go.Proofs.Ytbpmkcgpgdbbkaa
/-- The row, under a short name, for the claim. -/
theorem isomediaTimes_holds : Rows.IsomediaTimesSaid := isomediaTimes.proved
end Go.Proofs.Ytbpmkcgpgdbbkaa
