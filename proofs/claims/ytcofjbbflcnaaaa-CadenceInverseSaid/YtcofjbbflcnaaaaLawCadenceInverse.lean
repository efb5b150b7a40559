-- Written by this session's own program (wip/tools/myprint.py), which runs the kit's print with turns of its own: not a text of the kit's print.sh.
import Derived.Test.YtcofjbbflcnaaaaRows
import Derived.Test.YtcofjbbflcnaaaaPx19
import Derived.Test.YtcofjbbflcnaaaaPureCadenceInverse
import Derived.Test.YtcofjbbflcnaaaaOpens
import Derived.WalkKit
import Derived.ProofKit
import Derived.OpenShut
import Derived.ShutString
import Derived.ChangeOld
import Derived.Below
import Derived.SizedLaws
import Derived.Lib.SmallJoins
namespace Go.Proofs.Ytcofjbbflcnaaaa.cadenceInverse
open Go.ChangeShapes Go.WideShapes Go.ChangeAt Go.RowKit Go.Proofs.YtcofjbbflcnaaaaW.PrintWords Go.Proofs.Ytcofjbbflcnaaaa.Opens Go.Proofs.Ytcofjbbflcnaaaa.P
set_option linter.unusedVariables false
theorem own : ownKnob Try.prog.godebug = none := by kernel_rfl
theorem laidOut : laidOutB Try.prog = true := by kernel_rfl
theorem opens0 : Opens Try.prog 41 (Kd.slice 3 (Kd.int .i64)) (fun x => (x.length ≤ maxLen ∧ x.length * 8 ≤ 140737488351232 ∧ ∀ q0 ∈ x, (Lit.int .i64 q0).wf = true)) := (opens_slice Try.underlying41 (by kernel_rfl) (by kernel_rfl) (opens_int Try.underlying3))
theorem opens1 : Opens Try.prog 23 (Kd.pair (Kd.int .i64) (Kd.int .i64)) (fun x => ((Lit.int .i64 x.1).wf = true ∧ (Lit.int .i64 x.2).wf = true)) := (opens_struct Try.underlying23 (by kernel_rfl) (opensF_cons (by kernel_rfl) (by kernel_rfl) (opens_int Try.underlying2) (opensF_one (by kernel_rfl) (by kernel_rfl) (opens_int Try.underlying2))))
theorem opens2 : Opens Try.prog 23 (Kd.pair (Kd.int .i64) (Kd.int .i64)) (fun x => ((Lit.int .i64 x.1).wf = true ∧ (Lit.int .i64 x.2).wf = true)) := (opens_struct Try.underlying23 (by kernel_rfl) (opensF_cons (by kernel_rfl) (by kernel_rfl) (opens_int Try.underlying2) (opensF_one (by kernel_rfl) (by kernel_rfl) (opens_int Try.underlying2))))
set_option maxRecDepth 100000 in
theorem lifted (os : Os) (started : os.Started) (H : Type) (enc : TypeId × Value → H) :
    ReturnsInHanded {} Try.checked os 18 .any (Rows.cadenceInverseSpec.pre6 enc Try.prog Try.f18 Rows.cadenceInverseRow.domain false) (Rows.cadenceInverseSpec.post enc Try.prog Try.f18 false true false false) := by
  refine returnsInHanded_of_change_sized (C := Try.checked) own started (by kernel_rfl) Try.func18
    (ChangeSpec.witness6 (enc := enc) (C := Try.checked) false ⟨#[], #[.slice none 0 0, .agg #[.int .i64 0, .int .i64 0], .agg #[.int .i64 0, .int .i64 0]], []⟩ 8 (by kernel_rfl) (by kernel_rfl) (by kernel_rfl) (by kernel_rfl)) ?_
  intro W base args ds gs before hval0 hW hcnd hsz0 _
  have hsz : (DataW.weightsEach Try.prog (Try.f18.params.toList ++ Rows.cadenceInverseSpec.plain.varTypes Try.prog) (ds ++ gs)).all (· ≤ reachBytes) = true := hsz0
  have hval : ∀ (j : Nat) t v, Try.f18.params[j]? = some t → args[j]? = some v → Value.okWide Try.prog W .any base t v := hval0
  have hW' := hW
  obtain ⟨p, q, hA0, hV, rfl, hfz, hnd⟩ := hW
  have hA : DataW.TrodAll enc Try.prog W 0 (fun _ => true) true Try.f18.params.toList args.toList ds p := hA0
  rw [Try.params18] at hA hval hsz
  obtain ⟨v0, vs0, d0, ds0, p0, q0, hargs, rfl, rfl, h0, r0⟩ := trodAll_cons hA
  obtain ⟨v1, vs1, d1, ds1, p1, q1, rfl, rfl, rfl, h1, r1⟩ := trodAll_cons r0
  obtain ⟨v2, vs2, d2, ds2, p2, q2, rfl, rfl, rfl, h2, r2⟩ := trodAll_cons r1
  obtain ⟨rfl, rfl, rfl⟩ := trodAll_nil r2
  obtain rfl : args = #[v0, v1, v2] := by cases args; simp_all
  obtain ⟨rfl, rfl⟩ := trodVars_none hV
  obtain ⟨a0, len0, cap0, rfl⟩ := okWide_slice Try.underlying41 (hval 0 41 v0 rfl rfl)
  have k0 := h0
  have lt0 : ∀ x ∈ p0, x.block < W.heap.size := by obtain ⟨m, hm⟩ := k0; exact DataW.trod_lt m _ _ _ hm
  obtain ⟨x0, K0, Q0⟩ := opened opens0 0 hsz rfl rfl h0
  obtain ⟨A0, c0, e0, hc0, hr0⟩ := K0
  simp only [Value.cells, List.cons.injEq, Value.slice.injEq, and_true] at e0; obtain ⟨rfl, rfl, rfl⟩ := e0
  obtain ⟨cs1, rfl, hsz1⟩ := okWide_struct Try.underlying23 (hval 1 23 v1 rfl rfl)
  have k1 := h1
  have lt1 : ∀ x ∈ p1, x.block < W.heap.size := by obtain ⟨m, hm⟩ := k1; exact DataW.trod_lt m _ _ _ hm
  obtain ⟨x1, K1, Q1⟩ := opened opens1 1 hsz rfl rfl h1
  obtain ⟨cs1⟩ := cs1
  replace K1 : ((Kd.pair (Kd.int .i64) (Kd.int .i64))).K W x1 cs1 := by simpa [Value.cells] using K1
  generalize hcs1 : cs1 = cz1 at K1
  obtain ⟨_, _, eK10, K1f0, K1r0⟩ := K1; subst eK10
  replace K1f0 : _ = ([.int .i64 x1.1] : List Value) := K1f0; subst K1f0
  replace K1r0 : _ = ([.int .i64 x1.2] : List Value) := K1r0; subst K1r0
  simp only [List.cons_append, List.nil_append] at hcs1; subst hcs1
  obtain ⟨cs2, rfl, hsz2⟩ := okWide_struct Try.underlying23 (hval 2 23 v2 rfl rfl)
  have k2 := h2
  have lt2 : ∀ x ∈ p2, x.block < W.heap.size := by obtain ⟨m, hm⟩ := k2; exact DataW.trod_lt m _ _ _ hm
  obtain ⟨x2, K2, Q2⟩ := opened opens2 2 hsz rfl rfl h2
  obtain ⟨cs2⟩ := cs2
  replace K2 : ((Kd.pair (Kd.int .i64) (Kd.int .i64))).K W x2 cs2 := by simpa [Value.cells] using K2
  generalize hcs2 : cs2 = cz2 at K2
  obtain ⟨_, _, eK20, K2f0, K2r0⟩ := K2; subst eK20
  replace K2f0 : _ = ([.int .i64 x2.1] : List Value) := K2f0; subst K2f0
  replace K2r0 : _ = ([.int .i64 x2.2] : List Value) := K2r0; subst K2r0
  simp only [List.cons_append, List.nil_append] at hcs2; subst hcs2
  clear hA0 hval0 hsz0 hsz
  obtain ⟨k, h⟩ := Pure.CadenceInverse x0 x1.1 x1.2 x2.1 x2.2 Q0 Q1.1 Q1.2 Q2.1 Q2.2
  refine (cutroomlaw20_CadenceInverse.calls k _ _ x0 x1.1 x1.2 x2.1 x2.2 true W hr0 hc0 h).mono fun e W' hh => ?_
  obtain ⟨he, bel0⟩ := hh
  have bel : Below W.heap.size W W' := bel0
  subst he
  exact ⟨_, rfl, _, _, _, [], _, [], hW', trodAll_mk1 (shut_bool Try.underlying4 _), (trodAll_cons_mk (Below.trod laidOut (by kernel_rfl) (of_decide_eq_true (by kernel_rfl)) k0 bel lt0) (trodAll_cons_mk (Below.trod laidOut (by kernel_rfl) (of_decide_eq_true (by kernel_rfl)) k1 bel lt1) (trodAll_cons_mk (Below.trod laidOut (by kernel_rfl) (of_decide_eq_true (by kernel_rfl)) k2 bel lt2) trodAll_mk0))), rfl, bel.frame _, fun h => by cases h⟩
theorem over : Rows.cadenceInverseRow.holds Try.pinned (OpenSpec.ofChange Rows.cadenceInverseSpec) :=
  OpenClaim.holds_of_wide 18 Try.f18 rfl rfl rfl rfl rfl rfl rfl ⟨rfl, rfl, rfl, rfl, rfl⟩ rfl rfl rfl rfl rfl (by kernel_rfl) Try.func18 (by kernel_rfl)
    (of_decide_eq_true (by kernel_rfl)) (by unfold Func.isWrapper; first | (rw [if_pos (by decide +kernel)]; kernel_rfl) | (rw [if_neg (by decide +kernel)]; exact ⟨rfl, rfl⟩))
    (fun os started H enc _ => lifted os started H enc)
theorem proved : Rows.CadenceInverseSaid := over
#print axioms proved
end Go.Proofs.Ytcofjbbflcnaaaa.cadenceInverse
namespace Go.Proofs.Ytcofjbbflcnaaaa
/-- The row, under a short name, for the claim. -/
theorem cadenceInverse_holds : Rows.CadenceInverseSaid := cadenceInverse.proved
end Go.Proofs.Ytcofjbbflcnaaaa
