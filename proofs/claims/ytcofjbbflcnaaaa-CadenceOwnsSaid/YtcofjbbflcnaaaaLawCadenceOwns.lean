-- Written by this session's own program (wip/tools/myprint.py), which runs the kit's print with turns of its own: not a text of the kit's print.sh.
import Derived.Test.YtcofjbbflcnaaaaRows
import Derived.Test.YtcofjbbflcnaaaaPx10
import Derived.Test.YtcofjbbflcnaaaaPureCadenceOwns
import Derived.Test.YtcofjbbflcnaaaaOpens
import Derived.WalkKit
import Derived.ProofKit
import Derived.OpenShut
import Derived.ShutString
import Derived.ChangeOld
import Derived.Below
import Derived.SizedLaws
import Derived.Lib.SmallJoins
namespace Go.Proofs.Ytcofjbbflcnaaaa.cadenceOwns
open Go.ChangeShapes Go.WideShapes Go.ChangeAt Go.RowKit Go.Proofs.YtcofjbbflcnaaaaW.PrintWords Go.Proofs.Ytcofjbbflcnaaaa.Opens Go.Proofs.Ytcofjbbflcnaaaa.P
set_option linter.unusedVariables false
theorem own : ownKnob Try.prog.godebug = none := by kernel_rfl
theorem laidOut : laidOutB Try.prog = true := by kernel_rfl
theorem opens0 : Opens Try.prog 2 (Kd.int .i64) (fun x => (Lit.int .i64 x).wf = true) := (opens_int Try.underlying2)
theorem opens1 : Opens Try.prog 23 (Kd.pair (Kd.int .i64) (Kd.int .i64)) (fun x => ((Lit.int .i64 x.1).wf = true ∧ (Lit.int .i64 x.2).wf = true)) := (opens_struct Try.underlying23 (by kernel_rfl) (opensF_cons (by kernel_rfl) (by kernel_rfl) (opens_int Try.underlying2) (opensF_one (by kernel_rfl) (by kernel_rfl) (opens_int Try.underlying2))))
set_option maxRecDepth 100000 in
theorem lifted (os : Os) (started : os.Started) (H : Type) (enc : TypeId × Value → H) :
    ReturnsInHanded {} Try.checked os 9 .any (Rows.cadenceOwnsSpec.pre6 enc Try.prog Try.f9 Rows.cadenceOwnsRow.domain false) (Rows.cadenceOwnsSpec.post enc Try.prog Try.f9 false true false false) := by
  refine returnsInHanded_of_change_sized (C := Try.checked) own started (by kernel_rfl) Try.func9
    (ChangeSpec.witness6 (enc := enc) (C := Try.checked) false ⟨#[], #[.int .i64 0, .agg #[.int .i64 0, .int .i64 0]], []⟩ 8 (by kernel_rfl) (by kernel_rfl) (by kernel_rfl) (by kernel_rfl)) ?_
  intro W base args ds gs before hval0 hW hcnd hsz0 _
  have hsz : (DataW.weightsEach Try.prog (Try.f9.params.toList ++ Rows.cadenceOwnsSpec.plain.varTypes Try.prog) (ds ++ gs)).all (· ≤ reachBytes) = true := hsz0
  have hval : ∀ (j : Nat) t v, Try.f9.params[j]? = some t → args[j]? = some v → Value.okWide Try.prog W .any base t v := hval0
  have hW' := hW
  obtain ⟨p, q, hA0, hV, rfl, hfz, hnd⟩ := hW
  have hA : DataW.TrodAll enc Try.prog W 0 (fun _ => true) true Try.f9.params.toList args.toList ds p := hA0
  rw [Try.params9] at hA hval hsz
  obtain ⟨v0, vs0, d0, ds0, p0, q0, hargs, rfl, rfl, h0, r0⟩ := trodAll_cons hA
  obtain ⟨v1, vs1, d1, ds1, p1, q1, rfl, rfl, rfl, h1, r1⟩ := trodAll_cons r0
  obtain ⟨rfl, rfl, rfl⟩ := trodAll_nil r1
  obtain rfl : args = #[v0, v1] := by cases args; simp_all
  obtain ⟨rfl, rfl⟩ := trodVars_none hV
  obtain ⟨a0, rfl⟩ := okWide_int Try.underlying2 (hval 0 2 v0 rfl rfl)
  have k0 := h0
  have lt0 : ∀ x ∈ p0, x.block < W.heap.size := by obtain ⟨m, hm⟩ := k0; exact DataW.trod_lt m _ _ _ hm
  obtain ⟨x0, K0, Q0⟩ := opened opens0 0 hsz rfl rfl h0
  obtain rfl : a0 = x0 := by simpa [Kd.int, Kd.bool, Kd.string, Kd.scalar, Value.cells] using K0
  obtain ⟨cs1, rfl, hsz1⟩ := okWide_struct Try.underlying23 (hval 1 23 v1 rfl rfl)
  have k1 := h1
  have lt1 : ∀ x ∈ p1, x.block < W.heap.size := by obtain ⟨m, hm⟩ := k1; exact DataW.trod_lt m _ _ _ hm
  obtain ⟨x1, K1, Q1⟩ := opened opens1 1 hsz rfl rfl h1
  obtain ⟨cs1⟩ := cs1
  replace K1 : ((Kd.pair (Kd.int .i64) (Kd.int .i64))).K W x1 cs1 := by simpa [Value.cells] using K1
  generalize hcs1 : cs1 = cz1 at K1
  obtain ⟨_, _, eK10, K1f0, K1r0⟩ := K1; subst eK10
  replace K1f0 : _ = ([.int .i64 x1.1] : List Value) := K1f0; subst K1f0
  replace K1r0 : _ = ([.int .i64 x1.2] : List Value) := K1r0; subst K1r0
  simp only [List.cons_append, List.nil_append] at hcs1; subst hcs1
  clear hA0 hval0 hsz0 hsz
  obtain ⟨k, h⟩ := Pure.CadenceOwns a0 x1.1 x1.2 Q0 Q1.1 Q1.2
  refine (cutroomlaw20_CadenceOwns.calls k a0 x1.1 x1.2 true W  h).mono fun e W' hh => ?_
  obtain ⟨he, bel0⟩ := hh
  have bel : Below W.heap.size W W' := bel0
  subst he
  exact ⟨_, rfl, _, _, _, [], _, [], hW', trodAll_mk1 (shut_bool Try.underlying4 _), (trodAll_cons_mk (Below.trod laidOut (by kernel_rfl) (of_decide_eq_true (by kernel_rfl)) k0 bel lt0) (trodAll_cons_mk (Below.trod laidOut (by kernel_rfl) (of_decide_eq_true (by kernel_rfl)) k1 bel lt1) trodAll_mk0)), rfl, bel.frame _, fun h => by cases h⟩
theorem over : Rows.cadenceOwnsRow.holds Try.pinned (OpenSpec.ofChange Rows.cadenceOwnsSpec) :=
  OpenClaim.holds_of_wide 9 Try.f9 rfl rfl rfl rfl rfl rfl rfl ⟨rfl, rfl, rfl, rfl, rfl⟩ rfl rfl rfl rfl rfl (by kernel_rfl) Try.func9 (by kernel_rfl)
    (of_decide_eq_true (by kernel_rfl)) (by unfold Func.isWrapper; first | (rw [if_pos (by decide +kernel)]; kernel_rfl) | (rw [if_neg (by decide +kernel)]; exact ⟨rfl, rfl⟩))
    (fun os started H enc _ => lifted os started H enc)
theorem proved : Rows.CadenceOwnsSaid := over
#print axioms proved
end Go.Proofs.Ytcofjbbflcnaaaa.cadenceOwns
namespace Go.Proofs.Ytcofjbbflcnaaaa
/-- The row, under a short name, for the claim. -/
theorem cadenceOwns_holds : Rows.CadenceOwnsSaid := cadenceOwns.proved
end Go.Proofs.Ytcofjbbflcnaaaa
