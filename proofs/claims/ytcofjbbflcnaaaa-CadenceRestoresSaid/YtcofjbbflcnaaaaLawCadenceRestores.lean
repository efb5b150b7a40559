-- Written by this session's own program (wip/tools/myprint.py), which runs the kit's print with turns of its own: not a text of the kit's print.sh.
import Derived.Test.YtcofjbbflcnaaaaRows
import Derived.Test.YtcofjbbflcnaaaaPx17
import Derived.Test.YtcofjbbflcnaaaaPureCadenceRestores
import Derived.Test.YtcofjbbflcnaaaaOpens
import Derived.WalkKit
import Derived.ProofKit
import Derived.OpenShut
import Derived.ShutString
import Derived.ChangeOld
import Derived.Below
import Derived.SizedLaws
import Derived.Lib.SmallJoins
namespace Go.Proofs.Ytcofjbbflcnaaaa.cadenceRestores
open Go.ChangeShapes Go.WideShapes Go.ChangeAt Go.RowKit Go.Proofs.YtcofjbbflcnaaaaW.PrintWords Go.Proofs.Ytcofjbbflcnaaaa.Opens Go.Proofs.Ytcofjbbflcnaaaa.P
set_option linter.unusedVariables false
theorem own : ownKnob Try.prog.godebug = none := by kernel_rfl
theorem laidOut : laidOutB Try.prog = true := by kernel_rfl
theorem opens0 : Opens Try.prog 41 (Kd.slice 3 (Kd.int .i64)) (fun x => (x.length ≤ maxLen ∧ x.length * 8 ≤ 140737488351232 ∧ ∀ q0 ∈ x, (Lit.int .i64 q0).wf = true)) := (opens_slice Try.underlying41 (by kernel_rfl) (by kernel_rfl) (opens_int Try.underlying3))
theorem opens1 : Opens Try.prog 48 (Kd.slice 52 k52) (fun x => (x.length ≤ maxLen ∧ x.length * 88 ≤ 140737488351232 ∧ ∀ q0 ∈ x, ((Lit.int .i64 q0.f0).wf = true ∧ (Lit.int .i64 q0.f1).wf = true ∧ (q0.f2.length ≤ maxLen ∧ q0.f2.length * 1 ≤ 140737488351232 ∧ ∀ q2 ∈ q0.f2, (Lit.int .u8 q2).wf = true) ∧ (q0.f3.length ≤ maxLen ∧ q0.f3.length * 1 ≤ 140737488351232 ∧ ∀ q2 ∈ q0.f3, (Lit.int .u8 q2).wf = true) ∧ (q0.f4.length ≤ maxLen ∧ q0.f4.length * 1 ≤ 140737488351232 ∧ ∀ q2 ∈ q0.f4, (Lit.int .u8 q2).wf = true)))) := (opens_slice Try.underlying48 (by kernel_rfl) (by kernel_rfl) (opens_iso (fun a => (⟨a.1, a.2.1, a.2.2.1, a.2.2.2.1, a.2.2.2.2⟩ : S52)) (fun _ => rfl) (opens_struct Try.underlying52 (by kernel_rfl) (opensF_cons (by kernel_rfl) (by kernel_rfl) (opens_int Try.underlying3) (opensF_cons (by kernel_rfl) (by kernel_rfl) (opens_int Try.underlying3) (opensF_cons (by kernel_rfl) (by kernel_rfl) (opens_slice Try.underlying50 (by kernel_rfl) (by kernel_rfl) (opens_int Try.underlying5)) (opensF_cons (by kernel_rfl) (by kernel_rfl) (opens_slice Try.underlying50 (by kernel_rfl) (by kernel_rfl) (opens_int Try.underlying5)) (opensF_one (by kernel_rfl) (by kernel_rfl) (opens_slice Try.underlying50 (by kernel_rfl) (by kernel_rfl) (opens_int Try.underlying5))))))))))
theorem opens2 : Opens Try.prog 38 (Kd.slice 43 k43) (fun x => (x.length ≤ maxLen ∧ x.length * 16 ≤ 140737488351232 ∧ ∀ q0 ∈ x, ((Lit.int .i64 q0.f0).wf = true ∧ (Lit.int .i64 q0.f1).wf = true))) := (opens_slice Try.underlying38 (by kernel_rfl) (by kernel_rfl) (opens_iso (fun a => (⟨a.1, a.2⟩ : S43)) (fun _ => rfl) (opens_struct Try.underlying43 (by kernel_rfl) (opensF_cons (by kernel_rfl) (by kernel_rfl) (opens_int Try.underlying3) (opensF_one (by kernel_rfl) (by kernel_rfl) (opens_int Try.underlying3))))))
set_option maxRecDepth 100000 in
theorem lifted (os : Os) (started : os.Started) (H : Type) (enc : TypeId × Value → H) :
    ReturnsInHanded {} Try.checked os 16 .any (Rows.cadenceRestoresSpec.pre6 enc Try.prog Try.f16 Rows.cadenceRestoresRow.domain false) (Rows.cadenceRestoresSpec.post enc Try.prog Try.f16 false true false false) := by
  refine returnsInHanded_of_change_sized (C := Try.checked) own started (by kernel_rfl) Try.func16
    (ChangeSpec.witness6 (enc := enc) (C := Try.checked) false ⟨#[], #[.slice none 0 0, .slice none 0 0, .slice none 0 0], []⟩ 8 (by kernel_rfl) (by kernel_rfl) (by kernel_rfl) (by kernel_rfl)) ?_
  intro W base args ds gs before hval0 hW hcnd hsz0 _
  have hsz : (DataW.weightsEach Try.prog (Try.f16.params.toList ++ Rows.cadenceRestoresSpec.plain.varTypes Try.prog) (ds ++ gs)).all (· ≤ reachBytes) = true := hsz0
  have hval : ∀ (j : Nat) t v, Try.f16.params[j]? = some t → args[j]? = some v → Value.okWide Try.prog W .any base t v := hval0
  have hW' := hW
  obtain ⟨p, q, hA0, hV, rfl, hfz, hnd⟩ := hW
  have hA : DataW.TrodAll enc Try.prog W 0 (fun _ => true) true Try.f16.params.toList args.toList ds p := hA0
  rw [Try.params16] at hA hval hsz
  obtain ⟨v0, vs0, d0, ds0, p0, q0, hargs, rfl, rfl, h0, r0⟩ := trodAll_cons hA
  obtain ⟨v1, vs1, d1, ds1, p1, q1, rfl, rfl, rfl, h1, r1⟩ := trodAll_cons r0
  obtain ⟨v2, vs2, d2, ds2, p2, q2, rfl, rfl, rfl, h2, r2⟩ := trodAll_cons r1
  obtain ⟨rfl, rfl, rfl⟩ := trodAll_nil r2
  obtain rfl : args = #[v0, v1, v2] := by cases args; simp_all
  obtain ⟨rfl, rfl⟩ := trodVars_none hV
  obtain ⟨a0, len0, cap0, rfl⟩ := okWide_slice Try.underlying41 (hval 0 41 v0 rfl rfl)
  have k0 := h0
  have lt0 : ∀ x ∈ p0, x.block < W.heap.size := by obtain ⟨m, hm⟩ := k0; exact DataW.trod_lt m _ _ _ hm
  obtain ⟨x0, K0, Q0⟩ := opened opens0 0 hsz rfl rfl h0
  obtain ⟨A0, c0, e0, hc0, hr0⟩ := K0
  simp only [Value.cells, List.cons.injEq, Value.slice.injEq, and_true] at e0; obtain ⟨rfl, rfl, rfl⟩ := e0
  obtain ⟨a1, len1, cap1, rfl⟩ := okWide_slice Try.underlying48 (hval 1 48 v1 rfl rfl)
  have k1 := h1
  have lt1 : ∀ x ∈ p1, x.block < W.heap.size := by obtain ⟨m, hm⟩ := k1; exact DataW.trod_lt m _ _ _ hm
  obtain ⟨x1, K1, Q1⟩ := opened opens1 1 hsz rfl rfl h1
  obtain ⟨A1, c1, e1, hc1, hr1⟩ := K1
  simp only [Value.cells, List.cons.injEq, Value.slice.injEq, and_true] at e1; obtain ⟨rfl, rfl, rfl⟩ := e1
  obtain ⟨a2, len2, cap2, rfl⟩ := okWide_slice Try.underlying38 (hval 2 38 v2 rfl rfl)
  have k2 := h2
  have lt2 : ∀ x ∈ p2, x.block < W.heap.size := by obtain ⟨m, hm⟩ := k2; exact DataW.trod_lt m _ _ _ hm
  obtain ⟨x2, K2, Q2⟩ := opened opens2 2 hsz rfl rfl h2
  obtain ⟨A2, c2, e2, hc2, hr2⟩ := K2
  simp only [Value.cells, List.cons.injEq, Value.slice.injEq, and_true] at e2; obtain ⟨rfl, rfl, rfl⟩ := e2
  clear hA0 hval0 hsz0 hsz
  obtain ⟨k, h⟩ := Pure.CadenceRestores x0 x1 x2 Q0 Q1 Q2
  refine (cutroomlaw20_CadenceRestores.calls k _ _ x0 _ _ x1 _ _ x2 true W hr0 hc0 hr1 hc1 hr2 hc2 h).mono fun e W' hh => ?_
  obtain ⟨he, bel0⟩ := hh
  have bel : Below W.heap.size W W' := bel0
  subst he
  exact ⟨_, rfl, _, _, _, [], _, [], hW', trodAll_mk1 (shut_bool Try.underlying4 _), (trodAll_cons_mk (Below.trod laidOut (by kernel_rfl) (of_decide_eq_true (by kernel_rfl)) k0 bel lt0) (trodAll_cons_mk (Below.trod laidOut (by kernel_rfl) (of_decide_eq_true (by kernel_rfl)) k1 bel lt1) (trodAll_cons_mk (Below.trod laidOut (by kernel_rfl) (of_decide_eq_true (by kernel_rfl)) k2 bel lt2) trodAll_mk0))), rfl, bel.frame _, fun h => by cases h⟩
theorem over : Rows.cadenceRestoresRow.holds Try.pinned (OpenSpec.ofChange Rows.cadenceRestoresSpec) :=
  OpenClaim.holds_of_wide 16 Try.f16 rfl rfl rfl rfl rfl rfl rfl ⟨rfl, rfl, rfl, rfl, rfl⟩ rfl rfl rfl rfl rfl (by kernel_rfl) Try.func16 (by kernel_rfl)
    (of_decide_eq_true (by kernel_rfl)) (by unfold Func.isWrapper; first | (rw [if_pos (by decide +kernel)]; kernel_rfl) | (rw [if_neg (by decide +kernel)]; exact ⟨rfl, rfl⟩))
    (fun os started H enc _ => lifted os started H enc)
theorem proved : Rows.CadenceRestoresSaid := over
#print axioms proved
end Go.Proofs.Ytcofjbbflcnaaaa.cadenceRestores
namespace Go.Proofs.Ytcofjbbflcnaaaa
/-- The row, under a short name, for the claim. -/
theorem cadenceRestores_holds : Rows.CadenceRestoresSaid := cadenceRestores.proved
end Go.Proofs.Ytcofjbbflcnaaaa
