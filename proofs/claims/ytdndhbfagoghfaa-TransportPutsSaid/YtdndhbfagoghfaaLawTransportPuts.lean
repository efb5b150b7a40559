-- Written by this session's own program (wip/tools/myprint.py), which runs the kit's print with turns of its own: not a text of the kit's print.sh.
import Derived.Test.YtdndhbfagoghfaaRows
import Derived.Test.YtdndhbfagoghfaaPx4
import Derived.Test.YtdndhbfagoghfaaPureTransportPuts
import Derived.Test.YtdndhbfagoghfaaOpens
import Derived.WalkKit
import Derived.ProofKit
import Derived.OpenShut
import Derived.ShutString
import Derived.ChangeOld
import Derived.Below
import Derived.SizedLaws
import Derived.Lib.SmallJoins
namespace Go.Proofs.Ytdndhbfagoghfaa.transportPuts
open Go.ChangeShapes Go.WideShapes Go.ChangeAt Go.RowKit Go.Proofs.YtdndhbfagoghfaaW.PrintWords Go.Proofs.Ytdndhbfagoghfaa.Opens Go.Proofs.Ytdndhbfagoghfaa.P
set_option linter.unusedVariables false
theorem own : ownKnob Try.prog.godebug = none := by kernel_rfl
theorem laidOut : laidOutB Try.prog = true := by kernel_rfl
theorem opens0 : Opens Try.prog 24 (Kd.pair (Kd.int .i64) (Kd.pair (Kd.int .i64) (Kd.pair Kd.bool (Kd.pair (Kd.int .i64) (Kd.slice 5 (Kd.int .u8)))))) (fun x => ((Lit.int .i64 x.1).wf = true ∧ (Lit.int .i64 x.2.1).wf = true ∧ True ∧ (Lit.int .i64 x.2.2.2.1).wf = true ∧ (x.2.2.2.2.length ≤ maxLen ∧ x.2.2.2.2.length * 1 ≤ 140737488351232 ∧ ∀ q1 ∈ x.2.2.2.2, (Lit.int .u8 q1).wf = true))) := (opens_struct Try.underlying24 (by kernel_rfl) (opensF_cons (by kernel_rfl) (by kernel_rfl) (opens_int Try.underlying3) (opensF_cons (by kernel_rfl) (by kernel_rfl) (opens_int Try.underlying3) (opensF_cons (by kernel_rfl) (by kernel_rfl) (opens_bool Try.underlying4) (opensF_cons (by kernel_rfl) (by kernel_rfl) (opens_int Try.underlying2) (opensF_one (by kernel_rfl) (by kernel_rfl) (opens_slice Try.underlying22 (by kernel_rfl) (by kernel_rfl) (opens_int Try.underlying5))))))))
set_option maxRecDepth 100000 in
theorem lifted (os : Os) (started : os.Started) (H : Type) (enc : TypeId × Value → H) :
    ReturnsInHanded {} Try.checked os 3 .any (Rows.transportPutsSpec.pre6 enc Try.prog Try.f3 Rows.transportPutsRow.domain false) (Rows.transportPutsSpec.post enc Try.prog Try.f3 false true false false) := by
  refine returnsInHanded_of_change_sized (C := Try.checked) own started (by kernel_rfl) Try.func3
    (ChangeSpec.witness6 (enc := enc) (C := Try.checked) false ⟨#[], #[.agg #[.int .i64 0, .int .i64 0, .bool false, .int .i64 0, .slice none 0 0]], []⟩ 8 (by kernel_rfl) (by kernel_rfl) (by kernel_rfl) (by kernel_rfl)) ?_
  intro W base args ds gs before hval0 hW hcnd hsz0 _
  have hsz : (DataW.weightsEach Try.prog (Try.f3.params.toList ++ Rows.transportPutsSpec.plain.varTypes Try.prog) (ds ++ gs)).all (· ≤ reachBytes) = true := hsz0
  have hval : ∀ (j : Nat) t v, Try.f3.params[j]? = some t → args[j]? = some v → Value.okWide Try.prog W .any base t v := hval0
  have hW' := hW
  obtain ⟨p, q, hA0, hV, rfl, hfz, hnd⟩ := hW
  have hA : DataW.TrodAll enc Try.prog W 0 (fun _ => true) true Try.f3.params.toList args.toList ds p := hA0
  rw [Try.params3] at hA hval hsz
  obtain ⟨v0, vs0, d0, ds0, p0, q0, hargs, rfl, rfl, h0, r0⟩ := trodAll_cons hA
  obtain ⟨rfl, rfl, rfl⟩ := trodAll_nil r0
  obtain rfl : args = #[v0] := by cases args; simp_all
  obtain ⟨rfl, rfl⟩ := trodVars_none hV
  obtain ⟨cs0, rfl, hsz0⟩ := okWide_struct Try.underlying24 (hval 0 24 v0 rfl rfl)
  have k0 := h0
  have lt0 : ∀ x ∈ p0, x.block < W.heap.size := by obtain ⟨m, hm⟩ := k0; exact DataW.trod_lt m _ _ _ hm
  obtain ⟨x0, K0, Q0⟩ := opened opens0 0 hsz rfl rfl h0
  obtain ⟨cs0⟩ := cs0
  replace K0 : ((Kd.pair (Kd.int .i64) (Kd.pair (Kd.int .i64) (Kd.pair Kd.bool (Kd.pair (Kd.int .i64) (Kd.slice 5 (Kd.int .u8))))))).K W x0 cs0 := by simpa [Value.cells] using K0
  generalize hcs0 : cs0 = cz0 at K0
  obtain ⟨_, _, eK00, K0f0, K0r0⟩ := K0; subst eK00
  replace K0f0 : _ = ([.int .i64 x0.1] : List Value) := K0f0; subst K0f0
  obtain ⟨_, _, eK01, K0f1, K0r1⟩ := K0r0; subst eK01
  replace K0f1 : _ = ([.int .i64 x0.2.1] : List Value) := K0f1; subst K0f1
  obtain ⟨_, _, eK02, K0f2, K0r2⟩ := K0r1; subst eK02
  replace K0f2 : _ = ([.bool x0.2.2.1] : List Value) := K0f2; subst K0f2
  obtain ⟨_, _, eK03, K0f3, K0r3⟩ := K0r2; subst eK03
  replace K0f3 : _ = ([.int .i64 x0.2.2.2.1] : List Value) := K0f3; subst K0f3
  obtain ⟨Az5, cz5, ez5, hcz5, hrz5⟩ := K0r3; subst ez5
  simp only [List.cons_append, List.nil_append] at hcs0; subst hcs0
  clear hA0 hval0 hsz0 hsz
  obtain ⟨k, h⟩ := Pure.TransportPuts x0.1 x0.2.1 x0.2.2.1 x0.2.2.2.1 x0.2.2.2.2 Q0.1 Q0.2.1 Q0.2.2.2.1 Q0.2.2.2.2
  refine (cutroomlaw17_TransportPuts.calls k x0.1 x0.2.1 x0.2.2.1 x0.2.2.2.1 _ _ x0.2.2.2.2 true W hrz5 hcz5 h).mono fun e W' hh => ?_
  obtain ⟨he, bel0⟩ := hh
  have bel : Below W.heap.size W W' := bel0
  subst he
  exact ⟨_, rfl, _, _, _, [], _, [], hW', trodAll_mk1 (shut_bool Try.underlying4 _), (trodAll_cons_mk (Below.trod laidOut (by kernel_rfl) (of_decide_eq_true (by kernel_rfl)) k0 bel lt0) trodAll_mk0), rfl, bel.frame _, fun h => by cases h⟩
theorem over : Rows.transportPutsRow.holds Try.pinned (OpenSpec.ofChange Rows.transportPutsSpec) :=
  OpenClaim.holds_of_wide 3 Try.f3 rfl rfl rfl rfl rfl rfl rfl ⟨rfl, rfl, rfl, rfl, rfl⟩ rfl rfl rfl rfl rfl (by kernel_rfl) Try.func3 (by kernel_rfl)
    (of_decide_eq_true (by kernel_rfl)) (by unfold Func.isWrapper; first | (rw [if_pos (by decide +kernel)]; kernel_rfl) | (rw [if_neg (by decide +kernel)]; exact ⟨rfl, rfl⟩))
    (fun os started H enc _ => lifted os started H enc)
theorem proved : Rows.TransportPutsSaid := over
#print axioms proved
end Go.Proofs.Ytdndhbfagoghfaa.transportPuts
namespace Go.Proofs.Ytdndhbfagoghfaa
/-- The row, under a short name, for the claim. -/
theorem transportPuts_holds : Rows.TransportPutsSaid := transportPuts.proved
end Go.Proofs.Ytdndhbfagoghfaa
