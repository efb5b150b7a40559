-- Written by this session's own program (wip/tools/myprint.py), which runs the kit's print with turns of its own: not a text of the kit's print.sh.
import Derived.Test.YtdndhbfagoghfaaRows
import Derived.Test.YtdndhbfagoghfaaPx8
import Derived.Test.YtdndhbfagoghfaaPureTransportResync
import Derived.Test.YtdndhbfagoghfaaOpens
import Derived.WalkKit
import Derived.ProofKit
import Derived.OpenShut
import Derived.ShutString
import Derived.ChangeOld
import Derived.Below
import Derived.SizedLaws
import Derived.Lib.SmallJoins
namespace Go.Proofs.Ytdndhbfagoghfaa.transportResync
open Go.ChangeShapes Go.WideShapes Go.ChangeAt Go.RowKit Go.Proofs.YtdndhbfagoghfaaW.PrintWords Go.Proofs.Ytdndhbfagoghfaa.Opens Go.Proofs.Ytdndhbfagoghfaa.P
set_option linter.unusedVariables false
theorem own : ownKnob Try.prog.godebug = none := by kernel_rfl
theorem laidOut : laidOutB Try.prog = true := by kernel_rfl
theorem opens0 : Opens Try.prog 22 (Kd.slice 5 (Kd.int .u8)) (fun x => (x.length ≤ maxLen ∧ x.length * 1 ≤ 140737488351232 ∧ ∀ q0 ∈ x, (Lit.int .u8 q0).wf = true)) := (opens_slice Try.underlying22 (by kernel_rfl) (by kernel_rfl) (opens_int Try.underlying5))
theorem opens1 : Opens Try.prog 44 (Kd.slice 24 k24) (fun x => (x.length ≤ maxLen ∧ x.length * 56 ≤ 140737488351232 ∧ ∀ q0 ∈ x, ((Lit.int .i64 q0.f0).wf = true ∧ (Lit.int .i64 q0.f1).wf = true ∧ True ∧ (Lit.int .i64 q0.f3).wf = true ∧ (q0.f4.length ≤ maxLen ∧ q0.f4.length * 1 ≤ 140737488351232 ∧ ∀ q2 ∈ q0.f4, (Lit.int .u8 q2).wf = true)))) := (opens_slice Try.underlying44 (by kernel_rfl) (by kernel_rfl) (opens_iso (fun a => (⟨a.1, a.2.1, a.2.2.1, a.2.2.2.1, a.2.2.2.2⟩ : S24)) (fun _ => rfl) (opens_struct Try.underlying24 (by kernel_rfl) (opensF_cons (by kernel_rfl) (by kernel_rfl) (opens_int Try.underlying3) (opensF_cons (by kernel_rfl) (by kernel_rfl) (opens_int Try.underlying3) (opensF_cons (by kernel_rfl) (by kernel_rfl) (opens_bool Try.underlying4) (opensF_cons (by kernel_rfl) (by kernel_rfl) (opens_int Try.underlying2) (opensF_one (by kernel_rfl) (by kernel_rfl) (opens_slice Try.underlying22 (by kernel_rfl) (by kernel_rfl) (opens_int Try.underlying5))))))))))
set_option maxRecDepth 100000 in
theorem lifted (os : Os) (started : os.Started) (H : Type) (enc : TypeId × Value → H) :
    ReturnsInHanded {} Try.checked os 7 .any (Rows.transportResyncSpec.pre6 enc Try.prog Try.f7 Rows.transportResyncRow.domain false) (Rows.transportResyncSpec.post enc Try.prog Try.f7 false true false false) := by
  refine returnsInHanded_of_change_sized (C := Try.checked) own started (by kernel_rfl) Try.func7
    (ChangeSpec.witness6 (enc := enc) (C := Try.checked) false ⟨#[], #[.slice none 0 0, .slice none 0 0], []⟩ 8 (by kernel_rfl) (by kernel_rfl) (by kernel_rfl) (by kernel_rfl)) ?_
  intro W base args ds gs before hval0 hW hcnd hsz0 _
  have hsz : (DataW.weightsEach Try.prog (Try.f7.params.toList ++ Rows.transportResyncSpec.plain.varTypes Try.prog) (ds ++ gs)).all (· ≤ reachBytes) = true := hsz0
  have hval : ∀ (j : Nat) t v, Try.f7.params[j]? = some t → args[j]? = some v → Value.okWide Try.prog W .any base t v := hval0
  have hW' := hW
  obtain ⟨p, q, hA0, hV, rfl, hfz, hnd⟩ := hW
  have hA : DataW.TrodAll enc Try.prog W 0 (fun _ => true) true Try.f7.params.toList args.toList ds p := hA0
  rw [Try.params7] at hA hval hsz
  obtain ⟨v0, vs0, d0, ds0, p0, q0, hargs, rfl, rfl, h0, r0⟩ := trodAll_cons hA
  obtain ⟨v1, vs1, d1, ds1, p1, q1, rfl, rfl, rfl, h1, r1⟩ := trodAll_cons r0
  obtain ⟨rfl, rfl, rfl⟩ := trodAll_nil r1
  obtain rfl : args = #[v0, v1] := by cases args; simp_all
  obtain ⟨rfl, rfl⟩ := trodVars_none hV
  obtain ⟨a0, len0, cap0, rfl⟩ := okWide_slice Try.underlying22 (hval 0 22 v0 rfl rfl)
  have k0 := h0
  have lt0 : ∀ x ∈ p0, x.block < W.heap.size := by obtain ⟨m, hm⟩ := k0; exact DataW.trod_lt m _ _ _ hm
  obtain ⟨x0, K0, Q0⟩ := opened opens0 0 hsz rfl rfl h0
  obtain ⟨A0, c0, e0, hc0, hr0⟩ := K0
  simp only [Value.cells, List.cons.injEq, Value.slice.injEq, and_true] at e0; obtain ⟨rfl, rfl, rfl⟩ := e0
  obtain ⟨a1, len1, cap1, rfl⟩ := okWide_slice Try.underlying44 (hval 1 44 v1 rfl rfl)
  have k1 := h1
  have lt1 : ∀ x ∈ p1, x.block < W.heap.size := by obtain ⟨m, hm⟩ := k1; exact DataW.trod_lt m _ _ _ hm
  obtain ⟨x1, K1, Q1⟩ := opened opens1 1 hsz rfl rfl h1
  obtain ⟨A1, c1, e1, hc1, hr1⟩ := K1
  simp only [Value.cells, List.cons.injEq, Value.slice.injEq, and_true] at e1; obtain ⟨rfl, rfl, rfl⟩ := e1
  clear hA0 hval0 hsz0 hsz
  obtain ⟨k, h⟩ := Pure.TransportResync x0 x1 Q0 Q1
  refine (cutroomlaw17_TransportResync.calls k _ _ x0 _ _ x1 true W hr0 hc0 hr1 hc1 h).mono fun e W' hh => ?_
  obtain ⟨he, bel0⟩ := hh
  have bel : Below W.heap.size W W' := bel0
  subst he
  exact ⟨_, rfl, _, _, _, [], _, [], hW', trodAll_mk1 (shut_bool Try.underlying4 _), (trodAll_cons_mk (Below.trod laidOut (by kernel_rfl) (of_decide_eq_true (by kernel_rfl)) k0 bel lt0) (trodAll_cons_mk (Below.trod laidOut (by kernel_rfl) (of_decide_eq_true (by kernel_rfl)) k1 bel lt1) trodAll_mk0)), rfl, bel.frame _, fun h => by cases h⟩
theorem over : Rows.transportResyncRow.holds Try.pinned (OpenSpec.ofChange Rows.transportResyncSpec) :=
  OpenClaim.holds_of_wide 7 Try.f7 rfl rfl rfl rfl rfl rfl rfl ⟨rfl, rfl, rfl, rfl, rfl⟩ rfl rfl rfl rfl rfl (by kernel_rfl) Try.func7 (by kernel_rfl)
    (of_decide_eq_true (by kernel_rfl)) (by unfold Func.isWrapper; first | (rw [if_pos (by decide +kernel)]; kernel_rfl) | (rw [if_neg (by decide +kernel)]; exact ⟨rfl, rfl⟩))
    (fun os started H enc _ => lifted os started H enc)
theorem proved : Rows.TransportResyncSaid := over
#print axioms proved
end Go.Proofs.Ytdndhbfagoghfaa.transportResync
namespace Go.Proofs.Ytdndhbfagoghfaa
/-- The row, under a short name, for the claim. -/
theorem transportResync_holds : Rows.TransportResyncSaid := transportResync.proved
end Go.Proofs.Ytdndhbfagoghfaa
