/- What a row's opening says of sound. No condition of its own. -/
import Derived.Test.YtjcjbbcamkkeiaaLoC
namespace Go.Proofs.Ytjcjbbcamkkeiaa.P
open Go.RowKit Go.Proofs.YtjcjbbcamkkeiaaW.PrintWords Go.Proofs.YtjcjbbcamkkeiaaW.PrintLast Go.Proofs.YtjcjbbcamkkeiaaW.PrintMore
set_option linter.unusedVariables false
theorem wf16 {x : Int} (h : (Lit.int .i16 x).wf = true) : -32768 ≤ x ∧ x ≤ 32767 := by
  simp [Lit.wf, IntKind.min, IntKind.max, IntKind.signed, IntKind.bits] at h
  omega
theorem snd_raw {l : List (List Int)} (h : l.length ≤ maxLen ∧ l.length * 24 ≤ 140737488351232 ∧ ∀ q0 ∈ l, (q0.length ≤ maxLen ∧ q0.length * 2 ≤ 140737488351232 ∧ ∀ q1 ∈ q0, (Lit.int .i16 q1).wf = true)) : Snd l :=
  ⟨by have := h.2.1; omega, fun q hq => ⟨fun v hv => wf16 ((h.2.2 q hq).2.2 v hv), by have := (h.2.2 q hq).2.1; omega⟩⟩
theorem snd_md {most : Int} {r : List (List Int)} (h : Md most r) (hm : most ≤ 32767) : Snd r := by
  obtain ⟨L, _, h2⟩ := md_pr h hm
  exact snd_of h2
end Go.Proofs.Ytjcjbbcamkkeiaa.P
