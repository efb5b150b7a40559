/-
  No cell of these rows narrows 'for every input' (looked for: loops, veiled, ifaces, maps, wideKeys, modest, calm, conditions, laid).
  DERIVED. THE GIVEN ROWS OF THIS SEAT. 16 by the template 'for every input the law returns true; each argument reads behind the call as it read before'; 0 by the template 'total and deterministic' (their statements: YtcofjbbflcnaaaaTotals.lean).
  GIVEN WITH THE SEED: the statements are not yours to turn. If you find one false, say at which input.
  Laid BY PROGRAM, IN A SANDBOX (cutbox-rows.mjs): the forced cells as the released guide's own fill.sh prints them over the translation 059afd62e4e2988d… (all of the seat's roots in one cut). By AI agents, Wed Nov 11 2026. No macro, syntax, notation, axiom, sorry.
-/
import Derived.Test.YtcofjbbflcnaaaaChecked
import GoSem.Claim
import GoSem.ClaimJoined
import GoSem.ClaimMapViews
import Derived.JoinedTies
import Derived.KernelRfl
namespace Go.Proofs.Ytcofjbbflcnaaaa
/- THE CELL 'sum', in the pinned program and in every row, IS THE sha256 OF THE DUMP (.gsa) THAT YtcofjbbflcnaaaaProg.lean LOADS. Nothing in Lean hashes anything: it is a label: what it is worth is what the hold of that sum in a sandbox is worth. -/
noncomputable def Try.pinned : Pinned := { name := "ytcofjbbflcnaaaa", sum := "059afd62e4e2988d23f5dec998252f4efcb580de99a92a9275d8acb6e3085552", checked := Try.checked }
namespace Rows
def none {H : Type} : Left H := { results := [], args := [] }

/-- 'cutroomlaw20.CadenceRates': WHATEVER THE INPUT: true; the input reads as it did. -/
def cadenceRatesSpec : ChangeSpec := { name := "cadenceRates", fn := fun _ => fun
  | [d] => { results := [.lit (.bool true)], args := [d] }
  | _ => none }
def cadenceRatesRow : OpenClaim := { program := "ytcofjbbflcnaaaa", sum := "059afd62e4e2988d23f5dec998252f4efcb580de99a92a9275d8acb6e3085552", func := "cutroom/cutroomlaw20.CadenceRates", spec := "cadenceRates", named := ["math/bits.divideError", "math/bits.overflowError"], apart := false }
def CadenceRatesSaid : Prop := cadenceRatesRow.holds Try.pinned (OpenSpec.ofChange cadenceRatesSpec)

/-- ITS FALSE NEIGHBOUR: 'it returns false'. Refute it at one input. -/
def cadenceRatesWrong : ChangeSpec := { name := "cadenceRates", fn := fun _ => fun
  | [d] => { results := [.lit (.bool false)], args := [d] }
  | _ => none }
def CadenceRatesWrongFalsely : Prop := cadenceRatesRow.holds Try.pinned (OpenSpec.ofChange cadenceRatesWrong)

/-- 'cutroomlaw20.CadenceFrames': WHATEVER THE INPUT: true; the input reads as it did. -/
def cadenceFramesSpec : ChangeSpec := { name := "cadenceFrames", fn := fun _ => fun
  | [d1, d2, d3] => { results := [.lit (.bool true)], args := [d1, d2, d3] }
  | _ => none }
def cadenceFramesRow : OpenClaim := { program := "ytcofjbbflcnaaaa", sum := "059afd62e4e2988d23f5dec998252f4efcb580de99a92a9275d8acb6e3085552", func := "cutroom/cutroomlaw20.CadenceFrames", spec := "cadenceFrames", named := ["math/bits.divideError", "math/bits.overflowError"], apart := false }
def CadenceFramesSaid : Prop := cadenceFramesRow.holds Try.pinned (OpenSpec.ofChange cadenceFramesSpec)

/-- ITS FALSE NEIGHBOUR: 'it returns false'. Refute it at one input. -/
def cadenceFramesWrong : ChangeSpec := { name := "cadenceFrames", fn := fun _ => fun
  | [d1, d2, d3] => { results := [.lit (.bool false)], args := [d1, d2, d3] }
  | _ => none }
def CadenceFramesWrongFalsely : Prop := cadenceFramesRow.holds Try.pinned (OpenSpec.ofChange cadenceFramesWrong)

/-- 'cutroomlaw20.CadenceShown': WHATEVER THE INPUT: true; the input reads as it did. -/
def cadenceShownSpec : ChangeSpec := { name := "cadenceShown", fn := fun _ => fun
  | [d1, d2, d3] => { results := [.lit (.bool true)], args := [d1, d2, d3] }
  | _ => none }
def cadenceShownRow : OpenClaim := { program := "ytcofjbbflcnaaaa", sum := "059afd62e4e2988d23f5dec998252f4efcb580de99a92a9275d8acb6e3085552", func := "cutroom/cutroomlaw20.CadenceShown", spec := "cadenceShown", named := ["math/bits.divideError", "math/bits.overflowError"], apart := false }
def CadenceShownSaid : Prop := cadenceShownRow.holds Try.pinned (OpenSpec.ofChange cadenceShownSpec)

/-- ITS FALSE NEIGHBOUR: 'it returns false'. Refute it at one input. -/
def cadenceShownWrong : ChangeSpec := { name := "cadenceShown", fn := fun _ => fun
  | [d1, d2, d3] => { results := [.lit (.bool false)], args := [d1, d2, d3] }
  | _ => none }
def CadenceShownWrongFalsely : Prop := cadenceShownRow.holds Try.pinned (OpenSpec.ofChange cadenceShownWrong)

/-- 'cutroomlaw20.CadenceSamples': WHATEVER THE INPUT: true; the input reads as it did. -/
def cadenceSamplesSpec : ChangeSpec := { name := "cadenceSamples", fn := fun _ => fun
  | [d1, d2] => { results := [.lit (.bool true)], args := [d1, d2] }
  | _ => none }
def cadenceSamplesRow : OpenClaim := { program := "ytcofjbbflcnaaaa", sum := "059afd62e4e2988d23f5dec998252f4efcb580de99a92a9275d8acb6e3085552", func := "cutroom/cutroomlaw20.CadenceSamples", spec := "cadenceSamples", named := ["math/bits.divideError", "math/bits.overflowError"], apart := false }
def CadenceSamplesSaid : Prop := cadenceSamplesRow.holds Try.pinned (OpenSpec.ofChange cadenceSamplesSpec)

/-- ITS FALSE NEIGHBOUR: 'it returns false'. Refute it at one input. -/
def cadenceSamplesWrong : ChangeSpec := { name := "cadenceSamples", fn := fun _ => fun
  | [d1, d2] => { results := [.lit (.bool false)], args := [d1, d2] }
  | _ => none }
def CadenceSamplesWrongFalsely : Prop := cadenceSamplesRow.holds Try.pinned (OpenSpec.ofChange cadenceSamplesWrong)

/-- 'cutroomlaw20.CadenceHalf': WHATEVER THE INPUT: true; the input reads as it did. -/
def cadenceHalfSpec : ChangeSpec := { name := "cadenceHalf", fn := fun _ => fun
  | [d1, d2] => { results := [.lit (.bool true)], args := [d1, d2] }
  | _ => none }
def cadenceHalfRow : OpenClaim := { program := "ytcofjbbflcnaaaa", sum := "059afd62e4e2988d23f5dec998252f4efcb580de99a92a9275d8acb6e3085552", func := "cutroom/cutroomlaw20.CadenceHalf", spec := "cadenceHalf", named := ["math/bits.divideError", "math/bits.overflowError"], apart := false }
def CadenceHalfSaid : Prop := cadenceHalfRow.holds Try.pinned (OpenSpec.ofChange cadenceHalfSpec)

/-- ITS FALSE NEIGHBOUR: 'it returns false'. Refute it at one input. -/
def cadenceHalfWrong : ChangeSpec := { name := "cadenceHalf", fn := fun _ => fun
  | [d1, d2] => { results := [.lit (.bool false)], args := [d1, d2] }
  | _ => none }
def CadenceHalfWrongFalsely : Prop := cadenceHalfRow.holds Try.pinned (OpenSpec.ofChange cadenceHalfWrong)

/-- 'cutroomlaw20.CadenceOwners': WHATEVER THE INPUT: true; the input reads as it did. -/
def cadenceOwnersSpec : ChangeSpec := { name := "cadenceOwners", fn := fun _ => fun
  | [d1, d2] => { results := [.lit (.bool true)], args := [d1, d2] }
  | _ => none }
def cadenceOwnersRow : OpenClaim := { program := "ytcofjbbflcnaaaa", sum := "059afd62e4e2988d23f5dec998252f4efcb580de99a92a9275d8acb6e3085552", func := "cutroom/cutroomlaw20.CadenceOwners", spec := "cadenceOwners", named := ["math/bits.divideError", "math/bits.overflowError"], apart := false }
def CadenceOwnersSaid : Prop := cadenceOwnersRow.holds Try.pinned (OpenSpec.ofChange cadenceOwnersSpec)

/-- ITS FALSE NEIGHBOUR: 'it returns false'. Refute it at one input. -/
def cadenceOwnersWrong : ChangeSpec := { name := "cadenceOwners", fn := fun _ => fun
  | [d1, d2] => { results := [.lit (.bool false)], args := [d1, d2] }
  | _ => none }
def CadenceOwnersWrongFalsely : Prop := cadenceOwnersRow.holds Try.pinned (OpenSpec.ofChange cadenceOwnersWrong)

/-- 'cutroomlaw20.CadenceOwns': WHATEVER THE INPUT: true; the input reads as it did. -/
def cadenceOwnsSpec : ChangeSpec := { name := "cadenceOwns", fn := fun _ => fun
  | [d1, d2] => { results := [.lit (.bool true)], args := [d1, d2] }
  | _ => none }
def cadenceOwnsRow : OpenClaim := { program := "ytcofjbbflcnaaaa", sum := "059afd62e4e2988d23f5dec998252f4efcb580de99a92a9275d8acb6e3085552", func := "cutroom/cutroomlaw20.CadenceOwns", spec := "cadenceOwns", named := ["math/bits.divideError", "math/bits.overflowError"], apart := false }
def CadenceOwnsSaid : Prop := cadenceOwnsRow.holds Try.pinned (OpenSpec.ofChange cadenceOwnsSpec)

/-- ITS FALSE NEIGHBOUR: 'it returns false'. Refute it at one input. -/
def cadenceOwnsWrong : ChangeSpec := { name := "cadenceOwns", fn := fun _ => fun
  | [d1, d2] => { results := [.lit (.bool false)], args := [d1, d2] }
  | _ => none }
def CadenceOwnsWrongFalsely : Prop := cadenceOwnsRow.holds Try.pinned (OpenSpec.ofChange cadenceOwnsWrong)

/-- 'cutroomlaw20.CadenceFields': WHATEVER THE INPUT: true; the input reads as it did. -/
def cadenceFieldsSpec : ChangeSpec := { name := "cadenceFields", fn := fun _ => fun
  | [d1, d2, d3] => { results := [.lit (.bool true)], args := [d1, d2, d3] }
  | _ => none }
def cadenceFieldsRow : OpenClaim := { program := "ytcofjbbflcnaaaa", sum := "059afd62e4e2988d23f5dec998252f4efcb580de99a92a9275d8acb6e3085552", func := "cutroom/cutroomlaw20.CadenceFields", spec := "cadenceFields", named := ["math/bits.divideError", "math/bits.overflowError"], apart := false }
def CadenceFieldsSaid : Prop := cadenceFieldsRow.holds Try.pinned (OpenSpec.ofChange cadenceFieldsSpec)

/-- ITS FALSE NEIGHBOUR: 'it returns false'. Refute it at one input. -/
def cadenceFieldsWrong : ChangeSpec := { name := "cadenceFields", fn := fun _ => fun
  | [d1, d2, d3] => { results := [.lit (.bool false)], args := [d1, d2, d3] }
  | _ => none }
def CadenceFieldsWrongFalsely : Prop := cadenceFieldsRow.holds Try.pinned (OpenSpec.ofChange cadenceFieldsWrong)

/-- 'cutroomlaw20.CadencePulldown': WHATEVER THE INPUT: true; the input reads as it did. -/
def cadencePulldownSpec : ChangeSpec := { name := "cadencePulldown", fn := fun _ => fun
  | [d] => { results := [.lit (.bool true)], args := [d] }
  | _ => none }
def cadencePulldownRow : OpenClaim := { program := "ytcofjbbflcnaaaa", sum := "059afd62e4e2988d23f5dec998252f4efcb580de99a92a9275d8acb6e3085552", func := "cutroom/cutroomlaw20.CadencePulldown", spec := "cadencePulldown", named := ["math/bits.divideError", "math/bits.overflowError"], apart := false }
def CadencePulldownSaid : Prop := cadencePulldownRow.holds Try.pinned (OpenSpec.ofChange cadencePulldownSpec)

/-- ITS FALSE NEIGHBOUR: 'it returns false'. Refute it at one input. -/
def cadencePulldownWrong : ChangeSpec := { name := "cadencePulldown", fn := fun _ => fun
  | [d] => { results := [.lit (.bool false)], args := [d] }
  | _ => none }
def CadencePulldownWrongFalsely : Prop := cadencePulldownRow.holds Try.pinned (OpenSpec.ofChange cadencePulldownWrong)

/-- 'cutroomlaw20.CadenceFieldOrder': WHATEVER THE INPUT: true; the input reads as it did. -/
def cadenceFieldOrderSpec : ChangeSpec := { name := "cadenceFieldOrder", fn := fun _ => fun
  | [d1, d2, d3] => { results := [.lit (.bool true)], args := [d1, d2, d3] }
  | _ => none }
def cadenceFieldOrderRow : OpenClaim := { program := "ytcofjbbflcnaaaa", sum := "059afd62e4e2988d23f5dec998252f4efcb580de99a92a9275d8acb6e3085552", func := "cutroom/cutroomlaw20.CadenceFieldOrder", spec := "cadenceFieldOrder", named := ["math/bits.divideError", "math/bits.overflowError"], apart := false }
def CadenceFieldOrderSaid : Prop := cadenceFieldOrderRow.holds Try.pinned (OpenSpec.ofChange cadenceFieldOrderSpec)

/-- ITS FALSE NEIGHBOUR: 'it returns false'. Refute it at one input. -/
def cadenceFieldOrderWrong : ChangeSpec := { name := "cadenceFieldOrder", fn := fun _ => fun
  | [d1, d2, d3] => { results := [.lit (.bool false)], args := [d1, d2, d3] }
  | _ => none }
def CadenceFieldOrderWrongFalsely : Prop := cadenceFieldOrderRow.holds Try.pinned (OpenSpec.ofChange cadenceFieldOrderWrong)

/-- 'cutroomlaw20.CadenceWeaves': WHATEVER THE INPUT: true; the input reads as it did. -/
def cadenceWeavesSpec : ChangeSpec := { name := "cadenceWeaves", fn := fun _ => fun
  | [d1, d2, d3] => { results := [.lit (.bool true)], args := [d1, d2, d3] }
  | _ => none }
def cadenceWeavesRow : OpenClaim := { program := "ytcofjbbflcnaaaa", sum := "059afd62e4e2988d23f5dec998252f4efcb580de99a92a9275d8acb6e3085552", func := "cutroom/cutroomlaw20.CadenceWeaves", spec := "cadenceWeaves", named := ["math/bits.divideError", "math/bits.overflowError"], apart := false }
def CadenceWeavesSaid : Prop := cadenceWeavesRow.holds Try.pinned (OpenSpec.ofChange cadenceWeavesSpec)

/-- ITS FALSE NEIGHBOUR: 'it returns false'. Refute it at one input. -/
def cadenceWeavesWrong : ChangeSpec := { name := "cadenceWeaves", fn := fun _ => fun
  | [d1, d2, d3] => { results := [.lit (.bool false)], args := [d1, d2, d3] }
  | _ => none }
def CadenceWeavesWrongFalsely : Prop := cadenceWeavesRow.holds Try.pinned (OpenSpec.ofChange cadenceWeavesWrong)

/-- 'cutroomlaw20.CadenceRepeats': WHATEVER THE INPUT: true; the input reads as it did. -/
def cadenceRepeatsSpec : ChangeSpec := { name := "cadenceRepeats", fn := fun _ => fun
  | [d1, d2, d3] => { results := [.lit (.bool true)], args := [d1, d2, d3] }
  | _ => none }
def cadenceRepeatsRow : OpenClaim := { program := "ytcofjbbflcnaaaa", sum := "059afd62e4e2988d23f5dec998252f4efcb580de99a92a9275d8acb6e3085552", func := "cutroom/cutroomlaw20.CadenceRepeats", spec := "cadenceRepeats", named := ["math/bits.divideError", "math/bits.overflowError"], apart := false }
def CadenceRepeatsSaid : Prop := cadenceRepeatsRow.holds Try.pinned (OpenSpec.ofChange cadenceRepeatsSpec)

/-- ITS FALSE NEIGHBOUR: 'it returns false'. Refute it at one input. -/
def cadenceRepeatsWrong : ChangeSpec := { name := "cadenceRepeats", fn := fun _ => fun
  | [d1, d2, d3] => { results := [.lit (.bool false)], args := [d1, d2, d3] }
  | _ => none }
def CadenceRepeatsWrongFalsely : Prop := cadenceRepeatsRow.holds Try.pinned (OpenSpec.ofChange cadenceRepeatsWrong)

/-- 'cutroomlaw20.CadencePulls': WHATEVER THE INPUT: true; the input reads as it did. -/
def cadencePullsSpec : ChangeSpec := { name := "cadencePulls", fn := fun _ => fun
  | [d1, d2, d3] => { results := [.lit (.bool true)], args := [d1, d2, d3] }
  | _ => none }
def cadencePullsRow : OpenClaim := { program := "ytcofjbbflcnaaaa", sum := "059afd62e4e2988d23f5dec998252f4efcb580de99a92a9275d8acb6e3085552", func := "cutroom/cutroomlaw20.CadencePulls", spec := "cadencePulls", named := ["math/bits.divideError", "math/bits.overflowError"], apart := false }
def CadencePullsSaid : Prop := cadencePullsRow.holds Try.pinned (OpenSpec.ofChange cadencePullsSpec)

/-- ITS FALSE NEIGHBOUR: 'it returns false'. Refute it at one input. -/
def cadencePullsWrong : ChangeSpec := { name := "cadencePulls", fn := fun _ => fun
  | [d1, d2, d3] => { results := [.lit (.bool false)], args := [d1, d2, d3] }
  | _ => none }
def CadencePullsWrongFalsely : Prop := cadencePullsRow.holds Try.pinned (OpenSpec.ofChange cadencePullsWrong)

/-- 'cutroomlaw20.CadenceRestores': WHATEVER THE INPUT: true; the input reads as it did. -/
def cadenceRestoresSpec : ChangeSpec := { name := "cadenceRestores", fn := fun _ => fun
  | [d1, d2, d3] => { results := [.lit (.bool true)], args := [d1, d2, d3] }
  | _ => none }
def cadenceRestoresRow : OpenClaim := { program := "ytcofjbbflcnaaaa", sum := "059afd62e4e2988d23f5dec998252f4efcb580de99a92a9275d8acb6e3085552", func := "cutroom/cutroomlaw20.CadenceRestores", spec := "cadenceRestores", named := ["math/bits.divideError", "math/bits.overflowError"], apart := false }
def CadenceRestoresSaid : Prop := cadenceRestoresRow.holds Try.pinned (OpenSpec.ofChange cadenceRestoresSpec)

/-- ITS FALSE NEIGHBOUR: 'it returns false'. Refute it at one input. -/
def cadenceRestoresWrong : ChangeSpec := { name := "cadenceRestores", fn := fun _ => fun
  | [d1, d2, d3] => { results := [.lit (.bool false)], args := [d1, d2, d3] }
  | _ => none }
def CadenceRestoresWrongFalsely : Prop := cadenceRestoresRow.holds Try.pinned (OpenSpec.ofChange cadenceRestoresWrong)

/-- 'cutroomlaw20.CadenceThird': WHATEVER THE INPUT: true; the input reads as it did. -/
def cadenceThirdSpec : ChangeSpec := { name := "cadenceThird", fn := fun _ => fun
  | [d1, d2, d3] => { results := [.lit (.bool true)], args := [d1, d2, d3] }
  | _ => none }
def cadenceThirdRow : OpenClaim := { program := "ytcofjbbflcnaaaa", sum := "059afd62e4e2988d23f5dec998252f4efcb580de99a92a9275d8acb6e3085552", func := "cutroom/cutroomlaw20.CadenceThird", spec := "cadenceThird", named := ["math/bits.divideError", "math/bits.overflowError"], apart := false }
def CadenceThirdSaid : Prop := cadenceThirdRow.holds Try.pinned (OpenSpec.ofChange cadenceThirdSpec)

/-- ITS FALSE NEIGHBOUR: 'it returns false'. Refute it at one input. -/
def cadenceThirdWrong : ChangeSpec := { name := "cadenceThird", fn := fun _ => fun
  | [d1, d2, d3] => { results := [.lit (.bool false)], args := [d1, d2, d3] }
  | _ => none }
def CadenceThirdWrongFalsely : Prop := cadenceThirdRow.holds Try.pinned (OpenSpec.ofChange cadenceThirdWrong)

/-- 'cutroomlaw20.CadenceInverse': WHATEVER THE INPUT: true; the input reads as it did. -/
def cadenceInverseSpec : ChangeSpec := { name := "cadenceInverse", fn := fun _ => fun
  | [d1, d2, d3] => { results := [.lit (.bool true)], args := [d1, d2, d3] }
  | _ => none }
def cadenceInverseRow : OpenClaim := { program := "ytcofjbbflcnaaaa", sum := "059afd62e4e2988d23f5dec998252f4efcb580de99a92a9275d8acb6e3085552", func := "cutroom/cutroomlaw20.CadenceInverse", spec := "cadenceInverse", named := ["math/bits.divideError", "math/bits.overflowError"], apart := false }
def CadenceInverseSaid : Prop := cadenceInverseRow.holds Try.pinned (OpenSpec.ofChange cadenceInverseSpec)

/-- ITS FALSE NEIGHBOUR: 'it returns false'. Refute it at one input. -/
def cadenceInverseWrong : ChangeSpec := { name := "cadenceInverse", fn := fun _ => fun
  | [d1, d2, d3] => { results := [.lit (.bool false)], args := [d1, d2, d3] }
  | _ => none }
def CadenceInverseWrongFalsely : Prop := cadenceInverseRow.holds Try.pinned (OpenSpec.ofChange cadenceInverseWrong)

/- THE SECOND FORM. 'bulk': how many values and letters a reading holds, each counted each time it is reached (what is shared counts as often as it is met; a slice's spare places count too). A statement '..UptoSaid' is the law's where the arguments, and the package variables that the reading takes, are together of bulk at most 1048576: NARROWER than '..Said'. Prove '..Said' where nothing that the law and all that it calls make is longer than what came in: it says more and counts as full. Else prove '..UptoSaid'. A law counts once. -/
mutual
def uptoBulk {H : Type} : DataW H → Nat
  | .lit (.string bytes) => bytes.length + 1
  | .lit _ => 1
  | .nil => 1
  | .ptr d => uptoBulk d + 1
  | .slice elems spare => uptoBulkAll elems + uptoBulkAll spare + 1
  | .agg parts => uptoBulkAll parts + 1
  | .iface _ d => uptoBulk d + 1
  | .map entries => uptoBulkEntries entries + 1
  | .held _ => 1
def uptoBulkAll {H : Type} : List (DataW H) → Nat
  | [] => 0
  | d :: r => uptoBulk d + uptoBulkAll r
def uptoBulkEntries {H : Type} : List (Lit × DataW H) → Nat
  | [] => 0
  | x :: r => uptoBulkEntry x + uptoBulkEntries r
def uptoBulkEntry {H : Type} : Lit × DataW H → Nat
  | (.string bytes, d) => bytes.length + uptoBulk d + 1
  | (_, d) => uptoBulk d + 1
 end
def uptoSmall : (H : Type) → List (DataW H) → Bool := fun _ ds => decide (uptoBulkAll ds ≤ 1048576)
def OpenSpec.upto (s : _root_.Go.ChangeSpec) : _root_.Go.OpenSpec := { _root_.Go.OpenSpec.ofChange s with cond := some uptoSmall }

/-- 'cutroomlaw20.CadenceRates', WHERE WHAT IT READS IS OF BULK AT MOST 1048576: true; the input reads as it did. -/
def cadenceRatesUptoRow : OpenClaim := { program := "ytcofjbbflcnaaaa", sum := "059afd62e4e2988d23f5dec998252f4efcb580de99a92a9275d8acb6e3085552", func := "cutroom/cutroomlaw20.CadenceRates", spec := "cadenceRates", named := ["math/bits.divideError", "math/bits.overflowError"], apart := false, narrowed := true }
def CadenceRatesUptoSaid : Prop := cadenceRatesUptoRow.holds Try.pinned (OpenSpec.upto cadenceRatesSpec)

/-- 'cutroomlaw20.CadenceFrames', WHERE WHAT IT READS IS OF BULK AT MOST 1048576: true; the input reads as it did. -/
def cadenceFramesUptoRow : OpenClaim := { program := "ytcofjbbflcnaaaa", sum := "059afd62e4e2988d23f5dec998252f4efcb580de99a92a9275d8acb6e3085552", func := "cutroom/cutroomlaw20.CadenceFrames", spec := "cadenceFrames", named := ["math/bits.divideError", "math/bits.overflowError"], apart := false, narrowed := true }
def CadenceFramesUptoSaid : Prop := cadenceFramesUptoRow.holds Try.pinned (OpenSpec.upto cadenceFramesSpec)

/-- 'cutroomlaw20.CadenceShown', WHERE WHAT IT READS IS OF BULK AT MOST 1048576: true; the input reads as it did. -/
def cadenceShownUptoRow : OpenClaim := { program := "ytcofjbbflcnaaaa", sum := "059afd62e4e2988d23f5dec998252f4efcb580de99a92a9275d8acb6e3085552", func := "cutroom/cutroomlaw20.CadenceShown", spec := "cadenceShown", named := ["math/bits.divideError", "math/bits.overflowError"], apart := false, narrowed := true }
def CadenceShownUptoSaid : Prop := cadenceShownUptoRow.holds Try.pinned (OpenSpec.upto cadenceShownSpec)

/-- 'cutroomlaw20.CadenceSamples', WHERE WHAT IT READS IS OF BULK AT MOST 1048576: true; the input reads as it did. -/
def cadenceSamplesUptoRow : OpenClaim := { program := "ytcofjbbflcnaaaa", sum := "059afd62e4e2988d23f5dec998252f4efcb580de99a92a9275d8acb6e3085552", func := "cutroom/cutroomlaw20.CadenceSamples", spec := "cadenceSamples", named := ["math/bits.divideError", "math/bits.overflowError"], apart := false, narrowed := true }
def CadenceSamplesUptoSaid : Prop := cadenceSamplesUptoRow.holds Try.pinned (OpenSpec.upto cadenceSamplesSpec)

/-- 'cutroomlaw20.CadenceHalf', WHERE WHAT IT READS IS OF BULK AT MOST 1048576: true; the input reads as it did. -/
def cadenceHalfUptoRow : OpenClaim := { program := "ytcofjbbflcnaaaa", sum := "059afd62e4e2988d23f5dec998252f4efcb580de99a92a9275d8acb6e3085552", func := "cutroom/cutroomlaw20.CadenceHalf", spec := "cadenceHalf", named := ["math/bits.divideError", "math/bits.overflowError"], apart := false, narrowed := true }
def CadenceHalfUptoSaid : Prop := cadenceHalfUptoRow.holds Try.pinned (OpenSpec.upto cadenceHalfSpec)

/-- 'cutroomlaw20.CadenceOwners', WHERE WHAT IT READS IS OF BULK AT MOST 1048576: true; the input reads as it did. -/
def cadenceOwnersUptoRow : OpenClaim := { program := "ytcofjbbflcnaaaa", sum := "059afd62e4e2988d23f5dec998252f4efcb580de99a92a9275d8acb6e3085552", func := "cutroom/cutroomlaw20.CadenceOwners", spec := "cadenceOwners", named := ["math/bits.divideError", "math/bits.overflowError"], apart := false, narrowed := true }
def CadenceOwnersUptoSaid : Prop := cadenceOwnersUptoRow.holds Try.pinned (OpenSpec.upto cadenceOwnersSpec)

/-- 'cutroomlaw20.CadenceOwns', WHERE WHAT IT READS IS OF BULK AT MOST 1048576: true; the input reads as it did. -/
def cadenceOwnsUptoRow : OpenClaim := { program := "ytcofjbbflcnaaaa", sum := "059afd62e4e2988d23f5dec998252f4efcb580de99a92a9275d8acb6e3085552", func := "cutroom/cutroomlaw20.CadenceOwns", spec := "cadenceOwns", named := ["math/bits.divideError", "math/bits.overflowError"], apart := false, narrowed := true }
def CadenceOwnsUptoSaid : Prop := cadenceOwnsUptoRow.holds Try.pinned (OpenSpec.upto cadenceOwnsSpec)

/-- 'cutroomlaw20.CadenceFields', WHERE WHAT IT READS IS OF BULK AT MOST 1048576: true; the input reads as it did. -/
def cadenceFieldsUptoRow : OpenClaim := { program := "ytcofjbbflcnaaaa", sum := "059afd62e4e2988d23f5dec998252f4efcb580de99a92a9275d8acb6e3085552", func := "cutroom/cutroomlaw20.CadenceFields", spec := "cadenceFields", named := ["math/bits.divideError", "math/bits.overflowError"], apart := false, narrowed := true }
def CadenceFieldsUptoSaid : Prop := cadenceFieldsUptoRow.holds Try.pinned (OpenSpec.upto cadenceFieldsSpec)

/-- 'cutroomlaw20.CadencePulldown', WHERE WHAT IT READS IS OF BULK AT MOST 1048576: true; the input reads as it did. -/
def cadencePulldownUptoRow : OpenClaim := { program := "ytcofjbbflcnaaaa", sum := "059afd62e4e2988d23f5dec998252f4efcb580de99a92a9275d8acb6e3085552", func := "cutroom/cutroomlaw20.CadencePulldown", spec := "cadencePulldown", named := ["math/bits.divideError", "math/bits.overflowError"], apart := false, narrowed := true }
def CadencePulldownUptoSaid : Prop := cadencePulldownUptoRow.holds Try.pinned (OpenSpec.upto cadencePulldownSpec)

/-- 'cutroomlaw20.CadenceFieldOrder', WHERE WHAT IT READS IS OF BULK AT MOST 1048576: true; the input reads as it did. -/
def cadenceFieldOrderUptoRow : OpenClaim := { program := "ytcofjbbflcnaaaa", sum := "059afd62e4e2988d23f5dec998252f4efcb580de99a92a9275d8acb6e3085552", func := "cutroom/cutroomlaw20.CadenceFieldOrder", spec := "cadenceFieldOrder", named := ["math/bits.divideError", "math/bits.overflowError"], apart := false, narrowed := true }
def CadenceFieldOrderUptoSaid : Prop := cadenceFieldOrderUptoRow.holds Try.pinned (OpenSpec.upto cadenceFieldOrderSpec)

/-- 'cutroomlaw20.CadenceWeaves', WHERE WHAT IT READS IS OF BULK AT MOST 1048576: true; the input reads as it did. -/
def cadenceWeavesUptoRow : OpenClaim := { program := "ytcofjbbflcnaaaa", sum := "059afd62e4e2988d23f5dec998252f4efcb580de99a92a9275d8acb6e3085552", func := "cutroom/cutroomlaw20.CadenceWeaves", spec := "cadenceWeaves", named := ["math/bits.divideError", "math/bits.overflowError"], apart := false, narrowed := true }
def CadenceWeavesUptoSaid : Prop := cadenceWeavesUptoRow.holds Try.pinned (OpenSpec.upto cadenceWeavesSpec)

/-- 'cutroomlaw20.CadenceRepeats', WHERE WHAT IT READS IS OF BULK AT MOST 1048576: true; the input reads as it did. -/
def cadenceRepeatsUptoRow : OpenClaim := { program := "ytcofjbbflcnaaaa", sum := "059afd62e4e2988d23f5dec998252f4efcb580de99a92a9275d8acb6e3085552", func := "cutroom/cutroomlaw20.CadenceRepeats", spec := "cadenceRepeats", named := ["math/bits.divideError", "math/bits.overflowError"], apart := false, narrowed := true }
def CadenceRepeatsUptoSaid : Prop := cadenceRepeatsUptoRow.holds Try.pinned (OpenSpec.upto cadenceRepeatsSpec)

/-- 'cutroomlaw20.CadencePulls', WHERE WHAT IT READS IS OF BULK AT MOST 1048576: true; the input reads as it did. -/
def cadencePullsUptoRow : OpenClaim := { program := "ytcofjbbflcnaaaa", sum := "059afd62e4e2988d23f5dec998252f4efcb580de99a92a9275d8acb6e3085552", func := "cutroom/cutroomlaw20.CadencePulls", spec := "cadencePulls", named := ["math/bits.divideError", "math/bits.overflowError"], apart := false, narrowed := true }
def CadencePullsUptoSaid : Prop := cadencePullsUptoRow.holds Try.pinned (OpenSpec.upto cadencePullsSpec)

/-- 'cutroomlaw20.CadenceRestores', WHERE WHAT IT READS IS OF BULK AT MOST 1048576: true; the input reads as it did. -/
def cadenceRestoresUptoRow : OpenClaim := { program := "ytcofjbbflcnaaaa", sum := "059afd62e4e2988d23f5dec998252f4efcb580de99a92a9275d8acb6e3085552", func := "cutroom/cutroomlaw20.CadenceRestores", spec := "cadenceRestores", named := ["math/bits.divideError", "math/bits.overflowError"], apart := false, narrowed := true }
def CadenceRestoresUptoSaid : Prop := cadenceRestoresUptoRow.holds Try.pinned (OpenSpec.upto cadenceRestoresSpec)

/-- 'cutroomlaw20.CadenceThird', WHERE WHAT IT READS IS OF BULK AT MOST 1048576: true; the input reads as it did. -/
def cadenceThirdUptoRow : OpenClaim := { program := "ytcofjbbflcnaaaa", sum := "059afd62e4e2988d23f5dec998252f4efcb580de99a92a9275d8acb6e3085552", func := "cutroom/cutroomlaw20.CadenceThird", spec := "cadenceThird", named := ["math/bits.divideError", "math/bits.overflowError"], apart := false, narrowed := true }
def CadenceThirdUptoSaid : Prop := cadenceThirdUptoRow.holds Try.pinned (OpenSpec.upto cadenceThirdSpec)

/-- 'cutroomlaw20.CadenceInverse', WHERE WHAT IT READS IS OF BULK AT MOST 1048576: true; the input reads as it did. -/
def cadenceInverseUptoRow : OpenClaim := { program := "ytcofjbbflcnaaaa", sum := "059afd62e4e2988d23f5dec998252f4efcb580de99a92a9275d8acb6e3085552", func := "cutroom/cutroomlaw20.CadenceInverse", spec := "cadenceInverse", named := ["math/bits.divideError", "math/bits.overflowError"], apart := false, narrowed := true }
def CadenceInverseUptoSaid : Prop := cadenceInverseUptoRow.holds Try.pinned (OpenSpec.upto cadenceInverseSpec)

end Rows
end Go.Proofs.Ytcofjbbflcnaaaa
