-- Out of the words of the kit's print, what this seat's texts use (struck by wip/tools/prune.py): no text of print.sh.
import Derived.Test.YtcofjbbflcnaaaaWWords
import Derived.Laws.StructEq
/-! ### 53. '==' of structs as_ one Bool -/
namespace Go.Proofs.YtcofjbbflcnaaaaW.PrintWords
open Go.RowKit
section
variable {P : Program} {d : Nat} {xs ys : Array Value} {f : Field} {fs : List Field} {a b : Value} {r s : Bool} {w : World}
end
end Go.Proofs.YtcofjbbflcnaaaaW.PrintWords
