-- Out of the words of the print (print.sh): what this claim needs of them.
import Derived.Test.YtbijfhmpafjceaaWTab
/-! ### 56. Four, five, six operations that may come up next, in any order -/
namespace Go.Proofs.YtbijfhmpafjceaaW.PrintLast
section
variable {P : Program} {ops : Array Oper} {Q : Exit → Act → World → Prop} {md : Region.Mode} {S : World → Prop} {ds : List Nat} {T : Bool × List (List Nat × List Nat)}
end
end Go.Proofs.YtbijfhmpafjceaaW.PrintLast
