-- Out of the words of the print (print.sh): what this claim needs of them.
import Derived.Test.YtbijfhmpafjceaaWInv
import Derived.Test.YtbijfhmpafjceaaWFootNe
namespace Go.Proofs.YtbijfhmpafjceaaW.PrintWords
open Go.RowKit
end Go.Proofs.YtbijfhmpafjceaaW.PrintWords
namespace Go.Proofs.YtbijfhmpafjceaaW.PrintLast
section
variable {ops : Array Oper} {a : Act} {o og : Oper} {g : Nat} {t : Tmp} {u : Bool}
end
end Go.Proofs.YtbijfhmpafjceaaW.PrintLast
