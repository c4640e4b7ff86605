/- Cut from what the kit's print printed. -/
import Derived.Test.YtnmlckaeheiodaaDoorWInv
import Derived.Test.YtnmlckaeheiodaaDoorWFootNe
namespace Go.Proofs.YtnmlckaeheiodaaDoorW.PrintWords
open Go.RowKit
end Go.Proofs.YtnmlckaeheiodaaDoorW.PrintWords
namespace Go.Proofs.YtnmlckaeheiodaaDoorW.PrintLast
section
variable {ops : Array Oper} {a : Act} {o og : Oper} {g : Nat} {t : Tmp} {u : Bool}
end
end Go.Proofs.YtnmlckaeheiodaaDoorW.PrintLast
