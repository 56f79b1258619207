/- Instructions of K read from bytes (kcode.Decode). -/
import Derived.Test.YtkaepknpplhgkaaGreatDoorMag
import Derived.Test.YtkaepknpplhgkaaGreatDoorMaa
import Derived.Test.YtkaepknpplhgkaaGreatDoorMaY
import Derived.Test.YtkaepknpplhgkaaGreatDoorMac
import Derived.Test.YtkaepknpplhgkaaGreatDoorMaU
namespace Go.Proofs.YtkaepknpplhgkaaGreatDoor
open Go.RowKit
end Go.Proofs.YtkaepknpplhgkaaGreatDoor
/- The reference's numerals. -/
namespace Go.Proofs.YtkaepknpplhgkaaGreatDoor
open Go.RowKit
end Go.Proofs.YtkaepknpplhgkaaGreatDoor
/- How long the disassembler's text is. -/
namespace Go.Proofs.YtkaepknpplhgkaaGreatDoor
end Go.Proofs.YtkaepknpplhgkaaGreatDoor
/- Numerals of the disassembler: strconv.FormatUint, Itoa; asm.decimal, signed, offset, reg. -/
namespace Go.Proofs.YtkaepknpplhgkaaGreatDoor
open Go.RowKit Go.Sort
end Go.Proofs.YtkaepknpplhgkaaGreatDoor
/- Lines of instructions of K (asm.LineK). -/
namespace Go.Proofs.YtkaepknpplhgkaaGreatDoor
open Go.RowKit
end Go.Proofs.YtkaepknpplhgkaaGreatDoor
/- A region in all its orders: one lemma for each set of operations that may have been done. -/
namespace Go.Proofs.YtkaepknpplhgkaaGreatDoor
open Go.RowKit
section
variable {P:Program}{ops:Array Oper}{Q:Exit→Act→World→Prop}{n:Fr}
end
end Go.Proofs.YtkaepknpplhgkaaGreatDoor
/- Instructions of K: encoded, and decoded again. -/
namespace Go.Proofs.YtkaepknpplhgkaaGreatDoor
end Go.Proofs.YtkaepknpplhgkaaGreatDoor
