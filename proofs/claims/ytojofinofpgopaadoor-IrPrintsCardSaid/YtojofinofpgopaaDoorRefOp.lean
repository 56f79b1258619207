/- Contracts of the reference: signed, bit, Op on words. -/
import Derived.Test.YtojofinofpgopaaDoorWord
import Derived.Outline
namespace Go.Proofs.YtojofinofpgopaaDoor
open Go.RowKit
theorem wrap32_u {a : Int} (h0 : 0 ≤ a) (h1 : a < 4294967296) : wrap32 a = if 2147483648 ≤ a then a - 4294967296 else a := by
  unfold wrap32; split <;> omega
end Go.Proofs.YtojofinofpgopaaDoor
