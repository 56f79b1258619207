/- The law of errors. -/
import Derived.Test.YtkaepknpplhgkaaGreatDoorMag
namespace Go.Proofs.YtkaepknpplhgkaaGreatDoor
open Go.RowKit
theorem tmodN (n k : Nat) (_hk : 0 < k) : ((n : Int)).tmod (k : Int) = ((n % k : Nat) : Int) := by
  rw [Int.tmod_eq_emod_of_nonneg (by omega)]; rfl
end Go.Proofs.YtkaepknpplhgkaaGreatDoor
