/- Calls of Made. -/
import Derived.Test.YtojofinofpgopaaDoorMgT
import Derived.Test.YtojofinofpgopaaDoorMade
namespace Go.Proofs.YtojofinofpgopaaDoor
open Go.RowKit
theorem made_call {Bad : Nat → Prop} {A : Option Addr} {cap : Nat} {s : List Int} {w : World} (h : RdIn Bad A (i64s s) w) (k : Nat) (hk : k ≤ s.length) (hl : s.length ≤ maxLen) :
    Calls Tryd.prog 6 #[.slice A k cap] w fun e w' => ∃ i : BR, (i.Ok ∧ validL i.b = true) ∧ e = .returned i.v ∧ Hp (fun _ => False) w [] i.rows (fun _ => True) w' := by
  have h1 : (s.take k).length = k := by rw [List.length_take]; omega
  have := made_any A cap (s.take k) w (by
    have := (h.take k).weak (Bad' := fun _ => False) (fun _ hk => hk.elim)
    rwa [i64s, ← List.map_take] at this) (by omega)
  rwa [h1] at this
end Go.Proofs.YtojofinofpgopaaDoor
