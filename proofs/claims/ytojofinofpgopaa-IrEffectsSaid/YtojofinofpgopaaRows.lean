/-
  No cell of these rows narrows 'for every input' (looked for: loops, veiled, ifaces, maps, wideKeys, modest, calm, conditions, laid).
  DERIVED. THE GIVEN ROWS OF THIS SEAT. 12 by the template 'for every input the law returns true; each argument reads behind the call as it read before'; 0 by the template 'total and deterministic' (their statements: YtojofinofpgopaaTotals.lean).
  GIVEN WITH THE SEED: the statements are not yours to turn. If you find one false, say at which input.
  Laid BY PROGRAM, IN A SANDBOX (cutbox-rows.mjs): the forced cells as the released guide's own fill.sh prints them over the translation f6e427cd32d57358… (all of the seat's roots in one cut). By AI agents, Wed Nov 11 2026. No macro, syntax, notation, axiom, sorry.
-/
import Derived.Test.YtojofinofpgopaaChecked
import GoSem.Claim
import GoSem.ClaimJoined
import GoSem.ClaimMapViews
import Derived.JoinedTies
import Derived.KernelRfl
namespace Go.Proofs.Ytojofinofpgopaa
/- THE CELL 'sum', in the pinned program and in every row, IS THE sha256 OF THE DUMP (.gsa) THAT YtojofinofpgopaaProg.lean LOADS. Nothing in Lean hashes anything: it is a label: what it is worth is what the hold of that sum in a sandbox is worth. -/
noncomputable def Try.pinned : Pinned := { name := "ytojofinofpgopaa", sum := "f6e427cd32d573582ad844aca0e6f576e4454458904451ba1941e82be2b1e4d3", checked := Try.checked }
namespace Rows
def none {H : Type} : Left H := { results := [], args := [] }

/-- 'babellaw12.IrValid': WHATEVER THE INPUT: true; the input reads as it did. -/
def irValidSpec : ChangeSpec := { name := "irValid", fn := fun _ => fun
  | [d] => { results := [.lit (.bool true)], args := [d] }
  | _ => none }
def irValidRow : OpenClaim := { program := "ytojofinofpgopaa", sum := "f6e427cd32d573582ad844aca0e6f576e4454458904451ba1941e82be2b1e4d3", func := "babel/babellaw12.IrValid", spec := "irValid", unfollowed := true, recurses := true, apart := false }
def IrValidSaid : Prop := irValidRow.holds Try.pinned (OpenSpec.ofChange irValidSpec)

/-- ITS FALSE NEIGHBOUR: 'it returns false'. Refute it at one input. -/
def irValidWrong : ChangeSpec := { name := "irValid", fn := fun _ => fun
  | [d] => { results := [.lit (.bool false)], args := [d] }
  | _ => none }
def IrValidWrongFalsely : Prop := irValidRow.holds Try.pinned (OpenSpec.ofChange irValidWrong)

/-- 'babellaw12.IrSpoilt': WHATEVER THE INPUT: true; the input reads as it did. -/
def irSpoiltSpec : ChangeSpec := { name := "irSpoilt", fn := fun _ => fun
  | [d1, d2, d3] => { results := [.lit (.bool true)], args := [d1, d2, d3] }
  | _ => none }
def irSpoiltRow : OpenClaim := { program := "ytojofinofpgopaa", sum := "f6e427cd32d573582ad844aca0e6f576e4454458904451ba1941e82be2b1e4d3", func := "babel/babellaw12.IrSpoilt", spec := "irSpoilt", unfollowed := true, recurses := true, apart := false }
def IrSpoiltSaid : Prop := irSpoiltRow.holds Try.pinned (OpenSpec.ofChange irSpoiltSpec)

/-- ITS FALSE NEIGHBOUR: 'it returns false'. Refute it at one input. -/
def irSpoiltWrong : ChangeSpec := { name := "irSpoilt", fn := fun _ => fun
  | [d1, d2, d3] => { results := [.lit (.bool false)], args := [d1, d2, d3] }
  | _ => none }
def IrSpoiltWrongFalsely : Prop := irSpoiltRow.holds Try.pinned (OpenSpec.ofChange irSpoiltWrong)

/-- 'babellaw12.IrMany': WHATEVER THE INPUT: true; the input reads as it did. -/
def irManySpec : ChangeSpec := { name := "irMany", fn := fun _ => fun
  | [d1, d2] => { results := [.lit (.bool true)], args := [d1, d2] }
  | _ => none }
def irManyRow : OpenClaim := { program := "ytojofinofpgopaa", sum := "f6e427cd32d573582ad844aca0e6f576e4454458904451ba1941e82be2b1e4d3", func := "babel/babellaw12.IrMany", spec := "irMany", unfollowed := true, recurses := true, apart := false }
def IrManySaid : Prop := irManyRow.holds Try.pinned (OpenSpec.ofChange irManySpec)

/-- ITS FALSE NEIGHBOUR: 'it returns false'. Refute it at one input. -/
def irManyWrong : ChangeSpec := { name := "irMany", fn := fun _ => fun
  | [d1, d2] => { results := [.lit (.bool false)], args := [d1, d2] }
  | _ => none }
def IrManyWrongFalsely : Prop := irManyRow.holds Try.pinned (OpenSpec.ofChange irManyWrong)

/-- 'babellaw12.IrArithmetic': WHATEVER THE INPUT: true; the input reads as it did. -/
def irArithmeticSpec : ChangeSpec := { name := "irArithmetic", fn := fun _ => fun
  | [d1, d2] => { results := [.lit (.bool true)], args := [d1, d2] }
  | _ => none }
def irArithmeticRow : OpenClaim := { program := "ytojofinofpgopaa", sum := "f6e427cd32d573582ad844aca0e6f576e4454458904451ba1941e82be2b1e4d3", func := "babel/babellaw12.IrArithmetic", spec := "irArithmetic", unfollowed := true, recurses := true, apart := false }
def IrArithmeticSaid : Prop := irArithmeticRow.holds Try.pinned (OpenSpec.ofChange irArithmeticSpec)

/-- ITS FALSE NEIGHBOUR: 'it returns false'. Refute it at one input. -/
def irArithmeticWrong : ChangeSpec := { name := "irArithmetic", fn := fun _ => fun
  | [d1, d2] => { results := [.lit (.bool false)], args := [d1, d2] }
  | _ => none }
def IrArithmeticWrongFalsely : Prop := irArithmeticRow.holds Try.pinned (OpenSpec.ofChange irArithmeticWrong)

/-- 'babellaw12.IrFields': WHATEVER THE INPUT: true; the input reads as it did. -/
def irFieldsSpec : ChangeSpec := { name := "irFields", fn := fun _ => fun
  | [d] => { results := [.lit (.bool true)], args := [d] }
  | _ => none }
def irFieldsRow : OpenClaim := { program := "ytojofinofpgopaa", sum := "f6e427cd32d573582ad844aca0e6f576e4454458904451ba1941e82be2b1e4d3", func := "babel/babellaw12.IrFields", spec := "irFields", unfollowed := true, recurses := true, apart := false }
def IrFieldsSaid : Prop := irFieldsRow.holds Try.pinned (OpenSpec.ofChange irFieldsSpec)

/-- ITS FALSE NEIGHBOUR: 'it returns false'. Refute it at one input. -/
def irFieldsWrong : ChangeSpec := { name := "irFields", fn := fun _ => fun
  | [d] => { results := [.lit (.bool false)], args := [d] }
  | _ => none }
def IrFieldsWrongFalsely : Prop := irFieldsRow.holds Try.pinned (OpenSpec.ofChange irFieldsWrong)

/-- 'babellaw12.IrEvals': WHATEVER THE INPUT: true; the input reads as it did. -/
def irEvalsSpec : ChangeSpec := { name := "irEvals", fn := fun _ => fun
  | [d1, d2] => { results := [.lit (.bool true)], args := [d1, d2] }
  | _ => none }
def irEvalsRow : OpenClaim := { program := "ytojofinofpgopaa", sum := "f6e427cd32d573582ad844aca0e6f576e4454458904451ba1941e82be2b1e4d3", func := "babel/babellaw12.IrEvals", spec := "irEvals", unfollowed := true, recurses := true, apart := false }
def IrEvalsSaid : Prop := irEvalsRow.holds Try.pinned (OpenSpec.ofChange irEvalsSpec)

/-- ITS FALSE NEIGHBOUR: 'it returns false'. Refute it at one input. -/
def irEvalsWrong : ChangeSpec := { name := "irEvals", fn := fun _ => fun
  | [d1, d2] => { results := [.lit (.bool false)], args := [d1, d2] }
  | _ => none }
def IrEvalsWrongFalsely : Prop := irEvalsRow.holds Try.pinned (OpenSpec.ofChange irEvalsWrong)

/-- 'babellaw12.IrInvalid': WHATEVER THE INPUT: true; the input reads as it did. -/
def irInvalidSpec : ChangeSpec := { name := "irInvalid", fn := fun _ => fun
  | [d1, d2, d3] => { results := [.lit (.bool true)], args := [d1, d2, d3] }
  | _ => none }
def irInvalidRow : OpenClaim := { program := "ytojofinofpgopaa", sum := "f6e427cd32d573582ad844aca0e6f576e4454458904451ba1941e82be2b1e4d3", func := "babel/babellaw12.IrInvalid", spec := "irInvalid", unfollowed := true, recurses := true, apart := false }
def IrInvalidSaid : Prop := irInvalidRow.holds Try.pinned (OpenSpec.ofChange irInvalidSpec)

/-- ITS FALSE NEIGHBOUR: 'it returns false'. Refute it at one input. -/
def irInvalidWrong : ChangeSpec := { name := "irInvalid", fn := fun _ => fun
  | [d1, d2, d3] => { results := [.lit (.bool false)], args := [d1, d2, d3] }
  | _ => none }
def IrInvalidWrongFalsely : Prop := irInvalidRow.holds Try.pinned (OpenSpec.ofChange irInvalidWrong)

/-- 'babellaw12.IrLeaves': WHATEVER THE INPUT: true; the input reads as it did. -/
def irLeavesSpec : ChangeSpec := { name := "irLeaves", fn := fun _ => fun
  | [d1, d2] => { results := [.lit (.bool true)], args := [d1, d2] }
  | _ => none }
def irLeavesRow : OpenClaim := { program := "ytojofinofpgopaa", sum := "f6e427cd32d573582ad844aca0e6f576e4454458904451ba1941e82be2b1e4d3", func := "babel/babellaw12.IrLeaves", spec := "irLeaves", unfollowed := true, recurses := true, apart := false }
def IrLeavesSaid : Prop := irLeavesRow.holds Try.pinned (OpenSpec.ofChange irLeavesSpec)

/-- ITS FALSE NEIGHBOUR: 'it returns false'. Refute it at one input. -/
def irLeavesWrong : ChangeSpec := { name := "irLeaves", fn := fun _ => fun
  | [d1, d2] => { results := [.lit (.bool false)], args := [d1, d2] }
  | _ => none }
def IrLeavesWrongFalsely : Prop := irLeavesRow.holds Try.pinned (OpenSpec.ofChange irLeavesWrong)

/-- 'babellaw12.IrTemporaries': WHATEVER THE INPUT: true; the input reads as it did. -/
def irTemporariesSpec : ChangeSpec := { name := "irTemporaries", fn := fun _ => fun
  | [d1, d2, d3] => { results := [.lit (.bool true)], args := [d1, d2, d3] }
  | _ => none }
def irTemporariesRow : OpenClaim := { program := "ytojofinofpgopaa", sum := "f6e427cd32d573582ad844aca0e6f576e4454458904451ba1941e82be2b1e4d3", func := "babel/babellaw12.IrTemporaries", spec := "irTemporaries", unfollowed := true, recurses := true, apart := false }
def IrTemporariesSaid : Prop := irTemporariesRow.holds Try.pinned (OpenSpec.ofChange irTemporariesSpec)

/-- ITS FALSE NEIGHBOUR: 'it returns false'. Refute it at one input. -/
def irTemporariesWrong : ChangeSpec := { name := "irTemporaries", fn := fun _ => fun
  | [d1, d2, d3] => { results := [.lit (.bool false)], args := [d1, d2, d3] }
  | _ => none }
def IrTemporariesWrongFalsely : Prop := irTemporariesRow.holds Try.pinned (OpenSpec.ofChange irTemporariesWrong)

/-- 'babellaw12.IrEffects': WHATEVER THE INPUT: true; the input reads as it did. -/
def irEffectsSpec : ChangeSpec := { name := "irEffects", fn := fun _ => fun
  | [d1, d2, d3] => { results := [.lit (.bool true)], args := [d1, d2, d3] }
  | _ => none }
def irEffectsRow : OpenClaim := { program := "ytojofinofpgopaa", sum := "f6e427cd32d573582ad844aca0e6f576e4454458904451ba1941e82be2b1e4d3", func := "babel/babellaw12.IrEffects", spec := "irEffects", unfollowed := true, recurses := true, apart := false }
def IrEffectsSaid : Prop := irEffectsRow.holds Try.pinned (OpenSpec.ofChange irEffectsSpec)

/-- ITS FALSE NEIGHBOUR: 'it returns false'. Refute it at one input. -/
def irEffectsWrong : ChangeSpec := { name := "irEffects", fn := fun _ => fun
  | [d1, d2, d3] => { results := [.lit (.bool false)], args := [d1, d2, d3] }
  | _ => none }
def IrEffectsWrongFalsely : Prop := irEffectsRow.holds Try.pinned (OpenSpec.ofChange irEffectsWrong)

/-- 'babellaw12.IrStates': WHATEVER THE INPUT: true; the input reads as it did. -/
def irStatesSpec : ChangeSpec := { name := "irStates", fn := fun _ => fun
  | [d1, d2, d3] => { results := [.lit (.bool true)], args := [d1, d2, d3] }
  | _ => none }
def irStatesRow : OpenClaim := { program := "ytojofinofpgopaa", sum := "f6e427cd32d573582ad844aca0e6f576e4454458904451ba1941e82be2b1e4d3", func := "babel/babellaw12.IrStates", spec := "irStates", unfollowed := true, recurses := true, apart := false }
def IrStatesSaid : Prop := irStatesRow.holds Try.pinned (OpenSpec.ofChange irStatesSpec)

/-- ITS FALSE NEIGHBOUR: 'it returns false'. Refute it at one input. -/
def irStatesWrong : ChangeSpec := { name := "irStates", fn := fun _ => fun
  | [d1, d2, d3] => { results := [.lit (.bool false)], args := [d1, d2, d3] }
  | _ => none }
def IrStatesWrongFalsely : Prop := irStatesRow.holds Try.pinned (OpenSpec.ofChange irStatesWrong)

/-- 'babellaw12.IrFlags': WHATEVER THE INPUT: true; the input reads as it did. -/
def irFlagsSpec : ChangeSpec := { name := "irFlags", fn := fun _ => fun
  | [d1, d2, d3] => { results := [.lit (.bool true)], args := [d1, d2, d3] }
  | _ => none }
def irFlagsRow : OpenClaim := { program := "ytojofinofpgopaa", sum := "f6e427cd32d573582ad844aca0e6f576e4454458904451ba1941e82be2b1e4d3", func := "babel/babellaw12.IrFlags", spec := "irFlags", unfollowed := true, recurses := true, apart := false }
def IrFlagsSaid : Prop := irFlagsRow.holds Try.pinned (OpenSpec.ofChange irFlagsSpec)

/-- ITS FALSE NEIGHBOUR: 'it returns false'. Refute it at one input. -/
def irFlagsWrong : ChangeSpec := { name := "irFlags", fn := fun _ => fun
  | [d1, d2, d3] => { results := [.lit (.bool false)], args := [d1, d2, d3] }
  | _ => none }
def IrFlagsWrongFalsely : Prop := irFlagsRow.holds Try.pinned (OpenSpec.ofChange irFlagsWrong)

/- THE SECOND FORM. 'bulk': how many values and letters a reading holds, each counted each time it is reached (what is shared counts as often as it is met; a slice's spare places count too). A statement '..UptoSaid' is the law's where the arguments, and the package variables that the reading takes, are together of bulk at most 1048576: NARROWER than '..Said'. Prove '..Said' where nothing that the law and all that it calls make is longer than what came in: it says more and counts as full. Else prove '..UptoSaid'. A law counts once. -/
mutual
def uptoBulk {H : Type} : DataW H → Nat
  | .lit (.string bytes) => bytes.length + 1
  | .lit _ => 1
  | .nil => 1
  | .ptr d => uptoBulk d + 1
  | .slice elems spare => uptoBulkAll elems + uptoBulkAll spare + 1
  | .agg parts => uptoBulkAll parts + 1
  | .iface _ d => uptoBulk d + 1
  | .map entries => uptoBulkEntries entries + 1
  | .held _ => 1
def uptoBulkAll {H : Type} : List (DataW H) → Nat
  | [] => 0
  | d :: r => uptoBulk d + uptoBulkAll r
def uptoBulkEntries {H : Type} : List (Lit × DataW H) → Nat
  | [] => 0
  | x :: r => uptoBulkEntry x + uptoBulkEntries r
def uptoBulkEntry {H : Type} : Lit × DataW H → Nat
  | (.string bytes, d) => bytes.length + uptoBulk d + 1
  | (_, d) => uptoBulk d + 1
 end
def uptoSmall : (H : Type) → List (DataW H) → Bool := fun _ ds => decide (uptoBulkAll ds ≤ 1048576)
def OpenSpec.upto (s : _root_.Go.ChangeSpec) : _root_.Go.OpenSpec := { _root_.Go.OpenSpec.ofChange s with cond := some uptoSmall }

/-- 'babellaw12.IrValid', WHERE WHAT IT READS IS OF BULK AT MOST 1048576: true; the input reads as it did. -/
def irValidUptoRow : OpenClaim := { program := "ytojofinofpgopaa", sum := "f6e427cd32d573582ad844aca0e6f576e4454458904451ba1941e82be2b1e4d3", func := "babel/babellaw12.IrValid", spec := "irValid", unfollowed := true, recurses := true, apart := false, narrowed := true }
def IrValidUptoSaid : Prop := irValidUptoRow.holds Try.pinned (OpenSpec.upto irValidSpec)

/-- 'babellaw12.IrSpoilt', WHERE WHAT IT READS IS OF BULK AT MOST 1048576: true; the input reads as it did. -/
def irSpoiltUptoRow : OpenClaim := { program := "ytojofinofpgopaa", sum := "f6e427cd32d573582ad844aca0e6f576e4454458904451ba1941e82be2b1e4d3", func := "babel/babellaw12.IrSpoilt", spec := "irSpoilt", unfollowed := true, recurses := true, apart := false, narrowed := true }
def IrSpoiltUptoSaid : Prop := irSpoiltUptoRow.holds Try.pinned (OpenSpec.upto irSpoiltSpec)

/-- 'babellaw12.IrMany', WHERE WHAT IT READS IS OF BULK AT MOST 1048576: true; the input reads as it did. -/
def irManyUptoRow : OpenClaim := { program := "ytojofinofpgopaa", sum := "f6e427cd32d573582ad844aca0e6f576e4454458904451ba1941e82be2b1e4d3", func := "babel/babellaw12.IrMany", spec := "irMany", unfollowed := true, recurses := true, apart := false, narrowed := true }
def IrManyUptoSaid : Prop := irManyUptoRow.holds Try.pinned (OpenSpec.upto irManySpec)

/-- 'babellaw12.IrArithmetic', WHERE WHAT IT READS IS OF BULK AT MOST 1048576: true; the input reads as it did. -/
def irArithmeticUptoRow : OpenClaim := { program := "ytojofinofpgopaa", sum := "f6e427cd32d573582ad844aca0e6f576e4454458904451ba1941e82be2b1e4d3", func := "babel/babellaw12.IrArithmetic", spec := "irArithmetic", unfollowed := true, recurses := true, apart := false, narrowed := true }
def IrArithmeticUptoSaid : Prop := irArithmeticUptoRow.holds Try.pinned (OpenSpec.upto irArithmeticSpec)

/-- 'babellaw12.IrFields', WHERE WHAT IT READS IS OF BULK AT MOST 1048576: true; the input reads as it did. -/
def irFieldsUptoRow : OpenClaim := { program := "ytojofinofpgopaa", sum := "f6e427cd32d573582ad844aca0e6f576e4454458904451ba1941e82be2b1e4d3", func := "babel/babellaw12.IrFields", spec := "irFields", unfollowed := true, recurses := true, apart := false, narrowed := true }
def IrFieldsUptoSaid : Prop := irFieldsUptoRow.holds Try.pinned (OpenSpec.upto irFieldsSpec)

/-- 'babellaw12.IrEvals', WHERE WHAT IT READS IS OF BULK AT MOST 1048576: true; the input reads as it did. -/
def irEvalsUptoRow : OpenClaim := { program := "ytojofinofpgopaa", sum := "f6e427cd32d573582ad844aca0e6f576e4454458904451ba1941e82be2b1e4d3", func := "babel/babellaw12.IrEvals", spec := "irEvals", unfollowed := true, recurses := true, apart := false, narrowed := true }
def IrEvalsUptoSaid : Prop := irEvalsUptoRow.holds Try.pinned (OpenSpec.upto irEvalsSpec)

/-- 'babellaw12.IrInvalid', WHERE WHAT IT READS IS OF BULK AT MOST 1048576: true; the input reads as it did. -/
def irInvalidUptoRow : OpenClaim := { program := "ytojofinofpgopaa", sum := "f6e427cd32d573582ad844aca0e6f576e4454458904451ba1941e82be2b1e4d3", func := "babel/babellaw12.IrInvalid", spec := "irInvalid", unfollowed := true, recurses := true, apart := false, narrowed := true }
def IrInvalidUptoSaid : Prop := irInvalidUptoRow.holds Try.pinned (OpenSpec.upto irInvalidSpec)

/-- 'babellaw12.IrLeaves', WHERE WHAT IT READS IS OF BULK AT MOST 1048576: true; the input reads as it did. -/
def irLeavesUptoRow : OpenClaim := { program := "ytojofinofpgopaa", sum := "f6e427cd32d573582ad844aca0e6f576e4454458904451ba1941e82be2b1e4d3", func := "babel/babellaw12.IrLeaves", spec := "irLeaves", unfollowed := true, recurses := true, apart := false, narrowed := true }
def IrLeavesUptoSaid : Prop := irLeavesUptoRow.holds Try.pinned (OpenSpec.upto irLeavesSpec)

/-- 'babellaw12.IrTemporaries', WHERE WHAT IT READS IS OF BULK AT MOST 1048576: true; the input reads as it did. -/
def irTemporariesUptoRow : OpenClaim := { program := "ytojofinofpgopaa", sum := "f6e427cd32d573582ad844aca0e6f576e4454458904451ba1941e82be2b1e4d3", func := "babel/babellaw12.IrTemporaries", spec := "irTemporaries", unfollowed := true, recurses := true, apart := false, narrowed := true }
def IrTemporariesUptoSaid : Prop := irTemporariesUptoRow.holds Try.pinned (OpenSpec.upto irTemporariesSpec)

/-- 'babellaw12.IrEffects', WHERE WHAT IT READS IS OF BULK AT MOST 1048576: true; the input reads as it did. -/
def irEffectsUptoRow : OpenClaim := { program := "ytojofinofpgopaa", sum := "f6e427cd32d573582ad844aca0e6f576e4454458904451ba1941e82be2b1e4d3", func := "babel/babellaw12.IrEffects", spec := "irEffects", unfollowed := true, recurses := true, apart := false, narrowed := true }
def IrEffectsUptoSaid : Prop := irEffectsUptoRow.holds Try.pinned (OpenSpec.upto irEffectsSpec)

/-- 'babellaw12.IrStates', WHERE WHAT IT READS IS OF BULK AT MOST 1048576: true; the input reads as it did. -/
def irStatesUptoRow : OpenClaim := { program := "ytojofinofpgopaa", sum := "f6e427cd32d573582ad844aca0e6f576e4454458904451ba1941e82be2b1e4d3", func := "babel/babellaw12.IrStates", spec := "irStates", unfollowed := true, recurses := true, apart := false, narrowed := true }
def IrStatesUptoSaid : Prop := irStatesUptoRow.holds Try.pinned (OpenSpec.upto irStatesSpec)

/-- 'babellaw12.IrFlags', WHERE WHAT IT READS IS OF BULK AT MOST 1048576: true; the input reads as it did. -/
def irFlagsUptoRow : OpenClaim := { program := "ytojofinofpgopaa", sum := "f6e427cd32d573582ad844aca0e6f576e4454458904451ba1941e82be2b1e4d3", func := "babel/babellaw12.IrFlags", spec := "irFlags", unfollowed := true, recurses := true, apart := false, narrowed := true }
def IrFlagsUptoSaid : Prop := irFlagsUptoRow.holds Try.pinned (OpenSpec.upto irFlagsSpec)

end Rows
end Go.Proofs.Ytojofinofpgopaa
