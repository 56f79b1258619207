/- Plain: ranges of words, lengths, the outcome without the guest's temporaries. -/
import Derived.Test.YtojofinofpgopaaDoorIrF0
namespace Go.Proofs.YtojofinofpgopaaDoor
open Go.RowKit
theorem setFar {w : World} {G P i j : Nat} {u v : Value} (h : P ≠ G) (hc : w.cell? ⟨P, j, none⟩ = some v) : (w.setCell ⟨G, i, none⟩ u).cell? ⟨P, j, none⟩ = some v :=
  (World.cell?_of_block (a := ⟨P, j, none⟩) (Below.heap_setCell w ⟨G, i, none⟩ u P h)).trans hc
theorem bits_range (op : BinOp) (x y : Int) : U32 (bits op .u32 x y) := by
  unfold bits U32
  simp only [IntKind.wrap, IntKind.signed, IntKind.bits]
  constructor
  · exact Int.emod_nonneg _ (by decide)
  · exact Int.emod_lt_of_pos _ (by decide)
theorem bitL_range (b : Bool) : U32 (bitL b) := by cases b <;> exact ⟨by decide, by decide⟩
theorem wordOp_range (c a b : Int) (ha : U32 a) (hb : U32 b) : U32 (wordOpL c a b) := by
  obtain ⟨a0, a1⟩ := ha
  have hm : ∀ x : Int, U32 (x % 4294967296) := fun x => ⟨Int.emod_nonneg _ (by decide), Int.emod_lt_of_pos _ (by decide)⟩
  have hd : ∀ d : Int, 0 ≤ d → U32 (a / d) := fun d h => ⟨Int.ediv_nonneg a0 h, Int.lt_of_le_of_lt (Int.ediv_le_self _ a0) a1⟩
  unfold wordOpL
  have hi : ∀ (p : Prop) [Decidable p] (x y : Int), U32 x → U32 y → U32 (if p then x else y) := fun p _ x y hx hy => by by_cases h : p <;> simp [h, hx, hy]
  exact hi _ _ _ (hm _) (hi _ _ _ (hm _) (hi _ _ _ (bits_range _ _ _) (hi _ _ _ (bits_range _ _ _) (hi _ _ _ (bits_range _ _ _) (hi _ _ _ (hm _) (hi _ _ _ (hd _ (Int.pow_nonneg (by decide))) (hi _ _ _ (hm _) (hi _ _ _ (hm _)
    (hi _ _ _ (hi _ _ _ ⟨by decide, by decide⟩ (hd _ hb.1)) (hi _ _ _ (bitL_range _) (hi _ _ _ (bitL_range _) (hi _ _ _ (bitL_range _) ⟨by decide, by decide⟩))))))))))))
theorem evStep_len (at_ : List Int) (o : IOp) (s : EvOut) (cur : Int) : (evStep at_ o s cur).2.1.vars.length = s.vars.length := by
  unfold evStep
  have hi : ∀ (p : Prop) [Decidable p] (x y : Bool × EvOut × Int), x.2.1.vars.length = s.vars.length → y.2.1.vars.length = s.vars.length → (if p then x else y).2.1.vars.length = s.vars.length := fun p _ x y hx hy => by by_cases h : p <;> simp [h, hx, hy]
  have hs : ∀ (d v : Int), (s.set d v).vars.length = s.vars.length := fun d v => by simp [EvOut.set]
  exact hi _ _ _ rfl (hi _ _ _ (hs _ _) (hi _ _ _ (hs _ _) (hi _ _ _ rfl (hi _ _ _ (hi _ _ _ rfl rfl) (hi _ _ _ (hi _ _ _ rfl rfl) (hi _ _ _ rfl (hi _ _ _ rfl (hs _ _))))))))
theorem evGo_len (at_ : List Int) : ∀ (ops : List IOp) (s : EvOut) (cur : Int), (evGo at_ ops s cur).vars.length = s.vars.length := by
  intro ops
  induction ops with
  | nil => intro s cur; rfl
  | cons o rest ih =>
    intro s cur
    have h := evStep_len at_ o s cur
    unfold evGo
    split
    · rename_i h1; rw [h1] at h; exact h
    · rename_i h1; rw [h1] at h; rw [ih]; exact h
/-- The outcome with the temporaries 19 .. 27 at zero. -/
def EvOut.guests (s : EvOut) : EvOut := { s with vars := ((((((((s.vars.set 19 0).set 20 0).set 21 0).set 22 0).set 23 0).set 24 0).set 25 0).set 26 0).set 27 0 }
def evalNil (b : IBlk) (vars : List Int) : EvOut :=
  if validL b then (evGo b.at_ b.ops ⟨false, 0, b.at_.length, 0, vars⟩ 0).guests else zeroOut
theorem EvL.guests {w : World} {aA aP aO : Option Addr} {cA cP cO : Nat} {b : IBlk} {vars : List Int} {G H : Nat} {s : EvOut} {cur : Int} {wx : World} (h : EvL w aA aP aO cA cP cO b vars G H s cur wx) :
    EvL w aA aP aO cA cP cO b vars G H s.guests cur (wx.setCells G 23 (List.replicate 9 (.int .u32 0))) :=
  ((((((((h.setOut (4 + 19) (.int .u32 0) (outSet _ _ _)).setOut (4 + 20) (.int .u32 0) (outSet _ _ _)).setOut (4 + 21) (.int .u32 0) (outSet _ _ _)).setOut (4 + 22) (.int .u32 0) (outSet _ _ _)).setOut (4 + 23) (.int .u32 0) (outSet _ _ _)).setOut (4 + 24) (.int .u32 0) (outSet _ _ _)).setOut (4 + 25) (.int .u32 0) (outSet _ _ _)).setOut (4 + 26) (.int .u32 0) (outSet _ _ _)).setOut (4 + 27) (.int .u32 0) (outSet _ _ _)
theorem zero32 (w : World) : (zeroValue 35).run Tryd.prog w = .ok (.int .u32 0) w := by kernel_rfl
end Go.Proofs.YtojofinofpgopaaDoor
