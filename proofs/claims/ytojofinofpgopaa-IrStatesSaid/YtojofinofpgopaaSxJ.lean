/- Facts of two blocks in a drawn region; rows compared; arrays by value. -/
import Derived.Test.YtojofinofpgopaaSxI
namespace Go.Proofs.Ytojofinofpgopaa
open Go.RowKit
section
variable {P : Program} {n : Nat} {m : List (Nat × Value)} {ty : TypeId} {H J J' : World → Prop}
theorem wl_passU {ops : Array Oper} {Q : Exit → Act → World → Prop} {rest : List Oper} {op : Op} {d : Nat} {pos : String} {af : Array Edge} {j t : Nat} {want : Bool} (ht : (ops[j]?).bind (·.dst) = some t) (hv : look m t = some undef) (hd : Nat.blt d n = true) (h : WL P ops Q rest n ((d, undef) :: m) H) :
    WL P ops Q (⟨some d, op, ty, pos, af, some (j, want)⟩ :: rest) n m H := fun a w hs hw => by
  have hg : Region.wanted (⟨some d, op, ty, pos, af, some (j, want)⟩ : Oper) (yielded ops a.tmps) = false := by
    have e : yielded ops a.tmps j = none := by simp [yielded, ht, hs.get t _ hv, undef]
    simp [Region.wanted, e]
  unfold wpList
  rw [if_neg (by rw [hg]; exact Bool.false_ne_true)]
  exact h _ w (hs.put hd) hw
theorem YF.anti {op : Op} {v : Value} (h : YF P op ty n m J' v) (hJ : ∀ w, J w → J' w) : YF P op ty n m J v := fun a w d pos af g hs hw => h a w d pos af g hs (hJ w hw)
def J2 (b c : Nat) (o p : Obj) (w : World) : Prop := Blk b o w ∧ Blk c p w
theorem J2.stab {b c : Nat} {o p : Obj} : AStab (J2 b c o p) := fun w ob ⟨h1, h2⟩ => ⟨Blk.stab w ob h1, Blk.stab w ob h2⟩
theorem Blk.onE {b : Nat} {o : Obj} {w w' : World} (h : Blk b o w) (hx : Ext w w') : Blk b o w' := h.keep (K := fun _ => False) (Keep.of_ext hx) id
theorem J2.ext {b c : Nat} {o p : Obj} : ∀ w w', J2 b c o p w → Ext w w' → J2 b c o p w' := fun _ _ ⟨h1, h2⟩ hx => ⟨h1.onE hx, h2.onE hx⟩
theorem yf_loadSegJ {x : Operand} {t T g o : Nat} {cs seg : List Value} {d : TypeDesc} (hx : ev m x = some (.pointer (some ⟨g, o, none⟩))) (hv : ∀ j v, seg[j]? = some v → cs[o + j]? = some v) (ht : P.underlying t = some d) (hd : d.isRow = true) (hs : (P.info? t).map (·.size) = some seg.length) : YF P (.load t x) ty n m (Blk g (bk T cs)) (.agg seg.toArray) :=
  yf_loadRow hx ht hd hs fun w h j v hj => by rw [cell_of_row w g (o + j) _ _ _ h, List.getElem?_toArray]; exact hv j v hj
theorem yf_eqlAgg {x y : Operand} {t t' : TypeId} {xs ys : Array Value} {r : Bool} (hx : ev m x = some (.agg xs)) (hy : ev m y = some (.agg ys)) (hm : P.eqGuardType P.depth t = false) (h : ∀ w, (Op.equalIn 10000 t (.agg xs) (.agg ys)).run P w = .ok r w) : YF P (.binOp .eql t x y t') ty n m H (.bool r) := fun _ w d pos af g hs hw => by
  have := run_eql_struct (P := P) w t xs ys
  rw [h w] at this
  simp only [Result.andThen] at this
  simp [Yl, execOp, hs.ev hx, hs.ev hy, run_eqGuard_agg (P := P) w .eql t x y xs ys hm, this]
theorem yf_index {x y : Operand} {t : TypeId} {u v r : Value} (hx : ev m x = some u) (hy : ev m y = some v) (h : ∀ w, (Instr.index t u v).run P w = .ok r w) : YF P (.index t x y) ty n m H r := fun _ w d pos af g hs hw => by
  simp [Yl, execOp, hs.ev hx, hs.ev hy, h w]
end
end Go.Proofs.Ytojofinofpgopaa
