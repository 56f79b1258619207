/- Calls of the checks and of Made. -/
import Derived.Test.YtojofinofpgopaaTurn0
import Derived.Test.YtojofinofpgopaaIrE
import Derived.Test.YtojofinofpgopaaIrH
import Derived.Test.YtojofinofpgopaaRefD
namespace Go.Proofs.Ytojofinofpgopaa
open Go.RowKit
theorem RdIn.arr {Bad : Nat → Prop} {A : Option Addr} {xs : List Value} {w : World} (h : RdIn Bad A xs w) : Arr w w.heap.size A xs := fun h0 => by
  obtain ⟨b, off, e, h1, _, hc⟩ := h h0
  exact ⟨b, off, e, h1, hc⟩
theorem RdIn.ops {Bad : Nat → Prop} {A : Option Addr} {l : List IOp} {w : World} (h : RdIn Bad A (opsCells l) w) : OpsArr w w.heap.size A l := fun h0 => by
  have hl := opsCells_len l
  obtain ⟨b, off, e, h1, _, hc⟩ := h (by omega)
  refine ⟨b, off, e, h1, fun i hi => ?_⟩
  have key : ∀ j u, j < 5 → (opC (l.getD i noOp))[j]? = some u → w.cell? ⟨b, off + i * 5 + j, none⟩ = some u := fun j u hj hu => by
    have h2 := ops_cell hi hu hj
    rw [Nat.zero_add] at h2
    rw [Nat.add_assoc, hc (i * 5 + j) (by omega), List.getD_eq_getElem?_getD, h2]; rfl
  exact ⟨key 0 _ (by omega) rfl, key 1 _ (by omega) rfl, key 2 _ (by omega) rfl, key 3 _ (by omega) rfl, key 4 _ (by omega) rfl⟩
theorem BRd.blk {Bad : Nat → Prop} {i : BR} {w : World} {m : Nat} (h : BRd Bad i w) (hi : i.OkN m) (hm : m ≤ maxLen) : BlkAt w w.heap.size i.aA i.aP i.aO i.b :=
  ⟨h.a.arr, h.p.arr, h.o.ops, Nat.le_trans hi.lA hm, Nat.le_trans hi.lP hm, Nat.le_trans hi.lO hm⟩
theorem OkN.un {i : BR} {m : Nat} (hi : i.OkN m) : ∀ k, k < i.b.ops.length → U32 (i.b.ops.getD k noOp).n := fun _ hk => hi.uO _ (opD_mem hk)
theorem valid_call {Bad : Nat → Prop} {i : BR} {m : Nat} {w : World} (h : BRd Bad i w) (hi : i.OkN m) (hm : m ≤ maxLen) : Calls Try.prog 17 #[i.v] w fun e w' => e = .returned (.bool (validL i.b)) ∧ Ext w w' :=
  valid_any i.aA i.aP i.aO i.cA i.cP i.cO i.b w w.heap.size (Nat.le_refl _) (h.blk hi hm)
theorem refValid_call {Bad : Nat → Prop} {i : BR} {m : Nat} {w : World} (h : BRd Bad i w) (hi : i.OkN m) (hm : m ≤ maxLen) : Calls Try.prog 18 #[i.v] w fun e w' => e = .returned (.bool (validL i.b)) ∧ Ext w w' := by
  rw [valid_eq]
  exact refValid_any i.aA i.aP i.aO i.cA i.cP i.cO i.b w w.heap.size (Nat.le_refl _) (h.blk hi hm) (OkN.un hi)
theorem RdIn.take {Bad : Nat → Prop} {A : Option Addr} {xs : List Value} {w : World} (h : RdIn Bad A xs w) (k : Nat) : RdIn Bad A (xs.take k) w := fun h0 => by
  rw [List.length_take] at h0
  obtain ⟨b, off, e, h1, h2, hc⟩ := h (by omega)
  refine ⟨b, off, e, h1, h2, fun i hi => ?_⟩
  rw [List.length_take] at hi
  rw [hc i (by omega)]
  simp only [List.getD_eq_getElem?_getD]
  rw [List.getElem?_take_of_lt (by omega)]
theorem made_call {Bad : Nat → Prop} {A : Option Addr} {cap : Nat} {s : List Int} {w : World} (h : RdIn Bad A (i64s s) w) (k : Nat) (hk : k ≤ s.length) (hl : s.length ≤ maxLen) :
    Calls Try.prog 19 #[.slice A k cap] w fun e w' => ∃ i : BR, (i.Ok ∧ validL i.b = true) ∧ e = .returned i.v ∧ Hp (fun _ => False) w [] i.rows (fun _ => True) w' := by
  have h1 : (s.take k).length = k := by rw [List.length_take]; omega
  have := made_any A cap (s.take k) w (by
    have := (h.take k).weak (Bad' := fun _ => False) (fun _ hk => hk.elim)
    rwa [i64s, ← List.map_take] at this) (by omega)
  rwa [h1] at this
theorem yf_conseq {P : Program} {op : Op} {ty : TypeId} {n : Nat} {m : List (Nat × Value)} {J J' : World → Prop} {v : Value} (h : YF P op ty n m J' v) (hJ : ∀ w, J w → J' w) : YF P op ty n m J v := fun a w d pos af g hs hw => h a w d pos af g hs (hJ w hw)
def J3 (b8 b9 b10 : Nat) (o8 o9 o10 : Obj) (w : World) : Prop := Blk b8 o8 w ∧ Blk b9 o9 w ∧ Blk b10 o10 w
theorem J3.stab {b8 b9 b10 : Nat} {o8 o9 o10 : Obj} : AStab (J3 b8 b9 b10 o8 o9 o10) := fun w ob ⟨h1, h2, h3⟩ => ⟨Blk.stab w ob h1, Blk.stab w ob h2, Blk.stab w ob h3⟩
theorem Blk.ext {b : Nat} {o : Obj} {w w' : World} (h : Blk b o w) (hx : Ext w w') : Blk b o w' := h.keep (K := fun _ => False) (Keep.of_ext hx) id
theorem J3.ext {b8 b9 b10 : Nat} {o8 o9 o10 : Obj} : ∀ w w', J3 b8 b9 b10 o8 o9 o10 w → Ext w w' → J3 b8 b9 b10 o8 o9 o10 w' := fun _ _ ⟨h1, h2, h3⟩ hx => ⟨h1.ext hx, h2.ext hx, h3.ext hx⟩
theorem min_nat (a : Nat) : ∃ k : Nat, (if (150 : Int) < (a : Int) then (150 : Int) else (a : Int)) = k ∧ k ≤ a := by
  by_cases h : (150 : Int) < (a : Int)
  · exact ⟨150, by rw [if_pos h]; rfl, by omega⟩
  · exact ⟨a, by rw [if_neg h], Nat.le_refl _⟩
theorem arr_rdIn {A : Option Addr} {xs : List Value} {w : World} (h : Arr w w.heap.size A xs) : RdIn (fun k => w.heap.size ≤ k) A xs w := fun h0 => by
  obtain ⟨b, off, e, h1, hc⟩ := h h0
  exact ⟨b, off, e, h1, by omega, hc⟩
end Go.Proofs.Ytojofinofpgopaa
