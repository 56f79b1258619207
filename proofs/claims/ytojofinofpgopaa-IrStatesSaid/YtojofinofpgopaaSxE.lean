/- Reads ahead of a forced tail; results that lie in memory; small laws on numbers. -/
import Derived.Test.YtojofinofpgopaaSxD
namespace Go.Proofs.Ytojofinofpgopaa
open Go.RowKit
section
variable {P : Program} {ops : Array Oper} {Q : Exit → Act → World → Prop} {n : Nat} {m : List (Nat × Value)} {H : World → Prop} {tail rest : List Oper}
def WT (P : Program) (ops : Array Oper) (Q : Exit → Act → World → Prop) (tail l : List Oper) (n : Nat) (m : List (Nat × Value)) (H : World → Prop) : Prop := ∀ a w, Sat n m a → H w → wpStill P ops w (fun a' => wpList P ops Q tail a' w) l a
theorem wc_still {id : Nat} {l : List Oper} (k : Nat) (hm : P.follows .mixedOrders = true) (hB : Region.lexTailB .any l.toArray k = true) (hd : ∀ w, H w → H w.drew) (h : WT P l.toArray Q (l.drop k) (l.take k) n m H) : WC P (.region id l.toArray true) Q n m H := fun a w hs hw =>
  wp_region_still_tail k hm hB (h a w.drew hs (hd w hw))
theorem wt_tail (h : WL P ops Q tail n m H) : WT P ops Q tail [] n m H := fun a w hs hw => wpStill_nil (h a w hs hw)
theorem wt_free {op : Op} {d : Nat} {ty : TypeId} {pos : String} {af : Array Edge} {g : Option (Nat × Bool)} {v : Value} (hg : Gd ops m g) (hd : Nat.blt d n = true) (hy : YF P op ty n m H v) (h : WT P ops Q tail rest n ((d, v) :: m) H) :
    WT P ops Q tail (⟨some d, op, ty, pos, af, g⟩ :: rest) n m H := fun a w hs hw => by
  unfold wpStill
  rw [if_pos (hg.wanted (o := ⟨some d, op, ty, pos, af, g⟩) hs)]
  have := hy a w (some d) pos af g hs hw
  unfold Oper.still
  unfold Yl at this
  rw [this]
  exact ⟨rfl, h _ w (hs.put hd) hw⟩
theorem wt_pass {op : Op} {d : Nat} {ty : TypeId} {pos : String} {af : Array Edge} {g : Option (Nat × Bool)} (hg : Gn ops m g) (hd : Nat.blt d n = true) (h : WT P ops Q tail rest n ((d, undef) :: m) H) :
    WT P ops Q tail (⟨some d, op, ty, pos, af, g⟩ :: rest) n m H := fun _ w hs hw => by
  unfold wpStill
  rw [if_neg (by rw [Gn.wanted (o := ⟨some d, op, ty, pos, af, g⟩) hs hg]; exact Bool.false_ne_true)]
  exact h _ w (hs.put hd) hw
theorem wt_split {l : List Oper} {b : Bool} (t : Nat) (hv : look m t = some (.bool b)) (h1 : b = true → WT P ops Q tail l n ((t, .bool true) :: m) H) (h2 : b = false → WT P ops Q tail l n ((t, .bool false) :: m) H) : WT P ops Q tail l n m H := fun a w hs hw => by
  have key : Sat n ((t, .bool b) :: m) a := ⟨hs.size, hs.dfr, fun i u hu => by
    by_cases hi : t = i
    · subst hi; rw [look_eq] at hu; cases hu; exact hs.get t _ hv
    · rw [look_ne hi] at hu; exact hs.get i u hu⟩
  cases b
  · exact h2 rfl a w key hw
  · exact h1 rfl a w key hw
/-- A region that draws its order and makes no block of its own that is named. -/
theorem wc_draw0 {id : Nat} {l : List Oper} (σ : List Nat) (J : World → Prop) (hm : P.follows .mixedOrders = true) (hB : okB l.toArray σ = true) (hH : AStab H) (hJ : AStab J) (hd : ∀ w, H w → H w.drew) (hj : ∀ w, H w → J w)
    (h : WD P l.toArray J Q σ (fun _ => False) n m H) : WC P (.region id l.toArray true) Q n m H := fun a w hs hw =>
  region_S (J := J) hm hB (fun _ => False) H hH hJ (hd w hw) (hj _ (hd w hw)) (fun _ h => h.elim) (h a hs)
/-- .. with new blocks. -/
theorem wc_drawN {id : Nat} {l : List Oper} {B : Nat → Prop} {w0 : World} {L : List (Nat × Obj)} {Rs : List Rw} {X : World → Prop} (σ : List Nat) (J : World → Prop) (hm : P.follows .mixedOrders = true) (hB : okB l.toArray σ = true) (hJ : AStab J) (hj : ∀ w, Hp B w0 L Rs X w → J w)
    (h : ∀ n0, w0.heap.size ≤ n0 → WD P l.toArray J Q σ (fun k => k < n0) n m (HpG (fun k => k < n0) B w0 L Rs X)) : WC P (.region id l.toArray true) Q n m (Hp B w0 L Rs X) := fun a w hs hw =>
  region_S (J := J) hm hB (fun k => k < w.heap.size) (HpG (fun k => k < w.heap.size) B w0 L Rs X) HpG.stab hJ (HpG.drew hw.inn) (hj _ (Hp.drew hw)) (fun _ h => h) (h w.heap.size (HpG.size hw) a hs)
theorem wd_endH {J : World → Prop} {G G' B : Nat → Prop} {w0 : World} {L : List (Nat × Obj)} {Rs : List Rw} {X : World → Prop} (h : WQ Q .normal n m (Hp B w0 L Rs X)) : WD P ops J Q [] G' n m (HpG G B w0 L Rs X) := fun a hs w hw _ => h a w hs hw.hp
/-- The result lies in a block of the call's own. -/
theorem wq_retC {fn : Func} {R : Ending → World → Prop} {p : Tmp} {t T : TypeId} {g : Nat} {cs : List Value} {d : TypeDesc} {G B : Nat → Prop} {w0 : World} {L : List (Nat × Obj)} {Rs : List Rw} {X : World → Prop} (hr : fn.results = #[.cell p t]) (hp : look m p = some (.pointer (some ⟨g, 0, none⟩)))
    (k : Nat) (hk : L[k]? = some (g, bk T cs)) (ht : P.underlying t = some d) (hd : (match d with | .struct _ | .array _ _ => true | _ => false) = true) (hs' : (P.info? t).map (·.size) = some cs.length)
    (h : ∀ w, HpG G B w0 L Rs X w → R (.returned (.agg cs.toArray)) w) : WQ (bodyPost P fn R) .ret n m (HpG G B w0 L Rs X) := fun a w hs hw =>
  bodyPost_ret (v := .agg cs.toArray) (results_cell_row hr a.tmps w g T cs.toArray (0, 0) d (by simp [Array.getD_eq_getD_getElem?, hs.get p _ hp]) (hw.own _ (List.mem_of_getElem? hk)) ht hd (by simpa using hs')) hs.dfr (h w hw)
end
theorem i64_in (x : Int) (h1 : -9223372036854775808 ≤ x) (h2 : x ≤ 9223372036854775807) : IntKind.i64.wrap x = x := IntWalk.i64_in x (by omega)
theorem u32_in (x : Int) (h1 : 0 ≤ x) (h2 : x ≤ 4294967295) : IntKind.u32.wrap x = x := by
  simp only [IntKind.wrap, IntKind.bits, IntKind.signed]
  simp; omega
theorem u64_in (x : Int) (h1 : 0 ≤ x) (h2 : x ≤ 18446744073709551615) : IntKind.u64.wrap x = x := by
  simp only [IntKind.wrap, IntKind.bits, IntKind.signed]
  simp; omega
theorem u8_in (x : Int) (h1 : 0 ≤ x) (h2 : x ≤ 255) : IntKind.u8.wrap x = x := by
  simp only [IntKind.wrap, IntKind.bits, IntKind.signed]
  simp; omega
theorem u16_in (x : Int) (h1 : 0 ≤ x) (h2 : x ≤ 65535) : IntKind.u16.wrap x = x := by
  simp only [IntKind.wrap, IntKind.bits, IntKind.signed]
  simp; omega
theorem i32_in (x : Int) (h1 : -2147483648 ≤ x) (h2 : x ≤ 2147483647) : IntKind.i32.wrap x = x := by
  simp only [IntKind.wrap, IntKind.bits, IntKind.signed]
  simp; omega
end Go.Proofs.Ytojofinofpgopaa
