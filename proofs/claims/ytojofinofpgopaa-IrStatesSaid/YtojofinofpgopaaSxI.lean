/- Rows of the call's own: parts of them, stores into them, append onto a part. -/
import Derived.Test.YtojofinofpgopaaSxH
namespace Go.Proofs.Ytojofinofpgopaa
open Go.RowKit
section
variable {P : Program} {ops : Array Oper} {Q : Exit → Act → World → Prop} {n : Nat} {m : List (Nat × Value)} {ty : TypeId} {H J : World → Prop} {G B : Nat → Prop} {w0 w w' : World} {L : List (Nat × Obj)} {R : List Rw} {X : World → Prop}
theorem ownsRow_trunc {base e size n i : Nat} {A : Option Addr} {len cap : Nat} {xs : List Value} (h : w.ownsRow base e size (.slice A len cap) n xs) (hi : i ≤ n) (h0 : i = 0 → len = 0 → A = none → cap = 0) : w.ownsRow base e size (.slice A i cap) i (xs.take (i * size)) := by
  obtain ⟨e1, h⟩ := h
  have hle : i * size ≤ n * size := Nat.mul_le_mul_right size hi
  refine ⟨by rw [List.length_take, e1]; omega, ?_⟩
  rcases h with ⟨hv, hn⟩ | ⟨g, c, cur, hv, h1, h2, h3, h4, h5, h6⟩
  · injection hv with a b c
    subst a; subst b; subst c
    have : i = 0 := by omega
    subst this
    exact .inl ⟨rfl, rfl⟩
  · injection hv with a b c
    subst a; subst c
    exact .inr ⟨g, cap, cur, rfl, h1, h2, by omega, h4, h5, by rw [← h6, List.take_take, Nat.min_eq_left hle]⟩
theorem HpG.rowAt (h : HpG G B w0 L R X w) {k : Nat} {r : Rw} (hk : R[k]? = some r) : w.ownsRow w0.heap.size r.E r.size r.v r.n r.xs := h.rows _ (List.mem_of_getElem? hk)
/-- append onto the first i elements of a row. -/
theorem ch_appendT {x y : Operand} {t : TypeId} {a : Act} {d : Option Tmp} {pos : String} {af : Array Edge} {gd : Option (Nat × Bool)} {A : Option Addr} {E size len cap i : Nat} {xs : List Value} {c mm : Nat} {A2 : Option Addr} {news : List Value} {z : Value} {bytes : Nat} (hs : Sat n m a) (k : Nat) (hk : R[k]? = some ⟨.slice A len cap, E, size, len, xs⟩) (hx : ev m x = some (.slice A i cap)) (hy : ev m y = some (.slice A2 mm c)) (hrd : Rd A2 news w)
    (ht : P.underlying t = some (.slice E)) (hi : (P.info? E).map (fun i => (i.zero, i.size, i.bytes)) = some (some z, size, bytes)) (hzs : z.cells.size = size) (hsz : 0 < size) (hl : news.length = mm * size) (h1 : ∀ v ∈ news, v.oneCell' = true) (h63 : i + mm ≤ 9223372036854775807) (hb : (i + mm) * bytes ≤ 140737488355328) (hcap : i ≤ cap) (hil : i ≤ len)
    (hw : Hp B w0 L R X w) : Ch P ⟨d, .call { callee := .builtin .append, args := #[x, y], argTypes := #[t, t] }, ty, pos, af, gd⟩ a w fun v w' => ∃ A' cap', v = .slice A' (i + mm) cap' ∧ i + mm ≤ cap' ∧ Hp B w0 L (R.set k ⟨.slice A' (i + mm) cap', E, size, i + mm, xs.take (i * size) ++ news⟩) X w' := by
  have hrow := HpG.rowAt hw hk
  have htr : w.ownsRow w0.heap.size E size (.slice A i cap) i (xs.take (i * size)) := ownsRow_trunc hrow hil (fun _ _ hA => by
    obtain ⟨_, h⟩ := hrow
    rcases h with ⟨hv, _⟩ | ⟨g, c, cur, hv, _⟩
    · injection hv
    · injection hv with a; rw [hA] at a; cases a)
  have hob : (Value.slice A i cap).ownBlock = (Value.slice A len cap).ownBlock := by cases A <;> rfl
  have hw1 : Hp B w0 L (R.set k ⟨.slice A i cap, E, size, i, xs.take (i * size)⟩) X w := Hp.row hw hk ⟨rfl, rfl, rfl, Nat.le_refl _, fun _ _ _ => rfl⟩ htr (.inl hob)
  have hk1 : (R.set k ⟨.slice A i cap, E, size, i, xs.take (i * size)⟩)[k]? = some ⟨.slice A i cap, E, size, i, xs.take (i * size)⟩ := by
    rw [List.getElem?_set]; simp [(List.getElem?_eq_some_iff.1 hk).1]
  refine (ch_appendS hs k hk1 hx hy hrd ht hi hzs hsz hl h1 h63 hb hcap hw1).mono fun v w' ⟨A', cap', e1, e2, e3⟩ => ⟨A', cap', e1, e2, ?_⟩
  rw [List.set_set] at e3
  exact e3
theorem wl_appendT {x y : Operand} {t : TypeId} {rest : List Oper} {d : Nat} {pos : String} {af : Array Edge} {gd : Option (Nat × Bool)} {A : Option Addr} {E size len cap i : Nat} {xs : List Value} {c mm : Nat} {A2 : Option Addr} {news : List Value} {z : Value} {bytes : Nat} (k : Nat) (hg : Gd ops m gd) (hd : Nat.blt d n = true) (hk : R[k]? = some ⟨.slice A len cap, E, size, len, xs⟩) (hx : ev m x = some (.slice A i cap)) (hy : ev m y = some (.slice A2 mm c)) (hrd : ∀ w, Hp B w0 L R X w → Rd A2 news w)
    (ht : P.underlying t = some (.slice E)) (hi : (P.info? E).map (fun i => (i.zero, i.size, i.bytes)) = some (some z, size, bytes)) (hzs : z.cells.size = size) (hsz : Nat.blt 0 size = true) (hl : news.length = mm * size) (h1 : ∀ v ∈ news, v.oneCell' = true) (h63 : i + mm ≤ 9223372036854775807) (hb : (i + mm) * bytes ≤ 140737488355328) (hcap : i ≤ cap) (hil : i ≤ len)
    (h : ∀ A' cap', i + mm ≤ cap' → WL P ops Q rest n ((d, .slice A' (i + mm) cap') :: m) (Hp B w0 L (R.set k ⟨.slice A' (i + mm) cap', E, size, i + mm, xs.take (i * size) ++ news⟩) X)) :
    WL P ops Q (⟨some d, .call { callee := .builtin .append, args := #[x, y], argTypes := #[t, t] }, ty, pos, af, gd⟩ :: rest) n m (Hp B w0 L R X) :=
  wl_chain (ι := {j : Option Addr × Nat // i + mm ≤ j.2}) (val := fun j => .slice j.1.1 (i + mm) j.1.2) (H' := fun j => Hp B w0 L (R.set k ⟨.slice j.1.1 (i + mm) j.1.2, E, size, i + mm, xs.take (i * size) ++ news⟩) X) hg hd
    (fun _ _ _ _ _ _ hs hw => (ch_appendT hs k hk hx hy (hrd _ hw) ht hi hzs (by simpa [Nat.blt_eq] using hsz) hl h1 h63 hb hcap hil hw).mono fun _ _ ⟨A', cap', e1, e2, e3⟩ => ⟨⟨(A', cap'), e2⟩, e1, e3⟩) fun j => h j.1.1 j.1.2 j.2
theorem yf_bool_eql {x y : Operand} {t t' : TypeId} {a b : Bool} (hx : ev m x = some (.bool a)) (hy : ev m y = some (.bool b)) (ht : P.underlying t = some .bool) : YF P (.binOp .eql t x y t') ty n m H (.bool (a == b)) := fun _ w d pos af g hs hw => by
  have := run_equalIn_bool' (P := P) w 9999 t a b ht
  simp only [show 9999 + 1 = Op.maxDepth from rfl] at this
  simp [Yl, execOp, hs.ev hx, hs.ev hy, binOp, Result.andThen, eqGuard_at_bool, Op.equal, this, bne]
theorem yf_bool_neq {x y : Operand} {t t' : TypeId} {a b : Bool} (hx : ev m x = some (.bool a)) (hy : ev m y = some (.bool b)) (ht : P.underlying t = some .bool) : YF P (.binOp .neq t x y t') ty n m H (.bool (a != b)) := fun _ w d pos af g hs hw => by
  have := run_equalIn_bool' (P := P) w 9999 t a b ht
  simp only [show 9999 + 1 = Op.maxDepth from rfl] at this
  simp [Yl, execOp, hs.ev hx, hs.ev hy, binOp, Result.andThen, eqGuard_at_bool, Op.equal, this, bne]
/-! ### Parts of slices -/
def subA (A : Option Addr) (cap l size : Nat) : Option Addr := if cap = l then A else A.map (·.add (l * size))
theorem yf_sliceHi {x hi : Operand} {t e : TypeId} {k : IntKind} {A : Option Addr} {len cap i size : Nat} {j : Int} (hx : ev m x = some (.slice A len cap)) (hh : ev m hi = some (.int k j)) (ht : P.underlying t = some (.slice e)) (hs' : (P.info? e).map (·.size) = some size) (hj : j = i) (hi' : i ≤ cap) :
    YF P (.slice t x none (some hi) none) ty n m H (.slice A i cap) := fun _ w d pos af gd hs hw => by
  subst hj
  have hsl : (Instr.slice t (.slice A len cap) none (some (.int k (i : Int))) none).run P w = .ok (.slice A i cap) w := by
    have hb : ¬ (cap < i) := by omega
    cases A with
    | none => simp [Instr.slice, run_underlying ht, Instr.sliceBounds, Instr.sliceBound, asIntOf, hi', run_sizeOf hs']
    | some a => simp [Instr.slice, run_underlying ht, Instr.sliceBounds, Instr.sliceBound, asIntOf, hi', run_sizeOf hs', Addr.add]
  simp [Yl, execOp, hs.ev hx, hs.ev hh, Instr.sliceAt, run_underlying ht, hsl]
theorem yf_sliceLo {x lo : Operand} {t e : TypeId} {k : IntKind} {A : Option Addr} {len cap i size : Nat} {j : Int} (hx : ev m x = some (.slice A len cap)) (hh : ev m lo = some (.int k j)) (ht : P.underlying t = some (.slice e)) (hs' : (P.info? e).map (·.size) = some size) (hj : j = i) (hi' : i ≤ len) :
    YF P (.slice t x (some lo) none none) ty n m H (.slice (subA A cap i size) (len - i) (cap - i)) := fun _ w d pos af gd hs hw => by
  subst hj
  have hsl : (Instr.slice t (.slice A len cap) (some (.int k (i : Int))) none none).run P w = .ok (.slice (subA A cap i size) (len - i) (cap - i)) w := by
    simp [Instr.slice, run_underlying ht, Instr.sliceBounds, Instr.sliceBound, asIntOf, hi', run_sizeOf hs', subA]
  simp [Yl, execOp, hs.ev hx, hs.ev hh, Instr.sliceAt, run_underlying ht, hsl]
/-- What lies in a part of a row. -/
theorem row_rdLo {base e size n i : Nat} {A : Option Addr} {len cap : Nat} {xs : List Value} (h : w.ownsRow base e size (.slice A len cap) n xs) (hl : len = n) : Rd (subA A cap i size) (xs.drop (i * size)) w := fun h0 => by
  obtain ⟨b, off, e1, hc⟩ := row_rd h (by rw [List.length_drop] at h0; omega)
  rw [List.length_drop] at h0
  subst e1
  have hlen := h.1
  have hic : cap ≠ i := by
    intro e1
    obtain ⟨_, h⟩ := h
    rcases h with ⟨hv, hn⟩ | ⟨g, c, cur, hv, _, _, hle, _⟩
    · cases hv
    · injection hv with _ _ a3
      have : n * size ≤ i * size := Nat.mul_le_mul_right size (by omega)
      omega
  refine ⟨b, off + i * size, by rw [subA, if_neg hic]; simp [Addr.add_mid], fun j hj => ?_⟩
  rw [List.length_drop] at hj
  rw [Nat.add_assoc, hc (i * size + j) (by omega)]
  simp [List.getD_eq_getElem?_getD, List.getElem?_drop]
theorem row_rdHi {base e size n i : Nat} {A : Option Addr} {len cap : Nat} {xs : List Value} (h : w.ownsRow base e size (.slice A len cap) n xs) : Rd A (xs.take (i * size)) w := fun h0 => by
  rw [List.length_take] at h0
  obtain ⟨b, off, e1, hc⟩ := row_rd h (by omega)
  refine ⟨b, off, e1, fun j hj => ?_⟩
  rw [List.length_take] at hj
  rw [hc j (by omega)]
  simp only [List.getD_eq_getElem?_getD]
  rw [List.getElem?_take_of_lt (by omega)]
/-! ### Stores into a row, reads of it -/
theorem Hp.rowSet (h : Hp B w0 L R X w) {k g len cap E size : Nat} {xs ys : List Value} (hk : R[k]? = some ⟨.slice (some ⟨g, 0, none⟩) len cap, E, size, len, xs⟩) {cs : List Value} (hl : ys.length = xs.length) (hg : w.heap[g]? = some (bk E cs)) (hcs : ∃ rest, cs = xs ++ rest ∧ w'.heap[g]? = some (bk E (ys ++ rest))) (hK : Keep (fun j => j = g) w w') :
    Hp B w0 L (R.set k ⟨.slice (some ⟨g, 0, none⟩) len cap, E, size, len, ys⟩) X w' := by
  obtain ⟨rest, e1, e2⟩ := hcs
  have hrow := HpG.rowAt h hk
  refine Hp.row h hk ⟨hK.os, hK.tape, hK.output, hK.size, fun j hj hne => hK.block j hj (fun e => hne (by rw [e]; rfl))⟩ ?_ (.inl rfl)
  obtain ⟨f1, hr⟩ := hrow
  refine ⟨by rw [← f1]; exact hl, ?_⟩
  rcases hr with ⟨hv, _⟩ | ⟨g', c, cur, hv, h1, h2, h3, h4, h5, h6⟩
  · cases hv
  · injection hv with a1 a2 a3
    injection a1 with a1; injection a1 with a1 _ _
    subst a1; subst a3
    rw [hg] at h2
    injection h2 with h2; injection h2 with h2 _ _
    refine .inr ⟨g, cap, (ys ++ rest).toArray, rfl, h1, e2, h3, h4, ?_, ?_⟩
    · rw [← h5, ← h2, e1]; simp [hl]
    · show (ys ++ rest).take (len * size) = ys
      dsimp only at f1
      rw [← f1, ← hl, List.take_left]
theorem HpG.rowBlock (h : HpG G B w0 L R X w) {k g len cap E size : Nat} {xs : List Value} (hk : R[k]? = some ⟨.slice (some ⟨g, 0, none⟩) len cap, E, size, len, xs⟩) : ∃ rest, w.heap[g]? = some (bk E (xs ++ rest)) := by
  obtain ⟨f1, hr⟩ := h.rowAt hk
  rcases hr with ⟨hv, _⟩ | ⟨g', c, cur, hv, h1, h2, h3, h4, h5, h6⟩
  · cases hv
  · injection hv with a1 a2 a3
    injection a1 with a1; injection a1 with a1 _ _
    subst a1
    dsimp only at h2 h6
    refine ⟨cur.toList.drop (len * size), ?_⟩
    rw [h2, ← h6]
    simp
theorem cf_storeR {x y : Operand} {t : TypeId} {g o len cap E size : Nat} {xs : List Value} {v : Value} (k : Nat) (hk : R[k]? = some ⟨.slice (some ⟨g, 0, none⟩) len cap, E, size, len, xs⟩) (hx : ev m x = some (.pointer (some ⟨g, o, none⟩))) (hy : ev m y = some v) (h1 : v.oneCell' = true) (ho : o < xs.length) (hs' : (P.info? t).map (·.size) = some 1) :
    CF P (.store t x y) ty n m (Hp B w0 L R X) (fun _ : Unit => undef) (fun _ => Hp B w0 L (R.set k ⟨.slice (some ⟨g, 0, none⟩) len cap, E, size, len, xs.set o v⟩) X) := fun a w d pos af gd hs hw => by
  obtain ⟨rest, hg⟩ := HpG.rowBlock hw hk
  refine (ch_store (T := E) (cs := xs ++ rest) hs hx hy h1 (by simp; omega) hs' hg).mono fun u w' ⟨e1, e2, e3⟩ => ⟨(), e1, Hp.rowSet hw hk (by simp) hg ⟨rest, rfl, ?_⟩ e2⟩
  rw [e3, List.set_append_left _ _ ho]
theorem cf_storeRR {x y : Operand} {t : TypeId} {g o len cap E size : Nat} {xs seg : List Value} (k : Nat) (hk : R[k]? = some ⟨.slice (some ⟨g, 0, none⟩) len cap, E, size, len, xs⟩) (hx : ev m x = some (.pointer (some ⟨g, o, none⟩))) (hy : ev m y = some (.agg seg.toArray)) (h1 : ∀ v ∈ seg, v.oneCell' = true) (ho : o + seg.length ≤ xs.length) (hs' : (P.info? t).map (·.size) = some seg.length) :
    CF P (.store t x y) ty n m (Hp B w0 L R X) (fun _ : Unit => undef) (fun _ => Hp B w0 L (R.set k ⟨.slice (some ⟨g, 0, none⟩) len cap, E, size, len, xs.take o ++ seg ++ xs.drop (o + seg.length)⟩) X) := fun a w d pos af gd hs hw => by
  obtain ⟨rest, hg⟩ := HpG.rowBlock hw hk
  refine (ch_storeRow (T := E) (cs := xs ++ rest) hs hx hy h1 (by simp; omega) hs' hg).mono fun u w' ⟨e1, e2, e3⟩ => ⟨(), e1, Hp.rowSet hw hk (by simp; omega) hg ⟨rest, rfl, ?_⟩ e2⟩
  rw [e3, List.take_append_of_le_length (by omega), List.drop_append_of_le_length (by omega)]
  simp only [List.append_assoc]
theorem yf_loadR {x : Operand} {t : TypeId} {g o len cap E size : Nat} {xs : List Value} {v : Value} {d : TypeDesc} (k : Nat) (hk : R[k]? = some ⟨.slice (some ⟨g, 0, none⟩) len cap, E, size, len, xs⟩) (hx : ev m x = some (.pointer (some ⟨g, o, none⟩))) (hv : xs[o]? = some v) (ht : P.underlying t = some d) (hd : d.isRow = false) : YF P (.load t x) ty n m (HpG G B w0 L R X) v :=
  yf_load hx ht hd fun w h => by
    obtain ⟨rest, hg⟩ := h.rowBlock hk
    rw [cell_of_row w g o _ _ _ hg, List.getElem?_toArray, List.getElem?_append_left (List.getElem?_eq_some_iff.1 hv).1]; exact hv
theorem yf_loadRR {x : Operand} {t : TypeId} {g o len cap E size : Nat} {xs seg : List Value} {d : TypeDesc} (k : Nat) (hk : R[k]? = some ⟨.slice (some ⟨g, 0, none⟩) len cap, E, size, len, xs⟩) (hx : ev m x = some (.pointer (some ⟨g, o, none⟩))) (hv : ∀ j v, seg[j]? = some v → xs[o + j]? = some v) (ht : P.underlying t = some d) (hd : d.isRow = true) (hs' : (P.info? t).map (·.size) = some seg.length) : YF P (.load t x) ty n m (HpG G B w0 L R X) (.agg seg.toArray) :=
  yf_loadRow hx ht hd hs' fun w h j v hj => by
    obtain ⟨rest, hg⟩ := h.rowBlock hk
    have := hv j v hj
    rw [cell_of_row w g (o + j) _ _ _ hg, List.getElem?_toArray, List.getElem?_append_left (List.getElem?_eq_some_iff.1 this).1]; exact this
/-- The first i elements of a row are a row. -/
theorem Hp.trunc (h : Hp B w0 L R X w) {k len cap E size i : Nat} {A : Option Addr} {xs : List Value} (hk : R[k]? = some ⟨.slice A len cap, E, size, len, xs⟩) (hi : i ≤ len) : Hp B w0 L (R.set k ⟨.slice A i cap, E, size, i, xs.take (i * size)⟩) X w := by
  have hrow := HpG.rowAt h hk
  refine Hp.row h hk ⟨rfl, rfl, rfl, Nat.le_refl _, fun _ _ _ => rfl⟩ (ownsRow_trunc hrow hi fun _ _ hA => ?_) (.inl (by cases A <;> rfl))
  obtain ⟨_, h⟩ := hrow
  rcases h with ⟨hv, _⟩ | ⟨g, c, cur, hv, _⟩
  · injection hv
  · injection hv with a; rw [hA] at a; cases a
end
end Go.Proofs.Ytojofinofpgopaa
