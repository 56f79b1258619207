/- Arguments opened: a block, an operation, slices of numbers. -/
import Derived.Test.YtojofinofpgopaaDoorSeat
import Derived.Test.YtojofinofpgopaaDoorIrF0
namespace Go.Proofs.YtojofinofpgopaaDoor
open Go.Joins Go.ChangeShapes Go.WideShapes Go.ChangeAt Go.RowKit Go.Deep
section
variable {H : Type} {enc : TypeId × Value → H} {P : Program} {w : World} {base : Nat} {spare : Nat → Bool} {held : Bool}
theorem open_slice_fields {t e : TypeId} {fs : Array Field} {fuel : Nat} {cs : List Value} {x : DataW H × List MemPlace} (ht : P.underlying t = some (.slice e)) (he : P.underlying e = some (.struct fs))
    (hone : oneCellFields P fs = true) (hC : P.cellsOf e = fs.size) (h : DataW.trod enc P w base spare held fuel t cs = some x) :
    (cs = [.slice none 0 0] ∧ x = (.nil, [])) ∨
    ∃ (a : Addr) (len cap m : Nat) (D : Nat → DataW H) (Pl : Nat → List MemPlace), cs = [.slice (some a) len cap] ∧ base ≤ a.block ∧ len ≤ cap ∧ cap ≤ maxLen ∧ m = (if spare a.block then cap else len) ∧
      x = (.slice ((List.range len).map D) ((List.range (m - len)).map fun j => D (len + j)), MemPlace.row a (m * fs.size) ++ (List.range m).flatMap Pl) ∧
      ∀ i, i < m → ∃ (ys : List (DataW H × List MemPlace)) (n : Nat), D i = .agg (ys.map (·.1)) ∧ Pl i = ys.flatMap (·.2) ∧ ys.length = fs.size ∧
        ∀ (j : Nat) (f : Field), fs[j]? = some f → ∃ (v : Value) (y : DataW H × List MemPlace), w.cell? (a.add (i * fs.size + j)) = some v ∧ ys[j]? = some y ∧ DataW.trod enc P w base spare held n f.type [v] = some y := by
  rcases open_slice ht h with h0 | ⟨a, len, cap, m, n, D, Pl, hcs, hb, hl, hm, hmm, hx, hi⟩
  · exact .inl h0
  · refine .inr ⟨a, len, cap, m, D, Pl, hcs, hb, hl, hm, hmm, by rw [hC] at hx; exact hx, fun i him => ?_⟩
    obtain ⟨cs', hc, ht'⟩ := hi i him
    rw [hC] at hc
    obtain ⟨ys, n', hn', hy, hlen, hyl, hf⟩ := DataW.trod_struct he ht'
    obtain ⟨_, hcl, hat⟩ := World.cells?_some hc
    simp only [Prod.mk.injEq] at hy
    refine ⟨ys, n', hy.1, hy.2, hyl, fun j f hj => ?_⟩
    obtain ⟨ho, hk⟩ := hone_of hone j f hj
    have hjl : j < fs.size := (Array.getElem?_eq_some_iff.1 hj).1
    have hcell := hat j hjl
    have hv : cs'[j]? = some (cs'[j]'(by omega)) := List.getElem?_eq_getElem (by omega)
    have h1 := hf j f hj
    rw [ho, hk] at h1
    have hone' : (cs'.drop j).take 1 = [cs'[j]'(by omega)] := by
      rw [List.drop_eq_getElem_cons (by omega)]
      rfl
    rw [hone'] at h1
    have hys : ys[j]? = some (ys[j]'(by omega)) := List.getElem?_eq_getElem (by omega)
    refine ⟨_, _, ?_, hys, h1.trans hys⟩
    rw [← Go.Deep.add_add, hcell, hv]
theorem open_agg5 {r : Reach} {b0 : Nat} {t : TypeId} {f0 f1 f2 f3 f4 : Field} {v : Value} {d : DataW H} {p : List MemPlace} (hs : P.underlying t = some (.struct #[f0, f1, f2, f3, f4])) (hone : oneCellFields P #[f0, f1, f2, f3, f4] = true) (hC : P.cellsOf t = 5)
    (hv : Value.okWide P w r b0 t v) (h : DataW.Trod enc P w base spare held t v d p) :
    ∃ (v0 v1 v2 v3 v4 : Value) (y0 y1 y2 y3 y4 : DataW H × List MemPlace) (n : Nat), v = .agg #[v0, v1, v2, v3, v4] ∧
      DataW.trod enc P w base spare held n f0.type [v0] = some y0 ∧ DataW.trod enc P w base spare held n f1.type [v1] = some y1 ∧ DataW.trod enc P w base spare held n f2.type [v2] = some y2 ∧ DataW.trod enc P w base spare held n f3.type [v3] = some y3 ∧ DataW.trod enc P w base spare held n f4.type [v4] = some y4 := by
  obtain ⟨cs, rfl, hsz⟩ := okWide_struct hs hv
  obtain ⟨l⟩ := cs
  match l, hsz.trans hC with
  | [c0, c1, c2, c3, c4], _ =>
    obtain ⟨fuel, hf⟩ := h
    obtain ⟨xs, n, _, hx, _, hlen, hg⟩ := DataW.trod_struct hs hf
    obtain ⟨o0, k0⟩ := hone_of hone 0 f0 rfl
    obtain ⟨o1, k1⟩ := hone_of hone 1 f1 rfl
    obtain ⟨o2, k2⟩ := hone_of hone 2 f2 rfl
    obtain ⟨o3, k3⟩ := hone_of hone 3 f3 rfl
    obtain ⟨o4, k4⟩ := hone_of hone 4 f4 rfl
    match xs, hlen with
    | [y0, y1, y2, y3, y4], _ =>
      exact ⟨c0, c1, c2, c3, c4, y0, y1, y2, y3, y4, n, rfl, by simpa [Value.cells, o0, k0] using hg 0 f0 rfl, by simpa [Value.cells, o1, k1] using hg 1 f1 rfl, by simpa [Value.cells, o2, k2] using hg 2 f2 rfl, by simpa [Value.cells, o3, k3] using hg 3 f3 rfl, by simpa [Value.cells, o4, k4] using hg 4 f4 rfl⟩
end
theorem cell_lt {w : World} {b o : Nat} {v : Value} (h : w.cell? ⟨b, o, none⟩ = some v) : b < w.heap.size := by
  rcases Nat.lt_or_ge b w.heap.size with h1 | h1
  · exact h1
  · unfold World.cell? at h
    simp [Array.getElem?_eq_none h1] at h
theorem list_of {α : Type} {p : Nat → α → Prop} (d : α) : ∀ n, (∀ i, i < n → ∃ x, p i x) → ∃ l : List α, l.length = n ∧ ∀ i, i < n → p i (l.getD i d)
  | 0, _ => ⟨[], rfl, fun i hi => by omega⟩
  | n + 1, h => by
    obtain ⟨l, hl, hp⟩ := list_of d n (fun i hi => h i (by omega))
    obtain ⟨x, hx⟩ := h n (by omega)
    refine ⟨l ++ [x], by simp [hl], fun i hi => ?_⟩
    rcases Nat.lt_or_ge i n with h1 | h1
    · have := hp i h1
      rw [List.getD_eq_getElem?_getD, List.getElem?_append_left (by omega), ← List.getD_eq_getElem?_getD]; exact this
    · obtain rfl : i = n := by omega
      have : (l ++ [x]).getD i d = x := by rw [List.getD_eq_getElem?_getD, List.getElem?_append_right (by omega)]; simp [hl]
      rw [this]; exact hx
theorem wf_u32 {n : Int} (h : (Lit.int .u32 n).wf = true) : U32 n := by
  have := bounds_u32 h
  exact ⟨this.1, by omega⟩
section
variable {H : Type} {enc : TypeId × Value → H} {w : World} {base : Nat} {held : Bool} {fuel : Nat} {v : Value} {y : DataW H × List MemPlace}
/-- A slice of numbers, opened. -/
theorem open_arr {t e : TypeId} {k : IntKind} (ht : Tryd.prog.underlying t = some (.slice e)) (he : Tryd.prog.underlying e = some (.int k)) (hc : Tryd.prog.cellsOf e = 1)
    (h : DataW.trod enc Tryd.prog w base (fun _ => true) held fuel t [v] = some y) :
    ∃ A cap, ∃ l : List Int, v = .slice A l.length cap ∧ l.length ≤ cap ∧ cap ≤ maxLen ∧ Arr w w.heap.size A (l.map (Value.int k)) ∧ ∀ n ∈ l, (Lit.int k n).wf = true := by
  rcases open_ints ht he hc h with ⟨hcs, _⟩ | ⟨a, len, cap, zs, hcs, _, hl, hm, hz, _, hcell, hw⟩
  · refine ⟨none, 0, [], by simpa using hcs, by simp, by unfold maxLen; omega, fun h0 => by simp at h0, fun n hn => by simp at hn⟩
  · simp only [if_true] at hz
    refine ⟨some a, cap, zs.take len, ?_, ?_, hm, fun h0 => ?_, fun n hn => hw n (List.mem_of_mem_take hn)⟩
    · have : (zs.take len).length = len := by rw [List.length_take]; omega
      rw [this]; simpa using hcs
    · rw [List.length_take]; omega
    · simp only [List.length_map, List.length_take] at h0
      obtain ⟨b, off, rfl, hc'⟩ := ints_at hcell (by omega)
      refine ⟨b, off, rfl, cell_lt (hc' 0 (by omega)), fun i hi => ?_⟩
      simp only [List.length_map, List.length_take] at hi
      rw [hc' i (by omega)]
      simp [List.getD_eq_getElem?_getD, List.getElem?_take_of_lt (show i < len by omega), show i < zs.length by omega]
set_option maxRecDepth 100000 in
/-- A slice of operations, opened. -/
theorem open_ops (h : DataW.trod enc Tryd.prog w base (fun _ => true) held fuel 26 [v] = some y) :
    ∃ A cap, ∃ l : List IOp, v = .slice A l.length cap ∧ l.length ≤ cap ∧ cap ≤ maxLen ∧ OpsArr w w.heap.size A l ∧ ∀ k, k < l.length → U32 (l.getD k noOp).n := by
  rcases open_slice_fields Tryd.underlying26 Tryd.underlying53 (by kernel_rfl) (by kernel_rfl) h with ⟨hcs, _⟩ | ⟨a, len, cap, m, D, Pl, hcs, _, hl, hm, hmm, _, hel⟩
  · refine ⟨none, 0, [], by simpa using hcs, by simp, by unfold maxLen; omega, fun h0 => by simp at h0, fun n hn => by simp at hn⟩
  · simp only [if_true] at hmm
    subst hmm
    have each : ∀ i, i < len → ∃ o : IOp, (w.cell? (a.add (i * 5 + 0)) = some (.int .i64 o.code) ∧ w.cell? (a.add (i * 5 + 1)) = some (.int .i64 o.d) ∧ w.cell? (a.add (i * 5 + 2)) = some (.int .i64 o.a) ∧ w.cell? (a.add (i * 5 + 3)) = some (.int .i64 o.b) ∧ w.cell? (a.add (i * 5 + 4)) = some (.int .u32 o.n)) ∧ U32 o.n := by
      intro i hi
      obtain ⟨ys, n, _, _, _, hf⟩ := hel i (by omega)
      obtain ⟨v0, y0, k0, _, t0⟩ := hf 0 _ rfl
      obtain ⟨v1, y1, k1, _, t1⟩ := hf 1 _ rfl
      obtain ⟨v2, y2, k2, _, t2⟩ := hf 2 _ rfl
      obtain ⟨v3, y3, k3, _, t3⟩ := hf 3 _ rfl
      obtain ⟨v4, y4, k4, _, t4⟩ := hf 4 _ rfl
      obtain ⟨a0, e0, _, _⟩ := DataW.trod_int Tryd.underlying3 t0
      obtain ⟨a1, e1, _, _⟩ := DataW.trod_int Tryd.underlying3 t1
      obtain ⟨a2, e2, _, _⟩ := DataW.trod_int Tryd.underlying3 t2
      obtain ⟨a3, e3, _, _⟩ := DataW.trod_int Tryd.underlying3 t3
      obtain ⟨a4, e4, _, w4⟩ := DataW.trod_int Tryd.underlying35 t4
      simp only [List.cons.injEq, and_true] at e0 e1 e2 e3 e4
      subst e0 e1 e2 e3 e4
      exact ⟨⟨a0, a1, a2, a3, a4⟩, ⟨k0, k1, k2, k3, k4⟩, wf_u32 w4⟩
    obtain ⟨l, hlen, hp⟩ := list_of noOp len each
    refine ⟨some a, m, l, by rw [hlen]; simpa using hcs, by omega, hm, fun h0 => ?_, fun k hk => (hp k (by omega)).2⟩
    have h00 := (hp 0 (by omega)).1.1
    obtain ⟨b, off, spot⟩ := a
    have hspot : spot = none := by simpa [Addr.add] using World.cell?_spot h00
    subst hspot
    refine ⟨b, off, rfl, ?_, fun i hi => ?_⟩
    · rw [Go.WideShapes.add_plain] at h00; exact cell_lt h00
    · obtain ⟨⟨k0, k1, k2, k3, k4⟩, _⟩ := hp i (by omega)
      rw [Go.WideShapes.add_plain] at k0 k1 k2 k3 k4
      exact ⟨by simpa [Nat.add_assoc] using k0, by simpa [Nat.add_assoc] using k1, by simpa [Nat.add_assoc] using k2, by simpa [Nat.add_assoc] using k3, by simpa [Nat.add_assoc] using k4⟩
end
set_option maxRecDepth 100000 in
theorem open_op {H : Type} {enc : TypeId × Value → H} {w : World} {base : Nat} {spare : Nat → Bool} {held : Bool} {r : Reach} {b0 : Nat} {v : Value} {d : DataW H} {p : List MemPlace}
    (hv : Value.okWide Tryd.prog w r b0 53 v) (h : DataW.Trod enc Tryd.prog w base spare held 53 v d p) : ∃ o : IOp, v = .agg o.v ∧ U32 o.n := by
  obtain ⟨v0, v1, v2, v3, v4, y0, y1, y2, y3, y4, n, rfl, h0, h1, h2, h3, h4⟩ := open_agg5 Tryd.underlying53 (by kernel_rfl) (by kernel_rfl) hv h
  obtain ⟨a0, e0, _, _⟩ := DataW.trod_int Tryd.underlying3 h0
  obtain ⟨a1, e1, _, _⟩ := DataW.trod_int Tryd.underlying3 h1
  obtain ⟨a2, e2, _, _⟩ := DataW.trod_int Tryd.underlying3 h2
  obtain ⟨a3, e3, _, _⟩ := DataW.trod_int Tryd.underlying3 h3
  obtain ⟨a4, e4, _, w4⟩ := DataW.trod_int Tryd.underlying35 h4
  simp only [List.cons.injEq, and_true] at e0 e1 e2 e3 e4
  subst e0 e1 e2 e3 e4
  exact ⟨⟨a0, a1, a2, a3, a4⟩, rfl, wf_u32 w4⟩
set_option maxRecDepth 100000 in
/-- A block, opened. -/
theorem open_blk {H : Type} {enc : TypeId × Value → H} {w : World} {base : Nat} {held : Bool} {r : Reach} {b0 : Nat} {v : Value} {d : DataW H} {p : List MemPlace}
    (hv : Value.okWide Tryd.prog w r b0 28 v) (h : DataW.Trod enc Tryd.prog w base (fun _ => true) held 28 v d p) :
    ∃ aA aP aO cA cP cO, ∃ b : IBlk, v = blkV aA aP aO cA cP cO b ∧ BlkAt w w.heap.size aA aP aO b ∧ (∀ k, k < b.ops.length → U32 (b.ops.getD k noOp).n) ∧ b.at_.length ≤ cA ∧ b.pages.length ≤ cP ∧ b.ops.length ≤ cO ∧ ∀ n ∈ b.at_, U32 n := by
  obtain ⟨v0, v1, v2, y0, y1, y2, n, rfl, _, _, h0, h1, h2⟩ := open_agg3 Tryd.underlying28 (by kernel_rfl) (by kernel_rfl) hv h
  obtain ⟨aA, cA, lA, rfl, hA, mA, kA, wA⟩ := open_arr Tryd.underlying25 Tryd.underlying35 (by kernel_rfl) h0
  obtain ⟨aP, cP, lP, rfl, hP, mP, kP, _⟩ := open_arr Tryd.underlying22 Tryd.underlying3 (by kernel_rfl) h1
  obtain ⟨aO, cO, lO, rfl, hO, mO, kO, nO⟩ := open_ops h2
  exact ⟨aA, aP, aO, cA, cP, cO, ⟨lA, lP, lO⟩, rfl, ⟨kA, kP, kO, Nat.le_trans hA mA, Nat.le_trans hP mP, Nat.le_trans hO mO⟩, nO, hA, hP, hO, fun n hn => wf_u32 (wA n hn)⟩
end Go.Proofs.YtojofinofpgopaaDoor
