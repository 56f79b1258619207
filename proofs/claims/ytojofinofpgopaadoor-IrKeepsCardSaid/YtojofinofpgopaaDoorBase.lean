/- General lemmas for walks: endings, memory words, append onto a slice of the call's own. -/
import Derived.Test.YtojofinofpgopaaDoorProg
import Derived.WalkKit
import Derived.WalkSpells
import Derived.WalkLawsBesides
import Derived.Deep.Light
import Derived.Deep.AppendLies
import Derived.Deep.Draws
import Derived.Lib.Hide
import Derived.StillTailTactics
namespace Go.Proofs.YtojofinofpgopaaDoor
open Go.RowKit

theorem ret_int {k : IntKind} {a b : Int} (h : a = b) : Ending.returned (.int k a) = .returned (.int k b) := by rw [h]
theorem ret_bool {a b : Bool} (h : a = b) : Ending.returned (.bool a) = .returned (.bool b) := by rw [h]
theorem bcell {W w1 : World} (hb : Below W.heap.size W w1) : (∀ b o, b < W.heap.size → w1.cell? ⟨b, o, none⟩ = W.cell? ⟨b, o, none⟩) ∧ (∀ b o, b < W.heap.size → w1.frozen? ⟨b, o, none⟩ = W.frozen? ⟨b, o, none⟩) :=
  ⟨fun b o h => hb.cell (p := ⟨b, o, none⟩) h, fun b o h => hb.frozen (p := ⟨b, o, none⟩) h⟩
theorem block_of_add (a : Addr) (n : Nat) : (a.add n).block = a.block := by unfold Addr.add; split <;> rfl
theorem grownBy_of_alloc {W w' : World} {o : Obj} {row : Option Nat} (hg : (W.alloc o).grownBy w' row) : W.grownBy w' row :=
  ⟨hg.os, hg.tape, hg.output, Nat.le_trans (by simp) hg.size, fun k hk hne => (hg.block k (by simp; omega) hne).trans (Below.heap_alloc W o k hk)⟩
theorem below_drewN {B : Nat} {a w : World} (h : Below B a w) (n : Nat) : Below B a (w.drewN n) := ⟨h.os, h.tape, h.output, h.size, h.block⟩

theorem below_fresh {W w1 : World} {v : Value} (hg : W.grownBy w1 v.ownBlock) (hn : v.ownBlock = none) : Below W.heap.size W w1 :=
  ⟨hg.os, hg.tape, hg.output, hg.size, fun k hk => hg.block k hk (by rw [hn]; simp)⟩
section
variable {P : Program}
/-- 'l = append(l, x..)' where x.. lie in a block that was just made: l the call's own. -/
theorem wpList_app {ops : Array Oper} {rest : List Oper} {o : Oper} {a : Act} {Q : Exit → Act → World → Prop} (W : World) (hgd : o.guard = none) (s x : Operand) (t : TypeId)
    (ho : o.op = .call { callee := .builtin .append, args := #[s, x], argTypes := #[t, t] })
    (base : Nat) (e : TypeId) (i : TypeInfo) (z : Value) (size bytes : Nat) (ht : P.underlying t = some (.slice e)) (hi : P.info? e = some i) (hz : i.zero = some z)
    (hsize : i.size = size) (hby : i.bytes = bytes) (hzs : z.cells.size = size) (hsz : 0 < size)
    (v : Value) (n : Nat) (xs : List Value) (hs : a.eval s = v) (hown : W.ownsRow base e size v n xs)
    (ad : Addr) (had : ad = ⟨W.heap.size, 0, none⟩) (m c : Nat) (news : List Value) (hx : a.eval x = .slice (some ad) m c) (hl : news.length = m * size) (h1 : ∀ u ∈ news, u.oneCell' = true)
    (hm : 0 < m) (h63 : n + m ≤ maxLen) (hbytes : (n + m) * bytes ≤ 140737488355328) (hbase : base ≤ W.heap.size)
    (h : ∀ g cap w', base ≤ g → g < w'.heap.size → w'.ownsRow base e size (.slice (some ⟨g, 0, none⟩) (n + m) cap) (n + m) (xs ++ news) → W.grownBy w' v.ownBlock → (v.ownBlock = some g ∨ W.heap.size < g) → W.heap.size < w'.heap.size →
      wpList P ops Q rest (a.put o.dst (.slice (some ⟨g, 0, none⟩) (n + m) cap)) w') : wpList P ops Q (o :: rest) a (W.alloc (.cells news.toArray e)) := by
  subst had
  have hc : ∀ j u, news[j]? = some u → (W.alloc (.cells news.toArray e)).cell? ((⟨W.heap.size, 0, none⟩ : Addr).add j) = some u := by
    intro j u hu
    have hb := heap_alloc_new W (.cells news.toArray e)
    have ha : (⟨W.heap.size, 0, none⟩ : Addr).add j = ⟨W.heap.size, j, none⟩ := by
      unfold Addr.add; split
      · next h0 => subst h0; rfl
      · simp
    rw [ha]
    unfold World.cell?
    simp only [hb]
    simpa using hu
  refine wpList_append_lies _ hgd s x t ho base e i z size bytes ht hi hz hsize hby hzs hsz v n xs hs (hown.alloc _) _ m c news hx hl hc h1 hm h63 hbytes (by simp; omega) (W.heap.size + 1) (by simp) ?_
  intro g cap w' h2 h3 h4 h5
  have hs2 := h3.size
  simp at hs2
  have hg : base ≤ g := by
    rcases h4 with h4 | h4
    · exact (hown.lt g h4).1
    · omega
  refine h g cap w' hg h5 h2 (grownBy_of_alloc h3) ?_ (by omega)
  rcases h4 with h4 | h4
  · exact .inl h4
  · exact .inr (by omega)
/-- The same onto a nil slice: the new row lies in new memory. -/
theorem wpList_app0 {ops : Array Oper} {rest : List Oper} {o : Oper} {a : Act} {Q : Exit → Act → World → Prop} (W : World) (hgd : o.guard = none) (s x : Operand) (t : TypeId)
    (ho : o.op = .call { callee := .builtin .append, args := #[s, x], argTypes := #[t, t] })
    (base : Nat) (e : TypeId) (i : TypeInfo) (z : Value) (size bytes : Nat) (ht : P.underlying t = some (.slice e)) (hi : P.info? e = some i) (hz : i.zero = some z)
    (hsize : i.size = size) (hby : i.bytes = bytes) (hzs : z.cells.size = size) (hsz : 0 < size)
    (hs : a.eval s = .slice none 0 0)
    (ad : Addr) (had : ad = ⟨W.heap.size, 0, none⟩) (m c : Nat) (news : List Value) (hx : a.eval x = .slice (some ad) m c) (hl : news.length = m * size) (h1 : ∀ u ∈ news, u.oneCell' = true)
    (hm : 0 < m) (h63 : m ≤ maxLen) (hbytes : m * bytes ≤ 140737488355328) (hbase : base ≤ W.heap.size)
    (h : ∀ g cap w', W.heap.size < g → g < w'.heap.size → w'.ownsRow base e size (.slice (some ⟨g, 0, none⟩) m cap) m news → Below W.heap.size W w' →
      wpList P ops Q rest (a.put o.dst (.slice (some ⟨g, 0, none⟩) m cap)) w') : wpList P ops Q (o :: rest) a (W.alloc (.cells news.toArray e)) := by
  refine wpList_app W hgd s x t ho base e i z size bytes ht hi hz hsize hby hzs hsz (.slice none 0 0) 0 [] hs (World.ownsRow_nil _ _ _ _) ad had m c news hx hl h1 hm (by omega) (by simpa using hbytes) hbase ?_
  intro g cap w' hg hlt hown hgrow hor hsz
  simp only [Nat.zero_add, List.nil_append] at hown ⊢
  refine h g cap w' ?_ hlt hown (below_fresh hgrow rfl)
  rcases hor with hor | hor
  · simp [Value.ownBlock] at hor
  · exact hor
end
theorem below_app {B base : Nat} {a W w' : World} {e : TypeId} {size n : Nat} {v : Value} {xs : List Value} (hb : Below B a W) (hg : W.grownBy w' v.ownBlock) (hown : W.ownsRow base e size v n xs) (h1 : B ≤ base) (h2 : B ≤ W.heap.size) : Below B a w' :=
  hb.grown hg h2 fun k hk => Nat.le_trans h1 (hown.lt k hk).1
theorem all_snoc {p : Nat → Prop} {k : Nat} (h : ∀ j, j < k → p j) (hk : p k) : ∀ j, j < k + 1 → p j := fun j hj => by
  rcases Nat.lt_or_ge j k with h1 | h1
  · exact h j h1
  · obtain rfl : j = k := by omega
    exact hk
theorem getD_at {α : Type} {l : List α} {k : Nat} {d : α} (h : k < l.length) : l.getD k d = l[k] := by
  rw [List.getD_eq_getElem?_getD, List.getElem?_eq_getElem h]; rfl
/-! ### A region that draws its order: reads (some of them guarded) ahead of a forced tail -/
/-- 'wpStill' behind a name that nothing opens. -/
@[irreducible] def StillH (P : Program) (ops : Array Oper) (w : World) (Q : Act → Prop) (l : List Oper) (a : Act) : Prop := wpStill P ops w Q l a
section
variable {P : Program} {ops : Array Oper} {w : World} {Q : Act → Prop} {a : Act} {o : Oper} {rest : List Oper}
theorem stillH_of {l : List Oper} (h : StillH P ops w Q l a) : wpStill P ops w Q l a := by unfold StillH at h; exact h
theorem stillH_nil (h : Q a) : StillH P ops w Q [] a := by unfold StillH; exact wpStill_nil h
theorem stillH_step (h : ∀ K : Act → Prop, (∀ a, StillH P ops w Q rest a → K a) → if Region.wanted o (yielded ops a.tmps) then o.still P a w K else K (a.put o.dst undef)) : StillH P ops w Q (o :: rest) a := by
  unfold StillH at *; exact wpStill_step h
theorem stillH_pass (hw : Region.wanted o (yielded ops a.tmps) = false) (h : ∀ K : Act → Prop, (∀ a, StillH P ops w Q rest a → K a) → K (a.put o.dst undef)) : StillH P ops w Q (o :: rest) a :=
  stillH_step fun K hK => by rw [if_neg (by rw [hw]; exact Bool.false_ne_true)]; exact h K hK
theorem wp_still_tail {id : Nat} {Q : Exit → Act → World → Prop} {a : Act} {w : World} {l : List Oper} (n : Nat) (hm : P.follows .mixedOrders = true) (hB : Region.lexTailB .any l.toArray n = true)
    (h : ∀ K : Act → Prop, (∀ a', wpList P l.toArray Q (l.drop n) a' w.drew → K a') → StillH P l.toArray w.drew K (l.take n) a) : (Code.region id l.toArray true).wp P Q a w :=
  wp_region_still_tail n hm hB (stillH_of (h _ fun _ hh => hh))
end
/-! ### Maps with integer keys that the call makes -/
section
variable {P : Program} {w : World}
theorem run_update_new {T K E : TypeId} {r c : Nat} {es : Array MapEntry} {n : Int} {v : Value} (hT : P.underlying T = some (.map K E)) (hK : P.underlying K = some (.int .i64))
    (hr : w.heap[r]? = some (.map es c)) (hf : Instr.findNow (.int .i64) (.int .i64 n) es.toList 0 = some none) :
    (Instr.mapUpdate T (.map (some r)) (.int .i64 n) v).run P w = .ok () { w with heap := w.heap.setIfInBounds r (.map (es.push { key := .int .i64 n, val := v, born := c }) (c + 1)) } := by
  have hc : (Instr.checkKey false 10000 K (.int .i64 n)).run P w = .ok () w := MapKept.run_checkKey (k := .int .i64 n) hK (by simp [MapKept.IsKey]) false 9999
  simp [Instr.mapUpdate, run_underlying hT, MapKept.run_getObj_map hr, hc, MapKept.run_findKey hK hf, MapKept.run_setObj_map _ hr, Result.andThen]
theorem wpList_insert {ops : Array Oper} {rest : List Oper} {o : Oper} {a : Act} {Q : Exit → Act → World → Prop} (hgd : o.guard = none) (T : TypeId) (m k v : Operand) (ho : o.op = .insert T m k v)
    {K E : TypeId} (hT : P.underlying T = some (.map K E)) (hK : P.underlying K = some (.int .i64)) (r c : Nat) (es : Array MapEntry) (n : Int) (x : Value) (hm : a.eval m = .map (some r)) (hk : a.eval k = .int .i64 n) (hx : a.eval v = x)
    (hr : w.heap[r]? = some (.map es c)) (hf : Instr.findNow (.int .i64) (.int .i64 n) es.toList 0 = some none)
    (h : ∀ w', w'.heap[r]? = some (.map (es.push { key := .int .i64 n, val := x, born := c }) (c + 1)) → w.grownBy w' (some r) → wpList P ops Q rest (a.put o.dst undef) w') : wpList P ops Q (o :: rest) a w := by
  refine wpList_plain hgd fun K' hK' => ?_
  unfold Oper.wp
  have hrun := run_update_new (v := x) hT hK hr hf
  simp [execOp, ho, hm, hk, hx, hrun, Result.andThen]
  have hs := MapKept.heap_set (o' := .map (es.push { key := .int .i64 n, val := x, born := c }) (c + 1)) hr
  exact hK' _ _ (h _ hs.1 ⟨rfl, rfl, rfl, by simp, fun j _ hne => hs.2 j (fun e => hne (by rw [e]))⟩)
theorem run_lookup_at {T K E : TypeId} {r c : Nat} {es : Array MapEntry} {n : Int} {i : Nat} {v : Value} (hT : P.underlying T = some (.map K E)) (hK : P.underlying K = some (.int .i64))
    (hr : w.heap[r]? = some (.map es c)) (hf : Instr.findNow (.int .i64) (.int .i64 n) es.toList 0 = some (some (i, v))) :
    (Instr.lookup T (.map (some r)) (.int .i64 n) true).run P w = .ok (.tuple #[v, .bool true]) w := by
  have hc : (Instr.checkKey es.isEmpty 10000 K (.int .i64 n)).run P w = .ok () w := MapKept.run_checkKey (k := .int .i64 n) hK (by simp [MapKept.IsKey]) _ 9999
  simp [Instr.lookup, run_underlying hT, MapKept.run_getObj_map hr, hc, MapKept.run_findKey hK hf, Result.andThen]
theorem run_lookup_none {T K E : TypeId} {r c : Nat} {es : Array MapEntry} {n : Int} {z : Value} (hT : P.underlying T = some (.map K E)) (hK : P.underlying K = some (.int .i64)) (hz : (zeroValue E).run P w = .ok z w)
    (hr : w.heap[r]? = some (.map es c)) (hf : Instr.findNow (.int .i64) (.int .i64 n) es.toList 0 = some none) :
    (Instr.lookup T (.map (some r)) (.int .i64 n) true).run P w = .ok (.tuple #[z, .bool false]) w := by
  have hc : (Instr.checkKey es.isEmpty 10000 K (.int .i64 n)).run P w = .ok () w := MapKept.run_checkKey (k := .int .i64 n) hK (by simp [MapKept.IsKey]) _ 9999
  simp [Instr.lookup, run_underlying hT, MapKept.run_getObj_map hr, hc, MapKept.run_findKey hK hf, hz, Result.andThen]
end
end Go.Proofs.YtojofinofpgopaaDoor
