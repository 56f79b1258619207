/- Operations, one by one, on symbolic states. -/
import Derived.Test.YtojofinofpgopaaSxC
import Derived.Deep.MidRow
namespace Go.Proofs.Ytojofinofpgopaa
open Go.RowKit
attribute [local simp] Result.andThen

/-- A block of cells. -/
abbrev bk (T : TypeId) (cs : List Value) : Obj := .cells cs.toArray T (0, 0)
section
variable {P : Program} {n : Nat} {m : List (Nat × Value)} {H : World → Prop} {ty : TypeId}
/-! ### Operations that look at no memory -/
theorem yf_move {x : Operand} {v : Value} (hx : ev m x = some v) : YF P (.move x) ty n m H v := fun a w d pos af g hs hw => by simp [Yl, execOp, hs.ev hx]
theorem yf_assign {x : Operand} {v : Value} (hx : ev m x = some v) : YF P (.assign x) ty n m H v := fun a w d pos af g hs hw => by simp [Yl, execOp, hs.ev hx]
theorem yf_pick {c x y : Operand} {b : Bool} {u v : Value} (hc : ev m c = some (.bool b)) (hx : ev m x = some u) (hy : ev m y = some v) : YF P (.pick c x y) ty n m H (bif b then u else v) := fun a w d pos af g hs hw => by
  simp [Yl, execOp, hs.ev hc, hs.ev hx, hs.ev hy, asBool]
theorem yf_pickT {c x y : Operand} {u : Value} (hc : ev m c = some (.bool true)) (hx : ev m x = some u) : YF P (.pick c x y) ty n m H u := fun a w d pos af g hs hw => by
  simp [Yl, execOp, hs.ev hc, hs.ev hx, asBool]
theorem yf_pickF {c x y : Operand} {v : Value} (hc : ev m c = some (.bool false)) (hy : ev m y = some v) : YF P (.pick c x y) ty n m H v := fun a w d pos af g hs hw => by
  simp [Yl, execOp, hs.ev hc, hs.ev hy, asBool]
theorem yf_nilCheck {x : Operand} {p : Addr} (hx : ev m x = some (.pointer (some p))) : YF P (.nilCheck x) ty n m H (.pointer (some p)) := fun a w d pos af g hs hw => by
  simp [Yl, execOp, hs.ev hx]
section
variable {x y : Operand} {k : IntKind} {a b c : Int} {t t' : TypeId}
theorem yf_add (hx : ev m x = some (.int k a)) (hy : ev m y = some (.int k b)) (hc : k.wrap (a + b) = c) : YF P (.binOp .add t x y t') ty n m H (.int k c) := fun _ w d pos af g hs hw => by
  simp [Yl, execOp, hs.ev hx, hs.ev hy, binOp, Op.intArith, eqGuard_add, hc]
theorem yf_sub (hx : ev m x = some (.int k a)) (hy : ev m y = some (.int k b)) (hc : k.wrap (a - b) = c) : YF P (.binOp .sub t x y t') ty n m H (.int k c) := fun _ w d pos af g hs hw => by
  simp [Yl, execOp, hs.ev hx, hs.ev hy, binOp, Op.intArith, eqGuard_sub, hc]
theorem yf_mul (hx : ev m x = some (.int k a)) (hy : ev m y = some (.int k b)) (hc : k.wrap (a * b) = c) : YF P (.binOp .mul t x y t') ty n m H (.int k c) := fun _ w d pos af g hs hw => by
  simp [Yl, execOp, hs.ev hx, hs.ev hy, binOp, Op.intArith, eqGuard_mul, hc]
theorem yf_quo (hx : ev m x = some (.int k a)) (hy : ev m y = some (.int k b)) (h0 : b ≠ 0) (hc : k.wrap (a.tdiv b) = c) : YF P (.binOp .quo t x y t') ty n m H (.int k c) := fun _ w d pos af g hs hw => by
  simp [Yl, execOp, hs.ev hx, hs.ev hy, binOp, Op.intDiv, eqGuard_quo, hc, h0]
theorem yf_rem (hx : ev m x = some (.int k a)) (hy : ev m y = some (.int k b)) (h0 : b ≠ 0) (hc : a.tmod b = c) : YF P (.binOp .rem t x y t') ty n m H (.int k c) := fun _ w d pos af g hs hw => by
  simp [Yl, execOp, hs.ev hx, hs.ev hy, binOp, Op.intDiv, eqGuard_rem, hc, h0]
theorem yf_and (hx : ev m x = some (.int k a)) (hy : ev m y = some (.int k b)) (hc : bits .and k a b = c) : YF P (.binOp .and t x y t') ty n m H (.int k c) := fun _ w d pos af g hs hw => by
  simp [Yl, execOp, hs.ev hx, hs.ev hy, binOp, intBits_and, eqGuard_and, hc]
theorem yf_or (hx : ev m x = some (.int k a)) (hy : ev m y = some (.int k b)) (hc : bits .or k a b = c) : YF P (.binOp .or t x y t') ty n m H (.int k c) := fun _ w d pos af g hs hw => by
  simp [Yl, execOp, hs.ev hx, hs.ev hy, binOp, intBits_or, eqGuard_or, hc]
theorem yf_xor (hx : ev m x = some (.int k a)) (hy : ev m y = some (.int k b)) (hc : bits .xor k a b = c) : YF P (.binOp .xor t x y t') ty n m H (.int k c) := fun _ w d pos af g hs hw => by
  simp [Yl, execOp, hs.ev hx, hs.ev hy, binOp, intBits_xor, eqGuard_xor, hc]
theorem yf_andNot (hx : ev m x = some (.int k a)) (hy : ev m y = some (.int k b)) (hc : bits .andNot k a b = c) : YF P (.binOp .andNot t x y t') ty n m H (.int k c) := fun _ w d pos af g hs hw => by
  simp [Yl, execOp, hs.ev hx, hs.ev hy, binOp, intBits_andNot, eqGuard_andNot, hc]
theorem yf_shl {k' : IntKind} (hx : ev m x = some (.int k a)) (hy : ev m y = some (.int k' b)) (h0 : 0 ≤ b) (hc : k.wrap (a * 2 ^ (min b.toNat k.bits)) = c) : YF P (.binOp .shl t x y t') ty n m H (.int k c) := fun _ w d pos af g hs hw => by
  simp [Yl, execOp, hs.ev hx, hs.ev hy, binOp, Op.shift, eqGuard_shl, hc, Int.not_lt.2 h0]
theorem yf_shr {k' : IntKind} (hx : ev m x = some (.int k a)) (hy : ev m y = some (.int k' b)) (h0 : 0 ≤ b) (hc : a.fdiv (2 ^ (min b.toNat k.bits)) = c) : YF P (.binOp .shr t x y t') ty n m H (.int k c) := fun _ w d pos af g hs hw => by
  simp [Yl, execOp, hs.ev hx, hs.ev hy, binOp, Op.shift, eqGuard_shr, hc, Int.not_lt.2 h0]
theorem yf_eql (hx : ev m x = some (.int k a)) (hy : ev m y = some (.int k b)) : YF P (.binOp .eql t x y t') ty n m H (.bool (a == b)) := fun _ w d pos af g hs hw => by
  simp [Yl, execOp, hs.ev hx, hs.ev hy, binOp, Op.intCmp, eqGuard_at_int]
theorem yf_neq (hx : ev m x = some (.int k a)) (hy : ev m y = some (.int k b)) : YF P (.binOp .neq t x y t') ty n m H (.bool (a != b)) := fun _ w d pos af g hs hw => by
  simp [Yl, execOp, hs.ev hx, hs.ev hy, binOp, Op.intCmp, eqGuard_at_int]
theorem yf_lss (hx : ev m x = some (.int k a)) (hy : ev m y = some (.int k b)) : YF P (.binOp .lss t x y t') ty n m H (.bool (decide (a < b))) := fun _ w d pos af g hs hw => by
  simp [Yl, execOp, hs.ev hx, hs.ev hy, binOp, Op.intCmp, eqGuard_at_int]
theorem yf_leq (hx : ev m x = some (.int k a)) (hy : ev m y = some (.int k b)) : YF P (.binOp .leq t x y t') ty n m H (.bool (decide (a ≤ b))) := fun _ w d pos af g hs hw => by
  simp [Yl, execOp, hs.ev hx, hs.ev hy, binOp, Op.intCmp, eqGuard_at_int]
theorem yf_gtr (hx : ev m x = some (.int k a)) (hy : ev m y = some (.int k b)) : YF P (.binOp .gtr t x y t') ty n m H (.bool (decide (b < a))) := fun _ w d pos af g hs hw => by
  simp [Yl, execOp, hs.ev hx, hs.ev hy, binOp, Op.intCmp, eqGuard_at_int]
theorem yf_geq (hx : ev m x = some (.int k a)) (hy : ev m y = some (.int k b)) : YF P (.binOp .geq t x y t') ty n m H (.bool (decide (b ≤ a))) := fun _ w d pos af g hs hw => by
  simp [Yl, execOp, hs.ev hx, hs.ev hy, binOp, Op.intCmp, eqGuard_at_int]
theorem yf_not {p : Bool} (hx : ev m x = some (.bool p)) : YF P (.unOp .not t x) ty n m H (.bool (!p)) := fun _ w d pos af g hs hw => by
  simp [Yl, execOp, hs.ev hx, Op.unary]
theorem yf_neg (hx : ev m x = some (.int k a)) (hc : k.wrap (0 - a) = c) : YF P (.unOp .neg t x) ty n m H (.int k c) := fun _ w d pos af g hs hw => by
  simp [Yl, execOp, hs.ev hx, Op.unary, Op.intArith]; simpa using hc
theorem yf_cpl (hx : ev m x = some (.int k a)) (hc : bits .xor k (if k.signed then -1 else k.max) a = c) : YF P (.unOp .xor t x) ty n m H (.int k c) := fun _ w d pos af g hs hw => by
  simp [Yl, execOp, hs.ev hx, unary_xor, intBits_xor, hc]
theorem yf_conv {k' : IntKind} (hx : ev m x = some (.int k a)) (h1 : (P.underlying t).isSome = true) (h2 : P.underlying t' = some (.int k')) (hc : k'.wrap a = c) : YF P (.convert t t' x) ty n m H (.int k' c) := fun _ w d pos af g hs hw => by
  obtain ⟨s, hs1⟩ := Option.isSome_iff_exists.1 h1
  simp [Yl, execOp, hs.ev hx, convert, run_underlying hs1, run_underlying h2, Conv.intToInt, hc]
theorem yf_extract {i : Nat} {vs : Array Value} {v : Value} (hx : ev m x = some (.tuple vs)) (hv : vs[i]? = some v) : YF P (.extract x i) ty n m H v := fun _ w d pos af g hs hw => by
  simp [Yl, execOp, hs.ev hx, Instr.extract, hv]
theorem yf_lenS {e : TypeId} {p : Option Addr} {l cap : Nat} (hx : ev m x = some (.slice p l cap)) (ht : P.underlying t = some (.slice e)) : YF P (.call { callee := .builtin .len, args := #[x], argTypes := #[t] }) ty n m H (.int .i64 l) := fun _ w d pos af g hs hw => by
  simp [Yl, execOp, resolve, invoke, builtin, hs.ev hx, Builtin.len_, run_underlying ht, goInt]
theorem yf_lenStr {s : ByteArray} (hx : ev m x = some (.string s)) (ht : P.underlying t = some .string) : YF P (.call { callee := .builtin .len, args := #[x], argTypes := #[t] }) ty n m H (.int .i64 s.size) := fun _ w d pos af g hs hw => by
  simp [Yl, execOp, resolve, invoke, builtin, hs.ev hx, Builtin.len_, run_underlying ht, goInt]
theorem yf_min {ts : Array TypeId} (hx : ev m x = some (.int k a)) (hy : ev m y = some (.int k b)) : YF P (.call { callee := .builtin .min, args := #[x, y], argTypes := ts }) ty n m H (.int k (if b < a then b else a)) := fun _ w d pos af g hs hw => by
  simp [Yl, execOp, resolve, invoke, builtin, hs.ev hx, hs.ev hy, Builtin.min_, Builtin.min2]
theorem yf_max {ts : Array TypeId} (hx : ev m x = some (.int k a)) (hy : ev m y = some (.int k b)) : YF P (.call { callee := .builtin .max, args := #[x, y], argTypes := ts }) ty n m H (.int k (if b > a then b else a)) := fun _ w d pos af g hs hw => by
  simp [Yl, execOp, resolve, invoke, builtin, hs.ev hx, hs.ev hy, Builtin.max_, Builtin.max2]
end
/-! ### Addresses, reads -/
section
variable {x y : Operand} {t e : TypeId} {g o : Nat}
theorem run_sizeOf {t : TypeId} {s : Nat} (h : (P.info? t).map (·.size) = some s) (w : World) : (sizeOf t).run P w = .ok s w := by
  cases hq : P.info? t with
  | none => simp [hq] at h
  | some i => simp [hq] at h; subst h; simp [sizeOf, typeInfo, hq]
theorem yf_fieldAddr {i off c : Nat} {fs : Array Field} {sz : Nat} (hx : ev m x = some (.pointer (some ⟨g, o, none⟩))) (ht : P.underlying t = some (.struct fs)) (hf : (fs[i]?).map (fun f => (f.offset, (P.info? f.type).map (·.size))) = some (off, some (sz + 1))) (hc : o + off = c) :
    YF P (.fieldAddr t x i) ty n m H (.pointer (some ⟨g, c, none⟩)) := fun _ w d pos af gd hs hw => by
  cases hq : fs[i]? with
  | none => simp [hq] at hf
  | some f =>
    simp [hq] at hf
    obtain ⟨h1, j, h2, h3⟩ := hf
    subst hc; subst h1
    simp [Yl, execOp, hs.ev hx, Instr.fieldAt, run_underlying ht, hq, Instr.sureAddr, fieldPlace, run_sizeOf (P := P) (t := f.type) (s := sz + 1) (by simp [h2, h3]), Addr.add_mid]
theorem yf_indexAddrS {k : IntKind} {len cap j es c : Nat} {i : Int} (hx : ev m x = some (.slice (some ⟨g, o, none⟩) len cap)) (hy : ev m y = some (.int k i)) (ht : P.underlying t = some (.slice e)) (hs' : (P.info? e).map (·.size) = some es) (hi : i = j) (hj : j < len) (hc : o + j * es = c) :
    YF P (.indexAddr t x y) ty n m H (.pointer (some ⟨g, c, none⟩)) := fun _ w d pos af gd hs hw => by
  subst hi; subst hc
  simp [Yl, execOp, hs.ev hx, hs.ev hy, Instr.indexAt, asIntOf, run_underlying ht, run_sizeOf hs', hj, Addr.add_mid]
theorem yf_indexAddrA {k : IntKind} {len j es c : Nat} {i : Int} (hx : ev m x = some (.pointer (some ⟨g, o, none⟩))) (hy : ev m y = some (.int k i)) (ht : P.underlying t = some (.array len e)) (hs' : (P.info? e).map (·.size) = some es) (hi : i = j) (hj : j < len) (hc : o + j * es = c) :
    YF P (.indexAddr t x y) ty n m H (.pointer (some ⟨g, c, none⟩)) := fun _ w d pos af gd hs hw => by
  subst hi; subst hc
  simp [Yl, execOp, hs.ev hx, hs.ev hy, Instr.indexAt, asIntOf, run_underlying ht, run_sizeOf hs', hj, Addr.add_mid, Instr.sureAddr]
/-- A variable of one cell. -/
theorem yf_load {d : TypeDesc} {v : Value} (hx : ev m x = some (.pointer (some ⟨g, o, none⟩))) (ht : P.underlying t = some d) (hd : d.isRow = false) (hc : ∀ w, H w → w.cell? ⟨g, o, none⟩ = some v) : YF P (.load t x) ty n m H v := fun _ w dd pos af gd hs hw => by
  have hagg : (isAgg t).run P w = .ok false w := by
    unfold isAgg
    rw [Sem.run_bind, run_underlying ht w]
    cases d <;> simp_all
  simp [Yl, execOp, hs.ev hx, Instr.loadAt, Instr.sureAddr, loadVar, hagg, hc w hw]
/-- A struct or an array. -/
theorem yf_loadRow {d : TypeDesc} {cs : List Value} (hx : ev m x = some (.pointer (some ⟨g, o, none⟩))) (ht : P.underlying t = some d) (hd : d.isRow = true) (hs' : (P.info? t).map (·.size) = some cs.length) (hc : ∀ w, H w → w.rangeAt g o cs) : YF P (.load t x) ty n m H (.agg cs.toArray) := fun _ w dd pos af gd hs hw => by
  simp [Yl, execOp, hs.ev hx, run_loadAt_mid (P := P) w g o t cs d (hc w hw) ht hd hs']
theorem run_part1 {d : TypeDesc} {cs : Array Value} {off : Nat} {v : Value} (ht : P.underlying t = some d) (hd : d.isRow = false) (hv : cs[off]? = some v) (w : World) : (part t cs off).run P w = .ok v w := by
  have hagg : (isAgg t).run P w = .ok false w := by
    unfold isAgg
    rw [Sem.run_bind, run_underlying ht w]
    cases d <;> simp_all
  simp [part, hagg, hv]
theorem run_partR {d : TypeDesc} {cs : Array Value} {off s : Nat} (ht : P.underlying t = some d) (hd : d.isRow = true) (hs : (P.info? t).map (·.size) = some s) (w : World) : (part t cs off).run P w = .ok (.agg (cs.extract off (off + s))) w := by
  have hagg : (isAgg t).run P w = .ok true w := by
    unfold isAgg
    rw [Sem.run_bind, run_underlying ht w]
    cases d <;> simp_all
  simp [part, hagg, run_sizeOf hs]
/-- A field of one cell of a struct by value. -/
theorem yf_field {i off ft : Nat} {d : TypeDesc} {fs : Array Field} {cs : Array Value} {v : Value} (hx : ev m x = some (.agg cs)) (ht : P.underlying t = some (.struct fs)) (hf : (fs[i]?).map (fun f => (f.offset, f.type)) = some (off, ft)) (hft : P.underlying ft = some d) (hd : d.isRow = false) (hv : cs[off]? = some v) :
    YF P (.field t x i) ty n m H v := fun _ w dd pos af gd hs hw => by
  cases hq : fs[i]? with
  | none => simp [hq] at hf
  | some f =>
    simp [hq] at hf
    obtain ⟨h1, h2⟩ := hf
    subst h1; subst h2
    simp [Yl, execOp, hs.ev hx, Instr.field, run_underlying ht, hq, asAgg, run_part1 hft hd hv]
/-- An element of one cell of an array by value. -/
theorem yf_indexA {k : IntKind} {i : Int} {len j : Nat} {d : TypeDesc} {cs : Array Value} {v : Value} (hx : ev m x = some (.agg cs)) (hy : ev m y = some (.int k i)) (ht : P.underlying t = some (.array len e)) (he : P.underlying e = some d) (hd : d.isRow = false) (hs' : (P.info? e).map (·.size) = some 1) (hi : i = j) (hj : j < len) (hv : cs[j]? = some v) :
    YF P (.index t x y) ty n m H v := fun _ w dd pos af gd hs hw => by
  subst hi
  simp [Yl, execOp, hs.ev hx, hs.ev hy, Instr.index, asIntOf, run_underlying ht, hj, run_sizeOf hs', run_part1 he hd hv]
theorem yf_indexStr {k : IntKind} {i : Int} {j : Nat} {s : ByteArray} (hx : ev m x = some (.string s)) (hy : ev m y = some (.int k i)) (ht : P.underlying t = some .string) (hi : i = j) (hj : j < s.size) :
    YF P (.index t x y) ty n m H (.int .u8 (s[j]'hj).toNat) := fun _ w dd pos af gd hs hw => by
  subst hi
  simp [Yl, execOp, hs.ev hx, hs.ev hy, Instr.index, asIntOf, run_underlying ht, hj]
/-- A struct or an array, built of parts. -/
def evs (m : List (Nat × Value)) : List (Nat × Operand) → Option (List (Nat × Value))
  | [] => some []
  | (i, x) :: r => match ev m x, evs m r with
    | some v, some l => some ((i, v) :: l)
    | _, _ => none
theorem evs_map {a : Act} (hs : Sat n m a) : ∀ {l : List (Nat × Operand)} {vs : List (Nat × Value)}, evs m l = some vs → l.map (fun p => (p.1, a.eval p.2)) = vs
  | [], vs, h => by cases h; rfl
  | (i, x) :: r, vs, h => by
    unfold evs at h
    split at h
    · rename_i v l h1 h2
      cases h
      simp [hs.ev h1, evs_map hs h2]
    · cases h
theorem yf_build {parts : List (Nat × Operand)} {vs : List (Nat × Value)} {cells : Array Value} (hp : evs m parts = some vs) (hb : P.built t vs = some cells) : YF P (.build t parts.toArray) ty n m H (.agg cells) := fun a w d pos af gd hs hw => by
  have := evs_map hs hp
  simp only [Yl, execOp, List.map_toArray]
  rw [show parts.map (fun x => match x with | (i, x) => (i, a.eval x)) = vs from this]
  simp [run_build (P := P) w t vs.toArray cells (by simpa using hb)]
/-- The places of a type's parts, and its zero: closed facts. -/
def builtAs (P : Program) (t : TypeId) (z : List Value) (places : List (Nat × Nat)) : Bool :=
  match P.info? t, P.underlying t with
  | some it, some (.struct fields) => (match it.zero with | some zz => decide (zz.cells.size = z.length) | none => false) && fields.toList.mapM (fun f => (P.info? f.type).map fun i => (f.offset, i.size)) == some places
  | _, _ => false
end
/-! ### New blocks -/
section
variable {x : Operand} {t : TypeId}
theorem nf_box {v : Value} {cs : List Value} (hx : ev m x = some v) (hc : v.cells = cs.toArray) : NF P (.box t x) ty n m (bk t cs) (fun g => .pointer (some ⟨g, 0, none⟩)) := fun _ w d pos af gd hs => by
  simp [execOp, hs.ev hx, Instr.box, newVar, newRow, hc]
theorem nf_alloc {z : Value} {cs : List Value} (hz : (P.info? t).bind (·.zero) = some z) (hc : z.cells = cs.toArray) : NF P (.alloc t) ty n m (bk t cs) (fun g => .pointer (some ⟨g, 0, none⟩)) := fun _ w d pos af gd hs => by
  cases hq : P.info? t with
  | none => simp [hq] at hz
  | some i =>
    have hz' : i.zero = some z := by simpa [hq] using hz
    simp [execOp, Instr.alloc, zeroValue, typeInfo, hq, hz', newVar, newRow, hc]
end
/-! ### Memory of the call's own -/
section
variable {G B : Nat → Prop} {w0 w : World} {L : List (Nat × Obj)} {R : List Rw} {X : World → Prop} {x y : Operand} {t T : TypeId} {g o k : Nat} {cs : List Value}
theorem HpG.cell (h : HpG G B w0 L R X w) (hk : L[k]? = some (g, bk T cs)) {v : Value} (hv : cs[o]? = some v) : w.cell? ⟨g, o, none⟩ = some v := by
  have := h.own _ (List.mem_of_getElem? hk)
  rw [cell_of_row w g o _ _ _ this, List.getElem?_toArray]; exact hv
theorem HpG.range (h : HpG G B w0 L R X w) (hk : L[k]? = some (g, bk T cs)) {seg : List Value} (hv : ∀ j v, seg[j]? = some v → cs[o + j]? = some v) : w.rangeAt g o seg := fun j v hj => h.cell hk (hv j v hj)
theorem yf_loadL {d : TypeDesc} {v : Value} (k : Nat) (hx : ev m x = some (.pointer (some ⟨g, o, none⟩))) (hk : L[k]? = some (g, bk T cs)) (hv : cs[o]? = some v) (ht : P.underlying t = some d) (hd : d.isRow = false) : YF P (.load t x) ty n m (HpG G B w0 L R X) v :=
  yf_load hx ht hd fun _ h => h.cell hk hv
theorem yf_loadRowL {d : TypeDesc} {seg : List Value} (k : Nat) (hx : ev m x = some (.pointer (some ⟨g, o, none⟩))) (hk : L[k]? = some (g, bk T cs)) (hv : ∀ j v, seg[j]? = some v → cs[o + j]? = some v) (ht : P.underlying t = some d) (hd : d.isRow = true) (hs : (P.info? t).map (·.size) = some seg.length) :
    YF P (.load t x) ty n m (HpG G B w0 L R X) (.agg seg.toArray) := yf_loadRow hx ht hd hs fun _ h => h.range hk hv
theorem yf_loadAllL {d : TypeDesc} (k : Nat) (hx : ev m x = some (.pointer (some ⟨g, 0, none⟩))) (hk : L[k]? = some (g, bk T cs)) (ht : P.underlying t = some d) (hd : d.isRow = true) (hs : (P.info? t).map (·.size) = some cs.length) :
    YF P (.load t x) ty n m (HpG G B w0 L R X) (.agg cs.toArray) := yf_loadRowL k hx hk (fun j v h => by rw [Nat.zero_add]; exact h) ht hd hs
theorem keep_setRow {g : Nat} (w : World) (cs : Array Value) : Keep (fun j => j = g) w (w.setRow g cs) := ⟨rfl, rfl, rfl, by simp, fun k _ hk => setRow_other w g k cs hk⟩
/-- A store of one cell. -/
theorem ch_store {a : Act} {v : Value} {d : Option Tmp} {pos : String} {af : Array Edge} {gd : Option (Nat × Bool)} (hs : Sat n m a) (hx : ev m x = some (.pointer (some ⟨g, o, none⟩))) (hy : ev m y = some v) (h1 : v.oneCell' = true) (ho : o < cs.length) (hs' : (P.info? t).map (·.size) = some 1) (hg : w.heap[g]? = some (bk T cs)) :
    Ch P ⟨d, .store t x y, ty, pos, af, gd⟩ a w fun u w' => u = undef ∧ Keep (fun j => j = g) w w' ∧ w'.heap[g]? = some (bk T (cs.set o v)) := by
  have hc : v.cells = #[v] := by cases v <;> first | rfl | cases h1
  have hcell : w.cell? ⟨g, o, none⟩ = some cs[o] := by rw [cell_of_row w g o _ _ _ hg]; simp [ho]
  have hfr : w.frozen? ⟨g, o, none⟩ = false := frozen_of_row w g o _ _ hg
  have hrun : (execOp a.eval ⟨d, .store t x y, ty, pos, af, gd⟩).run P w = .ok .skip (w.setRow g (cs.set o v).toArray) := by
    have hst : (store (⟨g, o, none⟩ : Addr) v).run P w = .ok () (w.setRow g (cs.set o v).toArray) := by
      rw [run_store P w _ v _ h1, hcell]
      simp [hfr, setCell_eq_setRow w g o _ _ (0, 0) v hg]
    simp [execOp, hs.ev hx, hs.ev hy, Instr.storeAt, Instr.sureAddr, storeVar, run_sizeOf hs', hc, storeCells, Addr.add_zero', hst]
  unfold Ch
  rw [hrun]
  exact ⟨rfl, keep_setRow w _, setRow_heap w g _ _ _ _ hg⟩
theorem cf_store {v : Value} (k : Nat) (hx : ev m x = some (.pointer (some ⟨g, o, none⟩))) (hy : ev m y = some v) (hk : L[k]? = some (g, bk T cs)) (h1 : v.oneCell' = true) (ho : Nat.blt o cs.length = true) (hs' : (P.info? t).map (·.size) = some 1) :
    CF P (.store t x y) ty n m (HpG G B w0 L R X) (fun _ : Unit => undef) (fun _ => HpG G B w0 (L.set k (g, bk T (cs.set o v))) R X) := fun a w d pos af gd hs hw =>
  (ch_store hs hx hy h1 (by simpa [Nat.blt_eq] using ho) hs' (hw.own _ (List.mem_of_getElem? hk))).mono fun u w' ⟨h1, h2, h3⟩ => ⟨(), h1, hw.turn hk h2 h3⟩
/-- A store of a struct or an array. -/
theorem ch_storeRow {a : Act} {seg : List Value} {d : Option Tmp} {pos : String} {af : Array Edge} {gd : Option (Nat × Bool)} (hs : Sat n m a) (hx : ev m x = some (.pointer (some ⟨g, o, none⟩))) (hy : ev m y = some (.agg seg.toArray)) (h1 : ∀ v ∈ seg, v.oneCell' = true) (ho : o + seg.length ≤ cs.length) (hs' : (P.info? t).map (·.size) = some seg.length) (hg : w.heap[g]? = some (bk T cs)) :
    Ch P ⟨d, .store t x y, ty, pos, af, gd⟩ a w fun u w' => u = undef ∧ Keep (fun j => j = g) w w' ∧ w'.heap[g]? = some (bk T (cs.take o ++ seg ++ cs.drop (o + seg.length))) := by
  have hrun : (execOp a.eval ⟨d, .store t x y, ty, pos, af, gd⟩).run P w = .ok .skip (w.setRow g (cs.take o ++ seg ++ cs.drop (o + seg.length)).toArray) := by
    have hst := run_storeCells_at (P := P) g o T seg 0 cs.toArray w hg (by simpa using ho) h1
    simp [execOp, hs.ev hx, hs.ev hy, Instr.storeAt, Instr.sureAddr, storeVar, run_sizeOf hs', Value.cells, hst]
  unfold Ch
  rw [hrun]
  exact ⟨rfl, keep_setRow w _, setRow_heap w g _ _ _ _ hg⟩
theorem cf_storeRow {seg : List Value} (k : Nat) (hx : ev m x = some (.pointer (some ⟨g, o, none⟩))) (hy : ev m y = some (.agg seg.toArray)) (hk : L[k]? = some (g, bk T cs)) (h1 : seg.all (·.oneCell') = true) (ho : Nat.ble (o + seg.length) cs.length = true) (hs' : (P.info? t).map (·.size) = some seg.length) :
    CF P (.store t x y) ty n m (HpG G B w0 L R X) (fun _ : Unit => undef) (fun _ => HpG G B w0 (L.set k (g, bk T (cs.take o ++ seg ++ cs.drop (o + seg.length)))) R X) := fun a w d pos af gd hs hw =>
  (ch_storeRow hs hx hy (List.all_eq_true.1 h1) (Nat.le_of_ble_eq_true ho) hs' (hw.own _ (List.mem_of_getElem? hk))).mono fun u w' ⟨h1, h2, h3⟩ => ⟨(), h1, hw.turn hk h2 h3⟩
/-- A new block of the call's own (a region whose order is fixed). -/
theorem wl_new {ops : Array Oper} {Q : Exit → Act → World → Prop} {rest : List Oper} {op : Op} {d : Nat} {pos : String} {af : Array Edge} {gd : Option (Nat × Bool)} {ob : Obj} {f : Nat → Value} (hg : Gd ops m gd) (hd : Nat.blt d n = true) (hn : NF P op ty n m ob f)
    (h : ∀ b, WL P ops Q rest n ((d, f b) :: m) (Hp B w0 ((b, ob) :: L) R X)) : WL P ops Q (⟨some d, op, ty, pos, af, gd⟩ :: rest) n m (Hp B w0 L R X) := fun a w hs hw =>
  wl_of_ch (R := fun v w' => v = f w.heap.size ∧ w' = w.alloc ob) (hg.wanted hs) (by unfold Ch; rw [hn a w _ pos af gd hs]; exact ⟨rfl, rfl⟩) fun v w' ⟨e1, e2⟩ => by
    subst e1; subst e2
    exact h w.heap.size _ _ (hs.put hd) (Hp.new hw ob)
/-! ### Calls -/
def evl (m : List (Nat × Value)) : List Operand → Option (List Value)
  | [] => some []
  | x :: r => match ev m x, evl m r with
    | some v, some l => some (v :: l)
    | _, _ => none
theorem evl_map {a : Act} (hs : Sat n m a) : ∀ {l : List Operand} {vs : List Value}, evl m l = some vs → l.map a.eval = vs
  | [], vs, h => by cases h; rfl
  | x :: r, vs, h => by
    unfold evl at h
    split at h
    · rename_i v l h1 h2
      cases h
      simp [hs.ev h1, evl_map hs h2]
    · cases h
/-- Has function f a body? (so that a call of it is a call of Go text) -/
def goes (P : Program) (f : FuncId) : Bool := match P.funcs[f]? with | some fn => !(fn.name == "runtime.NumGoroutine") && fn.body.isSome | none => false
theorem run_callFunc {f : FuncId} (hf : goes P f = true) (args : Array Value) (w : World) : (callFunc f args).run P w = .ok (.enter f args) w := by
  unfold goes at hf
  cases hq : P.funcs[f]? with
  | none => simp [hq] at hf
  | some fn =>
    simp only [hq, Bool.and_eq_true, Bool.not_eq_true'] at hf
    obtain ⟨h1, h2⟩ := hf
    have h3 : fn.body ≠ none := by intro hb; simp [hb] at h2
    have h4 : fn.name ≠ "runtime.NumGoroutine" := by simpa using h1
    simp [callFunc, hq, h4, h3]
theorem ch_call {a : Act} {f : FuncId} {args : List Operand} {ats : Array TypeId} {vs : List Value} {d : Option Tmp} {pos : String} {af : Array Edge} {gd : Option (Nat × Bool)} {Rr : Value → World → Prop} (hs : Sat n m a) (hf : goes P f = true) (ha : evl m args = some vs)
    (hC : Calls P f vs.toArray w fun e w' => ∃ v, e = .returned v ∧ Rr v w') : Ch P ⟨d, .call { callee := .value (.func f), args := args.toArray, argTypes := ats }, ty, pos, af, gd⟩ a w Rr := by
  have hrun : (execOp a.eval ⟨d, .call { callee := .value (.func f), args := args.toArray, argTypes := ats }, ty, pos, af, gd⟩).run P w = .ok (.enter f vs.toArray) w := by
    have := evl_map hs ha
    simp [execOp, resolve, Act.eval, Deferred.ofValue, invoke, this, run_callFunc hf]
  unfold Ch
  rw [hrun]
  exact hC
theorem cf_call {ι : Type} {f : FuncId} {args : List Operand} {ats : Array TypeId} {vs : List Value} {H : World → Prop} {val : ι → Value} {H' : ι → World → Prop} (hf : goes P f = true) (ha : evl m args = some vs)
    (hC : ∀ w, H w → Calls P f vs.toArray w fun e w' => ∃ v, e = .returned v ∧ ∃ i, v = val i ∧ H' i w') : CF P (.call { callee := .value (.func f), args := args.toArray, argTypes := ats }) ty n m H val H' := fun _ w _ _ _ _ hs hw => ch_call hs hf ha (hC w hw)
/-- A call that makes memory at most, and hands on one value. -/
theorem cf_pure {f : FuncId} {args : List Operand} {ats : Array TypeId} {vs : List Value} {v : Value} (hf : goes P f = true) (ha : evl m args = some vs)
    (hC : ∀ w, HpG G B w0 L R X w → Calls P f vs.toArray w fun e w' => e = .returned v ∧ Ext w w') : CF P (.call { callee := .value (.func f), args := args.toArray, argTypes := ats }) ty n m (HpG G B w0 L R X) (fun _ : Unit => v) (fun _ => HpG G B w0 L R X) :=
  cf_call hf ha fun w hw => (hC w hw).mono fun _ _ ⟨e1, e2⟩ => ⟨v, e1, (), rfl, hw.onE e2⟩
/-- A call that turns one block that is known, and hands on one value. -/
theorem cf_turn {f : FuncId} {args : List Operand} {ats : Array TypeId} {vs : List Value} {v : Value} {ob ob' : Obj} (k : Nat) (hf : goes P f = true) (ha : evl m args = some vs) (hk : L[k]? = some (g, ob))
    (hC : ∀ w, w.heap[g]? = some ob → HpG G B w0 L R X w → Calls P f vs.toArray w fun e w' => e = .returned v ∧ Keep (fun j => j = g) w w' ∧ w'.heap[g]? = some ob') :
    CF P (.call { callee := .value (.func f), args := args.toArray, argTypes := ats }) ty n m (HpG G B w0 L R X) (fun _ : Unit => v) (fun _ => HpG G B w0 (L.set k (g, ob')) R X) :=
  cf_call hf ha fun w hw => (hC w (hw.own _ (List.mem_of_getElem? hk)) hw).mono fun _ _ ⟨e1, e2, e3⟩ => ⟨v, e1, (), rfl, hw.turn hk e2 e3⟩
end
end
end Go.Proofs.Ytojofinofpgopaa
