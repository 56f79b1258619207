/- The rows of a block. -/
import Derived.Test.YtojofinofpgopaaDoorMk
import Derived.Test.YtojofinofpgopaaDoorMgS
import Derived.Test.YtojofinofpgopaaDoorIrE
import Derived.Test.YtojofinofpgopaaDoorIrH
import Derived.Test.YtojofinofpgopaaDoorMgC
namespace Go.Proofs.YtojofinofpgopaaDoor
open Go.RowKit
abbrev opRow (A : Option Addr) (cap : Nat) (l : List IOp) : Rw := ⟨.slice A l.length cap, 53, 5, l.length, opsCells l⟩
abbrev u32Row (A : Option Addr) (cap : Nat) (l : List Int) : Rw := ⟨.slice A l.length cap, 35, 1, l.length, l.map (Value.int .u32)⟩
abbrev intRow (A : Option Addr) (cap : Nat) (l : List Int) : Rw := ⟨.slice A l.length cap, 3, 1, l.length, l.map (Value.int .i64)⟩
theorem opsCells_one (l : List IOp) : ∀ v ∈ opsCells l, v.oneCell' = true := by
  intro v hv
  obtain ⟨o, _, ho⟩ := List.mem_flatMap.1 hv
  simp at ho
  rcases ho with rfl | rfl | rfl | rfl | rfl <;> rfl
/-- The rows of a block. -/
structure BR where
  b : IBlk
  aA : Option Addr
  aP : Option Addr
  aO : Option Addr
  cA : Nat
  cP : Nat
  cO : Nat
abbrev BR.v (i : BR) : Value := blkV i.aA i.aP i.aO i.cA i.cP i.cO i.b
abbrev BR.rows (i : BR) : List Rw := [u32Row i.aA i.cA i.b.at_, opRow i.aO i.cO i.b.ops, intRow i.aP i.cP i.b.pages]
structure BR.Ok (i : BR) : Prop where
  uA : ∀ n ∈ i.b.at_, U32 n
  uO : ∀ o ∈ i.b.ops, U32 o.n
  lA : i.b.at_.length ≤ 100000
  lP : i.b.pages.length ≤ 100000
  lO : i.b.ops.length ≤ 100000
  hA : i.b.at_.length ≤ i.cA
  hP : i.b.pages.length ≤ i.cP
  hO : i.b.ops.length ≤ i.cO
end Go.Proofs.YtojofinofpgopaaDoor
/- Reading a block: Blocks in which one thing is turned: Own, Turned. -/
namespace Go.Proofs.YtojofinofpgopaaDoor
open Go.RowKit
theorem and16 (a : Int) : 0 ≤ bits .and .i64 a 65535 ∧ bits .and .i64 a 65535 ≤ 65535 := by
  have h : (BitVec.ofInt 64 a &&& BitVec.ofInt 64 65535).toNat ≤ 65535 := by
    rw [BitVec.toNat_and]; exact Nat.and_le_right
  have e : bits .and .i64 a 65535 = (((BitVec.ofInt 64 a &&& BitVec.ofInt 64 65535).toNat : Nat) : Int) := by
    show IntKind.i64.wrap ((BitVec.ofInt 64 a &&& BitVec.ofInt 64 65535).toNat : Int) = _
    exact i64_in _ (by omega) (by omega)
  rw [e]; omega
/-! ### Cells of operations -/
abbrev opC (o : IOp) : List Value := [.int .i64 o.code, .int .i64 o.d, .int .i64 o.a, .int .i64 o.b, .int .u32 o.n]
theorem opsCells_cons (o : IOp) (l : List IOp) : opsCells (o :: l) = opC o ++ opsCells l := rfl
theorem opsCells_take (l : List IOp) : ∀ i, (opsCells l).take (i * 5) = opsCells (l.take i) := by
  induction l with
  | nil => intro i; cases i <;> simp [opsCells]
  | cons o l ih =>
    intro i
    cases i with
    | zero => simp [opsCells]
    | succ i =>
      rw [List.take_succ_cons, opsCells_cons, opsCells_cons, ← ih i, show (i + 1) * 5 = (opC o).length + i * 5 by simp; omega, List.take_length_add_append]
theorem opsCells_drop (l : List IOp) : ∀ i, (opsCells l).drop (i * 5) = opsCells (l.drop i) := by
  induction l with
  | nil => intro i; cases i <;> simp [opsCells]
  | cons o l ih =>
    intro i
    cases i with
    | zero => simp
    | succ i => rw [List.drop_succ_cons, opsCells_cons, ← ih i, show (i + 1) * 5 = (opC o).length + i * 5 by simp; omega, List.drop_length_add_append]
theorem opsCells_put {l : List IOp} {i : Nat} (o : IOp) (h : i < l.length) : (opsCells l).take (0 + i * 5) ++ opC o ++ (opsCells l).drop (0 + i * 5 + 5) = opsCells (l.set i o) := by
  rw [show 0 + i * 5 + 5 = (i + 1) * 5 by omega, Nat.zero_add, opsCells_take, opsCells_drop, List.set_eq_take_append_cons_drop, if_pos h, opsCells_app, opsCells_cons, List.append_assoc]
theorem opsCells_cell {l : List IOp} {i : Nat} (h : i < l.length) {o : IOp} (j : Nat) {v : Value} (hj : j < 5) (hl : (opC (l.getD i noOp)).set j v = opC o) : (opsCells l).set (0 + i * 5 + j) v = opsCells (l.set i o) := by
  have e : opsCells l = opsCells (l.take i) ++ (opC (l.getD i noOp) ++ opsCells (l.drop (i + 1))) := by
    rw [← opsCells_cons, ← opsCells_app]
    congr 1
    rw [List.getD_eq_getElem?_getD, List.getElem?_eq_getElem h]
    simp
  have h2 : (opsCells (l.take i)).length = i * 5 := by rw [opsCells_len, List.length_take, Nat.min_eq_left (by omega)]
  rw [e, List.set_append_right _ _ (by omega), h2, show 0 + i * 5 + j - i * 5 = j by omega, List.set_append_left _ _ (by simpa using hj), hl, List.set_eq_take_append_cons_drop, if_pos h, opsCells_app, opsCells_cons]
theorem ops_cell {l : List IOp} {i : Nat} (h : i < l.length) {j : Nat} {v : Value} (hv : (opC (l.getD i noOp))[j]? = some v) (hj : j < 5) : (opsCells l)[0 + i * 5 + j]? = some v := by
  rw [Nat.zero_add]
  refine opsCells_at l h ?_ hj
  rw [← hv]; simp [IOp.v]
theorem ops_row {l : List IOp} {i : Nat} (h : i < l.length) : ∀ j v, (opC (l.getD i noOp))[j]? = some v → (opsCells l)[0 + i * 5 + j]? = some v := fun j v hv =>
  ops_cell h hv (by have := (List.getElem?_eq_some_iff.1 hv).1; simpa using this)
theorem ints_one {k : IntKind} (l : List Int) : ∀ v ∈ l.map (Value.int k), v.oneCell' = true := by
  intro v hv; obtain ⟨x, _, rfl⟩ := List.mem_map.1 hv; rfl
theorem opC_one (o : IOp) : ∀ v ∈ opC o, v.oneCell' = true := by
  intro v hv; simp at hv
  rcases hv with rfl | rfl | rfl | rfl | rfl <;> rfl
theorem opD_mem {l : List IOp} {i : Nat} (h : i < l.length) : l.getD i noOp ∈ l := by
  rw [List.getD_eq_getElem?_getD, List.getElem?_eq_getElem h]; simp
theorem set_all {α : Type} {p : α → Prop} {l : List α} {i : Nat} {x : α} (h : ∀ y ∈ l, p y) (hx : p x) : ∀ y ∈ l.set i x, p y := fun y hy => by
  rcases List.mem_or_eq_of_mem_set hy with hy | rfl
  · exact h y hy
  · exact hx
/-! ### Reading a block -/
structure BRd (Bad : Nat → Prop) (i : BR) (u : World) : Prop where
  a : RdIn Bad i.aA (i.b.at_.map (Value.int .u32)) u
  o : RdIn Bad i.aO (opsCells i.b.ops) u
  p : RdIn Bad i.aP (i.b.pages.map (Value.int .i64)) u
theorem BRd.foot' {Bad : Nat → Prop} {i : BR} {w : World} (h : BRd Bad i w) : ∃ F : Nat → Prop, (∀ k, F k → k < w.heap.size ∧ ¬ Bad k) ∧ Foot F (BRd Bad i) w := by
  obtain ⟨F1, h1, g1⟩ := h.a.foot'
  obtain ⟨F2, h2, g2⟩ := h.o.foot'
  obtain ⟨F3, h3, g3⟩ := h.p.foot'
  refine ⟨fun k => F1 k ∨ F2 k ∨ F3 k, fun k hk => ?_, fun u hu => ⟨g1 u fun k hk => hu k (.inl hk), g2 u fun k hk => hu k (.inr (.inl hk)), g3 u fun k hk => hu k (.inr (.inr hk))⟩⟩
  rcases hk with hk | hk | hk
  · exact h1 k hk
  · exact h2 k hk
  · exact h3 k hk
theorem BRd.foot0 {Bad : Nat → Prop} {i : BR} {w : World} (h : BRd Bad i w) : ∃ F : Nat → Prop, (∀ k, F k → k < w.heap.size ∧ ¬ False) ∧ Foot F (BRd Bad i) w := by
  obtain ⟨F, h1, h2⟩ := h.foot'
  exact ⟨F, fun k hk => ⟨(h1 k hk).1, id⟩, h2⟩
theorem BRd.weak {Bad Bad' : Nat → Prop} {i : BR} {w : World} (h : BRd Bad i w) (hb : ∀ k, Bad' k → Bad k) : BRd Bad' i w := ⟨h.a.weak hb, h.o.weak hb, h.p.weak hb⟩
theorem BRd.cur {B : Nat → Prop} {w u : World} {L : List (Nat × Obj)} {R : List Rw} {i : BR} (h : Hp B w L R (BRd (fun k => w.heap.size ≤ k) i) u) : BRd (fun k => u.heap.size ≤ k) i u :=
  (HpG.x h).weak fun _ hk => Nat.le_trans (HpG.keep h).size hk
theorem cell_in {w : World} {b o : Nat} {v : Value} (h : w.cell? ⟨b, o, none⟩ = some v) : b < w.heap.size := by
  rcases Nat.lt_or_ge b w.heap.size with h1 | h1
  · exact h1
  · unfold World.cell? at h
    simp [Array.getElem?_eq_none h1] at h
theorem row_rdIn {w : World} {base e size n : Nat} {A : Option Addr} {len cap : Nat} {xs : List Value} (h : w.ownsRow base e size (.slice A len cap) n xs) : RdIn (fun k => w.heap.size ≤ k) A xs w := fun h0 => by
  obtain ⟨b, off, e, hc⟩ := row_rd h h0
  have := cell_in (hc 0 h0)
  exact ⟨b, off, e, this, by omega, hc⟩
theorem BRd.of {G B : Nat → Prop} {w u : World} {L : List (Nat × Obj)} {R : List Rw} {X : World → Prop} {i : BR} (h : HpG G B w L R X u) (hs : ∀ r ∈ i.rows, r ∈ R) : BRd (fun k => u.heap.size ≤ k) i u :=
  ⟨row_rdIn (HpG.rows h _ (hs _ (List.mem_cons_self ..))), row_rdIn (HpG.rows h _ (hs _ (List.mem_cons_of_mem _ (List.mem_cons_self ..)))), row_rdIn (HpG.rows h _ (hs _ (List.mem_cons_of_mem _ (List.mem_cons_of_mem _ (List.mem_cons_self ..)))))⟩
structure BR.OkN (m : Nat) (i : BR) : Prop where
  uA : ∀ n ∈ i.b.at_, U32 n
  uO : ∀ o ∈ i.b.ops, U32 o.n
  lA : i.b.at_.length ≤ m
  lP : i.b.pages.length ≤ m
  lO : i.b.ops.length ≤ m
  hA : i.b.at_.length ≤ i.cA
  hP : i.b.pages.length ≤ i.cP
  hO : i.b.ops.length ≤ i.cO
theorem BR.Ok.n {i : BR} (h : i.Ok) : i.OkN 100000 := ⟨h.uA, h.uO, h.lA, h.lP, h.lO, h.hA, h.hP, h.hO⟩
theorem Hp.perm {B : Nat → Prop} {w0 w : World} {L : List (Nat × Obj)} {R R' : List Rw} {X : World → Prop} (h : Hp B w0 L R X w) (hp : R.Perm R') : Hp B w0 L R' X w := by
  have hb : (blks L R).Perm (blks L R') := (List.Perm.refl _).append (hp.filterMap _)
  obtain ⟨F, hF, hx⟩ := HpG.foot h
  exact ⟨HpG.keep h, HpG.own h, HpG.mine h, fun r hr => HpG.rows h r (hp.mem_iff.2 hr), hb.nodup_iff.1 (HpG.nd h), fun _ _ => trivial, F, fun k hk => ⟨(hF k hk).1, (hF k hk).2.1, fun hx => (hF k hk).2.2.1 (hb.mem_iff.2 hx), trivial⟩, hx⟩
theorem br_end {m : Nat} {w : World} {A1 A2 A3 : Option Addr} {c1 c2 c3 n1 n2 n3 : Nat} {xs1 xs2 xs3 cs : List Value} {L : List (Nat × Obj)} {R : List Rw} {X : World → Prop} {u : World} (h : Hp (fun _ => False) w L R X u) (b : IBlk)
    (hR : [⟨.slice A1 n1 c1, 35, 1, n1, xs1⟩, ⟨.slice A2 n2 c2, 53, 5, n2, xs2⟩, ⟨.slice A3 n3 c3, 3, 1, n3, xs3⟩].Sublist R) (hcs : cs = [.slice A1 n1 c1, .slice A3 n3 c3, .slice A2 n2 c2]) (e1 : n1 = b.at_.length) (e2 : n2 = b.ops.length) (e3 : n3 = b.pages.length) (x1 : xs1 = b.at_.map (Value.int .u32)) (x2 : xs2 = opsCells b.ops) (x3 : xs3 = b.pages.map (Value.int .i64))
    (hua : ∀ n ∈ b.at_, U32 n) (huo : ∀ o ∈ b.ops, U32 o.n) (k1 : n1 ≤ c1) (k2 : n2 ≤ c2) (k3 : n3 ≤ c3) (l1 : n1 ≤ m) (l2 : n2 ≤ m) (l3 : n3 ≤ m) :
    ∃ i : BR, (i.b = b ∧ i.OkN m ∧ (0 < i.b.ops.length → ∃ g, i.aO = some ⟨g, 0, none⟩)) ∧ Ending.returned (.agg cs.toArray) = .returned i.v ∧ Hp (fun _ => False) w [] i.rows (fun _ => True) u := by
  subst e1; subst e2; subst e3; subst x1; subst x2; subst x3; subst hcs
  refine ⟨⟨b, A1, A3, A2, c1, c3, c2⟩, ⟨rfl, ⟨hua, huo, l1, l3, l2, k1, k3, k2⟩, fun h0 => ?_⟩, rfl, Hp.weakX (Hp.drop h (List.nil_sublist _) hR) fun _ _ => trivial⟩
  obtain ⟨_, hr⟩ := HpG.rows h _ (hR.subset (List.mem_cons_of_mem _ (List.mem_cons_self ..)))
  rcases hr with ⟨hv, hn⟩ | ⟨g, c, cur, hv, _⟩
  · dsimp only at hn h0; omega
  · injection hv with hv; exact ⟨g, hv⟩
theorem turn_end {m : Nat} {w : World} {e : Ending} {u : World} {b : IBlk} (h : ∃ i : BR, (i.b = b ∧ i.OkN m ∧ (0 < i.b.ops.length → ∃ g, i.aO = some ⟨g, 0, none⟩)) ∧ e = .returned i.v ∧ Hp (fun _ => False) w [] i.rows (fun _ => True) u) : ∃ i : BR, i.OkN m ∧ e = .returned i.v ∧ Hp (fun _ => False) w [] i.rows (fun _ => True) u := by
  obtain ⟨i, ⟨_, h1, _⟩, h2, h3⟩ := h
  exact ⟨i, h1, h2, h3⟩
end Go.Proofs.YtojofinofpgopaaDoor
/- Calls of the checks and of Made. -/
namespace Go.Proofs.YtojofinofpgopaaDoor
open Go.RowKit
theorem RdIn.arr {Bad : Nat → Prop} {A : Option Addr} {xs : List Value} {w : World} (h : RdIn Bad A xs w) : Arr w w.heap.size A xs := fun h0 => by
  obtain ⟨b, off, e, h1, _, hc⟩ := h h0
  exact ⟨b, off, e, h1, hc⟩
theorem RdIn.ops {Bad : Nat → Prop} {A : Option Addr} {l : List IOp} {w : World} (h : RdIn Bad A (opsCells l) w) : OpsArr w w.heap.size A l := fun h0 => by
  have hl := opsCells_len l
  obtain ⟨b, off, e, h1, _, hc⟩ := h (by omega)
  refine ⟨b, off, e, h1, fun i hi => ?_⟩
  have key : ∀ j u, j < 5 → (opC (l.getD i noOp))[j]? = some u → w.cell? ⟨b, off + i * 5 + j, none⟩ = some u := fun j u hj hu => by
    have h2 := ops_cell hi hu hj
    rw [Nat.zero_add] at h2
    rw [Nat.add_assoc, hc (i * 5 + j) (by omega), List.getD_eq_getElem?_getD, h2]; rfl
  exact ⟨key 0 _ (by omega) rfl, key 1 _ (by omega) rfl, key 2 _ (by omega) rfl, key 3 _ (by omega) rfl, key 4 _ (by omega) rfl⟩
theorem BRd.blk {Bad : Nat → Prop} {i : BR} {w : World} {m : Nat} (h : BRd Bad i w) (hi : i.OkN m) (hm : m ≤ maxLen) : BlkAt w w.heap.size i.aA i.aP i.aO i.b :=
  ⟨h.a.arr, h.p.arr, h.o.ops, Nat.le_trans hi.lA hm, Nat.le_trans hi.lP hm, Nat.le_trans hi.lO hm⟩
theorem OkN.un {i : BR} {m : Nat} (hi : i.OkN m) : ∀ k, k < i.b.ops.length → U32 (i.b.ops.getD k noOp).n := fun _ hk => hi.uO _ (opD_mem hk)
theorem valid_call {Bad : Nat → Prop} {i : BR} {m : Nat} {w : World} (h : BRd Bad i w) (hi : i.OkN m) (hm : m ≤ maxLen) : Calls Tryd.prog 9 #[i.v] w fun e w' => e = .returned (.bool (validL i.b)) ∧ Ext w w' :=
  valid_any i.aA i.aP i.aO i.cA i.cP i.cO i.b w w.heap.size (Nat.le_refl _) (h.blk hi hm)
theorem RdIn.take {Bad : Nat → Prop} {A : Option Addr} {xs : List Value} {w : World} (h : RdIn Bad A xs w) (k : Nat) : RdIn Bad A (xs.take k) w := fun h0 => by
  rw [List.length_take] at h0
  obtain ⟨b, off, e, h1, h2, hc⟩ := h (by omega)
  refine ⟨b, off, e, h1, h2, fun i hi => ?_⟩
  rw [List.length_take] at hi
  rw [hc i (by omega)]
  simp only [List.getD_eq_getElem?_getD]
  rw [List.getElem?_take_of_lt (by omega)]
theorem yf_conseq {P : Program} {op : Op} {ty : TypeId} {n : Nat} {m : List (Nat × Value)} {J J' : World → Prop} {v : Value} (h : YF P op ty n m J' v) (hJ : ∀ w, J w → J' w) : YF P op ty n m J v := fun a w d pos af g hs hw => h a w d pos af g hs (hJ w hw)
def J3 (b8 b9 b10 : Nat) (o8 o9 o10 : Obj) (w : World) : Prop := Blk b8 o8 w ∧ Blk b9 o9 w ∧ Blk b10 o10 w
theorem J3.stab {b8 b9 b10 : Nat} {o8 o9 o10 : Obj} : AStab (J3 b8 b9 b10 o8 o9 o10) := fun w ob ⟨h1, h2, h3⟩ => ⟨Blk.stab w ob h1, Blk.stab w ob h2, Blk.stab w ob h3⟩
theorem Blk.ext {b : Nat} {o : Obj} {w w' : World} (h : Blk b o w) (hx : Ext w w') : Blk b o w' := h.keep (K := fun _ => False) (Keep.of_ext hx) id
theorem J3.ext {b8 b9 b10 : Nat} {o8 o9 o10 : Obj} : ∀ w w', J3 b8 b9 b10 o8 o9 o10 w → Ext w w' → J3 b8 b9 b10 o8 o9 o10 w' := fun _ _ ⟨h1, h2, h3⟩ hx => ⟨h1.ext hx, h2.ext hx, h3.ext hx⟩
theorem min_nat (a : Nat) : ∃ k : Nat, (if (150 : Int) < (a : Int) then (150 : Int) else (a : Int)) = k ∧ k ≤ a := by
  by_cases h : (150 : Int) < (a : Int)
  · exact ⟨150, by rw [if_pos h]; rfl, by omega⟩
  · exact ⟨a, by rw [if_neg h], Nat.le_refl _⟩
theorem arr_rdIn {A : Option Addr} {xs : List Value} {w : World} (h : Arr w w.heap.size A xs) : RdIn (fun k => w.heap.size ≤ k) A xs w := fun h0 => by
  obtain ⟨b, off, e, h1, hc⟩ := h h0
  exact ⟨b, off, e, h1, by omega, hc⟩
end Go.Proofs.YtojofinofpgopaaDoor
