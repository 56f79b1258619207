/- A region that draws its order, met in one order of one's own choosing: operations that only read do so under an invariant of the region; those that act are in a forced chain; new blocks come in at any time. -/
import Derived.Test.YtojofinofpgopaaReg
namespace Go.Proofs.Ytojofinofpgopaa
open Go.RowKit

/-- w' is w with new blocks; of the old ones, those of G alone may have turned. -/
structure Keep (G : Nat → Prop) (w w' : World) : Prop where
  os : w'.os = w.os
  tape : w'.tape = w.tape
  output : w'.output = w.output
  size : w.heap.size ≤ w'.heap.size
  block : ∀ k, k < w.heap.size → ¬ G k → w'.heap[k]? = w.heap[k]?
theorem Keep.refl (G : Nat → Prop) (w : World) : Keep G w w := ⟨rfl, rfl, rfl, Nat.le_refl _, fun _ _ _ => rfl⟩
theorem Keep.trans {G : Nat → Prop} {a b c : World} (h : Keep G a b) (k : Keep G b c) : Keep G a c :=
  ⟨k.os.trans h.os, k.tape.trans h.tape, k.output.trans h.output, Nat.le_trans h.size k.size, fun i hi hg => (k.block i (Nat.lt_of_lt_of_le hi h.size) hg).trans (h.block i hi hg)⟩
theorem Keep.mono {G G' : Nat → Prop} {w w' : World} (h : Keep G w w') (hG : ∀ k, k < w.heap.size → G k → G' k) : Keep G' w w' :=
  ⟨h.os, h.tape, h.output, h.size, fun k hk hn => h.block k hk fun hg => hn (hG k hk hg)⟩
theorem Keep.drew {G : Nat → Prop} {a w : World} (h : Keep G a w) : Keep G a w.drew := ⟨h.os, h.tape, h.output, h.size, h.block⟩
theorem Keep.ext {w w' : World} (h : Keep (fun _ => False) w w') : Ext w w' := ⟨h.os, h.tape, h.output, h.size, fun k hk => h.block k hk id⟩
theorem Keep.of_ext {G : Nat → Prop} {w w' : World} (h : Ext w w') : Keep G w w' := ⟨h.os, h.tape, h.output, Below.size h, fun k hk _ => Below.block h k hk⟩
theorem Keep.alloc {G : Nat → Prop} {a w : World} (h : Keep G a w) (o : Obj) : Keep G a (w.alloc o) :=
  h.trans (Keep.of_ext (Ext.alloc (Ext.refl w) o))

section
variable {P : Program} {ops : Array Oper} {Q : Exit → Act → World → Prop}

/-- What an operation does, from one world: whatever it hands on, R holds of it. -/
def Ch (P : Program) (o : Oper) (a : Act) (w : World) (R : Value → World → Prop) : Prop :=
  match (execOp a.eval o).run P w with
  | .ok (.value v) w' => R v w'
  | .ok .skip w' => R undef w'
  | .ok (.enter f args) w' => Calls P f args w' fun e w'' => ∃ v, e = .returned v ∧ R v w''
  | _ => False
theorem Ch.wp {o : Oper} {a : Act} {w : World} {R : Value → World → Prop} {K : Act → World → Prop} (h : Ch P o a w R) (hK : ∀ v w', R v w' → K (a.put o.dst v) w') : o.wp P a w K Q := by
  unfold Ch at h
  unfold Oper.wp
  generalize (execOp a.eval o).run P w = r at *
  cases r with
  | ok n w' =>
    cases n <;> simp only [Oper.upon] at h ⊢
    case value v => exact hK _ _ h
    case skip => exact hK _ _ h
    case enter f args => exact h.mono fun e w'' ⟨v, he, hr⟩ => by subst he; exact hK _ _ hr
  | halt x w' => exact h.elim
theorem Ch.mono {o : Oper} {a : Act} {w : World} {R R' : Value → World → Prop} (h : Ch P o a w R) (hR : ∀ v w', R v w' → R' v w') : Ch P o a w R' := by
  unfold Ch at *
  generalize (execOp a.eval o).run P w = r at *
  cases r with
  | ok n w' =>
    cases n <;> simp only at h ⊢
    case value v => exact hR _ _ h
    case skip => exact hR _ _ h
    case enter f args => exact h.mono fun e w'' ⟨v, he, hr⟩ => ⟨v, he, hR _ _ hr⟩
  | halt x w' => exact h.elim
theorem Ch.ex {o : Oper} {a : Act} {w : World} {R : Value → World → Prop} (h : Ch P o a w R) : ∃ v w', R v w' := by
  unfold Ch at h
  generalize (execOp a.eval o).run P w = r at *
  cases r with
  | ok n w' =>
    cases n <;> simp only at h
    case value v => exact ⟨_, _, h⟩
    case skip => exact ⟨_, _, h⟩
    case enter f args => obtain ⟨e, w'', _, ⟨v, _, hr⟩, _⟩ := h []; exact ⟨_, _, hr⟩
  | halt x w' => exact h.elim
/-- An operation that only reads. -/
def Yl (P : Program) (o : Oper) (a : Act) (w : World) (v : Value) : Prop := (execOp a.eval o).run P w = .ok (.value v) w
theorem Yl.ch {o : Oper} {a : Act} {w : World} {v : Value} (h : Yl P o a w v) : Ch P o a w fun v' w' => v' = v ∧ w' = w := by
  unfold Ch Yl at *
  rw [h]
  exact ⟨rfl, rfl⟩
theorem Yl.uniq {o : Oper} {a : Act} {w : World} {v u : Value} (h : Yl P o a w v) (k : Yl P o a w u) : v = u := by
  unfold Yl at *
  rw [h] at k
  cases k; rfl

inductive Kd | free | chain | new
deriving DecidableEq
def kd (o : Oper) : Kd := match o.op with
  | .alloc _ | .box .. | .buildSlice .. => .new
  | .move _ | .assign _ | .pick .. | .nilCheck _ | .binOp .. | .unOp .. | .convert .. | .fieldAddr .. | .field .. | .indexAddr .. | .index .. | .extract .. | .slice .. | .build .. | .load .. | .makeInterface .. | .makeFunc .. | .lookup .. | .typeAssert .. => .free
  | .call { callee := .builtin .len, .. } | .call { callee := .builtin .cap, .. } | .call { callee := .builtin .min, .. } | .call { callee := .builtin .max, .. } => .free
  | _ => .chain
def AStab (S : World → Prop) : Prop := ∀ w ob, S w → S (w.alloc ob)
theorem AStab.and {S : World → Prop} (h : AStab S) (g : Nat) (ob : Obj) : AStab fun w => S w ∧ w.heap[g]? = some ob := fun w o ⟨h1, h2⟩ =>
  ⟨h w o h1, (Below.heap_alloc w o g (Array.getElem?_eq_some_iff.1 h2).1).trans h2⟩

/-- The walk of a region in the order of the list. G: the blocks that are known; S: what holds now; J: what holds all along. -/
def seqS (P : Program) (ops : Array Oper) (J : World → Prop) (Q : Exit → Act → World → Prop) : List Nat → (Nat → Prop) → (World → Prop) → Act → Prop
  | [], _, S, a => ∀ w, S w → J w → Q .normal a w
  | i :: r, G, S, a => ∃ o, ops[i]? = some o ∧ (∀ cs b, o.op ≠ .select cs b) ∧
      ((Region.wanted o (yielded ops a.tmps) = false ∧ seqS P ops J Q r G S (a.put o.dst undef)) ∨
       (Region.wanted o (yielded ops a.tmps) = true ∧
         ((kd o = .free ∧ ∃ v, (∀ w, J w → Yl P o a w v) ∧ seqS P ops J Q r G S (a.put o.dst v)) ∨
          (kd o = .new ∧ ∃ (ob : Obj) (f : Nat → Value), (∀ w, (execOp a.eval o).run P w = .ok (.value (f w.heap.size)) (w.alloc ob)) ∧
            ∀ g, ¬ G g → seqS P ops J Q r (fun k => k = g ∨ G k) (fun w => S w ∧ w.heap[g]? = some ob) (a.put o.dst (f g))) ∨
          (kd o = .chain ∧ ∀ w, S w → J w → Ch P o a w fun v w' => Keep G w w' ∧ J w' ∧ ∃ S', AStab S' ∧ S' w' ∧ seqS P ops J Q r G S' (a.put o.dst v)))))
variable {J : World → Prop}
theorem seqS_anti : ∀ {l : List Nat} {G : Nat → Prop} {S S1 : World → Prop} {a : Act}, (∀ w, S1 w → S w) → seqS P ops J Q l G S a → seqS P ops J Q l G S1 a
  | [], G, S, S1, a, h, hs => fun w h1 hj => hs w (h w h1) hj
  | i :: r, G, S, S1, a, h, ⟨o, ho, hsel, hs⟩ => ⟨o, ho, hsel, by
    rcases hs with ⟨hw, hs⟩ | ⟨hw, ⟨hk, v, hy, hs⟩ | ⟨hk, ob, f, hr, hs⟩ | ⟨hk, hs⟩⟩
    · exact .inl ⟨hw, seqS_anti h hs⟩
    · exact .inr ⟨hw, .inl ⟨hk, v, hy, seqS_anti h hs⟩⟩
    · exact .inr ⟨hw, .inr (.inl ⟨hk, ob, f, hr, fun g hg => seqS_anti (fun w ⟨h1, h2⟩ => ⟨h w h1, h2⟩) (hs g hg)⟩)⟩
    · exact .inr ⟨hw, .inr (.inr ⟨hk, fun w h1 hj => hs w (h w h1) hj⟩)⟩⟩

/-- May op y be carried out ahead of op x, though x is listed before it? -/
def kdOk : Kd → Kd → Bool
  | .free, _ => true
  | .new, .chain => false
  | .new, _ => true
  | .chain, .chain => false
  | .chain, _ => true
def comm (ops : Array Oper) (x y : Nat) : Bool :=
  match ops[x]?, ops[y]? with
  | some ox, some oy => ox.apart ops oy && kdOk (kd ox) (kd oy)
  | _, _ => false
theorem comm_spec {x y : Nat} (h : comm ops x y = true) : ∃ ox oy, ops[x]? = some ox ∧ ops[y]? = some oy ∧ ox.apart ops oy = true ∧ kdOk (kd ox) (kd oy) = true := by
  unfold comm at h
  split at h
  · rename_i ox oy hx hy
    simp only [Bool.and_eq_true] at h
    exact ⟨ox, oy, hx, hy, h.1, h.2⟩
  · cases h
/-- What an operation of the free kind hands on at a. -/
def Frees (P : Program) (ops : Array Oper) (J : World → Prop) (o : Oper) (a : Act) (v : Value) : Prop :=
  (Region.wanted o (yielded ops a.tmps) = false ∧ v = undef) ∨ (Region.wanted o (yielded ops a.tmps) = true ∧ kd o = .free ∧ ∀ w, J w → Yl P o a w v)
theorem Frees.uniq {o : Oper} {a : Act} {v u : Value} (hj : ∃ w, J w) (h : Frees P ops J o a v) (k : Frees P ops J o a u) : v = u := by
  obtain ⟨w, hw⟩ := hj
  rcases h with ⟨h1, rfl⟩ | ⟨h1, _, h2⟩ <;> rcases k with ⟨k1, rfl⟩ | ⟨k1, _, k2⟩
  · rfl
  · rw [h1] at k1; cases k1
  · rw [h1] at k1; cases k1
  · exact (h2 w hw).uniq (k2 w hw)
theorem Yl.put {x y : Oper} {a : Act} {w : World} {u v : Value} (hsel : ∀ cs b, y.op ≠ .select cs b) (h1 : ∀ d, x.dst = some d → d ∉ y.looksAt ops) : Yl P y (a.put x.dst u) w v ↔ Yl P y a w v := by
  unfold Yl; rw [execOp_put y hsel a x.dst u h1]
theorem Ch.put {x y : Oper} {a : Act} {w : World} {u : Value} {R : Value → World → Prop} (hsel : ∀ cs b, y.op ≠ .select cs b) (h1 : ∀ d, x.dst = some d → d ∉ y.looksAt ops) : Ch P y (a.put x.dst u) w R ↔ Ch P y a w R := by
  unfold Ch; rw [execOp_put y hsel a x.dst u h1]
theorem Frees.put {x y : Oper} {a : Act} {u v : Value} (hsel : ∀ cs b, y.op ≠ .select cs b) (h1 : ∀ d, x.dst = some d → d ∉ y.looksAt ops) : Frees P ops J y (a.put x.dst u) v ↔ Frees P ops J y a v := by
  unfold Frees
  rw [wanted_put y a x.dst u h1]
  simp only [Yl.put (P := P) (ops := ops) (a := a) (u := u) hsel h1]
/-- A free operation, pulled to the head: its value is known. -/
theorem pullF (hj : ∃ w, J w) {i : Nat} {oi : Oper} {u : Value} (hi : ops[i]? = some oi) (hsel : ∀ cs b, oi.op ≠ .select cs b) {q : List Nat} : ∀ {p : List Nat} {G : Nat → Prop} {S : World → Prop} {a : Act},
    (∀ x ∈ p, comm ops x i = true) → Frees P ops J oi a u → seqS P ops J Q (p ++ i :: q) G S a → seqS P ops J Q (p ++ q) G S (a.put oi.dst u)
  | [], G, S, a, _, hf, ⟨o, ho, hso, hs⟩ => by
    have : o = oi := Option.some.inj (ho.symm.trans hi)
    subst this
    rcases hf with ⟨h1, rfl⟩ | ⟨h1, hk, hy⟩
    · rcases hs with ⟨_, hs⟩ | ⟨hw, _⟩
      · exact hs
      · rw [h1] at hw; cases hw
    · rcases hs with ⟨hw, _⟩ | ⟨_, ⟨_, v, hy', hs⟩ | ⟨hk', _⟩ | ⟨hk', _⟩⟩
      · rw [h1] at hw; cases hw
      · obtain ⟨w, hw⟩ := hj
        have : u = v := (hy w hw).uniq (hy' w hw)
        subst this; exact hs
      · rw [hk] at hk'; cases hk'
      · rw [hk] at hk'; cases hk'
  | x :: p, G, S, a, hc, hf, ⟨o, ho, hso, hs⟩ => by
    obtain ⟨ox, oy, hx, hy, hap, _⟩ := comm_spec (hc x (List.mem_cons_self ..))
    have e1 : ox = o := Option.some.inj (hx.symm.trans ho)
    have e2 : oy = oi := Option.some.inj (hy.symm.trans hi)
    subst e1; subst e2
    obtain ⟨h1, h2, h3⟩ := Oper.apart_spec hap
    have hcp : ∀ x ∈ p, comm ops x i = true := fun y hy => hc y (List.mem_cons_of_mem _ hy)
    have key : ∀ {G : Nat → Prop} {S : World → Prop} {v : Value}, seqS P ops J Q (p ++ i :: q) G S (a.put ox.dst v) → seqS P ops J Q (p ++ q) G S ((a.put oy.dst u).put ox.dst v) := fun {G S v} hh => by
      have := pullF hj hi hsel hcp ((Frees.put (P := P) (J := J) (a := a) (u := v) hsel h1).2 hf) hh
      rwa [Act.put_comm a v u h2] at this
    have hw' := wanted_put (ops := ops) ox a oy.dst u h3
    refine ⟨ox, ho, hso, ?_⟩
    rw [hw', execOp_put (ops := ops) ox hso a oy.dst u h3]
    simp only [Yl.put (P := P) (ops := ops) (a := a) (u := u) hso h3, Ch.put (P := P) (ops := ops) (a := a) (u := u) hso h3]
    rcases hs with ⟨hw, hs⟩ | ⟨hw, ⟨hk, v, hy, hs⟩ | ⟨hk, ob, f, hr, hs⟩ | ⟨hk, hs⟩⟩
    · exact .inl ⟨hw, key hs⟩
    · exact .inr ⟨hw, .inl ⟨hk, v, hy, key hs⟩⟩
    · exact .inr ⟨hw, .inr (.inl ⟨hk, ob, f, hr, fun g hg => key (hs g hg)⟩)⟩
    · exact .inr ⟨hw, .inr (.inr ⟨hk, fun w h1 hj => (hs w h1 hj).mono fun v w' ⟨k1, k2, S', k3, k4, k5⟩ => ⟨k1, k2, S', k3, k4, key k5⟩⟩)⟩
/-- What is known of op i where the walk comes to it, seen from the head. -/
inductive Known (P : Program) (ops : Array Oper) (J : World → Prop) (o : Oper) (a : Act) : Prop
  | free (v : Value) (h : Frees P ops J o a v)
  | new (hw : Region.wanted o (yielded ops a.tmps) = true) (hk : kd o = .new) (ob : Obj) (f : Nat → Value) (h : ∀ w, (execOp a.eval o).run P w = .ok (.value (f w.heap.size)) (w.alloc ob))
  | chain (hw : Region.wanted o (yielded ops a.tmps) = true) (hk : kd o = .chain)
theorem Known.put {x y : Oper} {a : Act} {u : Value} (hsel : ∀ cs b, y.op ≠ .select cs b) (h1 : ∀ d, x.dst = some d → d ∉ y.looksAt ops) (h : Known P ops J y (a.put x.dst u)) : Known P ops J y a := by
  have hw := wanted_put (ops := ops) y a x.dst u h1
  rcases h with ⟨v, h⟩ | ⟨h0, hk, ob, f, h⟩ | ⟨h0, hk⟩
  · exact .free v ((Frees.put (P := P) (J := J) (a := a) (u := u) hsel h1).1 h)
  · rw [execOp_put (ops := ops) y hsel a x.dst u h1] at h
    exact .new (by rw [← hw]; exact h0) hk ob f h
  · exact .chain (by rw [← hw]; exact h0) hk
structure Here (G : Nat → Prop) (S J : World → Prop) (w : World) : Prop where
  s : S w
  j : J w
  ss : AStab S
  js : AStab J
  g : ∀ k, G k → k < w.heap.size
theorem known {i : Nat} {oi : Oper} (hi : ops[i]? = some oi) {q : List Nat} : ∀ {p : List Nat} {G : Nat → Prop} {S : World → Prop} {a : Act} {w : World}, (∀ x ∈ p, comm ops x i = true) →
    Here G S J w → seqS P ops J Q (p ++ i :: q) G S a → Known P ops J oi a ∧ (∀ cs b, oi.op ≠ .select cs b)
  | [], G, S, a, w, _, hh, ⟨o, ho, hso, hs⟩ => by
    have : o = oi := Option.some.inj (ho.symm.trans hi)
    subst this
    refine ⟨?_, hso⟩
    rcases hs with ⟨hw, hs⟩ | ⟨hw, ⟨hk, v, hy, hs⟩ | ⟨hk, ob, f, hr, hs⟩ | ⟨hk, hs⟩⟩
    · exact .free undef (.inl ⟨hw, rfl⟩)
    · exact .free v (.inr ⟨hw, hk, hy⟩)
    · exact .new hw hk ob f hr
    · exact .chain hw hk
  | x :: p, G, S, a, w, hc, hh, ⟨o, ho, hso, hs⟩ => by
    obtain ⟨ox, oy, hx, hy, hap, _⟩ := comm_spec (hc x (List.mem_cons_self ..))
    have e1 : ox = o := Option.some.inj (hx.symm.trans ho)
    have e2 : oy = oi := Option.some.inj (hy.symm.trans hi)
    subst e1; subst e2
    obtain ⟨h1, h2, h3⟩ := Oper.apart_spec hap
    have hcp : ∀ x ∈ p, comm ops x i = true := fun y hy => hc y (List.mem_cons_of_mem _ hy)
    have fin : ∀ {G : Nat → Prop} {S : World → Prop} {v : Value} {w : World}, Here G S J w → seqS P ops J Q (p ++ i :: q) G S (a.put ox.dst v) → Known P ops J oy a ∧ (∀ cs b, oy.op ≠ .select cs b) := fun {G S v w} h k => by
      obtain ⟨k1, k2⟩ := known hi hcp h k
      exact ⟨k1.put k2 h1, k2⟩
    rcases hs with ⟨hw, hs⟩ | ⟨hw, ⟨hk, v, hy, hs⟩ | ⟨hk, ob, f, hr, hs⟩ | ⟨hk, hs⟩⟩
    · exact fin hh hs
    · exact fin hh hs
    · have hg : ¬ G w.heap.size := fun h => absurd (hh.g _ h) (by omega)
      refine fin (w := w.alloc ob) ⟨⟨hh.ss w ob hh.s, heap_alloc_new w ob⟩, hh.js w ob hh.j, hh.ss.and _ _, hh.js, fun k hk => ?_⟩ (hs w.heap.size hg)
      rcases hk with rfl | hk
      · simp
      · have := hh.g k hk; simp; omega
    · obtain ⟨v, w', k1, k2, S', k3, k4, k5⟩ := (hs w hh.s hh.j).ex
      exact fin (w := w') ⟨k4, k2, k3, hh.js, fun k hk => Nat.lt_of_lt_of_le (hh.g k hk) k1.size⟩ k5
/-- A new block, pulled to the head. -/
theorem pullN {i : Nat} {oi : Oper} {ob : Obj} {f : Nat → Value} (hi : ops[i]? = some oi) (hsel : ∀ cs b, oi.op ≠ .select cs b) (hki : kd oi = .new) {q : List Nat} {g : Nat} : ∀ {p : List Nat} {G : Nat → Prop} {S : World → Prop} {a : Act},
    (∀ x ∈ p, comm ops x i = true) → Region.wanted oi (yielded ops a.tmps) = true → (∀ w, (execOp a.eval oi).run P w = .ok (.value (f w.heap.size)) (w.alloc ob)) → ¬ G g → seqS P ops J Q (p ++ i :: q) G S a →
    seqS P ops J Q (p ++ q) (fun k => k = g ∨ G k) (fun w => S w ∧ w.heap[g]? = some ob) (a.put oi.dst (f g))
  | [], G, S, a, _, hwt, hrun, hg, ⟨o, ho, hso, hs⟩ => by
    have : o = oi := Option.some.inj (ho.symm.trans hi)
    subst this
    rcases hs with ⟨hw, hs⟩ | ⟨hw, ⟨hk, v, hy, hs⟩ | ⟨hk, ob', f', hr, hs⟩ | ⟨hk, hs⟩⟩
    · rw [hwt] at hw; cases hw
    · rw [hki] at hk; cases hk
    · have hb : ∀ w : World, f w.heap.size = f' w.heap.size ∧ w.alloc ob = w.alloc ob' := fun w => by
        have := (hrun w).symm.trans (hr w)
        injection this with h1 h2
        injection h1 with h1
        exact ⟨h1, h2⟩
      have e1 : f g = f' g := by
        have := (hb { (default : World) with heap := Array.replicate g default }).1
        simpa using this
      have e2 : ob = ob' := by
        have h3 := (hb default).2
        have h1 := heap_alloc_new (default : World) ob
        rw [h3, heap_alloc_new] at h1
        exact (Option.some.inj h1).symm
      subst e2
      rw [e1]; exact hs g hg
    · rw [hki] at hk; cases hk
  | x :: p, G, S, a, hc, hwt, hrun, hg, ⟨o, ho, hso, hs⟩ => by
    obtain ⟨ox, oy, hx, hy, hap, _⟩ := comm_spec (hc x (List.mem_cons_self ..))
    have e1 : ox = o := Option.some.inj (hx.symm.trans ho)
    have e2 : oy = oi := Option.some.inj (hy.symm.trans hi)
    subst e1; subst e2
    obtain ⟨h1, h2, h3⟩ := Oper.apart_spec hap
    have hcp : ∀ x ∈ p, comm ops x i = true := fun y hy => hc y (List.mem_cons_of_mem _ hy)
    have key : ∀ {G : Nat → Prop} {S : World → Prop} {v : Value}, ¬ G g → seqS P ops J Q (p ++ i :: q) G S (a.put ox.dst v) → seqS P ops J Q (p ++ q) (fun k => k = g ∨ G k) (fun w => S w ∧ w.heap[g]? = some ob) ((a.put oy.dst (f g)).put ox.dst v) := fun {G S v} hg hh => by
      have := pullN (a := a.put ox.dst v) hi hsel hki hcp (by rw [wanted_put (ops := ops) oy a ox.dst v h1]; exact hwt) (by rw [execOp_put (ops := ops) oy hsel a ox.dst v h1]; exact hrun) hg hh
      rwa [Act.put_comm a v (f g) h2] at this
    refine ⟨ox, ho, hso, ?_⟩
    rw [wanted_put (ops := ops) ox a oy.dst (f g) h3, execOp_put (ops := ops) ox hso a oy.dst (f g) h3]
    simp only [Yl.put (P := P) (ops := ops) (a := a) (u := f g) hso h3, Ch.put (P := P) (ops := ops) (a := a) (u := f g) hso h3]
    rcases hs with ⟨hw, hs⟩ | ⟨hw, ⟨hk, v, hy, hs⟩ | ⟨hk, ob1, f1, hr, hs⟩ | ⟨hk, hs⟩⟩
    · exact .inl ⟨hw, key hg hs⟩
    · exact .inr ⟨hw, .inl ⟨hk, v, hy, key hg hs⟩⟩
    · refine .inr ⟨hw, .inr (.inl ⟨hk, ob1, f1, hr, fun g1 hg1 => ?_⟩)⟩
      have := key (G := fun k => k = g1 ∨ G k) (fun h => h.elim (fun e => hg1 (.inl e.symm)) hg) (hs g1 (fun h => hg1 (.inr h)))
      have hG : (fun k => k = g ∨ k = g1 ∨ G k) = (fun k => k = g1 ∨ k = g ∨ G k) := by
        funext k; exact propext or_left_comm
      rw [hG] at this
      exact seqS_anti (fun w ⟨⟨h1, h2⟩, h3⟩ => ⟨⟨h1, h3⟩, h2⟩) this
    · refine .inr ⟨hw, .inr (.inr ⟨hk, fun w ⟨h1, hb⟩ hj => (hs w h1 hj).mono fun v w' ⟨k1, k2, S', k3, k4, k5⟩ => ⟨k1.mono fun _ _ h => .inr h, k2, fun w => S' w ∧ w.heap[g]? = some ob, k3.and _ _, ⟨k4, ?_⟩, key hg k5⟩⟩)⟩
      rw [k1.block g (Array.getElem?_eq_some_iff.1 hb).1 hg]; exact hb
/-- An acting operation, pulled to the head: only reads stood before it. -/
theorem pullC {i : Nat} {oi : Oper} (hi : ops[i]? = some oi) (hsel : ∀ cs b, oi.op ≠ .select cs b) (hki : kd oi = .chain) {q : List Nat} : ∀ {p : List Nat} {G : Nat → Prop} {S : World → Prop} {a : Act},
    (∀ x ∈ p, comm ops x i = true) → Region.wanted oi (yielded ops a.tmps) = true → seqS P ops J Q (p ++ i :: q) G S a →
    ∀ w, S w → J w → Ch P oi a w fun v w' => Keep G w w' ∧ J w' ∧ ∃ S', AStab S' ∧ S' w' ∧ seqS P ops J Q (p ++ q) G S' (a.put oi.dst v)
  | [], G, S, a, _, hwt, ⟨o, ho, hso, hs⟩ => by
    have : o = oi := Option.some.inj (ho.symm.trans hi)
    subst this
    rcases hs with ⟨hw, hs⟩ | ⟨hw, ⟨hk, v, hy, hs⟩ | ⟨hk, ob', f', hr, hs⟩ | ⟨hk, hs⟩⟩
    · rw [hwt] at hw; cases hw
    · rw [hki] at hk; cases hk
    · rw [hki] at hk; cases hk
    · exact hs
  | x :: p, G, S, a, hc, hwt, ⟨o, ho, hso, hs⟩ => by
    obtain ⟨ox, oy, hx, hy, hap, hkk⟩ := comm_spec (hc x (List.mem_cons_self ..))
    have e1 : ox = o := Option.some.inj (hx.symm.trans ho)
    have e2 : oy = oi := Option.some.inj (hy.symm.trans hi)
    subst e1; subst e2
    obtain ⟨h1, h2, h3⟩ := Oper.apart_spec hap
    have hcp : ∀ x ∈ p, comm ops x i = true := fun y hy => hc y (List.mem_cons_of_mem _ hy)
    have key : ∀ {u : Value}, seqS P ops J Q (p ++ i :: q) G S (a.put ox.dst u) → Frees P ops J ox a u → ∀ w, S w → J w → Ch P oy a w fun v w' => Keep G w w' ∧ J w' ∧ ∃ S', AStab S' ∧ S' w' ∧ seqS P ops J Q (x :: p ++ q) G S' (a.put oy.dst v) := fun {u} hh hf w hS hJ => by
      have := pullC (a := a.put ox.dst u) hi hsel hki hcp (by rw [wanted_put (ops := ops) oy a ox.dst u h1]; exact hwt) hh w hS hJ
      rw [Ch.put (P := P) (ops := ops) (a := a) (u := u) hsel h1] at this
      refine this.mono fun v w' ⟨k1, k2, S', k3, k4, k5⟩ => ⟨k1, k2, S', k3, k4, ox, hx, hso, ?_⟩
      rw [Act.put_comm a u v h2] at k5
      rw [wanted_put (ops := ops) ox a oy.dst v h3]
      rcases hf with ⟨e1, rfl⟩ | ⟨e1, ek, ey⟩
      · exact .inl ⟨e1, k5⟩
      · exact .inr ⟨e1, .inl ⟨ek, u, fun w hw => (Yl.put (P := P) (ops := ops) (a := a) (u := v) hso h3).2 (ey w hw), k5⟩⟩
    rcases hs with ⟨hw, hs⟩ | ⟨hw, ⟨hk, v, hy, hs⟩ | ⟨hk, ob1, f1, hr, hs⟩ | ⟨hk, hs⟩⟩
    · exact key hs (.inl ⟨hw, rfl⟩)
    · exact key hs (.inr ⟨hw, hk, hy⟩)
    · rw [hk, hki] at hkk; cases hkk
    · rw [hk, hki] at hkk; cases hkk

/-! ### Every order -/
/-- The check: an operation that is listed later is either waiting for the earlier one, or may come first. -/
def ancB (ops : Array Oper) (c : Array Nat) (j i : Nat) : Bool :=
  match ops[j]? with
  | some o => o.after.any fun e => Region.binds .any e && decide (e.on < j) && (e.on == i || (decide (i < e.on) && (c.getD e.on 0).testBit i))
  | none => false
def pairsB (f : Nat → Nat → Bool) : List Nat → Bool
  | [] => true
  | x :: r => r.all (f x) && pairsB f r
def pairOk (ops : Array Oper) (c : Array Nat) (x y : Nat) : Bool := x != y && ((decide (x < y) && (c.getD y 0).testBit x) || comm ops x y)
def lowerB (ops : Array Oper) : Bool := (List.range ops.size).all fun i => match ops[i]? with | some o => o.after.all fun e => !Region.binds .any e || decide (e.on < i) | none => true
def okB (ops : Array Oper) (σ : List Nat) : Bool :=
  let c := Region.before ops
  ((List.range ops.size).all fun j => (List.range j).all fun i => !(c.getD j 0).testBit i || ancB ops c j i) &&
  σ.all (fun i => decide (i < ops.size)) && (List.range ops.size).all (fun i => σ.contains i) && pairsB (pairOk ops c) σ && lowerB ops
theorem pairsB_at {f : Nat → Nat → Bool} : ∀ {p q : List Nat} {y : Nat}, pairsB f (p ++ y :: q) = true → (∀ x ∈ p, f x y = true) ∧ (∀ z ∈ q, f y z = true) ∧ pairsB f (p ++ q) = true
  | [], q, y, h => by
    simp only [List.nil_append, pairsB, Bool.and_eq_true, List.all_eq_true] at h
    exact ⟨fun x hx => (by cases hx), h.1, by simpa using h.2⟩
  | x :: p, q, y, h => by
    simp only [List.cons_append, pairsB, Bool.and_eq_true, List.all_eq_true] at h
    obtain ⟨h1, h2, h3⟩ := pairsB_at h.2
    refine ⟨fun z hz => ?_, h2, ?_⟩
    · rcases List.mem_cons.1 hz with rfl | hz
      · exact h.1 y (by simp)
      · exact h1 z hz
    · simp only [List.cons_append, pairsB, Bool.and_eq_true, List.all_eq_true]
      refine ⟨fun z hz => h.1 z ?_, h3⟩
      rcases List.mem_append.1 hz with hz | hz <;> simp [hz]
structure Ok (ops : Array Oper) (σ : List Nat) : Prop where
  anc : ∀ j, j < ops.size → ∀ i, i < j → ((Region.before ops).getD j 0).testBit i = true → ancB ops (Region.before ops) j i = true
  lt : ∀ i ∈ σ, i < ops.size
  all : ∀ i, i < ops.size → i ∈ σ
  pairs : pairsB (pairOk ops (Region.before ops)) σ = true
  lower : ∀ i o, ops[i]? = some o → ∀ e ∈ o.after, Region.binds .any e = true → e.on < i
theorem okB_ok {σ : List Nat} (h : okB ops σ = true) : Ok ops σ := by
  unfold okB lowerB at h
  simp only [Bool.and_eq_true, decide_eq_true_eq, List.all_eq_true, List.mem_range] at h
  obtain ⟨⟨⟨⟨h1, h2⟩, h3⟩, h4⟩, h5⟩ := h
  refine ⟨fun j hj i hi hb => ?_, h2, fun i hi => by simpa using h3 i hi, h4, fun i o ho e he hb => ?_⟩
  · have := h1 j hj i hi
    simp only [Bool.or_eq_true, Bool.not_eq_true'] at this
    rcases this with h | h
    · rw [hb] at h; cases h
    · exact h
  · have := h5 i (Array.getElem?_eq_some_iff.1 ho).1
    rw [ho] at this
    have := Array.all_eq_true_iff_forall_mem.1 this e he
    simpa [hb] using this
/-- Of an operation that is ready, all that it waits for is listed. -/
theorem anc_listed {σ : List Nat} (hok : Ok ops σ) {listed : Array Bool} (hcl : ∀ j o, ops[j]? = some o → listed.getD j false = true → ∀ e ∈ o.after, Region.binds .any e = true → listed.getD e.on false = true) :
    ∀ (j : Nat), j < ops.size → (∀ o, ops[j]? = some o → ∀ e ∈ o.after, Region.binds .any e = true → listed.getD e.on false = true) → ∀ i, i < j → ((Region.before ops).getD j 0).testBit i = true → listed.getD i false = true := by
  intro j
  induction j using Nat.strongRecOn with
  | _ j ih =>
    intro hj hd i hi hb
    have := hok.anc j hj i hi hb
    unfold ancB at this
    split at this
    · rename_i o ho
      obtain ⟨e, he, hc⟩ := Array.any_eq_true'.1 this
      simp only [Bool.and_eq_true, Bool.or_eq_true, decide_eq_true_eq, beq_iff_eq] at hc
      obtain ⟨⟨hbd, hlt⟩, hc⟩ := hc
      have hl := hd o ho e he hbd
      rcases hc with hc | ⟨hc1, hc⟩
      · rw [← hc]; exact hl
      · exact ih e.on hlt (by omega) (fun o' ho' e' he' hb' => hcl e.on o' ho' hl e' he' hb') i hc1 hc
    · cases this
structure Inv (ops : Array Oper) (listed : Array Bool) (R : List Nat) : Prop where
  size : listed.size = ops.size
  closed : ∀ j o, ops[j]? = some o → listed.getD j false = true → ∀ e ∈ o.after, Region.binds .any e = true → listed.getD e.on false = true
  mem : ∀ i, i ∈ R ↔ i < ops.size ∧ listed.getD i false = false
  pairs : pairsB (pairOk ops (Region.before ops)) R = true
theorem pick {σ : List Nat} (hok : Ok ops σ) {listed : Array Bool} {R : List Nat} {i : Nat} (inv : Inv ops listed R) (hr : i ∈ Region.ready .any ops listed) :
    ∃ p q, R = p ++ i :: q ∧ (∀ x ∈ p, comm ops x i = true) ∧ Inv ops (listed.setIfInBounds i true) (p ++ q) := by
  obtain ⟨hun, o, ho, hall⟩ := mem_ready.1 hr
  have hi : i < ops.size := (Array.getElem?_eq_some_iff.1 ho).1
  have hil : i < listed.size := by rw [inv.size]; exact hi
  obtain ⟨p, q, rfl⟩ := List.append_of_mem ((inv.mem i).2 ⟨hi, getD_both hun⟩)
  obtain ⟨h1, h2, h3⟩ := pairsB_at inv.pairs
  refine ⟨p, q, rfl, fun x hx => ?_, by simp [inv.size], ?_, fun j => ?_, h3⟩
  · have := h1 x hx
    unfold pairOk at this
    simp only [Bool.and_eq_true, Bool.or_eq_true, decide_eq_true_eq] at this
    rcases this.2 with ⟨hlt, hb⟩ | h
    · have hl := anc_listed hok inv.closed i hi (fun o' ho' => by have : o' = o := Option.some.inj (ho'.symm.trans ho); subst this; exact hall) x hlt hb
      have := ((inv.mem x).1 (List.mem_append_left _ hx)).2
      rw [hl] at this; cases this
    · exact h
  · intro j oj hj hl e he hb
    by_cases hij : i = j
    · subst hij
      have : oj = o := Option.some.inj (hj.symm.trans ho)
      subst this
      exact getD_set_true (hall e he hb)
    · rw [getD_set_ne false hij] at hl
      exact getD_set_true (inv.closed j oj hj hl e he hb)
  · have hm := inv.mem j
    by_cases hij : i = j
    · subst hij
      rw [getD_set_self hil]
      constructor
      · intro h
        exfalso
        rcases List.mem_append.1 h with h | h
        · have := h1 i h; unfold pairOk at this; simp at this
        · have := h2 i h; unfold pairOk at this; simp at this
      · intro h; cases h.2
    · rw [getD_set_ne false hij, ← hm]
      constructor
      · intro h
        rcases List.mem_append.1 h with h | h <;> simp [h]
      · intro h
        rcases List.mem_append.1 h with h | h
        · exact List.mem_append_left _ h
        · rcases List.mem_cons.1 h with h | h
          · exact absurd h.symm hij
          · exact List.mem_append_right _ h
theorem ready_some {σ : List Nat} (hok : Ok ops σ) {listed : Array Bool} (hsz : listed.size = ops.size) : ∀ n, (∀ i, i < ops.size - n → listed.getD i false = true) → (∃ i, i < ops.size ∧ listed.getD i false = false) → n ≤ ops.size → Region.ready .any ops listed ≠ []
  | 0, h, ⟨i, hi, hu⟩, _ => by rw [h i (by omega)] at hu; cases hu
  | n + 1, h, hx, hn => by
    by_cases hl : listed.getD (ops.size - (n + 1)) false = true
    · refine ready_some hok hsz n (fun i hi => ?_) hx (by omega)
      by_cases he : i = ops.size - (n + 1)
      · rw [he]; exact hl
      · exact h i (by omega)
    · intro he
      have hlt : ops.size - (n + 1) < ops.size := by omega
      have : ops.size - (n + 1) ∈ Region.ready .any ops listed := mem_ready.2 ⟨getD_in (by rw [hsz]; exact hlt) (by simpa using hl), ops[ops.size - (n + 1)], Array.getElem?_eq_getElem hlt, fun e hm hb => h _ (hok.lower _ _ (Array.getElem?_eq_getElem hlt) e hm hb)⟩
      rw [he] at this; cases this
theorem seqS_any {σ : List Nat} (hok : Ok ops σ) : ∀ (n : Nat) (listed : Array Bool) (R : List Nat) (G : Nat → Prop) (S : World → Prop) (a : Act) (w : World), R.length = n → Inv ops listed R → Here G S J w → seqS P ops J Q R G S a → wpAny P .any ops Q n listed a w
  | 0, listed, R, G, S, a, w, hn, inv, hh, hs => by
    have : R = [] := List.eq_nil_of_length_eq_zero hn
    subst this
    refine ⟨?_, hs w hh.s hh.j⟩
    rcases hq : Region.ready .any ops listed with _ | ⟨i, r⟩
    · rfl
    · exfalso
      have hi : i ∈ Region.ready .any ops listed := by rw [hq]; exact List.mem_cons_self ..
      obtain ⟨hun, o, ho, _⟩ := mem_ready.1 hi
      have := (inv.mem i).2 ⟨(Array.getElem?_eq_some_iff.1 ho).1, getD_both hun⟩
      cases this
  | n + 1, listed, R, G, S, a, w, hn, inv, hh, hs => by
    refine ⟨fun he => ?_, fun i hi => ?_⟩
    · exfalso
      rcases R with _ | ⟨i, r⟩
      · cases hn
      · have := (inv.mem i).1 (List.mem_cons_self ..)
        exact ready_some hok inv.size ops.size (fun i hi => by omega) ⟨i, this⟩ (Nat.le_refl _) he
    · obtain ⟨p, q, rfl, hc, inv'⟩ := pick hok inv hi
      obtain ⟨hun, o, ho, hall⟩ := mem_ready.1 hi
      have hlen : (p ++ q).length = n := by simp at hn ⊢; omega
      obtain ⟨hk, hsel⟩ := known ho hc hh hs
      unfold wpOp
      rw [ho]
      show if Region.wanted o (yielded ops a.tmps) = true then _ else _
      rcases hk with ⟨v, hf⟩ | ⟨hw, hk, ob, f, hr⟩ | ⟨hw, hk⟩
      · have hs' := pullF ⟨w, hh.j⟩ ho hsel hc hf hs
        rcases hf with ⟨hw, rfl⟩ | ⟨hw, hk, hy⟩
        · rw [if_neg (by rw [hw]; exact Bool.false_ne_true)]
          exact seqS_any hok n _ _ G S _ w hlen inv' hh hs'
        · rw [if_pos hw]
          exact .inl ((hy w hh.j).ch.wp fun v' w' ⟨h1, h2⟩ => by subst h1; subst h2; exact seqS_any hok n _ _ G S _ w' hlen inv' hh hs')
      · rw [if_pos hw]
        have hg : ¬ G w.heap.size := fun h => absurd (hh.g _ h) (by omega)
        have hs' := pullN ho hsel hk hc hw hr hg hs
        refine .inl (Ch.wp (R := fun v' w' => v' = f w.heap.size ∧ w' = w.alloc ob) ?_ fun v' w' ⟨h1, h2⟩ => ?_)
        · unfold Ch; rw [hr w]; exact ⟨rfl, rfl⟩
        · subst h1; subst h2
          refine seqS_any hok n _ _ _ _ _ _ hlen inv' ⟨⟨hh.ss w ob hh.s, heap_alloc_new w ob⟩, hh.js w ob hh.j, hh.ss.and _ _, hh.js, fun k hk => ?_⟩ hs'
          rcases hk with rfl | hk
          · simp
          · have := hh.g k hk; simp; omega
      · rw [if_pos hw]
        exact .inl ((pullC ho hsel hk hc hw hs w hh.s hh.j).wp fun v w' ⟨k1, k2, S', k3, k4, k5⟩ =>
          seqS_any hok n _ _ G S' _ w' hlen inv' ⟨k4, k2, k3, hh.js, fun k hk => Nat.lt_of_lt_of_le (hh.g k hk) k1.size⟩ k5)
/-- THE LAW of a region that draws its order. -/
theorem region_S {id : Nat} {a : Act} {w : World} {σ : List Nat} (hm : P.follows .mixedOrders = true) (hB : okB ops σ = true) (G : Nat → Prop) (S : World → Prop) (hS : AStab S) (hJ : AStab J) (h0 : S w.drew) (hj : J w.drew) (hG : ∀ k, G k → k < w.heap.size)
    (h : seqS P ops J Q σ G S a) : (Code.region id ops true).wp P Q a w := by
  have hok := okB_ok hB
  refine wp_region_any hm ?_
  have hp := hok.pairs
  have inv : Inv ops (Array.replicate ops.size false) σ := by
    refine ⟨by simp, fun j o _ hl => (by rw [getD_replicate_false] at hl; cases hl), fun i => ?_, hok.pairs⟩
    rw [getD_replicate_false]
    exact ⟨fun h => ⟨hok.lt i h, rfl⟩, fun h => hok.all i h.1⟩
  have hlen : σ.length = ops.size := by
    have hnd : σ.Nodup := by
      clear hB hj h0 hG h inv hok
      induction σ with
      | nil => exact List.nodup_nil
      | cons x r ih =>
        simp only [pairsB, Bool.and_eq_true, List.all_eq_true] at hp
        refine List.nodup_cons.2 ⟨fun hx => ?_, ih hp.2⟩
        have := hp.1 x hx
        unfold pairOk at this; simp at this
    have h1 : σ.Subset (List.range ops.size) := fun i hi => List.mem_range.2 (hok.lt i hi)
    have h2 : (List.range ops.size).Subset σ := fun i hi => hok.all i (List.mem_range.1 hi)
    have a1 := List.Nodup.length_le_of_subset hnd h1
    have a2 := List.Nodup.length_le_of_subset List.nodup_range h2
    simp at a1 a2; omega
  have := seqS_any hok σ.length _ σ G S a w.drew rfl inv ⟨h0, hj, hS, hJ, hG⟩ h
  rw [hlen] at this
  exact this
/-! ### A head in any order, a forced tail behind it -/
/-- The check for the first n operations, and for the tail. -/
def okT (ops : Array Oper) (n : Nat) (σ : List Nat) : Bool :=
  let c := Region.before ops
  decide (n < ops.size) && Region.sinkB .any ops n && Region.chainB .any ops n && Region.seqB .any ops (ops.size - n) n (firstTrue ops.size n) &&
  ((List.range n).all fun j => (List.range j).all fun i => !(c.getD j 0).testBit i || ancB ops c j i) &&
  σ.all (fun i => decide (i < n)) && (List.range n).all (fun i => σ.contains i) && pairsB (pairOk ops c) σ && lowerB ops
structure OkT (ops : Array Oper) (n : Nat) (σ : List Nat) : Prop where
  le : n < ops.size
  sink : Region.sinkB .any ops n = true
  chn : Region.chainB .any ops n = true
  seq : Region.seqB .any ops (ops.size - n) n (firstTrue ops.size n) = true
  anc : ∀ j, j < n → ∀ i, i < j → ((Region.before ops).getD j 0).testBit i = true → ancB ops (Region.before ops) j i = true
  lt : ∀ i ∈ σ, i < n
  all : ∀ i, i < n → i ∈ σ
  pairs : pairsB (pairOk ops (Region.before ops)) σ = true
  lower : ∀ i o, ops[i]? = some o → ∀ e ∈ o.after, Region.binds .any e = true → e.on < i
theorem okT_ok {n : Nat} {σ : List Nat} (h : okT ops n σ = true) : OkT ops n σ := by
  unfold okT lowerB at h
  simp only [Bool.and_eq_true, decide_eq_true_eq, List.all_eq_true, List.mem_range] at h
  obtain ⟨⟨⟨⟨⟨⟨⟨⟨h1, h2⟩, h3⟩, h4⟩, h5⟩, h6⟩, h7⟩, h8⟩, h9⟩ := h
  refine ⟨h1, h2, h3, h4, fun j hj i hi hb => ?_, h6, fun i hi => by simpa using h7 i hi, h8, fun i o ho e he hb => ?_⟩
  · have := h5 j hj i hi
    simp only [Bool.or_eq_true, Bool.not_eq_true'] at this
    rcases this with h | h
    · rw [hb] at h; cases h
    · exact h
  · have := h9 i (Array.getElem?_eq_some_iff.1 ho).1
    rw [ho] at this
    have := Array.all_eq_true_iff_forall_mem.1 this e he
    simpa [hb] using this
structure InvT (ops : Array Oper) (n : Nat) (listed : Array Bool) (R : List Nat) : Prop where
  head : HeadInv .any ops n listed
  mem : ∀ i, i ∈ R ↔ i < n ∧ listed.getD i false = false
  pairs : pairsB (pairOk ops (Region.before ops)) R = true
theorem ancT_listed {n : Nat} {σ : List Nat} (hok : OkT ops n σ) {listed : Array Bool} (hcl : ∀ j o, ops[j]? = some o → listed.getD j false = true → ∀ e ∈ o.after, Region.binds .any e = true → listed.getD e.on false = true) :
    ∀ (j : Nat), j < n → (∀ o, ops[j]? = some o → ∀ e ∈ o.after, Region.binds .any e = true → listed.getD e.on false = true) → ∀ i, i < j → ((Region.before ops).getD j 0).testBit i = true → listed.getD i false = true := by
  intro j
  induction j using Nat.strongRecOn with
  | _ j ih =>
    intro hj hd i hi hb
    have := hok.anc j hj i hi hb
    unfold ancB at this
    split at this
    · rename_i o ho
      obtain ⟨e, he, hc⟩ := Array.any_eq_true'.1 this
      simp only [Bool.and_eq_true, Bool.or_eq_true, decide_eq_true_eq, beq_iff_eq] at hc
      obtain ⟨⟨hbd, hlt⟩, hc⟩ := hc
      have hl := hd o ho e he hbd
      rcases hc with hc | ⟨hc1, hc⟩
      · rw [← hc]; exact hl
      · exact ih e.on hlt (by omega) (fun o' ho' e' he' hb' => hcl e.on o' ho' hl e' he' hb') i hc1 hc
    · cases this
theorem pickT {n : Nat} {σ : List Nat} (hok : OkT ops n σ) {listed : Array Bool} {R : List Nat} {i : Nat} (inv : InvT ops n listed R) (hr : i ∈ Region.ready .any ops listed) (hin : i < n) :
    ∃ p q, R = p ++ i :: q ∧ (∀ x ∈ p, comm ops x i = true) ∧ InvT ops n (listed.setIfInBounds i true) (p ++ q) := by
  obtain ⟨hun, o, ho, hall⟩ := mem_ready.1 hr
  have hi : i < ops.size := (Array.getElem?_eq_some_iff.1 ho).1
  have hil : i < listed.size := by rw [inv.head.size]; exact hi
  obtain ⟨p, q, rfl⟩ := List.append_of_mem ((inv.mem i).2 ⟨hin, getD_both hun⟩)
  obtain ⟨h1, h2, h3⟩ := pairsB_at inv.pairs
  refine ⟨p, q, rfl, fun x hx => ?_, inv.head.set hr hin, fun j => ?_, h3⟩
  · have := h1 x hx
    unfold pairOk at this
    simp only [Bool.and_eq_true, Bool.or_eq_true, decide_eq_true_eq] at this
    rcases this.2 with ⟨hlt, hb⟩ | h
    · have hl := ancT_listed hok inv.head.closed i hin (fun o' ho' => by have : o' = o := Option.some.inj (ho'.symm.trans ho); subst this; exact hall) x hlt hb
      have := ((inv.mem x).1 (List.mem_append_left _ hx)).2
      rw [hl] at this; cases this
    · exact h
  · have hm := inv.mem j
    by_cases hij : i = j
    · subst hij
      rw [getD_set_self hil]
      constructor
      · intro h
        exfalso
        rcases List.mem_append.1 h with h | h
        · have := h1 i h; unfold pairOk at this; simp at this
        · have := h2 i h; unfold pairOk at this; simp at this
      · intro h; cases h.2
    · rw [getD_set_ne false hij, ← hm]
      constructor
      · intro h
        rcases List.mem_append.1 h with h | h <;> simp [h]
      · intro h
        rcases List.mem_append.1 h with h | h
        · exact List.mem_append_left _ h
        · rcases List.mem_cons.1 h with h | h
          · exact absurd h.symm hij
          · exact List.mem_append_right _ h
theorem readyT {n : Nat} {σ : List Nat} (hok : OkT ops n σ) {listed : Array Bool} {R : List Nat} (inv : InvT ops n listed R) (hR : R ≠ []) : Region.ready .any ops listed ≠ [] ∧ ∀ i ∈ Region.ready .any ops listed, i < n := by
  obtain ⟨x, r, rfl⟩ := List.exists_cons_of_ne_nil hR
  have hx := (inv.mem x).1 (List.mem_cons_self ..)
  have hpos : 0 < unl listed n := by
    rcases Nat.eq_zero_or_pos (unl listed n) with h | h
    · rw [unl_zero h x hx.1] at hx; cases hx.2
    · exact h
  obtain ⟨i, hi, hu, hb⟩ := unl_some hpos
  have hle := hok.le
  have his : i < ops.size := by omega
  have hun : listed.getD i true = false := getD_in (by rw [inv.head.size]; exact his) hu
  constructor
  · intro he
    have : i ∈ Region.ready .any ops listed := mem_ready.2 ⟨hun, ops[i], Array.getElem?_eq_getElem his, fun e hm hbd => hb _ (hok.lower i _ (Array.getElem?_eq_getElem his) e hm hbd)⟩
    rw [he] at this; cases this
  · intro j hj
    rcases Nat.lt_or_ge j n with h | h
    · exact h
    · exact absurd hj (tail_waits hok.sink hok.chn hok.le inv.head _ i rfl hi hun j h)
theorem seqS_anyT {n : Nat} {σ : List Nat} {l : List Oper} (hok : OkT l.toArray n σ) : ∀ (f : Nat) (listed : Array Bool) (R : List Nat) (G : Nat → Prop) (S : World → Prop) (a : Act) (w : World), R.length = f → InvT l.toArray n listed R → Here G S J w →
    seqS P l.toArray J (fun _ a w => wpList P l.toArray Q (l.drop n) a w) R G S a → wpAny P .any l.toArray Q (f + (l.toArray.size - n)) listed a w
  | 0, listed, R, G, S, a, w, hn, inv, hh, hs => by
    have : R = [] := List.eq_nil_of_length_eq_zero hn
    subst this
    rw [Nat.zero_add]
    have hfull : listed = firstTrue l.toArray.size n := listed_full inv.head fun i hi => by
      cases hl : listed.getD i false with
      | true => rfl
      | false => have := (inv.mem i).2 ⟨hi, hl⟩; cases this
    have h1 := hs w hh.s hh.j
    have hlen : (l.drop n).length = l.toArray.size - n := by simp
    have := wpAny_of_seq (md := .any) (Q' := Q) (l.drop n) n listed a w (fun j => by simp [List.getElem?_drop]) (by rw [hlen, hfull]; exact hok.seq) h1
    rwa [hlen] at this
  | f + 1, listed, R, G, S, a, w, hn, inv, hh, hs => by
    rw [show f + 1 + (l.toArray.size - n) = (f + (l.toArray.size - n)) + 1 by omega]
    obtain ⟨hr1, hr2⟩ := readyT hok inv (by intro h; subst h; cases hn)
    refine ⟨fun he => absurd he hr1, fun i hi => ?_⟩
    obtain ⟨p, q, rfl, hc, inv'⟩ := pickT hok inv hi (hr2 i hi)
    obtain ⟨hun, o, ho, hall⟩ := mem_ready.1 hi
    have hlen : (p ++ q).length = f := by simp at hn ⊢; omega
    obtain ⟨hk, hsel⟩ := known ho hc hh hs
    unfold wpOp
    rw [ho]
    show if Region.wanted o (yielded l.toArray a.tmps) = true then _ else _
    rcases hk with ⟨v, hf⟩ | ⟨hw, hk, ob, fv, hr⟩ | ⟨hw, hk⟩
    · have hs' := pullF ⟨w, hh.j⟩ ho hsel hc hf hs
      rcases hf with ⟨hw, rfl⟩ | ⟨hw, hk, hy⟩
      · rw [if_neg (by rw [hw]; exact Bool.false_ne_true)]
        exact seqS_anyT hok f _ _ G S _ w hlen inv' hh hs'
      · rw [if_pos hw]
        exact .inl ((hy w hh.j).ch.wp fun v' w' ⟨h1, h2⟩ => by subst h1; subst h2; exact seqS_anyT hok f _ _ G S _ w' hlen inv' hh hs')
    · rw [if_pos hw]
      have hg : ¬ G w.heap.size := fun h => absurd (hh.g _ h) (by omega)
      have hs' := pullN ho hsel hk hc hw hr hg hs
      refine .inl (Ch.wp (R := fun v' w' => v' = fv w.heap.size ∧ w' = w.alloc ob) ?_ fun v' w' ⟨h1, h2⟩ => ?_)
      · unfold Ch; rw [hr w]; exact ⟨rfl, rfl⟩
      · subst h1; subst h2
        refine seqS_anyT hok f _ _ _ _ _ _ hlen inv' ⟨⟨hh.ss w ob hh.s, heap_alloc_new w ob⟩, hh.js w ob hh.j, hh.ss.and _ _, hh.js, fun k hk => ?_⟩ hs'
        rcases hk with rfl | hk
        · simp
        · have := hh.g k hk; simp; omega
    · rw [if_pos hw]
      exact .inl ((pullC ho hsel hk hc hw hs w hh.s hh.j).wp fun v w' ⟨k1, k2, S', k3, k4, k5⟩ =>
        seqS_anyT hok f _ _ G S' _ w' hlen inv' ⟨k4, k2, k3, hh.js, fun k hk => Nat.lt_of_lt_of_le (hh.g k hk) k1.size⟩ k5)
theorem region_ST {id : Nat} {a : Act} {w : World} {n : Nat} {σ : List Nat} {l : List Oper} (hm : P.follows .mixedOrders = true) (hB : okT l.toArray n σ = true) (G : Nat → Prop) (S : World → Prop) (hS : AStab S) (hJ : AStab J) (h0 : S w.drew) (hj : J w.drew) (hG : ∀ k, G k → k < w.heap.size)
    (h : seqS P l.toArray J (fun _ a w => wpList P l.toArray Q (l.drop n) a w) σ G S a) : (Code.region id l.toArray true).wp P Q a w := by
  have hok := okT_ok hB
  refine wp_region_any hm ?_
  have hp := hok.pairs
  have inv : InvT l.toArray n (Array.replicate l.toArray.size false) σ := by
    refine ⟨⟨by simp, fun j oj _ hl => (by rw [getD_replicate_false] at hl; cases hl), fun t _ ht => getD_in (by simpa using ht) (getD_replicate_false _ _)⟩, fun i => ?_, hok.pairs⟩
    rw [getD_replicate_false]
    exact ⟨fun h => ⟨hok.lt i h, rfl⟩, fun h => hok.all i h.1⟩
  have hlen : σ.length = n := by
    have hnd : σ.Nodup := by
      clear hB hj h0 hG h inv hok
      induction σ with
      | nil => exact List.nodup_nil
      | cons x r ih =>
        simp only [pairsB, Bool.and_eq_true, List.all_eq_true] at hp
        refine List.nodup_cons.2 ⟨fun hx => ?_, ih hp.2⟩
        have := hp.1 x hx
        unfold pairOk at this; simp at this
    have h1 : σ.Subset (List.range n) := fun i hi => List.mem_range.2 (hok.lt i hi)
    have h2 : (List.range n).Subset σ := fun i hi => hok.all i (List.mem_range.1 hi)
    have a1 := List.Nodup.length_le_of_subset hnd h1
    have a2 := List.Nodup.length_le_of_subset List.nodup_range h2
    simp at a1 a2; omega
  have hle := hok.le
  have := seqS_anyT hok σ.length _ σ G S a w.drew rfl inv ⟨h0, hj, hS, hJ, hG⟩ h
  rw [hlen, show n + (l.toArray.size - n) = l.toArray.size by omega] at this
  exact this
end
end Go.Proofs.Ytojofinofpgopaa
