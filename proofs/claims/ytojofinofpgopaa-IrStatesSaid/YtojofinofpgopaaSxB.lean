/- The walk on symbolic states: of the frame, what is known of some slots; of the world, what an assertion says. -/
import Derived.Test.YtojofinofpgopaaSxA
namespace Go.Proofs.Ytojofinofpgopaa
open Go.RowKit

def look : List (Nat × Value) → Nat → Option Value
  | [], _ => none
  | (k, v) :: r, i => bif Nat.beq k i then some v else look r i
structure Sat (n : Nat) (m : List (Nat × Value)) (a : Act) : Prop where
  size : a.tmps.size = n
  dfr : a.defers = []
  get : ∀ i v, look m i = some v → a.tmps[i]? = some v
section
variable {n : Nat} {m : List (Nat × Value)} {a : Act}
theorem look_ne {k i : Nat} {v : Value} (h : k ≠ i) : look ((k, v) :: m) i = look m i := by
  have : Nat.beq k i = false := by
    cases h' : Nat.beq k i
    · rfl
    · exact absurd (Nat.eq_of_beq_eq_true h') h
  simp [look, this]
theorem look_eq {k : Nat} {v : Value} : look ((k, v) :: m) k = some v := by
  simp [look]
theorem Sat.put (h : Sat n m a) {d : Nat} {v : Value} (hd : Nat.blt d n = true) : Sat n ((d, v) :: m) (a.put (some d) v) := by
  have hd' : d < n := by simpa [Nat.blt_eq] using hd
  refine ⟨by rw [put_size]; exact h.size, by rw [put_defers]; exact h.dfr, fun i u hu => ?_⟩
  by_cases hi : d = i
  · subst hi
    rw [look_eq] at hu; cases hu
    rw [put_tmps_eq, Array.getElem?_eq_getElem (by rw [h.size]; exact hd')]; rfl
  · rw [look_ne hi] at hu
    rw [put_tmps_ne (by simpa using hi)]; exact h.get i u hu
theorem Sat.put0 (h : Sat n m a) {v : Value} : Sat n m (a.put none v) := h
/-- More is known than was asked for. -/
inductive Pr (m : List (Nat × Value)) : List (Nat × Value) → Prop
  | nil : Pr m []
  | cons {i : Nat} {v : Value} {l : List (Nat × Value)} (h : look m i = some v) (t : Pr m l) : Pr m ((i, v) :: l)
theorem Pr.consE {i : Nat} {v v' : Value} {l : List (Nat × Value)} (h : look m i = some v) (e : v = v') (t : Pr m l) : Pr m ((i, v') :: l) := by subst e; exact .cons h t
theorem Pr.get {l : List (Nat × Value)} (h : Pr m l) : ∀ i v, look l i = some v → look m i = some v := by
  induction h with
  | nil => intro i v h; cases h
  | @cons j u l hj t ih =>
    intro i v hv
    by_cases hi : j = i
    · subst hi; rw [look_eq] at hv; cases hv; exact hj
    · rw [look_ne hi] at hv; exact ih i v hv
theorem Sat.weak {l : List (Nat × Value)} (h : Sat n m a) (hp : Pr m l) : Sat n l a := ⟨h.size, h.dfr, fun i v hv => h.get i v (hp.get i v hv)⟩
def ev (m : List (Nat × Value)) : Operand → Option Value
  | .tmp t => look m t
  | .const v => some v
  | .global g => some (.pointer (some ⟨g, 0, none⟩))
  | .func f => some (.func (.func f) #[] #[])
theorem Sat.ev (h : Sat n m a) {x : Operand} {v : Value} (hx : ev m x = some v) : a.eval x = v := by
  cases x with
  | tmp t =>
    have := h.get t v hx
    simp [Act.eval, Array.getD_eq_getD_getElem?, this]
  | const u => cases hx; rfl
  | global g => cases hx; rfl
  | func f => cases hx; rfl
/-- What the guard asks for holds. -/
inductive Gd (ops : Array Oper) (m : List (Nat × Value)) : Option (Nat × Bool) → Prop
  | none : Gd ops m none
  | some {j : Nat} {want : Bool} {t : Nat} (ht : (ops[j]?).bind (·.dst) = some t) (hv : look m t = some (.bool want)) : Gd ops m (some (j, want))
inductive Gn (ops : Array Oper) (m : List (Nat × Value)) : Option (Nat × Bool) → Prop
  | some {j : Nat} {want b : Bool} {t : Nat} (ht : (ops[j]?).bind (·.dst) = some t) (hv : look m t = some (.bool b)) (hne : (b == want) = false) : Gn ops m (some (j, want))
theorem yielded_look {ops : Array Oper} {j t : Nat} {b : Bool} (h : Sat n m a) (ht : (ops[j]?).bind (·.dst) = some t) (hv : look m t = some (.bool b)) : yielded ops a.tmps j = some b := by
  simp [yielded, ht, h.get t _ hv]
theorem Gd.wanted {ops : Array Oper} {o : Oper} (h : Sat n m a) (hg : Gd ops m o.guard) : Region.wanted o (yielded ops a.tmps) = true := by
  unfold Region.wanted
  generalize o.guard = g at hg
  cases hg with
  | none => rfl
  | @some j want t ht hv => simp [yielded_look h ht hv]
theorem Gn.wanted {ops : Array Oper} {o : Oper} (h : Sat n m a) (hg : Gn ops m o.guard) : Region.wanted o (yielded ops a.tmps) = false := by
  unfold Region.wanted
  generalize o.guard = g at hg
  cases hg with
  | @some j want b t ht hv hne => simp [yielded_look h ht hv]; simpa using hne
end
section
variable {P : Program} {ops : Array Oper} {Q : Exit → Act → World → Prop} {n : Nat} {m : List (Nat × Value)} {H J : World → Prop} {rest : List Oper}
def WC (P : Program) (c : Code) (Q : Exit → Act → World → Prop) (n : Nat) (m : List (Nat × Value)) (H : World → Prop) : Prop := ∀ a w, Sat n m a → H w → c.wp P Q a w
def WL (P : Program) (ops : Array Oper) (Q : Exit → Act → World → Prop) (l : List Oper) (n : Nat) (m : List (Nat × Value)) (H : World → Prop) : Prop := ∀ a w, Sat n m a → H w → wpList P ops Q l a w
def WD (P : Program) (ops : Array Oper) (J : World → Prop) (Q : Exit → Act → World → Prop) (σ : List Nat) (G : Nat → Prop) (n : Nat) (m : List (Nat × Value)) (H : World → Prop) : Prop := ∀ a, Sat n m a → seqS P ops J Q σ G H a
def WQ (Q : Exit → Act → World → Prop) (e : Exit) (n : Nat) (m : List (Nat × Value)) (H : World → Prop) : Prop := ∀ a w, Sat n m a → H w → Q e a w
theorem beq_no {a b : Int} (h : (a == b) = false) : a ≠ b := fun e => by subst e; simp at h
theorem bne_no {a b : Int} (h : (a != b) = false) : a = b := by simpa using h
theorem bne_yes {a b : Int} (h : (a != b) = true) : a ≠ b := by simpa using h
/-! ### Code -/
theorem wc_seq {x y : Code} (h : WC P x (Exit.then (y.wp P Q) Q) n m H) : WC P (.seq x y) Q n m H := fun a w hs hw => wp_seq (h a w hs hw)
theorem wc_skip (h : WQ Q .normal n m H) : WC P .skip Q n m H := fun a w hs hw => wp_skip (h a w hs hw)
theorem wc_ret (h : WQ Q .ret n m H) : WC P .ret Q n m H := fun a w hs hw => wp_ret (h a w hs hw)
theorem wc_exit {i : Nat} (h : WQ Q (.exit i) n m H) : WC P (.exit i) Q n m H := fun a w hs hw => wp_exit (h a w hs hw)
theorem wc_block {i : Nat} {c : Code} (h : WC P c (Exit.inBlock i Q) n m H) : WC P (.block i c) Q n m H := fun a w hs hw => wp_block (h a w hs hw)
theorem wc_cond {t : Nat} {x y : Code} {b : Bool} (hv : look m t = some (.bool b)) (h1 : b = true → WC P x Q n m H) (h2 : b = false → WC P y Q n m H) : WC P (.cond (.tmp t) x y) Q n m H := fun a w hs hw =>
  wp_cond_split (hs.ev (x := .tmp t) hv) (fun h => h1 h a w hs hw) (fun h => h2 h a w hs hw)
theorem wc_true {t : Nat} {x y : Code} (hv : look m t = some (.bool true)) (h1 : WC P x Q n m H) : WC P (.cond (.tmp t) x y) Q n m H := wc_cond hv (fun _ => h1) (fun h => by cases h)
theorem wc_false {t : Nat} {x y : Code} (hv : look m t = some (.bool false)) (h1 : WC P y Q n m H) : WC P (.cond (.tmp t) x y) Q n m H := wc_cond hv (fun h => by cases h) (fun _ => h1)
theorem wc_region {id : Nat} {l : List Oper} (h : WL P l.toArray Q l n m H) : WC P (.region id l.toArray false) Q n m H := fun a w hs hw => wp_region_lit (h a w hs hw)
theorem wc_draw {id : Nat} {l : List Oper} (σ : List Nat) (J : World → Prop) (hm : P.follows .mixedOrders = true) (hB : okB l.toArray σ = true) (hH : AStab H) (hJ : AStab J) (hd : ∀ w, H w → H w.drew) (hj : ∀ w, H w → J w)
    (h : ∀ n0, WD P l.toArray J Q σ (fun k => k < n0) n m (fun w => H w ∧ n0 ≤ w.heap.size)) : WC P (.region id l.toArray true) Q n m H := fun a w hs hw =>
  region_S (J := J) hm hB (fun k => k < w.heap.size) (fun u => H u ∧ w.heap.size ≤ u.heap.size) (fun u ob ⟨h1, h2⟩ => ⟨hH u ob h1, by simp; omega⟩) hJ ⟨hd w hw, Nat.le_refl _⟩ (hj _ (hd w hw)) (fun _ h => h) (h w.heap.size a hs)
theorem wc_weak {c : Code} {l : List (Nat × Value)} (hp : Pr m l) (h : WC P c Q n l H) : WC P c Q n m H := fun a w hs hw => h a w (hs.weak hp) hw
theorem wc_conseq {c : Code} {H' : World → Prop} (hH : ∀ w, H w → H' w) (h : WC P c Q n m H') : WC P c Q n m H := fun a w hs hw => h a w hs (hH w hw)
theorem wc_ex {ι : Type} {c : Code} {H' : ι → World → Prop} (hH : ∀ w, H w → ∃ i, H' i w) (h : ∀ i, WC P c Q n m (H' i)) : WC P c Q n m H := fun a w hs hw => by
  obtain ⟨i, hi⟩ := hH w hw
  exact h i a w hs hi
/-! ### Exits -/
theorem wq_then {y : Code} (h : WC P y Q n m H) : WQ (Exit.then (y.wp P Q) Q) .normal n m H := h
theorem wq_then_ret {K : Act → World → Prop} (h : WQ Q .ret n m H) : WQ (Exit.then K Q) .ret n m H := h
theorem wq_then_exit {K : Act → World → Prop} {i : Nat} (h : WQ Q (.exit i) n m H) : WQ (Exit.then K Q) (.exit i) n m H := h
theorem wq_block {i : Nat} (h : WQ Q .normal n m H) : WQ (Exit.inBlock i Q) .normal n m H := h
theorem wq_block_ret {i : Nat} (h : WQ Q .ret n m H) : WQ (Exit.inBlock i Q) .ret n m H := h
theorem wq_here {i : Nat} (h : WQ Q .normal n m H) : WQ (Exit.inBlock i Q) (.exit i) n m H := fun a w hs hw => by
  show if i = i then _ else _
  rw [if_pos rfl]; exact h a w hs hw
theorem wq_far {i j : Nat} (hne : Nat.beq j i = false) (h : WQ Q (.exit j) n m H) : WQ (Exit.inBlock i Q) (.exit j) n m H := fun a w hs hw => by
  show if j = i then _ else _
  rw [if_neg (fun e => by subst e; simp at hne)]; exact h a w hs hw
/-- A cut: what both sides agree on. -/
theorem wc_cut {ι : Type} {x y : Code} (I : ι → List (Nat × Value)) (HI : ι → World → Prop) (h1 : WC P x (Exit.then (fun a w => ∃ i, Sat n (I i) a ∧ HI i w) Q) n m H) (h2 : ∀ i, WC P y Q n (I i) (HI i)) : WC P (.seq x y) Q n m H := fun a w hs hw =>
  wp_seq (wp_mono (h1 a w hs hw) fun e a' w' hq => by
    cases e with
    | normal => obtain ⟨i, k1, k2⟩ := hq; exact h2 i a' w' k1 k2
    | exit _ => exact hq
    | goto _ => exact hq
    | ret => exact hq
    | panic _ => exact hq
    | outgrown => exact hq)
theorem wq_meet {ι : Type} {I : ι → List (Nat × Value)} {HI : ι → World → Prop} (i : ι) (hp : Pr m (I i)) (hH : ∀ w, H w → HI i w) : WQ (Exit.then (fun a w => ∃ i, Sat n (I i) a ∧ HI i w) Q) .normal n m H := fun _ w hs hw => ⟨i, hs.weak hp, hH w hw⟩
/-- A loop. -/
theorem wc_loop {ι : Type} {body : Code} (I : ι → List (Nat × Value)) (HI : ι → World → Prop) (μ : ι → Nat) (i0 : ι) (hp : Pr m (I i0)) (hH : ∀ w, H w → HI i0 w)
    (round : ∀ i, WC P body (Exit.then (fun a w => ∃ j, μ j < μ i ∧ Sat n (I j) a ∧ HI j w) Q) n (I i) (HI i)) : WC P (.loop body) Q n m H := fun a w hs hw => by
  have key : ∀ k i a w, μ i = k → Sat n (I i) a → HI i w → (Code.loop body).wp P Q a w := by
    intro k i a w hk h1 h2
    have ex : ∀ a w, (∃ i, Sat n (I i) a ∧ HI i w) → ∃ k, (∃ i, μ i = k ∧ Sat n (I i) a ∧ HI i w) ∧ ∀ j, (∃ i, μ i = j ∧ Sat n (I i) a ∧ HI i w) → k ≤ j := fun a w ⟨i, h1, h2⟩ => by
      have : ∀ d k, (∃ i, μ i = k ∧ Sat n (I i) a ∧ HI i w) → k ≤ d → ∃ k, (∃ i, μ i = k ∧ Sat n (I i) a ∧ HI i w) ∧ ∀ j, (∃ i, μ i = j ∧ Sat n (I i) a ∧ HI i w) → k ≤ j := by
        intro d
        induction d with
        | zero => intro k hk hd; exact ⟨k, hk, fun j _ => by omega⟩
        | succ d ih =>
          intro k hk hd
          by_cases hx : ∃ j, (∃ i, μ i = j ∧ Sat n (I i) a ∧ HI i w) ∧ j < k
          · obtain ⟨j, hj, hlt⟩ := hx
            exact ih j hj (by omega)
          · exact ⟨k, hk, fun j hj => by
              rcases Nat.lt_or_ge j k with h | h
              · exact absurd ⟨j, hj, h⟩ hx
              · exact h⟩
      exact this _ (μ i) ⟨i, rfl, h1, h2⟩ (Nat.le_refl _)
    classical
    let mu : Act → World → Nat := fun a w => if h : ∃ i, Sat n (I i) a ∧ HI i w then (ex a w h).choose else 0
    refine wp_loop (fun a w => ∃ i, Sat n (I i) a ∧ HI i w) mu ⟨i, h1, h2⟩ fun a w hi => ?_
    have hmu : mu a w = (ex a w hi).choose := dif_pos hi
    obtain ⟨⟨i, hi1, hi2, hi3⟩, _⟩ := (ex a w hi).choose_spec
    refine wp_mono (round i a w hi2 hi3) fun e a' w' hq => ?_
    cases e with
    | normal =>
      obtain ⟨j, hj1, hj2, hj3⟩ := hq
      have hx : ∃ i, Sat n (I i) a' ∧ HI i w' := ⟨j, hj2, hj3⟩
      refine ⟨hx, ?_⟩
      have hmu' : mu a' w' = (ex a' w' hx).choose := dif_pos hx
      have := (ex a' w' hx).choose_spec.2 (μ j) ⟨j, rfl, hj2, hj3⟩
      rw [hmu, hmu']; omega
    | exit _ => exact hq
    | goto _ => exact hq
    | ret => exact hq
    | panic _ => exact hq
    | outgrown => exact hq
  exact key _ i0 a w rfl (hs.weak hp) (hH w hw)
theorem wq_round {ι : Type} {I : ι → List (Nat × Value)} {HI : ι → World → Prop} {μ : ι → Nat} {m0 : Nat} (j : ι) (hμ : μ j < m0) (hp : Pr m (I j)) (hH : ∀ w, H w → HI j w) :
    WQ (Exit.then (fun a w => ∃ j, μ j < m0 ∧ Sat n (I j) a ∧ HI j w) Q) .normal n m H := fun _ w hs hw => ⟨j, hμ, hs.weak hp, hH w hw⟩
/-! ### A call begins, and ends -/
theorem calls_wc {f : FuncId} {fn : Func} {c : Code} {args : List Value} {w : World} {R : Ending → World → Prop} (hf : P.funcs[f]? = some fn) (hb : fn.body = some c) (n : Nat) (hn : fn.ntmps = n) (ha : args.length ≤ n)
    (h : WC P c (bodyPost P fn R) n (args.zipIdx.map fun p => (p.2, p.1)) (fun u => u = w)) : Calls P f args.toArray w R := by
  refine calls_of_wp hf hb (h _ w ⟨?_, rfl, fun i v hv => ?_⟩ rfl)
  · subst hn; simp; omega
  · have key : ∀ (l : List Value) (k : Nat), look ((l.zipIdx k).map fun p => (p.2, p.1)) i = some v → k ≤ i ∧ l[i - k]? = some v := by
      intro l
      induction l with
      | nil => intro k h; cases h
      | cons x l ih =>
        intro k h
        simp only [List.zipIdx_cons, List.map_cons] at h
        by_cases hk : k = i
        · subst hk; rw [look_eq] at h; cases h; simp
        · rw [look_ne hk] at h
          obtain ⟨h1, h2⟩ := ih (k + 1) h
          refine ⟨by omega, ?_⟩
          rw [show i - k = (i - (k + 1)) + 1 by omega]; simpa using h2
    obtain ⟨_, h2⟩ := key args 0 hv
    rw [Nat.sub_zero] at h2
    show (args.toArray ++ Array.replicate _ undef)[i]? = some v
    rw [Array.getElem?_append_left (by simpa using (List.getElem?_eq_some_iff.1 h2).1)]
    simpa using h2
theorem wq_ret1 {fn : Func} {R : Ending → World → Prop} {t : Tmp} {v : Value} (hr : fn.results = #[.tmp t]) (hv : look m t = some v) (h : ∀ w, H w → R (.returned v) w) : WQ (bodyPost P fn R) .ret n m H := fun a w hs hw =>
  bodyPost_ret (v := v) (by rw [results_tmp hr]; simp [Array.getD_eq_getD_getElem?, hs.get t v hv]) hs.dfr (h w hw)
theorem wq_ret2 {fn : Func} {R : Ending → World → Prop} {t u : Tmp} {v x : Value} (hr : fn.results = #[.tmp t, .tmp u]) (hv : look m t = some v) (hx : look m u = some x) (h : ∀ w, H w → R (.returned (.tuple #[v, x])) w) : WQ (bodyPost P fn R) .ret n m H := fun a w hs hw =>
  bodyPost_ret (v := .tuple #[v, x]) (by rw [results_tmp2 hr]; simp [Array.getD_eq_getD_getElem?, hs.get t v hv, hs.get u x hx]) hs.dfr (h w hw)
theorem wq_ret0 {fn : Func} {R : Ending → World → Prop} (hr : fn.results = #[]) (h : ∀ w, H w → R (.returned (.tuple #[])) w) : WQ (bodyPost P fn R) .ret n m H := fun a w hs hw =>
  bodyPost_ret (v := .tuple #[]) (results_none hr _ _ _) hs.dfr (h w hw)
theorem wq_end0 {fn : Func} {R : Ending → World → Prop} (hr : fn.results = #[]) (h : ∀ w, H w → R (.returned (.tuple #[])) w) : WQ (bodyPost P fn R) .normal n m H := fun a w hs hw =>
  bodyPost_end (v := .tuple #[]) (results_none hr _ _ _) hs.dfr (h w hw)
/-! ### Operations -/
/-- What an operation hands on, where the slots are as m says and the world as H says; it only reads. -/
def YF (P : Program) (op : Op) (ty : TypeId) (n : Nat) (m : List (Nat × Value)) (H : World → Prop) (v : Value) : Prop := ∀ a w d pos af g, Sat n m a → H w → Yl P ⟨d, op, ty, pos, af, g⟩ a w v
theorem wl_nil (h : WQ Q .normal n m H) : WL P ops Q [] n m H := fun a w hs hw => wpList_nil (h a w hs hw)
theorem wl_of_ch {o : Oper} {a : Act} {w : World} {R : Value → World → Prop} (hg : Region.wanted o (yielded ops a.tmps) = true) (h : Ch P o a w R) (hK : ∀ v w', R v w' → wpList P ops Q rest (a.put o.dst v) w') : wpList P ops Q (o :: rest) a w := by
  unfold wpList
  rw [if_pos hg]
  exact .inl (h.wp hK)
theorem wl_free {op : Op} {d : Nat} {ty : TypeId} {pos : String} {af : Array Edge} {g : Option (Nat × Bool)} {v : Value} (hg : Gd ops m g) (hd : Nat.blt d n = true) (hy : YF P op ty n m H v) (h : WL P ops Q rest n ((d, v) :: m) H) :
    WL P ops Q (⟨some d, op, ty, pos, af, g⟩ :: rest) n m H := fun a w hs hw =>
  wl_of_ch (hg.wanted hs) (hy a w _ pos af g hs hw).ch fun v' w' ⟨e1, e2⟩ => by subst e1; subst e2; exact h _ _ (hs.put hd) hw
theorem wl_free0 {op : Op} {ty : TypeId} {pos : String} {af : Array Edge} {g : Option (Nat × Bool)} {v : Value} (hg : Gd ops m g) (hy : YF P op ty n m H v) (h : WL P ops Q rest n m H) :
    WL P ops Q (⟨none, op, ty, pos, af, g⟩ :: rest) n m H := fun a w hs hw =>
  wl_of_ch (hg.wanted hs) (hy a w _ pos af g hs hw).ch fun v' w' ⟨e1, e2⟩ => by subst e1; subst e2; exact h _ _ hs.put0 hw
theorem wl_pass {op : Op} {d : Nat} {ty : TypeId} {pos : String} {af : Array Edge} {g : Option (Nat × Bool)} (hg : Gn ops m g) (hd : Nat.blt d n = true) (h : WL P ops Q rest n ((d, undef) :: m) H) :
    WL P ops Q (⟨some d, op, ty, pos, af, g⟩ :: rest) n m H := fun a w hs hw => by
  unfold wpList
  rw [if_neg (by rw [Gn.wanted (o := ⟨some d, op, ty, pos, af, g⟩) hs hg]; exact Bool.false_ne_true)]
  exact h _ _ (hs.put hd) hw
theorem wl_pass0 {op : Op} {ty : TypeId} {pos : String} {af : Array Edge} {g : Option (Nat × Bool)} (hg : Gn ops m g) (h : WL P ops Q rest n m H) :
    WL P ops Q (⟨none, op, ty, pos, af, g⟩ :: rest) n m H := fun a w hs hw => by
  unfold wpList
  rw [if_neg (by rw [Gn.wanted (o := ⟨none, op, ty, pos, af, g⟩) hs hg]; exact Bool.false_ne_true)]
  exact h _ _ hs.put0 hw
theorem wl_split {l : List Oper} {b : Bool} (t : Nat) (hv : look m t = some (.bool b)) (h1 : b = true → WL P ops Q l n ((t, .bool true) :: m) H) (h2 : b = false → WL P ops Q l n ((t, .bool false) :: m) H) : WL P ops Q l n m H := fun a w hs hw => by
  have key : Sat n ((t, .bool b) :: m) a := ⟨hs.size, hs.dfr, fun i u hu => by
    by_cases hi : t = i
    · subst hi; rw [look_eq] at hu; cases hu; exact hs.get t _ hv
    · rw [look_ne hi] at hu; exact hs.get i u hu⟩
  cases b
  · exact h2 rfl a w key hw
  · exact h1 rfl a w key hw
/-- An operation that acts. -/
def CF {ι : Type} (P : Program) (op : Op) (ty : TypeId) (n : Nat) (m : List (Nat × Value)) (H : World → Prop) (val : ι → Value) (H' : ι → World → Prop) : Prop := ∀ a w d pos af g, Sat n m a → H w → Ch P ⟨d, op, ty, pos, af, g⟩ a w fun v w' => ∃ i, v = val i ∧ H' i w'
theorem wl_chain {ι : Type} {op : Op} {d : Nat} {ty : TypeId} {pos : String} {af : Array Edge} {g : Option (Nat × Bool)} {val : ι → Value} {H' : ι → World → Prop} (hg : Gd ops m g) (hd : Nat.blt d n = true) (hc : CF P op ty n m H val H')
    (h : ∀ i, WL P ops Q rest n ((d, val i) :: m) (H' i)) : WL P ops Q (⟨some d, op, ty, pos, af, g⟩ :: rest) n m H := fun a w hs hw =>
  wl_of_ch (hg.wanted hs) (hc a w _ pos af g hs hw) fun v' w' ⟨i, e1, e2⟩ => by subst e1; exact h i _ _ (hs.put hd) e2
theorem wl_chain0 {ι : Type} {op : Op} {ty : TypeId} {pos : String} {af : Array Edge} {g : Option (Nat × Bool)} {val : ι → Value} {H' : ι → World → Prop} (hg : Gd ops m g) (hc : CF P op ty n m H val H')
    (h : ∀ i, WL P ops Q rest n m (H' i)) : WL P ops Q (⟨none, op, ty, pos, af, g⟩ :: rest) n m H := fun a w hs hw =>
  wl_of_ch (hg.wanted hs) (hc a w _ pos af g hs hw) fun v' w' ⟨i, e1, e2⟩ => by exact h i _ _ hs.put0 e2
/-! ### Operations of a region that draws its order -/
variable {G : Nat → Prop} {σ : List Nat} {i : Nat}
theorem wd_end (h : WQ Q .normal n m H) : WD P ops J Q [] G n m H := fun a hs w hw _ => h a w hs hw
/-- The same, the operation at hand. -/
def WDo (P : Program) (ops : Array Oper) (J : World → Prop) (Q : Exit → Act → World → Prop) (o : Oper) (σ : List Nat) (G : Nat → Prop) (n : Nat) (m : List (Nat × Value)) (H : World → Prop) : Prop := ∀ a, Sat n m a → (∀ cs b, o.op ≠ .select cs b) ∧
      ((Region.wanted o (yielded ops a.tmps) = false ∧ seqS P ops J Q σ G H (a.put o.dst undef)) ∨
       (Region.wanted o (yielded ops a.tmps) = true ∧
         ((kd o = .free ∧ ∃ v, (∀ w, J w → Yl P o a w v) ∧ seqS P ops J Q σ G H (a.put o.dst v)) ∨
          (kd o = .new ∧ ∃ (ob : Obj) (f : Nat → Value), (∀ w, (execOp a.eval o).run P w = .ok (.value (f w.heap.size)) (w.alloc ob)) ∧
            ∀ g, ¬ G g → seqS P ops J Q σ (fun k => k = g ∨ G k) (fun w => H w ∧ w.heap[g]? = some ob) (a.put o.dst (f g))) ∨
          (kd o = .chain ∧ ∀ w, H w → J w → Ch P o a w fun v w' => Keep G w w' ∧ J w' ∧ ∃ S', AStab S' ∧ S' w' ∧ seqS P ops J Q σ G S' (a.put o.dst v)))))
def nthO : List Oper → Nat → Option Oper
  | [], _ => none
  | o :: l, i => bif Nat.beq i 0 then some o else nthO l (Nat.pred i)
theorem nthO_eq : ∀ {l : List Oper} {i : Nat} {o : Oper}, nthO l i = some o → l[i]? = some o
  | [], _, _, h => by cases h
  | x :: l, 0, o, h => by simpa [nthO] using h
  | x :: l, i + 1, o, h => by
    have : Nat.beq (i + 1) 0 = false := rfl
    simp only [nthO, this, cond_false, Nat.pred_succ] at h
    simpa using nthO_eq h
theorem wd_at {l : List Oper} {o : Oper} (ho : nthO l i = some o) (h : WDo P l.toArray J Q o σ G n m H) : WD P l.toArray J Q (i :: σ) G n m H := fun a hs => ⟨o, by rw [List.getElem?_toArray]; exact nthO_eq ho, (h a hs).1, (h a hs).2⟩
theorem wd_free {op : Op} {d : Nat} {ty : TypeId} {pos : String} {af : Array Edge} {g : Option (Nat × Bool)} {v : Value} (hk : kd ⟨some d, op, ty, pos, af, g⟩ = .free) (hg : Gd ops m g) (hd : Nat.blt d n = true)
    (hy : YF P op ty n m J v) (h : WD P ops J Q σ G n ((d, v) :: m) H) : WDo P ops J Q ⟨some d, op, ty, pos, af, g⟩ σ G n m H := fun a hs =>
  ⟨(fun cs b e => by cases e; cases hk), .inr ⟨hg.wanted (o := ⟨some d, op, ty, pos, af, g⟩) hs, .inl ⟨hk, v, fun w hw => hy a w _ pos af g hs hw, h _ (hs.put hd)⟩⟩⟩
theorem wd_pass {op : Op} {d : Nat} {ty : TypeId} {pos : String} {af : Array Edge} {g : Option (Nat × Bool)} (hsel : ∀ cs b, op ≠ .select cs b) (hg : Gn ops m g) (hd : Nat.blt d n = true)
    (h : WD P ops J Q σ G n ((d, undef) :: m) H) : WDo P ops J Q ⟨some d, op, ty, pos, af, g⟩ σ G n m H := fun _ hs =>
  ⟨hsel, .inl ⟨Gn.wanted (o := ⟨some d, op, ty, pos, af, g⟩) hs hg, h _ (hs.put hd)⟩⟩
theorem wd_pass0 {op : Op} {ty : TypeId} {pos : String} {af : Array Edge} {g : Option (Nat × Bool)} (hsel : ∀ cs b, op ≠ .select cs b) (hg : Gn ops m g)
    (h : WD P ops J Q σ G n m H) : WDo P ops J Q ⟨none, op, ty, pos, af, g⟩ σ G n m H := fun _ hs =>
  ⟨hsel, .inl ⟨Gn.wanted (o := ⟨none, op, ty, pos, af, g⟩) hs hg, h _ hs.put0⟩⟩
theorem wd_split {b : Bool} (t : Nat) (hv : look m t = some (.bool b)) (h1 : b = true → WD P ops J Q σ G n ((t, .bool true) :: m) H) (h2 : b = false → WD P ops J Q σ G n ((t, .bool false) :: m) H) : WD P ops J Q σ G n m H := fun a hs => by
  have key : Sat n ((t, .bool b) :: m) a := ⟨hs.size, hs.dfr, fun i u hu => by
    by_cases hi : t = i
    · subst hi; rw [look_eq] at hu; cases hu; exact hs.get t _ hv
    · rw [look_ne hi] at hu; exact hs.get i u hu⟩
  cases b
  · exact h2 rfl a key
  · exact h1 rfl a key
/-- A new block. -/
def NF (P : Program) (op : Op) (ty : TypeId) (n : Nat) (m : List (Nat × Value)) (ob : Obj) (f : Nat → Value) : Prop := ∀ a w d pos af g, Sat n m a → (execOp a.eval ⟨d, op, ty, pos, af, g⟩).run P w = .ok (.value (f w.heap.size)) (w.alloc ob)
theorem wd_new {op : Op} {d : Nat} {ty : TypeId} {pos : String} {af : Array Edge} {g : Option (Nat × Bool)} {ob : Obj} {f : Nat → Value} (hk : kd ⟨some d, op, ty, pos, af, g⟩ = .new) (hg : Gd ops m g) (hd : Nat.blt d n = true)
    (hn : NF P op ty n m ob f) (h : ∀ b, ¬ G b → WD P ops J Q σ (fun k => k = b ∨ G k) n ((d, f b) :: m) (fun w => H w ∧ w.heap[b]? = some ob)) : WDo P ops J Q ⟨some d, op, ty, pos, af, g⟩ σ G n m H := fun a hs =>
  ⟨(fun cs b e => by cases e; cases hk), .inr ⟨hg.wanted (o := ⟨some d, op, ty, pos, af, g⟩) hs, .inr (.inl ⟨hk, ob, f, fun w => hn a w _ pos af g hs, fun b hb => h b hb _ (hs.put hd)⟩)⟩⟩
/-- An operation that acts, in such a region. -/
def DF {ι : Type} (P : Program) (op : Op) (ty : TypeId) (n : Nat) (m : List (Nat × Value)) (G : Nat → Prop) (J H : World → Prop) (val : ι → Value) (H' : ι → World → Prop) : Prop := ∀ a w d pos af g, Sat n m a → H w → J w →
  Ch P ⟨d, op, ty, pos, af, g⟩ a w fun v w' => Keep G w w' ∧ J w' ∧ ∃ i, v = val i ∧ H' i w'
theorem wd_chain {ι : Type} {op : Op} {d : Nat} {ty : TypeId} {pos : String} {af : Array Edge} {g : Option (Nat × Bool)} {val : ι → Value} {H' : ι → World → Prop} (hk : kd ⟨some d, op, ty, pos, af, g⟩ = .chain) (hsel : ∀ cs b, op ≠ .select cs b)
    (hg : Gd ops m g) (hd : Nat.blt d n = true) (hst : ∀ i, AStab (H' i)) (hc : DF P op ty n m G J H val H') (h : ∀ i, WD P ops J Q σ G n ((d, val i) :: m) (H' i)) : WDo P ops J Q ⟨some d, op, ty, pos, af, g⟩ σ G n m H := fun a hs =>
  ⟨hsel, .inr ⟨hg.wanted (o := ⟨some d, op, ty, pos, af, g⟩) hs, .inr (.inr ⟨hk, fun w hw hj => (hc a w _ pos af g hs hw hj).mono fun v w' ⟨k1, k2, i, e1, e2⟩ => by subst e1; exact ⟨k1, k2, H' i, hst i, e2, h i _ (hs.put hd)⟩⟩)⟩⟩
theorem wd_chain0 {ι : Type} {op : Op} {ty : TypeId} {pos : String} {af : Array Edge} {g : Option (Nat × Bool)} {val : ι → Value} {H' : ι → World → Prop} (hk : kd ⟨none, op, ty, pos, af, g⟩ = .chain) (hsel : ∀ cs b, op ≠ .select cs b)
    (hg : Gd ops m g) (hst : ∀ i, AStab (H' i)) (hc : DF P op ty n m G J H val H') (h : ∀ i, WD P ops J Q σ G n m (H' i)) : WDo P ops J Q ⟨none, op, ty, pos, af, g⟩ σ G n m H := fun a hs =>
  ⟨hsel, .inr ⟨hg.wanted (o := ⟨none, op, ty, pos, af, g⟩) hs, .inr (.inr ⟨hk, fun w hw hj => (hc a w _ pos af g hs hw hj).mono fun _ w' ⟨k1, k2, i, _, e2⟩ => ⟨k1, k2, H' i, hst i, e2, h i _ hs.put0⟩⟩)⟩⟩
end
end Go.Proofs.Ytojofinofpgopaa
