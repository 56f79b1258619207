/- Pointers compared. -/
import Derived.Test.YtojofinofpgopaaDoorMgM
import Derived.Test.YtojofinofpgopaaDoorMgS
import Derived.Test.YtojofinofpgopaaDoorMgF
import Derived.Test.YtojofinofpgopaaDoorEvB
import Derived.Test.YtojofinofpgopaaDoorMgR
import Derived.LaidEql
import Derived.ChangeKeysEq
import Derived.Laws.IdiomCopy
import Derived.Laws.CopyRow
namespace Go.Proofs.YtojofinofpgopaaDoor
open Go.RowKit
section
variable {P : Program} {n : Nat} {m : List (Nat × Value)} {ty : TypeId} {H : World → Prop}
theorem run_eqPtrIn {t e : TypeId} {a b : Addr} {size : Nat} {r : Bool} {w : World} (d : Nat) (ht : P.underlying t = some (.pointer e)) (hs : (P.info? e).map (·.size) = some size) (h0 : 0 < size) (h : (sameAddr a b).run P w = .ok r w) : (Op.equalIn (d + 1) t (.pointer (some a)) (.pointer (some b))).run P w = .ok r w := by
  have hne : ¬ size = 0 := by omega
  simp [Op.equalIn, run_underlying ht, run_sizeOf hs, hne, h]
theorem run_eqPtr {t e : TypeId} {a b : Addr} {size : Nat} {r : Bool} {w : World} (ht : P.underlying t = some (.pointer e)) (hs : (P.info? e).map (·.size) = some size) (h0 : 0 < size) (h : (sameAddr a b).run P w = .ok r w) : (Op.equal t (.pointer (some a)) (.pointer (some b))).run P w = .ok r w := run_eqPtrIn 9999 ht hs h0 h
theorem yf_eqPtr {x y : Operand} {t t' e : TypeId} {a b : Addr} {size : Nat} {r : Bool} (hx : ev m x = some (.pointer (some a))) (hy : ev m y = some (.pointer (some b))) (ht : P.underlying t = some (.pointer e)) (hs' : (P.info? e).map (·.size) = some size) (h0 : 0 < size) (h : ∀ w, H w → (sameAddr a b).run P w = .ok r w) : YF P (.binOp .eql t x y t') ty n m H (.bool r) := fun _ w d pos af g hs hw => by
  have := run_eqPtr ht hs' h0 (h w hw)
  simp [Yl, execOp, hs.ev hx, hs.ev hy, binOp, Result.andThen, eqGuard_at_pointer, this]
/-- An operation whose guard is an operation that was not wanted, in a region that draws its order. -/
theorem wd_passU {J : World → Prop} {ops : Array Oper} {Q : Exit → Act → World → Prop} {σ : List Nat} {G : Nat → Prop} {op : Op} {d : Nat} {pos : String} {af : Array Edge} {j t : Nat} {want : Bool} (hsel : ∀ cs b, op ≠ .select cs b) (ht : (ops[j]?).bind (·.dst) = some t) (hv : look m t = some undef) (hd : Nat.blt d n = true)
    (h : WD P ops J Q σ G n ((d, undef) :: m) H) : WDo P ops J Q ⟨some d, op, ty, pos, af, some (j, want)⟩ σ G n m H := fun a hs => by
  have hg : Region.wanted (⟨some d, op, ty, pos, af, some (j, want)⟩ : Oper) (yielded ops a.tmps) = false := by
    have e : yielded ops a.tmps j = none := by simp [yielded, ht, hs.get t _ hv, undef]
    simp [Region.wanted, e]
  exact ⟨hsel, .inl ⟨hg, h _ (hs.put hd)⟩⟩
end
end Go.Proofs.YtojofinofpgopaaDoor
/- A row is equal to itself: variables and states compared. -/
namespace Go.Proofs.YtojofinofpgopaaDoor
open Go.RowKit
theorem eqItems_refl {P : Program} {d : Nat} {e : TypeId} {k : IntKind} (he : P.underlying e = some (.int k)) {xs : Array Value} (w : World) : ∀ is : List Nat, (∀ i ∈ is, ∃ a, xs[i]? = some (.int k a)) → (Op.eqItems (d + 1) e 1 xs xs is).run P w = .ok true w
  | [], _ => by simp [Op.eqItems]
  | i :: is, h => by
    obtain ⟨a, ha⟩ := h i (List.mem_cons_self ..)
    have ih := eqItems_refl (d := d) he w is fun j hj => h j (List.mem_cons_of_mem _ hj)
    have hp := run_part1 (P := P) (t := e) (off := i * 1) he rfl (by rw [Nat.mul_one]; exact ha)
    have hq := run_equalIn_int (P := P) w d e k k a a he
    simp only [Op.eqItems, Sem.run_bind, hp, hq, Result.andThen]
    simpa using ih
theorem arr_refl {P : Program} {d n : Nat} {t e : TypeId} {k : IntKind} {i : TypeInfo} (ht : P.underlying t = some (.array n e)) (he : P.underlying e = some (.int k)) (hi : P.info? e = some i) (hc : P.cellsOf e = 1) {xs : Array Value} (h : ∀ i, i < n → ∃ a, xs[i]? = some (.int k a)) (w : World) : (Op.equalIn (d + 2) t (.agg xs) (.agg xs)).run P w = .ok true w := by
  rw [run_equalIn_array (P := P) w (d + 1) xs xs ht hi, hc]
  exact eqItems_refl he w _ fun j hj => h j (List.mem_range.1 hj)
theorem eqFields_refl {P : Program} {d : Nat} {xs : Array Value} (w : World) : ∀ fs : List Field, (∀ f ∈ fs, ∃ v, (∀ w, (part f.type xs f.offset).run P w = .ok v w) ∧ ∀ w, (Op.equalIn d f.type v v).run P w = .ok true w) → (Op.eqFields d xs xs fs).run P w = .ok true w
  | [], _ => by simp [Op.eqFields]
  | f :: fs, h => by
    obtain ⟨v, h1, h2⟩ := h f (List.mem_cons_self ..)
    have ih := eqFields_refl (d := d) w fs fun g hg => h g (List.mem_cons_of_mem _ hg)
    unfold Op.eqFields
    split
    · simp only [Sem.run_bind, h1, h2, Result.andThen]
      simpa using ih
    · exact ih
theorem u32s_get {l : List Int} {i : Nat} (hi : i < l.length) : ∃ a, (u32s l).toArray[i]? = some (.int .u32 a) := ⟨l[i], by simp [u32s, hi]⟩
theorem eq28 {l : List Int} (h : l.length = 28) (w : World) : (Op.equalIn 10000 39 (.agg (u32s l).toArray) (.agg (u32s l).toArray)).run Tryd.prog w = .ok true w := by
  obtain ⟨i, hi⟩ : ∃ i, Tryd.prog.info? 35 = some i := Option.isSome_iff_exists.1 (by kernel_rfl)
  exact arr_refl (d := 9998) Tryd.underlying39 Tryd.underlying35 hi (by kernel_rfl) (fun i hi => u32s_get (by omega)) w
theorem stL_part {s : MSt} {n o : Nat} (h : ∀ i, i < n → ∃ a, (stL s)[o + i]? = some (.int .u32 a)) : ∀ i, i < n → ∃ a, ((stL s).toArray.extract o (o + n))[i]? = some (.int .u32 a) := fun i hi => by
  obtain ⟨a, ha⟩ := h i hi
  refine ⟨a, ?_⟩
  have hlt := (List.getElem?_eq_some_iff.1 ha).1
  rw [Array.getElem?_extract_of_lt (by simp; omega)]
  have := (List.getElem?_eq_some_iff.1 ha).2
  simp [this]
theorem stL_c {s : MSt} (h16 : s.r.length = 16) {i : Nat} (hi : i < s.c.length) : ∃ a, (stL s)[18 + i]? = some (.int .u32 a) := by
  refine ⟨s.c[i], ?_⟩
  rw [show 18 + i = (17 + i) + 1 by omega]
  show (u32s s.r ++ (.int .u32 s.f :: (u32s s.c ++ _)))[17 + i]? = _
  rw [List.getElem?_append_right (by rw [u32s_len]; omega), u32s_len, h16, show 17 + i - 16 = i + 1 by omega]
  show (u32s s.c ++ _)[i]? = _
  rw [List.getElem?_append_left (by rw [u32s_len]; omega)]
  simp [u32s, hi]
theorem stL_n {s : MSt} (h16 : s.r.length = 16) (h4 : s.c.length = 4) : (stL s)[22]? = some (.int .i64 s.steps) ∧ (stL s)[23]? = some (.int .i64 s.due) := by
  obtain ⟨pc, r, f, c, st, du⟩ := s
  match r, h16, c, h4 with
  | [a0, a1, a2, a3, a4, a5, a6, a7, a8, a9, a10, a11, a12, a13, a14, a15], _, [c0, c1, c2, c3], _ => exact ⟨rfl, rfl⟩
theorem stL_rr {s : MSt} (h16 : s.r.length = 16) {i : Nat} (hi : i < 16) : ∃ a, (stL s)[1 + i]? = some (.int .u32 a) := by
  refine ⟨s.r[i], stL_r ?_⟩
  simp [u32s, h16, hi]
end Go.Proofs.YtojofinofpgopaaDoor
/- The memory of package mem: same, Equal. -/
namespace Go.Proofs.YtojofinofpgopaaDoor
open Go.RowKit
theorem u8s_get {l : List Int} {i : Nat} (hi : i < l.length) : ∃ a, (u8s l).toArray[i]? = some (.int .u8 a) := ⟨l[i], by simp [u8s, hi]⟩
theorem eq256 {l : List Int} (h : l.length = 256) (w : World) : (Op.equalIn 10000 114 (.agg (u8s l).toArray) (.agg (u8s l).toArray)).run Tryd.prog w = .ok true w := by
  obtain ⟨i, hi⟩ : ∃ i, Tryd.prog.info? 5 = some i := Option.isSome_iff_exists.1 (by kernel_rfl)
  exact arr_refl (d := 9998) Tryd.underlying114 Tryd.underlying5 hi (by kernel_rfl) (fun i hi => u8s_get (by omega)) w
def J2L (μ μ' : Mm) (w : World) : Prop := OnL (memL μ) w ∧ OnL (memL μ') w
theorem J2L.ext {μ μ' : Mm} : ∀ w w', J2L μ μ' w → Ext w w' → J2L μ μ' w' := fun _ _ h hx => ⟨h.1.ext hx, h.2.ext hx⟩
theorem J2L.stab {μ μ' : Mm} : AStab (J2L μ μ') := fun w ob h => J2L.ext w _ h (Ext.alloc (Ext.refl w) ob)
theorem J2L.foot {μ μ' : Mm} {w : World} (h : J2L μ μ' w) : ∃ F : Nat → Prop, (∀ k, F k → k < w.heap.size ∧ ¬ False) ∧ Foot F (J2L μ μ') w := by
  obtain ⟨F1, h1, g1⟩ := h.1.foot
  obtain ⟨F2, h2, g2⟩ := h.2.foot
  exact ⟨fun k => F1 k ∨ F2 k, fun k hk => hk.elim (h1 k) (h2 k), fun u hu => ⟨g1 u fun k hk => hu k (.inl hk), g2 u fun k hk => hu k (.inr hk)⟩⟩
/-- Parts of equal length: equal throughout, equal part by part. -/
theorem flat_parts {f : Pg → List Int} {n : Nat} : ∀ {l l' : List Pg}, (∀ x ∈ l, (f x).length = n) → (∀ x ∈ l', (f x).length = n) → l.length = l'.length → l.flatMap f = l'.flatMap f → ∀ (i : Nat) (x x' : Pg), l[i]? = some x → l'[i]? = some x' → f x = f x'
  | [], _, _, _, _, _, i, x, x', h, _ => by simp at h
  | _ :: _, [], _, _, h, _, _, _, _, _, _ => by simp at h
  | y :: l, y' :: l', h1, h2, h3, h4, i, x, x', hx, hx' => by
    rw [List.flatMap_cons, List.flatMap_cons] at h4
    have hl : (f y).length = (f y').length := by rw [h1 y (List.mem_cons_self ..), h2 y' (List.mem_cons_self ..)]
    obtain ⟨e1, e2⟩ := List.append_inj h4 hl
    cases i with
    | zero => simp at hx hx'; subst hx; subst hx'; exact e1
    | succ i => exact flat_parts (fun x hx => h1 x (List.mem_cons_of_mem _ hx)) (fun x hx => h2 x (List.mem_cons_of_mem _ hx)) (by simpa using h3) e2 i x x' (by simpa using hx) (by simpa using hx')
end Go.Proofs.YtojofinofpgopaaDoor
/- copy; Setup.vars; equal, bytes of the laws. -/
namespace Go.Proofs.YtojofinofpgopaaDoor
open Go.RowKit
section
variable {P : Program} {n : Nat} {m : List (Nat × Value)} {ty : TypeId} {G B : Nat → Prop} {w0 : World} {L : List (Nat × Obj)} {R : List Rw} {X : World → Prop}
theorem yf_str_neq {H : World → Prop} {x y : Operand} {t t' : TypeId} {a b : ByteArray} (hx : ev m x = some (.string a)) (hy : ev m y = some (.string b)) (ht : P.underlying t = some .string) : YF P (.binOp .neq t x y t') ty n m H (.bool (!(a.toList == b.toList))) := fun _ w d pos af g hs hw => by
  simp [Yl, execOp, hs.ev hx, hs.ev hy, binOp, Result.andThen, eqGuard_at_string, Op.stringOp, bne]
theorem yf_str_eql {H : World → Prop} {x y : Operand} {t t' : TypeId} {a b : ByteArray} (hx : ev m x = some (.string a)) (hy : ev m y = some (.string b)) (ht : P.underlying t = some .string) : YF P (.binOp .eql t x y t') ty n m H (.bool (a.toList == b.toList)) := fun _ w d pos af g hs hw => by
  simp [Yl, execOp, hs.ev hx, hs.ev hy, binOp, Result.andThen, eqGuard_at_string, Op.stringOp]
theorem cf_copy {x y : Operand} {t t2 e g o l c T : Nat} {A : Option Addr} {sl sc : Nat} {cs xs : List Value} (k : Nat) (hx : ev m x = some (.slice (some ⟨g, o, none⟩) l c)) (hy : ev m y = some (.slice A sl sc)) (hk : L[k]? = some (g, bk T cs)) (ht : P.underlying t = some (.slice e)) (hs' : (P.info? e).map (·.size) = some 1) (hn : xs.length = Nat.min sl l)
    (hsrc : ∀ w, HpG G B w0 L R X w → Rd A xs w) (h1 : ∀ v ∈ xs, v.oneCell' = true) (ho : o + xs.length ≤ cs.length) :
    CF P (.call { callee := .builtin .copy, args := #[x, y], argTypes := #[t, t2] }) ty n m (HpG G B w0 L R X) (fun _ : Unit => .int .i64 xs.length) (fun _ => HpG G B w0 (L.set k (g, bk T (cs.take o ++ xs ++ cs.drop (o + xs.length)))) R X) := fun a w d pos af gd hs hw => by
  have hg := hw.own _ (List.mem_of_getElem? hk)
  dsimp only at hg
  have hx' := hs.ev hx
  have hy' := hs.ev hy
  by_cases h0 : xs.length = 0
  · have hrun := run_copy_none (P := P) w t t2 ty e (some ⟨g, o, none⟩) A l c sl sc ht hs' (by rw [← hn]; exact h0)
    have hex : (execOp a.eval ⟨d, .call { callee := .builtin .copy, args := #[x, y], argTypes := #[t, t2] }, ty, pos, af, gd⟩).run P w = .ok (.value (goInt 0)) w := by
      simp [execOp, resolve, invoke, builtin, hx', hy', hrun]
    show Ch _ _ _ _ _
    unfold Ch
    rw [hex]
    refine ⟨(), by rw [h0]; rfl, hw.turn hk (Keep.refl _ _) ?_⟩
    rw [List.eq_nil_of_length_eq_zero h0]
    simpa using hg
  · obtain ⟨b, off, rfl, hc⟩ := hsrc w hw (by omega)
    have hrun := run_copy_row (P := P) w t t2 ty e g o l c ⟨b, off, none⟩ sl sc cs.toArray T xs ht hs' hg hn (fun j v hj => by
      have hlt := (List.getElem?_eq_some_iff.1 hj).1
      have e : (⟨b, off, none⟩ : Addr).add j = ⟨b, off + j, none⟩ := by unfold Addr.add; split <;> simp_all
      rw [e, hc j hlt, List.getD_eq_getElem?_getD, hj]; rfl) (by simpa using ho) h1
    have hex : (execOp a.eval ⟨d, .call { callee := .builtin .copy, args := #[x, y], argTypes := #[t, t2] }, ty, pos, af, gd⟩).run P w = .ok (.value (.int .i64 xs.length)) (w.setRow g (cs.take o ++ xs ++ cs.drop (o + xs.length)).toArray) := by
      simp [execOp, resolve, invoke, builtin, hx', hy', hrun, goInt]
    show Ch _ _ _ _ _
    unfold Ch
    rw [hex]
    exact ⟨(), rfl, hw.turn hk (keep_setRow w _) (setRow_heap w g _ _ _ _ hg)⟩
end
/-- The variables that a setup describes. -/
def suV (x : Su) : List Int := x.v.take 28 ++ (List.replicate 28 0).drop (x.v.take 28).length
theorem suV_len (x : Su) : (suV x).length = 28 := by
  unfold suV
  rw [List.length_append, List.length_drop, List.length_replicate, List.length_take]; omega
theorem suV_ok {x : Su} (h : ∀ v ∈ x.v, U32 v) : VarsOk (suV x) := by
  refine ⟨suV_len x, fun v hv => ?_⟩
  rcases List.mem_append.1 hv with hv | hv
  · exact h v (List.mem_of_mem_take hv)
  · rw [List.eq_of_mem_replicate (List.mem_of_mem_drop hv)]; exact ⟨by decide, by decide⟩
theorem suV_row (x : Su) : (u32s (List.replicate 28 0)).take 0 ++ u32s (x.v.take 28) ++ (u32s (List.replicate 28 0)).drop (0 + (u32s (x.v.take 28)).length) = u32s (suV x) := by
  simp [u32s, suV]
theorem Rd.take {A : Option Addr} {xs : List Value} {w : World} (h : Rd A xs w) (k : Nat) : Rd A (xs.take k) w := fun h0 => by
  rw [List.length_take] at h0
  obtain ⟨b, off, e, hc⟩ := h (by omega)
  refine ⟨b, off, e, fun i hi => ?_⟩
  rw [List.length_take] at hi
  rw [hc i (by omega)]
  simp only [List.getD_eq_getElem?_getD]
  rw [List.getElem?_take_of_lt (by omega)]
theorem ints_one' (l : List Int) : ∀ v ∈ u32s l, v.oneCell' = true := fun v hv => by
  obtain ⟨x, _, rfl⟩ := List.mem_map.1 hv; rfl
theorem rd28 {cs : List Value} (h : cs.length = 28) : (Tryd.prog.info? 39).map (·.size) = some cs.length := by rw [h]; kernel_rfl
set_option maxRecDepth 100000 in
theorem vars_any {Bad : Nat → Prop} (x : Su) (w : World) (h : RdIn Bad x.vA (u32s x.v) w) : Calls Tryd.prog 14 #[.agg (suC x).toArray] w fun e w' => e = .returned (.agg (u32s (suV x)).toArray) ∧ Ext w w' := by
  have h := h.weak (Bad' := fun _ => False) (fun _ hk => hk.elim)
  have hl : (u32s (suV x)).length = 28 := by rw [show (u32s (suV x)).length = (suV x).length from List.length_map .., suV_len]
  refine calls_wc (args := [.agg (suC x).toArray]) Tryd.func14 rfl 9 rfl (Nat.le_of_ble_eq_true rfl) ?_
  refine wc_weak (.cons (i := 0) rfl <| .nil) ?_
  refine wc_conseq (H' := Hp (fun _ => False) w [] [] (Rd x.vA (u32s x.v))) (fun u hu => ?_) ?_
  · subst hu; exact Hp.start (RdIn.foot h)
  refine wc_seq ?_
  refine wc_region ?_
  refine wl_new .none rfl (nf_box rfl rfl) (fun b1 => ?_)
  refine wl_new .none rfl (nf_alloc (z := .agg #[.int .u32 0, .int .u32 0, .int .u32 0, .int .u32 0, .int .u32 0, .int .u32 0, .int .u32 0, .int .u32 0, .int .u32 0, .int .u32 0, .int .u32 0, .int .u32 0, .int .u32 0, .int .u32 0, .int .u32 0, .int .u32 0, .int .u32 0, .int .u32 0, .int .u32 0, .int .u32 0, .int .u32 0, .int .u32 0, .int .u32 0, .int .u32 0, .int .u32 0, .int .u32 0, .int .u32 0, .int .u32 0]) (cs := [.int .u32 0, .int .u32 0, .int .u32 0, .int .u32 0, .int .u32 0, .int .u32 0, .int .u32 0, .int .u32 0, .int .u32 0, .int .u32 0, .int .u32 0, .int .u32 0, .int .u32 0, .int .u32 0, .int .u32 0, .int .u32 0, .int .u32 0, .int .u32 0, .int .u32 0, .int .u32 0, .int .u32 0, .int .u32 0, .int .u32 0, .int .u32 0, .int .u32 0, .int .u32 0, .int .u32 0, .int .u32 0]) (by kernel_rfl) rfl) (fun b2 => ?_)
  refine wl_nil ?_
  refine wq_then ?_
  refine wc_seq ?_
  refine wc_region ?_
  refine wl_new .none rfl (nf_alloc (z := .agg #[.int .u32 0, .int .u32 0, .int .u32 0, .int .u32 0, .int .u32 0, .int .u32 0, .int .u32 0, .int .u32 0, .int .u32 0, .int .u32 0, .int .u32 0, .int .u32 0, .int .u32 0, .int .u32 0, .int .u32 0, .int .u32 0, .int .u32 0, .int .u32 0, .int .u32 0, .int .u32 0, .int .u32 0, .int .u32 0, .int .u32 0, .int .u32 0, .int .u32 0, .int .u32 0, .int .u32 0, .int .u32 0]) (cs := [.int .u32 0, .int .u32 0, .int .u32 0, .int .u32 0, .int .u32 0, .int .u32 0, .int .u32 0, .int .u32 0, .int .u32 0, .int .u32 0, .int .u32 0, .int .u32 0, .int .u32 0, .int .u32 0, .int .u32 0, .int .u32 0, .int .u32 0, .int .u32 0, .int .u32 0, .int .u32 0, .int .u32 0, .int .u32 0, .int .u32 0, .int .u32 0, .int .u32 0, .int .u32 0, .int .u32 0, .int .u32 0]) (by kernel_rfl) rfl) (fun b3 => ?_)
  refine wl_nil ?_
  refine wq_then ?_
  refine wc_seq ?_
  refine wc_still 3 (by kernel_rfl) (by kernel_rfl) (fun _ h => HpG.drew h) ?_
  refine wt_free .none rfl (yf_sliceArrAll (size := 1) rfl Tryd.underlying39 (by kernel_rfl) (by decide)) ?_
  refine wt_free .none rfl (yf_fieldAddr (off := 4) (sz := 0) rfl Tryd.underlying37 (by kernel_rfl) rfl) ?_
  refine wt_free .none rfl (yf_loadL 2 rfl rfl rfl Tryd.underlying25 rfl) ?_
  refine wt_tail ?_
  refine wl_chain .none rfl (cf_copy (xs := u32s (x.v.take 28)) 0 rfl rfl rfl Tryd.underlying25 (by kernel_rfl) (by rw [show (u32s (x.v.take 28)).length = (x.v.take 28).length from List.length_map .., List.length_take]; exact Nat.min_comm ..) (fun w h => by have := (HpG.x h).take 28; rw [u32s, ← List.map_take] at this; exact this) (ints_one' _) (by rw [show (u32s (x.v.take 28)).length = (x.v.take 28).length from List.length_map .., List.length_take]; show 0 + min 28 x.v.length ≤ 28; omega)) (fun _ => ?_)
  refine wl_conseq (H' := Hp (fun _ => False) w [(b3, bk 39 (u32s (suV x))), (b2, bk 39 (u32s (List.replicate 28 0))), (b1, bk 37 (suC x))] [] (Rd x.vA (u32s x.v))) (fun u hu => ?_) ?_
  · rw [← suV_row]; exact hu
  refine wl_nil ?_
  refine wq_then ?_
  refine wc_seq ?_
  refine wc_weak (.cons (i := 0) rfl <| .cons (i := 1) rfl <| .cons (i := 2) rfl <| .cons (i := 3) rfl <| .nil) ?_
  refine wc_region ?_
  refine wl_free .none rfl (yf_loadAllL 0 rfl rfl Tryd.underlying39 rfl (rd28 hl)) ?_
  refine wl_chain0 .none (cf_storeRow (seg := u32s (suV x)) 1 rfl rfl rfl (List.all_eq_true.2 (ints_one' _)) (by rw [hl]; rfl) (rd28 hl)) (fun _ => ?_)
  refine wl_conseq (H' := Hp (fun _ => False) w [(b3, bk 39 (u32s (suV x))), (b2, bk 39 (u32s (suV x))), (b1, bk 37 (suC x))] [] (Rd x.vA (u32s x.v))) (fun u hu => ?_) ?_
  · have e := row_allN (cs := u32s (List.replicate 28 0)) (seg := u32s (suV x)) (by rw [hl]; rfl)
    have hu2 : Hp (fun _ => False) w [(b3, bk 39 (u32s (suV x))), (b2, bk 39 ((u32s (List.replicate 28 0)).take 0 ++ u32s (suV x) ++ (u32s (List.replicate 28 0)).drop (0 + (u32s (suV x)).length))), (b1, bk 37 (suC x))] [] (Rd x.vA (u32s x.v)) u := hu
    rw [e] at hu2; exact hu2
  refine wl_nil ?_
  refine wq_then ?_
  refine wc_ret ?_
  refine wq_retC rfl rfl 1 rfl Tryd.underlying39 rfl (rd28 hl) (fun w hw => ?_)
  exact ⟨rfl, (HpG.keep hw).ext⟩
/-! ### Two outcomes -/
theorem ouL_vars (s : EvOut) : ∀ j v, (u32s s.vars)[j]? = some v → (ouL s)[4 + j]? = some v := fun j v h => by
  rw [show 4 + j = j + 4 by omega]; exact h
/-! ### A memory and the reference's -/
theorem flat_seg : ∀ {l : List Pg} {i : Nat} {p : Pg}, (∀ x ∈ l, x.c.length = 256) → l[i]? = some p → ((l.flatMap (·.c)).drop (256 * i)).take 256 = p.c
  | [], _, _, _, h => by simp at h
  | y :: l, 0, p, hl, h => by
    simp at h; subst h
    rw [List.flatMap_cons, Nat.mul_zero, List.drop_zero, List.take_append_of_le_length (by rw [hl y (List.mem_cons_self ..)]; exact Nat.le_refl _)]
    exact List.take_of_length_le (by rw [hl y (List.mem_cons_self ..)]; exact Nat.le_refl _)
  | y :: l, i + 1, p, hl, h => by
    rw [List.flatMap_cons, List.drop_append, List.drop_of_length_le (by rw [hl y (List.mem_cons_self ..)]; omega), List.nil_append, hl y (List.mem_cons_self ..), show 256 * (i + 1) - 256 = 256 * i by omega]
    exact flat_seg (fun x hx => hl x (List.mem_cons_of_mem _ hx)) (by simpa using h)
end Go.Proofs.YtojofinofpgopaaDoor
