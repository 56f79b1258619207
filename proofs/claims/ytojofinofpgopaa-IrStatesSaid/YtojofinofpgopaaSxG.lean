/- Regions that draw their order with acts ahead of a forced tail; calls there; append of a slice that is read. -/
import Derived.Test.YtojofinofpgopaaSxF
namespace Go.Proofs.Ytojofinofpgopaa
open Go.RowKit
/-- The cells of a slice that is only read. -/
def Rd (A : Option Addr) (cs : List Value) (w : World) : Prop := 0 < cs.length → ∃ b off, A = some ⟨b, off, none⟩ ∧ ∀ i, i < cs.length → w.cell? ⟨b, off + i, none⟩ = some (cs.getD i undef)
section
variable {P : Program} {ops : Array Oper} {Q : Exit → Act → World → Prop} {n : Nat} {m : List (Nat × Value)} {ty : TypeId} {H J : World → Prop} {G B : Nat → Prop} {w0 w w' : World} {L : List (Nat × Obj)} {R : List Rw} {X : World → Prop} {σ : List Nat}
/-! ### Regions -/
theorem wc_drawT0 {id : Nat} {l : List Oper} (k : Nat) (σ : List Nat) (J : World → Prop) (hm : P.follows .mixedOrders = true) (hB : okT l.toArray k σ = true) (hH : AStab H) (hJ : AStab J) (hd : ∀ w, H w → H w.drew) (hj : ∀ w, H w → J w)
    (h : WD P l.toArray J (fun _ a w => wpList P l.toArray Q (l.drop k) a w) σ (fun _ => False) n m H) : WC P (.region id l.toArray true) Q n m H := fun a w hs hw =>
  region_ST (J := J) hm hB (fun _ => False) H hH hJ (hd w hw) (hj _ (hd w hw)) (fun _ h => h.elim) (h a hs)
theorem wc_drawTN {id : Nat} {l : List Oper} (k : Nat) (σ : List Nat) (J : World → Prop) (hm : P.follows .mixedOrders = true) (hB : okT l.toArray k σ = true) (hJ : AStab J) (hj : ∀ w, Hp B w0 L R X w → J w)
    (h : ∀ n0, w0.heap.size ≤ n0 → WD P l.toArray J (fun _ a w => wpList P l.toArray Q (l.drop k) a w) σ (fun j => j < n0) n m (HpG (fun j => j < n0) B w0 L R X)) : WC P (.region id l.toArray true) Q n m (Hp B w0 L R X) := fun a w hs hw =>
  region_ST (J := J) hm hB (fun k => k < w.heap.size) (HpG (fun k => k < w.heap.size) B w0 L R X) HpG.stab hJ (HpG.drew hw.inn) (hj _ (Hp.drew hw)) (fun _ h => h) (h w.heap.size (HpG.size hw) a hs)
theorem wd_endT {tail : List Oper} (h : WL P ops Q tail n m H) : WD P ops J (fun _ a w => wpList P ops Q tail a w) [] G n m H := fun a hs w hw _ => h a w hs hw
theorem wd_endTH {G' : Nat → Prop} {tail : List Oper} (h : WL P ops Q tail n m (Hp B w0 L R X)) : WD P ops J (fun _ a w => wpList P ops Q tail a w) [] G' n m (HpG G B w0 L R X) := fun a hs w hw _ => h a w hs hw.hp
theorem wd_weak {H' : World → Prop} (hH : ∀ w, H w → H' w) (h : WD P ops J Q σ G n m H') : WD P ops J Q σ G n m H := fun a hs => seqS_anti hH (h a hs)
theorem wd_newH {op : Op} {d : Nat} {pos : String} {af : Array Edge} {g : Option (Nat × Bool)} {ob : Obj} {f : Nat → Value} (hk : kd ⟨some d, op, ty, pos, af, g⟩ = .new) (hg : Gd ops m g) (hd : Nat.blt d n = true) (hG : ∀ k, k < w0.heap.size → G k)
    (hn : NF P op ty n m ob f) (h : ∀ b, ¬ G b → WD P ops J Q σ (fun k => k = b ∨ G k) n ((d, f b) :: m) (HpG (fun k => k = b ∨ G k) B w0 ((b, ob) :: L) R X)) : WDo P ops J Q ⟨some d, op, ty, pos, af, g⟩ σ G n m (HpG G B w0 L R X) :=
  wd_new hk hg hd hn fun b hb => wd_weak (fun w ⟨h1, h2⟩ => h1.join h2 hb (Nat.le_of_not_lt fun hlt => hb (hG b hlt))) (h b hb)
/-- J: these blocks hold this. -/
def Blk (b : Nat) (o : Obj) (w : World) : Prop := w.heap[b]? = some o
theorem Blk.stab {b : Nat} {o : Obj} : AStab (Blk b o) := fun w _ h => (Below.heap_alloc w _ b (Array.getElem?_eq_some_iff.1 h).1).trans h
theorem Blk.keep {b : Nat} {o : Obj} {K : Nat → Prop} (h : Blk b o w) (hk : Keep K w w') (hb : ¬ K b) : Blk b o w' := (hk.block b (Array.getElem?_eq_some_iff.1 h).1 hb).trans h
theorem HpG.blk (h : HpG G B w0 L R X w) {k g : Nat} {o : Obj} (hk : L[k]? = some (g, o)) : Blk g o w := h.own _ (List.mem_of_getElem? hk)
theorem HpG.ne (h : HpG G B w0 L R X w) {i j g g' : Nat} {o o' : Obj} (hi : L[i]? = some (g, o)) (hj : L[j]? = some (g', o')) (hij : Nat.beq i j = false) : g ≠ g' := fun e => by
  subst e
  have hnd : (L.map (·.1)).Nodup := (List.nodup_append.1 h.nd).1
  have := nodup_idx hnd (x := g) (i := i) (j := j) (by rw [List.getElem?_map, hi]; rfl) (by rw [List.getElem?_map, hj]; rfl)
  subst this; simp at hij
theorem yf_loadJ {x : Operand} {t T g o : Nat} {cs : List Value} {v : Value} {d : TypeDesc} (hx : ev m x = some (.pointer (some ⟨g, o, none⟩))) (hv : cs[o]? = some v) (ht : P.underlying t = some d) (hd : d.isRow = false) : YF P (.load t x) ty n m (Blk g (bk T cs)) v :=
  yf_load hx ht hd fun w h => by rw [cell_of_row w g o _ _ _ h, List.getElem?_toArray]; exact hv
theorem yf_loadRowJ {x : Operand} {t T g : Nat} {cs : List Value} {d : TypeDesc} (hx : ev m x = some (.pointer (some ⟨g, 0, none⟩))) (ht : P.underlying t = some d) (hd : d.isRow = true) (hs : (P.info? t).map (·.size) = some cs.length) : YF P (.load t x) ty n m (Blk g (bk T cs)) (.agg cs.toArray) :=
  yf_loadRow hx ht hd hs fun w h j v hv => by rw [Nat.zero_add, cell_of_row w g j _ _ _ h, List.getElem?_toArray]; exact hv
/-! ### Calls there -/
section
variable {ι : Type} {C : ι → Prop} {d : Nat} {pos : String} {af : Array Edge} {gd : Option (Nat × Bool)} {f : FuncId} {args : List Operand} {ats : Array TypeId} {vs : List Value} {g : Nat} {ob : Obj}
theorem wd_turnE {val : ι → Value} {ob' : ι → Obj} (hg : Gd ops m gd) (hd : Nat.blt d n = true) (k : Nat) (hf : goes P f = true) (ha : evl m args = some vs) (hk : L[k]? = some (g, ob))
    (hJ : ∀ w w', HpG G B w0 L R X w → J w → Keep (fun j => j = g) w w' → J w')
    (hC : ∀ w, w.heap[g]? = some ob → HpG G B w0 L R X w → Calls P f vs.toArray w fun e w' => ∃ i, C i ∧ e = .returned (val i) ∧ Keep (fun j => j = g) w w' ∧ w'.heap[g]? = some (ob' i))
    (h : ∀ i, C i → WD P ops J Q σ G n ((d, val i) :: m) (HpG G B w0 (L.set k (g, ob' i)) R X)) : WDo P ops J Q ⟨some d, .call { callee := .value (.func f), args := args.toArray, argTypes := ats }, ty, pos, af, gd⟩ σ G n m (HpG G B w0 L R X) :=
  wd_chain (ι := {i // C i}) (val := fun i => val i.1) (H' := fun i => HpG G B w0 (L.set k (g, ob' i.1)) R X) rfl (fun _ _ e => by cases e) hg hd (fun _ => HpG.stab)
    (fun _ w _ _ _ _ hs hw hj => (ch_call hs hf ha ((hC w (hw.own _ (List.mem_of_getElem? hk)) hw).mono fun _ _ ⟨i, c, e1, e2, e3⟩ => ⟨_, e1, ⟨⟨i, c⟩, rfl, e2, e3⟩⟩)).mono
      (R := fun v w' => ∃ i : {i // C i}, v = val i.1 ∧ Keep (fun j => j = g) w w' ∧ w'.heap[g]? = some (ob' i.1)) fun v w' ⟨i, e1, e2, e3⟩ =>
        ⟨e2.mono fun j _ hjg => by subst hjg; exact hw.inG j (List.mem_append_left _ (List.mem_map.2 ⟨_, List.mem_of_getElem? hk, rfl⟩)), hJ w w' hw hj e2, i, e1, hw.turn hk e2 e3⟩) fun i => h i.1 i.2
theorem wd_pureE {val : ι → Value} (hg : Gd ops m gd) (hd : Nat.blt d n = true) (hf : goes P f = true) (ha : evl m args = some vs)
    (hJ : ∀ w w', J w → Ext w w' → J w')
    (hC : ∀ w, HpG G B w0 L R X w → Calls P f vs.toArray w fun e w' => ∃ i, C i ∧ e = .returned (val i) ∧ Ext w w')
    (h : ∀ i, C i → WD P ops J Q σ G n ((d, val i) :: m) (HpG G B w0 L R X)) : WDo P ops J Q ⟨some d, .call { callee := .value (.func f), args := args.toArray, argTypes := ats }, ty, pos, af, gd⟩ σ G n m (HpG G B w0 L R X) :=
  wd_chain (ι := {i // C i}) (val := fun i => val i.1) (H' := fun _ => HpG G B w0 L R X) rfl (fun _ _ e => by cases e) hg hd (fun _ => HpG.stab)
    (fun _ w _ _ _ _ hs hw hj => (ch_call hs hf ha ((hC w hw).mono fun _ _ ⟨i, c, e1, e2⟩ => ⟨_, e1, ⟨⟨i, c⟩, rfl, e2⟩⟩)).mono
      (R := fun v w' => ∃ i : {i // C i}, v = val i.1 ∧ Ext w w') fun v w' ⟨i, e1, e2⟩ =>
        ⟨Keep.of_ext e2, hJ w w' hj e2, i, e1, hw.onE e2⟩) fun i => h i.1 i.2
theorem wd_pure {v : Value} (hg : Gd ops m gd) (hd : Nat.blt d n = true) (hf : goes P f = true) (ha : evl m args = some vs)
    (hJ : ∀ w w', J w → Ext w w' → J w')
    (hC : ∀ w, HpG G B w0 L R X w → Calls P f vs.toArray w fun e w' => e = .returned v ∧ Ext w w')
    (h : WD P ops J Q σ G n ((d, v) :: m) (HpG G B w0 L R X)) : WDo P ops J Q ⟨some d, .call { callee := .value (.func f), args := args.toArray, argTypes := ats }, ty, pos, af, gd⟩ σ G n m (HpG G B w0 L R X) :=
  wd_pureE (ι := Unit) (C := fun _ => True) (val := fun _ => v) hg hd hf ha hJ (fun w hw => (hC w hw).mono fun _ _ ⟨e1, e2⟩ => ⟨(), trivial, e1, e2⟩) fun _ _ => h
/-- What a call knows that may turn one block and makes one row: as its caller knows it. -/
theorem Hp.call1 (h : Hp B w0 L R X w) {k : Nat} {ob' : Obj} {r : Rw} {X' : World → Prop} (hk : L[k]? = some (g, ob)) (hc : Hp (fun j => j = g) w [(g, ob')] [r] X' w') : Hp B w0 (L.set k (g, ob')) (r :: R) X w' := by
  have hK := HpG.keep hc
  have h1 := HpG.turn h hk hK (HpG.own hc _ (List.mem_cons_self ..))
  have hr := HpG.rows hc r (List.mem_cons_self ..)
  have hlt := HpG.lt h
  have hbs : blks (L.set k (g, ob')) R = blks L R := blks_set hk
  have hap : ∀ b, r.v.ownBlock = some b → b ∉ blks L R := fun b hb hm => absurd (hlt b hm) (by have := (hr.lt b hb).1; omega)
  have hperm : (blks (L.set k (g, ob')) (r :: R)).Perm (r.v.ownBlock.toList ++ blks L R) := by
    rw [← hbs]
    unfold blks
    rw [List.filterMap_cons]
    cases r.v.ownBlock with
    | none => exact List.Perm.refl _
    | some b => exact List.perm_middle
  obtain ⟨F, hF, hX⟩ := HpG.foot h
  have hgb : g ∈ blks L R := List.mem_append_left _ (List.mem_map.2 ⟨_, List.mem_of_getElem? hk, rfl⟩)
  refine ⟨h1.keep, h1.own, h1.mine, fun s hs => ?_, hperm.nodup_iff.2 ?_, fun _ _ => trivial, F, fun j hj => ?_, fun u hu => hX u fun j hj => ?_⟩
  · rcases List.mem_cons.1 hs with rfl | hs
    · obtain ⟨e, hr'⟩ := hr
      refine ⟨e, ?_⟩
      rcases hr' with hr' | ⟨b, cap, cur, hv, h2, h3⟩
      · exact .inl hr'
      · exact .inr ⟨b, cap, cur, hv, Nat.le_trans (HpG.size h) h2, h3⟩
    · exact h1.rows s hs
  · cases hb : r.v.ownBlock with
    | none => exact HpG.nd h
    | some b => exact List.nodup_cons.2 ⟨hap b hb, HpG.nd h⟩
  · obtain ⟨a1, a2, a3, _⟩ := hF j hj
    refine ⟨Nat.lt_of_lt_of_le a1 hK.size, a2, fun hm => ?_, trivial⟩
    rcases List.mem_append.1 (hperm.mem_iff.1 hm) with hm | hm
    · have hb : r.v.ownBlock = some j := by simpa using hm
      exact absurd a1 (by have := (hr.lt j hb).1; omega)
    · exact a3 hm
  · obtain ⟨a1, a2, a3, _⟩ := hF j hj
    rw [hu j hj, hK.block j a1 (fun e => a3 (e ▸ hgb))]
theorem wd_call1E {row : ι → Rw} {ob' : ι → Obj} {X' : ι → World → Prop} (hg : Gd ops m gd) (hd : Nat.blt d n = true) (k : Nat) (hf : goes P f = true) (ha : evl m args = some vs) (hk : L[k]? = some (g, ob))
    (hJ : ∀ w w', HpG G B w0 L R X w → J w → Keep (fun j => j = g) w w' → J w')
    (hC : ∀ w, w.heap[g]? = some ob → HpG G B w0 L R X w → Calls P f vs.toArray w fun e w' => ∃ i, C i ∧ e = .returned (row i).v ∧ Hp (fun j => j = g) w [(g, ob' i)] [row i] (X' i) w')
    (h : ∀ i, C i → WD P ops J Q σ G n ((d, (row i).v) :: m) (Hp B w0 (L.set k (g, ob' i)) (row i :: R) X)) : WDo P ops J Q ⟨some d, .call { callee := .value (.func f), args := args.toArray, argTypes := ats }, ty, pos, af, gd⟩ σ G n m (HpG G B w0 L R X) :=
  wd_chain (ι := {i // C i}) (val := fun i => (row i.1).v) (H' := fun i => Hp B w0 (L.set k (g, ob' i.1)) (row i.1 :: R) X) rfl (fun _ _ e => by cases e) hg hd (fun _ => Hp.stab)
    (fun _ w _ _ _ _ hs hw hj => (ch_call hs hf ha ((hC w (hw.own _ (List.mem_of_getElem? hk)) hw).mono fun _ _ ⟨i, c, e1, e2⟩ => ⟨_, e1, ⟨⟨i, c⟩, rfl, e2⟩⟩)).mono
      (R := fun v w' => ∃ i : {i // C i}, v = (row i.1).v ∧ Hp (fun j => j = g) w [(g, ob' i.1)] [row i.1] (X' i.1) w') fun v w' ⟨i, e1, e2⟩ =>
        ⟨(HpG.keep e2).mono fun j _ hjg => by subst hjg; exact hw.inG j (List.mem_append_left _ (List.mem_map.2 ⟨_, List.mem_of_getElem? hk, rfl⟩)), hJ w w' hw hj (HpG.keep e2), i, e1, Hp.call1 hw.hp hk e2⟩) fun i => h i.1 i.2
end
/-! ### append of a slice that is read -/
theorem row_rd {base e size n : Nat} {A : Option Addr} {len cap : Nat} {xs : List Value} (h : w.ownsRow base e size (.slice A len cap) n xs) : Rd A xs w := fun h0 => by
  obtain ⟨e1, h⟩ := h
  rcases h with ⟨hv, hn⟩ | ⟨g, c, cur, hv, _, hg, _, _, hs, ht⟩
  · subst hn; rw [Nat.zero_mul] at e1; omega
  · injection hv with h1 h2 h3
    refine ⟨g, 0, h1, fun i hi => ?_⟩
    rw [Nat.zero_add, cell_of_row w g i _ _ _ hg, List.getD_eq_getElem?_getD, ← ht, List.getElem?_take_of_lt (by omega)]
    have : i < cur.size := by
      have : (cur.toList.take (n * size)).length = n * size := by rw [ht, e1]
      simp at this; omega
    simp [this]
theorem ch_appendS {x y : Operand} {t : TypeId} {a : Act} {d : Option Tmp} {pos : String} {af : Array Edge} {gd : Option (Nat × Bool)} {A : Option Addr} {E size len cap : Nat} {xs : List Value} {c mm : Nat} {A2 : Option Addr} {news : List Value} {z : Value} {bytes : Nat} (hs : Sat n m a) (k : Nat) (hk : R[k]? = some ⟨.slice A len cap, E, size, len, xs⟩) (hx : ev m x = some (.slice A len cap)) (hy : ev m y = some (.slice A2 mm c)) (hrd : Rd A2 news w)
    (ht : P.underlying t = some (.slice E)) (hi : (P.info? E).map (fun i => (i.zero, i.size, i.bytes)) = some (some z, size, bytes)) (hzs : z.cells.size = size) (hsz : 0 < size) (hl : news.length = mm * size) (h1 : ∀ v ∈ news, v.oneCell' = true) (h63 : len + mm ≤ 9223372036854775807) (hb : (len + mm) * bytes ≤ 140737488355328) (hcap : len ≤ cap)
    (hw : Hp B w0 L R X w) : Ch P ⟨d, .call { callee := .builtin .append, args := #[x, y], argTypes := #[t, t] }, ty, pos, af, gd⟩ a w fun v w' => ∃ A' cap', v = .slice A' (len + mm) cap' ∧ len + mm ≤ cap' ∧ Hp B w0 L (R.set k ⟨.slice A' (len + mm) cap', E, size, len + mm, xs ++ news⟩) X w' := by
  rcases Nat.eq_zero_or_pos mm with rfl | hm
  · have hn : news = [] := List.eq_nil_of_length_eq_zero (by omega)
    subst hn
    have hset : R.set k ⟨.slice A (len + 0) cap, E, size, len + 0, xs ++ []⟩ = R := by
      apply List.ext_getElem?
      intro j
      rw [List.getElem?_set]
      by_cases hkj : k = j
      · subst hkj
        have hlt := (List.getElem?_eq_some_iff.1 hk).1
        simp [hlt, ← hk]
      · simp [hkj]
    have hrun : (execOp a.eval ⟨d, .call { callee := .builtin .append, args := #[x, y], argTypes := #[t, t] }, ty, pos, af, gd⟩).run P w = .ok (.value (.slice A len cap)) w := by
      cases hq : P.info? E with
      | none => simp [hq] at hi
      | some i =>
        have happ : (Builtin.append_ #[t, t] ty #[.slice A len cap, .slice A2 0 c]).run P w = .ok (.slice A len cap) w := by
          cases A2 <;> cases A <;> simp [Builtin.append_, run_underlying ht, sizeOf, typeInfo, hq, Builtin.lenOf, Builtin.firstCells, hcap, loadCells, loadCellsFrom, storeCells]
        simp [execOp, resolve, invoke, builtin, hs.ev hx, hs.ev hy, happ]
    unfold Ch
    rw [hrun]
    exact ⟨A, cap, rfl, hcap, by rw [hset]; exact hw⟩
  · obtain ⟨b, off, e, hc⟩ := hrd (by rw [hl]; exact Nat.mul_pos hm hsz)
    subst e
    refine (ch_append (r := ⟨.slice A len cap, E, size, len, xs⟩) hs k hx hk hy (fun j u hu => ?_) ht hi hzs hsz hl h1 hm h63 hb hw).mono fun v w' ⟨g, cap', e1, e2⟩ => ⟨some ⟨g, 0, none⟩, cap', e1, ?_, e2⟩
    · rw [Addr.add_mid, hc j (List.getElem?_eq_some_iff.1 hu).1, List.getD_eq_getElem?_getD, hu]; rfl
    · have hrow := HpG.rows e2 _ (List.mem_set (List.getElem?_eq_some_iff.1 hk).1 _)
      obtain ⟨_, hr⟩ := hrow
      rcases hr with ⟨hv, _⟩ | ⟨g', c', cur, hv, _, _, hle, _⟩
      · cases hv
      · injection hv with h1 h2 h3
        show len + mm ≤ cap'
        dsimp only at hle
        omega
theorem wl_appendS {x y : Operand} {t : TypeId} {rest : List Oper} {d : Nat} {pos : String} {af : Array Edge} {gd : Option (Nat × Bool)} {A : Option Addr} {E size len cap : Nat} {xs : List Value} {c mm : Nat} {A2 : Option Addr} {news : List Value} {z : Value} {bytes : Nat} (k : Nat) (hg : Gd ops m gd) (hd : Nat.blt d n = true) (hk : R[k]? = some ⟨.slice A len cap, E, size, len, xs⟩) (hx : ev m x = some (.slice A len cap)) (hy : ev m y = some (.slice A2 mm c)) (hrd : ∀ w, Hp B w0 L R X w → Rd A2 news w)
    (ht : P.underlying t = some (.slice E)) (hi : (P.info? E).map (fun i => (i.zero, i.size, i.bytes)) = some (some z, size, bytes)) (hzs : z.cells.size = size) (hsz : Nat.blt 0 size = true) (hl : news.length = mm * size) (h1 : ∀ v ∈ news, v.oneCell' = true) (h63 : len + mm ≤ 9223372036854775807) (hb : (len + mm) * bytes ≤ 140737488355328) (hcap : len ≤ cap)
    (h : ∀ A' cap', len + mm ≤ cap' → WL P ops Q rest n ((d, .slice A' (len + mm) cap') :: m) (Hp B w0 L (R.set k ⟨.slice A' (len + mm) cap', E, size, len + mm, xs ++ news⟩) X)) :
    WL P ops Q (⟨some d, .call { callee := .builtin .append, args := #[x, y], argTypes := #[t, t] }, ty, pos, af, gd⟩ :: rest) n m (Hp B w0 L R X) :=
  wl_chain (ι := {i : Option Addr × Nat // len + mm ≤ i.2}) (val := fun i => .slice i.1.1 (len + mm) i.1.2) (H' := fun i => Hp B w0 L (R.set k ⟨.slice i.1.1 (len + mm) i.1.2, E, size, len + mm, xs ++ news⟩) X) hg hd
    (fun _ _ _ _ _ _ hs hw => (ch_appendS hs k hk hx hy (hrd _ hw) ht hi hzs (by simpa [Nat.blt_eq] using hsz) hl h1 h63 hb hcap hw).mono fun _ _ ⟨A', cap', e1, e2, e3⟩ => ⟨⟨(A', cap'), e2⟩, e1, e3⟩) fun i => h i.1.1 i.1.2 i.2
end
end Go.Proofs.Ytojofinofpgopaa
