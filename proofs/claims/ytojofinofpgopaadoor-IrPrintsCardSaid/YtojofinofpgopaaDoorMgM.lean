/- The memory of package mem, as known blocks. -/
import Derived.Test.YtojofinofpgopaaDoorMgS
import Derived.Test.YtojofinofpgopaaDoorMk
import Derived.Laws.Pointers
namespace Go.Proofs.YtojofinofpgopaaDoor
open Go.RowKit
section
variable {P : Program} {n : Nat} {m : List (Nat × Value)} {ty : TypeId} {H : World → Prop} {G B : Nat → Prop} {w0 w w' : World} {L L1 L' : List (Nat × Obj)} {R : List Rw} {X : World → Prop}
/-! ### Pointers compared with nil -/
theorem run_eql_nil {t : TypeId} {p : Option Addr} (ht : P.underlying t = some (.pointer (P.pointee t))) (w : World) : (Op.equal t (.pointer p) (.pointer none)).run P w = .ok p.isNone w := run_equalIn_pointer_nil (P := P) w 9999 t p ht
theorem yf_eqNil {x y : Operand} {t t' : TypeId} {p : Option Addr} (hx : ev m x = some (.pointer p)) (hy : ev m y = some (.pointer none)) (ht : P.underlying t = some (.pointer (P.pointee t))) : YF P (.binOp .eql t x y t') ty n m H (.bool p.isNone) := fun _ w d pos af g hs hw => by
  have := run_eql_nil (P := P) (p := p) ht w
  simp [Yl, execOp, hs.ev hx, hs.ev hy, binOp, Result.andThen, eqGuard_at_pointer, this]
theorem yf_neNil {x y : Operand} {t t' : TypeId} {p : Option Addr} (hx : ev m x = some (.pointer p)) (hy : ev m y = some (.pointer none)) (ht : P.underlying t = some (.pointer (P.pointee t))) : YF P (.binOp .neq t x y t') ty n m H (.bool p.isSome) := fun _ w d pos af g hs hw => by
  have := run_eql_nil (P := P) (p := p) ht w
  cases p <;> simp [Yl, execOp, hs.ev hx, hs.ev hy, binOp, Result.andThen, eqGuard_at_pointer, this]
/-! ### Reads of blocks that a fact names -/
theorem yf_loadG {x : Operand} {t T g o : Nat} {cs : List Value} {v : Value} {d : TypeDesc} (hx : ev m x = some (.pointer (some ⟨g, o, none⟩))) (hg : ∀ w, H w → w.heap[g]? = some (bk T cs)) (hv : cs[o]? = some v) (ht : P.underlying t = some d) (hd : d.isRow = false) : YF P (.load t x) ty n m H v :=
  yf_load hx ht hd fun w h => by rw [cell_of_row w g o _ _ _ (hg w h), List.getElem?_toArray]; exact hv
theorem yf_loadRowG {x : Operand} {t T g : Nat} {cs : List Value} {d : TypeDesc} (hx : ev m x = some (.pointer (some ⟨g, 0, none⟩))) (hg : ∀ w, H w → w.heap[g]? = some (bk T cs)) (ht : P.underlying t = some d) (hd : d.isRow = true) (hs : (P.info? t).map (·.size) = some cs.length) : YF P (.load t x) ty n m H (.agg cs.toArray) :=
  yf_loadRow hx ht hd hs fun w h j v hv => by rw [Nat.zero_add, cell_of_row w g j _ _ _ (hg w h), List.getElem?_toArray]; exact hv
/-! ### Calls that turn several known blocks -/
def OnL (L : List (Nat × Obj)) (w : World) : Prop := ∀ p ∈ L, w.heap[p.1]? = some p.2
theorem OnL.foot (h : OnL L w) : ∃ F : Nat → Prop, (∀ k, F k → k < w.heap.size ∧ ¬ False) ∧ Foot F (OnL L) w :=
  ⟨fun k => k ∈ L.map (·.1), fun k hk => by
    obtain ⟨p, hp, rfl⟩ := List.mem_map.1 hk
    exact ⟨(Array.getElem?_eq_some_iff.1 (h p hp)).1, id⟩, fun u hu p hp => (hu p.1 (List.mem_map.2 ⟨p, hp, rfl⟩)).trans (h p hp)⟩
theorem OnL.ext (h : OnL L w) (hx : Ext w w') : OnL L w' := fun p hp => Blk.onE (h p hp) hx
/-- A call that may turn these blocks begins. -/
theorem Hp.startL {w : World} (h : OnL L w) (hnd : (L.map (·.1)).Nodup) : Hp (fun k => k ∈ L.map (·.1)) w L [] (fun _ => True) w :=
  ⟨Keep.refl _ _, h, fun p hp => .inr (List.mem_map.2 ⟨p, hp, rfl⟩), fun p hp => (by cases hp), by simpa [blks] using hnd, fun _ _ => trivial, fun _ => False, fun _ h => h.elim, fun _ _ => trivial⟩
theorem Hp.sub (h : Hp B w0 L R X w) (hsub : ∀ p ∈ L', p ∈ L) (hnd : (L'.map (·.1)).Nodup) : Hp B w0 L' R X w := by
  obtain ⟨F, hF, hX⟩ := HpG.foot h
  have hb : ∀ k ∈ blks L' R, k ∈ blks L R := fun k hk => by
    rcases List.mem_append.1 hk with hk | hk
    · obtain ⟨p, hp, rfl⟩ := List.mem_map.1 hk
      exact List.mem_append_left _ (List.mem_map.2 ⟨p, hsub p hp, rfl⟩)
    · exact List.mem_append_right _ hk
  have hn := List.nodup_append.1 (HpG.nd h)
  refine ⟨HpG.keep h, fun p hp => HpG.own h p (hsub p hp), fun p hp => HpG.mine h p (hsub p hp), HpG.rows h, List.nodup_append.2 ⟨hnd, hn.2.1, fun a ha b hb e => ?_⟩, fun _ _ => trivial, F, fun k hk => ⟨(hF k hk).1, (hF k hk).2.1, fun hm => (hF k hk).2.2.1 (hb k hm), trivial⟩, hX⟩
  obtain ⟨p, hp, rfl⟩ := List.mem_map.1 ha
  exact hn.2.2 _ (List.mem_map.2 ⟨p, hsub p hp, rfl⟩) b hb e
theorem Hp.callM {L1' : List (Nat × Obj)} {X' : World → Prop} (h : Hp B w0 (L ++ L1) R X w) (hc : Hp (fun k => k ∈ L1.map (·.1)) w L1' [] X' w') : Hp B w0 (L ++ L1') R X w' := by
  have hk := HpG.keep hc
  have hlt := HpG.lt h
  have hnd := HpG.nd h
  unfold blks at hnd
  rw [List.map_append, List.append_assoc] at hnd
  have hn := List.nodup_append.1 hnd
  have hn2 := List.nodup_append.1 hn.2.1
  have hout : ∀ k, k ∈ L.map (·.1) ∨ k ∈ R.filterMap (·.v.ownBlock) → k < w.heap.size ∧ k ∉ L1.map (·.1) := fun k hk => by
    rcases hk with hk | hk
    · exact ⟨hlt k (List.mem_append_left _ (by rw [List.map_append]; exact List.mem_append_left _ hk)), fun h1 => hn.2.2 k hk k (List.mem_append_left _ h1) rfl⟩
    · exact ⟨hlt k (List.mem_append_right _ hk), fun h1 => hn2.2.2 k h1 k hk rfl⟩
  have hnew : ∀ k ∈ L1'.map (·.1), w.heap.size ≤ k ∨ k ∈ L1.map (·.1) := fun k hk => by
    obtain ⟨p, hp, rfl⟩ := List.mem_map.1 hk
    exact HpG.mine hc p hp
  have hndc : (L1'.map (·.1)).Nodup := (List.nodup_append.1 (HpG.nd hc)).1
  have hB : ∀ k ∈ L1.map (·.1), w0.heap.size ≤ k ∨ B k := fun k hk => by
    obtain ⟨p, hp, rfl⟩ := List.mem_map.1 hk
    exact HpG.mine h p (List.mem_append_right _ hp)
  obtain ⟨F, hF, hX⟩ := HpG.foot h
  have hblk : ∀ k, k ∈ L.map (·.1) ∨ k ∈ R.filterMap (·.v.ownBlock) → w'.heap[k]? = w.heap[k]? := fun k hk' => hk.block k (hout k hk').1 (hout k hk').2
  refine ⟨⟨hk.os.trans (HpG.keep h).os, hk.tape.trans (HpG.keep h).tape, hk.output.trans (HpG.keep h).output, Nat.le_trans (HpG.size h) hk.size, fun j hj hne => ?_⟩, fun p hp => ?_, fun p hp => ?_, fun r hr => ?_, ?_, fun _ _ => trivial, F, fun k hk' => ?_, fun u hu => hX u fun k hk' => ?_⟩
  · rw [hk.block j (Nat.lt_of_lt_of_le hj (HpG.size h)) fun hm => (hB j hm).elim (fun h1 => by omega) hne]
    exact (HpG.keep h).block j hj hne
  · rcases List.mem_append.1 hp with hp | hp
    · rw [hblk p.1 (.inl (List.mem_map.2 ⟨p, hp, rfl⟩))]; exact HpG.own h p (List.mem_append_left _ hp)
    · exact HpG.own hc p hp
  · rcases List.mem_append.1 hp with hp | hp
    · exact HpG.mine h p (List.mem_append_left _ hp)
    · rcases hnew p.1 (List.mem_map.2 ⟨p, hp, rfl⟩) with h1 | h1
      · exact .inl (Nat.le_trans (HpG.size h) h1)
      · exact hB p.1 h1
  · obtain ⟨e, hr'⟩ := HpG.rows h r hr
    refine ⟨e, ?_⟩
    rcases hr' with hr' | ⟨g, cap, cur, hv, h1, h2, h3⟩
    · exact .inl hr'
    · refine .inr ⟨g, cap, cur, hv, h1, ?_, h3⟩
      rw [hblk g (.inr (List.mem_filterMap.2 ⟨r, hr, by rw [hv]; rfl⟩))]; exact h2
  · unfold blks
    rw [List.map_append, List.append_assoc]
    refine List.nodup_append.2 ⟨hn.1, List.nodup_append.2 ⟨hndc, hn2.2.1, fun a ha b hb e => ?_⟩, fun a ha b hb e => ?_⟩
    · subst e
      have ho := hout a (.inr hb)
      rcases hnew a ha with h1 | h1
      · omega
      · exact ho.2 h1
    · subst e
      have ho := hout a (.inl ha)
      rcases List.mem_append.1 hb with hb | hb
      · rcases hnew a hb with h1 | h1
        · omega
        · exact ho.2 h1
      · exact hn.2.2 a ha a (List.mem_append_right _ hb) rfl
  · obtain ⟨a1, a2, a3, _⟩ := hF k hk'
    refine ⟨Nat.lt_of_lt_of_le a1 hk.size, a2, fun hm => ?_, trivial⟩
    unfold blks at a3 hm
    rw [List.map_append] at a3 hm
    rcases List.mem_append.1 hm with hm | hm
    · rcases List.mem_append.1 hm with hm | hm
      · exact a3 (List.mem_append_left _ (List.mem_append_left _ hm))
      · rcases hnew k hm with h1 | h1
        · omega
        · exact a3 (List.mem_append_left _ (List.mem_append_right _ h1))
    · exact a3 (List.mem_append_right _ hm)
  · obtain ⟨a1, _, a3, _⟩ := hF k hk'
    rw [hu k hk']
    refine hk.block k a1 fun hm => a3 ?_
    unfold blks
    rw [List.map_append]
    exact List.mem_append_left _ (List.mem_append_right _ hm)
/-- Such a call, in a list of operations. L: what the caller knows beside. -/
theorem wl_callM {ops : Array Oper} {Q : Exit → Act → World → Prop} {ι : Type} {C : ι → Prop} {rest : List Oper} {d : Nat} {pos : String} {af : Array Edge} {gd : Option (Nat × Bool)} {f : FuncId} {args : List Operand} {ats : Array TypeId} {vs : List Value} {val : ι → Value} {L1' : ι → List (Nat × Obj)} {X' : ι → World → Prop} (L L1 : List (Nat × Obj)) (hg : Gd ops m gd) (hd : Nat.blt d n = true) (hf : goes P f = true) (ha : evl m args = some vs)
    (hC : ∀ w, OnL L1 w → Hp B w0 (L ++ L1) R X w → Calls P f vs.toArray w fun e w' => ∃ i, C i ∧ e = .returned (val i) ∧ Hp (fun k => k ∈ L1.map (·.1)) w (L1' i) [] (X' i) w')
    (h : ∀ i, C i → WL P ops Q rest n ((d, val i) :: m) (Hp B w0 (L ++ L1' i) R X)) : WL P ops Q (⟨some d, .call { callee := .value (.func f), args := args.toArray, argTypes := ats }, ty, pos, af, gd⟩ :: rest) n m (Hp B w0 (L ++ L1) R X) :=
  wl_chain (ι := {i // C i}) (val := fun i => val i.1) (H' := fun i => Hp B w0 (L ++ L1' i.1) R X) hg hd
    (cf_call hf ha fun w hw => (hC w (fun p hp => HpG.own hw p (List.mem_append_right _ hp)) hw).mono fun _ _ ⟨i, c, e1, e2⟩ => ⟨_, e1, ⟨i, c⟩, rfl, Hp.callM hw e2⟩) fun i => h i.1 i.2
end
end Go.Proofs.YtojofinofpgopaaDoor
/- The memory of package mem: what it holds, and reads of it. -/
namespace Go.Proofs.YtojofinofpgopaaDoor
open Go.RowKit
structure Pg where
  own : Option Nat
  c : List Int
  r : Int
structure Mm where
  M : Nat
  S : Nat
  Z : Nat
  p : List Pg
def U8 (v : Int) : Prop := 0 ≤ v ∧ v < 256
def u8s (l : List Int) : List Value := l.map (Value.int .u8)
abbrev ptrV (g : Nat) : Value := .pointer (some ⟨g, 0, none⟩)
def z256 : List Int := List.replicate 256 0
abbrev slotC (Z : Nat) (p : Pg) : List Value := [ptrV (p.own.getD Z), ptrV Z, .bool p.own.isSome, .bool false, ptrV Z, ptrV Z, .int .i64 p.r]
def ownL (p : Pg) : List (Nat × Obj) := match p.own with | some g => [(g, bk 114 (u8s p.c))] | none => []
def memL (μ : Mm) : List (Nat × Obj) := (μ.M, bk 111 [.slice (some ⟨μ.S, 0, none⟩) 3 3, .bool false]) :: (μ.S, bk 116 (μ.p.flatMap (slotC μ.Z))) :: (μ.Z, bk 114 (u8s z256)) :: μ.p.flatMap ownL
structure Mm.Wf (μ : Mm) : Prop where
  len : μ.p.length = 3
  c : ∀ p ∈ μ.p, p.c.length = 256 ∧ (∀ v ∈ p.c, U8 v) ∧ (p.own = none → p.c = z256)
/-- Cells of equal parts. -/
theorem flat_at {α β : Type} {f : α → List β} {n : Nat} (hf : ∀ x, (f x).length = n) : ∀ {l : List α} {i j : Nat} {x : α}, l[i]? = some x → j < n → (l.flatMap f)[i * n + j]? = (f x)[j]?
  | [], i, j, x, h, _ => by simp at h
  | y :: l, 0, j, x, h, hj => by
    simp at h; subst h
    rw [Nat.zero_mul, Nat.zero_add, List.flatMap_cons, List.getElem?_append_left (by rw [hf]; exact hj)]
  | y :: l, i + 1, j, x, h, hj => by
    simp at h
    rw [List.flatMap_cons, List.getElem?_append_right (by rw [hf, Nat.succ_mul]; omega), hf, show (i + 1) * n + j - n = i * n + j by rw [Nat.succ_mul]; omega]
    exact flat_at hf h hj
theorem flat_at' {α β : Type} {f : α → List β} {n : Nat} : ∀ {l : List α} {i j : Nat} {x : α}, (∀ x ∈ l, (f x).length = n) → l[i]? = some x → j < n → (l.flatMap f)[i * n + j]? = (f x)[j]?
  | [], i, j, x, _, h, _ => by simp at h
  | y :: l, 0, j, x, hf, h, hj => by
    simp at h; subst h
    rw [Nat.zero_mul, Nat.zero_add, List.flatMap_cons, List.getElem?_append_left (by rw [hf _ (List.mem_cons_self ..)]; exact hj)]
  | y :: l, i + 1, j, x, hf, h, hj => by
    simp at h
    have h1 := hf y (List.mem_cons_self ..)
    rw [List.flatMap_cons, List.getElem?_append_right (by rw [h1, Nat.succ_mul]; omega), h1, show (i + 1) * n + j - n = i * n + j by rw [Nat.succ_mul]; omega]
    exact flat_at' (fun x hx => hf x (List.mem_cons_of_mem _ hx)) h hj
section
variable {μ : Mm} {w : World}
theorem OnL.M (h : OnL (memL μ) w) : w.heap[μ.M]? = some (bk 111 [.slice (some ⟨μ.S, 0, none⟩) 3 3, .bool false]) := h (μ.M, _) (List.mem_cons_self ..)
theorem OnL.S (h : OnL (memL μ) w) : w.heap[μ.S]? = some (bk 116 (μ.p.flatMap (slotC μ.Z))) := h (μ.S, _) (List.mem_cons_of_mem _ (List.mem_cons_self ..))
theorem OnL.Z (h : OnL (memL μ) w) : w.heap[μ.Z]? = some (bk 114 (u8s z256)) := h (μ.Z, _) (List.mem_cons_of_mem _ (List.mem_cons_of_mem _ (List.mem_cons_self ..)))
theorem mem_own {p : Pg} {g : Nat} (hp : p ∈ μ.p) (ho : p.own = some g) : (g, bk 114 (u8s p.c)) ∈ memL μ :=
  List.mem_cons_of_mem _ (List.mem_cons_of_mem _ (List.mem_cons_of_mem _ (List.mem_flatMap.2 ⟨p, hp, by rw [ownL, ho]; exact List.mem_singleton.2 rfl⟩)))
theorem OnL.P (h : OnL (memL μ) w) (hw : μ.Wf) {p : Pg} (hp : p ∈ μ.p) : w.heap[p.own.getD μ.Z]? = some (bk 114 (u8s p.c)) := by
  cases ho : p.own with
  | none => rw [(hw.c p hp).2.2 ho]; exact h.Z
  | some g => exact h (g, _) (mem_own hp ho)
theorem slot_at {i j o : Nat} {p : Pg} (hp : μ.p[i]? = some p) (hj : j < 7) (ho : o = i * 7 + j) : (μ.p.flatMap (slotC μ.Z))[o]? = (slotC μ.Z p)[j]? := by
  subst ho; exact flat_at (n := 7) (fun _ => rfl) hp hj
theorem u8s_at {l : List Int} {i : Nat} (hi : i < l.length) {o : Nat} (ho : o = i) : (u8s l)[o]? = some (.int .u8 (l.getD i 0)) := by
  subst ho
  rw [u8s, List.getElem?_map, List.getElem?_eq_getElem hi, List.getD_eq_getElem?_getD, List.getElem?_eq_getElem hi]; rfl
end
def Mm.bytes (μ : Mm) : List Int := μ.p.flatMap (·.c)
def byteAt (b : List Int) (a : Int) : Int := b.getD a.toNat 0
theorem Mm.Wf.bytes_at {μ : Mm} (h : μ.Wf) {i j : Nat} {p : Pg} (hp : μ.p[i]? = some p) (hj : j < 256) : μ.bytes.getD (i * 256 + j) 0 = p.c.getD j 0 := by
  rw [List.getD_eq_getElem?_getD, List.getD_eq_getElem?_getD, Mm.bytes, flat_at' (fun x hx => (h.c x hx).1) hp hj]
theorem Mm.Wf.page {μ : Mm} (h : μ.Wf) {i : Nat} (hi : i < 3) : ∃ p, μ.p[i]? = some p ∧ p ∈ μ.p := ⟨μ.p[i]'(by rw [h.len]; exact hi), List.getElem?_eq_getElem _, List.getElem_mem _⟩
theorem pages_any (μ : Mm) (w : World) (h : OnL (memL μ) w) : Calls Tryd.prog 58 #[ptrV μ.M] w fun e w' => e = .returned (.int .i64 3) ∧ Ext w w' := by
  refine calls_wc (args := [ptrV μ.M]) Tryd.func58 rfl 10 rfl (Nat.le_of_ble_eq_true rfl) ?_
  refine wc_weak (.cons (i := 0) rfl <| .nil) ?_
  refine wc_conseq (H' := Hp (fun _ => False) w [] [] (OnL (memL μ))) (fun u hu => ?_) ?_
  · subst hu; exact Hp.start h.foot
  refine wc_seq ?_
  refine wc_region ?_
  refine wl_free .none rfl (yf_assign rfl) ?_
  refine wl_nil ?_
  refine wq_then ?_
  refine wc_seq ?_
  refine wc_seq ?_
  refine wc_region ?_
  refine wl_free .none rfl (yf_move rfl) ?_
  refine wl_free .none rfl (yf_eqNil rfl rfl (by kernel_rfl)) ?_
  refine wl_nil ?_
  refine wq_then ?_
  refine wc_cond rfl (fun hc => ?_) (fun hc => ?_)
  · skip
    simp at hc
  · skip
    refine wc_skip ?_
    refine wq_then ?_
    refine wc_seq ?_
    refine wc_weak (.cons (i := 0) rfl <| .cons (i := 2) rfl <| .cons (i := 4) rfl <| .nil) ?_
    refine wc_region ?_
    refine wl_free .none rfl (yf_move rfl) ?_
    refine wl_free .none rfl (yf_nilCheck rfl) ?_
    refine wl_free .none rfl (yf_fieldAddr (off := 0) (sz := 0) rfl Tryd.underlying111 (by kernel_rfl) rfl) ?_
    refine wl_free .none rfl (yf_loadG rfl (fun w h => OnL.M (HpG.x h)) rfl Tryd.underlying109 rfl) ?_
    refine wl_free .none rfl (yf_lenS rfl Tryd.underlying109) ?_
    refine wl_free .none rfl (yf_assign rfl) ?_
    refine wl_nil ?_
    refine wq_then ?_
    refine wc_ret ?_
    refine wq_ret1 rfl rfl (fun w hw => ?_)
    exact ⟨rfl, (HpG.keep hw).ext⟩
/-- The pages of no memory. -/
theorem pages_nil (w : World) : Calls Tryd.prog 58 #[.pointer none] w fun e w' => e = .returned (.int .i64 0) ∧ Ext w w' := by
  refine calls_wc (args := [.pointer none]) Tryd.func58 rfl 10 rfl (Nat.le_of_ble_eq_true rfl) ?_
  refine wc_weak (.cons (i := 0) rfl <| .nil) ?_
  refine wc_conseq (H' := Hp (fun _ => False) w [] [] (fun _ => True)) (fun u hu => ?_) ?_
  · subst hu; exact Hp.start0
  refine wc_seq ?_
  refine wc_region ?_
  refine wl_free .none rfl (yf_assign rfl) ?_
  refine wl_nil ?_
  refine wq_then ?_
  refine wc_seq ?_
  refine wc_seq ?_
  refine wc_region ?_
  refine wl_free .none rfl (yf_move rfl) ?_
  refine wl_free .none rfl (yf_eqNil rfl rfl (by kernel_rfl)) ?_
  refine wl_nil ?_
  refine wq_then ?_
  refine wc_cond rfl (fun hc => ?_) (fun hc => ?_)
  · skip
    refine wc_seq ?_
    refine wc_weak (.cons (i := 0) rfl <| .cons (i := 2) rfl <| .cons (i := 4) rfl <| .nil) ?_
    refine wc_region ?_
    refine wl_free .none rfl (yf_assign rfl) ?_
    refine wl_nil ?_
    refine wq_then ?_
    refine wc_ret ?_
    refine wq_then_ret ?_
    refine wq_ret1 rfl rfl (fun w hw => ?_)
    exact ⟨rfl, (HpG.keep hw).ext⟩
  · skip
    simp at hc
def atV (μ : Mm) (a : Int) : Value := if a < 768 then .pointer (some ⟨μ.S, (a / 256).toNat * 7, none⟩) else .pointer none
theorem at_any (μ : Mm) (a : Int) (ha : U32 a) (w : World) (h : OnL (memL μ) w) : Calls Tryd.prog 78 #[ptrV μ.M, .int .u32 a] w fun e w' => e = .returned (atV μ a) ∧ Ext w w' := by
  have h1 := ha.1
  have h2 := ha.2
  refine calls_wc (args := [ptrV μ.M, .int .u32 a]) Tryd.func78 rfl 19 rfl (Nat.le_of_ble_eq_true rfl) ?_
  refine wc_weak (.cons (i := 0) rfl <| .cons (i := 1) rfl <| .nil) ?_
  refine wc_conseq (H' := Hp (fun _ => False) w [] [] (OnL (memL μ))) (fun u hu => ?_) ?_
  · subst hu; exact Hp.start h.foot
  refine wc_seq ?_
  refine wc_region ?_
  refine wl_free .none rfl (yf_assign rfl) ?_
  refine wl_nil ?_
  refine wq_then ?_
  refine wc_seq ?_
  refine wc_region ?_
  refine wl_free .none rfl (yf_move rfl) ?_
  (refine wl_free .none rfl (yf_quo rfl rfl ?_ ((by rw [Int.tdiv_eq_ediv_of_nonneg h1]; exact u32_in _ (by omega) (by omega)) : IntKind.u32.wrap (a.tdiv 256) = a / 256)) ?_; (· first | decide | omega); skip)
  first | (refine wl_free .none rfl (yf_conv rfl (by kernel_rfl) Tryd.underlying3 (i64_in _ ?_ ?_)) ?_; (· omega); (· omega); skip) | refine wl_free .none rfl (yf_conv rfl (by kernel_rfl) Tryd.underlying3 rfl) ?_
  refine wl_free .none rfl (yf_assign rfl) ?_
  refine wl_nil ?_
  refine wq_then ?_
  refine wc_seq ?_
  refine wc_seq ?_
  refine wc_weak (.cons (i := 0) rfl <| .cons (i := 1) rfl <| .cons (i := 4) rfl <| .cons (i := 5) rfl <| .nil) ?_
  refine wc_region ?_
  refine wl_free .none rfl (yf_move rfl) ?_
  refine wl_free .none rfl (yf_move rfl) ?_
  refine wl_pure .none rfl (by kernel_rfl) rfl (fun w hw => pages_any μ w (HpG.x hw)) ?_
  refine wl_free .none rfl (yf_geq rfl rfl) ?_
  refine wl_nil ?_
  refine wq_then ?_
  refine wc_cond rfl (fun hc => ?_) (fun hc => ?_)
  · replace hc := of_decide_eq_true hc
    refine wc_seq ?_
    refine wc_weak (.cons (i := 0) rfl <| .cons (i := 1) rfl <| .cons (i := 4) rfl <| .cons (i := 5) rfl <| .cons (i := 12) rfl <| .nil) ?_
    refine wc_region ?_
    refine wl_free .none rfl (yf_assign rfl) ?_
    refine wl_nil ?_
    refine wq_then ?_
    refine wc_ret ?_
    refine wq_then_ret ?_
    refine wq_ret1 rfl rfl (fun w hw => ?_)
    exact ⟨by rw [atV, if_neg (by omega)], (HpG.keep hw).ext⟩
  · replace hc := of_decide_eq_false hc
    obtain ⟨q, hq⟩ : ∃ q : Nat, a / 256 = q := ⟨(a / 256).toNat, by omega⟩
    refine wc_skip ?_
    refine wq_then ?_
    refine wc_seq ?_
    refine wc_weak (.cons (i := 0) rfl <| .cons (i := 1) rfl <| .cons (i := 4) rfl <| .cons (i := 5) rfl <| .cons (i := 12) rfl <| .nil) ?_
    refine wc_region ?_
    refine wl_free .none rfl (yf_move rfl) ?_
    refine wl_free .none rfl (yf_nilCheck rfl) ?_
    refine wl_free .none rfl (yf_fieldAddr (off := 0) (sz := 0) rfl Tryd.underlying111 (by kernel_rfl) rfl) ?_
    refine wl_free .none rfl (yf_loadG rfl (fun w h => OnL.M (HpG.x h)) rfl Tryd.underlying109 rfl) ?_
    refine wl_free .none rfl (yf_move rfl) ?_
    (refine wl_free .none rfl (yf_indexAddrS (es := 7) rfl rfl Tryd.underlying109 (by kernel_rfl) hq ?_ rfl) ?_; (· first | decide | omega | (simp; omega)); skip)
    refine wl_free .none rfl (yf_assign rfl) ?_
    refine wl_nil ?_
    refine wq_then ?_
    refine wc_ret ?_
    refine wq_ret1 rfl rfl (fun w hw => ?_)
    exact ⟨by rw [atV, if_pos (by omega), hq, Int.toNat_natCast, Nat.zero_add], (HpG.keep hw).ext⟩
theorem at_lo {μ : Mm} {a : Int} (h0 : 0 ≤ a) (h : a < 768) : ∃ q j : Nat, q < 3 ∧ j < 256 ∧ a = ((q * 256 + j : Nat) : Int) ∧ a / 256 = q ∧ a % 256 = j ∧ atV μ a = .pointer (some ⟨μ.S, q * 7, none⟩) :=
  ⟨(a / 256).toNat, (a % 256).toNat, by omega, by omega, by omega, by omega, by omega, by rw [atV, if_pos h]⟩
theorem flat_len {α β : Type} {f : α → List β} {n : Nat} : ∀ {l : List α}, (∀ x ∈ l, (f x).length = n) → (l.flatMap f).length = l.length * n
  | [], _ => by simp
  | y :: l, h => by
    rw [List.flatMap_cons, List.length_append, h y (List.mem_cons_self ..), flat_len fun x hx => h x (List.mem_cons_of_mem _ hx), List.length_cons, Nat.succ_mul]; omega
theorem Mm.Wf.bytes_len {μ : Mm} (h : μ.Wf) : μ.bytes.length = 768 := by
  rw [Mm.bytes, flat_len fun x hx => (h.c x hx).1, h.len]
theorem peek_any (μ : Mm) (hwf : μ.Wf) (a : Int) (ha : U32 a) (w : World) (h : OnL (memL μ) w) : Calls Tryd.prog 119 #[ptrV μ.M, .int .u32 a] w fun e w' => e = .returned (.int .u8 (byteAt μ.bytes a)) ∧ Ext w w' := by
  have h1 := ha.1
  have h2 := ha.2
  obtain ⟨av, hav⟩ : ∃ av, atV μ a = .pointer av := by unfold atV; split <;> exact ⟨_, rfl⟩
  have hat : ∀ W, OnL (memL μ) W → Calls Tryd.prog 78 #[ptrV μ.M, .int .u32 a] W fun e w' => e = .returned (.pointer av) ∧ Ext W w' := fun W hW => by
    rw [← hav]; exact at_any μ a ha W hW
  refine calls_wc (args := [ptrV μ.M, .int .u32 a]) Tryd.func119 rfl 20 rfl (Nat.le_of_ble_eq_true rfl) ?_
  refine wc_weak (.cons (i := 0) rfl <| .cons (i := 1) rfl <| .nil) ?_
  refine wc_conseq (H' := Hp (fun _ => False) w [] [] (OnL (memL μ))) (fun u hu => ?_) ?_
  · subst hu; exact Hp.start h.foot
  refine wc_seq ?_
  refine wc_region ?_
  refine wl_free .none rfl (yf_assign rfl) ?_
  refine wl_nil ?_
  refine wq_then ?_
  refine wc_seq ?_
  refine wc_region ?_
  refine wl_free .none rfl (yf_move rfl) ?_
  refine wl_free .none rfl (yf_move rfl) ?_
  refine wl_pure .none rfl (by kernel_rfl) rfl (fun w hw => hat w (HpG.x hw)) ?_
  refine wl_free .none rfl (yf_assign rfl) ?_
  refine wl_nil ?_
  refine wq_then ?_
  refine wc_seq ?_
  refine wc_seq ?_
  refine wc_weak (.cons (i := 0) rfl <| .cons (i := 1) rfl <| .cons (i := 4) rfl <| .cons (i := 5) rfl <| .nil) ?_
  refine wc_region ?_
  refine wl_free .none rfl (yf_move rfl) ?_
  refine wl_free .none rfl (yf_eqNil rfl rfl (by kernel_rfl)) ?_
  refine wl_nil ?_
  refine wq_then ?_
  refine wc_cond rfl (fun hc => ?_) (fun hc => ?_)
  · skip
    have hge : ¬ a < 768 := fun hlt => by
      rw [atV, if_pos hlt] at hav
      cases hav; simp at hc
    refine wc_seq ?_
    refine wc_weak (.cons (i := 0) rfl <| .cons (i := 1) rfl <| .cons (i := 4) rfl <| .cons (i := 5) rfl <| .cons (i := 10) rfl <| .nil) ?_
    refine wc_region ?_
    refine wl_free .none rfl (yf_assign rfl) ?_
    refine wl_nil ?_
    refine wq_then ?_
    refine wc_ret ?_
    refine wq_then_ret ?_
    refine wq_ret1 rfl rfl (fun w hw => ?_)
    refine ⟨?_, (HpG.keep hw).ext⟩
    have : μ.bytes.length = 768 := hwf.bytes_len
    rw [byteAt, List.getD_eq_getElem?_getD, List.getElem?_eq_none (by omega)]; rfl
  · skip
    have hlt : a < 768 := by
      rcases Int.lt_or_le a 768 with hl | hl
      · exact hl
      · rw [atV, if_neg (by omega)] at hav
        cases hav; simp at hc
    obtain ⟨q, j, hq, hj, haj, hdiv, hmod, hv⟩ := at_lo (μ := μ) h1 hlt
    rw [hav] at hv
    cases hv
    obtain ⟨p, hp, hpm⟩ := hwf.page hq
    refine wc_skip ?_
    refine wq_then ?_
    refine wc_seq ?_
    refine wc_weak (.cons (i := 0) rfl <| .cons (i := 1) rfl <| .cons (i := 4) rfl <| .cons (i := 5) rfl <| .cons (i := 10) rfl <| .nil) ?_
    refine wc_region ?_
    refine wl_free .none rfl (yf_move rfl) ?_
    refine wl_free .none rfl (yf_nilCheck rfl) ?_
    refine wl_free .none rfl (yf_fieldAddr (off := 0) (sz := 0) rfl Tryd.underlying116 (by kernel_rfl) rfl) ?_
    refine wl_free .none rfl (yf_loadG (v := ptrV (p.own.getD μ.Z)) rfl (fun w h => OnL.S (HpG.x h)) (slot_at hp (j := 0) (by decide) rfl) Tryd.underlying112 rfl) ?_
    refine wl_free .none rfl (yf_move rfl) ?_
    (refine wl_free .none rfl (yf_rem rfl rfl ?_ ((by rw [Int.tmod_eq_emod_of_nonneg h1]; exact hmod) : a.tmod 256 = (j : Int))) ?_; (· first | decide | omega); skip)
    refine wl_free .none rfl (yf_nilCheck rfl) ?_
    first | (refine wl_free .none rfl (yf_indexAddrA (es := 1) rfl rfl Tryd.underlying114 (by kernel_rfl) rfl ?_ rfl) ?_; (· exact hj); skip) | (refine wl_free .none rfl (yf_indexAddrA (es := 1) rfl rfl Tryd.underlying114 (by kernel_rfl) (Int.toNat_of_nonneg ?_).symm ?_ rfl) ?_; (· omega); (· exact hj); skip)
    refine wl_free .none rfl (yf_loadG (v := .int .u8 (p.c.getD j 0)) rfl (fun w h => OnL.P (HpG.x h) hwf hpm) (u8s_at (by rw [(hwf.c p hpm).1]; exact hj) (by omega)) Tryd.underlying5 rfl) ?_
    refine wl_free .none rfl (yf_assign rfl) ?_
    refine wl_nil ?_
    refine wq_then ?_
    refine wc_ret ?_
    refine wq_ret1 rfl rfl (fun w hw => ?_)
    refine ⟨?_, (HpG.keep hw).ext⟩
    rw [byteAt, haj, Int.toNat_natCast, hwf.bytes_at hp hj]
end Go.Proofs.YtojofinofpgopaaDoor
