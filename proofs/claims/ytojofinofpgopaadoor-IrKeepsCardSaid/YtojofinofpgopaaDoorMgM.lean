/- The memory of package mem, as known blocks. -/
import Derived.Test.YtojofinofpgopaaDoorMgS
import Derived.Test.YtojofinofpgopaaDoorMk
import Derived.Laws.Pointers
import Derived.Laws.MakeOwn
import Derived.Laws.BytesArg
import Derived.OwnWalk
namespace Go.Proofs.YtojofinofpgopaaDoor
open Go.RowKit
section
variable {P : Program} {n : Nat} {m : List (Nat × Value)} {ty : TypeId} {H : World → Prop} {G B : Nat → Prop} {w0 w w' : World} {L L1 L' : List (Nat × Obj)} {R : List Rw} {X : World → Prop}
/-! ### Pointers compared with nil -/
theorem run_eql_nil {t : TypeId} {p : Option Addr} (ht : P.underlying t = some (.pointer (P.pointee t))) (w : World) : (Op.equal t (.pointer p) (.pointer none)).run P w = .ok p.isNone w := run_equalIn_pointer_nil (P := P) w 9999 t p ht
theorem yf_eqNil {x y : Operand} {t t' : TypeId} {p : Option Addr} (hx : ev m x = some (.pointer p)) (hy : ev m y = some (.pointer none)) (ht : P.underlying t = some (.pointer (P.pointee t))) : YF P (.binOp .eql t x y t') ty n m H (.bool p.isNone) := fun _ w d pos af g hs hw => by
  have := run_eql_nil (P := P) (p := p) ht w
  simp [Yl, execOp, hs.ev hx, hs.ev hy, binOp, Result.andThen, eqGuard_at_pointer, this]
theorem yf_neNil {x y : Operand} {t t' : TypeId} {p : Option Addr} (hx : ev m x = some (.pointer p)) (hy : ev m y = some (.pointer none)) (ht : P.underlying t = some (.pointer (P.pointee t))) : YF P (.binOp .neq t x y t') ty n m H (.bool p.isSome) := fun _ w d pos af g hs hw => by
  have := run_eql_nil (P := P) (p := p) ht w
  cases p <;> simp [Yl, execOp, hs.ev hx, hs.ev hy, binOp, Result.andThen, eqGuard_at_pointer, this]
/-! ### Reads of blocks that a fact names -/
theorem yf_loadG {x : Operand} {t T g o : Nat} {cs : List Value} {v : Value} {d : TypeDesc} (hx : ev m x = some (.pointer (some ⟨g, o, none⟩))) (hg : ∀ w, H w → w.heap[g]? = some (bk T cs)) (hv : cs[o]? = some v) (ht : P.underlying t = some d) (hd : d.isRow = false) : YF P (.load t x) ty n m H v :=
  yf_load hx ht hd fun w h => by rw [cell_of_row w g o _ _ _ (hg w h), List.getElem?_toArray]; exact hv
theorem yf_loadRowG {x : Operand} {t T g : Nat} {cs : List Value} {d : TypeDesc} (hx : ev m x = some (.pointer (some ⟨g, 0, none⟩))) (hg : ∀ w, H w → w.heap[g]? = some (bk T cs)) (ht : P.underlying t = some d) (hd : d.isRow = true) (hs : (P.info? t).map (·.size) = some cs.length) : YF P (.load t x) ty n m H (.agg cs.toArray) :=
  yf_loadRow hx ht hd hs fun w h j v hv => by rw [Nat.zero_add, cell_of_row w g j _ _ _ (hg w h), List.getElem?_toArray]; exact hv
/-! ### Calls that turn several known blocks -/
def OnL (L : List (Nat × Obj)) (w : World) : Prop := ∀ p ∈ L, w.heap[p.1]? = some p.2
theorem OnL.foot (h : OnL L w) : ∃ F : Nat → Prop, (∀ k, F k → k < w.heap.size ∧ ¬ False) ∧ Foot F (OnL L) w :=
  ⟨fun k => k ∈ L.map (·.1), fun k hk => by
    obtain ⟨p, hp, rfl⟩ := List.mem_map.1 hk
    exact ⟨(Array.getElem?_eq_some_iff.1 (h p hp)).1, id⟩, fun u hu p hp => (hu p.1 (List.mem_map.2 ⟨p, hp, rfl⟩)).trans (h p hp)⟩
theorem OnL.ext (h : OnL L w) (hx : Ext w w') : OnL L w' := fun p hp => Blk.onE (h p hp) hx
/-- A call that may turn these blocks begins. -/
theorem Hp.startL {w : World} (h : OnL L w) (hnd : (L.map (·.1)).Nodup) : Hp (fun k => k ∈ L.map (·.1)) w L [] (fun _ => True) w :=
  ⟨Keep.refl _ _, h, fun p hp => .inr (List.mem_map.2 ⟨p, hp, rfl⟩), fun p hp => (by cases hp), by simpa [blks] using hnd, fun _ _ => trivial, fun _ => False, fun _ h => h.elim, fun _ _ => trivial⟩
theorem Hp.sub (h : Hp B w0 L R X w) (hsub : ∀ p ∈ L', p ∈ L) (hnd : (L'.map (·.1)).Nodup) : Hp B w0 L' R X w := by
  obtain ⟨F, hF, hX⟩ := HpG.foot h
  have hb : ∀ k ∈ blks L' R, k ∈ blks L R := fun k hk => by
    rcases List.mem_append.1 hk with hk | hk
    · obtain ⟨p, hp, rfl⟩ := List.mem_map.1 hk
      exact List.mem_append_left _ (List.mem_map.2 ⟨p, hsub p hp, rfl⟩)
    · exact List.mem_append_right _ hk
  have hn := List.nodup_append.1 (HpG.nd h)
  refine ⟨HpG.keep h, fun p hp => HpG.own h p (hsub p hp), fun p hp => HpG.mine h p (hsub p hp), HpG.rows h, List.nodup_append.2 ⟨hnd, hn.2.1, fun a ha b hb e => ?_⟩, fun _ _ => trivial, F, fun k hk => ⟨(hF k hk).1, (hF k hk).2.1, fun hm => (hF k hk).2.2.1 (hb k hm), trivial⟩, hX⟩
  obtain ⟨p, hp, rfl⟩ := List.mem_map.1 ha
  exact hn.2.2 _ (List.mem_map.2 ⟨p, hsub p hp, rfl⟩) b hb e
theorem Hp.callM {L1' : List (Nat × Obj)} {X' : World → Prop} (h : Hp B w0 (L ++ L1) R X w) (hc : Hp (fun k => k ∈ L1.map (·.1)) w L1' [] X' w') : Hp B w0 (L ++ L1') R X w' := by
  have hk := HpG.keep hc
  have hlt := HpG.lt h
  have hnd := HpG.nd h
  unfold blks at hnd
  rw [List.map_append, List.append_assoc] at hnd
  have hn := List.nodup_append.1 hnd
  have hn2 := List.nodup_append.1 hn.2.1
  have hout : ∀ k, k ∈ L.map (·.1) ∨ k ∈ R.filterMap (·.v.ownBlock) → k < w.heap.size ∧ k ∉ L1.map (·.1) := fun k hk => by
    rcases hk with hk | hk
    · exact ⟨hlt k (List.mem_append_left _ (by rw [List.map_append]; exact List.mem_append_left _ hk)), fun h1 => hn.2.2 k hk k (List.mem_append_left _ h1) rfl⟩
    · exact ⟨hlt k (List.mem_append_right _ hk), fun h1 => hn2.2.2 k h1 k hk rfl⟩
  have hnew : ∀ k ∈ L1'.map (·.1), w.heap.size ≤ k ∨ k ∈ L1.map (·.1) := fun k hk => by
    obtain ⟨p, hp, rfl⟩ := List.mem_map.1 hk
    exact HpG.mine hc p hp
  have hndc : (L1'.map (·.1)).Nodup := (List.nodup_append.1 (HpG.nd hc)).1
  have hB : ∀ k ∈ L1.map (·.1), w0.heap.size ≤ k ∨ B k := fun k hk => by
    obtain ⟨p, hp, rfl⟩ := List.mem_map.1 hk
    exact HpG.mine h p (List.mem_append_right _ hp)
  obtain ⟨F, hF, hX⟩ := HpG.foot h
  have hblk : ∀ k, k ∈ L.map (·.1) ∨ k ∈ R.filterMap (·.v.ownBlock) → w'.heap[k]? = w.heap[k]? := fun k hk' => hk.block k (hout k hk').1 (hout k hk').2
  refine ⟨⟨hk.os.trans (HpG.keep h).os, hk.tape.trans (HpG.keep h).tape, hk.output.trans (HpG.keep h).output, Nat.le_trans (HpG.size h) hk.size, fun j hj hne => ?_⟩, fun p hp => ?_, fun p hp => ?_, fun r hr => ?_, ?_, fun _ _ => trivial, F, fun k hk' => ?_, fun u hu => hX u fun k hk' => ?_⟩
  · rw [hk.block j (Nat.lt_of_lt_of_le hj (HpG.size h)) fun hm => (hB j hm).elim (fun h1 => by omega) hne]
    exact (HpG.keep h).block j hj hne
  · rcases List.mem_append.1 hp with hp | hp
    · rw [hblk p.1 (.inl (List.mem_map.2 ⟨p, hp, rfl⟩))]; exact HpG.own h p (List.mem_append_left _ hp)
    · exact HpG.own hc p hp
  · rcases List.mem_append.1 hp with hp | hp
    · exact HpG.mine h p (List.mem_append_left _ hp)
    · rcases hnew p.1 (List.mem_map.2 ⟨p, hp, rfl⟩) with h1 | h1
      · exact .inl (Nat.le_trans (HpG.size h) h1)
      · exact hB p.1 h1
  · obtain ⟨e, hr'⟩ := HpG.rows h r hr
    refine ⟨e, ?_⟩
    rcases hr' with hr' | ⟨g, cap, cur, hv, h1, h2, h3⟩
    · exact .inl hr'
    · refine .inr ⟨g, cap, cur, hv, h1, ?_, h3⟩
      rw [hblk g (.inr (List.mem_filterMap.2 ⟨r, hr, by rw [hv]; rfl⟩))]; exact h2
  · unfold blks
    rw [List.map_append, List.append_assoc]
    refine List.nodup_append.2 ⟨hn.1, List.nodup_append.2 ⟨hndc, hn2.2.1, fun a ha b hb e => ?_⟩, fun a ha b hb e => ?_⟩
    · subst e
      have ho := hout a (.inr hb)
      rcases hnew a ha with h1 | h1
      · omega
      · exact ho.2 h1
    · subst e
      have ho := hout a (.inl ha)
      rcases List.mem_append.1 hb with hb | hb
      · rcases hnew a hb with h1 | h1
        · omega
        · exact ho.2 h1
      · exact hn.2.2 a ha a (List.mem_append_right _ hb) rfl
  · obtain ⟨a1, a2, a3, _⟩ := hF k hk'
    refine ⟨Nat.lt_of_lt_of_le a1 hk.size, a2, fun hm => ?_, trivial⟩
    unfold blks at a3 hm
    rw [List.map_append] at a3 hm
    rcases List.mem_append.1 hm with hm | hm
    · rcases List.mem_append.1 hm with hm | hm
      · exact a3 (List.mem_append_left _ (List.mem_append_left _ hm))
      · rcases hnew k hm with h1 | h1
        · omega
        · exact a3 (List.mem_append_left _ (List.mem_append_right _ h1))
    · exact a3 (List.mem_append_right _ hm)
  · obtain ⟨a1, _, a3, _⟩ := hF k hk'
    rw [hu k hk']
    refine hk.block k a1 fun hm => a3 ?_
    unfold blks
    rw [List.map_append]
    exact List.mem_append_left _ (List.mem_append_right _ hm)
/-- Such a call, in a list of operations. L: what the caller knows beside. -/
theorem wl_callM {ops : Array Oper} {Q : Exit → Act → World → Prop} {ι : Type} {C : ι → Prop} {rest : List Oper} {d : Nat} {pos : String} {af : Array Edge} {gd : Option (Nat × Bool)} {f : FuncId} {args : List Operand} {ats : Array TypeId} {vs : List Value} {val : ι → Value} {L1' : ι → List (Nat × Obj)} {X' : ι → World → Prop} (L L1 : List (Nat × Obj)) (hg : Gd ops m gd) (hd : Nat.blt d n = true) (hf : goes P f = true) (ha : evl m args = some vs)
    (hC : ∀ w, OnL L1 w → Hp B w0 (L ++ L1) R X w → Calls P f vs.toArray w fun e w' => ∃ i, C i ∧ e = .returned (val i) ∧ Hp (fun k => k ∈ L1.map (·.1)) w (L1' i) [] (X' i) w')
    (h : ∀ i, C i → WL P ops Q rest n ((d, val i) :: m) (Hp B w0 (L ++ L1' i) R X)) : WL P ops Q (⟨some d, .call { callee := .value (.func f), args := args.toArray, argTypes := ats }, ty, pos, af, gd⟩ :: rest) n m (Hp B w0 (L ++ L1) R X) :=
  wl_chain (ι := {i // C i}) (val := fun i => val i.1) (H' := fun i => Hp B w0 (L ++ L1' i.1) R X) hg hd
    (cf_call hf ha fun w hw => (hC w (fun p hp => HpG.own hw p (List.mem_append_right _ hp)) hw).mono fun _ _ ⟨i, c, e1, e2⟩ => ⟨_, e1, ⟨i, c⟩, rfl, Hp.callM hw e2⟩) fun i => h i.1 i.2
end
end Go.Proofs.YtojofinofpgopaaDoor
/- The memory of package mem: what it holds, and reads of it. -/
namespace Go.Proofs.YtojofinofpgopaaDoor
open Go.RowKit
structure Pg where
  own : Option Nat
  c : List Int
  r : Int
structure Mm where
  M : Nat
  S : Nat
  Z : Nat
  p : List Pg
def U8 (v : Int) : Prop := 0 ≤ v ∧ v < 256
def u8s (l : List Int) : List Value := l.map (Value.int .u8)
abbrev ptrV (g : Nat) : Value := .pointer (some ⟨g, 0, none⟩)
def z256 : List Int := List.replicate 256 0
abbrev slotC (Z : Nat) (p : Pg) : List Value := [ptrV (p.own.getD Z), ptrV Z, .bool p.own.isSome, .bool false, ptrV Z, ptrV Z, .int .i64 p.r]
def ownL (p : Pg) : List (Nat × Obj) := match p.own with | some g => [(g, bk 114 (u8s p.c))] | none => []
def memL (μ : Mm) : List (Nat × Obj) := (μ.M, bk 111 [.slice (some ⟨μ.S, 0, none⟩) 3 3, .bool false]) :: (μ.S, bk 116 (μ.p.flatMap (slotC μ.Z))) :: (μ.Z, bk 114 (u8s z256)) :: μ.p.flatMap ownL
structure Mm.Wf (μ : Mm) : Prop where
  len : μ.p.length = 3
  c : ∀ p ∈ μ.p, p.c.length = 256 ∧ (∀ v ∈ p.c, U8 v) ∧ (p.own = none → p.c = z256)
/-- Cells of equal parts. -/
theorem flat_at {α β : Type} {f : α → List β} {n : Nat} (hf : ∀ x, (f x).length = n) : ∀ {l : List α} {i j : Nat} {x : α}, l[i]? = some x → j < n → (l.flatMap f)[i * n + j]? = (f x)[j]?
  | [], i, j, x, h, _ => by simp at h
  | y :: l, 0, j, x, h, hj => by
    simp at h; subst h
    rw [Nat.zero_mul, Nat.zero_add, List.flatMap_cons, List.getElem?_append_left (by rw [hf]; exact hj)]
  | y :: l, i + 1, j, x, h, hj => by
    simp at h
    rw [List.flatMap_cons, List.getElem?_append_right (by rw [hf, Nat.succ_mul]; omega), hf, show (i + 1) * n + j - n = i * n + j by rw [Nat.succ_mul]; omega]
    exact flat_at hf h hj
theorem flat_at' {α β : Type} {f : α → List β} {n : Nat} : ∀ {l : List α} {i j : Nat} {x : α}, (∀ x ∈ l, (f x).length = n) → l[i]? = some x → j < n → (l.flatMap f)[i * n + j]? = (f x)[j]?
  | [], i, j, x, _, h, _ => by simp at h
  | y :: l, 0, j, x, hf, h, hj => by
    simp at h; subst h
    rw [Nat.zero_mul, Nat.zero_add, List.flatMap_cons, List.getElem?_append_left (by rw [hf _ (List.mem_cons_self ..)]; exact hj)]
  | y :: l, i + 1, j, x, hf, h, hj => by
    simp at h
    have h1 := hf y (List.mem_cons_self ..)
    rw [List.flatMap_cons, List.getElem?_append_right (by rw [h1, Nat.succ_mul]; omega), h1, show (i + 1) * n + j - n = i * n + j by rw [Nat.succ_mul]; omega]
    exact flat_at' (fun x hx => hf x (List.mem_cons_of_mem _ hx)) h hj
section
variable {μ : Mm} {w : World}
theorem OnL.M (h : OnL (memL μ) w) : w.heap[μ.M]? = some (bk 111 [.slice (some ⟨μ.S, 0, none⟩) 3 3, .bool false]) := h (μ.M, _) (List.mem_cons_self ..)
theorem OnL.S (h : OnL (memL μ) w) : w.heap[μ.S]? = some (bk 116 (μ.p.flatMap (slotC μ.Z))) := h (μ.S, _) (List.mem_cons_of_mem _ (List.mem_cons_self ..))
theorem OnL.Z (h : OnL (memL μ) w) : w.heap[μ.Z]? = some (bk 114 (u8s z256)) := h (μ.Z, _) (List.mem_cons_of_mem _ (List.mem_cons_of_mem _ (List.mem_cons_self ..)))
theorem mem_own {p : Pg} {g : Nat} (hp : p ∈ μ.p) (ho : p.own = some g) : (g, bk 114 (u8s p.c)) ∈ memL μ :=
  List.mem_cons_of_mem _ (List.mem_cons_of_mem _ (List.mem_cons_of_mem _ (List.mem_flatMap.2 ⟨p, hp, by rw [ownL, ho]; exact List.mem_singleton.2 rfl⟩)))
theorem OnL.P (h : OnL (memL μ) w) (hw : μ.Wf) {p : Pg} (hp : p ∈ μ.p) : w.heap[p.own.getD μ.Z]? = some (bk 114 (u8s p.c)) := by
  cases ho : p.own with
  | none => rw [(hw.c p hp).2.2 ho]; exact h.Z
  | some g => exact h (g, _) (mem_own hp ho)
theorem slot_at {i j o : Nat} {p : Pg} (hp : μ.p[i]? = some p) (hj : j < 7) (ho : o = i * 7 + j) : (μ.p.flatMap (slotC μ.Z))[o]? = (slotC μ.Z p)[j]? := by
  subst ho; exact flat_at (n := 7) (fun _ => rfl) hp hj
theorem u8s_at {l : List Int} {i : Nat} (hi : i < l.length) {o : Nat} (ho : o = i) : (u8s l)[o]? = some (.int .u8 (l.getD i 0)) := by
  subst ho
  rw [u8s, List.getElem?_map, List.getElem?_eq_getElem hi, List.getD_eq_getElem?_getD, List.getElem?_eq_getElem hi]; rfl
end
def Mm.bytes (μ : Mm) : List Int := μ.p.flatMap (·.c)
def byteAt (b : List Int) (a : Int) : Int := b.getD a.toNat 0
theorem Mm.Wf.bytes_at {μ : Mm} (h : μ.Wf) {i j : Nat} {p : Pg} (hp : μ.p[i]? = some p) (hj : j < 256) : μ.bytes.getD (i * 256 + j) 0 = p.c.getD j 0 := by
  rw [List.getD_eq_getElem?_getD, List.getD_eq_getElem?_getD, Mm.bytes, flat_at' (fun x hx => (h.c x hx).1) hp hj]
theorem Mm.Wf.page {μ : Mm} (h : μ.Wf) {i : Nat} (hi : i < 3) : ∃ p, μ.p[i]? = some p ∧ p ∈ μ.p := ⟨μ.p[i]'(by rw [h.len]; exact hi), List.getElem?_eq_getElem _, List.getElem_mem _⟩
theorem pages_any (μ : Mm) (w : World) (h : OnL (memL μ) w) : Calls Tryd.prog 58 #[ptrV μ.M] w fun e w' => e = .returned (.int .i64 3) ∧ Ext w w' := by
  refine calls_wc (args := [ptrV μ.M]) Tryd.func58 rfl 10 rfl (Nat.le_of_ble_eq_true rfl) ?_
  refine wc_weak (.cons (i := 0) rfl <| .nil) ?_
  refine wc_conseq (H' := Hp (fun _ => False) w [] [] (OnL (memL μ))) (fun u hu => ?_) ?_
  · subst hu; exact Hp.start h.foot
  refine wc_seq ?_
  refine wc_region ?_
  refine wl_free .none rfl (yf_assign rfl) ?_
  refine wl_nil ?_
  refine wq_then ?_
  refine wc_seq ?_
  refine wc_seq ?_
  refine wc_region ?_
  refine wl_free .none rfl (yf_move rfl) ?_
  refine wl_free .none rfl (yf_eqNil rfl rfl (by kernel_rfl)) ?_
  refine wl_nil ?_
  refine wq_then ?_
  refine wc_cond rfl (fun hc => ?_) (fun hc => ?_)
  · skip
    simp at hc
  · skip
    refine wc_skip ?_
    refine wq_then ?_
    refine wc_seq ?_
    refine wc_weak (.cons (i := 0) rfl <| .cons (i := 2) rfl <| .cons (i := 4) rfl <| .nil) ?_
    refine wc_region ?_
    refine wl_free .none rfl (yf_move rfl) ?_
    refine wl_free .none rfl (yf_nilCheck rfl) ?_
    refine wl_free .none rfl (yf_fieldAddr (off := 0) (sz := 0) rfl Tryd.underlying111 (by kernel_rfl) rfl) ?_
    refine wl_free .none rfl (yf_loadG rfl (fun w h => OnL.M (HpG.x h)) rfl Tryd.underlying109 rfl) ?_
    refine wl_free .none rfl (yf_lenS rfl Tryd.underlying109) ?_
    refine wl_free .none rfl (yf_assign rfl) ?_
    refine wl_nil ?_
    refine wq_then ?_
    refine wc_ret ?_
    refine wq_ret1 rfl rfl (fun w hw => ?_)
    exact ⟨rfl, (HpG.keep hw).ext⟩
/-- The pages of no memory. -/
theorem pages_nil (w : World) : Calls Tryd.prog 58 #[.pointer none] w fun e w' => e = .returned (.int .i64 0) ∧ Ext w w' := by
  refine calls_wc (args := [.pointer none]) Tryd.func58 rfl 10 rfl (Nat.le_of_ble_eq_true rfl) ?_
  refine wc_weak (.cons (i := 0) rfl <| .nil) ?_
  refine wc_conseq (H' := Hp (fun _ => False) w [] [] (fun _ => True)) (fun u hu => ?_) ?_
  · subst hu; exact Hp.start0
  refine wc_seq ?_
  refine wc_region ?_
  refine wl_free .none rfl (yf_assign rfl) ?_
  refine wl_nil ?_
  refine wq_then ?_
  refine wc_seq ?_
  refine wc_seq ?_
  refine wc_region ?_
  refine wl_free .none rfl (yf_move rfl) ?_
  refine wl_free .none rfl (yf_eqNil rfl rfl (by kernel_rfl)) ?_
  refine wl_nil ?_
  refine wq_then ?_
  refine wc_cond rfl (fun hc => ?_) (fun hc => ?_)
  · skip
    refine wc_seq ?_
    refine wc_weak (.cons (i := 0) rfl <| .cons (i := 2) rfl <| .cons (i := 4) rfl <| .nil) ?_
    refine wc_region ?_
    refine wl_free .none rfl (yf_assign rfl) ?_
    refine wl_nil ?_
    refine wq_then ?_
    refine wc_ret ?_
    refine wq_then_ret ?_
    refine wq_ret1 rfl rfl (fun w hw => ?_)
    exact ⟨rfl, (HpG.keep hw).ext⟩
  · skip
    simp at hc
def atV (μ : Mm) (a : Int) : Value := if a < 768 then .pointer (some ⟨μ.S, (a / 256).toNat * 7, none⟩) else .pointer none
theorem at_any (μ : Mm) (a : Int) (ha : U32 a) (w : World) (h : OnL (memL μ) w) : Calls Tryd.prog 78 #[ptrV μ.M, .int .u32 a] w fun e w' => e = .returned (atV μ a) ∧ Ext w w' := by
  have h1 := ha.1
  have h2 := ha.2
  refine calls_wc (args := [ptrV μ.M, .int .u32 a]) Tryd.func78 rfl 19 rfl (Nat.le_of_ble_eq_true rfl) ?_
  refine wc_weak (.cons (i := 0) rfl <| .cons (i := 1) rfl <| .nil) ?_
  refine wc_conseq (H' := Hp (fun _ => False) w [] [] (OnL (memL μ))) (fun u hu => ?_) ?_
  · subst hu; exact Hp.start h.foot
  refine wc_seq ?_
  refine wc_region ?_
  refine wl_free .none rfl (yf_assign rfl) ?_
  refine wl_nil ?_
  refine wq_then ?_
  refine wc_seq ?_
  refine wc_region ?_
  refine wl_free .none rfl (yf_move rfl) ?_
  (refine wl_free .none rfl (yf_quo rfl rfl ?_ ((by rw [Int.tdiv_eq_ediv_of_nonneg h1]; exact u32_in _ (by omega) (by omega)) : IntKind.u32.wrap (a.tdiv 256) = a / 256)) ?_; (· first | decide | omega); skip)
  (refine wl_free .none rfl (yf_conv rfl (by kernel_rfl) Tryd.underlying3 (i64_in _ ?_ ?_)) ?_; (· omega); (· omega); skip)
  refine wl_free .none rfl (yf_assign rfl) ?_
  refine wl_nil ?_
  refine wq_then ?_
  refine wc_seq ?_
  refine wc_seq ?_
  refine wc_weak (.cons (i := 0) rfl <| .cons (i := 1) rfl <| .cons (i := 4) rfl <| .cons (i := 5) rfl <| .nil) ?_
  refine wc_region ?_
  refine wl_free .none rfl (yf_move rfl) ?_
  refine wl_free .none rfl (yf_move rfl) ?_
  refine wl_pure .none rfl (by kernel_rfl) rfl (fun w hw => pages_any μ w (HpG.x hw)) ?_
  refine wl_free .none rfl (yf_geq rfl rfl) ?_
  refine wl_nil ?_
  refine wq_then ?_
  refine wc_cond rfl (fun hc => ?_) (fun hc => ?_)
  · replace hc := of_decide_eq_true hc
    refine wc_seq ?_
    refine wc_weak (.cons (i := 0) rfl <| .cons (i := 1) rfl <| .cons (i := 4) rfl <| .cons (i := 5) rfl <| .cons (i := 12) rfl <| .nil) ?_
    refine wc_region ?_
    refine wl_free .none rfl (yf_assign rfl) ?_
    refine wl_nil ?_
    refine wq_then ?_
    refine wc_ret ?_
    refine wq_then_ret ?_
    refine wq_ret1 rfl rfl (fun w hw => ?_)
    exact ⟨by rw [atV, if_neg (by omega)], (HpG.keep hw).ext⟩
  · replace hc := of_decide_eq_false hc
    obtain ⟨q, hq⟩ : ∃ q : Nat, a / 256 = q := ⟨(a / 256).toNat, by omega⟩
    refine wc_skip ?_
    refine wq_then ?_
    refine wc_seq ?_
    refine wc_weak (.cons (i := 0) rfl <| .cons (i := 1) rfl <| .cons (i := 4) rfl <| .cons (i := 5) rfl <| .cons (i := 12) rfl <| .nil) ?_
    refine wc_region ?_
    refine wl_free .none rfl (yf_move rfl) ?_
    refine wl_free .none rfl (yf_nilCheck rfl) ?_
    refine wl_free .none rfl (yf_fieldAddr (off := 0) (sz := 0) rfl Tryd.underlying111 (by kernel_rfl) rfl) ?_
    refine wl_free .none rfl (yf_loadG rfl (fun w h => OnL.M (HpG.x h)) rfl Tryd.underlying109 rfl) ?_
    refine wl_free .none rfl (yf_move rfl) ?_
    (refine wl_free .none rfl (yf_indexAddrS (es := 7) rfl rfl Tryd.underlying109 (by kernel_rfl) hq ?_ rfl) ?_; (· first | decide | omega | (simp; omega)); skip)
    refine wl_free .none rfl (yf_assign rfl) ?_
    refine wl_nil ?_
    refine wq_then ?_
    refine wc_ret ?_
    refine wq_ret1 rfl rfl (fun w hw => ?_)
    exact ⟨by rw [atV, if_pos (by omega), hq, Int.toNat_natCast, Nat.zero_add], (HpG.keep hw).ext⟩
theorem at_lo {μ : Mm} {a : Int} (h0 : 0 ≤ a) (h : a < 768) : ∃ q j : Nat, q < 3 ∧ j < 256 ∧ a = ((q * 256 + j : Nat) : Int) ∧ a / 256 = q ∧ a % 256 = j ∧ atV μ a = .pointer (some ⟨μ.S, q * 7, none⟩) :=
  ⟨(a / 256).toNat, (a % 256).toNat, by omega, by omega, by omega, by omega, by omega, by rw [atV, if_pos h]⟩
theorem flat_len {α β : Type} {f : α → List β} {n : Nat} : ∀ {l : List α}, (∀ x ∈ l, (f x).length = n) → (l.flatMap f).length = l.length * n
  | [], _ => by simp
  | y :: l, h => by
    rw [List.flatMap_cons, List.length_append, h y (List.mem_cons_self ..), flat_len fun x hx => h x (List.mem_cons_of_mem _ hx), List.length_cons, Nat.succ_mul]; omega
theorem Mm.Wf.bytes_len {μ : Mm} (h : μ.Wf) : μ.bytes.length = 768 := by
  rw [Mm.bytes, flat_len fun x hx => (h.c x hx).1, h.len]
theorem peek_any (μ : Mm) (hwf : μ.Wf) (a : Int) (ha : U32 a) (w : World) (h : OnL (memL μ) w) : Calls Tryd.prog 119 #[ptrV μ.M, .int .u32 a] w fun e w' => e = .returned (.int .u8 (byteAt μ.bytes a)) ∧ Ext w w' := by
  have h1 := ha.1
  have h2 := ha.2
  obtain ⟨av, hav⟩ : ∃ av, atV μ a = .pointer av := by unfold atV; split <;> exact ⟨_, rfl⟩
  have hat : ∀ W, OnL (memL μ) W → Calls Tryd.prog 78 #[ptrV μ.M, .int .u32 a] W fun e w' => e = .returned (.pointer av) ∧ Ext W w' := fun W hW => by
    rw [← hav]; exact at_any μ a ha W hW
  refine calls_wc (args := [ptrV μ.M, .int .u32 a]) Tryd.func119 rfl 20 rfl (Nat.le_of_ble_eq_true rfl) ?_
  refine wc_weak (.cons (i := 0) rfl <| .cons (i := 1) rfl <| .nil) ?_
  refine wc_conseq (H' := Hp (fun _ => False) w [] [] (OnL (memL μ))) (fun u hu => ?_) ?_
  · subst hu; exact Hp.start h.foot
  refine wc_seq ?_
  refine wc_region ?_
  refine wl_free .none rfl (yf_assign rfl) ?_
  refine wl_nil ?_
  refine wq_then ?_
  refine wc_seq ?_
  refine wc_region ?_
  refine wl_free .none rfl (yf_move rfl) ?_
  refine wl_free .none rfl (yf_move rfl) ?_
  refine wl_pure .none rfl (by kernel_rfl) rfl (fun w hw => hat w (HpG.x hw)) ?_
  refine wl_free .none rfl (yf_assign rfl) ?_
  refine wl_nil ?_
  refine wq_then ?_
  refine wc_seq ?_
  refine wc_seq ?_
  refine wc_weak (.cons (i := 0) rfl <| .cons (i := 1) rfl <| .cons (i := 4) rfl <| .cons (i := 5) rfl <| .nil) ?_
  refine wc_region ?_
  refine wl_free .none rfl (yf_move rfl) ?_
  refine wl_free .none rfl (yf_eqNil rfl rfl (by kernel_rfl)) ?_
  refine wl_nil ?_
  refine wq_then ?_
  refine wc_cond rfl (fun hc => ?_) (fun hc => ?_)
  · skip
    have hge : ¬ a < 768 := fun hlt => by
      rw [atV, if_pos hlt] at hav
      cases hav; simp at hc
    refine wc_seq ?_
    refine wc_weak (.cons (i := 0) rfl <| .cons (i := 1) rfl <| .cons (i := 4) rfl <| .cons (i := 5) rfl <| .cons (i := 10) rfl <| .nil) ?_
    refine wc_region ?_
    refine wl_free .none rfl (yf_assign rfl) ?_
    refine wl_nil ?_
    refine wq_then ?_
    refine wc_ret ?_
    refine wq_then_ret ?_
    refine wq_ret1 rfl rfl (fun w hw => ?_)
    refine ⟨?_, (HpG.keep hw).ext⟩
    have : μ.bytes.length = 768 := hwf.bytes_len
    rw [byteAt, List.getD_eq_getElem?_getD, List.getElem?_eq_none (by omega)]; rfl
  · skip
    have hlt : a < 768 := by
      rcases Int.lt_or_le a 768 with hl | hl
      · exact hl
      · rw [atV, if_neg (by omega)] at hav
        cases hav; simp at hc
    obtain ⟨q, j, hq, hj, haj, hdiv, hmod, hv⟩ := at_lo (μ := μ) h1 hlt
    rw [hav] at hv
    cases hv
    obtain ⟨p, hp, hpm⟩ := hwf.page hq
    refine wc_skip ?_
    refine wq_then ?_
    refine wc_seq ?_
    refine wc_weak (.cons (i := 0) rfl <| .cons (i := 1) rfl <| .cons (i := 4) rfl <| .cons (i := 5) rfl <| .cons (i := 10) rfl <| .nil) ?_
    refine wc_region ?_
    refine wl_free .none rfl (yf_move rfl) ?_
    refine wl_free .none rfl (yf_nilCheck rfl) ?_
    refine wl_free .none rfl (yf_fieldAddr (off := 0) (sz := 0) rfl Tryd.underlying116 (by kernel_rfl) rfl) ?_
    refine wl_free .none rfl (yf_loadG (v := ptrV (p.own.getD μ.Z)) rfl (fun w h => OnL.S (HpG.x h)) (slot_at hp (j := 0) (by decide) rfl) Tryd.underlying112 rfl) ?_
    refine wl_free .none rfl (yf_move rfl) ?_
    (refine wl_free .none rfl (yf_rem rfl rfl ?_ ((by rw [Int.tmod_eq_emod_of_nonneg h1]; exact hmod) : a.tmod 256 = (j : Int))) ?_; (· first | decide | omega); skip)
    refine wl_free .none rfl (yf_nilCheck rfl) ?_
    (refine wl_free .none rfl (yf_indexAddrA (es := 1) rfl rfl Tryd.underlying114 (by kernel_rfl) rfl ?_ rfl) ?_; (· exact hj); skip)
    refine wl_free .none rfl (yf_loadG (v := .int .u8 (p.c.getD j 0)) rfl (fun w h => OnL.P (HpG.x h) hwf hpm) (u8s_at (by rw [(hwf.c p hpm).1]; exact hj) (by omega)) Tryd.underlying5 rfl) ?_
    refine wl_free .none rfl (yf_assign rfl) ?_
    refine wl_nil ?_
    refine wq_then ?_
    refine wc_ret ?_
    refine wq_ret1 rfl rfl (fun w hw => ?_)
    refine ⟨?_, (HpG.keep hw).ext⟩
    rw [byteAt, haj, Int.toNat_natCast, hwf.bytes_at hp hj]
end Go.Proofs.YtojofinofpgopaaDoor
/- The memory of package mem: writable, set. -/
namespace Go.Proofs.YtojofinofpgopaaDoor
open Go.RowKit
theorem own_inj {α β : Type} {f : α → Option β} : ∀ {l : List α}, (l.filterMap f).Nodup → ∀ {i k : Nat} {x y : α} {g : β}, l[i]? = some x → l[k]? = some y → f x = some g → f y = some g → i = k
  | [], _, i, k, x, y, g, h, _, _, _ => by simp at h
  | a :: l, h, 0, 0, _, _, _, _, _, _, _ => rfl
  | a :: l, h, 0, k + 1, x, y, g, hx, hy, fx, fy => by
    simp at hx hy; subst hx
    rw [List.filterMap_cons_some fx] at h
    exact absurd (List.mem_filterMap.2 ⟨y, List.mem_of_getElem? hy, fy⟩) (List.nodup_cons.1 h).1
  | a :: l, h, i + 1, 0, x, y, g, hx, hy, fx, fy => by
    simp at hx hy; subst hy
    rw [List.filterMap_cons_some fy] at h
    exact absurd (List.mem_filterMap.2 ⟨x, List.mem_of_getElem? hx, fx⟩) (List.nodup_cons.1 h).1
  | a :: l, h, i + 1, k + 1, x, y, g, hx, hy, fx, fy => by
    simp at hx hy
    have h2 : (l.filterMap f).Nodup := by
      cases hf : f a with
      | none => rwa [List.filterMap_cons_none hf] at h
      | some b => rw [List.filterMap_cons_some hf] at h; exact (List.nodup_cons.1 h).2
    rw [own_inj h2 hx hy fx fy]
theorem flat_set1 {α β : Type} {f : α → List β} {n : Nat} {v : β} : ∀ {l : List α} {i j : Nat} {x x' : α}, (∀ x ∈ l, (f x).length = n) → l[i]? = some x → j < n → (f x).set j v = f x' → (l.flatMap f).set (i * n + j) v = (l.set i x').flatMap f
  | [], i, j, x, x', _, h, _, _ => by simp at h
  | y :: l, 0, j, x, x', hf, h, hj, he => by
    simp at h; subst h
    rw [Nat.zero_mul, Nat.zero_add, List.set_cons_zero, List.flatMap_cons, List.flatMap_cons, List.set_append_left _ _ (by rw [hf _ (List.mem_cons_self ..)]; exact hj), he]
  | y :: l, i + 1, j, x, x', hf, h, hj, he => by
    simp at h
    have h1 := hf y (List.mem_cons_self ..)
    rw [List.set_cons_succ, List.flatMap_cons, List.flatMap_cons, List.set_append_right _ _ (by rw [h1, Nat.succ_mul]; omega), h1, show (i + 1) * n + j - n = i * n + j by rw [Nat.succ_mul]; omega, flat_set1 (fun x hx => hf x (List.mem_cons_of_mem _ hx)) h hj he]
theorem filterMap_same {α β : Type} {f : α → Option β} : ∀ {l : List α} {i : Nat} {x x' : α}, l[i]? = some x → f x' = f x → (l.set i x').filterMap f = l.filterMap f
  | [], i, x, x', h, _ => by simp at h
  | y :: l, 0, x, x', h, he => by
    simp at h; subst h
    rw [List.set_cons_zero, List.filterMap_cons, List.filterMap_cons, he]
  | y :: l, i + 1, x, x', h, he => by
    simp at h
    rw [List.set_cons_succ, List.filterMap_cons, List.filterMap_cons, filterMap_same h he]
theorem filterMap_put {α β : Type} {f : α → Option β} {b : β} : ∀ {l : List α} {i : Nat} {x x' : α}, l[i]? = some x → f x = none → f x' = some b → ((l.set i x').filterMap f).Perm (b :: l.filterMap f)
  | [], i, x, x', h, _, _ => by simp at h
  | y :: l, 0, x, x', h, h1, h2 => by
    simp at h; subst h
    rw [List.set_cons_zero, List.filterMap_cons_some h2, List.filterMap_cons_none h1]
  | y :: l, i + 1, x, x', h, h1, h2 => by
    simp at h
    have ih := filterMap_put h h1 h2
    rw [List.set_cons_succ]
    cases hf : f y with
    | none => rw [List.filterMap_cons_none hf, List.filterMap_cons_none hf]; exact ih
    | some c => rw [List.filterMap_cons_some hf, List.filterMap_cons_some hf]; exact (ih.cons c).trans (.swap _ _ _)
theorem map_same {α β : Type} {f : α → β} : ∀ {l : List α} {i : Nat} {x x' : α}, l[i]? = some x → f x' = f x → (l.set i x').map f = l.map f
  | [], i, x, x', h, _ => by simp at h
  | y :: l, 0, x, x', h, he => by simp at h; subst h; simp [he]
  | y :: l, i + 1, x, x', h, he => by simp at h; simp [map_same h he]
theorem u8s_len (l : List Int) : (u8s l).length = l.length := List.length_map ..
theorem u8s_all (l : List Int) : (u8s l).all (·.oneCell') = true := by simp [u8s, Value.oneCell']
theorem pg256 {l : List Int} (h : l.length = 256) : (Tryd.prog.info? 114).map (·.size) = some (u8s l).length := by rw [u8s_len, h]; kernel_rfl
theorem slots_len {μ : Mm} (h : μ.Wf) : (μ.p.flatMap (slotC μ.Z)).length = 21 := by rw [flat_len (n := 7) fun _ _ => rfl, h.len]
theorem blt_of {a b : Nat} (h : a < b) : Nat.blt a b = true := by simpa [Nat.blt_eq] using h
theorem ble_of {a b : Nat} (h : a ≤ b) : Nat.ble a b = true := Nat.ble_eq_true_of_le h
theorem row_all {cs seg : List Value} (h : seg.length = cs.length) : cs.take 0 ++ seg ++ cs.drop (0 + seg.length) = seg := by
  rw [Nat.zero_add, h, List.drop_length]; simp
structure Mm.Ok (μ : Mm) : Prop extends μ.Wf where
  nd : (μ.M :: μ.S :: μ.Z :: μ.p.filterMap (·.own)).Nodup
theorem memL_ids (μ : Mm) : (memL μ).map (·.1) = μ.M :: μ.S :: μ.Z :: μ.p.filterMap (·.own) := by
  have : ∀ l : List Pg, (l.flatMap ownL).map (·.1) = l.filterMap (·.own) := fun l => by
    induction l with
    | nil => rfl
    | cons p l ih =>
      rw [List.flatMap_cons, List.map_append, ih]
      cases ho : p.own with
      | none => rw [List.filterMap_cons_none ho, ownL, ho]; rfl
      | some g => rw [List.filterMap_cons_some ho, ownL, ho]; rfl
  show μ.M :: μ.S :: μ.Z :: (μ.p.flatMap ownL).map (·.1) = _
  rw [this]
theorem Mm.Ok.nodup {μ : Mm} (h : μ.Ok) : ((memL μ).map (·.1)).Nodup := by rw [memL_ids]; exact h.nd
/-- Page i becomes q. -/
abbrev Mm.put (μ : Mm) (i : Nat) (q : Pg) : Mm := { μ with p := μ.p.set i q }
theorem Mm.put_at {μ : Mm} {i : Nat} {p q : Pg} (hp : μ.p[i]? = some p) : (μ.put i q).p[i]? = some q := by
  show (μ.p.set i q)[i]? = _
  rw [List.getElem?_set]; simp [(List.getElem?_eq_some_iff.1 hp).1]
theorem Mm.Wf.put {μ : Mm} (h : μ.Wf) {i : Nat} {p q : Pg} (_hp : μ.p[i]? = some p) (h1 : q.c.length = 256) (h2 : ∀ v ∈ q.c, U8 v) (h3 : q.own = none → q.c = z256) : (μ.put i q).Wf := by
  refine ⟨by show (μ.p.set i q).length = 3; rw [List.length_set]; exact h.len, fun r hr => ?_⟩
  rcases List.mem_or_eq_of_mem_set hr with hr | rfl
  · exact h.c r hr
  · exact ⟨h1, h2, h3⟩
theorem Mm.Ok.put {μ : Mm} (h : μ.Ok) {i : Nat} {p q : Pg} (hp : μ.p[i]? = some p) (h1 : q.c.length = 256) (h2 : ∀ v ∈ q.c, U8 v) (h3 : q.own = none → q.c = z256) (h4 : q.own = p.own ∨ p.own = none ∧ ∃ g, q.own = some g ∧ g ∉ μ.M :: μ.S :: μ.Z :: μ.p.filterMap (·.own)) : (μ.put i q).Ok := by
  refine ⟨⟨by show (μ.p.set i q).length = 3; rw [List.length_set]; exact h.len, fun r hr => ?_⟩, ?_⟩
  · rcases List.mem_or_eq_of_mem_set hr with hr | rfl
    · exact h.c r hr
    · exact ⟨h1, h2, h3⟩
  · show (μ.M :: μ.S :: μ.Z :: (μ.p.set i q).filterMap (·.own)).Nodup
    rcases h4 with h4 | ⟨h4, g, h5, h6⟩
    · rw [filterMap_same hp h4]; exact h.nd
    · have hperm : (μ.M :: μ.S :: μ.Z :: (μ.p.set i q).filterMap (·.own)).Perm (g :: μ.M :: μ.S :: μ.Z :: μ.p.filterMap (·.own)) :=
        ((((filterMap_put (f := (·.own)) hp h4 h5).cons μ.Z).cons μ.S).cons μ.M).trans <| ((((List.Perm.swap g μ.Z _).cons μ.S).cons μ.M).trans <| ((List.Perm.swap g μ.S _).cons μ.M).trans (.swap g μ.M _))
      exact hperm.nodup_iff.2 (List.nodup_cons.2 ⟨h6, h.nd⟩)
theorem mem_set_ne {L : List (Nat × Obj)} {k g : Nat} {o o' : Obj} {q : Nat × Obj} (hk : L[k]? = some (g, o)) (hq : q ∈ L) (hne : q.1 ≠ g) : q ∈ L.set k (g, o') := by
  obtain ⟨n, hn⟩ := List.getElem?_of_mem hq
  refine List.mem_of_getElem? (i := n) ?_
  rw [List.getElem?_set]
  have : k ≠ n := fun e => by subst e; rw [hk] at hn; cases hn; exact hne rfl
  rw [if_neg this]; exact hn
theorem mem_set_eq {L : List (Nat × Obj)} {k g : Nat} {o o' : Obj} (hk : L[k]? = some (g, o)) : (g, o') ∈ L.set k (g, o') := by
  refine List.mem_of_getElem? (i := k) ?_
  rw [List.getElem?_set]; simp [(List.getElem?_eq_some_iff.1 hk).1]
/-- The contents of an own page turn. -/
theorem memL_page {μ : Mm} (h : μ.Ok) {i k g : Nat} {p : Pg} {c : List Int} (hp : μ.p[i]? = some p) (ho : p.own = some g) {o : Obj} (hk : (memL μ)[k]? = some (g, o)) : ∀ q ∈ memL (μ.put i { p with c := c }), q ∈ (memL μ).set k (g, bk 114 (u8s c)) := by
  have hg : g ∈ μ.p.filterMap (·.own) := List.mem_filterMap.2 ⟨p, List.mem_of_getElem? hp, ho⟩
  have hnd := h.nd
  simp only [List.nodup_cons, List.mem_cons, not_or] at hnd
  have hsl : (μ.p.set i { p with c := c }).flatMap (slotC μ.Z) = μ.p.flatMap (slotC μ.Z) := by
    rw [List.flatMap_def, List.flatMap_def, map_same (f := slotC μ.Z) (x' := { p with c := c }) hp rfl]
  intro q hq
  have hq' : q = (μ.M, bk 111 [.slice (some ⟨μ.S, 0, none⟩) 3 3, .bool false]) ∨ q = (μ.S, bk 116 ((μ.p.set i { p with c := c }).flatMap (slotC μ.Z))) ∨ q = (μ.Z, bk 114 (u8s z256)) ∨ q ∈ (μ.p.set i { p with c := c }).flatMap ownL := by
    simpa [memL] using hq
  rcases hq' with rfl | rfl | rfl | hq'
  · exact mem_set_ne hk (List.mem_cons_self ..) fun e => hnd.1.2.2 (by show μ.M ∈ _; rw [show μ.M = g from e]; exact hg)
  · rw [hsl]
    exact mem_set_ne hk (List.mem_cons_of_mem _ (List.mem_cons_self ..)) fun e => hnd.2.1.2 (by show μ.S ∈ _; rw [show μ.S = g from e]; exact hg)
  · exact mem_set_ne hk (List.mem_cons_of_mem _ (List.mem_cons_of_mem _ (List.mem_cons_self ..))) fun e => hnd.2.2.1 (by show μ.Z ∈ _; rw [show μ.Z = g from e]; exact hg)
  · obtain ⟨r, hr, hqr⟩ := List.mem_flatMap.1 hq'
    obtain ⟨n, hn⟩ := List.getElem?_of_mem hr
    rw [List.getElem?_set] at hn
    by_cases hin : i = n
    · subst hin
      rw [if_pos rfl] at hn
      split at hn
      · cases hn
        have hqg : q = (g, bk 114 (u8s c)) := by
          rw [ownL] at hqr
          simpa [ho] using hqr
        rw [hqg]; exact mem_set_eq hk
      · cases hn
    · rw [if_neg hin] at hn
      have hrm := List.mem_of_getElem? hn
      cases hro : r.own with
      | none => rw [ownL, hro] at hqr; cases hqr
      | some g' =>
        have hqe : q = (g', bk 114 (u8s r.c)) := by
          rw [ownL, hro] at hqr
          exact List.mem_singleton.1 hqr
        rw [hqe]
        refine mem_set_ne hk (mem_own hrm hro) fun e => hin ?_
        have e : g' = g := e
        subst e
        exact own_inj (hnd.2.2.2) hp hn ho hro
theorem slot_set {Z : Nat} {l : List Pg} {i : Nat} {p : Pg} {g : Nat} {o1 o2 : Nat} (hp : l[i]? = some p) (h1 : o1 = i * 7) (h2 : o2 = i * 7 + 2) : ((l.flatMap (slotC Z)).set o1 (ptrV g)).set o2 (.bool true) = (l.set i { p with own := some g }).flatMap (slotC Z) := by
  subst h1; subst h2
  have hlt := (List.getElem?_eq_some_iff.1 hp).1
  -- both cells of one slot
  have key : ∀ (l : List Pg) (i : Nat) (p : Pg), l[i]? = some p → ((l.flatMap (slotC Z)).set (i * 7 + 0) (ptrV g)).set (i * 7 + 2) (.bool true) = (l.set i { p with own := some g }).flatMap (slotC Z) := by
    intro l
    induction l with
    | nil => intro i p h; simp at h
    | cons y l ih =>
      intro i p h
      cases i with
      | zero =>
        simp at h; subst h
        rfl
      | succ i =>
        simp at h
        rw [List.set_cons_succ, List.flatMap_cons, List.flatMap_cons, List.set_append_right _ _ (by show (slotC Z y).length ≤ _; simp; omega), List.set_append_right _ _ (by show (slotC Z y).length ≤ _; simp; omega), ← ih i p h]
        have e : (slotC Z y).length = 7 := rfl
        rw [e, show (i + 1) * 7 + 0 - 7 = i * 7 + 0 by omega, show (i + 1) * 7 + 2 - 7 = i * 7 + 2 by omega]
  exact key l i p hp
theorem set_self {α : Type} : ∀ {l : List α} {i : Nat} {x : α}, l[i]? = some x → l.set i x = l
  | [], i, x, h => by simp at h
  | y :: l, 0, x, h => by simp at h; subst h; rfl
  | y :: l, i + 1, x, h => by simp at h; rw [List.set_cons_succ, set_self h]
theorem Mm.put_self {μ : Mm} {i : Nat} {p : Pg} (hp : μ.p[i]? = some p) : μ.put i p = μ := by
  obtain ⟨M, S, Z, l⟩ := μ
  show Mm.mk M S Z (l.set i p) = _
  rw [set_self hp]
theorem Mm.Wf.ok {μ : Mm} (h : μ.Wf) {B : Nat → Prop} {w0 w : World} {X : World → Prop} (hw : Hp B w0 (memL μ) [] X w) : μ.Ok := by
  refine ⟨h, ?_⟩
  rw [← memL_ids]
  exact (List.nodup_append.1 (HpG.nd hw)).1
/-- A page gets a block of its own. -/
theorem memL_own {μ : Mm} {i g : Nat} {p : Pg} (hp : μ.p[i]? = some p) : ∀ q ∈ memL (μ.put i { p with own := some g }), q ∈ (g, bk 114 (u8s p.c)) :: (μ.M, bk 111 [.slice (some ⟨μ.S, 0, none⟩) 3 3, .bool false]) :: (μ.S, bk 116 (((μ.p.flatMap (slotC μ.Z)).set (i * 7 + 0) (ptrV g)).set (i * 7 + 2) (.bool true))) :: (μ.Z, bk 114 (u8s z256)) :: μ.p.flatMap ownL := by
  intro q hq
  rw [slot_set (o1 := i * 7 + 0) (o2 := i * 7 + 2) hp rfl rfl]
  have hq' : q = (μ.M, bk 111 [.slice (some ⟨μ.S, 0, none⟩) 3 3, .bool false]) ∨ q = (μ.S, bk 116 ((μ.p.set i { p with own := some g }).flatMap (slotC μ.Z))) ∨ q = (μ.Z, bk 114 (u8s z256)) ∨ q ∈ (μ.p.set i { p with own := some g }).flatMap ownL := by
    simpa [memL] using hq
  rcases hq' with rfl | rfl | rfl | hq'
  · exact List.mem_cons_of_mem _ (List.mem_cons_self ..)
  · exact List.mem_cons_of_mem _ (List.mem_cons_of_mem _ (List.mem_cons_self ..))
  · exact List.mem_cons_of_mem _ (List.mem_cons_of_mem _ (List.mem_cons_of_mem _ (List.mem_cons_self ..)))
  · obtain ⟨r, hr, hqr⟩ := List.mem_flatMap.1 hq'
    rcases List.mem_or_eq_of_mem_set hr with hr | rfl
    · exact List.mem_cons_of_mem _ (List.mem_cons_of_mem _ (List.mem_cons_of_mem _ (List.mem_cons_of_mem _ (List.mem_flatMap.2 ⟨r, hr, hqr⟩))))
    · have : q = (g, bk 114 (u8s p.c)) := List.mem_singleton.1 hqr
      rw [this]; exact List.mem_cons_self ..
set_option maxRecDepth 100000 in
theorem writable_any (μ : Mm) (ok : μ.Ok) (i : Nat) (p : Pg) (hp : μ.p[i]? = some p) (w : World) (h : OnL (memL μ) w) : Calls Tryd.prog 79 #[.pointer (some ⟨μ.S, i * 7, none⟩)] w fun e w' =>
    ∃ g : Nat, (μ.put i { p with own := some g }).Ok ∧ e = .returned (ptrV g) ∧ Hp (fun k => k ∈ (memL μ).map (·.1)) w (memL (μ.put i { p with own := some g })) [] (fun _ => True) w' := by
  have hpm := List.mem_of_getElem? hp
  have hpc := ok.c p hpm
  have hi : i < 3 := by have := (List.getElem?_eq_some_iff.1 hp).1; rw [ok.len] at this; exact this
  have hput : ∀ g, (μ.put i { p with own := some g }).p[i]? = some { p with own := some g } := fun g => Mm.put_at hp
  refine calls_wc (args := [.pointer (some ⟨μ.S, i * 7, none⟩)]) Tryd.func79 rfl 25 rfl (Nat.le_of_ble_eq_true rfl) ?_
  refine wc_weak (.cons (i := 0) rfl <| .nil) ?_
  refine wc_conseq (H' := Hp (fun k => k ∈ (memL μ).map (·.1)) w (memL μ) [] (fun _ => True)) (fun u hu => ?_) ?_
  · subst hu; exact Hp.startL h ok.nodup
  refine wc_seq ?_
  refine wc_region ?_
  refine wl_free .none rfl (yf_assign rfl) ?_
  refine wl_nil ?_
  refine wq_then ?_
  refine wc_seq ?_
  refine wc_seq ?_
  refine wc_region ?_
  refine wl_free .none rfl (yf_move rfl) ?_
  refine wl_free .none rfl (yf_nilCheck rfl) ?_
  refine wl_free .none rfl (yf_fieldAddr (off := 2) (sz := 0) rfl Tryd.underlying116 (by kernel_rfl) rfl) ?_
  refine wl_free .none rfl (yf_loadG (v := .bool p.own.isSome) rfl (fun w h => OnL.S (HpG.own h)) (slot_at hp (j := 2) (by decide) rfl) Tryd.underlying4 rfl) ?_
  refine wl_free .none rfl (yf_not rfl) ?_
  refine wl_nil ?_
  refine wq_then ?_
  refine wc_cond rfl (fun hc => ?_) (fun hc => ?_)
  · skip
    refine wc_seq ?_
    refine wc_weak (.cons (i := 0) rfl <| .cons (i := 2) rfl <| .cons (i := 8) rfl <| .nil) ?_
    refine wc_region ?_
    refine wl_free .none rfl (yf_move rfl) ?_
    refine wl_free .none rfl (yf_nilCheck rfl) ?_
    refine wl_free .none rfl (yf_fieldAddr (off := 0) (sz := 0) rfl Tryd.underlying116 (by kernel_rfl) rfl) ?_
    refine wl_free .none rfl (yf_loadG (v := ptrV (p.own.getD μ.Z)) rfl (fun w h => OnL.S (HpG.own h)) (slot_at hp (j := 0) (by decide) rfl) Tryd.underlying112 rfl) ?_
    refine wl_free .none rfl (yf_nilCheck rfl) ?_
    refine wl_free .none rfl (yf_loadRowG rfl (fun w h => OnL.P (HpG.own h) ok.toWf hpm) Tryd.underlying114 rfl (pg256 hpc.1)) ?_
    refine wl_new .none rfl (nf_alloc (z := .agg (u8s z256).toArray) (cs := u8s z256) (by kernel_rfl) rfl) (fun b3 => ?_)
    refine wl_chain0 .none (cf_storeRow 0 rfl rfl rfl (u8s_all _) (ble_of (by rw [u8s_len, hpc.1]; exact Nat.le_refl _)) (pg256 hpc.1)) (fun _ => ?_)
    refine wl_conseq (H' := Hp (fun k => k ∈ (memL μ).map (·.1)) w ((b3, bk 114 (u8s p.c)) :: memL μ) [] (fun _ => True)) (fun u hu => ?_) ?_
    · have e := row_all (cs := u8s z256) (seg := u8s p.c) (by rw [u8s_len, u8s_len, hpc.1]; rfl)
      have hu2 : Hp (fun k => k ∈ (memL μ).map (·.1)) w ((b3, bk 114 ((u8s z256).take 0 ++ u8s p.c ++ (u8s z256).drop (0 + (u8s p.c).length))) :: memL μ) [] (fun _ => True) u := hu
      rw [e] at hu2
      exact hu2
    refine wl_nil ?_
    refine wq_then ?_
    refine wc_weak (.cons (i := 0) rfl <| .cons (i := 2) rfl <| .cons (i := 3) rfl <| .cons (i := 8) rfl <| .nil) ?_
    refine wc_region ?_
    refine wl_free .none rfl (yf_move rfl) ?_
    refine wl_free .none rfl (yf_move rfl) ?_
    refine wl_free .none rfl (yf_nilCheck rfl) ?_
    refine wl_free .none rfl (yf_fieldAddr (off := 0) (sz := 0) rfl Tryd.underlying116 (by kernel_rfl) rfl) ?_
    refine wl_chain0 .none (cf_store 2 rfl rfl rfl rfl (blt_of (by rw [slots_len ok.toWf]; omega)) (by kernel_rfl)) (fun _ => ?_)
    refine wl_free .none rfl (yf_nilCheck rfl) ?_
    refine wl_free .none rfl (yf_fieldAddr (off := 2) (sz := 0) rfl Tryd.underlying116 (by kernel_rfl) rfl) ?_
    refine wl_chain0 .none (cf_store 2 rfl rfl rfl rfl (blt_of (by rw [List.length_set, slots_len ok.toWf]; omega)) (by kernel_rfl)) (fun _ => ?_)
    refine wl_conseq (H' := Hp (fun k => k ∈ (memL μ).map (·.1)) w (memL (μ.put i { p with own := some b3 })) [] (fun _ => True)) (fun u hu => ?_) ?_
    · have hnd := (List.nodup_append.1 (HpG.nd hu)).1
      have hb3 : b3 ∉ μ.M :: μ.S :: μ.Z :: μ.p.filterMap (·.own) := by
        rw [← memL_ids]; exact (List.nodup_cons.1 hnd).1
      have hno : p.own = none := by simpa using hc
      exact Hp.sub hu (memL_own hp) (Mm.Ok.put (q := { p with own := some b3 }) ok hp hpc.1 hpc.2.1 (fun h => by cases h) (.inr ⟨hno, b3, rfl, hb3⟩)).nodup
    refine wl_nil ?_
    refine wq_then ?_
    refine wc_seq ?_
    refine wc_weak (.cons (i := 0) rfl <| .cons (i := 2) rfl <| .cons (i := 3) rfl <| .cons (i := 8) rfl <| .nil) ?_
    refine wc_region ?_
    refine wl_free .none rfl (yf_move rfl) ?_
    refine wl_free .none rfl (yf_nilCheck rfl) ?_
    refine wl_free .none rfl (yf_fieldAddr (off := 0) (sz := 0) rfl Tryd.underlying116 (by kernel_rfl) rfl) ?_
    first
    | (refine wl_free .none rfl (yf_loadG (v := ptrV g) rfl (fun w h => OnL.S (HpG.own h)) ((slot_at hp (j := 0) (by decide) rfl).trans (by rw [show (slotC μ.Z p)[0]? = some (ptrV (p.own.getD μ.Z)) from rfl, hg]; rfl)) Tryd.underlying112 rfl) ?_)
    | (refine wl_free .none rfl (yf_loadG (v := ptrV b3) rfl (fun w h => OnL.S (μ := μ.put i { p with own := some b3 }) (HpG.own h)) (slot_at (μ := μ.put i { p with own := some b3 }) (hput b3) (j := 0) (by decide) rfl) Tryd.underlying112 rfl) ?_)
    refine wl_free .none rfl (yf_assign rfl) ?_
    refine wl_nil ?_
    refine wq_then ?_
    refine wc_ret ?_
    refine wq_ret1 rfl rfl (fun w hw => ?_)
    exact ⟨b3, (Mm.Wf.put (q := { p with own := some b3 }) ok.toWf hp hpc.1 hpc.2.1 (fun h => by cases h)).ok hw, rfl, hw⟩
  · skip
    obtain ⟨g, hg⟩ : ∃ g, p.own = some g := Option.isSome_iff_exists.1 (by simpa using hc)
    refine wc_skip ?_
    refine wq_then ?_
    refine wc_seq ?_
    refine wc_weak (.cons (i := 0) rfl <| .cons (i := 2) rfl <| .cons (i := 8) rfl <| .nil) ?_
    refine wc_region ?_
    refine wl_free .none rfl (yf_move rfl) ?_
    refine wl_free .none rfl (yf_nilCheck rfl) ?_
    refine wl_free .none rfl (yf_fieldAddr (off := 0) (sz := 0) rfl Tryd.underlying116 (by kernel_rfl) rfl) ?_
    first
    | (refine wl_free .none rfl (yf_loadG (v := ptrV g) rfl (fun w h => OnL.S (HpG.own h)) ((slot_at hp (j := 0) (by decide) rfl).trans (by rw [show (slotC μ.Z p)[0]? = some (ptrV (p.own.getD μ.Z)) from rfl, hg]; rfl)) Tryd.underlying112 rfl) ?_)
    | (refine wl_free .none rfl (yf_loadG (v := ptrV b3) rfl (fun w h => OnL.S (μ := μ.put i { p with own := some b3 }) (HpG.own h)) (slot_at (μ := μ.put i { p with own := some b3 }) (hput b3) (j := 0) (by decide) rfl) Tryd.underlying112 rfl) ?_)
    refine wl_free .none rfl (yf_assign rfl) ?_
    refine wl_nil ?_
    refine wq_then ?_
    refine wc_ret ?_
    refine wq_ret1 rfl rfl (fun w hw => ?_)
    have e : ({ p with own := some g } : Pg) = p := by rw [← hg]
    exact ⟨g, by rw [e, Mm.put_self hp]; exact ok, rfl, by rw [e, Mm.put_self hp]; exact hw⟩
end Go.Proofs.YtojofinofpgopaaDoor
/- The memory of package mem: set. -/
namespace Go.Proofs.YtojofinofpgopaaDoor
open Go.RowKit
structure Mm.Same (μ μ' : Mm) : Prop where
  M : μ'.M = μ.M
  r : μ'.p.map (·.r) = μ.p.map (·.r)
theorem Mm.Same.refl (μ : Mm) : μ.Same μ := ⟨rfl, rfl⟩
theorem Mm.Same.trans {a b c : Mm} (h : a.Same b) (k : b.Same c) : a.Same c := ⟨k.M.trans h.M, k.r.trans h.r⟩
theorem Mm.put_same {μ : Mm} {i : Nat} {p q : Pg} (hp : μ.p[i]? = some p) (hr : q.r = p.r) : μ.Same (μ.put i q) := ⟨rfl, map_same (f := fun x : Pg => x.r) hp hr⟩
theorem Mm.put_bytes {μ : Mm} (h : μ.Wf) {i j : Nat} {p q : Pg} {b : Int} (hp : μ.p[i]? = some p) (hj : j < 256) (hq : q.c = p.c.set j b) : (μ.put i q).bytes = μ.bytes.set (i * 256 + j) b :=
  (flat_set1 (f := fun x : Pg => x.c) (v := b) (x' := q) (fun x hx => (h.c x hx).1) hp hj hq.symm).symm
theorem set_same {l : List Int} {i : Nat} {b : Int} (h : l.getD i 0 = b) : l.set i b = l := by
  by_cases hi : i < l.length
  · rw [List.getD_eq_getElem?_getD, List.getElem?_eq_getElem hi] at h
    exact set_self (by rw [List.getElem?_eq_getElem hi, ← h]; rfl)
  · exact List.set_eq_of_length_le (by omega)
theorem mem_set {l : List Int} {i : Nat} {b : Int} (h : ∀ v ∈ l, U8 v) (hb : U8 b) : ∀ v ∈ l.set i b, U8 v := fun v hv => by
  rcases List.mem_or_eq_of_mem_set hv with hv | rfl
  · exact h v hv
  · exact hb
set_option maxRecDepth 100000 in
theorem set_any (μ : Mm) (ok : μ.Ok) (a b : Int) (ha : U32 a) (hb8 : U8 b) (w : World) (h : OnL (memL μ) w) : Calls Tryd.prog 57 #[ptrV μ.M, .int .u32 a, .int .u8 b] w fun e w' =>
    ∃ μ' : Mm, (μ'.Ok ∧ μ.Same μ' ∧ μ'.bytes = μ.bytes.set a.toNat b) ∧ e = .returned (.tuple #[]) ∧ Hp (fun k => k ∈ (memL μ).map (·.1)) w (memL μ') [] (fun _ => True) w' := by
  have h1 := ha.1
  have h2 := ha.2
  obtain ⟨av, hav⟩ : ∃ av, atV μ a = .pointer av := by unfold atV; split <;> exact ⟨_, rfl⟩
  have hat : ∀ W, OnL (memL μ) W → Calls Tryd.prog 78 #[ptrV μ.M, .int .u32 a] W fun e w' => e = .returned (.pointer av) ∧ Ext W w' := fun W hW => by
    rw [← hav]; exact at_any μ a ha W hW
  refine calls_wc (args := [ptrV μ.M, .int .u32 a, .int .u8 b]) Tryd.func57 rfl 32 rfl (Nat.le_of_ble_eq_true rfl) ?_
  refine wc_weak (.cons (i := 0) rfl <| .cons (i := 1) rfl <| .cons (i := 2) rfl <| .nil) ?_
  refine wc_conseq (H' := Hp (fun k => k ∈ (memL μ).map (·.1)) w (memL μ) [] (fun _ => True)) (fun u hu => ?_) ?_
  · subst hu; exact Hp.startL h ok.nodup
  refine wc_seq ?_
  refine wc_region ?_
  refine wl_free .none rfl (yf_move rfl) ?_
  refine wl_free .none rfl (yf_move rfl) ?_
  refine wl_pure .none rfl (by kernel_rfl) rfl (fun w hw => hat w (HpG.own hw)) ?_
  refine wl_free .none rfl (yf_assign rfl) ?_
  refine wl_nil ?_
  refine wq_then ?_
  refine wc_seq ?_
  refine wc_seq ?_
  refine wc_weak (.cons (i := 0) rfl <| .cons (i := 1) rfl <| .cons (i := 2) rfl <| .cons (i := 6) rfl <| .nil) ?_
  refine wc_region ?_
  refine wl_free .none rfl (yf_move rfl) ?_
  refine wl_free .none rfl (yf_eqNil rfl rfl (by kernel_rfl)) ?_
  refine wl_free .none rfl (yf_move rfl) ?_
  refine wl_split 12 rfl (fun hb => ?_) (fun hb => ?_)
  · skip
    have hge : ¬ a < 768 := fun hlt => by
      rw [atV, if_pos hlt] at hav
      cases hav; simp at hb
    refine wl_pass (.some rfl rfl rfl) rfl ?_
    refine wl_pass (.some rfl rfl rfl) rfl ?_
    refine wl_pass (.some rfl rfl rfl) rfl ?_
    refine wl_pass (.some rfl rfl rfl) rfl ?_
    refine wl_pass (.some rfl rfl rfl) rfl ?_
    refine wl_pass (.some rfl rfl rfl) rfl ?_
    refine wl_pass (.some rfl rfl rfl) rfl ?_
    refine wl_pass (.some rfl rfl rfl) rfl ?_
    refine wl_pass (.some rfl rfl rfl) rfl ?_
    refine wl_pass (.some rfl rfl rfl) rfl ?_
    refine wl_pass (.some rfl rfl rfl) rfl ?_
    refine wl_free .none rfl (yf_pickT rfl rfl) ?_
    refine wl_nil ?_
    refine wq_then ?_
    refine wc_true rfl ?_
    refine wc_ret ?_
    refine wq_then_ret ?_
    refine wq_ret0 rfl (fun w hw => ?_)
    refine ⟨μ, ⟨ok, .refl μ, ?_⟩, rfl, hw⟩
    rw [List.set_eq_of_length_le (by rw [ok.bytes_len]; omega)]
  · skip
    have hlt : a < 768 := by
      rcases Int.lt_or_le a 768 with hl | hl
      · exact hl
      · rw [atV, if_neg (by omega)] at hav
        cases hav; simp at hb
    obtain ⟨q, j, hq, hj, haj, hdiv, hmod, hv⟩ := at_lo (μ := μ) h1 hlt
    rw [hav] at hv
    cases hv
    obtain ⟨p, hp, hpm⟩ := ok.page hq
    have hpc := ok.c p hpm
    refine wl_free (.some rfl rfl) rfl (yf_move rfl) ?_
    refine wl_free (.some rfl rfl) rfl (yf_nilCheck rfl) ?_
    refine wl_free (.some rfl rfl) rfl (yf_fieldAddr (off := 0) (sz := 0) rfl Tryd.underlying116 (by kernel_rfl) rfl) ?_
    refine wl_free (.some rfl rfl) rfl (yf_loadG (v := ptrV (p.own.getD μ.Z)) rfl (fun w h => OnL.S (HpG.own h)) (slot_at hp (j := 0) (by decide) rfl) Tryd.underlying112 rfl) ?_
    refine wl_free (.some rfl rfl) rfl (yf_move rfl) ?_
    (refine wl_free (.some rfl rfl) rfl (yf_rem rfl rfl ?_ ((by rw [Int.tmod_eq_emod_of_nonneg h1]; exact hmod) : a.tmod 256 = (j : Int))) ?_; (· first | decide | omega); skip)
    refine wl_free (.some rfl rfl) rfl (yf_nilCheck rfl) ?_
    (refine wl_free (.some rfl rfl) rfl (yf_indexAddrA (es := 1) rfl rfl Tryd.underlying114 (by kernel_rfl) rfl ?_ rfl) ?_; (· exact hj); skip)
    refine wl_free (.some rfl rfl) rfl (yf_loadG (v := .int .u8 (p.c.getD j 0)) rfl (fun w h => OnL.P (HpG.own h) ok.toWf hpm) (u8s_at (by rw [hpc.1]; exact hj) (by omega)) Tryd.underlying5 rfl) ?_
    refine wl_free (.some rfl rfl) rfl (yf_move rfl) ?_
    refine wl_free (.some rfl rfl) rfl (yf_eql rfl rfl) ?_
    refine wl_free .none rfl (yf_pickF rfl rfl) ?_
    refine wl_nil ?_
    refine wq_then ?_
    refine wc_cond rfl (fun hc => ?_) (fun hc => ?_)
    · replace hc := eq_of_beq hc
      refine wc_ret ?_
      refine wq_then_ret ?_
      refine wq_ret0 rfl (fun w hw => ?_)
      refine ⟨μ, ⟨ok, .refl μ, ?_⟩, rfl, hw⟩
      rw [haj, Int.toNat_natCast, set_same (by rw [ok.bytes_at hp hj]; exact hc)]
    · replace hc := beq_no hc
      refine wc_skip ?_
      refine wq_then ?_
      refine wc_weak (.cons (i := 0) rfl <| .cons (i := 1) rfl <| .cons (i := 2) rfl <| .cons (i := 6) rfl <| .cons (i := 24) rfl <| .nil) ?_
      refine wc_region ?_
      refine wl_free .none rfl (yf_move rfl) ?_
      refine wl_callM [] (memL μ) .none rfl (by kernel_rfl) rfl (fun w hm hw => writable_any μ ok q p hp w hm) (fun g hg => ?_)
      refine wl_conseq (H' := Hp (fun k => k ∈ (memL μ).map (·.1)) w (memL (μ.put q { p with own := some g })) [] (fun _ => True)) (fun _ h => h) ?_
      obtain ⟨k, hk⟩ := List.getElem?_of_mem (mem_own (μ := μ.put q { p with own := some g }) (p := { p with own := some g }) (g := g) (List.mem_of_getElem? (Mm.put_at hp)) rfl)
      refine wl_free .none rfl (yf_move rfl) ?_
      (refine wl_free .none rfl (yf_rem rfl rfl ?_ ((by rw [Int.tmod_eq_emod_of_nonneg h1]; exact hmod) : a.tmod 256 = (j : Int))) ?_; (· first | decide | omega); skip)
      refine wl_free .none rfl (yf_move rfl) ?_
      refine wl_free .none rfl (yf_nilCheck rfl) ?_
      (refine wl_free .none rfl (yf_indexAddrA (es := 1) rfl rfl Tryd.underlying114 (by kernel_rfl) rfl ?_ rfl) ?_; (· exact hj); skip)
      refine wl_chain0 .none (cf_store k rfl rfl hk rfl (blt_of (by rw [u8s_len, hpc.1]; omega)) (by kernel_rfl)) (fun _ => ?_)
      refine wl_nil ?_
      refine wq_end0 rfl (fun w hw => ?_)
      have e : μ.put q { own := some g, c := p.c.set j b, r := p.r } = (μ.put q { p with own := some g }).put q { own := some g, c := p.c.set j b, r := p.r } := by
        show Mm.mk _ _ _ _ = Mm.mk _ _ _ ((μ.p.set q _).set q _)
        rw [List.set_set]
      have ok2 : (μ.put q { own := some g, c := p.c.set j b, r := p.r }).Ok := by
        rw [e]
        exact hg.put (Mm.put_at hp) (by show (p.c.set j b).length = 256; rw [List.length_set]; exact hpc.1) (mem_set hpc.2.1 hb8) (fun h => by cases h) (.inl rfl)
      refine ⟨μ.put q { own := some g, c := p.c.set j b, r := p.r }, ⟨ok2, Mm.put_same hp rfl, ?_⟩, rfl, ?_⟩
      · rw [haj, Int.toNat_natCast]
        exact Mm.put_bytes ok.toWf hp hj rfl
      · refine Hp.sub hw ?_ ok2.nodup
        have e2 : (u8s p.c).set (0 + j * 1) (.int .u8 b) = u8s (p.c.set j b) := by
          rw [Nat.zero_add, Nat.mul_one, u8s, u8s, List.map_set]
        rw [e, e2]
        exact memL_page hg (Mm.put_at hp) rfl hk
end Go.Proofs.YtojofinofpgopaaDoor
/- The memory of package mem: Poke. -/
namespace Go.Proofs.YtojofinofpgopaaDoor
open Go.RowKit
section
variable {P : Program} {n : Nat} {m : List (Nat × Value)} {ty : TypeId} {H : World → Prop} {G B : Nat → Prop} {w0 w w' : World} {L L1 : List (Nat × Obj)} {R : List Rw} {X : World → Prop}
theorem yf_makeFunc {fn : Fn} {fs cs : List Operand} {us vs : List Value} (hf : evl m fs = some us) (hc : evl m cs = some vs) : YF P (.makeFunc fn fs.toArray cs.toArray) ty n m H (.func fn us.toArray vs.toArray) := fun _ w d pos af g hs hw => by
  have h1 := evl_map hs hf
  have h2 := evl_map hs hc
  simp [Yl, execOp, Instr.makeFunc, h1, h2]
theorem ch_callV {a : Act} {x : Operand} {f : FuncId} {args : List Operand} {ats : Array TypeId} {us vs cs : List Value} {d : Option Tmp} {pos : String} {af : Array Edge} {gd : Option (Nat × Bool)} {Rr : Value → World → Prop} (hs : Sat n m a) (hx : ev m x = some (.func (.func f) us.toArray cs.toArray)) (hf : goes P f = true) (ha : evl m args = some vs)
    (hC : Calls P f (us ++ vs ++ cs).toArray w fun e w' => ∃ v, e = .returned v ∧ Rr v w') : Ch P ⟨d, .call { callee := .value x, args := args.toArray, argTypes := ats }, ty, pos, af, gd⟩ a w Rr := by
  have hrun : (execOp a.eval ⟨d, .call { callee := .value x, args := args.toArray, argTypes := ats }, ty, pos, af, gd⟩).run P w = .ok (.enter f (us ++ vs ++ cs).toArray) w := by
    have := evl_map hs ha
    simp [execOp, resolve, hs.ev hx, Deferred.ofValue, invoke, this, run_callFunc hf]
  unfold Ch
  rw [hrun]
  exact hC
theorem wl_callVM {ops : Array Oper} {Q : Exit → Act → World → Prop} {ι : Type} {C : ι → Prop} {rest : List Oper} {d : Nat} {pos : String} {af : Array Edge} {gd : Option (Nat × Bool)} {x : Operand} {f : FuncId} {args : List Operand} {ats : Array TypeId} {us vs cs : List Value} {val : ι → Value} {L1' : ι → List (Nat × Obj)} {X' : ι → World → Prop} (L L1 : List (Nat × Obj)) (hg : Gd ops m gd) (hd : Nat.blt d n = true) (hx : ev m x = some (.func (.func f) us.toArray cs.toArray)) (hf : goes P f = true) (ha : evl m args = some vs)
    (hC : ∀ w, OnL L1 w → Hp B w0 (L ++ L1) R X w → Calls P f (us ++ vs ++ cs).toArray w fun e w' => ∃ i, C i ∧ e = .returned (val i) ∧ Hp (fun k => k ∈ L1.map (·.1)) w (L1' i) [] (X' i) w')
    (h : ∀ i, C i → WL P ops Q rest n ((d, val i) :: m) (Hp B w0 (L ++ L1' i) R X)) : WL P ops Q (⟨some d, .call { callee := .value x, args := args.toArray, argTypes := ats }, ty, pos, af, gd⟩ :: rest) n m (Hp B w0 (L ++ L1) R X) :=
  wl_chain (ι := {i // C i}) (val := fun i => val i.1) (H' := fun i => Hp B w0 (L ++ L1' i.1) R X) hg hd
    (fun _ w _ _ _ _ hs hw => ch_callV hs hx hf ha ((hC w (fun p hp => HpG.own hw p (List.mem_append_right _ hp)) hw).mono fun _ _ ⟨i, c, e1, e2⟩ => ⟨_, e1, ⟨i, c⟩, rfl, Hp.callM hw e2⟩)) fun i => h i.1 i.2
end
def sByte (s : ByteArray) (i : Nat) : Int := ((s[i]?.map (·.toNat)).getD 0 : Nat)
theorem sByte_u8 (s : ByteArray) (i : Nat) : U8 (sByte s i) := by
  unfold sByte
  cases s[i]? with
  | none => exact ⟨by decide, by decide⟩
  | some b =>
    have := b.toNat_lt
    exact ⟨by simp, by simp; omega⟩
theorem index_str {P : Program} {t : TypeId} {s : ByteArray} {i : Nat} (ht : P.underlying t = some .string) (hi : i < s.size) (w : World) : (Instr.index t (.string s) (.int .i64 (i : Int))).run P w = .ok (.int .u8 (sByte s i)) w := by
  have h1 : s[i]? = some s[i] := getElem?_pos s i hi
  simp [Instr.index, asIntOf, run_underlying ht, sByte, h1]
/-- The first i bytes of s, laid at 0. -/
def pokeL (b : List Int) (s : ByteArray) : Nat → List Int
  | 0 => b
  | i + 1 => (pokeL b s i).set i (sByte s i)
abbrev clsL (g3 g4 : Nat) (μ : Mm) : List (Nat × Obj) := (g4, bk 35 [.int .u32 0]) :: (g3, bk 44 [ptrV μ.M]) :: memL μ
theorem clsL_same {g3 g4 : Nat} {μ μ' : Mm} (h : μ.Same μ') : clsL g3 g4 μ' = [(g4, bk 35 [.int .u32 0]), (g3, bk 44 [ptrV μ.M])] ++ memL μ' := by
  show (g4, _) :: (g3, bk _ [ptrV μ'.M]) :: memL μ' = _
  rw [h.M]; rfl
set_option maxRecDepth 100000 in
theorem cls_any (μ : Mm) (ok : μ.Ok) (g3 g4 i : Nat) (b : Int) (hi : i < 4294967296) (hb : U8 b) (w : World) (h : OnL (clsL g3 g4 μ) w) (hnd : ((clsL g3 g4 μ).map (·.1)).Nodup) : Calls Tryd.prog 56 #[.int .i64 i, .int .u8 b, ptrV g3, ptrV g4] w fun e w' =>
    ∃ μ' : Mm, (μ'.Ok ∧ μ.Same μ' ∧ μ'.bytes = μ.bytes.set i b) ∧ e = .returned (.tuple #[]) ∧ Hp (fun k => k ∈ (clsL g3 g4 μ).map (·.1)) w (clsL g3 g4 μ') [] (fun _ => True) w' := by
  refine calls_wc (args := [.int .i64 i, .int .u8 b, ptrV g3, ptrV g4]) Tryd.func56 rfl 13 rfl (Nat.le_of_ble_eq_true rfl) ?_
  refine wc_weak (.cons (i := 0) rfl <| .cons (i := 1) rfl <| .cons (i := 2) rfl <| .cons (i := 3) rfl <| .nil) ?_
  refine wc_conseq (H' := Hp (fun k => k ∈ (clsL g3 g4 μ).map (·.1)) w (clsL g3 g4 μ) [] (fun _ => True)) (fun u hu => ?_) ?_
  · subst hu; exact Hp.startL h hnd
  refine wc_region ?_
  refine wl_free .none rfl (yf_loadL 1 rfl rfl rfl Tryd.underlying44 rfl) ?_
  refine wl_free .none rfl (yf_loadL 0 rfl rfl rfl Tryd.underlying35 rfl) ?_
  refine wl_free .none rfl (yf_move rfl) ?_
  (refine wl_free .none rfl (yf_conv rfl (by kernel_rfl) Tryd.underlying35 (u32_in _ ?_ ?_)) ?_; (· omega); (· omega); skip)
  refine wl_free .none rfl (yf_add rfl rfl ((by rw [Int.zero_add]; exact u32_in _ (by omega) (by omega)) : IntKind.u32.wrap (0 + (i : Int)) = i)) ?_
  refine wl_free .none rfl (yf_move rfl) ?_
  refine wl_callM [(g4, bk 35 [.int .u32 0]), (g3, bk 44 [ptrV μ.M])] (memL μ) .none rfl (by kernel_rfl) rfl (fun w hm hw => set_any μ ok i b ⟨by omega, by omega⟩ hb w hm) (fun μ' hμ => ?_)
  refine wl_nil ?_
  refine wq_end0 rfl (fun w hw => ?_)
  exact ⟨μ', hμ, rfl, by rw [clsL_same hμ.2.1]; exact hw⟩
abbrev clsV (g3 g4 : Nat) : Value := .func (.func 56) #[] #[ptrV g3, ptrV g4]
structure PkI (μ : Mm) (s : ByteArray) (j : Mm × Nat) : Prop where
  ok : j.1.Ok
  same : μ.Same j.1
  le : j.2 ≤ s.size
  by_ : j.1.bytes = pokeL μ.bytes s j.2
set_option maxRecDepth 100000 in
theorem each_any (μ : Mm) (ok : μ.Ok) (g3 g4 : Nat) (s : ByteArray) (hs : s.size < 4294967296) (w : World) (h : OnL (clsL g3 g4 μ) w) (hnd : ((clsL g3 g4 μ).map (·.1)).Nodup) : Calls Tryd.prog 55 #[.string s, clsV g3 g4] w fun e w' =>
    ∃ μ' : Mm, (μ'.Ok ∧ μ.Same μ' ∧ μ'.bytes = pokeL μ.bytes s s.size) ∧ e = .returned (.tuple #[]) ∧ Hp (fun k => k ∈ (clsL g3 g4 μ).map (·.1)) w (clsL g3 g4 μ') [] (fun _ => True) w' := by
  refine calls_wc (args := [.string s, clsV g3 g4]) Tryd.func55 rfl 17 rfl (Nat.le_of_ble_eq_true rfl) ?_
  refine wc_weak (.cons (i := 0) rfl <| .cons (i := 1) rfl <| .nil) ?_
  refine wc_conseq (H' := Hp (fun k => k ∈ (clsL g3 g4 μ).map (·.1)) w (clsL g3 g4 μ) [] (fun _ => True)) (fun u hu => ?_) ?_
  · subst hu; exact Hp.startL h hnd
  refine wc_seq ?_
  refine wc_region ?_
  refine wl_free .none rfl (yf_move rfl) ?_
  refine wl_free .none rfl (yf_lenStr rfl Tryd.underlying9) ?_
  refine wl_free .none rfl (yf_move rfl) ?_
  refine wl_nil ?_
  refine wq_then ?_
  refine wc_block ?_
  refine wc_loop (ι := {j : Mm × Nat // PkI μ s j}) (fun j => [(0, .string s), (1, clsV g3 g4), (6, .int .i64 s.size), (7, .int .i64 j.1.2)]) (fun j => Hp (fun k => k ∈ (clsL g3 g4 μ).map (·.1)) w (clsL g3 g4 j.1.1) [] (fun _ => True)) (fun j => s.size - j.1.2) ⟨(μ, 0), ok, .refl μ, Nat.zero_le _, rfl⟩ ?_ ?_ (fun j => ?_)
  · exact .cons rfl <| .cons rfl <| .cons rfl <| .cons rfl <| .nil
  · exact fun w h => h
  obtain ⟨⟨μi, i⟩, oki, samei, lei, byi⟩ := j
  dsimp only at oki samei lei byi ⊢
  refine wc_seq ?_
  refine wc_region ?_
  refine wl_free .none rfl (yf_lss rfl rfl) ?_
  refine wl_nil ?_
  refine wq_then ?_
  refine wc_seq ?_
  refine wc_cond rfl (fun hc => ?_) (fun hc => ?_)
  · replace hc := of_decide_eq_true hc
    refine wc_skip ?_
    refine wq_then ?_
    refine wc_seq ?_
    refine wc_block ?_
    refine wc_seq ?_
    refine wc_region ?_
    refine wl_free .none rfl (yf_move rfl) ?_
    refine wl_free .none rfl (yf_assign rfl) ?_
    refine wl_nil ?_
    refine wq_then ?_
    refine wc_weak (.cons (i := 0) rfl <| .cons (i := 1) rfl <| .cons (i := 4) rfl <| .cons (i := 6) rfl <| .cons (i := 7) rfl <| .cons (i := 8) rfl <| .nil) ?_
    refine wc_region ?_
    refine wl_free .none rfl (yf_move rfl) ?_
    refine wl_free .none rfl (yf_move rfl) ?_
    refine wl_free .none rfl (yf_move rfl) ?_
    refine wl_free .none rfl (yf_move rfl) ?_
    refine wl_free .none rfl (yf_index rfl rfl (fun W => index_str Tryd.underlying9 (by omega) W)) ?_
    refine wl_callVM (us := []) [] (clsL g3 g4 μi) .none rfl rfl (by kernel_rfl) rfl (fun w hm hw => cls_any μi oki g3 g4 i (sByte s i) (by omega) (sByte_u8 s i) w hm (List.nodup_append.1 (HpG.nd hw)).1) (fun μ' hμ => ?_)
    refine wl_nil ?_
    refine wq_block ?_
    refine wq_then ?_
    refine wc_weak (.cons (i := 0) rfl <| .cons (i := 1) rfl <| .cons (i := 4) rfl <| .cons (i := 6) rfl <| .cons (i := 7) rfl <| .cons (i := 8) rfl <| .nil) ?_
    refine wc_region ?_
    (refine wl_free .none rfl (yf_add rfl rfl (i64_in _ ?_ ?_)) ?_; (· omega); (· omega); skip)
    refine wl_free .none rfl (yf_move rfl) ?_
    refine wl_nil ?_
    refine wq_round (ι := {j : Mm × Nat // PkI μ s j}) ⟨(μ', i + 1), hμ.1, samei.trans hμ.2.1, by show i + 1 ≤ s.size; omega, ?_⟩ ?_ ?_ (fun u h => ?_)
    · show μ'.bytes = (pokeL μ.bytes s i).set i (sByte s i)
      rw [hμ.2.2, byi]
    · show s.size - (i + 1) < s.size - i; omega
    · exact .cons rfl <| .cons rfl <| .cons rfl <| .consE rfl rfl <| .nil
    · exact h
  · replace hc := of_decide_eq_false hc
    refine wc_exit ?_
    refine wq_then_exit ?_
    refine wq_then_exit ?_
    refine wq_here ?_
    refine wq_end0 rfl (fun w hw => ?_)
    have e : i = s.size := by omega
    subst e
    exact ⟨μi, ⟨oki, samei, byi⟩, rfl, hw⟩
set_option maxRecDepth 100000 in
theorem poke_any (μ : Mm) (ok : μ.Ok) (s : ByteArray) (hs : s.size < 4294967296) (w : World) (h : OnL (memL μ) w) : Calls Tryd.prog 32 #[ptrV μ.M, .int .u32 0, .string s] w fun e w' =>
    ∃ μ' : Mm, (μ'.Ok ∧ μ.Same μ' ∧ μ'.bytes = pokeL μ.bytes s s.size) ∧ e = .returned (.tuple #[]) ∧ Hp (fun k => k ∈ (memL μ).map (·.1)) w (memL μ') [] (fun _ => True) w' := by
  refine calls_wc (args := [ptrV μ.M, .int .u32 0, .string s]) Tryd.func32 rfl 9 rfl (Nat.le_of_ble_eq_true rfl) ?_
  refine wc_weak (.cons (i := 0) rfl <| .cons (i := 1) rfl <| .cons (i := 2) rfl <| .nil) ?_
  refine wc_conseq (H' := Hp (fun k => k ∈ (memL μ).map (·.1)) w (memL μ) [] (fun _ => True)) (fun u hu => ?_) ?_
  · subst hu; exact Hp.startL h ok.nodup
  refine wc_seq ?_
  refine wc_region ?_
  refine wl_new .none rfl (nf_box rfl rfl) (fun b3 => ?_)
  refine wl_new .none rfl (nf_box rfl rfl) (fun b4 => ?_)
  refine wl_nil ?_
  refine wq_then ?_
  refine wc_region ?_
  refine wl_free .none rfl (yf_move rfl) ?_
  refine wl_free .none rfl (yf_makeFunc rfl rfl) ?_
  refine wl_callM [] (clsL b3 b4 μ) .none rfl (by kernel_rfl) rfl (fun w hm hw => each_any μ ok b3 b4 s hs w hm (List.nodup_append.1 (HpG.nd hw)).1) (fun μ' hμ => ?_)
  refine wl_nil ?_
  refine wq_end0 rfl (fun w hw => ?_)
  exact ⟨μ', hμ, rfl, Hp.drop hw (.cons _ (.cons _ (.refl _))) (.refl _)⟩
end Go.Proofs.YtojofinofpgopaaDoor
/- The memory of package mem: New, Protect; Rights. -/
namespace Go.Proofs.YtojofinofpgopaaDoor
open Go.RowKit
theorem nf_makeSlice {P : Program} {n : Nat} {m : List (Nat × Value)} {ty t e : TypeId} {x : Operand} {k : IntKind} {l : Nat} {z : Value} {size bytes : Nat} {cs : List Value} (hx : ev m x = some (.int k (l : Int))) (ht : P.underlying t = some (.slice e)) (hi : (P.info? e).map (fun i => (i.zero, i.size, i.bytes)) = some (some z, size, bytes)) (hm : madeCells z.cells (l * size) = cs.toArray) (hc : l * size ≤ 16777216) (hb : bytes * l ≤ 281474976710656) (h63 : l ≤ 9223372036854775807) :
    NF P (.makeSlice t x x) ty n m (bk e cs) (fun g => .slice (some ⟨g, 0, none⟩) l l) := fun a w d pos af gd hs => by
  cases hq : P.info? e with
  | none => simp [hq] at hi
  | some i =>
    simp only [hq, Option.map_some, Option.some.injEq, Prod.mk.injEq] at hi
    obtain ⟨h1, h2, h3⟩ := hi
    subst h2; subst h3
    have h4 : ((i.bytes * l : Nat) : Int) ≤ 281474976710656 := by omega
    rw [Int.natCast_mul] at h4
    have := run_makeSlice (P := P) (w := w) t e i z ht hq h1 k k l l (by omega) (Int.le_refl _) (by rw [Int.toNat_natCast]; exact hc) h4 (by omega)
    simp only [Int.toNat_natCast, hm] at this
    simp [execOp, hs.ev hx, this]
theorem yf_maxC {P : Program} {n : Nat} {m : List (Nat × Value)} {ty : TypeId} {H : World → Prop} {x y : Operand} {k : IntKind} {a b c : Int} {ts : Array TypeId} (hx : ev m x = some (.int k a)) (hy : ev m y = some (.int k b)) (hc : (if b > a then b else a) = c) : YF P (.call { callee := .builtin .max, args := #[x, y], argTypes := ts }) ty n m H (.int k c) := hc ▸ yf_max hx hy
theorem yf_minC {P : Program} {n : Nat} {m : List (Nat × Value)} {ty : TypeId} {H : World → Prop} {x y : Operand} {k : IntKind} {a b c : Int} {ts : Array TypeId} (hx : ev m x = some (.int k a)) (hy : ev m y = some (.int k b)) (hc : (if b < a then b else a) = c) : YF P (.call { callee := .builtin .min, args := #[x, y], argTypes := ts }) ty n m H (.int k c) := hc ▸ yf_min hx hy
theorem wd_store {P : Program} {ops : Array Oper} {Q : Exit → Act → World → Prop} {n : Nat} {m : List (Nat × Value)} {ty : TypeId} {J : World → Prop} {G B : Nat → Prop} {w0 : World} {L : List (Nat × Obj)} {R : List Rw} {X : World → Prop} {σ : List Nat} {pos : String} {af : Array Edge} {gd : Option (Nat × Bool)} {x y : Operand} {t T g o : Nat} {cs : List Value} {v : Value} (k : Nat) (hg : Gd ops m gd) (hx : ev m x = some (.pointer (some ⟨g, o, none⟩))) (hy : ev m y = some v) (hk : L[k]? = some (g, bk T cs)) (h1 : v.oneCell' = true) (ho : o < cs.length) (hs' : (P.info? t).map (·.size) = some 1)
    (hJ : ∀ w w', HpG G B w0 L R X w → J w → Keep (fun j => j = g) w w' → J w') (h : WD P ops J Q σ G n m (HpG G B w0 (L.set k (g, bk T (cs.set o v))) R X)) : WDo P ops J Q ⟨none, .store t x y, ty, pos, af, gd⟩ σ G n m (HpG G B w0 L R X) :=
  wd_chain0 (ι := Unit) (val := fun _ => undef) (H' := fun _ => HpG G B w0 (L.set k (g, bk T (cs.set o v))) R X) rfl (fun _ _ e => by cases e) hg (fun _ => HpG.stab)
    (fun _ w _ _ _ _ hs hw hj => (ch_store hs hx hy h1 ho hs' (hw.own _ (List.mem_of_getElem? hk))).mono fun u w' ⟨e1, e2, e3⟩ => ⟨e2.mono fun j _ hjg => by subst hjg; exact hw.inG j (List.mem_append_left _ (List.mem_map.2 ⟨_, List.mem_of_getElem? hk, rfl⟩)), hJ w w' hw hj e2, (), e1, hw.turn hk e2 e3⟩) fun _ => h
def rightsL (n : Int) : Int := if bits .and .i64 n 3 = 0 then bits .and .i64 (n.fdiv (2 ^ (min (2 : Int).toNat IntKind.i64.bits))) 7 else 7
theorem rights_any (n : Int) (w : World) : Calls Tryd.prog 35 #[.int .i64 n] w fun e w' => e = .returned (.int .i64 (rightsL n)) ∧ Ext w w' := by
  refine calls_wc (args := [.int .i64 n]) Tryd.func35 rfl 9 rfl (Nat.le_of_ble_eq_true rfl) ?_
  refine wc_weak (.cons (i := 0) rfl <| .nil) ?_
  refine wc_conseq (H' := Hp (fun _ => False) w [] [] (fun _ => True)) (fun u hu => ?_) ?_
  · subst hu; exact Hp.start0
  refine wc_seq ?_
  refine wc_region ?_
  refine wl_free .none rfl (yf_assign rfl) ?_
  refine wl_nil ?_
  refine wq_then ?_
  refine wc_seq ?_
  refine wc_seq ?_
  refine wc_region ?_
  refine wl_free .none rfl (yf_move rfl) ?_
  refine wl_free .none rfl (yf_and rfl rfl rfl) ?_
  refine wl_free .none rfl (yf_neq rfl rfl) ?_
  refine wl_nil ?_
  refine wq_then ?_
  refine wc_cond rfl (fun hc => ?_) (fun hc => ?_)
  · replace hc := bne_yes hc
    refine wc_seq ?_
    refine wc_weak (.cons (i := 0) rfl <| .cons (i := 2) rfl <| .cons (i := 5) rfl <| .nil) ?_
    refine wc_region ?_
    refine wl_free .none rfl (yf_assign rfl) ?_
    refine wl_nil ?_
    refine wq_then ?_
    refine wc_ret ?_
    refine wq_then_ret ?_
    refine wq_ret1 rfl rfl (fun w hw => ?_)
    exact ⟨by rw [rightsL, if_neg hc], (HpG.keep hw).ext⟩
  · replace hc := bne_no hc
    refine wc_skip ?_
    refine wq_then ?_
    refine wc_seq ?_
    refine wc_weak (.cons (i := 0) rfl <| .cons (i := 2) rfl <| .cons (i := 5) rfl <| .nil) ?_
    refine wc_region ?_
    refine wl_free .none rfl (yf_move rfl) ?_
    (refine wl_free .none rfl (yf_shr rfl rfl ?_ rfl) ?_; (· first | decide | omega); skip)
    refine wl_free .none rfl (yf_and rfl rfl rfl) ?_
    refine wl_free .none rfl (yf_assign rfl) ?_
    refine wl_nil ?_
    refine wq_then ?_
    refine wc_ret ?_
    refine wq_ret1 rfl rfl (fun w hw => ?_)
    exact ⟨by rw [rightsL, if_pos (by simpa using hc)], (HpG.keep hw).ext⟩
theorem and7 (a : Int) : 0 ≤ bits .and .i64 a 7 ∧ bits .and .i64 a 7 ≤ 7 := by
  have h : (BitVec.ofInt 64 a &&& BitVec.ofInt 64 7).toNat ≤ 7 := by
    rw [BitVec.toNat_and]; exact Nat.and_le_right
  have e : bits .and .i64 a 7 = (((BitVec.ofInt 64 a &&& BitVec.ofInt 64 7).toNat : Nat) : Int) := by
    show IntKind.i64.wrap ((BitVec.ofInt 64 a &&& BitVec.ofInt 64 7).toNat : Int) = _
    exact i64_in _ (by omega) (by omega)
  rw [e]; omega
/-- New slots: the first i are laid. -/
def nsC (Z i : Nat) : List Value := (List.replicate i [ptrV Z, ptrV Z, .bool false, .bool false, ptrV Z, ptrV Z, .int .i64 0]).flatten ++ (List.replicate (3 - i) [.pointer none, .pointer none, .bool false, .bool false, .pointer none, .pointer none, .int .i64 0]).flatten
theorem nsC_len (Z : Nat) {i : Nat} (h : i ≤ 3) : (nsC Z i).length = 21 := by
  rcases (show i = 0 ∨ i = 1 ∨ i = 2 ∨ i = 3 by omega) with rfl | rfl | rfl | rfl <;> rfl
theorem nsC_step (Z : Nat) {i : Nat} (h : i < 3) : (((nsC Z i).take (0 + i * 7) ++ [ptrV Z, .pointer none, .bool false, .bool false, ptrV Z, .pointer none, .int .i64 0] ++ (nsC Z i).drop (0 + i * 7 + 7)).set (0 + i * 7 + 1) (ptrV Z)).set (0 + i * 7 + 5) (ptrV Z) = nsC Z (i + 1) := by
  rcases (show i = 0 ∨ i = 1 ∨ i = 2 by omega) with rfl | rfl | rfl <;> rfl
abbrev pg0 : Pg := ⟨none, z256, 0⟩
abbrev mm0 (M S Z : Nat) : Mm := ⟨M, S, Z, [pg0, pg0, pg0]⟩
theorem mm0_wf (M S Z : Nat) : (mm0 M S Z).Wf := ⟨rfl, fun p hp => by
  have : p = pg0 := by simpa using hp
  subst this
  exact ⟨List.length_replicate, fun v hv => by rw [List.eq_of_mem_replicate hv]; exact ⟨by decide, by decide⟩, fun _ => rfl⟩⟩
set_option maxRecDepth 100000 in
theorem new_any (w_0 : World) : Calls Tryd.prog 31 #[.int .i64 3, .bool false] w_0 fun e w' => ∃ μ : Mm, (μ.Ok ∧ μ.bytes = List.replicate 768 0 ∧ μ.p.map (·.r) = [0, 0, 0]) ∧ e = .returned (ptrV μ.M) ∧ Hp (fun _ => False) w_0 (memL μ) [] (fun _ => True) w' := by
  refine calls_wc (args := [.int .i64 3, .bool false]) Tryd.func31 rfl 54 rfl (Nat.le_of_ble_eq_true rfl) ?_
  refine wc_weak (.cons (i := 0) rfl <| .cons (i := 1) rfl <| .nil) ?_
  refine wc_conseq (H' := Hp (fun _ => False) w_0 [] [] (fun _ => True)) (fun u hu => ?_) ?_
  · subst hu; exact Hp.start0
  refine wc_seq ?_
  refine wc_region ?_
  refine wl_free .none rfl (yf_assign rfl) ?_
  refine wl_nil ?_
  refine wq_then ?_
  refine wc_seq ?_
  refine wc_region ?_
  refine wl_free .none rfl (yf_move rfl) ?_
  refine wl_free .none rfl (yf_maxC (c := 3) rfl rfl (by decide)) ?_
  refine wl_free .none rfl (yf_minC (c := ((3 : Nat) : Int)) rfl rfl (by decide)) ?_
  refine wl_new .none rfl (nf_makeSlice (l := 3) (z := .agg #[.pointer none, .pointer none, .bool false, .bool false, .pointer none, .pointer none, .int .i64 0]) (size := 7) (bytes := 48) (cs := nsC 0 0) rfl Tryd.underlying109 (by kernel_rfl) (by kernel_rfl) (by decide) (by decide) (by decide)) (fun b11 => ?_)
  refine wl_free .none rfl (yf_move rfl) ?_
  refine wl_free .none rfl (yf_buildS [.slice none 0 0, .bool false] [(0, 1), (1, 1)] rfl (by kernel_rfl) (by kernel_rfl) rfl) ?_
  refine wl_new .none rfl (nf_box rfl rfl) (fun b14 => ?_)
  refine wl_free .none rfl (yf_assign rfl) ?_
  refine wl_nil ?_
  refine wq_then ?_
  refine wc_seq ?_
  refine wc_weak (.cons (i := 0) rfl <| .cons (i := 1) rfl <| .cons (i := 4) rfl <| .cons (i := 5) rfl <| .nil) ?_
  refine wc_region ?_
  refine wl_free .none rfl (yf_build (vs := []) (cells := (u8s z256).toArray) rfl (by kernel_rfl)) ?_
  refine wl_new .none rfl (nf_box rfl rfl) (fun b16 => ?_)
  refine wl_free .none rfl (yf_assign rfl) ?_
  refine wl_nil ?_
  refine wq_then ?_
  refine wc_seq ?_
  refine wc_seq ?_
  refine wc_weak (.cons (i := 0) rfl <| .cons (i := 1) rfl <| .cons (i := 4) rfl <| .cons (i := 5) rfl <| .cons (i := 6) rfl <| .nil) ?_
  refine wc_region ?_
  refine wl_free .none rfl (yf_move rfl) ?_
  refine wl_free .none rfl (yf_nilCheck rfl) ?_
  refine wl_free .none rfl (yf_fieldAddr (off := 0) (sz := 0) rfl Tryd.underlying111 (by kernel_rfl) rfl) ?_
  refine wl_free .none rfl (yf_loadL 1 rfl rfl rfl Tryd.underlying109 rfl) ?_
  refine wl_free .none rfl (yf_lenS rfl Tryd.underlying109) ?_
  refine wl_free .none rfl (yf_move rfl) ?_
  refine wl_nil ?_
  refine wq_then ?_
  refine wc_block ?_
  refine wc_loop (ι := {i : Nat // i ≤ 3}) (fun i => [(1, .bool false), (5, ptrV b14), (6, ptrV b16), (21, .int .i64 ((3 : Nat) : Int)), (22, .int .i64 i.1)]) (fun i => Hp (fun _ => False) w_0 [(b16, bk 114 (u8s z256)), (b14, bk 111 [.slice (some ⟨b11, 0, none⟩) 3 3, .bool false]), (b11, bk 116 (nsC b16 i.1))] [] (fun _ => True)) (fun i => 3 - i.1) ⟨0, by omega⟩ ?_ ?_ (fun i => ?_)
  · exact .cons rfl <| .cons rfl <| .cons rfl <| .cons rfl <| .cons rfl <| .nil
  · exact fun w h => h
  obtain ⟨i, hi⟩ := i
  dsimp only
  refine wc_seq ?_
  refine wc_region ?_
  refine wl_free .none rfl (yf_lss rfl rfl) ?_
  refine wl_nil ?_
  refine wq_then ?_
  refine wc_seq ?_
  refine wc_cond rfl (fun hc => ?_) (fun hc => ?_)
  · replace hc := of_decide_eq_true hc
    refine wc_skip ?_
    refine wq_then ?_
    refine wc_seq ?_
    refine wc_block ?_
    refine wc_seq ?_
    refine wc_region ?_
    refine wl_free .none rfl (yf_move rfl) ?_
    refine wl_free .none rfl (yf_assign rfl) ?_
    refine wl_nil ?_
    refine wq_then ?_
    refine wc_seq ?_
    refine wc_weak (.cons (i := 1) rfl <| .cons (i := 5) rfl <| .cons (i := 6) rfl <| .cons (i := 7) rfl <| .cons (i := 21) rfl <| .cons (i := 22) rfl <| .cons (i := 23) rfl <| .nil) ?_
    refine wc_region ?_
    refine wl_free .none rfl (yf_move rfl) ?_
    refine wl_free .none rfl (yf_nilCheck rfl) ?_
    refine wl_free .none rfl (yf_fieldAddr (off := 0) (sz := 0) rfl Tryd.underlying111 (by kernel_rfl) rfl) ?_
    refine wl_free .none rfl (yf_loadL 1 rfl rfl rfl Tryd.underlying109 rfl) ?_
    refine wl_free .none rfl (yf_move rfl) ?_
    refine wl_free .none rfl (yf_move rfl) ?_
    refine wl_free .none rfl (yf_move rfl) ?_
    refine wl_free .none rfl (yf_buildS [.pointer none, .pointer none, .bool false, .bool false, .pointer none, .pointer none, .int .i64 0] [(0, 1), (1, 1), (2, 1), (3, 1), (4, 1), (5, 1), (6, 1)] rfl (by kernel_rfl) (by kernel_rfl) rfl) ?_
    (refine wl_free .none rfl (yf_indexAddrS (es := 7) rfl rfl Tryd.underlying109 (by kernel_rfl) rfl ?_ rfl) ?_; (· first | decide | omega | (simp; omega)); skip)
    refine wl_chain0 .none (cf_storeRow (seg := [ptrV b16, .pointer none, .bool false, .bool false, ptrV b16, .pointer none, .int .i64 0]) 2 rfl rfl rfl rfl (ble_of (by rw [nsC_len _ hi]; show 0 + i * 7 + 7 ≤ 21; omega)) (by kernel_rfl)) (fun _ => ?_)
    refine wl_nil ?_
    refine wq_then ?_
    refine wc_seq ?_
    refine wc_weak (.cons (i := 1) rfl <| .cons (i := 5) rfl <| .cons (i := 6) rfl <| .cons (i := 7) rfl <| .cons (i := 21) rfl <| .cons (i := 22) rfl <| .cons (i := 23) rfl <| .nil) ?_
    refine wc_region ?_
    refine wl_free .none rfl (yf_move rfl) ?_
    refine wl_free .none rfl (yf_not rfl) ?_
    refine wl_nil ?_
    refine wq_then ?_
    refine wc_cond rfl (fun hc => ?_) (fun hc => ?_)
    · skip
      refine wc_weak (.cons (i := 1) rfl <| .cons (i := 5) rfl <| .cons (i := 6) rfl <| .cons (i := 7) rfl <| .cons (i := 21) rfl <| .cons (i := 22) rfl <| .cons (i := 23) rfl <| .cons (i := 35) rfl <| .nil) ?_
      refine wc_drawN [0, 1, 2, 3, 4, 5, 6, 7, 8, 9, 10, 11, 12, 13, 14, 15, 16, 17] (Blk b14 (bk 111 [.slice (some ⟨b11, 0, none⟩) 3 3, .bool false])) (by kernel_rfl) (by kernel_rfl) Blk.stab (fun w h => HpG.blk h (k := 1) rfl) (fun n0 hn0 => ?_)
      refine wd_at rfl ?_
      (refine wd_free ?_ .none rfl (yf_move rfl) ?_; (· rfl);  skip)
      refine wd_at rfl ?_
      (refine wd_free ?_ .none rfl (yf_nilCheck rfl) ?_; (· rfl);  skip)
      refine wd_at rfl ?_
      (refine wd_free ?_ .none rfl (yf_fieldAddr (off := 0) (sz := 0) rfl Tryd.underlying111 (by kernel_rfl) rfl) ?_; (· rfl);  skip)
      refine wd_at rfl ?_
      (refine wd_free ?_ .none rfl (yf_loadJ rfl rfl Tryd.underlying109 rfl) ?_; (· rfl);  skip)
      refine wd_at rfl ?_
      (refine wd_free ?_ .none rfl (yf_move rfl) ?_; (· rfl);  skip)
      refine wd_at rfl ?_
      (refine wd_free ?_ .none rfl (yf_move rfl) ?_; (· rfl);  skip)
      refine wd_at rfl ?_
      (refine wd_free ?_ .none rfl (yf_nilCheck rfl) ?_; (· rfl);  skip)
      refine wd_at rfl ?_
      (refine wd_free ?_ .none rfl (yf_fieldAddr (off := 0) (sz := 0) rfl Tryd.underlying111 (by kernel_rfl) rfl) ?_; (· rfl);  skip)
      refine wd_at rfl ?_
      (refine wd_free ?_ .none rfl (yf_loadJ rfl rfl Tryd.underlying109 rfl) ?_; (· rfl);  skip)
      refine wd_at rfl ?_
      (refine wd_free ?_ .none rfl (yf_move rfl) ?_; (· rfl);  skip)
      refine wd_at rfl ?_
      (refine wd_free ?_ .none rfl (yf_move rfl) ?_; (· rfl);  skip)
      refine wd_at rfl ?_
      (refine wd_free ?_ .none rfl (yf_move rfl) ?_; (· rfl);  skip)
      refine wd_at rfl ?_
      (refine wd_free ?_ .none rfl (yf_indexAddrS (es := 7) rfl rfl Tryd.underlying109 (by kernel_rfl) rfl ?_ rfl) ?_; (· rfl); (· first | decide | omega | (simp; omega)); skip)
      refine wd_at rfl ?_
      (refine wd_free ?_ .none rfl (yf_fieldAddr (off := 1) (sz := 0) rfl Tryd.underlying116 (by kernel_rfl) rfl) ?_; (· rfl);  skip)
      refine wd_at rfl ?_
      refine wd_store 2 .none rfl rfl rfl rfl (by simp only [List.length_append, List.length_take, List.length_drop, nsC_len _ hi, List.length_cons, List.length_nil]; omega) (by kernel_rfl) (fun w w' hw hj hk => hj.keep hk (HpG.ne hw (i := 1) (j := 2) rfl rfl rfl)) ?_
      refine wd_at rfl ?_
      (refine wd_free ?_ .none rfl (yf_indexAddrS (es := 7) rfl rfl Tryd.underlying109 (by kernel_rfl) rfl ?_ rfl) ?_; (· rfl); (· first | decide | omega | (simp; omega)); skip)
      refine wd_at rfl ?_
      (refine wd_free ?_ .none rfl (yf_fieldAddr (off := 5) (sz := 0) rfl Tryd.underlying116 (by kernel_rfl) rfl) ?_; (· rfl);  skip)
      refine wd_at rfl ?_
      refine wd_store 2 .none rfl rfl rfl rfl (by simp only [List.length_set, List.length_append, List.length_take, List.length_drop, nsC_len _ hi, List.length_cons, List.length_nil]; omega) (by kernel_rfl) (fun w w' hw hj hk => hj.keep hk (HpG.ne hw (i := 1) (j := 2) rfl rfl rfl)) ?_
      refine wd_endH ?_
      refine wq_block ?_
      refine wq_then ?_
      refine wc_weak (.cons (i := 1) rfl <| .cons (i := 5) rfl <| .cons (i := 6) rfl <| .cons (i := 7) rfl <| .cons (i := 21) rfl <| .cons (i := 22) rfl <| .cons (i := 23) rfl <| .cons (i := 35) rfl <| .nil) ?_
      refine wc_region ?_
      (refine wl_free .none rfl (yf_add rfl rfl (i64_in _ ?_ ?_)) ?_; (· omega); (· omega); skip)
      refine wl_free .none rfl (yf_move rfl) ?_
      refine wl_nil ?_
      refine wq_round (ι := {i : Nat // i ≤ 3}) ⟨i + 1, by omega⟩ (by show 3 - (i + 1) < 3 - i; omega) (.cons rfl <| .cons rfl <| .cons rfl <| .cons rfl <| .consE rfl rfl <| .nil) (fun u h => ?_)
      dsimp only
      rw [← nsC_step b16 (by omega : i < 3)]
      exact h
    · skip
      exact absurd hc (by decide)
  · replace hc := of_decide_eq_false hc
    refine wc_exit ?_
    refine wq_then_exit ?_
    refine wq_then_exit ?_
    refine wq_here ?_
    refine wq_then ?_
    refine wc_seq ?_
    refine wc_region ?_
    refine wl_free .none rfl (yf_move rfl) ?_
    refine wl_free .none rfl (yf_assign rfl) ?_
    refine wl_nil ?_
    refine wq_then ?_
    refine wc_ret ?_
    refine wq_ret1 rfl rfl (fun w hw => ?_)
    have e : i = 3 := by omega
    subst e
    have h2 : Hp (fun _ => False) w_0 (memL (mm0 b14 b11 b16)) [] (fun _ => True) w := by
      refine Hp.sub hw (fun q hq => ?_) ?_
      · have hq' : q = (b14, bk 111 [.slice (some ⟨b11, 0, none⟩) 3 3, .bool false]) ∨ q = (b11, bk 116 (nsC b16 3)) ∨ q = (b16, bk 114 (u8s z256)) := by
          have : memL (mm0 b14 b11 b16) = [(b14, bk 111 [.slice (some ⟨b11, 0, none⟩) 3 3, .bool false]), (b11, bk 116 (nsC b16 3)), (b16, bk 114 (u8s z256))] := rfl
          rw [this] at hq
          simpa using hq
        rcases hq' with rfl | rfl | rfl <;> simp
      · have hnd := (List.nodup_append.1 (HpG.nd hw)).1
        have e2 : (memL (mm0 b14 b11 b16)).map (·.1) = [b14, b11, b16] := rfl
        rw [e2]
        have e3 : [b16, b14, b11].Nodup := hnd
        simp at e3 ⊢
        omega
    exact ⟨mm0 b14 b11 b16, ⟨(mm0_wf ..).ok h2, rfl, rfl⟩, rfl, h2⟩
end Go.Proofs.YtojofinofpgopaaDoor
/- The memory of package mem: Protect. -/
namespace Go.Proofs.YtojofinofpgopaaDoor
open Go.RowKit
theorem map_set' {α β : Type} {f : α → β} {l : List α} {i : Nat} {x : α} : (l.set i x).map f = (l.map f).set i (f x) := List.map_set
set_option maxRecDepth 100000 in
theorem protect_any (μ : Mm) (ok : μ.Ok) (n : Nat) (hn : n < 3) (r : Int) (w : World) (h : OnL (memL μ) w) : Calls Tryd.prog 34 #[ptrV μ.M, .int .i64 n, .int .i64 r] w fun e w' =>
    ∃ μ' : Mm, (μ'.Ok ∧ μ'.M = μ.M ∧ μ'.bytes = μ.bytes ∧ μ'.p.map (·.r) = (μ.p.map (·.r)).set n (bits .and .i64 r 7)) ∧ e = .returned (.tuple #[]) ∧ Hp (fun k => k ∈ (memL μ).map (·.1)) w (memL μ') [] (fun _ => True) w' := by
  obtain ⟨p, hp, hpm⟩ := ok.page hn
  have hpc := ok.c p hpm
  refine calls_wc (args := [ptrV μ.M, .int .i64 n, .int .i64 r]) Tryd.func34 rfl 23 rfl (Nat.le_of_ble_eq_true rfl) ?_
  refine wc_weak (.cons (i := 0) rfl <| .cons (i := 1) rfl <| .cons (i := 2) rfl <| .nil) ?_
  refine wc_conseq (H' := Hp (fun k => k ∈ (memL μ).map (·.1)) w (memL μ) [] (fun _ => True)) (fun u hu => ?_) ?_
  · subst hu; exact Hp.startL h ok.nodup
  refine wc_seq ?_
  refine wc_region ?_
  refine wl_free .none rfl (yf_move rfl) ?_
  refine wl_free .none rfl (yf_geq rfl rfl) ?_
  refine wl_free .none rfl (yf_move rfl) ?_
  refine wl_split 8 rfl (fun hb => ?_) (fun hb => ?_)
  · replace hb := of_decide_eq_true hb
    refine wl_free (.some rfl rfl) rfl (yf_move rfl) ?_
    refine wl_free (.some rfl rfl) rfl (yf_move rfl) ?_
    refine wl_pure (.some rfl rfl) rfl (by kernel_rfl) rfl (fun w hw => pages_any μ w (HpG.own hw)) ?_
    refine wl_free (.some rfl rfl) rfl (yf_lss rfl rfl) ?_
    refine wl_free .none rfl (yf_pickT rfl rfl) ?_
    refine wl_nil ?_
    refine wq_then ?_
    refine wc_cond rfl (fun hc => ?_) (fun hc => ?_)
    · replace hc := of_decide_eq_true hc
      refine wc_weak (.cons (i := 0) rfl <| .cons (i := 1) rfl <| .cons (i := 2) rfl <| .cons (i := 13) rfl <| .nil) ?_
      refine wc_region ?_
      refine wl_free .none rfl (yf_move rfl) ?_
      refine wl_free .none rfl (yf_nilCheck rfl) ?_
      refine wl_free .none rfl (yf_fieldAddr (off := 0) (sz := 0) rfl Tryd.underlying111 (by kernel_rfl) rfl) ?_
      refine wl_free .none rfl (yf_loadG rfl (fun w h => OnL.M (HpG.own h)) rfl Tryd.underlying109 rfl) ?_
      refine wl_free .none rfl (yf_move rfl) ?_
      refine wl_free .none rfl (yf_move rfl) ?_
      refine wl_free .none rfl (yf_and rfl rfl rfl) ?_
      (refine wl_free .none rfl (yf_indexAddrS (es := 7) rfl rfl Tryd.underlying109 (by kernel_rfl) rfl ?_ rfl) ?_; (· first | decide | omega | (simp; omega)); skip)
      refine wl_free .none rfl (yf_fieldAddr (off := 6) (sz := 0) rfl Tryd.underlying116 (by kernel_rfl) rfl) ?_
      refine wl_chain0 .none (cf_store 1 rfl rfl rfl rfl (blt_of (by rw [slots_len ok.toWf]; omega)) (by kernel_rfl)) (fun _ => ?_)
      refine wl_nil ?_
      refine wq_end0 rfl (fun w hw => ?_)
      have ok2 : (μ.put n { p with r := bits .and .i64 r 7 }).Ok := ok.put hp hpc.1 hpc.2.1 hpc.2.2 (.inl rfl)
      have e1 : (μ.p.flatMap (slotC μ.Z)).set (0 + n * 7 + 6) (.int .i64 (bits .and .i64 r 7)) = (μ.p.set n { p with r := bits .and .i64 r 7 }).flatMap (slotC μ.Z) := by
        rw [Nat.zero_add]
        exact flat_set1 (f := slotC μ.Z) (fun _ _ => rfl) hp (by decide) rfl
      have e2 : (μ.p.set n { p with r := bits .and .i64 r 7 }).flatMap ownL = μ.p.flatMap ownL := by
        rw [List.flatMap_def, List.flatMap_def, map_same (f := ownL) (x' := { p with r := bits .and .i64 r 7 }) hp rfl]
      have e3 : memL (μ.put n { p with r := bits .and .i64 r 7 }) = (memL μ).set 1 (μ.S, bk 116 ((μ.p.flatMap (slotC μ.Z)).set (0 + n * 7 + 6) (.int .i64 (bits .and .i64 r 7)))) := by
        rw [e1]
        show (μ.M, _) :: (μ.S, _) :: (μ.Z, _) :: (μ.p.set n { p with r := bits .and .i64 r 7 }).flatMap ownL = _
        rw [e2]; rfl
      refine ⟨μ.put n { p with r := bits .and .i64 r 7 }, ⟨ok2, rfl, ?_, map_set'⟩, rfl, by rw [e3]; exact hw⟩
      show (μ.p.set n _).flatMap (·.c) = μ.p.flatMap (·.c)
      rw [List.flatMap_def, List.flatMap_def, map_same (f := fun x : Pg => x.c) (x' := { p with r := bits .and .i64 r 7 }) hp rfl]
    · replace hc := of_decide_eq_false hc
      omega
  · replace hb := of_decide_eq_false hb
    omega
end Go.Proofs.YtojofinofpgopaaDoor
/- The bytes that both memories are filled with. -/
namespace Go.Proofs.YtojofinofpgopaaDoor
open Go.RowKit
theorem yf_convBytes {P : Program} {n : Nat} {m : List (Nat × Value)} {ty : TypeId} {H : World → Prop} {x : Operand} {src dst e : TypeId} {g o len cap : Nat} (xs : List Int) (hx : ev m x = some (.slice (some ⟨g, o, none⟩) len cap)) (hs' : P.underlying src = some (.slice e)) (he : P.underlying e = some (.int .u8)) (hd : P.underlying dst = some .string) (hl : xs.length = len) (hc : ∀ w, H w → ∀ i, i < len → w.cell? ⟨g, o + i, none⟩ = some (.int .u8 (xs.getD i 0))) : YF P (.convert src dst x) ty n m H (.string (strOfNums xs)) := fun _ w d pos af gd hs hw => by
  have := run_convert_bytes_arg (P := P) w src e hs' he g o len cap xs hl (hc w hw) dst hd
  simp [Yl, execOp, hs.ev hx, this]
def seedL (x : Int) : Nat → Int
  | 0 => x
  | i + 1 => IntKind.u32.wrap (IntKind.u32.wrap (seedL x i * 1664525) + 1013904223)
def fillB (x : Int) (i : Nat) : Int := IntKind.u8.wrap ((seedL x (i + 1)).fdiv (2 ^ (min (24 : Int).toNat IntKind.u32.bits)))
def fillC (x : Int) (i : Nat) : List Int := (List.range i).map (fillB x) ++ List.replicate (768 - i) 0
def fillS (x : Int) : ByteArray := strOfNums (fillC x 768)
theorem fillC_len (x : Int) {i : Nat} (h : i ≤ 768) : (fillC x i).length = 768 := by simp [fillC]; omega
theorem fillC_step (x : Int) {i o : Nat} (h : i < 768) (ho : o = i) : (u8s (fillC x i)).set o (.int .u8 (fillB x i)) = u8s (fillC x (i + 1)) := by
  subst ho
  have e : (fillC x o).set o (fillB x o) = fillC x (o + 1) := by
    unfold fillC
    rw [List.set_append_right _ _ (by simp), show 768 - o = (768 - (o + 1)) + 1 by omega, List.replicate_succ, List.range_succ, List.map_append]
    simp
  rw [← e, u8s, u8s, List.map_set]
theorem strOfNums_size (xs : List Int) : (strOfNums xs).size = xs.length := by
  unfold strOfNums
  show (List.toArray _).size = _
  simp
theorem fillS_size (x : Int) : (fillS x).size = 768 := by rw [fillS, strOfNums_size, fillC_len x (Nat.le_refl _)]
theorem made_one (v : Value) (n : Nat) : madeCells #[v] n = (List.replicate n v).toArray := by
  apply Array.ext
  · simp [madeCells]
  · intro i h1 h2
    simp [madeCells, Nat.mod_one]
theorem made_u8 (n : Nat) : madeCells (Value.int .u8 0).cells (n * 1) = (u8s (List.replicate n 0)).toArray := by
  show madeCells #[Value.int .u8 0] (n * 1) = _
  rw [made_one, Nat.mul_one, u8s, List.map_replicate]
theorem fillC_zero (x : Int) : fillC x 0 = List.replicate 768 0 := by
  unfold fillC
  rw [List.range_zero, List.map_nil, List.nil_append, Nat.sub_zero]
set_option maxRecDepth 100000 in
theorem fill_any (x : Int) (w_0 : World) : Calls Tryd.prog 33 #[.int .u32 x, .int .i64 768] w_0 fun e w' => e = .returned (.string (fillS x)) ∧ Ext w_0 w' := by
  refine calls_wc (args := [.int .u32 x, .int .i64 768]) Tryd.func33 rfl 27 rfl (Nat.le_of_ble_eq_true rfl) ?_
  refine wc_weak (.cons (i := 0) rfl <| .cons (i := 1) rfl <| .nil) ?_
  refine wc_conseq (H' := Hp (fun _ => False) w_0 [] [] (fun _ => True)) (fun u hu => ?_) ?_
  · subst hu; exact Hp.start0
  refine wc_seq ?_
  refine wc_region ?_
  refine wl_free .none rfl (yf_assign rfl) ?_
  refine wl_nil ?_
  refine wq_then ?_
  refine wc_seq ?_
  refine wc_region ?_
  refine wl_free .none rfl (yf_move rfl) ?_
  refine wl_free .none rfl (yf_maxC (c := ((768 : Nat) : Int)) rfl rfl (by decide)) ?_
  refine wl_new .none rfl (nf_makeSlice (l := 768) (z := .int .u8 0) (size := 1) (bytes := 1) (cs := u8s (List.replicate 768 0)) rfl Tryd.underlying56 (by kernel_rfl) (made_u8 768) (by decide) (by decide) (by decide)) (fun b9 => ?_)
  refine wl_free .none rfl (yf_assign rfl) ?_
  refine wl_nil ?_
  refine wq_then ?_
  refine wc_seq ?_
  refine wc_seq ?_
  refine wc_weak (.cons (i := 0) rfl <| .cons (i := 1) rfl <| .cons (i := 4) rfl <| .cons (i := 5) rfl <| .nil) ?_
  refine wc_region ?_
  refine wl_free .none rfl (yf_assign rfl) ?_
  refine wl_nil ?_
  refine wq_then ?_
  refine wc_block ?_
  refine wc_loop (ι := {i : Nat // i ≤ 768}) (fun i => [(0, .int .u32 (seedL x i.1)), (5, .slice (some ⟨b9, 0, none⟩) 768 768), (6, .int .i64 i.1)]) (fun i => Hp (fun _ => False) w_0 [(b9, bk 5 (u8s (fillC x i.1)))] [] (fun _ => True)) (fun i => 768 - i.1) ⟨0, by omega⟩ ?_ ?_ (fun i => ?_)
  · exact .cons rfl <| .cons rfl <| .cons rfl <| .nil
  · intro w h
    rw [fillC_zero]
    exact h
  obtain ⟨i, hi⟩ := i
  dsimp only
  refine wc_seq ?_
  refine wc_seq ?_
  refine wc_region ?_
  refine wl_free .none rfl (yf_move rfl) ?_
  refine wl_free .none rfl (yf_move rfl) ?_
  refine wl_free .none rfl (yf_lenS rfl Tryd.underlying56) ?_
  refine wl_free .none rfl (yf_lss rfl rfl) ?_
  refine wl_nil ?_
  refine wq_then ?_
  refine wc_cond rfl (fun hc => ?_) (fun hc => ?_)
  · replace hc := of_decide_eq_true hc
    refine wc_skip ?_
    refine wq_then ?_
    refine wc_seq ?_
    refine wc_block ?_
    refine wc_seq ?_
    refine wc_weak (.cons (i := 0) rfl <| .cons (i := 5) rfl <| .cons (i := 6) rfl <| .cons (i := 13) rfl <| .nil) ?_
    refine wc_region ?_
    refine wl_free .none rfl (yf_move rfl) ?_
    refine wl_free .none rfl (yf_mul rfl rfl rfl) ?_
    refine wl_free .none rfl (yf_add rfl rfl rfl) ?_
    refine wl_free .none rfl (yf_assign rfl) ?_
    refine wl_nil ?_
    refine wq_then ?_
    refine wc_weak (.cons (i := 0) rfl <| .cons (i := 5) rfl <| .cons (i := 6) rfl <| .cons (i := 13) rfl <| .nil) ?_
    refine wc_region ?_
    refine wl_free .none rfl (yf_move rfl) ?_
    refine wl_free .none rfl (yf_move rfl) ?_
    refine wl_free .none rfl (yf_move rfl) ?_
    (refine wl_free .none rfl (yf_shr rfl rfl ?_ rfl) ?_; (· first | decide | omega); skip)
    refine wl_free .none rfl (yf_conv rfl (by kernel_rfl) Tryd.underlying5 rfl) ?_
    (refine wl_free .none rfl (yf_indexAddrS (es := 1) rfl rfl Tryd.underlying56 (by kernel_rfl) rfl ?_ rfl) ?_; (· first | decide | omega | (simp; omega)); skip)
    refine wl_chain0 .none (cf_store 0 rfl rfl rfl rfl (blt_of (by rw [u8s_len, fillC_len x hi]; omega)) (by kernel_rfl)) (fun _ => ?_)
    refine wl_nil ?_
    refine wq_block ?_
    refine wq_then ?_
    refine wc_weak (.cons (i := 0) rfl <| .cons (i := 5) rfl <| .cons (i := 6) rfl <| .cons (i := 13) rfl <| .nil) ?_
    refine wc_region ?_
    refine wl_free .none rfl (yf_move rfl) ?_
    (refine wl_free .none rfl (yf_add rfl rfl (i64_in _ ?_ ?_)) ?_; (· omega); (· omega); skip)
    refine wl_free .none rfl (yf_assign rfl) ?_
    refine wl_nil ?_
    refine wq_round (ι := {i : Nat // i ≤ 768}) ⟨i + 1, by omega⟩ (by show 768 - (i + 1) < 768 - i; omega) (.cons rfl <| .cons rfl <| .consE rfl rfl <| .nil) (fun u h => ?_)
    dsimp only
    rw [← fillC_step x (o := 0 + i * 1) (by omega) (by omega)]
    exact h
  · replace hc := of_decide_eq_false hc
    refine wc_exit ?_
    refine wq_then_exit ?_
    refine wq_then_exit ?_
    refine wq_here ?_
    refine wq_then ?_
    refine wc_seq ?_
    refine wc_weak (.cons (i := 0) rfl <| .cons (i := 5) rfl <| .cons (i := 6) rfl <| .cons (i := 13) rfl <| .nil) ?_
    have e : i = 768 := by omega
    subst e
    refine wc_region ?_
    refine wl_free .none rfl (yf_move rfl) ?_
    refine wl_free .none rfl (yf_convBytes (fillC x 768) rfl Tryd.underlying56 Tryd.underlying5 Tryd.underlying9 (fillC_len x (Nat.le_refl _)) (fun w h i hi => by
      have := HpG.blk h (k := 0) rfl
      rw [Nat.zero_add, cell_of_row w b9 i _ _ _ this, List.getElem?_toArray]
      exact u8s_at (by rw [fillC_len x (Nat.le_refl _)]; exact hi) rfl)) ?_
    refine wl_free .none rfl (yf_assign rfl) ?_
    refine wl_nil ?_
    refine wq_then ?_
    refine wc_ret ?_
    refine wq_ret1 rfl rfl (fun w hw => ?_)
    exact ⟨rfl, (HpG.keep hw).ext⟩
end Go.Proofs.YtojofinofpgopaaDoor
/- Setup.memory: the memory that a setup describes. -/
namespace Go.Proofs.YtojofinofpgopaaDoor
open Go.RowKit
theorem Hp.nob {w0 w : World} {L : List (Nat × Obj)} {R : List Rw} {X : World → Prop} (h : Hp (fun _ => False) w0 L R X w) : Hp (fun k => k ∈ ([] : List (Nat × Obj)).map (·.1)) w0 L R X w := by
  have e : (fun k : Nat => k ∈ ([] : List (Nat × Obj)).map (·.1)) = fun _ => False := by funext k; simp
  rw [e]; exact h
structure Su where
  r0 : Int
  r1 : Int
  r2 : Int
  fill : Int
  vA : Option Addr
  vc : Nat
  v : List Int
abbrev suC (x : Su) : List Value := [.int .i64 x.r0, .int .i64 x.r1, .int .i64 x.r2, .int .u32 x.fill, .slice x.vA x.v.length x.vc]
def protR (r : Int) : Int := bits .and .i64 (rightsL r) 7
def Su.rs (x : Su) : List Int := [x.r0, x.r1, x.r2]
def rlL (x : Su) (i : Nat) : List Int := [if 0 < i then protR x.r0 else 0, if 1 < i then protR x.r1 else 0, if 2 < i then protR x.r2 else 0]
theorem rlL_step (x : Su) {i : Nat} (h : i < 3) : (rlL x i).set i (protR (x.rs.getD i 0)) = rlL x (i + 1) := by
  rcases (show i = 0 ∨ i = 1 ∨ i = 2 by omega) with rfl | rfl | rfl <;> rfl
theorem su_at (x : Su) {i o : Nat} (h : i < 3) (ho : o = i) : (suC x)[o]? = some (.int .i64 (x.rs.getD i 0)) := by
  subst ho
  rcases (show o = 0 ∨ o = 1 ∨ o = 2 by omega) with rfl | rfl | rfl <;> rfl
def suBytes (x : Su) : List Int := pokeL (List.replicate 768 0) (fillS x.fill) 768
structure SuI (x : Su) (M : Nat) (j : Mm × Nat) : Prop where
  ok : j.1.Ok
  M : j.1.M = M
  by_ : j.1.bytes = suBytes x
  le : j.2 ≤ 3
  r : j.1.p.map (·.r) = rlL x j.2
set_option maxRecDepth 100000 in
theorem memory_any (x : Su) (w_0 : World) : Calls Tryd.prog 15 #[.agg (suC x).toArray] w_0 fun e w' => ∃ μ : Mm, (μ.Ok ∧ μ.bytes = suBytes x ∧ μ.p.map (·.r) = rlL x 3) ∧ e = .returned (ptrV μ.M) ∧ Hp (fun _ => False) w_0 (memL μ) [] (fun _ => True) w' := by
  refine calls_wc (args := [.agg (suC x).toArray]) Tryd.func15 rfl 24 rfl (Nat.le_of_ble_eq_true rfl) ?_
  refine wc_weak (.cons (i := 0) rfl <| .nil) ?_
  refine wc_conseq (H' := Hp (fun _ => False) w_0 [] [] (fun _ => True)) (fun u hu => ?_) ?_
  · subst hu; exact Hp.start0
  refine wc_seq ?_
  refine wc_region ?_
  refine wl_new .none rfl (nf_box rfl rfl) (fun b1 => ?_)
  refine wl_free .none rfl (yf_assign rfl) ?_
  refine wl_nil ?_
  refine wq_then ?_
  refine wc_seq ?_
  refine wc_region ?_
  refine wl_callM [(b1, bk 37 (suC x))] [] .none rfl (by kernel_rfl) rfl (fun w _ _ => (new_any w).mono fun e w' ⟨μ, h1, h2, h3⟩ => ⟨μ, h1, h2, Hp.nob h3⟩) (fun μ hμ => ?_)
  obtain ⟨ok, hby, hr⟩ := hμ
  refine wl_free .none rfl (yf_assign rfl) ?_
  refine wl_nil ?_
  refine wq_then ?_
  refine wc_seq ?_
  refine wc_weak (.cons (i := 0) rfl <| .cons (i := 1) rfl <| .cons (i := 2) rfl <| .cons (i := 3) rfl <| .nil) ?_
  refine wc_region ?_
  refine wl_free .none rfl (yf_move rfl) ?_
  refine wl_free .none rfl (yf_fieldAddr (off := 3) (sz := 0) rfl Tryd.underlying37 (by kernel_rfl) rfl) ?_
  refine wl_free .none rfl (yf_loadL 0 rfl rfl rfl Tryd.underlying35 rfl) ?_
  refine wl_pure .none rfl (by kernel_rfl) rfl (fun w hw => fill_any x.fill w) ?_
  refine wl_callM [(b1, bk 37 (suC x))] (memL μ) .none rfl (by kernel_rfl) rfl (fun w hm _ => poke_any μ ok (fillS x.fill) (by rw [fillS_size]; decide) w hm) (fun μ1 hμ1 => ?_)
  obtain ⟨ok1, same1, hby1⟩ := hμ1
  refine wl_nil ?_
  refine wq_then ?_
  refine wc_seq ?_
  refine wc_seq ?_
  refine wc_weak (.cons (i := 0) rfl <| .cons (i := 1) rfl <| .cons (i := 2) rfl <| .cons (i := 3) rfl <| .nil) ?_
  refine wc_region ?_
  refine wl_free .none rfl (yf_assign rfl) ?_
  refine wl_nil ?_
  refine wq_then ?_
  refine wc_block ?_
  refine wc_loop (ι := {j : Mm × Nat // SuI x μ.M j}) (fun j => [(1, ptrV b1), (3, ptrV μ.M), (4, .int .i64 j.1.2)]) (fun j => Hp (fun _ => False) w_0 ([(b1, bk 37 (suC x))] ++ memL j.1.1) [] (fun _ => True)) (fun j => 3 - j.1.2) ⟨(μ1, 0), ok1, same1.M, by rw [hby1, hby, fillS_size]; rfl, Nat.zero_le 3, by rw [same1.r, hr]; rfl⟩ ?_ ?_ (fun j => ?_)
  · exact .cons rfl <| .cons rfl <| .cons rfl <| .nil
  · exact fun w h => h
  obtain ⟨⟨μi, i⟩, oki, Mi, byi, lei, ri⟩ := j
  dsimp only at oki Mi byi lei ri ⊢
  refine wc_seq ?_
  refine wc_seq ?_
  refine wc_region ?_
  refine wl_free .none rfl (yf_move rfl) ?_
  refine wl_free .none rfl (yf_lss rfl rfl) ?_
  refine wl_nil ?_
  refine wq_then ?_
  refine wc_cond rfl (fun hc => ?_) (fun hc => ?_)
  · replace hc := of_decide_eq_true hc
    refine wc_skip ?_
    refine wq_then ?_
    refine wc_seq ?_
    refine wc_block ?_
    refine wc_weak (.cons (i := 1) rfl <| .cons (i := 3) rfl <| .cons (i := 4) rfl <| .cons (i := 12) rfl <| .nil) ?_
    refine wc_region ?_
    refine wl_free .none rfl (yf_move rfl) ?_
    refine wl_free .none rfl (yf_move rfl) ?_
    refine wl_free .none rfl (yf_move rfl) ?_
    refine wl_free .none rfl (yf_fieldAddr (off := 0) (sz := 2) rfl Tryd.underlying37 (by kernel_rfl) rfl) ?_
    (refine wl_free .none rfl (yf_indexAddrA (es := 1) rfl rfl Tryd.underlying23 (by kernel_rfl) rfl ?_ rfl) ?_; (· first | decide | omega | (simp; omega)); skip)
    refine wl_free .none rfl (yf_loadL 0 rfl rfl (su_at x (i := i) (by omega) (by omega)) Tryd.underlying3 rfl) ?_
    refine wl_pure .none rfl (by kernel_rfl) rfl (fun w hw => rights_any _ w) ?_
    refine wl_callM [(b1, bk 37 (suC x))] (memL μi) .none rfl (by kernel_rfl) rfl (fun w hm _ => by rw [← Mi]; exact protect_any μi oki i (by omega) _ w hm) (fun μ' hμ => ?_)
    refine wl_nil ?_
    refine wq_block ?_
    refine wq_then ?_
    refine wc_weak (.cons (i := 1) rfl <| .cons (i := 3) rfl <| .cons (i := 4) rfl <| .cons (i := 12) rfl <| .nil) ?_
    refine wc_region ?_
    refine wl_free .none rfl (yf_move rfl) ?_
    (refine wl_free .none rfl (yf_add rfl rfl (i64_in _ ?_ ?_)) ?_; (· omega); (· omega); skip)
    refine wl_free .none rfl (yf_assign rfl) ?_
    refine wl_nil ?_
    refine wq_round (ι := {j : Mm × Nat // SuI x μ.M j}) ⟨(μ', i + 1), hμ.1, hμ.2.1.trans Mi, hμ.2.2.1.trans byi, by show i + 1 ≤ 3; omega, ?_⟩ ?_ ?_ (fun u h => ?_)
    · show μ'.p.map (·.r) = rlL x (i + 1)
      rw [hμ.2.2.2, ri]; exact rlL_step x (by omega)
    · show 3 - (i + 1) < 3 - i; omega
    · exact .cons rfl <| .cons rfl <| .consE rfl rfl <| .nil
    · exact h
  · replace hc := of_decide_eq_false hc
    refine wc_exit ?_
    refine wq_then_exit ?_
    refine wq_then_exit ?_
    refine wq_here ?_
    refine wq_then ?_
    refine wc_seq ?_
    refine wc_weak (.cons (i := 1) rfl <| .cons (i := 3) rfl <| .cons (i := 4) rfl <| .cons (i := 12) rfl <| .nil) ?_
    refine wc_region ?_
    refine wl_free .none rfl (yf_move rfl) ?_
    refine wl_free .none rfl (yf_assign rfl) ?_
    refine wl_nil ?_
    refine wq_then ?_
    refine wc_ret ?_
    refine wq_ret1 rfl rfl (fun w hw => ?_)
    have e : i = 3 := by omega
    subst e
    exact ⟨μi, ⟨oki, byi, ri⟩, by rw [Mi], Hp.drop hw (.cons _ (.refl _)) (.refl _)⟩
end Go.Proofs.YtojofinofpgopaaDoor
/- The memory of package mem: check, Load. -/
namespace Go.Proofs.YtojofinofpgopaaDoor
open Go.RowKit
def Mm.rs (μ : Mm) : List Int := μ.p.map (·.r)
def badR (rs : List Int) (a r : Int) : Bool := !decide (a < 768) || bits .and .i64 (rs.getD (a / 256).toNat 0) r == 0
abbrev adr (a : Int) (i : Nat) : Int := IntKind.u32.wrap (a + i)
def chkL (rs : List Int) (a r : Int) (i : Nat) : Nat → Option Int
  | 0 => none
  | c + 1 => if badR rs (adr a i) r then some (adr a i) else chkL rs a r (i + 1) c
def chkV : Option Int → List Value
  | none => [.int .u32 0, .bool true]
  | some x => [.int .u32 x, .bool false]
theorem chkL_bad {rs : List Int} {a r : Int} {i c : Nat} (hc : 0 < c) (h : badR rs (adr a i) r = true) : chkL rs a r i c = some (adr a i) := by
  obtain ⟨c, rfl⟩ : ∃ d, c = d + 1 := ⟨c - 1, by omega⟩
  rw [chkL, if_pos h]
theorem chkL_ok {rs : List Int} {a r : Int} {i c : Nat} (hc : 0 < c) (h : badR rs (adr a i) r = false) : chkL rs a r i c = chkL rs a r (i + 1) (c - 1) := by
  obtain ⟨c, rfl⟩ : ∃ d, c = d + 1 := ⟨c - 1, by omega⟩
  rw [chkL, if_neg (by rw [h]; exact Bool.false_ne_true), Nat.add_sub_cancel]
theorem adr_u32 (a : Int) (i : Nat) : U32 (adr a i) := u32_wrap _
theorem rs_at {μ : Mm} {i : Nat} {p : Pg} (hp : μ.p[i]? = some p) : μ.rs.getD i 0 = p.r := by
  rw [Mm.rs, List.getD_eq_getElem?_getD, List.getElem?_map, hp]; rfl
set_option maxRecDepth 100000 in
theorem check_any (μ : Mm) (ok : μ.Wf) (a : Int) (ha : U32 a) (n : Nat) (hn1 : 1 ≤ n) (hn4 : n ≤ 4) (r : Int) (w : World) (h : OnL (memL μ) w) : Calls Tryd.prog 118 #[ptrV μ.M, .int .u32 a, .int .i64 n, .int .i64 r] w fun e w' => e = .returned (.tuple (chkV (chkL μ.rs a r 0 n)).toArray) ∧ Ext w w' := by
  have ha1 := ha.1
  have ha2 := ha.2
  refine calls_wc (args := [ptrV μ.M, .int .u32 a, .int .i64 n, .int .i64 r]) Tryd.func118 rfl 44 rfl (Nat.le_of_ble_eq_true rfl) ?_
  refine wc_weak (.cons (i := 0) rfl <| .cons (i := 1) rfl <| .cons (i := 2) rfl <| .cons (i := 3) rfl <| .nil) ?_
  refine wc_conseq (H' := Hp (fun _ => False) w [] [] (OnL (memL μ))) (fun u hu => ?_) ?_
  · subst hu; exact Hp.start h.foot
  refine wc_seq ?_
  refine wc_region ?_
  refine wl_free .none rfl (yf_assign rfl) ?_
  refine wl_free .none rfl (yf_assign rfl) ?_
  refine wl_nil ?_
  refine wq_then ?_
  refine wc_seq ?_
  refine wc_seq ?_
  refine wc_region ?_
  refine wl_free .none rfl (yf_move rfl) ?_
  refine wl_free .none rfl (yf_lss rfl rfl) ?_
  refine wl_free .none rfl (yf_move rfl) ?_
  refine wl_split 14 rfl (fun hb => ?_) (fun hb => ?_)
  · replace hb := of_decide_eq_true hb
    omega
  · replace hb := of_decide_eq_false hb
    refine wl_free (.some rfl rfl) rfl (yf_move rfl) ?_
    refine wl_free (.some rfl rfl) rfl (yf_gtr rfl rfl) ?_
    refine wl_free .none rfl (yf_pickF rfl rfl) ?_
    refine wl_nil ?_
    refine wq_then ?_
    refine wc_cond rfl (fun hc => ?_) (fun hc => ?_)
    · replace hc := of_decide_eq_true hc
      omega
    · replace hc := of_decide_eq_false hc
      refine wc_skip ?_
      refine wq_then ?_
      refine wc_seq ?_
      refine wc_seq ?_
      refine wc_weak (.cons (i := 0) rfl <| .cons (i := 1) rfl <| .cons (i := 2) rfl <| .cons (i := 3) rfl <| .cons (i := 8) rfl <| .cons (i := 9) rfl <| .cons (i := 17) rfl <| .nil) ?_
      refine wc_region ?_
      refine wl_free .none rfl (yf_move rfl) ?_
      (refine wl_free .none rfl (yf_conv rfl (by kernel_rfl) Tryd.underlying35 (u32_in _ ?_ ?_)) ?_; (· omega); (· omega); skip)
      refine wl_free .none rfl (yf_move rfl) ?_
      refine wl_nil ?_
      refine wq_then ?_
      refine wc_block ?_
      refine wc_loop (ι := {i : Nat // i ≤ n ∧ chkL μ.rs a r 0 n = chkL μ.rs a r i (n - i)}) (fun i => [(0, ptrV μ.M), (1, .int .u32 a), (2, .int .i64 n), (3, .int .i64 r), (20, .int .u32 n), (21, .int .u32 i.1)]) (fun _ => Hp (fun _ => False) w [] [] (OnL (memL μ))) (fun i => n - i.1) ⟨0, Nat.zero_le _, rfl⟩ ?_ ?_ (fun i => ?_)
      · exact .cons rfl <| .cons rfl <| .cons rfl <| .cons rfl <| .cons rfl <| .consE rfl rfl <| .nil
      · exact fun w h => h
      obtain ⟨i, hi, hck⟩ := i
      dsimp only at hi hck ⊢
      have hx := adr_u32 a i
      obtain ⟨x, hxe⟩ : ∃ x, adr a i = x := ⟨_, rfl⟩
      have hx1 := hx.1
      have hx2 := hx.2
      rw [hxe] at hx1 hx2
      obtain ⟨av, hav⟩ : ∃ av, atV μ x = .pointer av := by unfold atV; split <;> exact ⟨_, rfl⟩
      have hat : ∀ W, OnL (memL μ) W → Calls Tryd.prog 78 #[ptrV μ.M, .int .u32 x] W fun e w' => e = .returned (.pointer av) ∧ Ext W w' := fun W hW => by
        rw [← hav]; exact at_any μ x ⟨hx1, hx2⟩ W hW
      refine wc_seq ?_
      refine wc_region ?_
      refine wl_free .none rfl (yf_lss rfl rfl) ?_
      refine wl_nil ?_
      refine wq_then ?_
      refine wc_seq ?_
      refine wc_cond rfl (fun hc => ?_) (fun hc => ?_)
      · replace hc := of_decide_eq_true hc
        refine wc_skip ?_
        refine wq_then ?_
        refine wc_seq ?_
        refine wc_block ?_
        refine wc_seq ?_
        refine wc_region ?_
        refine wl_free .none rfl (yf_move rfl) ?_
        refine wl_free .none rfl (yf_assign rfl) ?_
        refine wl_nil ?_
        refine wq_then ?_
        refine wc_seq ?_
        refine wc_weak (.cons (i := 0) rfl <| .cons (i := 1) rfl <| .cons (i := 2) rfl <| .cons (i := 3) rfl <| .cons (i := 10) rfl <| .cons (i := 20) rfl <| .cons (i := 21) rfl <| .cons (i := 22) rfl <| .nil) ?_
        refine wc_region ?_
        refine wl_free .none rfl (yf_move rfl) ?_
        refine wl_free .none rfl (yf_move rfl) ?_
        refine wl_free .none rfl (yf_move rfl) ?_
        refine wl_free .none rfl (yf_add rfl rfl hxe) ?_
        refine wl_pure .none rfl (by kernel_rfl) rfl (fun w hw => hat w (HpG.x hw)) ?_
        refine wl_free .none rfl (yf_assign rfl) ?_
        refine wl_nil ?_
        refine wq_then ?_
        refine wc_seq ?_
        refine wc_weak (.cons (i := 0) rfl <| .cons (i := 1) rfl <| .cons (i := 2) rfl <| .cons (i := 3) rfl <| .cons (i := 10) rfl <| .cons (i := 11) rfl <| .cons (i := 20) rfl <| .cons (i := 21) rfl <| .cons (i := 22) rfl <| .nil) ?_
        refine wc_region ?_
        refine wl_free .none rfl (yf_move rfl) ?_
        refine wl_free .none rfl (yf_eqNil rfl rfl (by kernel_rfl)) ?_
        refine wl_free .none rfl (yf_move rfl) ?_
        refine wl_split 31 rfl (fun hb => ?_) (fun hb => ?_)
        · skip
          have hbad : badR μ.rs (adr a i) r = true := by
            have hge : ¬ x < 768 := fun hlt => by
              rw [atV, if_pos hlt] at hav
              cases hav; simp at hb
            rw [hxe]; simp [badR, hge]
          refine wl_pass (.some rfl rfl rfl) rfl ?_
          refine wl_pass (.some rfl rfl rfl) rfl ?_
          refine wl_pass (.some rfl rfl rfl) rfl ?_
          refine wl_pass (.some rfl rfl rfl) rfl ?_
          refine wl_pass (.some rfl rfl rfl) rfl ?_
          refine wl_pass (.some rfl rfl rfl) rfl ?_
          refine wl_pass (.some rfl rfl rfl) rfl ?_
          refine wl_free .none rfl (yf_pickT rfl rfl) ?_
          refine wl_nil ?_
          refine wq_then ?_
          refine wc_true rfl ?_
          refine wc_seq ?_
          refine wc_weak (.cons (i := 0) rfl <| .cons (i := 1) rfl <| .cons (i := 2) rfl <| .cons (i := 3) rfl <| .cons (i := 10) rfl <| .cons (i := 11) rfl <| .cons (i := 20) rfl <| .cons (i := 21) rfl <| .cons (i := 22) rfl <| .cons (i := 39) rfl <| .nil) ?_
          refine wc_region ?_
          refine wl_free .none rfl (yf_move rfl) ?_
          refine wl_free .none rfl (yf_move rfl) ?_
          refine wl_free .none rfl (yf_add rfl rfl hxe) ?_
          refine wl_free .none rfl (yf_assign rfl) ?_
          refine wl_free .none rfl (yf_assign rfl) ?_
          refine wl_nil ?_
          refine wq_then ?_
          refine wc_ret ?_
          refine wq_block_ret ?_
          refine wq_then_ret ?_
          refine wq_then_ret ?_
          refine wq_block_ret ?_
          refine wq_then_ret ?_
          refine wq_ret2 rfl rfl rfl (fun w hw => ?_)
          exact ⟨by rw [hck, chkL_bad (by omega) hbad, hxe]; rfl, (HpG.keep hw).ext⟩
        · skip
          have hlt : x < 768 := by
            rcases Int.lt_or_le x 768 with hl | hl
            · exact hl
            · rw [atV, if_neg (by omega)] at hav
              cases hav; simp at hb
          obtain ⟨q, j, hq, hj, haj, hdiv, hmod, hv⟩ := at_lo (μ := μ) hx1 hlt
          rw [hav] at hv
          cases hv
          obtain ⟨p, hp, hpm⟩ := ok.page hq
          have hbad : badR μ.rs (adr a i) r = (bits .and .i64 p.r r == 0) := by
            rw [hxe]
            unfold badR
            rw [hdiv, Int.toNat_natCast, rs_at hp]
            simp [hlt]
          refine wl_free (.some rfl rfl) rfl (yf_move rfl) ?_
          refine wl_free (.some rfl rfl) rfl (yf_nilCheck rfl) ?_
          refine wl_free (.some rfl rfl) rfl (yf_fieldAddr (off := 6) (sz := 0) rfl Tryd.underlying116 (by kernel_rfl) rfl) ?_
          refine wl_free (.some rfl rfl) rfl (yf_loadG (v := .int .i64 p.r) rfl (fun w h => OnL.S (HpG.x h)) (slot_at hp (j := 6) (by decide) (by omega)) Tryd.underlying3 rfl) ?_
          refine wl_free (.some rfl rfl) rfl (yf_move rfl) ?_
          refine wl_free (.some rfl rfl) rfl (yf_and rfl rfl rfl) ?_
          refine wl_free (.some rfl rfl) rfl (yf_eql rfl rfl) ?_
          refine wl_free .none rfl (yf_pickF rfl rfl) ?_
          refine wl_nil ?_
          refine wq_then ?_
          refine wc_cond rfl (fun hc => ?_) (fun hc => ?_)
          · replace hc := eq_of_beq hc
            refine wc_seq ?_
            refine wc_weak (.cons (i := 0) rfl <| .cons (i := 1) rfl <| .cons (i := 2) rfl <| .cons (i := 3) rfl <| .cons (i := 10) rfl <| .cons (i := 11) rfl <| .cons (i := 20) rfl <| .cons (i := 21) rfl <| .cons (i := 22) rfl <| .cons (i := 39) rfl <| .nil) ?_
            refine wc_region ?_
            refine wl_free .none rfl (yf_move rfl) ?_
            refine wl_free .none rfl (yf_move rfl) ?_
            refine wl_free .none rfl (yf_add rfl rfl hxe) ?_
            refine wl_free .none rfl (yf_assign rfl) ?_
            refine wl_free .none rfl (yf_assign rfl) ?_
            refine wl_nil ?_
            refine wq_then ?_
            refine wc_ret ?_
            refine wq_block_ret ?_
            refine wq_then_ret ?_
            refine wq_then_ret ?_
            refine wq_block_ret ?_
            refine wq_then_ret ?_
            refine wq_ret2 rfl rfl rfl (fun w hw => ?_)
            exact ⟨by rw [hck, chkL_bad (by omega) (by rw [hbad]; simpa using hc), hxe]; rfl, (HpG.keep hw).ext⟩
          · replace hc := beq_no hc
            refine wc_skip ?_
            refine wq_block ?_
            refine wq_then ?_
            refine wc_weak (.cons (i := 0) rfl <| .cons (i := 1) rfl <| .cons (i := 2) rfl <| .cons (i := 3) rfl <| .cons (i := 10) rfl <| .cons (i := 11) rfl <| .cons (i := 20) rfl <| .cons (i := 21) rfl <| .cons (i := 22) rfl <| .cons (i := 39) rfl <| .nil) ?_
            refine wc_region ?_
            (refine wl_free .none rfl (yf_add rfl rfl (u32_in _ ?_ ?_)) ?_; (· omega); (· omega); skip)
            refine wl_free .none rfl (yf_move rfl) ?_
            refine wl_nil ?_
            refine wq_round (ι := {i : Nat // i ≤ n ∧ chkL μ.rs a r 0 n = chkL μ.rs a r i (n - i)}) ⟨i + 1, by omega, ?_⟩ ?_ ?_ (fun u h => h)
            · rw [hck, chkL_ok (by omega) (by rw [hbad]; simpa using hc), show n - i - 1 = n - (i + 1) by omega]
            · show n - (i + 1) < n - i; omega
            · exact .cons rfl <| .cons rfl <| .cons rfl <| .cons rfl <| .cons rfl <| .consE rfl rfl <| .nil
      · replace hc := of_decide_eq_false hc
        refine wc_exit ?_
        refine wq_then_exit ?_
        refine wq_then_exit ?_
        refine wq_here ?_
        refine wq_then ?_
        refine wc_seq ?_
        refine wc_region ?_
        refine wl_free .none rfl (yf_assign rfl) ?_
        refine wl_free .none rfl (yf_assign rfl) ?_
        refine wl_nil ?_
        refine wq_then ?_
        refine wc_ret ?_
        refine wq_ret2 rfl rfl rfl (fun w hw => ?_)
        have e : n - i = 0 := by omega
        exact ⟨by rw [hck, e]; rfl, (HpG.keep hw).ext⟩
end Go.Proofs.YtojofinofpgopaaDoor
/- The memory of package mem: Load, Store. -/
namespace Go.Proofs.YtojofinofpgopaaDoor
open Go.RowKit
theorem wq_ret3 {P : Program} {n : Nat} {m : List (Nat × Value)} {H : World → Prop} {fn : Func} {R : Ending → World → Prop} {t u s : Tmp} {v x y : Value} (hr : fn.results = #[.tmp t, .tmp u, .tmp s]) (hv : look m t = some v) (hx : look m u = some x) (hy : look m s = some y) (h : ∀ w, H w → R (.returned (.tuple #[v, x, y])) w) : WQ (bodyPost P fn R) .ret n m H := fun a w hs hw =>
  bodyPost_ret (v := .tuple #[v, x, y]) (by rw [results_tmp3 hr]; simp [Array.getD_eq_getD_getElem?, hs.get t v hv, hs.get u x hx, hs.get s y hy]) hs.dfr (h w hw)
def loadGo (b : List Int) (a : Int) : Nat → Int → Int
  | 0, v => v
  | k + 1, v => loadGo b a k (bits .or .u32 (IntKind.u32.wrap (v * 2 ^ (min (8 : Int).toNat IntKind.u32.bits))) (byteAt b (adr a k)))
def loadV (rs b : List Int) (a : Int) (n : Nat) : List Value := match chkL rs a 1 0 n with
  | none => [.int .u32 (loadGo b a n 0), .int .u32 0, .bool true]
  | some x => [.int .u32 0, .int .u32 x, .bool false]
theorem byteAt_u8 {μ : Mm} (ok : μ.Wf) (a : Int) : U8 (byteAt μ.bytes a) := by
  unfold byteAt
  rw [List.getD_eq_getElem?_getD]
  cases h : μ.bytes[a.toNat]? with
  | none => exact ⟨by decide, by decide⟩
  | some v =>
    obtain ⟨p, hp, hv⟩ := List.mem_flatMap.1 (List.mem_of_getElem? h)
    exact (ok.c p hp).2.1 v hv
set_option maxRecDepth 100000 in
theorem load_any (μ : Mm) (ok : μ.Wf) (a : Int) (ha : U32 a) (n : Nat) (hn1 : 1 ≤ n) (hn4 : n ≤ 4) (w : World) (h : OnL (memL μ) w) : Calls Tryd.prog 116 #[ptrV μ.M, .int .u32 a, .int .i64 n] w fun e w' => e = .returned (.tuple (loadV μ.rs μ.bytes a n).toArray) ∧ Ext w w' := by
  obtain ⟨cx, cb, hcv⟩ : ∃ cx cb, chkV (chkL μ.rs a 1 0 n) = [.int .u32 cx, .bool cb] := by
    cases chkL μ.rs a 1 0 n <;> exact ⟨_, _, rfl⟩
  have hC : ∀ W, OnL (memL μ) W → Calls Tryd.prog 118 #[ptrV μ.M, .int .u32 a, .int .i64 n, .int .i64 1] W fun e w' => e = .returned (.tuple #[.int .u32 cx, .bool cb]) ∧ Ext W w' := fun W hW => by
    have := check_any μ ok a ha n hn1 hn4 1 W hW
    rw [hcv] at this; exact this
  refine calls_wc (args := [ptrV μ.M, .int .u32 a, .int .i64 n]) Tryd.func116 rfl 37 rfl (Nat.le_of_ble_eq_true rfl) ?_
  refine wc_weak (.cons (i := 0) rfl <| .cons (i := 1) rfl <| .cons (i := 2) rfl <| .nil) ?_
  refine wc_conseq (H' := Hp (fun _ => False) w [] [] (OnL (memL μ))) (fun u hu => ?_) ?_
  · subst hu; exact Hp.start h.foot
  refine wc_seq ?_
  refine wc_region ?_
  refine wl_free .none rfl (yf_assign rfl) ?_
  refine wl_free .none rfl (yf_assign rfl) ?_
  refine wl_free .none rfl (yf_assign rfl) ?_
  refine wl_nil ?_
  refine wq_then ?_
  refine wc_seq ?_
  refine wc_seq ?_
  refine wc_region ?_
  refine wl_free .none rfl (yf_move rfl) ?_
  refine wl_free .none rfl (yf_move rfl) ?_
  refine wl_free .none rfl (yf_move rfl) ?_
  refine wl_pure .none rfl (by kernel_rfl) rfl (fun w hw => hC w (HpG.x hw)) ?_
  refine wl_free .none rfl (yf_move rfl) ?_
  refine wl_free .none rfl (yf_extract rfl rfl) ?_
  refine wl_free .none rfl (yf_extract rfl rfl) ?_
  refine wl_free .none rfl (yf_assign rfl) ?_
  refine wl_free .none rfl (yf_assign rfl) ?_
  refine wl_nil ?_
  refine wq_then ?_
  refine wc_seq ?_
  refine wc_weak (.cons (i := 0) rfl <| .cons (i := 1) rfl <| .cons (i := 2) rfl <| .cons (i := 6) rfl <| .cons (i := 7) rfl <| .cons (i := 8) rfl <| .nil) ?_
  refine wc_region ?_
  refine wl_free .none rfl (yf_move rfl) ?_
  refine wl_free .none rfl (yf_not rfl) ?_
  refine wl_nil ?_
  refine wq_then ?_
  refine wc_cond rfl (fun hc_1 => ?_) (fun hc_1 => ?_)
  · skip
    refine wc_seq ?_
    refine wc_weak (.cons (i := 0) rfl <| .cons (i := 1) rfl <| .cons (i := 2) rfl <| .cons (i := 6) rfl <| .cons (i := 7) rfl <| .cons (i := 8) rfl <| .cons (i := 18) rfl <| .nil) ?_
    refine wc_region ?_
    refine wl_free .none rfl (yf_move rfl) ?_
    refine wl_free .none rfl (yf_assign rfl) ?_
    refine wl_free .none rfl (yf_assign rfl) ?_
    refine wl_free .none rfl (yf_assign rfl) ?_
    refine wl_nil ?_
    refine wq_then ?_
    refine wc_ret ?_
    refine wq_then_ret ?_
    refine wq_ret3 rfl rfl rfl rfl (fun w hw => ?_)
    refine ⟨?_, (HpG.keep hw).ext⟩
    have hcb : cb = false := by simpa using hc_1
    cases hq : chkL μ.rs a 1 0 n with
    | none => rw [hq] at hcv; simp [chkV] at hcv; rw [hcb] at hcv; simp at hcv
    | some x =>
      rw [hq] at hcv
      simp [chkV] at hcv
      rw [loadV, hq, hcv.1]; rfl
  · skip
    refine wc_skip ?_
    refine wq_then ?_
    refine wc_seq ?_
    refine wc_seq ?_
    refine wc_weak (.cons (i := 0) rfl <| .cons (i := 1) rfl <| .cons (i := 2) rfl <| .cons (i := 6) rfl <| .cons (i := 7) rfl <| .cons (i := 8) rfl <| .cons (i := 18) rfl <| .nil) ?_
    refine wc_region ?_
    refine wl_free .none rfl (yf_move rfl) ?_
    (refine wl_free .none rfl (yf_sub rfl rfl (i64_in _ ?_ ?_)) ?_; (· omega); (· omega); skip)
    refine wl_free .none rfl (yf_assign rfl) ?_
    refine wl_nil ?_
    refine wq_then ?_
    refine wc_block ?_
    refine wc_loop (ι := {k : Nat × Int // k.1 ≤ n ∧ loadGo μ.bytes a n 0 = loadGo μ.bytes a k.1 k.2}) (fun k => [(0, ptrV μ.M), (1, .int .u32 a), (6, .int .u32 k.1.2), (9, .int .i64 ((k.1.1 : Int) - 1))]) (fun _ => Hp (fun _ => False) w [] [] (OnL (memL μ))) (fun k => k.1.1) ⟨(n, 0), Nat.le_refl _, rfl⟩ ?_ ?_ (fun k => ?_)
    · exact .cons rfl <| .cons rfl <| .cons rfl <| .cons rfl <| .nil
    · exact fun w h => h
    obtain ⟨⟨k, v⟩, hk, hld⟩ := k
    dsimp only at hk hld ⊢
    refine wc_seq ?_
    refine wc_seq ?_
    refine wc_region ?_
    refine wl_free .none rfl (yf_move rfl) ?_
    refine wl_free .none rfl (yf_geq rfl rfl) ?_
    refine wl_nil ?_
    refine wq_then ?_
    refine wc_cond rfl (fun hc => ?_) (fun hc => ?_)
    · replace hc := of_decide_eq_true hc
      obtain ⟨j, rfl⟩ : ∃ j, k = j + 1 := ⟨k - 1, by omega⟩
      refine wc_skip ?_
      refine wq_then ?_
      refine wc_seq ?_
      refine wc_block ?_
      refine wc_weak (.cons (i := 0) rfl <| .cons (i := 1) rfl <| .cons (i := 6) rfl <| .cons (i := 9) rfl <| .cons (i := 23) rfl <| .nil) ?_
      refine wc_region ?_
      refine wl_free .none rfl (yf_move rfl) ?_
      (refine wl_free .none rfl (yf_shl rfl rfl ?_ rfl) ?_; (· first | decide | omega); skip)
      refine wl_free .none rfl (yf_move rfl) ?_
      refine wl_free .none rfl (yf_move rfl) ?_
      refine wl_free .none rfl (yf_move rfl) ?_
      (refine wl_free .none rfl (yf_conv rfl (by kernel_rfl) Tryd.underlying35 (u32_in _ ?_ ?_)) ?_; (· omega); (· omega); skip)
      refine wl_free .none rfl (yf_add rfl rfl ((by rw [show ((j + 1 : Nat) : Int) - 1 = j by omega]) : IntKind.u32.wrap (a + (((j + 1 : Nat) : Int) - 1)) = adr a j)) ?_
      refine wl_pure .none rfl (by kernel_rfl) rfl (fun w hw => peek_any μ ok (adr a j) (adr_u32 a j) w (HpG.x hw)) ?_
      refine wl_free .none rfl (yf_conv rfl (by kernel_rfl) Tryd.underlying35 (u32_in _ (byteAt_u8 ok _).1 (by have := (byteAt_u8 ok (adr a j)).2; omega))) ?_
      refine wl_free .none rfl (yf_or rfl rfl rfl) ?_
      refine wl_free .none rfl (yf_assign rfl) ?_
      refine wl_nil ?_
      refine wq_block ?_
      refine wq_then ?_
      refine wc_weak (.cons (i := 0) rfl <| .cons (i := 1) rfl <| .cons (i := 6) rfl <| .cons (i := 9) rfl <| .cons (i := 23) rfl <| .nil) ?_
      refine wc_region ?_
      refine wl_free .none rfl (yf_move rfl) ?_
      (refine wl_free .none rfl (yf_sub rfl rfl (i64_in _ ?_ ?_)) ?_; (· omega); (· omega); skip)
      refine wl_free .none rfl (yf_assign rfl) ?_
      refine wl_nil ?_
      refine wq_round (ι := {k : Nat × Int // k.1 ≤ n ∧ loadGo μ.bytes a n 0 = loadGo μ.bytes a k.1 k.2}) ⟨(j, bits .or .u32 (IntKind.u32.wrap (v * 2 ^ (min (8 : Int).toNat IntKind.u32.bits))) (byteAt μ.bytes (adr a j))), by show j ≤ n; omega, by rw [hld]; rfl⟩ ?_ ?_ (fun u h => h)
      · show j < j + 1; omega
      · exact .cons rfl <| .cons rfl <| .cons rfl <| .consE rfl (congrArg (Value.int .i64) (show ((j + 1 : Nat) : Int) - 1 - 1 = (j : Int) - 1 by omega)) <| .nil
    · replace hc := of_decide_eq_false hc
      refine wc_exit ?_
      refine wq_then_exit ?_
      refine wq_then_exit ?_
      refine wq_here ?_
      refine wq_then ?_
      refine wc_seq ?_
      refine wc_weak (.cons (i := 0) rfl <| .cons (i := 1) rfl <| .cons (i := 6) rfl <| .cons (i := 9) rfl <| .cons (i := 23) rfl <| .nil) ?_
      refine wc_region ?_
      refine wl_free .none rfl (yf_move rfl) ?_
      refine wl_free .none rfl (yf_assign rfl) ?_
      refine wl_free .none rfl (yf_assign rfl) ?_
      refine wl_free .none rfl (yf_assign rfl) ?_
      refine wl_nil ?_
      refine wq_then ?_
      refine wc_ret ?_
      refine wq_ret3 rfl rfl rfl rfl (fun w hw => ?_)
      refine ⟨?_, (HpG.keep hw).ext⟩
      have hk0 : k = 0 := by omega
      subst hk0
      have hcb : cb = true := by simpa using hc_1
      cases hq : chkL μ.rs a 1 0 n with
      | none => rw [loadV, hq, hld]; rfl
      | some x => rw [hq] at hcv; simp [chkV] at hcv; rw [hcb] at hcv; simp at hcv
end Go.Proofs.YtojofinofpgopaaDoor
/- The memory of package mem: Store. -/
namespace Go.Proofs.YtojofinofpgopaaDoor
open Go.RowKit
def byteOf (v : Int) (i : Nat) : Int := IntKind.u8.wrap (v.fdiv (2 ^ (min (8 * (i : Int)).toNat IntKind.u32.bits)))
def storeGo (b : List Int) (a v : Int) : Nat → List Int
  | 0 => b
  | i + 1 => (storeGo b a v i).set (adr a i).toNat (byteOf v i)
def storeB (rs b : List Int) (a : Int) (n : Nat) (v : Int) : List Int := match chkL rs a 2 0 n with
  | none => storeGo b a v n
  | some _ => b
theorem u8_wrap (x : Int) : U8 (IntKind.u8.wrap x) := by
  unfold U8
  simp only [IntKind.wrap, IntKind.bits, IntKind.signed]
  simp; omega
structure StI (μ : Mm) (a v : Int) (n : Nat) (j : Mm × Nat) : Prop where
  ok : j.1.Ok
  same : μ.Same j.1
  le : j.2 ≤ n
  by_ : j.1.bytes = storeGo μ.bytes a v j.2
set_option maxRecDepth 100000 in
theorem store_any (μ : Mm) (ok : μ.Ok) (a : Int) (ha : U32 a) (n : Nat) (hn1 : 1 ≤ n) (hn4 : n ≤ 4) (v : Int) (w_0 : World) (h : OnL (memL μ) w_0) : Calls Tryd.prog 117 #[ptrV μ.M, .int .u32 a, .int .i64 n, .int .u32 v] w_0 fun e w' =>
    ∃ μ' : Mm, (μ'.Ok ∧ μ.Same μ' ∧ μ'.bytes = storeB μ.rs μ.bytes a n v) ∧ e = .returned (.tuple (chkV (chkL μ.rs a 2 0 n)).toArray) ∧ Hp (fun k => k ∈ (memL μ).map (·.1)) w_0 (memL μ') [] (fun _ => True) w' := by
  obtain ⟨cx, cb, hcv⟩ : ∃ cx cb, chkV (chkL μ.rs a 2 0 n) = [.int .u32 cx, .bool cb] := by
    cases chkL μ.rs a 2 0 n <;> exact ⟨_, _, rfl⟩
  have hC : ∀ W, OnL (memL μ) W → Calls Tryd.prog 118 #[ptrV μ.M, .int .u32 a, .int .i64 n, .int .i64 2] W fun e w' => e = .returned (.tuple #[.int .u32 cx, .bool cb]) ∧ Ext W w' := fun W hW => by
    have := check_any μ ok.toWf a ha n hn1 hn4 2 W hW
    rw [hcv] at this; exact this
  refine calls_wc (args := [ptrV μ.M, .int .u32 a, .int .i64 n, .int .u32 v]) Tryd.func117 rfl 37 rfl (Nat.le_of_ble_eq_true rfl) ?_
  refine wc_weak (.cons (i := 0) rfl <| .cons (i := 1) rfl <| .cons (i := 2) rfl <| .cons (i := 3) rfl <| .nil) ?_
  refine wc_conseq (H' := Hp (fun k => k ∈ (memL μ).map (·.1)) w_0 (memL μ) [] (fun _ => True)) (fun u hu => ?_) ?_
  · subst hu; exact Hp.startL h ok.nodup
  refine wc_seq ?_
  refine wc_region ?_
  refine wl_free .none rfl (yf_assign rfl) ?_
  refine wl_free .none rfl (yf_assign rfl) ?_
  refine wl_nil ?_
  refine wq_then ?_
  refine wc_seq ?_
  refine wc_seq ?_
  refine wc_region ?_
  refine wl_free .none rfl (yf_move rfl) ?_
  refine wl_free .none rfl (yf_move rfl) ?_
  refine wl_free .none rfl (yf_move rfl) ?_
  refine wl_pure .none rfl (by kernel_rfl) rfl (fun w hw => hC w (HpG.own hw)) ?_
  refine wl_free .none rfl (yf_move rfl) ?_
  refine wl_free .none rfl (yf_extract rfl rfl) ?_
  refine wl_free .none rfl (yf_extract rfl rfl) ?_
  refine wl_free .none rfl (yf_assign rfl) ?_
  refine wl_free .none rfl (yf_assign rfl) ?_
  refine wl_nil ?_
  refine wq_then ?_
  refine wc_seq ?_
  refine wc_weak (.cons (i := 0) rfl <| .cons (i := 1) rfl <| .cons (i := 2) rfl <| .cons (i := 3) rfl <| .cons (i := 8) rfl <| .cons (i := 9) rfl <| .nil) ?_
  refine wc_region ?_
  refine wl_free .none rfl (yf_move rfl) ?_
  refine wl_free .none rfl (yf_not rfl) ?_
  refine wl_nil ?_
  refine wq_then ?_
  refine wc_cond rfl (fun hc_1 => ?_) (fun hc_1 => ?_)
  · skip
    refine wc_seq ?_
    refine wc_weak (.cons (i := 0) rfl <| .cons (i := 1) rfl <| .cons (i := 2) rfl <| .cons (i := 3) rfl <| .cons (i := 8) rfl <| .cons (i := 9) rfl <| .cons (i := 19) rfl <| .nil) ?_
    refine wc_region ?_
    refine wl_free .none rfl (yf_move rfl) ?_
    refine wl_free .none rfl (yf_assign rfl) ?_
    refine wl_free .none rfl (yf_assign rfl) ?_
    refine wl_nil ?_
    refine wq_then ?_
    refine wc_ret ?_
    refine wq_then_ret ?_
    refine wq_ret2 rfl rfl rfl (fun w hw => ?_)
    have hcb : cb = false := by simpa using hc_1
    refine ⟨μ, ⟨ok, .refl μ, ?_⟩, ?_, hw⟩
    · cases hq : chkL μ.rs a 2 0 n with
      | none => rw [hq] at hcv; simp [chkV] at hcv; rw [hcb] at hcv; simp at hcv
      | some x => rw [storeB, hq]
    · rw [hcv, hcb]; rfl
  · skip
    refine wc_skip ?_
    refine wq_then ?_
    refine wc_seq ?_
    refine wc_seq ?_
    refine wc_weak (.cons (i := 0) rfl <| .cons (i := 1) rfl <| .cons (i := 2) rfl <| .cons (i := 3) rfl <| .cons (i := 8) rfl <| .cons (i := 9) rfl <| .cons (i := 19) rfl <| .nil) ?_
    refine wc_region ?_
    refine wl_free .none rfl (yf_move rfl) ?_
    (refine wl_free .none rfl (yf_conv rfl (by kernel_rfl) Tryd.underlying35 (u32_in _ ?_ ?_)) ?_; (· omega); (· omega); skip)
    refine wl_free .none rfl (yf_move rfl) ?_
    refine wl_nil ?_
    refine wq_then ?_
    refine wc_block ?_
    refine wc_loop (ι := {j : Mm × Nat // StI μ a v n j}) (fun j => [(0, ptrV μ.M), (1, .int .u32 a), (3, .int .u32 v), (22, .int .u32 n), (23, .int .u32 j.1.2)]) (fun j => Hp (fun k => k ∈ (memL μ).map (·.1)) w_0 (memL j.1.1) [] (fun _ => True)) (fun j => n - j.1.2) ⟨(μ, 0), ok, .refl μ, Nat.zero_le _, rfl⟩ ?_ ?_ (fun j => ?_)
    · exact .cons rfl <| .cons rfl <| .cons rfl <| .cons rfl <| .consE rfl rfl <| .nil
    · exact fun w h => h
    obtain ⟨⟨μi, i⟩, oki, samei, lei, byi⟩ := j
    dsimp only at oki samei lei byi ⊢
    refine wc_seq ?_
    refine wc_region ?_
    refine wl_free .none rfl (yf_lss rfl rfl) ?_
    refine wl_nil ?_
    refine wq_then ?_
    refine wc_seq ?_
    refine wc_cond rfl (fun hc => ?_) (fun hc => ?_)
    · replace hc := of_decide_eq_true hc
      refine wc_skip ?_
      refine wq_then ?_
      refine wc_seq ?_
      refine wc_block ?_
      refine wc_seq ?_
      refine wc_region ?_
      refine wl_free .none rfl (yf_move rfl) ?_
      refine wl_free .none rfl (yf_assign rfl) ?_
      refine wl_nil ?_
      refine wq_then ?_
      refine wc_weak (.cons (i := 0) rfl <| .cons (i := 1) rfl <| .cons (i := 3) rfl <| .cons (i := 10) rfl <| .cons (i := 22) rfl <| .cons (i := 23) rfl <| .cons (i := 24) rfl <| .nil) ?_
      refine wc_region ?_
      refine wl_free .none rfl (yf_move rfl) ?_
      refine wl_free .none rfl (yf_move rfl) ?_
      refine wl_free .none rfl (yf_move rfl) ?_
      refine wl_free .none rfl (yf_add rfl rfl rfl) ?_
      refine wl_free .none rfl (yf_move rfl) ?_
      refine wl_free .none rfl (yf_move rfl) ?_
      refine wl_free .none rfl (yf_mul rfl rfl (u32_in _ (by omega) (by omega))) ?_
      (refine wl_free .none rfl (yf_shr rfl rfl ?_ rfl) ?_; (· first | decide | omega); skip)
      refine wl_free .none rfl (yf_conv rfl (by kernel_rfl) Tryd.underlying5 rfl) ?_
      refine wl_callM [] (memL μi) .none rfl (by kernel_rfl) rfl (fun w hm _ => by rw [← samei.M]; exact set_any μi oki (adr a i) (byteOf v i) (adr_u32 a i) (u8_wrap _) w hm) (fun μ' hμ => ?_)
      refine wl_nil ?_
      refine wq_block ?_
      refine wq_then ?_
      refine wc_weak (.cons (i := 0) rfl <| .cons (i := 1) rfl <| .cons (i := 3) rfl <| .cons (i := 10) rfl <| .cons (i := 22) rfl <| .cons (i := 23) rfl <| .cons (i := 24) rfl <| .nil) ?_
      refine wc_region ?_
      (refine wl_free .none rfl (yf_add rfl rfl (u32_in _ ?_ ?_)) ?_; (· omega); (· omega); skip)
      refine wl_free .none rfl (yf_move rfl) ?_
      refine wl_nil ?_
      refine wq_round (ι := {j : Mm × Nat // StI μ a v n j}) ⟨(μ', i + 1), hμ.1, samei.trans hμ.2.1, by show i + 1 ≤ n; omega, ?_⟩ ?_ ?_ (fun u h => ?_)
      · show μ'.bytes = (storeGo μ.bytes a v i).set (adr a i).toNat (byteOf v i)
        rw [hμ.2.2, byi]
      · show n - (i + 1) < n - i; omega
      · exact .cons rfl <| .cons rfl <| .cons rfl <| .cons rfl <| .consE rfl rfl <| .nil
      · exact h
    · replace hc := of_decide_eq_false hc
      refine wc_exit ?_
      refine wq_then_exit ?_
      refine wq_then_exit ?_
      refine wq_here ?_
      refine wq_then ?_
      refine wc_seq ?_
      refine wc_region ?_
      refine wl_free .none rfl (yf_assign rfl) ?_
      refine wl_free .none rfl (yf_assign rfl) ?_
      refine wl_nil ?_
      refine wq_then ?_
      refine wc_ret ?_
      refine wq_ret2 rfl rfl rfl (fun w hw => ?_)
      have hcb : cb = true := by simpa using hc_1
      have e : i = n := by omega
      subst e
      cases hq : chkL μ.rs a 2 0 i with
      | some x => rw [hq] at hcv; simp [chkV] at hcv; rw [hcb] at hcv; simp at hcv
      | none => exact ⟨μi, ⟨oki, samei, by rw [storeB, hq]; exact byi⟩, rfl, hw⟩
end Go.Proofs.YtojofinofpgopaaDoor
/- The memory of package mem: Page. -/
namespace Go.Proofs.YtojofinofpgopaaDoor
open Go.RowKit
attribute [local simp] Result.andThen
theorem yf_sliceArrAll {P : Program} {n : Nat} {m : List (Nat × Value)} {ty : TypeId} {H : World → Prop} {x : Operand} {t e : TypeId} {g o size N : Nat} (hx : ev m x = some (.pointer (some ⟨g, o, none⟩))) (ht : P.underlying t = some (.array N e)) (hs' : (P.info? e).map (·.size) = some size) (hN : 0 < N) :
    YF P (.slice t x none none none) ty n m H (.slice (some ⟨g, o, none⟩) N N) := fun _ w d pos af gd hs hw => by
  have hne : ¬ (N = 0) := by omega
  simp [Yl, execOp, hs.ev hx, Instr.sliceAt, Instr.sureAddr, run_underlying ht, Instr.sliceBounds, run_sizeOf hs', hne, Addr.add]
end Go.Proofs.YtojofinofpgopaaDoor
/- The memory of package mem: image. -/
namespace Go.Proofs.YtojofinofpgopaaDoor
open Go.RowKit
end Go.Proofs.YtojofinofpgopaaDoor
