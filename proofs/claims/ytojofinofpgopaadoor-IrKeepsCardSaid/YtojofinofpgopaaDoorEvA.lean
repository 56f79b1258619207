/- Methods through an interface; the closure of Eval that leaves. -/
import Derived.Test.YtojofinofpgopaaDoorMgR
import Derived.Test.YtojofinofpgopaaDoorMgT
import Derived.Test.YtojofinofpgopaaDoorIrE
import Derived.Test.YtojofinofpgopaaDoorMgF
import Derived.Scope
namespace Go.Proofs.YtojofinofpgopaaDoor
open Go.RowKit
section
variable {P : Program} {n : Nat} {m : List (Nat × Value)} {ty : TypeId} {H : World → Prop} {G B : Nat → Prop} {w0 w w' : World} {L L1 L' : List (Nat × Obj)} {R : List Rw} {X : World → Prop}
/-! ### Scopes, labels -/
theorem wc_scope {c : Code} {Q : Exit → Act → World → Prop} (h : WC P c (Exit.noGoto Q) n m H) : WC P (.scope c) Q n m H := fun a w hs hw => wp_scope_straight (h a w hs hw)
theorem wc_label {l : Nat} {Q : Exit → Act → World → Prop} (h : WQ Q .normal n m H) : WC P (.label l) Q n m H := fun a w hs hw => wp_label (h a w hs hw)
theorem wq_scope {Q : Exit → Act → World → Prop} (h : WQ Q .normal n m H) : WQ (Exit.noGoto Q) .normal n m H := h
theorem wq_scope_ret {Q : Exit → Act → World → Prop} (h : WQ Q .ret n m H) : WQ (Exit.noGoto Q) .ret n m H := h
theorem wq_scope_exit {Q : Exit → Act → World → Prop} {i : Nat} (h : WQ Q (.exit i) n m H) : WQ (Exit.noGoto Q) (.exit i) n m H := h
theorem run_eqIn_ifaceNil (d : Nat) {t : TypeId} {ms : Array (String × TypeId)} {T : TypeId} {v : Value} (ht : P.underlying t = some (.interface ms)) (w : World) : (Op.equalIn (d + 1) t (.iface T v) .nilIface).run P w = .ok false w := by
  simp [Op.equalIn, run_underlying ht]
theorem run_eq_ifaceNil {t : TypeId} {ms : Array (String × TypeId)} {T : TypeId} {v : Value} (ht : P.underlying t = some (.interface ms)) (w : World) : (Op.equal t (.iface T v) .nilIface).run P w = .ok false w := by
  exact run_eqIn_ifaceNil 9999 ht w
theorem yf_neNilIface {x y : Operand} {t t' : TypeId} {ms : Array (String × TypeId)} {T : TypeId} {v : Value} (hx : ev m x = some (.iface T v)) (hy : ev m y = some .nilIface) (ht : P.underlying t = some (.interface ms)) : YF P (.binOp .neq t x y t') ty n m H (.bool true) := fun _ w d pos af g hs hw => by
  have := run_eq_ifaceNil (P := P) (T := T) (v := v) ht w
  simp [Yl, execOp, hs.ev hx, hs.ev hy, binOp, Result.andThen, eqGuard_at_iface, this]
theorem yf_nilCheckM {x : Operand} {nm : String} {T : TypeId} {v : Value} {cs : Array Value} (hx : ev m x = some (.func (.method nm) #[.iface T v] cs)) (hn : ∀ w, (nilAhead (P.types.size + Made.depth) T v nm).run P w = .ok (some false) w) : YF P (.nilCheck x) ty n m H (.func (.method nm) #[.iface T v] cs) := fun _ w d pos af g hs hw => by
  simp [Yl, execOp, hs.ev hx, Result.andThen, hn]
theorem ch_invoke {a : Act} {x : Operand} {nm : String} {T : TypeId} {v r : Value} {f : FuncId} {args : List Operand} {ats : Array TypeId} {vs : List Value} {d : Option Tmp} {pos : String} {af : Array Edge} {gd : Option (Nat × Bool)} {Rr : Value → World → Prop} (hs : Sat n m a) (hx : ev m x = some (.iface T v)) (hm : ∀ w, (method (P.types.size + Made.depth) T v nm).run P w = .ok (f, r) w) (hf : goes P f = true) (ha : evl m args = some vs)
    (hC : Calls P f (r :: vs).toArray w fun e w' => ∃ v, e = .returned v ∧ Rr v w') : Ch P ⟨d, .call { callee := .invoke x nm, args := args.toArray, argTypes := ats }, ty, pos, af, gd⟩ a w Rr := by
  have hrun : (execOp a.eval ⟨d, .call { callee := .invoke x nm, args := args.toArray, argTypes := ats }, ty, pos, af, gd⟩).run P w = .ok (.enter f (r :: vs).toArray) w := by
    have := evl_map hs ha
    have e : (#[r] ++ (List.map a.eval args).toArray : Array Value) = (r :: vs).toArray := by rw [this]; simp
    have hcf := run_callFunc hf ((r :: vs).toArray) w
    simp [execOp, resolve, hs.ev hx, invoke, callMethod, hm, Result.andThen, this]
    exact hcf
  unfold Ch
  rw [hrun]
  exact hC
theorem wl_invokeP {ops : Array Oper} {Q : Exit → Act → World → Prop} {rest : List Oper} {d : Nat} {pos : String} {af : Array Edge} {gd : Option (Nat × Bool)} {x : Operand} {nm : String} {T : TypeId} {v r u : Value} {f : FuncId} {args : List Operand} {ats : Array TypeId} {vs : List Value} (hg : Gd ops m gd) (hd : Nat.blt d n = true) (hx : ev m x = some (.iface T v)) (hm : ∀ w, (method (P.types.size + Made.depth) T v nm).run P w = .ok (f, r) w) (hf : goes P f = true) (ha : evl m args = some vs)
    (hC : ∀ w, HpG G B w0 L R X w → Calls P f (r :: vs).toArray w fun e w' => e = .returned u ∧ Ext w w')
    (h : WL P ops Q rest n ((d, u) :: m) (HpG G B w0 L R X)) : WL P ops Q (⟨some d, .call { callee := .invoke x nm, args := args.toArray, argTypes := ats }, ty, pos, af, gd⟩ :: rest) n m (HpG G B w0 L R X) :=
  wl_chain (ι := Unit) (val := fun _ => u) (H' := fun _ => HpG G B w0 L R X) hg hd
    (fun _ w _ _ _ _ hs hw => ch_invoke hs hx hm hf ha ((hC w hw).mono fun _ _ ⟨e1, e2⟩ => ⟨_, e1, (), rfl, HpG.onE hw e2⟩)) fun _ => h
theorem wl_invokeM {ops : Array Oper} {Q : Exit → Act → World → Prop} {ι : Type} {C : ι → Prop} {rest : List Oper} {d : Nat} {pos : String} {af : Array Edge} {gd : Option (Nat × Bool)} {x : Operand} {nm : String} {T : TypeId} {v r : Value} {f : FuncId} {args : List Operand} {ats : Array TypeId} {vs : List Value} {val : ι → Value} {L1' : ι → List (Nat × Obj)} {X' : ι → World → Prop} (L L1 : List (Nat × Obj)) (hg : Gd ops m gd) (hd : Nat.blt d n = true) (hx : ev m x = some (.iface T v)) (hm : ∀ w, (method (P.types.size + Made.depth) T v nm).run P w = .ok (f, r) w) (hf : goes P f = true) (ha : evl m args = some vs)
    (hC : ∀ w, OnL L1 w → Hp B w0 (L ++ L1) R X w → Calls P f (r :: vs).toArray w fun e w' => ∃ i, C i ∧ e = .returned (val i) ∧ Hp (fun k => k ∈ L1.map (·.1)) w (L1' i) [] (X' i) w')
    (h : ∀ i, C i → WL P ops Q rest n ((d, val i) :: m) (Hp B w0 (L ++ L1' i) R X)) : WL P ops Q (⟨some d, .call { callee := .invoke x nm, args := args.toArray, argTypes := ats }, ty, pos, af, gd⟩ :: rest) n m (Hp B w0 (L ++ L1) R X) :=
  wl_chain (ι := {i // C i}) (val := fun i => val i.1) (H' := fun i => Hp B w0 (L ++ L1' i.1) R X) hg hd
    (fun _ w _ _ _ _ hs hw => ch_invoke hs hx hm hf ha ((hC w (fun p hp => HpG.own hw p (List.mem_append_right _ hp)) hw).mono fun _ _ ⟨i, c, e1, e2⟩ => ⟨_, e1, ⟨i, c⟩, rfl, Hp.callM hw e2⟩)) fun i => h i.1 i.2
/-! .. in a region that draws its order -/
section
variable {J : World → Prop} {Q : Exit → Act → World → Prop} {ops : Array Oper} {σ : List Nat} {d : Nat} {pos : String} {af : Array Edge} {gd : Option (Nat × Bool)} {x : Operand} {nm : String} {T : TypeId} {v r u : Value} {f : FuncId} {args : List Operand} {ats : Array TypeId} {vs : List Value}
theorem wd_invokeP (hg : Gd ops m gd) (hd : Nat.blt d n = true) (hx : ev m x = some (.iface T v)) (hm : ∀ w, (method (P.types.size + Made.depth) T v nm).run P w = .ok (f, r) w) (hf : goes P f = true) (ha : evl m args = some vs)
    (hJ : ∀ w w', J w → Ext w w' → J w')
    (hC : ∀ w, HpG G B w0 L R X w → Calls P f (r :: vs).toArray w fun e w' => e = .returned u ∧ Ext w w')
    (h : WD P ops J Q σ G n ((d, u) :: m) (HpG G B w0 L R X)) : WDo P ops J Q ⟨some d, .call { callee := .invoke x nm, args := args.toArray, argTypes := ats }, ty, pos, af, gd⟩ σ G n m (HpG G B w0 L R X) :=
  wd_chain (ι := Unit) (val := fun _ => u) (H' := fun _ => HpG G B w0 L R X) rfl (fun _ _ e => by cases e) hg hd (fun _ => HpG.stab)
    (fun _ w _ _ _ _ hs hw hj => (ch_invoke hs hx hm hf ha ((hC w hw).mono fun _ _ ⟨e1, e2⟩ => ⟨_, e1, rfl, e2⟩)).mono
      (R := fun v' w' => v' = u ∧ Ext w w') fun _ w' ⟨e1, e2⟩ => ⟨Keep.of_ext e2, hJ w w' hj e2, (), e1, hw.onE e2⟩) fun _ => h
theorem wd_invokeM {ι : Type} {C : ι → Prop} {val : ι → Value} {L1' : ι → List (Nat × Obj)} {X' : ι → World → Prop} (L L1 : List (Nat × Obj)) (hg : Gd ops m gd) (hd : Nat.blt d n = true) (hx : ev m x = some (.iface T v)) (hm : ∀ w, (method (P.types.size + Made.depth) T v nm).run P w = .ok (f, r) w) (hf : goes P f = true) (ha : evl m args = some vs)
    (hJ : ∀ w w', HpG G B w0 (L ++ L1) R X w → J w → Keep (fun k => k ∈ L1.map (·.1)) w w' → J w')
    (hC : ∀ w, OnL L1 w → HpG G B w0 (L ++ L1) R X w → Calls P f (r :: vs).toArray w fun e w' => ∃ i, C i ∧ e = .returned (val i) ∧ Hp (fun k => k ∈ L1.map (·.1)) w (L1' i) [] (X' i) w')
    (h : ∀ i, C i → WD P ops J Q σ G n ((d, val i) :: m) (Hp B w0 (L ++ L1' i) R X)) : WDo P ops J Q ⟨some d, .call { callee := .invoke x nm, args := args.toArray, argTypes := ats }, ty, pos, af, gd⟩ σ G n m (HpG G B w0 (L ++ L1) R X) :=
  wd_chain (ι := {i // C i}) (val := fun i => val i.1) (H' := fun i => Hp B w0 (L ++ L1' i.1) R X) rfl (fun _ _ e => by cases e) hg hd (fun _ => Hp.stab)
    (fun _ w _ _ _ _ hs hw hj => (ch_invoke hs hx hm hf ha ((hC w (fun p hp => HpG.own hw p (List.mem_append_right _ hp)) hw).mono fun _ _ ⟨i, c, e1, e2⟩ => ⟨_, e1, ⟨⟨i, c⟩, rfl, e2⟩⟩)).mono
      (R := fun v' w' => ∃ i : {i // C i}, v' = val i.1 ∧ Hp (fun k => k ∈ L1.map (fun p : Nat × Obj => p.1)) w (L1' i.1) [] (X' i.1) w') fun _ w' ⟨i, e1, e2⟩ =>
        ⟨(HpG.keep e2).mono fun j _ hj' => hw.inG j (List.mem_append_left _ (by rw [List.map_append]; exact List.mem_append_right _ hj')), hJ w w' hw hj (HpG.keep e2), i, e1, Hp.callM hw.hp e2⟩) fun i => h i.1 i.2
theorem HpG.notin (h : HpG G B w0 (L ++ L1) R X w) {p : Nat × Obj} (hp : p ∈ L) : p.1 ∉ L1.map (·.1) := fun hm => by
  have := HpG.nd h
  unfold blks at this
  rw [List.map_append] at this
  exact (List.nodup_append.1 (List.nodup_append.1 this).1).2.2 _ (List.mem_map.2 ⟨p, hp, rfl⟩) _ hm rfl
end
/-- What a row holds is in none of the known blocks. -/
theorem row_rdM (h : HpG G B w0 L R X w) {r : Rw} (hr : r ∈ R) {A : Option Addr} {len cap : Nat} (hv : r.v = .slice A len cap) : RdIn (fun k => k ∈ L.map (·.1)) A r.xs w := fun h0 => by
  have ho := HpG.rows h r hr
  rw [hv] at ho
  obtain ⟨b, off, e, h1, h2, hc⟩ := row_rdIn ho h0
  refine ⟨b, off, e, h1, fun hb => ?_, hc⟩
  have hnd := List.nodup_append.1 (HpG.nd h)
  refine hnd.2.2 b hb b (List.mem_filterMap.2 ⟨r, hr, ?_⟩) rfl
  rw [hv, e]; rfl
theorem BRd.ofM {i : BR} (h : HpG G B w0 L R X w) (hs : ∀ r ∈ i.rows, r ∈ R) : BRd (fun k => k ∈ L.map (·.1)) i w :=
  ⟨row_rdM h (hs _ (List.mem_cons_self ..)) rfl, row_rdM h (hs _ (List.mem_cons_of_mem _ (List.mem_cons_self ..))) rfl, row_rdM h (hs _ (List.mem_cons_of_mem _ (List.mem_cons_of_mem _ (List.mem_cons_self ..)))) rfl⟩
end
theorem load_method (g : Nat) (w : World) : (method (Tryd.prog.types.size + Made.depth) 44 (ptrV g) "Load").run Tryd.prog w = .ok (116, ptrV g) w := by kernel_rfl
theorem store_method (g : Nat) (w : World) : (method (Tryd.prog.types.size + Made.depth) 44 (ptrV g) "Store").run Tryd.prog w = .ok (117, ptrV g) w := by kernel_rfl
theorem load_ahead (g : Nat) (w : World) : (nilAhead (Tryd.prog.types.size + Made.depth) 44 (ptrV g) "Load").run Tryd.prog w = .ok (some false) w := by kernel_rfl
theorem store_ahead (g : Nat) (w : World) : (nilAhead (Tryd.prog.types.size + Made.depth) 44 (ptrV g) "Store").run Tryd.prog w = .ok (some false) w := by kernel_rfl
/-! ### The closure that leaves -/
def ouL (s : EvOut) : List Value := .bool s.lv :: .int .i64 s.idx :: .int .i64 s.done :: .int .u32 s.pc :: u32s s.vars
theorem ouL_cells (s : EvOut) : (ouL s).toArray = outCells s := by simp [ouL, outCells, u32s]
abbrev hdC (aA aP aO : Option Addr) (cA cP cO : Nat) (b : IBlk) : List Value := [.slice aA b.at_.length cA, .slice aP b.pages.length cP, .slice aO b.ops.length cO]
abbrev lvB (g3 g7 g9 : Nat) (aA aP aO : Option Addr) (cA cP cO : Nat) (b : IBlk) (s : EvOut) (cur : Int) : List (Nat × Obj) := [(g9, bk 3 [.int .i64 cur]), (g7, bk 41 (ouL s)), (g3, bk 28 (hdC aA aP aO cA cP cO b))]
theorem keep_setCell {g : Nat} (w : World) (i : Nat) (u : Value) : Keep (fun j => j = g) w (w.setCell ⟨g, i, none⟩ u) := ⟨rfl, rfl, rfl, by simp, fun k _ hk => Below.heap_setCell w ⟨g, i, none⟩ u k hk⟩
theorem keep_drewN {G : Nat → Prop} (w : World) (n : Nat) : Keep G w (w.drewN n) := ⟨rfl, rfl, rfl, Nat.le_refl _, fun _ _ _ => rfl⟩
theorem ouL_ext {s' : EvOut} {cs : Array Value} (h : cs = outCells s') : Obj.cells cs 41 (0, 0) = bk 41 (ouL s') := by rw [h, ← ouL_cells]
set_option maxHeartbeats 1000000 in
theorem leaveM_any (g3 g7 g9 : Nat) (aA aP aO : Option Addr) (cA cP cO : Nat) (b : IBlk) (s : EvOut) (cur : Int) (hc0 : 0 ≤ cur) (hc1 : cur < b.at_.length) (w : World) (h : OnL (lvB g3 g7 g9 aA aP aO cA cP cO b s cur) w) (hnd : [g9, g7, g3].Nodup) (hrd : RdIn (fun k => k ∈ [g9, g7, g3]) aA (u32s b.at_) w) :
    Calls Tryd.prog 28 #[ptrV g9, ptrV g3, ptrV g7] w fun e w' => ∃ _u : Unit, True ∧ e = .returned (.tuple #[]) ∧ Hp (fun k => k ∈ (lvB g3 g7 g9 aA aP aO cA cP cO b s cur).map (·.1)) w (lvB g3 g7 g9 aA aP aO cA cP cO b (s.leave b.at_ cur) cur) [] (fun _ => True) w' := by
  obtain ⟨c, rfl⟩ := Int.eq_ofNat_of_zero_le hc0
  obtain ⟨gA, oA, rfl, h1, h2, hc⟩ := hrd (by rw [show (u32s b.at_).length = b.at_.length from List.length_map ..]; omega)
  have b9 : w.heap[g9]? = some (.cells #[.int .i64 c] 3 (0, 0)) := h (g9, _) (List.mem_cons_self ..)
  have b7 : w.heap[g7]? = some (.cells (outCells s) 41 (0, 0)) := by rw [← ouL_cells]; exact h (g7, _) (List.mem_cons_of_mem _ (List.mem_cons_self ..))
  have b3 : w.heap[g3]? = some (.cells (hdC (some ⟨gA, oA, none⟩) aP aO cA cP cO b).toArray 28 (0, 0)) := h (g3, _) (List.mem_cons_of_mem _ (List.mem_cons_of_mem _ (List.mem_cons_self ..)))
  have x0 : w.cell? ⟨g9, 0, none⟩ = some (.int .i64 c) := heap_cell b9 rfl
  have x1 : w.cell? ⟨g3, 0, none⟩ = some (.slice (some ⟨gA, oA, none⟩) b.at_.length cA) := heap_cell b3 rfl
  have x2 : w.cell? ⟨gA, oA + c, none⟩ = some (.int .u32 (b.at_.getD c 0)) := by
    rw [hc c (by rw [show (u32s b.at_).length = b.at_.length from List.length_map ..]; omega), List.getD_eq_getElem?_getD, u32s, List.getElem?_map, List.getElem?_eq_getElem (by omega), List.getD_eq_getElem?_getD, List.getElem?_eq_getElem (by omega)]; rfl
  have g0 : w.cell? ⟨g7, 0, none⟩ = some (.bool s.lv) := heap_cell b7 (by simp [outCells])
  have g1 : w.cell? ⟨g7, 1, none⟩ = some (.int .i64 s.idx) := heap_cell b7 (by simp [outCells])
  have g2 : w.cell? ⟨g7, 2, none⟩ = some (.int .i64 s.done) := heap_cell b7 (by simp [outCells])
  have g3' : w.cell? ⟨g7, 3, none⟩ = some (.int .u32 s.pc) := heap_cell b7 (by simp [outCells])
  have f0 : w.frozen? ⟨g7, 0, none⟩ = false := heap_free b7
  have f1 : w.frozen? ⟨g7, 1, none⟩ = false := heap_free b7
  have f2 : w.frozen? ⟨g7, 2, none⟩ = false := heap_free b7
  have f3 : w.frozen? ⟨g7, 3, none⟩ = false := heap_free b7
  have ne1 : g7 ≠ g9 := by simp at hnd; omega
  have ne2 : g7 ≠ g3 := by simp at hnd; omega
  have ne3 : g7 ≠ gA := by simp at h2; omega
  have hci : (c : Int) < (b.at_.length : Int) := hc1
  have hcl : c < b.at_.length := by omega
  have hh := Hp.startL h hnd
  have H := Lib.hid hh
  have HB := Lib.hid b7
  obtain ⟨p, hp⟩ : ∃ p, b.at_.getD c 0 = p := ⟨_, rfl⟩
  rw [hp] at x2
  have HP := Lib.hid hp
  clear hrd h hc hp b9 b7 b3 hnd h2 hh
  go_enter Tryd.func28, Tryd.ntmps28
  go_region
  all_goals
    go_light
    go_end0
    refine ⟨(), trivial, rfl, ?_⟩
    have e : s.leave b.at_ (c : Int) = { s with lv := true, idx := (c : Int), done := (c : Int), pc := p } := by
      unfold EvOut.leave
      rw [Int.toNat_natCast, HP.out]
    rw [e]
    refine HpG.turn H.out (k := 1) (o' := bk 41 (ouL _)) rfl (((((keep_setCell _ _ _).trans (keep_setCell _ _ _)).trans (keep_setCell _ _ _)).trans (keep_setCell _ _ _)).trans (keep_drewN _ _)) ?_
    refine (set_heap (set_heap (set_heap (set_heap HB.out _ _) _ _) _ _) _ _).trans (congrArg some (ouL_ext ?_))
    rw [outLv, outIdx, outDone, outPc]
end Go.Proofs.YtojofinofpgopaaDoor
