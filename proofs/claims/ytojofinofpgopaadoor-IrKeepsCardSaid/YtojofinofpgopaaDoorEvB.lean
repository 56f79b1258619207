/- ir.Eval with a memory. -/
import Derived.Test.YtojofinofpgopaaDoorEvA
import Derived.Test.YtojofinofpgopaaDoorMgT
namespace Go.Proofs.YtojofinofpgopaaDoor
open Go.RowKit
theorem ouL_len (s : EvOut) : (ouL s).length = s.vars.length + 4 := by simp [ouL, u32s]
theorem ouL_all (s : EvOut) : (ouL s).all (·.oneCell') = true := by simp [ouL, u32s, Value.oneCell']
theorem ou32 {s : EvOut} (h : s.vars.length = 28) : (Tryd.prog.info? 41).map (·.size) = some (ouL s).length := by rw [ouL_len, h]; kernel_rfl
theorem ouL_at {s : EvOut} (h : s.vars.length = 28) {i o : Nat} (hi : i < 28) (ho : o = 4 + i) : (ouL s)[o]? = some (.int .u32 (s.vars.getD i 0)) := by
  subst ho
  rw [show 4 + i = i + 4 by omega]
  show (u32s s.vars)[i]? = _
  rw [u32s, List.getElem?_map, List.getElem?_eq_getElem (by omega), List.getD_eq_getElem?_getD, List.getElem?_eq_getElem (by omega)]; rfl
theorem ouL_set (s : EvOut) {i o : Nat} {d : Int} {v : Int} (hd : i = d.toNat) (ho : o = 4 + i) : (ouL s).set o (.int .u32 v) = ouL (s.set d v) := by
  subst ho; subst hd
  rw [show 4 + d.toNat = d.toNat + 4 by omega]
  show _ :: _ :: _ :: _ :: (u32s s.vars).set d.toNat (.int .u32 v) = _
  rw [u32s, ← List.map_set]; rfl
theorem ouL_guests {s : EvOut} (h : s.vars.length = 28) : (ouL s).take 23 ++ List.replicate 9 (.int .u32 0) ++ (ouL s).drop 32 = ouL s.guests := by
  obtain ⟨a, b, c, d, l⟩ := s
  match l, h with
  | [v0, v1, v2, v3, v4, v5, v6, v7, v8, v9, v10, v11, v12, v13, v14, v15, v16, v17, v18, v19, v20, v21, v22, v23, v24, v25, v26, v27], _ => rfl
theorem built_ouL (vars : List Int) (hv : vars.length = 28) (n : Int) : Tryd.prog.built 41 [(4, .agg (u32s vars).toArray), (2, .int .i64 n)] = some (ouL ⟨false, 0, n, 0, vars⟩).toArray := by
  rw [ouL_cells]; exact built_out vars hv n
theorem guests_len {s : EvOut} (h : s.vars.length = 28) : s.guests.vars.length = 28 := by simp [EvOut.guests, h]
theorem row_allN {cs seg : List Value} (h : seg.length = cs.length) : cs.take 0 ++ seg ++ cs.drop (0 + seg.length) = seg := by
  rw [Nat.zero_add, h, List.drop_length]; simp
theorem Hp.permL {B : Nat → Prop} {w0 w : World} {L L' : List (Nat × Obj)} {R : List Rw} {X : World → Prop} (h : Hp B w0 L R X w) (hp : L.Perm L') : Hp B w0 L' R X w :=
  Hp.sub h (fun _ hm => hp.mem_iff.2 hm) ((hp.map _).nodup_iff.1 (by
    have := HpG.nd h
    unfold blks at this
    exact (List.nodup_append.1 this).1))
theorem RdIn.opRow {Bad : Nat → Prop} {g o k c : Nat} {l : List IOp} {w : World} (h : RdIn Bad (some ⟨g, o, none⟩) (opsCells l) w) (hk : k < l.length) (hc : c = o + k * 5) : w.rangeAt g c (opC (l.getD k noOp)) := fun j v hj => by
  have hl := opsCells_len l
  have h2 := ops_row hk j v hj
  rw [Nat.zero_add] at h2
  have hlt := (List.getElem?_eq_some_iff.1 h2).1
  have := (h.rd).at (i := k * 5 + j) hlt (o := c + j) (by omega) h2
  exact this
theorem szL_size (c : Int) : sizeL c = (szL c : Int) := by
  unfold sizeL szL
  by_cases h : c = 16 ∨ c = 18
  · rw [if_pos h, if_pos (by simpa using h)]; rfl
  · rw [if_neg h, if_neg (by simpa using h)]; rfl
theorem size_call (c : Int) (w : World) : Calls Tryd.prog 29 #[.int .i64 c] w fun e w' => e = .returned (.int .i64 (szL c)) ∧ Ext w w' :=
  (size_any c w).mono fun e w' ⟨h1, h2⟩ => ⟨by rw [h1, szL_size], by subst h2; exact Ext.refl _⟩
theorem loadV_ld {rs bs : List Int} {a : Int} {n : Nat} {x y : Int} {c : Bool} (h : loadV rs bs a n = [.int .u32 x, .int .u32 y, .bool c]) : ldP (some (rs, bs)) a n = if c then some x else none := by
  unfold loadV at h
  unfold ldP
  dsimp only
  split at h
  · rename_i hq; simp at h; obtain ⟨h1, _, h3⟩ := h; rw [hq, h3, h1]; rfl
  · rename_i hq; simp at h; obtain ⟨_, _, h3⟩ := h; rw [hq, h3]; rfl
theorem chkV_st {rs bs : List Int} {a v : Int} {n : Nat} {y : Int} {c : Bool} (h : chkV (chkL rs a 2 0 n) = [.int .u32 y, .bool c]) : (stP (some (rs, bs)) a v n = if c then some (some (rs, storeB rs bs a n v)) else none) ∧ (c = false → storeB rs bs a n v = bs) := by
  unfold stP storeB
  dsimp only
  cases hq : chkL rs a 2 0 n with
  | none => rw [hq] at h; simp [chkV] at h; obtain ⟨_, h⟩ := h; subst c; exact ⟨rfl, fun h => by cases h⟩
  | some z => rw [hq] at h; simp [chkV] at h; obtain ⟨_, h⟩ := h; subst c; exact ⟨rfl, fun _ => rfl⟩
/-- A memory's rights and bytes. -/
def Mm.pm (μ : Mm) : PM := some (μ.rs, μ.bytes)
theorem Mm.Same.rs {μ μ' : Mm} (h : μ.Same μ') : μ'.rs = μ.rs := h.r
structure EvJ where
  k : Nat
  s : EvOut
  cur : Int
  μ : Mm
structure EvI (b : IBlk) (R : EvOut × PM) (μ : Mm) (j : EvJ) : Prop where
  ok : j.μ.Ok
  same : μ.Same j.μ
  le : j.k ≤ b.ops.length
  vo : VarsOk j.s.vars
  cur : j.k = 0 ∨ 0 ≤ j.cur ∧ j.cur < b.at_.length
  go : evGoM b.at_ (b.ops.drop j.k) j.s j.cur j.μ.pm = R
structure EvS (at_ : List Int) (o : IOp) (s : EvOut) (cur : Int) (m : PM) (μ : Mm) (j : Bool × EvJ) : Prop where
  ok : j.2.μ.Ok
  same : μ.Same j.2.μ
  vo : VarsOk j.2.s.vars
  cu : 0 ≤ j.2.cur ∧ j.2.cur < at_.length
  st : evStepM at_ o s cur m = if j.1 then (false, j.2.s, j.2.cur, j.2.μ.pm) else (true, j.2.s.leave at_ j.2.cur, j.2.cur, j.2.μ.pm)
structure EvE (R : EvOut × PM) (μ : Mm) (j : EvOut × Mm) : Prop where
  ok : j.2.Ok
  same : μ.Same j.2
  vo : j.1.vars.length = 28
  go : (j.1, j.2.pm) = R
theorem leave_len {s : EvOut} {at_ : List Int} {c : Int} (h : s.vars.length = 28) : (s.leave at_ c).vars.length = 28 := h
abbrev evL (b12 b9 b7 b6 b4 b3 : Nat) (hd : List Value) (vars : List Int) (o : IOp) (s : EvOut) (cur : Int) (μ : Mm) : List (Nat × Obj) :=
  (b12, bk 53 (opC o)) :: (b9, bk 3 [.int .i64 cur]) :: (b7, bk 41 (ouL s)) :: (b3, bk 28 hd) :: (b6, bk 41 (ouL zeroOut)) :: (b4, bk 39 (u32s vars)) :: memL μ
theorem lv_nodup {G B : Nat → Prop} {w0 w : World} {b3 b7 b9 : Nat} {aA aP aO : Option Addr} {cA cP cO : Nat} {b : IBlk} {s : EvOut} {cur : Int} {L : List (Nat × Obj)} {X : World → Prop} (h : HpG G B w0 (L ++ lvB b3 b7 b9 aA aP aO cA cP cO b s cur) [] X w) : [b9, b7, b3].Nodup := by
  have := HpG.nd h
  unfold blks at this
  rw [List.map_append] at this
  exact (List.nodup_append.1 (List.nodup_append.1 this).1).2.1
theorem RdIn.old {Bad : Nat → Prop} {A : Option Addr} {cs : List Value} {w : World} (h : RdIn Bad A cs w) : RdIn (fun k => Bad k ∨ w.heap.size ≤ k) A cs w := fun h0 => by
  obtain ⟨b, off, e, h1, h2, hc⟩ := h h0
  exact ⟨b, off, e, h1, fun h => h.elim h2 (fun h => by omega), hc⟩
abbrev BdM (μ : Mm) (w : World) (k : Nat) : Prop := k ∈ (memL μ).map (·.1) ∨ w.heap.size ≤ k
theorem BRd.old {Bad : Nat → Prop} {i : BR} {w : World} (h : BRd Bad i w) : BRd (fun k => Bad k ∨ w.heap.size ≤ k) i w := ⟨h.a.old, h.o.old, h.p.old⟩
theorem lv_rd {w0 w : World} {b3 b7 b9 : Nat} {aA aP aO : Option Addr} {cA cP cO : Nat} {b : IBlk} {s : EvOut} {cur : Int} {L : List (Nat × Obj)} {B : Nat → Prop} (h : Hp B w0 (L ++ lvB b3 b7 b9 aA aP aO cA cP cO b s cur) [] (BRd (fun k => B k ∨ w0.heap.size ≤ k) ⟨b, aA, aP, aO, cA, cP, cO⟩) w) : RdIn (fun k => k ∈ [b9, b7, b3]) aA (u32s b.at_) w := by
  refine RdIn.weak (HpG.x h).a fun k hk => ?_
  have key : ∀ p ∈ lvB b3 b7 b9 aA aP aO cA cP cO b s cur, B p.1 ∨ w0.heap.size ≤ p.1 := fun p hp => (HpG.mine h p (List.mem_append_right _ hp)).symm
  simp only [List.mem_cons, List.not_mem_nil, or_false] at hk
  rcases hk with rfl | rfl | rfl
  · exact key _ (List.mem_cons_self ..)
  · exact key _ (List.mem_cons_of_mem _ (List.mem_cons_self ..))
  · exact key _ (List.mem_cons_of_mem _ (List.mem_cons_of_mem _ (List.mem_cons_self ..)))
abbrev evA (M b3 b6 b7 b9 b12 : Nat) (aO : Option Addr) (cO : Nat) (b : IBlk) (o : IOp) (s : EvOut) (k : Nat) : List (Nat × Value) :=
  [(2, .iface 44 (ptrV M)), (6, ptrV b6), (7, ptrV b7), (8, .pointer (some ⟨b7, 4, none⟩)), (9, ptrV b9), (10, .func (.func 28) #[] #[ptrV b9, ptrV b3, ptrV b7]), (12, ptrV b12), (13, .int .u32 (s.get o.a)), (14, .int .u32 (s.get o.b)), (15, .bool true), (29, .slice aO b.ops.length cO), (30, .int .i64 b.ops.length), (31, .int .i64 k), (48, .int .i64 o.code)]
theorem evL_put {B : Nat → Prop} {w0 w : World} {x y : Nat × Obj} {b7 T o : Nat} {s : EvOut} {d v : Int} {rest : List (Nat × Obj)} {X : World → Prop} (h : Hp B w0 (x :: y :: (b7, bk T ((ouL s).set o (.int .u32 v))) :: rest) [] X w) (ho : o = 4 + d.toNat) : Hp B w0 (x :: y :: (b7, bk T (ouL (s.set d v))) :: rest) [] X w := by
  rw [← ouL_set s rfl ho]; exact h
theorem hp_and {B : Nat → Prop} {w0 w : World} {L : List (Nat × Obj)} {R : List Rw} {X : World → Prop} (h : Hp B w0 L R X w) : Hp B w0 L R (fun _ => True) w := h.weakX fun _ _ => trivial
set_option maxRecDepth 100000 in
set_option maxHeartbeats 4000000 in
theorem evalM_any (aA aP aO : Option Addr) (cA cP cO : Nat) (b : IBlk) (n : Nat) (hi : BR.OkN n ⟨b, aA, aP, aO, cA, cP, cO⟩) (hn : n ≤ maxLen) (vars : List Int) (hvo : VarsOk vars) (μ : Mm) (ok : μ.Ok) (w_0 : World) (h : OnL (memL μ) w_0) (hb : BRd (fun k => k ∈ (memL μ).map (·.1)) ⟨b, aA, aP, aO, cA, cP, cO⟩ w_0) :
    Calls Tryd.prog 13 #[blkV aA aP aO cA cP cO b, .agg (u32s vars).toArray, .iface 44 (ptrV μ.M)] w_0 fun e w' =>
      ∃ μ' : Mm, (μ'.Ok ∧ μ.Same μ' ∧ μ'.pm = (evalM b vars μ.pm).2) ∧ e = .returned (.agg (ouL (evalM b vars μ.pm).1).toArray) ∧ Hp (fun k => k ∈ (memL μ).map (·.1)) w_0 (memL μ') [] (fun _ => True) w' := by
  have hv28 := hvo.1
  have hb := hb.old
  obtain ⟨F, hF, hFt⟩ := hb.foot'
  obtain ⟨gO, oO, hO⟩ : ∃ gO oO, 0 < b.ops.length → aO = some ⟨gO, oO, none⟩ := by
    by_cases h0 : 0 < b.ops.length
    · obtain ⟨g, o, e, _⟩ := hb.o (by have := opsCells_len b.ops; show 0 < (opsCells b.ops).length; omega)
      exact ⟨g, o, fun _ => e⟩
    · exact ⟨0, 0, fun h => absurd h h0⟩
  have hlen := hi.lO
  refine calls_wc (args := [blkV aA aP aO cA cP cO b, .agg (u32s vars).toArray, .iface 44 (ptrV μ.M)]) Tryd.func13 rfl 163 rfl (Nat.le_of_ble_eq_true rfl) ?_
  refine wc_weak (.cons (i := 0) rfl <| .cons (i := 1) rfl <| .cons (i := 2) rfl <| .nil) ?_
  refine wc_conseq (H' := Hp (fun k => k ∈ (memL μ).map (·.1)) w_0 (memL μ) [] (BRd (BdM μ w_0) ⟨b, aA, aP, aO, cA, cP, cO⟩)) (fun u hu => ?_) ?_
  · subst hu; exact ((Hp.startL h ok.nodup).addX ⟨F, fun k hk => ⟨(hF k hk).1, fun hm => (hF k hk).2 (.inl hm), fun hm => (hF k hk).2 (.inl (by simpa [blks] using hm))⟩, hFt⟩).weakX fun _ h => h.1
  refine wc_seq ?_
  refine wc_region ?_
  refine wl_new .none rfl (nf_box rfl rfl) (fun b3 => ?_)
  refine wl_new .none rfl (nf_box rfl rfl) (fun b4 => ?_)
  refine wl_new .none rfl (nf_alloc (z := .agg #[.bool false, .int .i64 0, .int .i64 0, .int .u32 0, .int .u32 0, .int .u32 0, .int .u32 0, .int .u32 0, .int .u32 0, .int .u32 0, .int .u32 0, .int .u32 0, .int .u32 0, .int .u32 0, .int .u32 0, .int .u32 0, .int .u32 0, .int .u32 0, .int .u32 0, .int .u32 0, .int .u32 0, .int .u32 0, .int .u32 0, .int .u32 0, .int .u32 0, .int .u32 0, .int .u32 0, .int .u32 0, .int .u32 0, .int .u32 0, .int .u32 0, .int .u32 0]) (cs := [.bool false, .int .i64 0, .int .i64 0, .int .u32 0, .int .u32 0, .int .u32 0, .int .u32 0, .int .u32 0, .int .u32 0, .int .u32 0, .int .u32 0, .int .u32 0, .int .u32 0, .int .u32 0, .int .u32 0, .int .u32 0, .int .u32 0, .int .u32 0, .int .u32 0, .int .u32 0, .int .u32 0, .int .u32 0, .int .u32 0, .int .u32 0, .int .u32 0, .int .u32 0, .int .u32 0, .int .u32 0, .int .u32 0, .int .u32 0, .int .u32 0, .int .u32 0]) (by kernel_rfl) rfl) (fun b6 => ?_)
  refine wl_nil ?_
  refine wq_then ?_
  refine wc_scope ?_
  refine wc_seq ?_
  refine wc_seq ?_
  refine wc_region ?_
  refine wl_free .none rfl (yf_loadAllL 2 rfl rfl Tryd.underlying28 rfl (by kernel_rfl)) ?_
  refine wl_pure .none rfl (by kernel_rfl) rfl (fun w hw => valid_call (i := ⟨b, aA, aP, aO, cA, cP, cO⟩) (HpG.x hw) hi hn) ?_
  refine wl_free .none rfl (yf_not rfl) ?_
  refine wl_nil ?_
  refine wq_then ?_
  refine wc_cond rfl (fun hc => ?_) (fun hc => ?_)
  · skip
    have hval : validL b = false := by simpa using hc
    refine wc_seq ?_
    refine wc_weak (.cons (i := 0) rfl <| .cons (i := 1) rfl <| .cons (i := 2) rfl <| .cons (i := 3) rfl <| .cons (i := 4) rfl <| .cons (i := 6) rfl <| .cons (i := 19) rfl <| .nil) ?_
    refine wc_region ?_
    refine wl_free .none rfl (yf_buildS [.bool false, .int .i64 0, .int .i64 0, .int .u32 0, .int .u32 0, .int .u32 0, .int .u32 0, .int .u32 0, .int .u32 0, .int .u32 0, .int .u32 0, .int .u32 0, .int .u32 0, .int .u32 0, .int .u32 0, .int .u32 0, .int .u32 0, .int .u32 0, .int .u32 0, .int .u32 0, .int .u32 0, .int .u32 0, .int .u32 0, .int .u32 0, .int .u32 0, .int .u32 0, .int .u32 0, .int .u32 0, .int .u32 0, .int .u32 0, .int .u32 0, .int .u32 0] [(0, 1), (1, 1), (2, 1), (3, 1), (4, 28)] rfl (by kernel_rfl) (by kernel_rfl) rfl) ?_
    refine wl_chain0 .none (cf_storeRow 0 rfl rfl rfl rfl rfl (by kernel_rfl)) (fun _ => ?_)
    refine wl_nil ?_
    refine wq_then ?_
    refine wc_ret ?_
    refine wq_then_ret ?_
    refine wq_scope_ret ?_
    refine wq_retC rfl rfl 0 rfl Tryd.underlying41 rfl (by kernel_rfl) (fun w hw => ?_)
    refine ⟨μ, ⟨ok, .refl μ, ?_⟩, ?_, hp_and (Hp.drop hw (.cons _ (.cons _ (.cons _ (.refl _)))) (.refl _))⟩
    · rw [evalM, hval]; rfl
    · rw [evalM, hval]; rfl
  · skip
    have hval : validL b = true := by simpa using hc
    have VF := valid_facts hval
    have hle := VF.le
    have hR : (evalM b vars μ.pm) = ((evGoM b.at_ b.ops ⟨false, 0, b.at_.length, 0, vars⟩ 0 μ.pm).1.guests, (evGoM b.at_ b.ops ⟨false, 0, b.at_.length, 0, vars⟩ 0 μ.pm).2) := by rw [evalM, if_pos hval]
    obtain ⟨Rr, hRr⟩ : ∃ Rr, evGoM b.at_ b.ops ⟨false, 0, b.at_.length, 0, vars⟩ 0 μ.pm = Rr := ⟨_, rfl⟩
    rw [hRr] at hR
    refine wc_skip ?_
    refine wq_then ?_
    refine wc_seq ?_
    refine wc_weak (.cons (i := 0) rfl <| .cons (i := 1) rfl <| .cons (i := 2) rfl <| .cons (i := 3) rfl <| .cons (i := 4) rfl <| .cons (i := 6) rfl <| .cons (i := 19) rfl <| .nil) ?_
    refine wc_region ?_
    refine wl_free .none rfl (yf_loadAllL 1 rfl rfl Tryd.underlying39 rfl (by rw [u32s_len, hv28]; kernel_rfl)) ?_
    refine wl_free .none rfl (yf_fieldAddr (off := 0) (sz := 0) rfl Tryd.underlying28 (by kernel_rfl) rfl) ?_
    refine wl_free .none rfl (yf_loadL 2 rfl rfl rfl Tryd.underlying25 rfl) ?_
    refine wl_free .none rfl (yf_lenS rfl Tryd.underlying25) ?_
    refine wl_free .none rfl (yf_build rfl (built_ouL vars hv28 _)) ?_
    refine wl_new .none rfl (nf_alloc (z := .agg #[.bool false, .int .i64 0, .int .i64 0, .int .u32 0, .int .u32 0, .int .u32 0, .int .u32 0, .int .u32 0, .int .u32 0, .int .u32 0, .int .u32 0, .int .u32 0, .int .u32 0, .int .u32 0, .int .u32 0, .int .u32 0, .int .u32 0, .int .u32 0, .int .u32 0, .int .u32 0, .int .u32 0, .int .u32 0, .int .u32 0, .int .u32 0, .int .u32 0, .int .u32 0, .int .u32 0, .int .u32 0, .int .u32 0, .int .u32 0, .int .u32 0, .int .u32 0]) (cs := [.bool false, .int .i64 0, .int .i64 0, .int .u32 0, .int .u32 0, .int .u32 0, .int .u32 0, .int .u32 0, .int .u32 0, .int .u32 0, .int .u32 0, .int .u32 0, .int .u32 0, .int .u32 0, .int .u32 0, .int .u32 0, .int .u32 0, .int .u32 0, .int .u32 0, .int .u32 0, .int .u32 0, .int .u32 0, .int .u32 0, .int .u32 0, .int .u32 0, .int .u32 0, .int .u32 0, .int .u32 0, .int .u32 0, .int .u32 0, .int .u32 0, .int .u32 0]) (by kernel_rfl) rfl) (fun b7 => ?_)
    refine wl_chain0 .none (cf_storeRow (seg := ouL ⟨false, 0, b.at_.length, 0, vars⟩) 0 rfl rfl rfl (ouL_all _) (by rw [ouL_len]; show Nat.ble (0 + (vars.length + 4)) 32 = true; rw [hv28]; rfl) (ou32 hv28)) (fun _ => ?_)
    refine wl_conseq (H' := Hp (fun k => k ∈ (memL μ).map (·.1)) w_0 ((b7, bk 41 (ouL ⟨false, 0, b.at_.length, 0, vars⟩)) :: (b6, bk 41 (ouL zeroOut)) :: (b4, bk 39 (u32s vars)) :: (b3, bk 28 (hdC aA aP aO cA cP cO b)) :: memL μ) [] (BRd (BdM μ w_0) ⟨b, aA, aP, aO, cA, cP, cO⟩)) (fun u hu => ?_) ?_
    · have e := row_allN (cs := ouL zeroOut) (seg := ouL ⟨false, 0, b.at_.length, 0, vars⟩) (by rw [ouL_len, ouL_len]; show vars.length + 4 = _; rw [hv28]; rfl)
      rw [← e]; exact hu
    refine wl_nil ?_
    refine wq_then ?_
    refine wc_seq ?_
    refine wc_weak (.cons (i := 0) rfl <| .cons (i := 1) rfl <| .cons (i := 2) rfl <| .cons (i := 3) rfl <| .cons (i := 4) rfl <| .cons (i := 6) rfl <| .cons (i := 7) rfl <| .cons (i := 19) rfl <| .nil) ?_
    refine wc_region ?_
    refine wl_free .none rfl (yf_fieldAddr (off := 4) (sz := 27) rfl Tryd.underlying41 (by kernel_rfl) rfl) ?_
    refine wl_free .none rfl (yf_assign rfl) ?_
    refine wl_nil ?_
    refine wq_then ?_
    refine wc_seq ?_
    refine wc_weak (.cons (i := 0) rfl <| .cons (i := 1) rfl <| .cons (i := 2) rfl <| .cons (i := 3) rfl <| .cons (i := 4) rfl <| .cons (i := 6) rfl <| .cons (i := 7) rfl <| .cons (i := 8) rfl <| .cons (i := 19) rfl <| .nil) ?_
    refine wc_region ?_
    refine wl_new .none rfl (nf_alloc (z := .int .i64 0) (cs := [.int .i64 0]) (by kernel_rfl) rfl) (fun b9 => ?_)
    refine wl_chain0 .none (cf_store 0 rfl rfl rfl rfl rfl (by kernel_rfl)) (fun _ => ?_)
    refine wl_nil ?_
    refine wq_then ?_
    refine wc_seq ?_
    refine wc_region ?_
    refine wl_free .none rfl (yf_makeFunc rfl rfl) ?_
    refine wl_free .none rfl (yf_assign rfl) ?_
    refine wl_nil ?_
    refine wq_then ?_
    refine wc_seq ?_
    refine wc_label ?_
    refine wq_then ?_
    refine wc_cut (ι := {j : EvOut × Mm // EvE Rr μ j}) (fun j => [(6, ptrV b6), (7, ptrV b7), (8, .pointer (some ⟨b7, 4, none⟩))]) (fun j => Hp (fun k => k ∈ (memL μ).map (·.1)) w_0 ((b7, bk 41 (ouL j.1.1)) :: (b6, bk 41 (ouL zeroOut)) :: memL j.1.2) [] (fun _ => True)) ?_ (fun j => ?_)
    · skip
      refine wc_seq ?_
      refine wc_weak (.cons (i := 0) rfl <| .cons (i := 1) rfl <| .cons (i := 2) rfl <| .cons (i := 3) rfl <| .cons (i := 4) rfl <| .cons (i := 6) rfl <| .cons (i := 7) rfl <| .cons (i := 8) rfl <| .cons (i := 9) rfl <| .cons (i := 10) rfl <| .cons (i := 19) rfl <| .nil) ?_
      refine wc_region ?_
      refine wl_free .none rfl (yf_fieldAddr (off := 2) (sz := 0) rfl Tryd.underlying28 (by kernel_rfl) rfl) ?_
      refine wl_free .none rfl (yf_loadL 4 rfl rfl rfl Tryd.underlying26 rfl) ?_
      refine wl_free .none rfl (yf_lenS rfl Tryd.underlying26) ?_
      refine wl_free .none rfl (yf_move rfl) ?_
      refine wl_nil ?_
      refine wq_then ?_
      refine wc_block ?_
      refine wc_loop (ι := {j : EvJ // EvI b Rr μ j}) (fun j => [(2, .iface 44 (ptrV μ.M)), (6, ptrV b6), (7, ptrV b7), (8, .pointer (some ⟨b7, 4, none⟩)), (9, ptrV b9), (10, .func (.func 28) #[] #[ptrV b9, ptrV b3, ptrV b7]), (29, .slice aO b.ops.length cO), (30, .int .i64 b.ops.length), (31, .int .i64 j.1.k)]) (fun j => Hp (fun k => k ∈ (memL μ).map (·.1)) w_0 ((b9, bk 3 [.int .i64 j.1.cur]) :: (b7, bk 41 (ouL j.1.s)) :: (b3, bk 28 (hdC aA aP aO cA cP cO b)) :: (b6, bk 41 (ouL zeroOut)) :: (b4, bk 39 (u32s vars)) :: memL j.1.μ) [] (BRd (BdM μ w_0) ⟨b, aA, aP, aO, cA, cP, cO⟩)) (fun j => b.ops.length - j.1.k) ⟨⟨0, ⟨false, 0, b.at_.length, 0, vars⟩, 0, μ⟩, ok, .refl μ, Nat.zero_le _, hvo, .inl rfl, hRr⟩ ?_ ?_ (fun j => ?_)
      · exact .cons rfl <| .cons rfl <| .cons rfl <| .cons rfl <| .cons rfl <| .cons rfl <| .cons rfl <| .cons rfl <| .consE rfl rfl <| .nil
      · exact fun w h => Hp.permL h (.cons _ (.cons _ (.trans (.cons _ (.swap _ _ _)) (.swap _ _ _))))
      obtain ⟨⟨k, s, cur, μi⟩, oki, samei, lei, voi, curi, goi⟩ := j
      dsimp only at oki samei lei voi curi goi ⊢
      refine wc_seq ?_
      refine wc_region ?_
      refine wl_free .none rfl (yf_lss rfl rfl) ?_
      refine wl_nil ?_
      refine wq_then ?_
      refine wc_seq ?_
      refine wc_cond rfl (fun hc => ?_) (fun hc => ?_)
      · replace hc := of_decide_eq_true hc
        have hk : k < b.ops.length := by omega
        have hOk := hO (by omega)
        obtain ⟨o, ho⟩ : ∃ o, b.ops.getD k noOp = o := ⟨_, rfl⟩
        have hfb := form_bd (VF.form k hk)
        have hun := hi.uO _ (opD_mem hk)
        have hmk := VF.mark k hk
        rw [ho] at hfb hun hmk
        obtain ⟨⟨d0, d1⟩, ⟨a0, a1⟩, ⟨q0, q1⟩, e0, e1⟩ := hfb
        obtain ⟨n0, n1⟩ := hun
        have ga := voi.get a0 a1
        have gb := voi.get q0 q1
        have hcur : o.code ≠ 20 → 0 ≤ cur ∧ cur < (b.at_.length : Int) := fun h20 => by
          rcases curi with h | h
          · exfalso; subst h; have := VF.first; rw [ho] at this; exact h20 this
          · exact h
        obtain ⟨lx, ly, lb, hlv⟩ : ∃ lx ly lb, loadV μi.rs μi.bytes (IntKind.u32.wrap (s.get o.a + o.n)) (szL o.code) = [.int .u32 lx, .int .u32 ly, .bool lb] := by
          unfold loadV; split <;> exact ⟨_, _, _, rfl⟩
        obtain ⟨sy, sb, hsv⟩ : ∃ sy sb, chkV (chkL μi.rs (IntKind.u32.wrap (s.get o.a + o.n)) 2 0 (szL o.code)) = [.int .u32 sy, .bool sb] := by
          cases chkL μi.rs (IntKind.u32.wrap (s.get o.a + o.n)) 2 0 (szL o.code) <;> exact ⟨_, _, rfl⟩
        have hldM : ∀ W, OnL (memL μi) W → Calls Tryd.prog 116 #[ptrV μ.M, .int .u32 (IntKind.u32.wrap (s.get o.a + o.n)), .int .i64 (szL o.code)] W fun e w' => e = .returned (.tuple #[.int .u32 lx, .int .u32 ly, .bool lb]) ∧ Ext W w' := fun W hW => by
          have := load_any μi oki.toWf _ (u32_wrap (s.get o.a + o.n)) _ (szL_in o.code).1 (szL_in o.code).2 W hW
          rw [hlv, samei.M] at this; exact this
        have hstM : ∀ W, OnL (memL μi) W → Calls Tryd.prog 117 #[ptrV μ.M, .int .u32 (IntKind.u32.wrap (s.get o.a + o.n)), .int .i64 (szL o.code), .int .u32 (s.get o.b)] W fun e w' => ∃ μ' : Mm, (μ'.Ok ∧ μi.Same μ' ∧ μ'.bytes = storeB μi.rs μi.bytes (IntKind.u32.wrap (s.get o.a + o.n)) (szL o.code) (s.get o.b)) ∧ e = .returned (.tuple #[.int .u32 sy, .bool sb]) ∧ Hp (fun k => k ∈ (memL μi).map (·.1)) W (memL μ') [] (fun _ => True) w' := fun W hW => by
          have := store_any μi oki _ (u32_wrap (s.get o.a + o.n)) _ (szL_in o.code).1 (szL_in o.code).2 (s.get o.b) W hW
          rw [hsv, samei.M] at this; exact this
        have hrg := wordOp_range o.code (s.get o.a) (s.get o.b) ga gb
        refine wc_skip ?_
        refine wq_then ?_
        refine wc_seq ?_
        refine wc_block ?_
        refine wc_seq ?_
        refine wc_region ?_
        refine wl_free .none rfl (yf_indexAddrS (g := gO) (o := oO) (j := k) (es := 5) (by rw [← hOk]; rfl) rfl Tryd.underlying26 (by kernel_rfl) rfl hk rfl) ?_
        refine wl_free .none rfl (yf_loadRow (cs := opC o) rfl Tryd.underlying53 rfl (by kernel_rfl) (fun w h => by have := (HpG.x h).o; dsimp only at this; rw [hOk] at this; rw [← ho]; exact RdIn.opRow this hk rfl)) ?_
        refine wl_new .none rfl (nf_alloc (z := .agg #[.int .i64 0, .int .i64 0, .int .i64 0, .int .i64 0, .int .u32 0]) (cs := [.int .i64 0, .int .i64 0, .int .i64 0, .int .i64 0, .int .u32 0]) (by kernel_rfl) rfl) (fun b12 => ?_)
        refine wl_chain0 .none (cf_storeRow 0 rfl rfl rfl rfl rfl (by kernel_rfl)) (fun _ => ?_)
        refine wl_nil ?_
        refine wq_then ?_
        refine wc_seq ?_
        refine wc_weak (.cons (i := 2) rfl <| .cons (i := 6) rfl <| .cons (i := 7) rfl <| .cons (i := 8) rfl <| .cons (i := 9) rfl <| .cons (i := 10) rfl <| .cons (i := 12) rfl <| .cons (i := 29) rfl <| .cons (i := 30) rfl <| .cons (i := 31) rfl <| .cons (i := 32) rfl <| .nil) ?_
        refine wc_draw0 [0, 1, 2, 3, 4, 5, 6, 7, 8, 9, 10, 11, 12, 13] _ (by kernel_rfl) (by kernel_rfl) HpG.stab HpG.stab (fun _ h => HpG.drew h) (fun _ h => h) ?_
        refine wd_at rfl ?_
        (refine wd_free ?_ .none rfl (yf_move rfl) ?_; (· rfl);  skip)
        refine wd_at rfl ?_
        (refine wd_free ?_ .none rfl (yf_fieldAddr (off := 2) (sz := 0) rfl Tryd.underlying53 (by kernel_rfl) rfl) ?_; (· rfl);  skip)
        refine wd_at rfl ?_
        (refine wd_free ?_ .none rfl (yf_loadL 0 rfl rfl rfl Tryd.underlying3 rfl) ?_; (· rfl);  skip)
        refine wd_at rfl ?_
        (refine wd_free ?_ .none rfl (yf_nilCheck rfl) ?_; (· rfl);  skip)
        refine wd_at rfl ?_
        (refine wd_free ?_ .none rfl (yf_indexAddrA (es := 1) rfl rfl Tryd.underlying39 (by kernel_rfl) (Int.toNat_of_nonneg ?_).symm ?_ rfl) ?_; (· rfl); (· omega); (· first | decide | omega | (simp; omega)); skip)
        refine wd_at rfl ?_
        (refine wd_free ?_ .none rfl (yf_loadL (v := .int .u32 (s.get o.a)) 2 rfl rfl (ouL_at voi.1 (i := o.a.toNat) (by omega) (by omega)) Tryd.underlying35 rfl) ?_; (· rfl);  skip)
        refine wd_at rfl ?_
        (refine wd_free ?_ .none rfl (yf_move rfl) ?_; (· rfl);  skip)
        refine wd_at rfl ?_
        (refine wd_free ?_ .none rfl (yf_fieldAddr (off := 3) (sz := 0) rfl Tryd.underlying53 (by kernel_rfl) rfl) ?_; (· rfl);  skip)
        refine wd_at rfl ?_
        (refine wd_free ?_ .none rfl (yf_loadL 0 rfl rfl rfl Tryd.underlying3 rfl) ?_; (· rfl);  skip)
        refine wd_at rfl ?_
        (refine wd_free ?_ .none rfl (yf_nilCheck rfl) ?_; (· rfl);  skip)
        refine wd_at rfl ?_
        (refine wd_free ?_ .none rfl (yf_indexAddrA (es := 1) rfl rfl Tryd.underlying39 (by kernel_rfl) (Int.toNat_of_nonneg ?_).symm ?_ rfl) ?_; (· rfl); (· omega); (· first | decide | omega | (simp; omega)); skip)
        refine wd_at rfl ?_
        (refine wd_free ?_ .none rfl (yf_loadL (v := .int .u32 (s.get o.b)) 2 rfl rfl (ouL_at voi.1 (i := o.b.toNat) (by omega) (by omega)) Tryd.underlying35 rfl) ?_; (· rfl);  skip)
        refine wd_at rfl ?_
        (refine wd_free ?_ .none rfl (yf_assign rfl) ?_; (· rfl);  skip)
        refine wd_at rfl ?_
        (refine wd_free ?_ .none rfl (yf_assign rfl) ?_; (· rfl);  skip)
        refine wd_end ?_
        refine wq_then ?_
        refine wc_seq ?_
        refine wc_weak (.cons (i := 2) rfl <| .cons (i := 6) rfl <| .cons (i := 7) rfl <| .cons (i := 8) rfl <| .cons (i := 9) rfl <| .cons (i := 10) rfl <| .cons (i := 12) rfl <| .cons (i := 13) rfl <| .cons (i := 14) rfl <| .cons (i := 29) rfl <| .cons (i := 30) rfl <| .cons (i := 31) rfl <| .cons (i := 32) rfl <| .nil) ?_
        refine wc_region ?_
        refine wl_free .none rfl (yf_assign rfl) ?_
        refine wl_nil ?_
        refine wq_then ?_
        refine wc_cut (ι := {j : Bool × EvJ // EvS b.at_ o s cur μi.pm μ j}) (fun j => [(2, .iface 44 (ptrV μ.M)), (6, ptrV b6), (7, ptrV b7), (8, .pointer (some ⟨b7, 4, none⟩)), (9, ptrV b9), (10, .func (.func 28) #[] #[ptrV b9, ptrV b3, ptrV b7]), (15, .bool j.1.1), (29, .slice aO b.ops.length cO), (30, .int .i64 b.ops.length), (31, .int .i64 k)]) (fun j => Hp (fun k => k ∈ (memL μ).map (·.1)) w_0 (evL b12 b9 b7 b6 b4 b3 (hdC aA aP aO cA cP cO b) vars o j.1.2.s j.1.2.cur j.1.2.μ) [] (BRd (BdM μ w_0) ⟨b, aA, aP, aO, cA, cP, cO⟩)) ?_ (fun j => ?_)
        · skip
          refine wc_seq ?_
          refine wc_region ?_
          refine wl_free .none rfl (yf_fieldAddr (off := 0) (sz := 0) rfl Tryd.underlying53 (by kernel_rfl) rfl) ?_
          refine wl_free .none rfl (yf_loadL 0 rfl rfl rfl Tryd.underlying3 rfl) ?_
          refine wl_nil ?_
          refine wq_then ?_
          refine wc_block ?_
          refine wc_seq ?_
          refine wc_weak (.cons (i := 2) rfl <| .cons (i := 6) rfl <| .cons (i := 7) rfl <| .cons (i := 8) rfl <| .cons (i := 9) rfl <| .cons (i := 10) rfl <| .cons (i := 12) rfl <| .cons (i := 13) rfl <| .cons (i := 14) rfl <| .cons (i := 15) rfl <| .cons (i := 29) rfl <| .cons (i := 30) rfl <| .cons (i := 31) rfl <| .cons (i := 32) rfl <| .cons (i := 48) rfl <| .nil) ?_
          refine wc_region ?_
          refine wl_free .none rfl (yf_eql rfl rfl) ?_
          refine wl_free .none rfl (yf_assign rfl) ?_
          refine wl_nil ?_
          refine wq_then ?_
          refine wc_cond rfl (fun hc => ?_) (fun hc => ?_)
          · replace hc := eq_of_beq hc
            refine wc_weak (.cons (i := 2) rfl <| .cons (i := 6) rfl <| .cons (i := 7) rfl <| .cons (i := 8) rfl <| .cons (i := 9) rfl <| .cons (i := 10) rfl <| .cons (i := 12) rfl <| .cons (i := 13) rfl <| .cons (i := 14) rfl <| .cons (i := 15) rfl <| .cons (i := 29) rfl <| .cons (i := 30) rfl <| .cons (i := 31) rfl <| .cons (i := 32) rfl <| .cons (i := 48) rfl <| .cons (i := 59) rfl <| .nil) ?_
            refine wc_region ?_
            refine wl_free .none rfl (yf_fieldAddr (off := 4) (sz := 0) rfl Tryd.underlying53 (by kernel_rfl) rfl) ?_
            refine wl_free .none rfl (yf_loadL 0 rfl rfl rfl Tryd.underlying35 rfl) ?_
            (refine wl_free .none rfl (yf_conv rfl (by kernel_rfl) Tryd.underlying3 (i64_in _ ?_ ?_)) ?_; (· omega); (· omega); skip)
            refine wl_chain0 .none (cf_store 1 rfl rfl rfl rfl rfl (by kernel_rfl)) (fun _ => ?_)
            refine wl_nil ?_
            refine wq_block ?_
            refine wq_meet (ι := {j : Bool × EvJ // EvS b.at_ o s cur μi.pm μ j}) ⟨(true, ⟨k, s, o.n, μi⟩), ⟨oki, samei, voi, (hmk hc), (by rw [evStepM_other (by omega)]; simp [evStep, hc])⟩⟩ ?_ (fun w h => h)
            · (repeat (refine .cons rfl ?_)); exact .nil
          · replace hc := beq_no hc
            refine wc_seq ?_
            refine wc_weak (.cons (i := 2) rfl <| .cons (i := 6) rfl <| .cons (i := 7) rfl <| .cons (i := 8) rfl <| .cons (i := 9) rfl <| .cons (i := 10) rfl <| .cons (i := 12) rfl <| .cons (i := 13) rfl <| .cons (i := 14) rfl <| .cons (i := 15) rfl <| .cons (i := 29) rfl <| .cons (i := 30) rfl <| .cons (i := 31) rfl <| .cons (i := 32) rfl <| .cons (i := 48) rfl <| .cons (i := 59) rfl <| .nil) ?_
            refine wc_region ?_
            refine wl_free .none rfl (yf_eql rfl rfl) ?_
            refine wl_free .none rfl (yf_assign rfl) ?_
            refine wl_nil ?_
            refine wq_then ?_
            refine wc_cond rfl (fun hc => ?_) (fun hc => ?_)
            · replace hc := eq_of_beq hc
              refine wc_weak (.cons (i := 2) rfl <| .cons (i := 6) rfl <| .cons (i := 7) rfl <| .cons (i := 8) rfl <| .cons (i := 9) rfl <| .cons (i := 10) rfl <| .cons (i := 12) rfl <| .cons (i := 13) rfl <| .cons (i := 14) rfl <| .cons (i := 15) rfl <| .cons (i := 29) rfl <| .cons (i := 30) rfl <| .cons (i := 31) rfl <| .cons (i := 32) rfl <| .cons (i := 48) rfl <| .cons (i := 59) rfl <| .cons (i := 64) rfl <| .nil) ?_
              refine wc_still 7 (by kernel_rfl) (by kernel_rfl) (fun _ h => HpG.drew h) ?_
              refine wt_free .none rfl (yf_move rfl) ?_
              refine wt_free .none rfl (yf_fieldAddr (off := 1) (sz := 0) rfl Tryd.underlying53 (by kernel_rfl) rfl) ?_
              refine wt_free .none rfl (yf_loadL 0 rfl rfl rfl Tryd.underlying3 rfl) ?_
              refine wt_free .none rfl (yf_fieldAddr (off := 4) (sz := 0) rfl Tryd.underlying53 (by kernel_rfl) rfl) ?_
              refine wt_free .none rfl (yf_loadL 0 rfl rfl rfl Tryd.underlying35 rfl) ?_
              refine wt_free .none rfl (yf_nilCheck rfl) ?_
              (refine wt_free .none rfl (yf_indexAddrA (es := 1) rfl rfl Tryd.underlying39 (by kernel_rfl) (Int.toNat_of_nonneg ?_).symm ?_ rfl) ?_; (· omega); (· first | decide | omega | (simp; omega)); skip)
              refine wt_tail ?_
              refine wl_chain0 .none (cf_store 2 rfl rfl rfl rfl (blt_of (by rw [ouL_len, voi.1]; omega)) (by kernel_rfl)) (fun _ => ?_)
              refine wl_nil ?_
              refine wq_block ?_
              refine wq_meet (ι := {j : Bool × EvJ // EvS b.at_ o s cur μi.pm μ j}) ⟨(true, ⟨k, s.set o.d o.n, cur, μi⟩), ⟨oki, samei, (voi.set ⟨n0, n1⟩), (hcur (by omega)), (by rw [evStepM_other (by omega)]; simp [evStep, hc])⟩⟩ ?_ (fun w h => evL_put (d := o.d) h (by omega))
              · (repeat (refine .cons rfl ?_)); exact .nil
            · replace hc := beq_no hc
              refine wc_seq ?_
              refine wc_weak (.cons (i := 2) rfl <| .cons (i := 6) rfl <| .cons (i := 7) rfl <| .cons (i := 8) rfl <| .cons (i := 9) rfl <| .cons (i := 10) rfl <| .cons (i := 12) rfl <| .cons (i := 13) rfl <| .cons (i := 14) rfl <| .cons (i := 15) rfl <| .cons (i := 29) rfl <| .cons (i := 30) rfl <| .cons (i := 31) rfl <| .cons (i := 32) rfl <| .cons (i := 48) rfl <| .cons (i := 59) rfl <| .cons (i := 64) rfl <| .nil) ?_
              refine wc_region ?_
              refine wl_free .none rfl (yf_eql rfl rfl) ?_
              refine wl_free .none rfl (yf_assign rfl) ?_
              refine wl_nil ?_
              refine wq_then ?_
              refine wc_cond rfl (fun hc => ?_) (fun hc => ?_)
              · replace hc := eq_of_beq hc
                refine wc_weak (.cons (i := 2) rfl <| .cons (i := 6) rfl <| .cons (i := 7) rfl <| .cons (i := 8) rfl <| .cons (i := 9) rfl <| .cons (i := 10) rfl <| .cons (i := 12) rfl <| .cons (i := 13) rfl <| .cons (i := 14) rfl <| .cons (i := 15) rfl <| .cons (i := 29) rfl <| .cons (i := 30) rfl <| .cons (i := 31) rfl <| .cons (i := 32) rfl <| .cons (i := 48) rfl <| .cons (i := 59) rfl <| .cons (i := 64) rfl <| .cons (i := 73) rfl <| .nil) ?_
                refine wc_still 6 (by kernel_rfl) (by kernel_rfl) (fun _ h => HpG.drew h) ?_
                refine wt_free .none rfl (yf_move rfl) ?_
                refine wt_free .none rfl (yf_fieldAddr (off := 1) (sz := 0) rfl Tryd.underlying53 (by kernel_rfl) rfl) ?_
                refine wt_free .none rfl (yf_loadL 0 rfl rfl rfl Tryd.underlying3 rfl) ?_
                refine wt_free .none rfl (yf_move rfl) ?_
                refine wt_free .none rfl (yf_nilCheck rfl) ?_
                (refine wt_free .none rfl (yf_indexAddrA (es := 1) rfl rfl Tryd.underlying39 (by kernel_rfl) (Int.toNat_of_nonneg ?_).symm ?_ rfl) ?_; (· omega); (· first | decide | omega | (simp; omega)); skip)
                refine wt_tail ?_
                refine wl_chain0 .none (cf_store 2 rfl rfl rfl rfl (blt_of (by rw [ouL_len, voi.1]; omega)) (by kernel_rfl)) (fun _ => ?_)
                refine wl_nil ?_
                refine wq_block ?_
                refine wq_meet (ι := {j : Bool × EvJ // EvS b.at_ o s cur μi.pm μ j}) ⟨(true, ⟨k, s.set o.d (s.get o.a), cur, μi⟩), ⟨oki, samei, (voi.set ga), (hcur (by omega)), (by rw [evStepM_other (by omega)]; simp [evStep, hc])⟩⟩ ?_ (fun w h => evL_put (d := o.d) h (by omega))
                · (repeat (refine .cons rfl ?_)); exact .nil
              · replace hc := beq_no hc
                refine wc_cut (ι := {x : Bool // x = true ↔ o.code = 16 ∨ o.code = 17}) (fun x => (81, .bool x.1) :: evA μ.M b3 b6 b7 b9 b12 aO cO b o s k) (fun _ => Hp (fun k => k ∈ (memL μ).map (·.1)) w_0 (evL b12 b9 b7 b6 b4 b3 (hdC aA aP aO cA cP cO b) vars o s cur μi) [] (BRd (BdM μ w_0) ⟨b, aA, aP, aO, cA, cP, cO⟩)) ?_ (fun x => ?_)
                · skip
                  refine wc_seq ?_
                  refine wc_weak (.cons (i := 2) rfl <| .cons (i := 6) rfl <| .cons (i := 7) rfl <| .cons (i := 8) rfl <| .cons (i := 9) rfl <| .cons (i := 10) rfl <| .cons (i := 12) rfl <| .cons (i := 13) rfl <| .cons (i := 14) rfl <| .cons (i := 15) rfl <| .cons (i := 29) rfl <| .cons (i := 30) rfl <| .cons (i := 31) rfl <| .cons (i := 32) rfl <| .cons (i := 48) rfl <| .cons (i := 59) rfl <| .cons (i := 64) rfl <| .cons (i := 73) rfl <| .nil) ?_
                  refine wc_region ?_
                  refine wl_free .none rfl (yf_eql rfl rfl) ?_
                  refine wl_free .none rfl (yf_assign rfl) ?_
                  refine wl_nil ?_
                  refine wq_then ?_
                  refine wc_cond rfl (fun hc => ?_) (fun hc => ?_)
                  · replace hc := eq_of_beq hc
                    first | have hcc := hx.1 hc | skip
                    refine wc_skip ?_
                    refine wq_meet (ι := {x : Bool // x = true ↔ o.code = 16 ∨ o.code = 17}) ⟨(o.code == 16), by simp [hc]⟩ ?_ (fun w h => h)
                    · (repeat (refine .cons rfl ?_)); exact .nil
                  · replace hc := beq_no hc
                    first | have hcc : ¬ (o.code = 16 ∨ o.code = 17) := (fun h => by rw [hx.2 h] at hc; cases hc) | skip
                    refine wc_weak (.cons (i := 2) rfl <| .cons (i := 6) rfl <| .cons (i := 7) rfl <| .cons (i := 8) rfl <| .cons (i := 9) rfl <| .cons (i := 10) rfl <| .cons (i := 12) rfl <| .cons (i := 13) rfl <| .cons (i := 14) rfl <| .cons (i := 15) rfl <| .cons (i := 29) rfl <| .cons (i := 30) rfl <| .cons (i := 31) rfl <| .cons (i := 32) rfl <| .cons (i := 48) rfl <| .cons (i := 59) rfl <| .cons (i := 64) rfl <| .cons (i := 73) rfl <| .cons (i := 81) rfl <| .nil) ?_
                    refine wc_region ?_
                    refine wl_free .none rfl (yf_eql rfl rfl) ?_
                    refine wl_free .none rfl (yf_assign rfl) ?_
                    refine wl_nil ?_
                    refine wq_meet (ι := {x : Bool // x = true ↔ o.code = 16 ∨ o.code = 17}) ⟨(o.code == 17), by simp; omega⟩ ?_ (fun w h => h)
                    · (repeat (refine .cons rfl ?_)); exact .nil
                · obtain ⟨x, hx⟩ := x
                  dsimp only
                  refine wc_cond rfl (fun hc => ?_) (fun hc => ?_)
                  · skip
                    first | have hcc := hx.1 hc | skip
                    refine wc_seq ?_
                    refine wc_region ?_
                    refine wl_free .none rfl (yf_move rfl) ?_
                    refine wl_free .none rfl (yf_neNilIface rfl rfl Tryd.underlying74) ?_
                    refine wl_free .none rfl (yf_assign rfl) ?_
                    refine wl_nil ?_
                    refine wq_then ?_
                    refine wc_seq ?_
                    refine wc_weak (.cons (i := 2) rfl <| .cons (i := 6) rfl <| .cons (i := 7) rfl <| .cons (i := 8) rfl <| .cons (i := 9) rfl <| .cons (i := 10) rfl <| .cons (i := 12) rfl <| .cons (i := 13) rfl <| .cons (i := 14) rfl <| .cons (i := 15) rfl <| .cons (i := 29) rfl <| .cons (i := 30) rfl <| .cons (i := 31) rfl <| .cons (i := 48) rfl <| .cons (i := 81) rfl <| .nil) ?_
                    refine wc_region ?_
                    refine wl_free .none rfl (yf_move rfl) ?_
                    refine wl_nil ?_
                    refine wq_then ?_
                    refine wc_cond rfl (fun hc => ?_) (fun hc => ?_)
                    · skip
                      refine wc_seq ?_
                      refine wc_region ?_
                      refine wl_free .none rfl (yf_assign rfl) ?_
                      refine wl_nil ?_
                      refine wq_then ?_
                      refine wc_seq ?_
                      refine wc_drawN [0, 1, 2, 3, 4, 5, 6, 7, 8, 9, 10, 11, 12, 13, 14, 15, 16, 17] (Blk b12 (bk 53 (opC o))) (by kernel_rfl) (by kernel_rfl) Blk.stab (fun w h => HpG.blk h (k := 0) rfl) (fun n0 hn0 => ?_)
                      refine wd_at rfl ?_
                      (refine wd_free ?_ .none rfl (yf_move rfl) ?_; (· rfl);  skip)
                      refine wd_at rfl ?_
                      (refine wd_free ?_ .none rfl (yf_move rfl) ?_; (· rfl);  skip)
                      refine wd_at rfl ?_
                      (refine wd_free ?_ .none rfl (yf_fieldAddr (off := 4) (sz := 0) rfl Tryd.underlying53 (by kernel_rfl) rfl) ?_; (· rfl);  skip)
                      refine wd_at rfl ?_
                      (refine wd_free ?_ .none rfl (yf_loadJ rfl rfl Tryd.underlying35 rfl) ?_; (· rfl);  skip)
                      refine wd_at rfl ?_
                      (refine wd_free ?_ .none rfl (yf_add rfl rfl rfl) ?_; (· rfl);  skip)
                      refine wd_at rfl ?_
                      (refine wd_free ?_ .none rfl (yf_fieldAddr (off := 0) (sz := 0) rfl Tryd.underlying53 (by kernel_rfl) rfl) ?_; (· rfl);  skip)
                      refine wd_at rfl ?_
                      (refine wd_free ?_ .none rfl (yf_loadJ rfl rfl Tryd.underlying3 rfl) ?_; (· rfl);  skip)
                      refine wd_at rfl ?_
                      refine wd_pure .none rfl (by kernel_rfl) rfl (fun _ _ hj hx => Blk.onE hj hx) (fun w hw => size_call o.code w) ?_
                      refine wd_at rfl ?_
                      (refine wd_free ?_ .none rfl (yf_makeFunc rfl rfl) ?_; (· rfl);  skip)
                      refine wd_at rfl ?_
                      (refine wd_free ?_ .none rfl (yf_nilCheckM rfl (load_ahead _)) ?_; (· rfl);  skip)
                      refine wd_at rfl ?_
                      (refine wd_free ?_ .none rfl (yf_move rfl) ?_; (· rfl);  skip)
                      refine wd_at rfl ?_
                      refine wd_invokeP .none rfl rfl (load_method _) (by kernel_rfl) rfl (fun _ _ hj hx => Blk.onE hj hx) (fun w hw => hldM w (fun p hp => HpG.own hw p (List.mem_cons_of_mem _ (List.mem_cons_of_mem _ (List.mem_cons_of_mem _ (List.mem_cons_of_mem _ (List.mem_cons_of_mem _ (List.mem_cons_of_mem _ hp)))))))) ?_
                      refine wd_at rfl ?_
                      (refine wd_free ?_ .none rfl (yf_move rfl) ?_; (· rfl);  skip)
                      refine wd_at rfl ?_
                      (refine wd_free ?_ .none rfl (yf_extract rfl rfl) ?_; (· rfl);  skip)
                      refine wd_at rfl ?_
                      (refine wd_free ?_ .none rfl (yf_extract rfl rfl) ?_; (· rfl);  skip)
                      refine wd_at rfl ?_
                      (refine wd_free ?_ .none rfl (yf_extract rfl rfl) ?_; (· rfl);  skip)
                      refine wd_at rfl ?_
                      (refine wd_free ?_ .none rfl (yf_assign rfl) ?_; (· rfl);  skip)
                      refine wd_at rfl ?_
                      (refine wd_free ?_ .none rfl (yf_assign rfl) ?_; (· rfl);  skip)
                      refine wd_endH ?_
                      refine wq_then ?_
                      refine wc_seq ?_
                      refine wc_weak (.cons (i := 2) rfl <| .cons (i := 6) rfl <| .cons (i := 7) rfl <| .cons (i := 8) rfl <| .cons (i := 9) rfl <| .cons (i := 10) rfl <| .cons (i := 12) rfl <| .cons (i := 13) rfl <| .cons (i := 14) rfl <| .cons (i := 15) rfl <| .cons (i := 16) rfl <| .cons (i := 29) rfl <| .cons (i := 30) rfl <| .cons (i := 31) rfl <| .cons (i := 48) rfl <| .cons (i := 81) rfl <| .cons (i := 86) rfl <| .nil) ?_
                      refine wc_region ?_
                      refine wl_free .none rfl (yf_move rfl) ?_
                      refine wl_nil ?_
                      refine wq_then ?_
                      refine wc_cond rfl (fun hc => ?_) (fun hc => ?_)
                      · skip
                        subst hc
                        have hld : ldP μi.pm (IntKind.u32.wrap (s.get o.a + o.n)) (szL o.code) = some lx := loadV_ld hlv
                        refine wc_still 6 (by kernel_rfl) (by kernel_rfl) (fun _ h => HpG.drew h) ?_
                        refine wt_free .none rfl (yf_move rfl) ?_
                        refine wt_free .none rfl (yf_fieldAddr (off := 1) (sz := 0) rfl Tryd.underlying53 (by kernel_rfl) rfl) ?_
                        refine wt_free .none rfl (yf_loadL 0 rfl rfl rfl Tryd.underlying3 rfl) ?_
                        refine wt_free .none rfl (yf_move rfl) ?_
                        refine wt_free .none rfl (yf_nilCheck rfl) ?_
                        (refine wt_free .none rfl (yf_indexAddrA (es := 1) rfl rfl Tryd.underlying39 (by kernel_rfl) (Int.toNat_of_nonneg ?_).symm ?_ rfl) ?_; (· omega); (· first | decide | omega | (simp; omega)); skip)
                        refine wt_tail ?_
                        refine wl_chain0 .none (cf_store 2 rfl rfl rfl rfl (blt_of (by rw [ouL_len, voi.1]; omega)) (by kernel_rfl)) (fun _ => ?_)
                        refine wl_nil ?_
                        refine wq_block ?_
                        refine wq_meet (ι := {j : Bool × EvJ // EvS b.at_ o s cur μi.pm μ j}) ⟨(true, ⟨k, s.set o.d lx, cur, μi⟩), ⟨oki, samei, voi.set (ldP_u32 (mm_ok oki) (szL_in _).1 hld), hcur (by omega), by rw [evStepM_ld hcc, hld]; rfl⟩⟩ ?_ (fun w h => evL_put (d := o.d) h (by omega))
                        · (repeat (refine .cons rfl ?_)); exact .nil
                      · skip
                        subst hc
                        have hld : ldP μi.pm (IntKind.u32.wrap (s.get o.a + o.n)) (szL o.code) = none := loadV_ld hlv
                        refine wc_skip ?_
                        refine wq_block ?_
                        refine wq_meet (ι := {j : Bool × EvJ // EvS b.at_ o s cur μi.pm μ j}) ⟨(false, ⟨k, s, cur, μi⟩), ⟨oki, samei, voi, hcur (by omega), by rw [evStepM_ld hcc, hld]; rfl⟩⟩ ?_ (fun w h => h)
                        · (repeat (refine .cons rfl ?_)); exact .nil
                    · skip
                      cases hc
                  · skip
                    first | have hcc : ¬ (o.code = 16 ∨ o.code = 17) := (fun h => by rw [hx.2 h] at hc; cases hc) | skip
                    refine wc_cut (ι := {x : Bool // x = true ↔ o.code = 18 ∨ o.code = 19}) (fun x => (110, .bool x.1) :: evA μ.M b3 b6 b7 b9 b12 aO cO b o s k) (fun _ => Hp (fun k => k ∈ (memL μ).map (·.1)) w_0 (evL b12 b9 b7 b6 b4 b3 (hdC aA aP aO cA cP cO b) vars o s cur μi) [] (BRd (BdM μ w_0) ⟨b, aA, aP, aO, cA, cP, cO⟩)) ?_ (fun x => ?_)
                    · skip
                      refine wc_seq ?_
                      refine wc_region ?_
                      refine wl_free .none rfl (yf_eql rfl rfl) ?_
                      refine wl_free .none rfl (yf_assign rfl) ?_
                      refine wl_nil ?_
                      refine wq_then ?_
                      refine wc_cond rfl (fun hc => ?_) (fun hc => ?_)
                      · replace hc := eq_of_beq hc
                        first | have hcc := hx.1 hc | skip
                        refine wc_skip ?_
                        refine wq_meet (ι := {x : Bool // x = true ↔ o.code = 18 ∨ o.code = 19}) ⟨(o.code == 18), by simp [hc]⟩ ?_ (fun w h => h)
                        · (repeat (refine .cons rfl ?_)); exact .nil
                      · replace hc := beq_no hc
                        first | have hcc : ¬ (o.code = 18 ∨ o.code = 19) := (fun h => by rw [hx.2 h] at hc; cases hc) | skip
                        refine wc_weak (.cons (i := 2) rfl <| .cons (i := 6) rfl <| .cons (i := 7) rfl <| .cons (i := 8) rfl <| .cons (i := 9) rfl <| .cons (i := 10) rfl <| .cons (i := 12) rfl <| .cons (i := 13) rfl <| .cons (i := 14) rfl <| .cons (i := 15) rfl <| .cons (i := 29) rfl <| .cons (i := 30) rfl <| .cons (i := 31) rfl <| .cons (i := 48) rfl <| .cons (i := 81) rfl <| .cons (i := 110) rfl <| .nil) ?_
                        refine wc_region ?_
                        refine wl_free .none rfl (yf_eql rfl rfl) ?_
                        refine wl_free .none rfl (yf_assign rfl) ?_
                        refine wl_nil ?_
                        refine wq_meet (ι := {x : Bool // x = true ↔ o.code = 18 ∨ o.code = 19}) ⟨(o.code == 19), by simp; omega⟩ ?_ (fun w h => h)
                        · (repeat (refine .cons rfl ?_)); exact .nil
                    · obtain ⟨x, hx⟩ := x
                      dsimp only
                      refine wc_cond rfl (fun hc => ?_) (fun hc => ?_)
                      · skip
                        first | have hcc := hx.1 hc | skip
                        refine wc_seq ?_
                        refine wc_region ?_
                        refine wl_free .none rfl (yf_move rfl) ?_
                        refine wl_free .none rfl (yf_neNilIface rfl rfl Tryd.underlying74) ?_
                        refine wl_free .none rfl (yf_assign rfl) ?_
                        refine wl_nil ?_
                        refine wq_then ?_
                        refine wc_seq ?_
                        refine wc_weak (.cons (i := 2) rfl <| .cons (i := 6) rfl <| .cons (i := 7) rfl <| .cons (i := 8) rfl <| .cons (i := 9) rfl <| .cons (i := 10) rfl <| .cons (i := 12) rfl <| .cons (i := 13) rfl <| .cons (i := 14) rfl <| .cons (i := 15) rfl <| .cons (i := 29) rfl <| .cons (i := 30) rfl <| .cons (i := 31) rfl <| .cons (i := 48) rfl <| .cons (i := 110) rfl <| .nil) ?_
                        refine wc_region ?_
                        refine wl_free .none rfl (yf_move rfl) ?_
                        refine wl_nil ?_
                        refine wq_then ?_
                        refine wc_cond rfl (fun hc => ?_) (fun hc => ?_)
                        · skip
                          refine wc_drawN [0, 1, 2, 3, 4, 5, 6, 7, 8, 9, 10, 11, 12, 13, 14, 15, 16] (Blk b12 (bk 53 (opC o))) (by kernel_rfl) (by kernel_rfl) Blk.stab (fun w h => HpG.blk h (k := 0) rfl) (fun n0 hn0 => ?_)
                          refine wd_at rfl ?_
                          (refine wd_free ?_ .none rfl (yf_move rfl) ?_; (· rfl);  skip)
                          refine wd_at rfl ?_
                          (refine wd_free ?_ .none rfl (yf_move rfl) ?_; (· rfl);  skip)
                          refine wd_at rfl ?_
                          (refine wd_free ?_ .none rfl (yf_fieldAddr (off := 4) (sz := 0) rfl Tryd.underlying53 (by kernel_rfl) rfl) ?_; (· rfl);  skip)
                          refine wd_at rfl ?_
                          (refine wd_free ?_ .none rfl (yf_loadJ rfl rfl Tryd.underlying35 rfl) ?_; (· rfl);  skip)
                          refine wd_at rfl ?_
                          (refine wd_free ?_ .none rfl (yf_add rfl rfl rfl) ?_; (· rfl);  skip)
                          refine wd_at rfl ?_
                          (refine wd_free ?_ .none rfl (yf_fieldAddr (off := 0) (sz := 0) rfl Tryd.underlying53 (by kernel_rfl) rfl) ?_; (· rfl);  skip)
                          refine wd_at rfl ?_
                          (refine wd_free ?_ .none rfl (yf_loadJ rfl rfl Tryd.underlying3 rfl) ?_; (· rfl);  skip)
                          refine wd_at rfl ?_
                          refine wd_pure .none rfl (by kernel_rfl) rfl (fun _ _ hj hx => Blk.onE hj hx) (fun w hw => size_call o.code w) ?_
                          refine wd_at rfl ?_
                          (refine wd_free ?_ .none rfl (yf_move rfl) ?_; (· rfl);  skip)
                          refine wd_at rfl ?_
                          (refine wd_free ?_ .none rfl (yf_makeFunc rfl rfl) ?_; (· rfl);  skip)
                          refine wd_at rfl ?_
                          (refine wd_free ?_ .none rfl (yf_nilCheckM rfl (store_ahead _)) ?_; (· rfl);  skip)
                          refine wd_at rfl ?_
                          (refine wd_free ?_ .none rfl (yf_move rfl) ?_; (· rfl);  skip)
                          refine wd_at rfl ?_
                          refine wd_invokeM [(b12, bk 53 (opC o)), (b9, bk 3 [.int .i64 cur]), (b7, bk 41 (ouL s)), (b3, bk 28 (hdC aA aP aO cA cP cO b)), (b6, bk 41 (ouL zeroOut)), (b4, bk 39 (u32s vars))] (memL μi) .none rfl rfl (store_method _) (by kernel_rfl) rfl (fun w w' hw hj hk => Blk.keep hj hk (HpG.notin hw (p := (b12, _)) (List.mem_cons_self ..))) (fun w hm _ => hstM w hm) (fun μ' hμ => ?_)
                          obtain ⟨ok', same', by'⟩ := hμ
                          have hst := chkV_st (bs := μi.bytes) (v := s.get o.b) hsv
                          refine wd_at rfl ?_
                          (refine wd_free ?_ .none rfl (yf_move rfl) ?_; (· rfl);  skip)
                          refine wd_at rfl ?_
                          (refine wd_free ?_ .none rfl (yf_extract rfl rfl) ?_; (· rfl);  skip)
                          refine wd_at rfl ?_
                          (refine wd_free ?_ .none rfl (yf_extract rfl rfl) ?_; (· rfl);  skip)
                          refine wd_at rfl ?_
                          (refine wd_free ?_ .none rfl (yf_assign rfl) ?_; (· rfl);  skip)
                          refine wd_endH ?_
                          refine wq_block ?_
                          refine wq_meet (ι := {j : Bool × EvJ // EvS b.at_ o s cur μi.pm μ j}) ⟨(sb, ⟨k, s, cur, μ'⟩), ⟨ok', samei.trans same', voi, hcur (by omega), by
                            rw [evStepM_st hcc]
                            show (match stP (some (μi.rs, μi.bytes)) _ _ _ with | some m' => _ | none => _) = _
                            rw [hst.1]
                            have hp : μ'.pm = some (μi.rs, storeB μi.rs μi.bytes (IntKind.u32.wrap (s.get o.a + o.n)) (szL o.code) (s.get o.b)) := by rw [Mm.pm, same'.rs, by']
                            cases sb
                            · have h2 := hst.2 rfl
                              rw [h2] at hp
                              rw [hp]; rfl
                            · rw [hp]; rfl⟩⟩ ?_ (fun w h => h)
                          · (repeat (refine .cons rfl ?_)); exact .nil
                        · skip
                          cases hc
                      · skip
                        first | have hcc : ¬ (o.code = 18 ∨ o.code = 19) := (fun h => by rw [hx.2 h] at hc; cases hc) | skip
                        refine wc_seq ?_
                        refine wc_region ?_
                        refine wl_free .none rfl (yf_eql rfl rfl) ?_
                        refine wl_free .none rfl (yf_assign rfl) ?_
                        refine wl_nil ?_
                        refine wq_then ?_
                        refine wc_cond rfl (fun hc => ?_) (fun hc => ?_)
                        · replace hc := eq_of_beq hc
                          refine wc_weak (.cons (i := 2) rfl <| .cons (i := 6) rfl <| .cons (i := 7) rfl <| .cons (i := 8) rfl <| .cons (i := 9) rfl <| .cons (i := 10) rfl <| .cons (i := 12) rfl <| .cons (i := 13) rfl <| .cons (i := 14) rfl <| .cons (i := 15) rfl <| .cons (i := 29) rfl <| .cons (i := 30) rfl <| .cons (i := 31) rfl <| .cons (i := 48) rfl <| .cons (i := 110) rfl <| .cons (i := 132) rfl <| .nil) ?_
                          refine wc_region ?_
                          refine wl_free .none rfl (yf_move rfl) ?_
                          refine wl_free .none rfl (yf_neq rfl rfl) ?_
                          refine wl_free .none rfl (yf_assign rfl) ?_
                          refine wl_nil ?_
                          refine wq_block ?_
                          refine wq_meet (ι := {j : Bool × EvJ // EvS b.at_ o s cur μi.pm μ j}) ⟨(s.get o.a != 0, ⟨k, s, cur, μi⟩), ⟨oki, samei, voi, hcur (by omega), by rw [evStepM_other (by omega)]; by_cases hz : s.get o.a = 0 <;> simp [evStep, hc, hz]⟩⟩ ?_ (fun w h => h)
                          · (repeat (refine .cons rfl ?_)); exact .nil
                        · replace hc := beq_no hc
                          refine wc_seq ?_
                          refine wc_weak (.cons (i := 2) rfl <| .cons (i := 6) rfl <| .cons (i := 7) rfl <| .cons (i := 8) rfl <| .cons (i := 9) rfl <| .cons (i := 10) rfl <| .cons (i := 12) rfl <| .cons (i := 13) rfl <| .cons (i := 14) rfl <| .cons (i := 15) rfl <| .cons (i := 29) rfl <| .cons (i := 30) rfl <| .cons (i := 31) rfl <| .cons (i := 48) rfl <| .cons (i := 110) rfl <| .cons (i := 132) rfl <| .nil) ?_
                          refine wc_region ?_
                          refine wl_free .none rfl (yf_eql rfl rfl) ?_
                          refine wl_free .none rfl (yf_assign rfl) ?_
                          refine wl_nil ?_
                          refine wq_then ?_
                          refine wc_cond rfl (fun hc => ?_) (fun hc => ?_)
                          · replace hc := eq_of_beq hc
                            refine wc_weak (.cons (i := 2) rfl <| .cons (i := 6) rfl <| .cons (i := 7) rfl <| .cons (i := 8) rfl <| .cons (i := 9) rfl <| .cons (i := 10) rfl <| .cons (i := 12) rfl <| .cons (i := 13) rfl <| .cons (i := 14) rfl <| .cons (i := 15) rfl <| .cons (i := 29) rfl <| .cons (i := 30) rfl <| .cons (i := 31) rfl <| .cons (i := 48) rfl <| .cons (i := 110) rfl <| .cons (i := 132) rfl <| .cons (i := 136) rfl <| .nil) ?_
                            refine wc_region ?_
                            refine wl_free .none rfl (yf_assign rfl) ?_
                            refine wl_nil ?_
                            refine wq_block ?_
                            refine wq_meet (ι := {j : Bool × EvJ // EvS b.at_ o s cur μi.pm μ j}) ⟨(false, ⟨k, s, cur, μi⟩), ⟨oki, samei, voi, hcur (by omega), by rw [evStepM_other (by omega)]; simp [evStep, hc]⟩⟩ ?_ (fun w h => h)
                            · (repeat (refine .cons rfl ?_)); exact .nil
                          · replace hc := beq_no hc
                            refine wc_seq ?_
                            refine wc_weak (.cons (i := 2) rfl <| .cons (i := 6) rfl <| .cons (i := 7) rfl <| .cons (i := 8) rfl <| .cons (i := 9) rfl <| .cons (i := 10) rfl <| .cons (i := 12) rfl <| .cons (i := 13) rfl <| .cons (i := 14) rfl <| .cons (i := 15) rfl <| .cons (i := 29) rfl <| .cons (i := 30) rfl <| .cons (i := 31) rfl <| .cons (i := 48) rfl <| .cons (i := 110) rfl <| .cons (i := 132) rfl <| .cons (i := 136) rfl <| .nil) ?_
                            refine wc_region ?_
                            refine wl_free .none rfl (yf_eql rfl rfl) ?_
                            refine wl_free .none rfl (yf_assign rfl) ?_
                            refine wl_nil ?_
                            refine wq_then ?_
                            refine wc_cond rfl (fun hc => ?_) (fun hc => ?_)
                            · replace hc := eq_of_beq hc
                              refine wc_seq ?_
                              refine wc_weak (.cons (i := 2) rfl <| .cons (i := 6) rfl <| .cons (i := 7) rfl <| .cons (i := 8) rfl <| .cons (i := 9) rfl <| .cons (i := 10) rfl <| .cons (i := 12) rfl <| .cons (i := 13) rfl <| .cons (i := 14) rfl <| .cons (i := 15) rfl <| .cons (i := 29) rfl <| .cons (i := 30) rfl <| .cons (i := 31) rfl <| .cons (i := 48) rfl <| .cons (i := 110) rfl <| .cons (i := 132) rfl <| .cons (i := 136) rfl <| .cons (i := 138) rfl <| .nil) ?_
                              refine wc_region ?_
                              refine wl_free .none rfl (yf_move rfl) ?_
                              refine wl_free .none rfl (yf_neq rfl rfl) ?_
                              refine wl_nil ?_
                              refine wq_then ?_
                              refine wc_cond rfl (fun hz => ?_) (fun hz => ?_)
                              · replace hz := bne_yes hz
                                refine wc_seq ?_
                                refine wc_weak (.cons (i := 2) rfl <| .cons (i := 6) rfl <| .cons (i := 7) rfl <| .cons (i := 8) rfl <| .cons (i := 9) rfl <| .cons (i := 10) rfl <| .cons (i := 12) rfl <| .cons (i := 13) rfl <| .cons (i := 14) rfl <| .cons (i := 15) rfl <| .cons (i := 29) rfl <| .cons (i := 30) rfl <| .cons (i := 31) rfl <| .cons (i := 48) rfl <| .cons (i := 110) rfl <| .cons (i := 132) rfl <| .cons (i := 136) rfl <| .cons (i := 138) rfl <| .cons (i := 141) rfl <| .nil) ?_
                                refine wc_region ?_
                                refine wl_free .none rfl (yf_fieldAddr (off := 4) (sz := 0) rfl Tryd.underlying53 (by kernel_rfl) rfl) ?_
                                refine wl_free .none rfl (yf_loadL 0 rfl rfl rfl Tryd.underlying35 rfl) ?_
                                refine wl_free .none rfl (yf_fieldAddr (off := 3) (sz := 0) rfl Tryd.underlying41 (by kernel_rfl) rfl) ?_
                                refine wl_chain0 .none (cf_store 2 rfl rfl rfl rfl (blt_of (by rw [ouL_len, voi.1]; omega)) (by kernel_rfl)) (fun _ => ?_)
                                refine wl_nil ?_
                                refine wq_then ?_
                                refine wc_exit ?_
                                refine wq_far rfl ?_
                                refine wq_then_exit ?_
                                refine wq_far rfl ?_
                                refine wq_then_exit ?_
                                refine wq_then_exit ?_
                                refine wq_here ?_
                                refine wq_meet (ι := {j : EvOut × Mm // EvE Rr μ j}) ⟨({ s with pc := o.n }, μi), oki, samei, voi.1, ?_⟩ (.cons rfl <| .cons rfl <| .cons rfl <| .nil) (fun w h => ?_)
                                · rw [← goi]
                                  refine (evGoM_stop (cur' := cur) hk ?_).symm
                                  rw [ho, evStepM_other (by omega)]
                                  simp [evStep, hc, hz]
                                · exact hp_and (Hp.drop (L' := (b7, bk 41 (ouL { s with pc := o.n })) :: (b6, bk 41 (ouL zeroOut)) :: memL μi) h (.cons _ (.cons _ (.cons_cons _ (.cons _ (.cons_cons _ (.cons _ (.refl _))))))) (.refl _))
                              · replace hz := bne_no hz
                                refine wc_skip ?_
                                refine wq_block ?_
                                refine wq_meet (ι := {j : Bool × EvJ // EvS b.at_ o s cur μi.pm μ j}) ⟨(true, ⟨k, s, cur, μi⟩), ⟨oki, samei, voi, hcur (by omega), by rw [evStepM_other (by omega)]; simp [evStep, hc, hz]⟩⟩ ?_ (fun w h => h)
                                · (repeat (refine .cons rfl ?_)); exact .nil
                            · replace hc := beq_no hc
                              refine wc_seq ?_
                              refine wc_weak (.cons (i := 2) rfl <| .cons (i := 6) rfl <| .cons (i := 7) rfl <| .cons (i := 8) rfl <| .cons (i := 9) rfl <| .cons (i := 10) rfl <| .cons (i := 12) rfl <| .cons (i := 13) rfl <| .cons (i := 14) rfl <| .cons (i := 15) rfl <| .cons (i := 29) rfl <| .cons (i := 30) rfl <| .cons (i := 31) rfl <| .cons (i := 48) rfl <| .cons (i := 110) rfl <| .cons (i := 132) rfl <| .cons (i := 136) rfl <| .cons (i := 138) rfl <| .nil) ?_
                              refine wc_region ?_
                              refine wl_free .none rfl (yf_eql rfl rfl) ?_
                              refine wl_free .none rfl (yf_assign rfl) ?_
                              refine wl_nil ?_
                              refine wq_then ?_
                              refine wc_cond rfl (fun hc => ?_) (fun hc => ?_)
                              · replace hc := eq_of_beq hc
                                refine wc_weak (.cons (i := 2) rfl <| .cons (i := 6) rfl <| .cons (i := 7) rfl <| .cons (i := 8) rfl <| .cons (i := 9) rfl <| .cons (i := 10) rfl <| .cons (i := 12) rfl <| .cons (i := 13) rfl <| .cons (i := 14) rfl <| .cons (i := 15) rfl <| .cons (i := 29) rfl <| .cons (i := 30) rfl <| .cons (i := 31) rfl <| .cons (i := 48) rfl <| .cons (i := 110) rfl <| .cons (i := 132) rfl <| .cons (i := 136) rfl <| .cons (i := 138) rfl <| .cons (i := 145) rfl <| .nil) ?_
                                refine wc_region ?_
                                refine wl_free .none rfl (yf_fieldAddr (off := 4) (sz := 0) rfl Tryd.underlying53 (by kernel_rfl) rfl) ?_
                                refine wl_free .none rfl (yf_loadL 0 rfl rfl rfl Tryd.underlying35 rfl) ?_
                                refine wl_free .none rfl (yf_fieldAddr (off := 3) (sz := 0) rfl Tryd.underlying41 (by kernel_rfl) rfl) ?_
                                refine wl_chain0 .none (cf_store 2 rfl rfl rfl rfl (blt_of (by rw [ouL_len, voi.1]; omega)) (by kernel_rfl)) (fun _ => ?_)
                                refine wl_nil ?_
                                refine wq_block ?_
                                refine wq_meet (ι := {j : Bool × EvJ // EvS b.at_ o s cur μi.pm μ j}) ⟨(true, ⟨k, { s with pc := o.n }, cur, μi⟩), ⟨oki, samei, voi, hcur (by omega), by rw [evStepM_other (by omega)]; simp [evStep, hc]⟩⟩ ?_ (fun w h => h)
                                · (repeat (refine .cons rfl ?_)); exact .nil
                              · replace hc := beq_no hc
                                refine wc_seq ?_
                                refine wc_weak (.cons (i := 2) rfl <| .cons (i := 6) rfl <| .cons (i := 7) rfl <| .cons (i := 8) rfl <| .cons (i := 9) rfl <| .cons (i := 10) rfl <| .cons (i := 12) rfl <| .cons (i := 13) rfl <| .cons (i := 14) rfl <| .cons (i := 15) rfl <| .cons (i := 29) rfl <| .cons (i := 30) rfl <| .cons (i := 31) rfl <| .cons (i := 48) rfl <| .cons (i := 110) rfl <| .cons (i := 132) rfl <| .cons (i := 136) rfl <| .cons (i := 138) rfl <| .cons (i := 145) rfl <| .nil) ?_
                                refine wc_region ?_
                                refine wl_free .none rfl (yf_eql rfl rfl) ?_
                                refine wl_free .none rfl (yf_assign rfl) ?_
                                refine wl_nil ?_
                                refine wq_then ?_
                                refine wc_cond rfl (fun hc => ?_) (fun hc => ?_)
                                · replace hc := eq_of_beq hc
                                  refine wc_weak (.cons (i := 2) rfl <| .cons (i := 6) rfl <| .cons (i := 7) rfl <| .cons (i := 8) rfl <| .cons (i := 9) rfl <| .cons (i := 10) rfl <| .cons (i := 12) rfl <| .cons (i := 13) rfl <| .cons (i := 14) rfl <| .cons (i := 15) rfl <| .cons (i := 29) rfl <| .cons (i := 30) rfl <| .cons (i := 31) rfl <| .cons (i := 48) rfl <| .cons (i := 110) rfl <| .cons (i := 132) rfl <| .cons (i := 136) rfl <| .cons (i := 138) rfl <| .cons (i := 145) rfl <| .cons (i := 150) rfl <| .nil) ?_
                                  refine wc_region ?_
                                  refine wl_free .none rfl (yf_move rfl) ?_
                                  refine wl_free .none rfl (yf_fieldAddr (off := 3) (sz := 0) rfl Tryd.underlying41 (by kernel_rfl) rfl) ?_
                                  refine wl_chain0 .none (cf_store 2 rfl rfl rfl rfl (blt_of (by rw [ouL_len, voi.1]; omega)) (by kernel_rfl)) (fun _ => ?_)
                                  refine wl_nil ?_
                                  refine wq_block ?_
                                  refine wq_meet (ι := {j : Bool × EvJ // EvS b.at_ o s cur μi.pm μ j}) ⟨(true, ⟨k, { s with pc := s.get o.a }, cur, μi⟩), ⟨oki, samei, voi, hcur (by omega), by rw [evStepM_other (by omega)]; simp [evStep, hc]⟩⟩ ?_ (fun w h => h)
                                  · (repeat (refine .cons rfl ?_)); exact .nil
                                · replace hc := beq_no hc
                                  refine wc_weak (.cons (i := 2) rfl <| .cons (i := 6) rfl <| .cons (i := 7) rfl <| .cons (i := 8) rfl <| .cons (i := 9) rfl <| .cons (i := 10) rfl <| .cons (i := 12) rfl <| .cons (i := 13) rfl <| .cons (i := 14) rfl <| .cons (i := 15) rfl <| .cons (i := 29) rfl <| .cons (i := 30) rfl <| .cons (i := 31) rfl <| .cons (i := 48) rfl <| .cons (i := 110) rfl <| .cons (i := 132) rfl <| .cons (i := 136) rfl <| .cons (i := 138) rfl <| .cons (i := 145) rfl <| .cons (i := 150) rfl <| .nil) ?_
                                  refine wc_drawTN 9 [0, 1, 2, 3, 4, 5, 6, 7, 8] (Blk b12 (bk 53 (opC o))) (by kernel_rfl) (by kernel_rfl) Blk.stab (fun w h => HpG.blk h (k := 0) rfl) (fun n0 hn0 => ?_)
                                  refine wd_at rfl ?_
                                  (refine wd_free ?_ .none rfl (yf_move rfl) ?_; (· rfl);  skip)
                                  refine wd_at rfl ?_
                                  (refine wd_free ?_ .none rfl (yf_fieldAddr (off := 1) (sz := 0) rfl Tryd.underlying53 (by kernel_rfl) rfl) ?_; (· rfl);  skip)
                                  refine wd_at rfl ?_
                                  (refine wd_free ?_ .none rfl (yf_loadJ rfl rfl Tryd.underlying3 rfl) ?_; (· rfl);  skip)
                                  refine wd_at rfl ?_
                                  (refine wd_free ?_ .none rfl (yf_fieldAddr (off := 0) (sz := 0) rfl Tryd.underlying53 (by kernel_rfl) rfl) ?_; (· rfl);  skip)
                                  refine wd_at rfl ?_
                                  (refine wd_free ?_ .none rfl (yf_loadJ rfl rfl Tryd.underlying3 rfl) ?_; (· rfl);  skip)
                                  refine wd_at rfl ?_
                                  (refine wd_free ?_ .none rfl (yf_move rfl) ?_; (· rfl);  skip)
                                  refine wd_at rfl ?_
                                  (refine wd_free ?_ .none rfl (yf_move rfl) ?_; (· rfl);  skip)
                                  refine wd_at rfl ?_
                                  refine wd_pure .none rfl (by kernel_rfl) rfl (fun _ _ hj hx => Blk.onE hj hx) (fun w hw => wordOp_any o.code (s.get o.a) (s.get o.b) w ga.1 ga.2 gb.1 gb.2) ?_
                                  refine wd_at rfl ?_
                                  (refine wd_free ?_ .none rfl (yf_nilCheck rfl) ?_; (· rfl);  skip)
                                  refine wd_endTH ?_
                                  simp only [List.drop_succ_cons, List.drop_zero]
                                  (refine wl_free .none rfl (yf_indexAddrA (es := 1) rfl rfl Tryd.underlying39 (by kernel_rfl) (Int.toNat_of_nonneg ?_).symm ?_ rfl) ?_; (· omega); (· first | decide | omega | (simp; omega)); skip)
                                  refine wl_chain0 .none (cf_store 2 rfl rfl rfl rfl (blt_of (by rw [ouL_len, voi.1]; omega)) (by kernel_rfl)) (fun _ => ?_)
                                  refine wl_nil ?_
                                  refine wq_block ?_
                                  refine wq_meet (ι := {j : Bool × EvJ // EvS b.at_ o s cur μi.pm μ j}) ⟨(true, ⟨k, s.set o.d (wordOpL o.code (s.get o.a) (s.get o.b)), cur, μi⟩), ⟨oki, samei, voi.set hrg, hcur (by omega), by
                                    rw [evStepM_other (by omega)]
                                    have hev : evStep b.at_ o s cur = (false, s.set o.d (wordOpL o.code (s.get o.a) (s.get o.b)), cur) := by
                                      unfold evStep
                                      rw [if_neg (by omega), if_neg (by omega), if_neg (by omega), if_neg (by omega), if_neg (by omega), if_neg (by omega), if_neg (by omega), if_neg (by omega)]
                                    rw [hev]; rfl⟩⟩ ?_ (fun w h => evL_put (d := o.d) h (by omega))
                                  · (repeat (refine .cons rfl ?_)); exact .nil
        · obtain ⟨⟨okb, k_, s', cur', μ'⟩, ok', same', vo', hcur', hst⟩ := j
          dsimp only at ok' same' vo' hcur' hst ⊢
          refine wc_seq ?_
          refine wc_region ?_
          refine wl_free .none rfl (yf_move rfl) ?_
          refine wl_free .none rfl (yf_not rfl) ?_
          refine wl_nil ?_
          refine wq_then ?_
          refine wc_cond rfl (fun hc => ?_) (fun hc => ?_)
          · skip
            have hc : okb = false := by simpa using hc
            refine wc_seq ?_
            refine wc_weak (.cons (i := 2) rfl <| .cons (i := 6) rfl <| .cons (i := 7) rfl <| .cons (i := 8) rfl <| .cons (i := 9) rfl <| .cons (i := 10) rfl <| .cons (i := 15) rfl <| .cons (i := 29) rfl <| .cons (i := 30) rfl <| .cons (i := 31) rfl <| .cons (i := 155) rfl <| .nil) ?_
            refine wc_region ?_
            refine wl_free .none rfl (yf_move rfl) ?_
            refine wl_conseq (H' := Hp (fun k => k ∈ (memL μ).map (·.1)) w_0 (((b6, bk 41 (ouL zeroOut)) :: (b4, bk 39 (u32s vars)) :: memL μ') ++ lvB b3 b7 b9 aA aP aO cA cP cO b s' cur') [] (BRd (BdM μ w_0) ⟨b, aA, aP, aO, cA, cP, cO⟩)) (fun u hu => ?_) ?_
            · exact Hp.permL (Hp.drop (L' := [(b9, bk 3 [.int .i64 cur']), (b7, bk 41 (ouL s')), (b3, bk 28 (hdC aA aP aO cA cP cO b))] ++ ((b6, bk 41 (ouL zeroOut)) :: (b4, bk 39 (u32s vars)) :: memL μ')) hu (.cons _ (.refl _)) (.refl _)) List.perm_append_comm
            refine wl_callVM (us := []) ((b6, bk 41 (ouL zeroOut)) :: (b4, bk 39 (u32s vars)) :: memL μ') (lvB b3 b7 b9 aA aP aO cA cP cO b s' cur') .none rfl rfl (by kernel_rfl) rfl (fun w hm hw => leaveM_any b3 b7 b9 aA aP aO cA cP cO b s' cur' hcur'.1 hcur'.2 w hm (lv_nodup hw) (lv_rd hw)) (fun u_ _ => ?_)
            refine wl_nil ?_
            refine wq_then ?_
            refine wc_exit ?_
            refine wq_far rfl ?_
            refine wq_then_exit ?_
            refine wq_then_exit ?_
            refine wq_here ?_
            refine wq_meet (ι := {j : EvOut × Mm // EvE Rr μ j}) ⟨(s'.leave b.at_ cur', μ'), ok', same', vo'.1, ?_⟩ (.cons rfl <| .cons rfl <| .cons rfl <| .nil) (fun w h => ?_)
            · rw [← goi]
              refine (evGoM_stop (cur' := cur') hk ?_).symm
              rw [ho, hst, hc]; rfl
            · exact hp_and (Hp.drop (Hp.permL h List.perm_append_comm) (L' := (b7, bk 41 (ouL (s'.leave b.at_ cur'))) :: (b6, bk 41 (ouL zeroOut)) :: memL μ') (.cons _ (.cons_cons _ (.cons _ (.cons_cons _ (.cons _ (.refl _)))))) (.refl _))
          · skip
            have hc : okb = true := by simpa using hc
            refine wc_skip ?_
            refine wq_block ?_
            refine wq_then ?_
            refine wc_weak (.cons (i := 2) rfl <| .cons (i := 6) rfl <| .cons (i := 7) rfl <| .cons (i := 8) rfl <| .cons (i := 9) rfl <| .cons (i := 10) rfl <| .cons (i := 15) rfl <| .cons (i := 29) rfl <| .cons (i := 30) rfl <| .cons (i := 31) rfl <| .cons (i := 155) rfl <| .nil) ?_
            refine wc_region ?_
            (refine wl_free .none rfl (yf_add rfl rfl (i64_in _ ?_ ?_)) ?_; (· omega); (· omega); skip)
            refine wl_free .none rfl (yf_move rfl) ?_
            refine wl_nil ?_
            refine wq_round (ι := {j : EvJ // EvI b Rr μ j}) ⟨⟨k + 1, s', cur', μ'⟩, ok', same', by show k + 1 ≤ _; omega, vo', .inr hcur', ?_⟩ ?_ ?_ (fun w h => ?_)
            · rw [← goi]
              refine (evGoM_cont (cur' := cur') hk ?_).symm
              rw [ho, hst, hc]; rfl
            · show b.ops.length - (k + 1) < b.ops.length - k; omega
            · exact .cons rfl <| .cons rfl <| .cons rfl <| .cons rfl <| .cons rfl <| .cons rfl <| .cons rfl <| .cons rfl <| .consE rfl rfl <| .nil
            · exact Hp.drop h (.cons _ (.refl _)) (.refl _)
      · replace hc := of_decide_eq_false hc
        refine wc_exit ?_
        refine wq_then_exit ?_
        refine wq_then_exit ?_
        refine wq_here ?_
        refine wq_meet (ι := {j : EvOut × Mm // EvE Rr μ j}) ⟨(s, μi), oki, samei, voi.1, ?_⟩ (.cons rfl <| .cons rfl <| .cons rfl <| .nil) (fun w h => ?_)
        · have hke : k = b.ops.length := by omega
          rw [hke, List.drop_length] at goi
          exact goi
        · exact hp_and (Hp.drop (L' := (b7, bk 41 (ouL s)) :: (b6, bk 41 (ouL zeroOut)) :: memL μi) h (.cons _ (.cons_cons _ (.cons _ (.cons_cons _ (.cons _ (.refl _)))))) (.refl _))
    · obtain ⟨⟨s', μ'⟩, ok', same', hl', go'⟩ := j
      dsimp only at ok' same' hl' go' ⊢
      refine wc_seq ?_
      refine wc_region ?_
      refine wl_free .none rfl (yf_move rfl) ?_
      refine wl_free .none rfl (yf_nilCheck rfl) ?_
      refine wl_free .none rfl (yf_sliceArrLo (i := 19) (size := 1) rfl rfl Tryd.underlying39 (by kernel_rfl) rfl (by decide) rfl rfl) ?_
      refine wl_chain0 .none (cf_clear (z := .int .u32 0) 0 rfl rfl Tryd.underlying25 zero32 rfl rfl (by decide) (by rw [ouL_len, hl']; decide)) (fun _ => ?_)
      refine wl_conseq (H' := Hp (fun k => k ∈ (memL μ).map (·.1)) w_0 ((b7, bk 41 (ouL s'.guests)) :: (b6, bk 41 (ouL zeroOut)) :: memL μ') [] (fun _ => True)) (fun u hu => ?_) ?_
      · rw [← ouL_guests hl']; exact hu
      refine wl_nil ?_
      refine wq_then ?_
      refine wc_seq ?_
      refine wc_weak (.cons (i := 6) rfl <| .cons (i := 7) rfl <| .cons (i := 8) rfl <| .nil) ?_
      refine wc_region ?_
      refine wl_free .none rfl (yf_loadAllL 0 rfl rfl Tryd.underlying41 rfl (ou32 (guests_len hl'))) ?_
      refine wl_chain0 .none (cf_storeRow 1 rfl rfl rfl (ouL_all _) (by rw [ouL_len, guests_len hl']; rfl) (ou32 (guests_len hl'))) (fun _ => ?_)
      refine wl_conseq (H' := Hp (fun k => k ∈ (memL μ).map (·.1)) w_0 ((b7, bk 41 (ouL s'.guests)) :: (b6, bk 41 (ouL s'.guests)) :: memL μ') [] (fun _ => True)) (fun u hu => ?_) ?_
      · have e := row_allN (cs := ouL zeroOut) (seg := ouL s'.guests) (by rw [ouL_len, ouL_len, guests_len hl']; rfl)
        have hu2 : Hp (fun k => k ∈ (memL μ).map (·.1)) w_0 ((b7, bk 41 (ouL s'.guests)) :: (b6, bk 41 ((ouL zeroOut).take 0 ++ ouL s'.guests ++ (ouL zeroOut).drop (0 + (ouL s'.guests).length))) :: memL μ') [] (fun _ => True) u := hu
        rw [e] at hu2; exact hu2
      refine wl_nil ?_
      refine wq_then ?_
      refine wc_ret ?_
      refine wq_scope_ret ?_
      refine wq_retC rfl rfl 1 rfl Tryd.underlying41 rfl (ou32 (guests_len hl')) (fun w hw => ?_)
      refine ⟨μ', ⟨ok', same', ?_⟩, ?_, hp_and (Hp.drop hw (.cons _ (.cons _ (.refl _))) (.refl _))⟩
      · rw [hR, ← go']
      · rw [hR, ← go']
end Go.Proofs.YtojofinofpgopaaDoor
