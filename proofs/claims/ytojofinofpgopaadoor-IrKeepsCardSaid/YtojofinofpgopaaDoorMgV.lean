/- The reference: size, guests, apply. -/
import Derived.Test.YtojofinofpgopaaDoorMgE
import Derived.Test.YtojofinofpgopaaDoorMgB
import Derived.Test.YtojofinofpgopaaDoorMgF
import Derived.Test.YtojofinofpgopaaDoorMgR
namespace Go.Proofs.YtojofinofpgopaaDoor
open Go.RowKit
section
variable {P : Program} {n : Nat} {m : List (Nat × Value)} {ty : TypeId} {G B : Nat → Prop} {w0 w : World} {L : List (Nat × Obj)} {R : List Rw} {X J : World → Prop} {Q : Exit → Act → World → Prop} {ops : Array Oper} {σ : List Nat}
/-- A whole row is stored over a row. -/
theorem cf_storeAll {x y : Operand} {t T g : Nat} {cs seg : List Value} (k : Nat) (hx : ev m x = some (.pointer (some ⟨g, 0, none⟩))) (hy : ev m y = some (.agg seg.toArray)) (hk : L[k]? = some (g, bk T cs)) (h1 : ∀ v ∈ seg, v.oneCell' = true) (hl : seg.length = cs.length) (hs' : (P.info? t).map (·.size) = some seg.length) :
    CF P (.store t x y) ty n m (HpG G B w0 L R X) (fun _ : Unit => undef) (fun _ => HpG G B w0 (L.set k (g, bk T seg)) R X) := fun a w d pos af gd hs hw => by
  have h := cf_storeRow (P := P) (n := n) (ty := ty) (G := G) (B := B) (w0 := w0) (R := R) (X := X) k hx hy hk (List.all_eq_true.2 h1) (ble_of (by rw [hl]; omega)) hs' a w d pos af gd hs hw
  rw [row_allN hl] at h
  exact h
theorem wd_storeAll {x y : Operand} {t T g : Nat} {cs seg : List Value} {pos : String} {af : Array Edge} {gd : Option (Nat × Bool)} (k : Nat) (hg : Gd ops m gd) (hx : ev m x = some (.pointer (some ⟨g, 0, none⟩))) (hy : ev m y = some (.agg seg.toArray)) (hk : L[k]? = some (g, bk T cs)) (h1 : ∀ v ∈ seg, v.oneCell' = true) (hl : seg.length = cs.length) (hs' : (P.info? t).map (·.size) = some seg.length)
    (hJ : ∀ w w', HpG G B w0 L R X w → J w → Keep (fun j => j = g) w w' → J w') (h : WD P ops J Q σ G n m (HpG G B w0 (L.set k (g, bk T seg)) R X)) : WDo P ops J Q ⟨none, .store t x y, ty, pos, af, gd⟩ σ G n m (HpG G B w0 L R X) :=
  wd_chain0 (ι := Unit) (val := fun _ => undef) (H' := fun _ => HpG G B w0 (L.set k (g, bk T seg)) R X) rfl (fun _ _ e => by cases e) hg (fun _ => HpG.stab)
    (fun a w d pos af gd hs hw hj => (ch_storeRow hs hx hy h1 (by rw [hl]; omega) hs' (hw.own _ (List.mem_of_getElem? hk))).mono fun u w' ⟨e1, e2, e3⟩ =>
      ⟨e2.mono fun j _ hjg => by subst hjg; exact hw.inG j (List.mem_append_left _ (List.mem_map.2 ⟨_, List.mem_of_getElem? hk, rfl⟩)), hJ w w' hw hj e2, (), e1, hw.turn hk e2 (by rw [row_allN hl] at e3; exact e3)⟩) fun _ => h
/-- One of a row of 32-bit words. -/
theorem cf_storeU {x y : Operand} {t T g o : Nat} {l : List Int} {v : Int} (k : Nat) (hx : ev m x = some (.pointer (some ⟨g, o, none⟩))) (hy : ev m y = some (.int .u32 v)) (hk : L[k]? = some (g, bk T (u32s l))) (ho : o < l.length) (hs' : (P.info? t).map (·.size) = some 1) :
    CF P (.store t x y) ty n m (HpG G B w0 L R X) (fun _ : Unit => undef) (fun _ => HpG G B w0 (L.set k (g, bk T (u32s (l.set o v)))) R X) := fun a w d pos af gd hs hw => by
  have h := cf_store (P := P) (n := n) (ty := ty) (G := G) (B := B) (w0 := w0) (R := R) (X := X) k hx hy hk rfl (blt_of (by rw [show (u32s l).length = l.length from List.length_map ..]; exact ho)) hs' a w d pos af gd hs hw
  rw [show (u32s l).set o (.int .u32 v) = u32s (l.set o v) by rw [u32s, u32s, List.map_set]] at h
  exact h
theorem HpG.callK {L1 L1' : List (Nat × Obj)} {X' : World → Prop} {w' : World} (h : HpG G B w0 (L ++ L1) R X w) (hc : Hp (fun k => k ∈ L1.map (fun p : Nat × Obj => p.1)) w L1' [] X' w') (hk : L1'.map (·.1) = L1.map (·.1)) : HpG G B w0 (L ++ L1') R X w' := by
  have h2 := Hp.callM h.hp hc
  have hb : blks (L ++ L1') R = blks (L ++ L1) R := by
    unfold blks
    rw [List.map_append, List.map_append, hk]
  obtain ⟨F, hF, hX⟩ := HpG.foot h
  have hK := HpG.keep hc
  refine ⟨HpG.keep h2, HpG.own h2, HpG.mine h2, HpG.rows h2, HpG.nd h2, fun k hm => h.inG k (by rw [← hb]; exact hm), F, fun k hk' => ?_, fun u hu => hX u fun k hk' => ?_⟩
  · obtain ⟨a1, a2, a3, a4⟩ := hF k hk'
    exact ⟨Nat.lt_of_lt_of_le a1 hK.size, a2, by rw [hb]; exact a3, a4⟩
  · obtain ⟨a1, _, a3, _⟩ := hF k hk'
    rw [hu k hk']
    refine hK.block k a1 fun hm => a3 ?_
    unfold blks
    rw [List.map_append]
    exact List.mem_append_left _ (List.mem_append_right _ hm)
theorem wd_callK {ι : Type} {C : ι → Prop} {val : ι → Value} {L1' : ι → List (Nat × Obj)} {X' : ι → World → Prop} {d : Nat} {pos : String} {af : Array Edge} {gd : Option (Nat × Bool)} {f : FuncId} {args : List Operand} {ats : Array TypeId} {vs : List Value} (L L1 : List (Nat × Obj)) (hg : Gd ops m gd) (hd : Nat.blt d n = true) (hf : goes P f = true) (ha : evl m args = some vs)
    (hJ : ∀ w w', HpG G B w0 (L ++ L1) R X w → J w → Keep (fun k => k ∈ L1.map (·.1)) w w' → J w')
    (hC : ∀ w, OnL L1 w → HpG G B w0 (L ++ L1) R X w → Calls P f vs.toArray w fun e w' => ∃ i, C i ∧ e = .returned (val i) ∧ Hp (fun k => k ∈ L1.map (·.1)) w (L1' i) [] (X' i) w')
    (hk : ∀ i, C i → (L1' i).map (·.1) = L1.map (·.1))
    (h : ∀ i, C i → WD P ops J Q σ G n ((d, val i) :: m) (HpG G B w0 (L ++ L1' i) R X)) : WDo P ops J Q ⟨some d, .call { callee := .value (.func f), args := args.toArray, argTypes := ats }, ty, pos, af, gd⟩ σ G n m (HpG G B w0 (L ++ L1) R X) :=
  wd_chain (ι := {i // C i}) (val := fun i => val i.1) (H' := fun i => HpG G B w0 (L ++ L1' i.1) R X) rfl (fun _ _ e => by cases e) hg hd (fun _ => HpG.stab)
    (fun _ w _ _ _ _ hs hw hj => (ch_call hs hf ha ((hC w (fun p hp => HpG.own hw p (List.mem_append_right _ hp)) hw).mono fun _ _ ⟨i, c, e1, e2⟩ => ⟨_, e1, ⟨⟨i, c⟩, rfl, e2⟩⟩)).mono
      (R := fun v' w' => ∃ i : {i // C i}, v' = val i.1 ∧ Hp (fun k => k ∈ L1.map (fun p : Nat × Obj => p.1)) w (L1' i.1) [] (X' i.1) w') fun _ w' ⟨i, e1, e2⟩ =>
        ⟨(HpG.keep e2).mono fun j _ hj' => hw.inG j (List.mem_append_left _ (by rw [List.map_append]; exact List.mem_append_right _ hj')), hJ w w' hw hj (HpG.keep e2), i, e1, HpG.callK hw e2 (hk i.1 i.2)⟩) fun i => h i.1 i.2
/-- Two results: a row in a block of the call's own, a value. -/
theorem wq_retCT {fn : Func} {Rr : Ending → World → Prop} {p q : Tmp} {t T : TypeId} {g : Nat} {cs : List Value} {d : TypeDesc} {v : Value} (hr : fn.results = #[.cell p t, .tmp q]) (hp : look m p = some (.pointer (some ⟨g, 0, none⟩))) (hq : look m q = some v)
    (k : Nat) (hk : L[k]? = some (g, bk T cs)) (ht : P.underlying t = some d) (hd : (match d with | .struct _ | .array _ _ => true | _ => false) = true) (hs' : (P.info? t).map (·.size) = some cs.length)
    (h : ∀ w, HpG G B w0 L R X w → Rr (.returned (.tuple #[.agg cs.toArray, v])) w) : WQ (bodyPost P fn Rr) .ret n m (HpG G B w0 L R X) := fun a w hs hw => by
  refine bodyPost_ret (v := .tuple #[.agg cs.toArray, v]) ?_ hs.dfr (h w hw)
  have hg := hw.own _ (List.mem_of_getElem? hk)
  have hp' : a.tmps[p]?.getD undef = .pointer (some ⟨g, 0, none⟩) := by rw [hs.get p _ hp]; rfl
  have hq' : a.tmps[q]?.getD undef = v := by rw [hs.get q _ hq]; rfl
  have hl := run_loadVar_row (P := P) w g T t cs.toArray (0, 0) d hg ht hd (by simpa using hs')
  simp [results, hr, hp', hq', asAddr, hl]
end
theorem refSize_any (c : Int) (hc : c = 16 ∨ c = 17 ∨ c = 18 ∨ c = 19) (w : World) : Calls Tryd.prog 63 #[.int .i64 c] w fun e w' => e = .returned (.int .i64 (szL c)) ∧ Ext w w' := by
  refine calls_wc (args := [.int .i64 c]) Tryd.func63 rfl 9 rfl (Nat.le_of_ble_eq_true rfl) ?_
  refine wc_weak (.cons (i := 0) rfl <| .nil) ?_
  refine wc_conseq (H' := Hp (fun _ => False) w [] [] (fun _ => True)) (fun u hu => ?_) ?_
  · subst hu; exact Hp.start0
  refine wc_seq ?_
  refine wc_region ?_
  refine wl_free .none rfl (yf_assign rfl) ?_
  refine wl_nil ?_
  refine wq_then ?_
  refine wc_seq ?_
  refine wc_seq ?_
  refine wc_region ?_
  refine wl_free .none rfl (yf_move rfl) ?_
  refine wl_free .none rfl (yf_eql rfl rfl) ?_
  refine wl_free .none rfl (yf_move rfl) ?_
  refine wl_split 5 rfl (fun hb => ?_) (fun hb => ?_)
  · replace hb := eq_of_beq hb
    refine wl_pass (.some rfl rfl rfl) rfl ?_
    refine wl_pass (.some rfl rfl rfl) rfl ?_
    refine wl_free .none rfl (yf_pickT rfl rfl) ?_
    refine wl_nil ?_
    refine wq_then ?_
    refine wc_true rfl ?_
    refine wc_seq ?_
    refine wc_weak (.cons (i := 0) rfl <| .cons (i := 2) rfl <| .cons (i := 8) rfl <| .nil) ?_
    refine wc_region ?_
    refine wl_free .none rfl (yf_assign rfl) ?_
    refine wl_nil ?_
    refine wq_then ?_
    refine wc_ret ?_
    refine wq_then_ret ?_
    refine wq_ret1 rfl rfl (fun w hw => ?_)
    refine ⟨?_, (HpG.keep hw).ext⟩
    rcases hc with rfl | rfl | rfl | rfl <;> first | rfl | omega | simp_all
  · replace hb := beq_no hb
    refine wl_free (.some rfl rfl) rfl (yf_move rfl) ?_
    refine wl_free (.some rfl rfl) rfl (yf_eql rfl rfl) ?_
    refine wl_free .none rfl (yf_pickF rfl rfl) ?_
    refine wl_nil ?_
    refine wq_then ?_
    refine wc_cond rfl (fun hc_1 => ?_) (fun hc_1 => ?_)
    · replace hc_1 := eq_of_beq hc_1
      refine wc_seq ?_
      refine wc_weak (.cons (i := 0) rfl <| .cons (i := 2) rfl <| .cons (i := 8) rfl <| .nil) ?_
      refine wc_region ?_
      refine wl_free .none rfl (yf_assign rfl) ?_
      refine wl_nil ?_
      refine wq_then ?_
      refine wc_ret ?_
      refine wq_then_ret ?_
      refine wq_ret1 rfl rfl (fun w hw => ?_)
      refine ⟨?_, (HpG.keep hw).ext⟩
      rcases hc with rfl | rfl | rfl | rfl <;> first | rfl | omega | simp_all
    · replace hc_1 := beq_no hc_1
      refine wc_skip ?_
      refine wq_then ?_
      refine wc_seq ?_
      refine wc_weak (.cons (i := 0) rfl <| .cons (i := 2) rfl <| .cons (i := 8) rfl <| .nil) ?_
      refine wc_region ?_
      refine wl_free .none rfl (yf_assign rfl) ?_
      refine wl_nil ?_
      refine wq_then ?_
      refine wc_ret ?_
      refine wq_ret1 rfl rfl (fun w hw => ?_)
      refine ⟨?_, (HpG.keep hw).ext⟩
      rcases hc with rfl | rfl | rfl | rfl <;> first | rfl | omega | simp_all
/-! ### guests -/
def zg (l : List Int) : Nat → List Int
  | 0 => l
  | j + 1 => (zg l j).set (19 + j) 0
theorem zg_len (l : List Int) : ∀ j, (zg l j).length = l.length
  | 0 => rfl
  | j + 1 => by show (List.set _ _ _).length = _; rw [List.length_set]; exact zg_len l j
theorem u28l {l : List Int} (h : l.length = 28) : (Tryd.prog.info? 39).map (·.size) = some (u32s l).length := rd28 (by rw [show (u32s l).length = l.length from List.length_map ..]; exact h)
abbrev gvL (l : List Int) : List Int := zg l 9
end Go.Proofs.YtojofinofpgopaaDoor
/- The reference: apply. -/
namespace Go.Proofs.YtojofinofpgopaaDoor
open Go.RowKit
abbrev mP (mo : Option Rm) : Option Addr := mo.map fun ν => ⟨ν.M, 0, none⟩
def mPM (mo : Option Rm) : PM := mo.map fun ν => (ν.r, ν.b)
def MoOk (mo : Option Rm) : Prop := ∀ ν, mo = some ν → ν.Ok ∧ ∀ v ∈ ν.r, 0 ≤ v ∧ v ≤ 7
theorem MoOk.pm {mo : Option Rm} (h : MoOk mo) : PMok (mPM mo) := by
  cases mo with
  | none => intro r e; cases e
  | some ν => exact rm_ok (h ν rfl).1
theorem us_at {l : List Int} {i o : Nat} (hi : i < l.length) (ho : o = i) : (u32s l)[o]? = some (.int .u32 (l.getD i 0)) := by
  subst ho
  rw [u32s, List.getElem?_map, List.getElem?_eq_getElem hi, List.getD_eq_getElem?_getD, List.getElem?_eq_getElem hi]; rfl
theorem us_len (l : List Int) : (u32s l).length = l.length := List.length_map ..
theorem rloadV_ld {ν : Rm} (ok : ν.Ok) (h7 : ∀ v ∈ ν.r, 0 ≤ v ∧ v ≤ 7) {a : Int} {n : Nat} {x y : Int} {c : Bool} (h : rloadV ν.r ν.b a n = [.int .u32 x, .int .u32 y, .bool c]) : ldP (some (ν.r, ν.b)) a n = if c then some x else none := by
  unfold rloadV at h
  rw [chk_eq h7 a 1 (.inl rfl)] at h
  unfold ldP
  dsimp only
  cases hq : chkL ν.r a 1 0 n with
  | none => rw [hq] at h; simp at h; obtain ⟨h1, _, h3⟩ := h; rw [h3, ← h1, load_eq (rbyte_u8 ok) a n 0 (by decide)]; rfl
  | some z => rw [hq] at h; simp at h; obtain ⟨_, _, h3⟩ := h; rw [h3]; rfl
theorem rchkV_st {ν : Rm} (h7 : ∀ v ∈ ν.r, 0 ≤ v ∧ v ≤ 7) {a v : Int} (hv : U32 v) {n : Nat} (hn : n ≤ 4) {y : Int} {c : Bool} (h : rchkV (rchk ν.r a 2 0 n) = [.int .u32 0, .int .u32 y, .bool c]) : (stP (some (ν.r, ν.b)) a v n = if c then some (some (ν.r, rstoreB ν.r ν.b a n v)) else none) ∧ (c = false → rstoreB ν.r ν.b a n v = ν.b) := by
  unfold stP rstoreB
  rw [chk_eq h7 a 2 (.inr rfl)] at h ⊢
  dsimp only
  cases hq : chkL ν.r a 2 0 n with
  | none => rw [hq] at h; simp [rchkV] at h; obtain ⟨_, h⟩ := h; subst c; exact ⟨by rw [store_eq hv n hn]; rfl, fun h => by cases h⟩
  | some z => rw [hq] at h; simp [rchkV] at h; obtain ⟨_, h⟩ := h; subst c; exact ⟨rfl, fun _ => rfl⟩
structure ApJ where
  stop : Bool
  s : EvOut
  cur : Int
  mo : Option Rm
structure ApC (at_ : List Int) (o : IOp) (s : EvOut) (cur : Int) (mo : Option Rm) (j : ApJ) : Prop where
  ok : MoOk j.mo
  M : mP j.mo = mP mo
  vo : VarsOk j.s.vars
  st : evStepM at_ o s cur (mPM mo) = (j.stop, j.s, j.cur, mPM j.mo)
end Go.Proofs.YtojofinofpgopaaDoor
/- The reference: Eval. -/
namespace Go.Proofs.YtojofinofpgopaaDoor
open Go.RowKit
theorem gvL_eq (s : EvOut) : gvL s.vars = s.guests.vars := rfl
theorem gvL_len {l : List Int} (h : l.length = 28) : (gvL l).length = 28 := by rw [zg_len, h]
structure RvJ where
  k : Nat
  s : EvOut
  cur : Int
  mo : Option Rm
structure RvI (b : IBlk) (Rr : EvOut × PM) (mo : Option Rm) (j : RvJ) : Prop where
  ok : MoOk j.mo
  M : mP j.mo = mP mo
  lt : j.k < b.ops.length
  vo : VarsOk j.s.vars
  cur : j.k = 0 ∨ 0 ≤ j.cur ∧ j.cur < b.at_.length
  go : evGoM b.at_ (b.ops.drop j.k) j.s j.cur (mPM j.mo) = Rr
  k0 : j.s.lv = false ∧ j.s.idx = 0 ∧ j.s.done = b.at_.length
theorem evGoM_last {at_ : List Int} {ops : List IOp} {k : Nat} {s s' : EvOut} {cur cur' : Int} {m m' : PM} (hk : k + 1 = ops.length) (h : evStepM at_ (ops.getD k noOp) s cur m = (false, s', cur', m')) : evGoM at_ (ops.drop k) s cur m = (s', m') := by
  rw [evGoM_cont (by omega) h, hk, List.drop_length]; rfl
end Go.Proofs.YtojofinofpgopaaDoor
/- What the laws on evaluation share. -/
namespace Go.Proofs.YtojofinofpgopaaDoor
open Go.RowKit
section
variable {P : Program} {n : Nat} {m : List (Nat × Value)} {ty : TypeId} {H : World → Prop} {G B : Nat → Prop} {w0 w w' : World} {L L1 L' : List (Nat × Obj)} {R : List Rw} {X J S : World → Prop} {Q : Exit → Act → World → Prop} {ops : Array Oper} {σ : List Nat}
theorem yf_makeIface {x : Operand} {T : TypeId} {v : Value} {d : TypeDesc} (hx : ev m x = some v) (ht : P.underlying T = some d) (hd : (match d with | .interface _ => true | _ => false) = false) : YF P (.makeInterface T x) ty n m H (.iface T v) := fun _ w dd pos af g hs hw => by
  cases d <;> first | (simp [Yl, execOp, hs.ev hx, Instr.makeInterface, run_underlying ht]; done) | cases hd
/-- A call that makes blocks of its own. -/
theorem wl_callN {ι : Type} {C : ι → Prop} {rest : List Oper} {d : Nat} {pos : String} {af : Array Edge} {gd : Option (Nat × Bool)} {f : FuncId} {args : List Operand} {ats : Array TypeId} {vs : List Value} {val : ι → Value} {L1' : ι → List (Nat × Obj)} {X' : ι → World → Prop} (hg : Gd ops m gd) (hd : Nat.blt d n = true) (hf : goes P f = true) (ha : evl m args = some vs)
    (hC : ∀ w, Hp B w0 L R X w → Calls P f vs.toArray w fun e w' => ∃ i, C i ∧ e = .returned (val i) ∧ Hp (fun _ => False) w (L1' i) [] (X' i) w')
    (h : ∀ i, C i → WL P ops Q rest n ((d, val i) :: m) (Hp B w0 (L ++ L1' i) R X)) : WL P ops Q (⟨some d, .call { callee := .value (.func f), args := args.toArray, argTypes := ats }, ty, pos, af, gd⟩ :: rest) n m (Hp B w0 L R X) :=
  wl_chain (ι := {i // C i}) (val := fun i => val i.1) (H' := fun i => Hp B w0 (L ++ L1' i.1) R X) hg hd
    (cf_call hf ha fun w hw => (hC w hw).mono fun _ _ ⟨i, c, e1, e2⟩ => ⟨_, e1, ⟨i, c⟩, rfl, Hp.callM (L1 := []) (by simpa using hw) (Hp.nob e2)⟩) fun i => h i.1 i.2
/-- Calls in a region that draws its order, whatever is known. -/
theorem wd_callG {ι : Type} {C : ι → Prop} {S' : ι → World → Prop} {d : Nat} {pos : String} {af : Array Edge} {gd : Option (Nat × Bool)} {f : FuncId} {args : List Operand} {ats : Array TypeId} {vs : List Value} {val : ι → Value} (hg : Gd ops m gd) (hd : Nat.blt d n = true) (hf : goes P f = true) (ha : evl m args = some vs) (hst : ∀ i, C i → AStab (S' i))
    (hC : ∀ w, S w → J w → Calls P f vs.toArray w fun e w' => ∃ i, C i ∧ e = .returned (val i) ∧ Keep G w w' ∧ J w' ∧ S' i w')
    (h : ∀ i, C i → WD P ops J Q σ G n ((d, val i) :: m) (S' i)) : WDo P ops J Q ⟨some d, .call { callee := .value (.func f), args := args.toArray, argTypes := ats }, ty, pos, af, gd⟩ σ G n m S :=
  wd_chain (ι := {i // C i}) (val := fun i => val i.1) (H' := fun i => S' i.1) rfl (fun _ _ e => by cases e) hg hd (fun i => hst i.1 i.2)
    (fun _ w _ _ _ _ hs hw hj => (ch_call hs hf ha ((hC w hw hj).mono fun _ _ ⟨i, c, e1, e2, e3, e4⟩ => ⟨_, e1, ⟨⟨i, c⟩, rfl, e2, e3, e4⟩⟩)).mono
      (R := fun v' w' => ∃ i : {i // C i}, v' = val i.1 ∧ Keep G w w' ∧ J w' ∧ S' i.1 w') fun _ _ ⟨i, e1, e2, e3, e4⟩ => ⟨e2, e3, i, e1, e4⟩) fun i => h i.1 i.2
theorem wd_pureG {d : Nat} {pos : String} {af : Array Edge} {gd : Option (Nat × Bool)} {f : FuncId} {args : List Operand} {ats : Array TypeId} {vs : List Value} {v : Value} (hg : Gd ops m gd) (hd : Nat.blt d n = true) (hf : goes P f = true) (ha : evl m args = some vs) (hS : ∀ w w', S w → Ext w w' → S w') (hJ : ∀ w w', J w → Ext w w' → J w')
    (hC : ∀ w, S w → Calls P f vs.toArray w fun e w' => e = .returned v ∧ Ext w w')
    (h : WD P ops J Q σ G n ((d, v) :: m) S) : WDo P ops J Q ⟨some d, .call { callee := .value (.func f), args := args.toArray, argTypes := ats }, ty, pos, af, gd⟩ σ G n m S :=
  wd_callG (ι := Unit) (C := fun _ => True) (val := fun _ => v) (S' := fun _ => S) hg hd hf ha (fun _ _ w ob h => hS w _ h (Ext.alloc (Ext.refl w) ob))
    (fun w hw hj => (hC w hw).mono fun _ w' ⟨e1, e2⟩ => ⟨(), trivial, e1, Keep.of_ext e2, hJ w w' hj e2, hS w w' hw e2⟩) fun _ _ => h
theorem wd_endS (h : WQ Q .normal n m S) : WD P ops J Q [] G n m S := fun a hs w hw _ => h a w hs hw
/-- What is known, and that old blocks are old. -/
def HpO (G B : Nat → Prop) (w0 : World) (L Lo : List (Nat × Obj)) (R : List Rw) (X : World → Prop) (w : World) : Prop := Hp B w0 L R X w ∧ ∀ p ∈ Lo, G p.1
theorem HpO.ext {Lo : List (Nat × Obj)} : ∀ w w', HpO G B w0 L Lo R X w → Ext w w' → HpO G B w0 L Lo R X w' := fun _ _ h hx => ⟨HpG.onE h.1 hx, h.2⟩
theorem HpO.stab {Lo : List (Nat × Obj)} : AStab (HpO G B w0 L Lo R X) := fun w ob h => HpO.ext w _ h (Ext.alloc (Ext.refl w) ob)
end
abbrev blkC (i : BR) : List Value := [.slice i.aA i.b.at_.length i.cA, .slice i.aP i.b.pages.length i.cP, .slice i.aO i.b.ops.length i.cO]
theorem perm_swap3 {α : Type} (A B C : List α) : ((A ++ B) ++ C).Perm ((A ++ C) ++ B) := by
  rw [List.append_assoc, List.append_assoc]; exact List.Perm.append_left A List.perm_append_comm
theorem irEval_call (i : BR) {m : Nat} (hi : i.OkN m) (hm : m ≤ maxLen) {vars : List Int} (hvo : VarsOk vars) {μ : Mm} (ok : μ.Ok) {w : World} (h : OnL (memL μ) w) (hb : BRd (fun k => k ∈ (memL μ).map (·.1)) i w) :
    Calls Tryd.prog 13 #[i.v, .agg (u32s vars).toArray, .iface 44 (ptrV μ.M)] w fun e w' =>
      ∃ μ' : Mm, (μ'.Ok ∧ μ.Same μ' ∧ μ'.pm = (evalM i.b vars μ.pm).2) ∧ e = .returned (.agg (ouL (evalM i.b vars μ.pm).1).toArray) ∧ Hp (fun k => k ∈ (memL μ).map (·.1)) w (memL μ') [] (fun _ => True) w' := by
  obtain ⟨b, aA, aP, aO, cA, cP, cO⟩ := i
  exact evalM_any aA aP aO cA cP cO b m hi hm vars hvo μ ok w h hb
theorem irEvalNil_call (i : BR) {m : Nat} (hi : i.OkN m) (hm : m ≤ maxLen) {vars : List Int} (hvo : VarsOk vars) {Bad : Nat → Prop} {w : World} (hb : BRd Bad i w) :
    Calls Tryd.prog 13 #[i.v, .agg (u32s vars).toArray, .nilIface] w fun e w' => e = .returned (.agg (ouL (evalM i.b vars none).1).toArray) ∧ Ext w w' := by
  have := eval_nil i.aA i.aP i.aO i.cA i.cP i.cO i.b vars w w.heap.size (Nat.le_refl _) (hb.blk hi hm) hvo.1 hvo.2 (OkN.un hi)
  refine this.mono fun e w' ⟨h1, h2⟩ => ⟨?_, h2⟩
  rw [h1, evalM_nil, ouL_cells]
theorem and7b (a : Int) : 0 ≤ bits .and .i64 a 7 ∧ bits .and .i64 a 7 ≤ 7 := by
  have h : (BitVec.ofInt 64 a &&& BitVec.ofInt 64 7).toNat ≤ 7 := by
    rw [BitVec.toNat_and]; exact Nat.and_le_right
  have e : bits .and .i64 a 7 = (((BitVec.ofInt 64 a &&& BitVec.ofInt 64 7).toNat : Nat) : Int) := by
    show IntKind.i64.wrap ((BitVec.ofInt 64 a &&& BitVec.ofInt 64 7).toNat : Int) = _
    exact i64_in _ (by omega) (by omega)
  rw [e]; omega
theorem rlL_7 (x : Su) : ∀ v ∈ rlL x 3, 0 ≤ v ∧ v ≤ 7 := by
  intro v hv
  simp only [rlL, List.mem_cons, List.not_mem_nil, or_false] at hv
  rcases hv with rfl | rfl | rfl <;> exact and7b _
/-- The state of the memory that a setup describes. -/
def suM (x : Su) : PM := some (rlL x 3, suBytes x)
theorem su_pm {x : Su} {μ : Mm} (h1 : μ.bytes = suBytes x) (h2 : μ.p.map (·.r) = rlL x 3) : μ.pm = suM x := by
  show some (μ.p.map (·.r), μ.bytes) = _
  rw [h1, h2]; rfl
theorem su_rm {x : Su} {ν : Rm} (h1 : ν.b = suBytes x) (h2 : ν.r = rlL x 3) : some (ν.r, ν.b) = suM x := by rw [h1, h2]; rfl
/-- The two readable arguments. -/
def X2 (A : Option Addr) (s : List Int) (x : Su) (n0 : Nat) (w : World) : Prop := RdIn (fun k => n0 ≤ k) A (i64s s) w ∧ RdIn (fun k => n0 ≤ k) x.vA (u32s x.v) w
theorem X2.foot {A : Option Addr} {s : List Int} {x : Su} {n0 : Nat} {w : World} (h : X2 A s x n0 w) : ∃ F : Nat → Prop, (∀ k, F k → k < w.heap.size ∧ ¬ False) ∧ Foot F (X2 A s x n0) w := by
  obtain ⟨F1, h1, g1⟩ := h.1.foot'
  obtain ⟨F2, h2, g2⟩ := h.2.foot'
  exact ⟨fun k => F1 k ∨ F2 k, fun k hk => ⟨hk.elim (fun h => (h1 k h).1) (fun h => (h2 k h).1), id⟩, fun u hu => ⟨g1 u fun k hk => hu k (.inl hk), g2 u fun k hk => hu k (.inr hk)⟩⟩
theorem BRd.ofR {G B : Nat → Prop} {w0 w : World} {L L1 : List (Nat × Obj)} {R : List Rw} {X : World → Prop} {i : BR} (h : HpG G B w0 (L ++ L1) R X w) (hs : ∀ r ∈ i.rows, r ∈ R) : BRd (fun k => k ∈ L1.map (·.1)) i w :=
  (BRd.ofM h hs).weak fun k hk => by rw [List.map_append]; exact List.mem_append_right _ hk
end Go.Proofs.YtojofinofpgopaaDoor
/- Regions that draw their order: a call that makes blocks, and a new block beside it. -/
namespace Go.Proofs.YtojofinofpgopaaDoor
open Go.RowKit
section
variable {P : Program} {n : Nat} {m : List (Nat × Value)} {ty : TypeId} {G B : Nat → Prop} {w0 w w' : World} {L L1 L1' L' : List (Nat × Obj)} {R Rs : List Rw} {X X' J S : World → Prop} {Q : Exit → Act → World → Prop} {ops : Array Oper} {σ : List Nat}
/-- What is known; the facts on old blocks are on blocks of G. -/
structure HpF (G B : Nat → Prop) (w0 : World) (L : List (Nat × Obj)) (R : List Rw) (X : World → Prop) (w : World) : Prop where
  hp : Hp B w0 L R X w
  ft : ∃ F : Nat → Prop, (∀ k, F k → k < w.heap.size ∧ ¬ B k ∧ k ∉ blks L R ∧ G k) ∧ Foot F X w
theorem HpF.of (h : HpG G B w0 L R X w) : HpF G B w0 L R X w := ⟨h.hp, h.foot⟩
theorem HpF.onE (h : HpF G B w0 L R X w) (hx : Ext w w') : HpF G B w0 L R X w' := by
  obtain ⟨F, hF, hX⟩ := h.ft
  exact ⟨HpG.onE h.hp hx, F, fun k hk => ⟨Nat.lt_of_lt_of_le (hF k hk).1 (Keep.of_ext (G := fun _ => False) hx).size, (hF k hk).2⟩, fun u hu => hX u fun k hk => (hu k hk).trans ((Keep.of_ext (G := fun _ => False) hx).block k (hF k hk).1 id)⟩
theorem HpF.ext : ∀ w w', HpF G B w0 L R X w → Ext w w' → HpF G B w0 L R X w' := fun _ _ h hx => h.onE hx
theorem HpF.stab : AStab (HpF G B w0 L R X) := fun w ob h => h.onE (Ext.alloc (Ext.refl w) ob)
theorem HpF.callM (h : HpF G B w0 (L ++ L1) R X w) (hc : Hp (fun k => k ∈ L1.map (fun p : Nat × Obj => p.1)) w L1' [] X' w') : HpF G B w0 (L ++ L1') R X w' := by
  have hK := HpG.keep hc
  obtain ⟨F, hF, hX⟩ := h.ft
  refine ⟨Hp.callM h.hp hc, F, fun k hk => ?_, fun u hu => hX u fun k hk => ?_⟩
  · obtain ⟨a1, a2, a3, a4⟩ := hF k hk
    refine ⟨Nat.lt_of_lt_of_le a1 hK.size, a2, fun hm => a3 ?_, a4⟩
    unfold blks at hm ⊢
    rw [List.map_append] at hm ⊢
    rcases List.mem_append.1 hm with hm | hm
    · rcases List.mem_append.1 hm with hm | hm
      · exact List.mem_append_left _ (List.mem_append_left _ hm)
      · obtain ⟨p, hp, rfl⟩ := List.mem_map.1 hm
        rcases HpG.mine hc p hp with h1 | h1
        · omega
        · exact List.mem_append_left _ (List.mem_append_right _ h1)
    · exact List.mem_append_right _ hm
  · obtain ⟨a1, _, a3, _⟩ := hF k hk
    rw [hu k hk]
    refine hK.block k a1 fun hm => a3 ?_
    unfold blks
    rw [List.map_append]
    exact List.mem_append_left _ (List.mem_append_right _ hm)
theorem HpF.callR (h : HpF G B w0 L R X w) (hc : Hp (fun _ => False) w [] Rs X' w') : HpF G B w0 L (Rs ++ R) X w' := by
  have hK := HpG.keep hc
  obtain ⟨F, hF, hX⟩ := h.ft
  refine ⟨Hp.callR h.hp hc, F, fun k hk => ?_, fun u hu => hX u fun k hk => ?_⟩
  · obtain ⟨a1, a2, a3, a4⟩ := hF k hk
    refine ⟨Nat.lt_of_lt_of_le a1 hK.size, a2, fun hm => ?_, a4⟩
    unfold blks at hm a3
    rw [List.filterMap_append] at hm
    rcases List.mem_append.1 hm with hm | hm
    · exact a3 (List.mem_append_left _ hm)
    · rcases List.mem_append.1 hm with hm | hm
      · obtain ⟨r, hr, he⟩ := List.mem_filterMap.1 hm
        have := ((HpG.rows hc r hr).lt k he).1
        omega
      · exact a3 (List.mem_append_right _ hm)
  · obtain ⟨a1, _, a3, _⟩ := hF k hk
    rw [hu k hk]
    exact hK.block k a1 id
theorem HpF.join (h : HpF G B w0 L R X w) {g T : Nat} {cs : List Value} (hg : w.heap[g]? = some (bk T cs)) (hG : ¬ G g) (hm : w0.heap.size ≤ g) (hL : ∀ p ∈ L, p.2 ≠ bk T cs) (hR : ∀ r ∈ R, r.E ≠ T) : HpF (fun k => k = g ∨ G k) B w0 ((g, bk T cs) :: L) R X w := by
  have h1 : g ∉ L.map (·.1) := fun hm => by
    obtain ⟨p, hp, e⟩ := List.mem_map.1 hm
    have := HpG.own h.hp p hp
    rw [e, hg] at this
    injection this with this
    exact hL p hp this.symm
  have h2 : g ∉ R.filterMap (·.v.ownBlock) := fun hm => by
    obtain ⟨r, hr, e⟩ := List.mem_filterMap.1 hm
    obtain ⟨_, hrow⟩ := HpG.rows h.hp r hr
    rcases hrow with ⟨hv, _⟩ | ⟨g', cap, cur, hv, _, hh, _⟩
    · rw [hv] at e; simp [Value.ownBlock] at e
    · rw [hv] at e
      simp [Value.ownBlock] at e
      subst e
      rw [hg] at hh
      injection hh with hh
      injection hh with _ hE _
      exact hR r hr hE.symm
  obtain ⟨F, hF, hX⟩ := h.ft
  have hF' : ∀ k, F k → k < w.heap.size ∧ ¬ B k ∧ k ∉ blks ((g, bk T cs) :: L) R ∧ (k = g ∨ G k) := fun k hk => by
    obtain ⟨a1, a2, a3, a4⟩ := hF k hk
    refine ⟨a1, a2, fun hm => ?_, .inr a4⟩
    rcases List.mem_cons.1 hm with rfl | hm
    · exact hG a4
    · exact a3 hm
  refine ⟨⟨HpG.keep h.hp, fun p hp => ?_, fun p hp => ?_, HpG.rows h.hp, ?_, fun _ _ => trivial, F, fun k hk => ⟨(hF' k hk).1, (hF' k hk).2.1, (hF' k hk).2.2.1, trivial⟩, hX⟩, F, hF', hX⟩
  · rcases List.mem_cons.1 hp with rfl | hp
    · exact hg
    · exact HpG.own h.hp p hp
  · rcases List.mem_cons.1 hp with rfl | hp
    · exact .inl hm
    · exact HpG.mine h.hp p hp
  · refine List.nodup_cons.2 ⟨fun hm => ?_, HpG.nd h.hp⟩
    rcases List.mem_append.1 hm with hm | hm
    · exact h1 hm
    · exact h2 hm
theorem wd_newF {op : Op} {d : Nat} {pos : String} {af : Array Edge} {g : Option (Nat × Bool)} {T : Nat} {cs : List Value} {f : Nat → Value} (hk : kd ⟨some d, op, ty, pos, af, g⟩ = .new) (hg : Gd ops m g) (hd : Nat.blt d n = true) (hG : ∀ k, k < w0.heap.size → G k)
    (hn : NF P op ty n m (bk T cs) f) (hL : ∀ p ∈ L, p.2 ≠ bk T cs) (hR : ∀ r ∈ R, r.E ≠ T) (h : ∀ b, ¬ G b → WD P ops J Q σ (fun k => k = b ∨ G k) n ((d, f b) :: m) (HpF (fun k => k = b ∨ G k) B w0 ((b, bk T cs) :: L) R X)) : WDo P ops J Q ⟨some d, op, ty, pos, af, g⟩ σ G n m (HpF G B w0 L R X) :=
  wd_new hk hg hd hn fun b hb => wd_weak (fun w ⟨h1, h2⟩ => h1.join h2 hb (Nat.le_of_not_lt fun hlt => hb (hG b hlt)) hL hR) (h b hb)
theorem wd_endTF {G' : Nat → Prop} {tail : List Oper} (h : WL P ops Q tail n m (Hp B w0 L R X)) : WD P ops J (fun _ a w => wpList P ops Q tail a w) [] G' n m (HpF G B w0 L R X) := fun a hs w hw _ => h a w hs hw.hp
end
/-- The type of a block of cells. -/
def oty : Obj → Nat
  | .cells _ t _ => t
  | _ => 0
theorem oty_ne {o : Obj} {T : Nat} {cs : List Value} (h : oty o ≠ T) : o ≠ bk T cs := fun e => h (by rw [e]; rfl)
theorem memL_ty {μ : Mm} : ∀ p ∈ memL μ, oty p.2 = 111 ∨ oty p.2 = 116 ∨ oty p.2 = 114 := fun p hp => by
  unfold memL at hp
  rcases List.mem_cons.1 hp with rfl | hp
  · exact .inl rfl
  rcases List.mem_cons.1 hp with rfl | hp
  · exact .inr (.inl rfl)
  rcases List.mem_cons.1 hp with rfl | hp
  · exact .inr (.inr rfl)
  obtain ⟨q, _, hq⟩ := List.mem_flatMap.1 hp
  unfold ownL at hq
  split at hq
  · rw [List.mem_singleton.1 hq]; exact .inr (.inr rfl)
  · cases hq
theorem memL_no {μ : Mm} {T : Nat} {cs : List Value} (h : Nat.beq T 111 = false ∧ Nat.beq T 116 = false ∧ Nat.beq T 114 = false) : ∀ p ∈ memL μ, p.2 ≠ bk T cs := fun p hp => oty_ne fun e => by
  have := memL_ty p hp
  obtain ⟨h1, h2, h3⟩ := h
  rcases this with h | h | h <;> rw [h] at e <;> subst e
  · simp at h1
  · simp at h2
  · simp at h3
theorem no_cons {T : Nat} {cs : List Value} {p : Nat × Obj} {L : List (Nat × Obj)} (h : Nat.beq (oty p.2) T = false) (hL : ∀ p ∈ L, p.2 ≠ bk T cs) : ∀ q ∈ p :: L, q.2 ≠ bk T cs := fun q hq => by
  rcases List.mem_cons.1 hq with rfl | hq
  · exact oty_ne fun e => by rw [e] at h; simp at h
  · exact hL q hq
theorem no_append {T : Nat} {cs : List Value} {L L' : List (Nat × Obj)} (h : ∀ p ∈ L, p.2 ≠ bk T cs) (hL : ∀ p ∈ L', p.2 ≠ bk T cs) : ∀ q ∈ L ++ L', q.2 ≠ bk T cs := fun q hq => (List.mem_append.1 hq).elim (h q) (hL q)
theorem rows_no {i : BR} {T : Nat} (h : Nat.beq 35 T = false ∧ Nat.beq 53 T = false ∧ Nat.beq 3 T = false) : ∀ r ∈ i.rows, r.E ≠ T := fun r hr => by
  obtain ⟨h1, h2, h3⟩ := h
  simp only [BR.rows, List.mem_cons, List.not_mem_nil, or_false] at hr
  rcases hr with rfl | rfl | rfl <;> intro e <;> subst e
  · simp [u32Row] at h1
  · simp [opRow] at h2
  · simp [intRow] at h3
theorem no_nilR {T : Nat} : ∀ r ∈ ([] : List Rw), r.E ≠ T := fun r hr => by cases hr
theorem no_appR {T : Nat} {R R' : List Rw} (h : ∀ r ∈ R, r.E ≠ T) (h' : ∀ r ∈ R', r.E ≠ T) : ∀ r ∈ R ++ R', r.E ≠ T := fun r hr => (List.mem_append.1 hr).elim (h r) (h' r)
theorem ou_part {s : EvOut} (h : s.vars.length = 28) : ∀ i, i < 28 → ∃ a, ((ouL s).toArray.extract 4 (4 + 28))[i]? = some (.int .u32 a) := fun i hi => by
  refine ⟨s.vars.getD i 0, ?_⟩
  have h1 := ouL_at h hi rfl
  have hlt := (List.getElem?_eq_some_iff.1 h1).1
  rw [Array.getElem?_extract_of_lt (by simp; omega)]
  have h2 := (List.getElem?_eq_some_iff.1 h1).2
  simp only [List.getElem_toArray, h2]
set_option maxRecDepth 100000 in
theorem eqOut {s : EvOut} (h : s.vars.length = 28) (w : World) : (Op.equalIn 10000 41 (.agg (ouL s).toArray) (.agg (ouL s).toArray)).run Tryd.prog w = .ok true w := by
  obtain ⟨i, hi⟩ : ∃ i, Tryd.prog.info? 35 = some i := Option.isSome_iff_exists.1 (by kernel_rfl)
  have hf : Tryd.prog.underlying 41 = some (.struct (Tryd.prog.fieldsOf 41)) := by kernel_rfl
  rw [show (10000 : Nat) = 9999 + 1 from rfl, run_equalIn_struct (P := Tryd.prog) w 9999 41 _ _ hf (by kernel_rfl)]
  refine eqFields_refl w _ ?_
  have int : ∀ (k : IntKind) (t : TypeId) (o : Nat) (a : Int), Tryd.prog.underlying t = some (.int k) → (ouL s)[o]? = some (.int k a) → ∃ v, (∀ w, (part t (ouL s).toArray o).run Tryd.prog w = .ok v w) ∧ ∀ w, (Op.equalIn 9999 t v v).run Tryd.prog w = .ok true w := fun k t o a ht ho =>
    ⟨.int k a, fun w => run_part1 ht rfl (by simpa using ho) w, fun w => by rw [run_equalIn_int (P := Tryd.prog) w 9998 t k k a a ht]; simp⟩
  have hfs := hf.symm.trans Tryd.underlying41
  injection hfs with hfs
  injection hfs with hfs
  rw [hfs]
  intro f hfm
  simp only [List.mem_cons, List.not_mem_nil, or_false] at hfm
  rcases hfm with rfl | rfl | rfl | rfl | rfl
  · exact ⟨.bool s.lv, fun w => run_part1 Tryd.underlying4 rfl rfl w, fun w => by rw [run_equalIn_bool' (P := Tryd.prog) w 9998 _ s.lv s.lv Tryd.underlying4]; simp⟩
  · exact int .i64 _ 1 s.idx (by kernel_rfl) rfl
  · exact int .i64 _ 2 s.done (by kernel_rfl) rfl
  · exact int .u32 _ 3 s.pc (by kernel_rfl) rfl
  · exact ⟨_, fun w => run_partR Tryd.underlying39 rfl (by kernel_rfl) w, fun w => arr_refl (d := 9997) Tryd.underlying39 Tryd.underlying35 hi (by kernel_rfl) (ou_part h) w⟩
end Go.Proofs.YtojofinofpgopaaDoor
