/- The reference: size, guests, apply. -/
import Derived.Test.YtojofinofpgopaaMgE
import Derived.Test.YtojofinofpgopaaRefA
import Derived.Test.YtojofinofpgopaaRefOp
import Derived.Test.YtojofinofpgopaaMgR
namespace Go.Proofs.Ytojofinofpgopaa
open Go.RowKit
section
variable {P : Program} {n : Nat} {m : List (Nat × Value)} {ty : TypeId} {G B : Nat → Prop} {w0 w : World} {L : List (Nat × Obj)} {R : List Rw} {X J : World → Prop} {Q : Exit → Act → World → Prop} {ops : Array Oper} {σ : List Nat}
/-- A whole row is stored over a row. -/
theorem cf_storeAll {x y : Operand} {t T g : Nat} {cs seg : List Value} (k : Nat) (hx : ev m x = some (.pointer (some ⟨g, 0, none⟩))) (hy : ev m y = some (.agg seg.toArray)) (hk : L[k]? = some (g, bk T cs)) (h1 : ∀ v ∈ seg, v.oneCell' = true) (hl : seg.length = cs.length) (hs' : (P.info? t).map (·.size) = some seg.length) :
    CF P (.store t x y) ty n m (HpG G B w0 L R X) (fun _ : Unit => undef) (fun _ => HpG G B w0 (L.set k (g, bk T seg)) R X) := fun a w d pos af gd hs hw => by
  have h := cf_storeRow (P := P) (n := n) (ty := ty) (G := G) (B := B) (w0 := w0) (R := R) (X := X) k hx hy hk (List.all_eq_true.2 h1) (ble_of (by rw [hl]; omega)) hs' a w d pos af gd hs hw
  rw [row_allN hl] at h
  exact h
theorem wd_storeAll {x y : Operand} {t T g : Nat} {cs seg : List Value} {pos : String} {af : Array Edge} {gd : Option (Nat × Bool)} (k : Nat) (hg : Gd ops m gd) (hx : ev m x = some (.pointer (some ⟨g, 0, none⟩))) (hy : ev m y = some (.agg seg.toArray)) (hk : L[k]? = some (g, bk T cs)) (h1 : ∀ v ∈ seg, v.oneCell' = true) (hl : seg.length = cs.length) (hs' : (P.info? t).map (·.size) = some seg.length)
    (hJ : ∀ w w', HpG G B w0 L R X w → J w → Keep (fun j => j = g) w w' → J w') (h : WD P ops J Q σ G n m (HpG G B w0 (L.set k (g, bk T seg)) R X)) : WDo P ops J Q ⟨none, .store t x y, ty, pos, af, gd⟩ σ G n m (HpG G B w0 L R X) :=
  wd_chain0 (ι := Unit) (val := fun _ => undef) (H' := fun _ => HpG G B w0 (L.set k (g, bk T seg)) R X) rfl (fun _ _ e => by cases e) hg (fun _ => HpG.stab)
    (fun a w d pos af gd hs hw hj => (ch_storeRow hs hx hy h1 (by rw [hl]; omega) hs' (hw.own _ (List.mem_of_getElem? hk))).mono fun u w' ⟨e1, e2, e3⟩ =>
      ⟨e2.mono fun j _ hjg => by subst hjg; exact hw.inG j (List.mem_append_left _ (List.mem_map.2 ⟨_, List.mem_of_getElem? hk, rfl⟩)), hJ w w' hw hj e2, (), e1, hw.turn hk e2 (by rw [row_allN hl] at e3; exact e3)⟩) fun _ => h
/-- One of a row of 32-bit words. -/
theorem cf_storeU {x y : Operand} {t T g o : Nat} {l : List Int} {v : Int} (k : Nat) (hx : ev m x = some (.pointer (some ⟨g, o, none⟩))) (hy : ev m y = some (.int .u32 v)) (hk : L[k]? = some (g, bk T (u32s l))) (ho : o < l.length) (hs' : (P.info? t).map (·.size) = some 1) :
    CF P (.store t x y) ty n m (HpG G B w0 L R X) (fun _ : Unit => undef) (fun _ => HpG G B w0 (L.set k (g, bk T (u32s (l.set o v)))) R X) := fun a w d pos af gd hs hw => by
  have h := cf_store (P := P) (n := n) (ty := ty) (G := G) (B := B) (w0 := w0) (R := R) (X := X) k hx hy hk rfl (blt_of (by rw [show (u32s l).length = l.length from List.length_map ..]; exact ho)) hs' a w d pos af gd hs hw
  rw [show (u32s l).set o (.int .u32 v) = u32s (l.set o v) by rw [u32s, u32s, List.map_set]] at h
  exact h
theorem HpG.callK {L1 L1' : List (Nat × Obj)} {X' : World → Prop} {w' : World} (h : HpG G B w0 (L ++ L1) R X w) (hc : Hp (fun k => k ∈ L1.map (fun p : Nat × Obj => p.1)) w L1' [] X' w') (hk : L1'.map (·.1) = L1.map (·.1)) : HpG G B w0 (L ++ L1') R X w' := by
  have h2 := Hp.callM h.hp hc
  have hb : blks (L ++ L1') R = blks (L ++ L1) R := by
    unfold blks
    rw [List.map_append, List.map_append, hk]
  obtain ⟨F, hF, hX⟩ := HpG.foot h
  have hK := HpG.keep hc
  refine ⟨HpG.keep h2, HpG.own h2, HpG.mine h2, HpG.rows h2, HpG.nd h2, fun k hm => h.inG k (by rw [← hb]; exact hm), F, fun k hk' => ?_, fun u hu => hX u fun k hk' => ?_⟩
  · obtain ⟨a1, a2, a3, a4⟩ := hF k hk'
    exact ⟨Nat.lt_of_lt_of_le a1 hK.size, a2, by rw [hb]; exact a3, a4⟩
  · obtain ⟨a1, _, a3, _⟩ := hF k hk'
    rw [hu k hk']
    refine hK.block k a1 fun hm => a3 ?_
    unfold blks
    rw [List.map_append]
    exact List.mem_append_left _ (List.mem_append_right _ hm)
theorem wd_callK {ι : Type} {C : ι → Prop} {val : ι → Value} {L1' : ι → List (Nat × Obj)} {X' : ι → World → Prop} {d : Nat} {pos : String} {af : Array Edge} {gd : Option (Nat × Bool)} {f : FuncId} {args : List Operand} {ats : Array TypeId} {vs : List Value} (L L1 : List (Nat × Obj)) (hg : Gd ops m gd) (hd : Nat.blt d n = true) (hf : goes P f = true) (ha : evl m args = some vs)
    (hJ : ∀ w w', HpG G B w0 (L ++ L1) R X w → J w → Keep (fun k => k ∈ L1.map (·.1)) w w' → J w')
    (hC : ∀ w, OnL L1 w → HpG G B w0 (L ++ L1) R X w → Calls P f vs.toArray w fun e w' => ∃ i, C i ∧ e = .returned (val i) ∧ Hp (fun k => k ∈ L1.map (·.1)) w (L1' i) [] (X' i) w')
    (hk : ∀ i, C i → (L1' i).map (·.1) = L1.map (·.1))
    (h : ∀ i, C i → WD P ops J Q σ G n ((d, val i) :: m) (HpG G B w0 (L ++ L1' i) R X)) : WDo P ops J Q ⟨some d, .call { callee := .value (.func f), args := args.toArray, argTypes := ats }, ty, pos, af, gd⟩ σ G n m (HpG G B w0 (L ++ L1) R X) :=
  wd_chain (ι := {i // C i}) (val := fun i => val i.1) (H' := fun i => HpG G B w0 (L ++ L1' i.1) R X) rfl (fun _ _ e => by cases e) hg hd (fun _ => HpG.stab)
    (fun _ w _ _ _ _ hs hw hj => (ch_call hs hf ha ((hC w (fun p hp => HpG.own hw p (List.mem_append_right _ hp)) hw).mono fun _ _ ⟨i, c, e1, e2⟩ => ⟨_, e1, ⟨⟨i, c⟩, rfl, e2⟩⟩)).mono
      (R := fun v' w' => ∃ i : {i // C i}, v' = val i.1 ∧ Hp (fun k => k ∈ L1.map (fun p : Nat × Obj => p.1)) w (L1' i.1) [] (X' i.1) w') fun _ w' ⟨i, e1, e2⟩ =>
        ⟨(HpG.keep e2).mono fun j _ hj' => hw.inG j (List.mem_append_left _ (by rw [List.map_append]; exact List.mem_append_right _ hj')), hJ w w' hw hj (HpG.keep e2), i, e1, HpG.callK hw e2 (hk i.1 i.2)⟩) fun i => h i.1 i.2
/-- Two results: a row in a block of the call's own, a value. -/
theorem wq_retCT {fn : Func} {Rr : Ending → World → Prop} {p q : Tmp} {t T : TypeId} {g : Nat} {cs : List Value} {d : TypeDesc} {v : Value} (hr : fn.results = #[.cell p t, .tmp q]) (hp : look m p = some (.pointer (some ⟨g, 0, none⟩))) (hq : look m q = some v)
    (k : Nat) (hk : L[k]? = some (g, bk T cs)) (ht : P.underlying t = some d) (hd : (match d with | .struct _ | .array _ _ => true | _ => false) = true) (hs' : (P.info? t).map (·.size) = some cs.length)
    (h : ∀ w, HpG G B w0 L R X w → Rr (.returned (.tuple #[.agg cs.toArray, v])) w) : WQ (bodyPost P fn Rr) .ret n m (HpG G B w0 L R X) := fun a w hs hw => by
  refine bodyPost_ret (v := .tuple #[.agg cs.toArray, v]) ?_ hs.dfr (h w hw)
  have hg := hw.own _ (List.mem_of_getElem? hk)
  have hp' : a.tmps[p]?.getD undef = .pointer (some ⟨g, 0, none⟩) := by rw [hs.get p _ hp]; rfl
  have hq' : a.tmps[q]?.getD undef = v := by rw [hs.get q _ hq]; rfl
  have hl := run_loadVar_row (P := P) w g T t cs.toArray (0, 0) d hg ht hd (by simpa using hs')
  simp [results, hr, hp', hq', asAddr, hl]
end
theorem refSize_any (c : Int) (hc : c = 16 ∨ c = 17 ∨ c = 18 ∨ c = 19) (w : World) : Calls Try.prog 91 #[.int .i64 c] w fun e w' => e = .returned (.int .i64 (szL c)) ∧ Ext w w' := by
  refine calls_wc (args := [.int .i64 c]) Try.func91 rfl 9 rfl (Nat.le_of_ble_eq_true rfl) ?_
  refine wc_weak (.cons (i := 0) rfl <| .nil) ?_
  refine wc_conseq (H' := Hp (fun _ => False) w [] [] (fun _ => True)) (fun u hu => ?_) ?_
  · subst hu; exact Hp.start0
  refine wc_seq ?_
  refine wc_region ?_
  refine wl_free .none rfl (yf_assign rfl) ?_
  refine wl_nil ?_
  refine wq_then ?_
  refine wc_seq ?_
  refine wc_seq ?_
  refine wc_region ?_
  refine wl_free .none rfl (yf_move rfl) ?_
  refine wl_free .none rfl (yf_eql rfl rfl) ?_
  refine wl_free .none rfl (yf_move rfl) ?_
  refine wl_split 5 rfl (fun hb => ?_) (fun hb => ?_)
  · replace hb := eq_of_beq hb
    refine wl_pass (.some rfl rfl rfl) rfl ?_
    refine wl_pass (.some rfl rfl rfl) rfl ?_
    refine wl_free .none rfl (yf_pickT rfl rfl) ?_
    refine wl_nil ?_
    refine wq_then ?_
    refine wc_true rfl ?_
    refine wc_seq ?_
    refine wc_weak (.cons (i := 0) rfl <| .cons (i := 2) rfl <| .cons (i := 8) rfl <| .nil) ?_
    refine wc_region ?_
    refine wl_free .none rfl (yf_assign rfl) ?_
    refine wl_nil ?_
    refine wq_then ?_
    refine wc_ret ?_
    refine wq_then_ret ?_
    refine wq_ret1 rfl rfl (fun w hw => ?_)
    refine ⟨?_, (HpG.keep hw).ext⟩
    rcases hc with rfl | rfl | rfl | rfl <;> first | rfl | omega | simp_all
  · replace hb := beq_no hb
    refine wl_free (.some rfl rfl) rfl (yf_move rfl) ?_
    refine wl_free (.some rfl rfl) rfl (yf_eql rfl rfl) ?_
    refine wl_free .none rfl (yf_pickF rfl rfl) ?_
    refine wl_nil ?_
    refine wq_then ?_
    refine wc_cond rfl (fun hc_1 => ?_) (fun hc_1 => ?_)
    · replace hc_1 := eq_of_beq hc_1
      refine wc_seq ?_
      refine wc_weak (.cons (i := 0) rfl <| .cons (i := 2) rfl <| .cons (i := 8) rfl <| .nil) ?_
      refine wc_region ?_
      refine wl_free .none rfl (yf_assign rfl) ?_
      refine wl_nil ?_
      refine wq_then ?_
      refine wc_ret ?_
      refine wq_then_ret ?_
      refine wq_ret1 rfl rfl (fun w hw => ?_)
      refine ⟨?_, (HpG.keep hw).ext⟩
      rcases hc with rfl | rfl | rfl | rfl <;> first | rfl | omega | simp_all
    · replace hc_1 := beq_no hc_1
      refine wc_skip ?_
      refine wq_then ?_
      refine wc_seq ?_
      refine wc_weak (.cons (i := 0) rfl <| .cons (i := 2) rfl <| .cons (i := 8) rfl <| .nil) ?_
      refine wc_region ?_
      refine wl_free .none rfl (yf_assign rfl) ?_
      refine wl_nil ?_
      refine wq_then ?_
      refine wc_ret ?_
      refine wq_ret1 rfl rfl (fun w hw => ?_)
      refine ⟨?_, (HpG.keep hw).ext⟩
      rcases hc with rfl | rfl | rfl | rfl <;> first | rfl | omega | simp_all
/-! ### guests -/
def zg (l : List Int) : Nat → List Int
  | 0 => l
  | j + 1 => (zg l j).set (19 + j) 0
theorem zg_len (l : List Int) : ∀ j, (zg l j).length = l.length
  | 0 => rfl
  | j + 1 => by show (List.set _ _ _).length = _; rw [List.length_set]; exact zg_len l j
theorem u28l {l : List Int} (h : l.length = 28) : (Try.prog.info? 37).map (·.size) = some (u32s l).length := rd28 (by rw [show (u32s l).length = l.length from List.length_map ..]; exact h)
abbrev gvL (l : List Int) : List Int := zg l 9
set_option maxRecDepth 100000 in
theorem guests_any (l : List Int) (hl : l.length = 28) (w : World) : Calls Try.prog 68 #[.agg (u32s l).toArray] w fun e w' => e = .returned (.agg (u32s (gvL l)).toArray) ∧ Ext w w' := by
  refine calls_wc (args := [.agg (u32s l).toArray]) Try.func68 rfl 11 rfl (Nat.le_of_ble_eq_true rfl) ?_
  refine wc_weak (.cons (i := 0) rfl <| .nil) ?_
  refine wc_conseq (H' := Hp (fun _ => False) w [] [] (fun _ => True)) (fun u hu => ?_) ?_
  · subst hu; exact Hp.start0
  refine wc_seq ?_
  refine wc_region ?_
  refine wl_new .none rfl (nf_box rfl rfl) (fun b1 => ?_)
  refine wl_new .none rfl (nf_alloc (z := .agg #[.int .u32 0, .int .u32 0, .int .u32 0, .int .u32 0, .int .u32 0, .int .u32 0, .int .u32 0, .int .u32 0, .int .u32 0, .int .u32 0, .int .u32 0, .int .u32 0, .int .u32 0, .int .u32 0, .int .u32 0, .int .u32 0, .int .u32 0, .int .u32 0, .int .u32 0, .int .u32 0, .int .u32 0, .int .u32 0, .int .u32 0, .int .u32 0, .int .u32 0, .int .u32 0, .int .u32 0, .int .u32 0]) (cs := [.int .u32 0, .int .u32 0, .int .u32 0, .int .u32 0, .int .u32 0, .int .u32 0, .int .u32 0, .int .u32 0, .int .u32 0, .int .u32 0, .int .u32 0, .int .u32 0, .int .u32 0, .int .u32 0, .int .u32 0, .int .u32 0, .int .u32 0, .int .u32 0, .int .u32 0, .int .u32 0, .int .u32 0, .int .u32 0, .int .u32 0, .int .u32 0, .int .u32 0, .int .u32 0, .int .u32 0, .int .u32 0]) (by kernel_rfl) rfl) (fun b2 => ?_)
  refine wl_nil ?_
  refine wq_then ?_
  refine wc_seq ?_
  refine wc_seq ?_
  refine wc_region ?_
  refine wl_free .none rfl (yf_assign rfl) ?_
  refine wl_nil ?_
  refine wq_then ?_
  refine wc_block ?_
  refine wc_loop (ι := {j : Nat // j ≤ 9}) (fun j => [(1, ptrV b1), (2, ptrV b2), (3, .int .i64 ((19 + j.1 : Nat) : Int))]) (fun j => Hp (fun _ => False) w [(b2, bk 37 (u32s (List.replicate 28 0))), (b1, bk 37 (u32s (zg l j.1)))] [] (fun _ => True)) (fun j => 9 - j.1) ⟨0, by omega⟩ ?_ ?_ (fun j => ?_)
  · exact .cons rfl <| .cons rfl <| .consE rfl rfl <| .nil
  · exact fun w h => h
  obtain ⟨j, hj⟩ := j
  dsimp only at hj ⊢
  refine wc_seq ?_
  refine wc_seq ?_
  refine wc_region ?_
  refine wl_free .none rfl (yf_move rfl) ?_
  refine wl_free .none rfl (yf_lss rfl rfl) ?_
  refine wl_nil ?_
  refine wq_then ?_
  refine wc_cond rfl (fun hc => ?_) (fun hc => ?_)
  · replace hc := of_decide_eq_true hc
    refine wc_skip ?_
    refine wq_then ?_
    refine wc_seq ?_
    refine wc_block ?_
    refine wc_weak (.cons (i := 1) rfl <| .cons (i := 2) rfl <| .cons (i := 3) rfl <| .cons (i := 5) rfl <| .nil) ?_
    refine wc_region ?_
    refine wl_free .none rfl (yf_move rfl) ?_
    (refine wl_free .none rfl (yf_indexAddrA (es := 1) rfl rfl Try.underlying37 (by kernel_rfl) rfl ?_ rfl) ?_; (· first | decide | omega | (simp; omega)); skip)
    refine wl_chain0 .none (cf_storeU (l := zg l j) 1 rfl rfl rfl (by rw [zg_len, hl]; omega) (by kernel_rfl)) (fun _ => ?_)
    refine wl_nil ?_
    refine wq_block ?_
    refine wq_then ?_
    refine wc_weak (.cons (i := 1) rfl <| .cons (i := 2) rfl <| .cons (i := 3) rfl <| .cons (i := 5) rfl <| .nil) ?_
    refine wc_region ?_
    refine wl_free .none rfl (yf_move rfl) ?_
    first | (refine wl_free .none rfl (yf_add rfl rfl (i64_in _ ?_ ?_)) ?_; (· omega); (· omega); skip) | refine wl_free .none rfl (yf_add rfl rfl rfl) ?_
    refine wl_free .none rfl (yf_assign rfl) ?_
    refine wl_nil ?_
    refine wq_round (ι := {j : Nat // j ≤ 9}) ⟨j + 1, by omega⟩ ?_ ?_ (fun u h => ?_)
    · show 9 - (j + 1) < 9 - j; omega
    · exact .cons rfl <| .cons rfl <| .consE rfl (congrArg (Value.int .i64) (show ((19 + j : Nat) : Int) + 1 = ((19 + (j + 1) : Nat) : Int) by omega)) <| .nil
    · have e : u32s ((zg l j).set (0 + (19 + j) * 1) 0) = u32s (zg l (j + 1)) := by rw [Nat.zero_add, Nat.mul_one]; rfl
      show Hp _ _ [_, (b1, bk _ (u32s (zg l (j + 1))))] _ _ _
      rw [← e]; exact h
  · replace hc := of_decide_eq_false hc
    have hj9 : j = 9 := by omega
    subst hj9
    refine wc_exit ?_
    refine wq_then_exit ?_
    refine wq_then_exit ?_
    refine wq_here ?_
    refine wq_then ?_
    refine wc_seq ?_
    refine wc_weak (.cons (i := 1) rfl <| .cons (i := 2) rfl <| .cons (i := 3) rfl <| .cons (i := 5) rfl <| .nil) ?_
    refine wc_region ?_
    refine wl_free .none rfl (yf_loadAllL 1 rfl rfl Try.underlying37 rfl (u28l (by rw [zg_len, hl]))) ?_
    refine wl_chain0 .none (cf_storeAll (seg := u32s (zg l 9)) 0 rfl rfl rfl (ints_one' _) (by rw [show (u32s (zg l 9)).length = (zg l 9).length from List.length_map .., zg_len, hl]; rfl) (u28l (by rw [zg_len, hl]))) (fun _ => ?_)
    refine wl_nil ?_
    refine wq_then ?_
    refine wc_ret ?_
    refine wq_retC rfl rfl 0 rfl Try.underlying37 rfl (u28l (by rw [zg_len, hl])) (fun w hw => ?_)
    exact ⟨rfl, (HpG.keep hw).ext⟩
end Go.Proofs.Ytojofinofpgopaa
/- The reference: apply. -/
namespace Go.Proofs.Ytojofinofpgopaa
open Go.RowKit
abbrev mP (mo : Option Rm) : Option Addr := mo.map fun ν => ⟨ν.M, 0, none⟩
def mLs : Option Rm → List (Nat × Obj)
  | none => []
  | some ν => refL ν
def mPM (mo : Option Rm) : PM := mo.map fun ν => (ν.r, ν.b)
def MoOk (mo : Option Rm) : Prop := ∀ ν, mo = some ν → ν.Ok ∧ ∀ v ∈ ν.r, 0 ≤ v ∧ v ≤ 7
theorem MoOk.nodup {mo : Option Rm} (h : MoOk mo) : ((mLs mo).map (·.1)).Nodup := by
  cases mo with
  | none => exact List.nodup_nil
  | some ν => exact (h ν rfl).1.nodup
theorem MoOk.pm {mo : Option Rm} (h : MoOk mo) : PMok (mPM mo) := by
  cases mo with
  | none => intro r e; cases e
  | some ν => exact rm_ok (h ν rfl).1
theorem us_at {l : List Int} {i o : Nat} (hi : i < l.length) (ho : o = i) : (u32s l)[o]? = some (.int .u32 (l.getD i 0)) := by
  subst ho
  rw [u32s, List.getElem?_map, List.getElem?_eq_getElem hi, List.getD_eq_getElem?_getD, List.getElem?_eq_getElem hi]; rfl
theorem us_len (l : List Int) : (u32s l).length = l.length := List.length_map ..
theorem rloadV_ld {ν : Rm} (ok : ν.Ok) (h7 : ∀ v ∈ ν.r, 0 ≤ v ∧ v ≤ 7) {a : Int} {n : Nat} {x y : Int} {c : Bool} (h : rloadV ν.r ν.b a n = [.int .u32 x, .int .u32 y, .bool c]) : ldP (some (ν.r, ν.b)) a n = if c then some x else none := by
  unfold rloadV at h
  rw [chk_eq h7 a 1 (.inl rfl)] at h
  unfold ldP
  dsimp only
  cases hq : chkL ν.r a 1 0 n with
  | none => rw [hq] at h; simp at h; obtain ⟨h1, _, h3⟩ := h; rw [h3, ← h1, load_eq (rbyte_u8 ok) a n 0 (by decide)]; rfl
  | some z => rw [hq] at h; simp at h; obtain ⟨_, _, h3⟩ := h; rw [h3]; rfl
theorem rchkV_st {ν : Rm} (h7 : ∀ v ∈ ν.r, 0 ≤ v ∧ v ≤ 7) {a v : Int} (hv : U32 v) {n : Nat} (hn : n ≤ 4) {y : Int} {c : Bool} (h : rchkV (rchk ν.r a 2 0 n) = [.int .u32 0, .int .u32 y, .bool c]) : (stP (some (ν.r, ν.b)) a v n = if c then some (some (ν.r, rstoreB ν.r ν.b a n v)) else none) ∧ (c = false → rstoreB ν.r ν.b a n v = ν.b) := by
  unfold stP rstoreB
  rw [chk_eq h7 a 2 (.inr rfl)] at h ⊢
  dsimp only
  cases hq : chkL ν.r a 2 0 n with
  | none => rw [hq] at h; simp [rchkV] at h; obtain ⟨_, h⟩ := h; subst c; exact ⟨by rw [store_eq hv n hn]; rfl, fun h => by cases h⟩
  | some z => rw [hq] at h; simp [rchkV] at h; obtain ⟨_, h⟩ := h; subst c; exact ⟨rfl, fun _ => rfl⟩
structure ApJ where
  stop : Bool
  s : EvOut
  cur : Int
  mo : Option Rm
structure ApC (at_ : List Int) (o : IOp) (s : EvOut) (cur : Int) (mo : Option Rm) (j : ApJ) : Prop where
  ok : MoOk j.mo
  M : mP j.mo = mP mo
  vo : VarsOk j.s.vars
  st : evStepM at_ o s cur (mPM mo) = (j.stop, j.s, j.cur, mPM j.mo)
set_option maxRecDepth 100000 in
set_option maxHeartbeats 4000000 in
theorem apply_any (o : IOp) (hF : okForm o = true) (hun : U32 o.n) (at_ : List Int) (s : EvOut) (vo : VarsOk s.vars) (cur : Int) (h24 : o.code ≠ 24) (h25 : o.code ≠ 25) (h23 : o.code = 23 → s.get o.a = 0) (mo : Option Rm) (hm : MoOk mo) (w_0 : World) (h : OnL (mLs mo) w_0) :
    Calls Try.prog 69 #[.agg (opC o).toArray, .agg (u32s s.vars).toArray, .pointer (mP mo)] w_0 fun e w' =>
      ∃ j : ApJ, ApC at_ o s cur mo j ∧ e = .returned (.tuple #[.agg (u32s j.s.vars).toArray, .bool (!j.stop)]) ∧ Hp (fun k => k ∈ (mLs mo).map (·.1)) w_0 (mLs j.mo) [] (fun _ => True) w' := by
  obtain ⟨⟨d0, d1⟩, ⟨a0, a1⟩, ⟨q0, q1⟩, e0, e1⟩ := form_bd hF
  obtain ⟨n0, n1⟩ := hun
  have ga := vo.get a0 a1
  have gb := vo.get q0 q1
  have hl := vo.1
  have hrg := wordOp_range o.code (s.get o.a) (s.get o.b) ga gb
  refine calls_wc (args := [.agg (opC o).toArray, .agg (u32s s.vars).toArray, .pointer (mP mo)]) Try.func69 rfl 101 rfl (Nat.le_of_ble_eq_true rfl) ?_
  refine wc_weak (.cons (i := 0) rfl <| .cons (i := 1) rfl <| .cons (i := 2) rfl <| .nil) ?_
  refine wc_conseq (H' := Hp (fun k => k ∈ (mLs mo).map (·.1)) w_0 (mLs mo) [] (fun _ => True)) (fun u hu => ?_) ?_
  · subst hu; exact Hp.startL h hm.nodup
  refine wc_seq ?_
  refine wc_region ?_
  refine wl_new .none rfl (nf_box rfl rfl) (fun b3 => ?_)
  refine wl_new .none rfl (nf_box rfl rfl) (fun b4 => ?_)
  refine wl_new .none rfl (nf_alloc (z := .agg #[.int .u32 0, .int .u32 0, .int .u32 0, .int .u32 0, .int .u32 0, .int .u32 0, .int .u32 0, .int .u32 0, .int .u32 0, .int .u32 0, .int .u32 0, .int .u32 0, .int .u32 0, .int .u32 0, .int .u32 0, .int .u32 0, .int .u32 0, .int .u32 0, .int .u32 0, .int .u32 0, .int .u32 0, .int .u32 0, .int .u32 0, .int .u32 0, .int .u32 0, .int .u32 0, .int .u32 0, .int .u32 0]) (cs := [.int .u32 0, .int .u32 0, .int .u32 0, .int .u32 0, .int .u32 0, .int .u32 0, .int .u32 0, .int .u32 0, .int .u32 0, .int .u32 0, .int .u32 0, .int .u32 0, .int .u32 0, .int .u32 0, .int .u32 0, .int .u32 0, .int .u32 0, .int .u32 0, .int .u32 0, .int .u32 0, .int .u32 0, .int .u32 0, .int .u32 0, .int .u32 0, .int .u32 0, .int .u32 0, .int .u32 0, .int .u32 0]) (by kernel_rfl) rfl) (fun b6 => ?_)
  refine wl_free .none rfl (yf_assign rfl) ?_
  refine wl_nil ?_
  refine wq_then ?_
  refine wc_seq ?_
  refine wc_region ?_
  refine wl_free .none rfl (yf_fieldAddr (off := 2) (sz := 0) rfl Try.underlying36 (by kernel_rfl) rfl) ?_
  first | refine wl_free .none rfl (yf_loadL 0 rfl rfl rfl Try.underlying3 rfl) ?_ | refine wl_free .none rfl (yf_loadL 1 rfl rfl rfl Try.underlying3 rfl) ?_ | refine wl_free .none rfl (yf_loadL 2 rfl rfl rfl Try.underlying3 rfl) ?_ | refine wl_free .none rfl (yf_loadL 3 rfl rfl rfl Try.underlying3 rfl) ?_ | refine wl_free .none rfl (yf_loadL 4 rfl rfl rfl Try.underlying3 rfl) ?_ | refine wl_free .none rfl (yf_loadL 5 rfl rfl rfl Try.underlying3 rfl) ?_
  first | (refine wl_free .none rfl (yf_indexAddrA (es := 1) rfl rfl Try.underlying37 (by kernel_rfl) rfl ?_ rfl) ?_; (· first | decide | omega | (simp; omega)); skip) | (refine wl_free .none rfl (yf_indexAddrA (es := 1) rfl rfl Try.underlying37 (by kernel_rfl) (Int.toNat_of_nonneg ?_).symm ?_ rfl) ?_; (· omega); (· first | decide | omega | (simp; omega)); skip)
  refine wl_free .none rfl (yf_loadL (v := .int .u32 (s.get o.a)) 1 rfl rfl (us_at (i := o.a.toNat) (by omega) (by omega)) Try.underlying34 rfl) ?_
  refine wl_free .none rfl (yf_assign rfl) ?_
  refine wl_nil ?_
  refine wq_then ?_
  refine wc_seq ?_
  refine wc_weak (.cons (i := 0) rfl <| .cons (i := 1) rfl <| .cons (i := 2) rfl <| .cons (i := 3) rfl <| .cons (i := 4) rfl <| .cons (i := 6) rfl <| .cons (i := 7) rfl <| .cons (i := 8) rfl <| .nil) ?_
  refine wc_region ?_
  refine wl_free .none rfl (yf_fieldAddr (off := 3) (sz := 0) rfl Try.underlying36 (by kernel_rfl) rfl) ?_
  first | refine wl_free .none rfl (yf_loadL 0 rfl rfl rfl Try.underlying3 rfl) ?_ | refine wl_free .none rfl (yf_loadL 1 rfl rfl rfl Try.underlying3 rfl) ?_ | refine wl_free .none rfl (yf_loadL 2 rfl rfl rfl Try.underlying3 rfl) ?_ | refine wl_free .none rfl (yf_loadL 3 rfl rfl rfl Try.underlying3 rfl) ?_ | refine wl_free .none rfl (yf_loadL 4 rfl rfl rfl Try.underlying3 rfl) ?_ | refine wl_free .none rfl (yf_loadL 5 rfl rfl rfl Try.underlying3 rfl) ?_
  first | (refine wl_free .none rfl (yf_indexAddrA (es := 1) rfl rfl Try.underlying37 (by kernel_rfl) rfl ?_ rfl) ?_; (· first | decide | omega | (simp; omega)); skip) | (refine wl_free .none rfl (yf_indexAddrA (es := 1) rfl rfl Try.underlying37 (by kernel_rfl) (Int.toNat_of_nonneg ?_).symm ?_ rfl) ?_; (· omega); (· first | decide | omega | (simp; omega)); skip)
  refine wl_free .none rfl (yf_loadL (v := .int .u32 (s.get o.b)) 1 rfl rfl (us_at (i := o.b.toNat) (by omega) (by omega)) Try.underlying34 rfl) ?_
  refine wl_free .none rfl (yf_assign rfl) ?_
  refine wl_nil ?_
  refine wq_then ?_
  refine wc_seq ?_
  refine wc_weak (.cons (i := 0) rfl <| .cons (i := 1) rfl <| .cons (i := 2) rfl <| .cons (i := 3) rfl <| .cons (i := 4) rfl <| .cons (i := 6) rfl <| .cons (i := 7) rfl <| .cons (i := 8) rfl <| .cons (i := 9) rfl <| .nil) ?_
  refine wc_region ?_
  refine wl_free .none rfl (yf_fieldAddr (off := 0) (sz := 0) rfl Try.underlying36 (by kernel_rfl) rfl) ?_
  first | refine wl_free .none rfl (yf_loadL 0 rfl rfl rfl Try.underlying3 rfl) ?_ | refine wl_free .none rfl (yf_loadL 1 rfl rfl rfl Try.underlying3 rfl) ?_ | refine wl_free .none rfl (yf_loadL 2 rfl rfl rfl Try.underlying3 rfl) ?_ | refine wl_free .none rfl (yf_loadL 3 rfl rfl rfl Try.underlying3 rfl) ?_ | refine wl_free .none rfl (yf_loadL 4 rfl rfl rfl Try.underlying3 rfl) ?_ | refine wl_free .none rfl (yf_loadL 5 rfl rfl rfl Try.underlying3 rfl) ?_
  refine wl_pure .none rfl (by kernel_rfl) rfl (fun w hw => (refShape_any o.code w).mono fun e w' ⟨h1, h2⟩ => ⟨h1, by subst h2; exact Ext.alloc (Ext.refl w) _⟩) ?_
  refine wl_new .none rfl (nf_alloc (z := .agg #[.bool false, .bool false, .bool false, .bool false, .bool false, .bool false]) (cs := [.bool false, .bool false, .bool false, .bool false, .bool false, .bool false]) (by kernel_rfl) rfl) (fun b10 => ?_)
  first | refine wl_chain0 .none (cf_storeRow 0 rfl rfl rfl rfl rfl (by kernel_rfl)) (fun _ => ?_) | refine wl_chain0 .none (cf_storeRow 1 rfl rfl rfl rfl rfl (by kernel_rfl)) (fun _ => ?_) | refine wl_chain0 .none (cf_storeRow 2 rfl rfl rfl rfl rfl (by kernel_rfl)) (fun _ => ?_) | refine wl_chain0 .none (cf_storeRow 3 rfl rfl rfl rfl rfl (by kernel_rfl)) (fun _ => ?_) | refine wl_chain0 .none (cf_storeRow 4 rfl rfl rfl rfl rfl (by kernel_rfl)) (fun _ => ?_) | refine wl_chain0 .none (cf_storeRow 5 rfl rfl rfl rfl rfl (by kernel_rfl)) (fun _ => ?_)
  refine wl_nil ?_
  refine wq_then ?_
  refine wc_cut (ι := {j : EvOut × Int // evStepM at_ o s cur (mPM mo) = (false, j.1, j.2, mPM mo) ∧ VarsOk j.1.vars}) (fun _ => [(4, ptrV b4), (6, ptrV b6)]) (fun j => Hp (fun k => k ∈ (mLs mo).map (·.1)) w_0 ((b6, bk 37 (u32s (List.replicate 28 0))) :: (b4, bk 37 (u32s j.1.1.vars)) :: (b3, bk 36 (opC o)) :: mLs mo) [] (fun _ => True)) ?_ (fun j => ?_)
  · skip
    refine wc_seq ?_
    refine wc_weak (.cons (i := 0) rfl <| .cons (i := 1) rfl <| .cons (i := 2) rfl <| .cons (i := 3) rfl <| .cons (i := 4) rfl <| .cons (i := 6) rfl <| .cons (i := 7) rfl <| .cons (i := 8) rfl <| .cons (i := 9) rfl <| .cons (i := 10) rfl <| .nil) ?_
    refine wc_region ?_
    refine wl_free .none rfl (yf_fieldAddr (off := 0) (sz := 0) rfl Try.underlying36 (by kernel_rfl) rfl) ?_
    first | refine wl_free .none rfl (yf_loadL 0 rfl rfl rfl Try.underlying3 rfl) ?_ | refine wl_free .none rfl (yf_loadL 1 rfl rfl rfl Try.underlying3 rfl) ?_ | refine wl_free .none rfl (yf_loadL 2 rfl rfl rfl Try.underlying3 rfl) ?_ | refine wl_free .none rfl (yf_loadL 3 rfl rfl rfl Try.underlying3 rfl) ?_ | refine wl_free .none rfl (yf_loadL 4 rfl rfl rfl Try.underlying3 rfl) ?_ | refine wl_free .none rfl (yf_loadL 5 rfl rfl rfl Try.underlying3 rfl) ?_
    refine wl_nil ?_
    refine wq_then ?_
    refine wc_block ?_
    refine wc_seq ?_
    refine wc_weak (.cons (i := 0) rfl <| .cons (i := 1) rfl <| .cons (i := 2) rfl <| .cons (i := 3) rfl <| .cons (i := 4) rfl <| .cons (i := 6) rfl <| .cons (i := 7) rfl <| .cons (i := 8) rfl <| .cons (i := 9) rfl <| .cons (i := 10) rfl <| .cons (i := 25) rfl <| .nil) ?_
    refine wc_region ?_
    refine wl_free .none rfl (yf_eql rfl rfl) ?_
    refine wl_free .none rfl (yf_assign rfl) ?_
    refine wl_nil ?_
    refine wq_then ?_
    refine wc_cond rfl (fun hc => ?_) (fun hc => ?_)
    · replace hc := eq_of_beq hc
      refine wc_weak (.cons (i := 0) rfl <| .cons (i := 1) rfl <| .cons (i := 2) rfl <| .cons (i := 3) rfl <| .cons (i := 4) rfl <| .cons (i := 6) rfl <| .cons (i := 7) rfl <| .cons (i := 8) rfl <| .cons (i := 9) rfl <| .cons (i := 10) rfl <| .cons (i := 25) rfl <| .cons (i := 36) rfl <| .nil) ?_
      refine wc_region ?_
      refine wl_free .none rfl (yf_fieldAddr (off := 1) (sz := 0) rfl Try.underlying36 (by kernel_rfl) rfl) ?_
      first | refine wl_free .none rfl (yf_loadL 0 rfl rfl rfl Try.underlying3 rfl) ?_ | refine wl_free .none rfl (yf_loadL 1 rfl rfl rfl Try.underlying3 rfl) ?_ | refine wl_free .none rfl (yf_loadL 2 rfl rfl rfl Try.underlying3 rfl) ?_ | refine wl_free .none rfl (yf_loadL 3 rfl rfl rfl Try.underlying3 rfl) ?_ | refine wl_free .none rfl (yf_loadL 4 rfl rfl rfl Try.underlying3 rfl) ?_ | refine wl_free .none rfl (yf_loadL 5 rfl rfl rfl Try.underlying3 rfl) ?_
      refine wl_free .none rfl (yf_fieldAddr (off := 4) (sz := 0) rfl Try.underlying36 (by kernel_rfl) rfl) ?_
      first | refine wl_free .none rfl (yf_loadL 0 rfl rfl rfl Try.underlying34 rfl) ?_ | refine wl_free .none rfl (yf_loadL 1 rfl rfl rfl Try.underlying34 rfl) ?_ | refine wl_free .none rfl (yf_loadL 2 rfl rfl rfl Try.underlying34 rfl) ?_ | refine wl_free .none rfl (yf_loadL 3 rfl rfl rfl Try.underlying34 rfl) ?_ | refine wl_free .none rfl (yf_loadL 4 rfl rfl rfl Try.underlying34 rfl) ?_ | refine wl_free .none rfl (yf_loadL 5 rfl rfl rfl Try.underlying34 rfl) ?_
      first | (refine wl_free .none rfl (yf_indexAddrA (es := 1) rfl rfl Try.underlying37 (by kernel_rfl) rfl ?_ rfl) ?_; (· first | decide | omega | (simp; omega)); skip) | (refine wl_free .none rfl (yf_indexAddrA (es := 1) rfl rfl Try.underlying37 (by kernel_rfl) (Int.toNat_of_nonneg ?_).symm ?_ rfl) ?_; (· omega); (· first | decide | omega | (simp; omega)); skip)
      refine wl_chain0 .none (cf_storeU (l := s.vars) 2 rfl rfl rfl (by omega) (by kernel_rfl)) (fun _ => ?_)
      refine wl_nil ?_
      refine wq_block ?_
      refine wq_meet (ι := {j : EvOut × Int // evStepM at_ o s cur (mPM mo) = (false, j.1, j.2, mPM mo) ∧ VarsOk j.1.vars}) ⟨(s.set o.d o.n, cur), by rw [evStepM_other (by omega)]; simp [evStep, hc], vo.set ⟨n0, n1⟩⟩ (.cons rfl <| .cons rfl <| .nil) (fun w h => ?_)
      simp only [Nat.zero_add, Nat.mul_one] at h; exact Hp.drop h (.cons _ (.refl _)) (.refl _)
    · replace hc := beq_no hc
      refine wc_seq ?_
      refine wc_weak (.cons (i := 0) rfl <| .cons (i := 1) rfl <| .cons (i := 2) rfl <| .cons (i := 3) rfl <| .cons (i := 4) rfl <| .cons (i := 6) rfl <| .cons (i := 7) rfl <| .cons (i := 8) rfl <| .cons (i := 9) rfl <| .cons (i := 10) rfl <| .cons (i := 25) rfl <| .cons (i := 36) rfl <| .nil) ?_
      refine wc_region ?_
      refine wl_free .none rfl (yf_eql rfl rfl) ?_
      refine wl_free .none rfl (yf_assign rfl) ?_
      refine wl_nil ?_
      refine wq_then ?_
      refine wc_cond rfl (fun hc => ?_) (fun hc => ?_)
      · replace hc := eq_of_beq hc
        refine wc_weak (.cons (i := 0) rfl <| .cons (i := 1) rfl <| .cons (i := 2) rfl <| .cons (i := 3) rfl <| .cons (i := 4) rfl <| .cons (i := 6) rfl <| .cons (i := 7) rfl <| .cons (i := 8) rfl <| .cons (i := 9) rfl <| .cons (i := 10) rfl <| .cons (i := 25) rfl <| .cons (i := 36) rfl <| .cons (i := 43) rfl <| .nil) ?_
        refine wc_region ?_
        refine wl_free .none rfl (yf_fieldAddr (off := 1) (sz := 0) rfl Try.underlying36 (by kernel_rfl) rfl) ?_
        first | refine wl_free .none rfl (yf_loadL 0 rfl rfl rfl Try.underlying3 rfl) ?_ | refine wl_free .none rfl (yf_loadL 1 rfl rfl rfl Try.underlying3 rfl) ?_ | refine wl_free .none rfl (yf_loadL 2 rfl rfl rfl Try.underlying3 rfl) ?_ | refine wl_free .none rfl (yf_loadL 3 rfl rfl rfl Try.underlying3 rfl) ?_ | refine wl_free .none rfl (yf_loadL 4 rfl rfl rfl Try.underlying3 rfl) ?_ | refine wl_free .none rfl (yf_loadL 5 rfl rfl rfl Try.underlying3 rfl) ?_
        refine wl_free .none rfl (yf_move rfl) ?_
        first | (refine wl_free .none rfl (yf_indexAddrA (es := 1) rfl rfl Try.underlying37 (by kernel_rfl) rfl ?_ rfl) ?_; (· first | decide | omega | (simp; omega)); skip) | (refine wl_free .none rfl (yf_indexAddrA (es := 1) rfl rfl Try.underlying37 (by kernel_rfl) (Int.toNat_of_nonneg ?_).symm ?_ rfl) ?_; (· omega); (· first | decide | omega | (simp; omega)); skip)
        refine wl_chain0 .none (cf_storeU (l := s.vars) 2 rfl rfl rfl (by omega) (by kernel_rfl)) (fun _ => ?_)
        refine wl_nil ?_
        refine wq_block ?_
        refine wq_meet (ι := {j : EvOut × Int // evStepM at_ o s cur (mPM mo) = (false, j.1, j.2, mPM mo) ∧ VarsOk j.1.vars}) ⟨(s.set o.d (s.get o.a), cur), by rw [evStepM_other (by omega)]; simp [evStep, hc], vo.set ga⟩ (.cons rfl <| .cons rfl <| .nil) (fun w h => ?_)
        simp only [Nat.zero_add, Nat.mul_one] at h; exact Hp.drop h (.cons _ (.refl _)) (.refl _)
      · replace hc := beq_no hc
        refine wc_cut (ι := {x : Bool // x = true ↔ o.code = 16 ∨ o.code = 17}) (fun x => [(2, .pointer (mP mo)), (3, ptrV b3), (4, ptrV b4), (6, ptrV b6), (7, .bool false), (8, .int .u32 (s.get o.a)), (9, .int .u32 (s.get o.b)), (10, ptrV b10), (25, .int .i64 o.code), (49, .bool x.1)]) (fun _ => Hp (fun k => k ∈ (mLs mo).map (·.1)) w_0 ((b10, bk 68 (rfW o.code).toList) :: (b6, bk 37 (u32s (List.replicate 28 0))) :: (b4, bk 37 (u32s s.vars)) :: (b3, bk 36 (opC o)) :: mLs mo) [] (fun _ => True)) ?_ (fun x => ?_)
        · skip
          refine wc_seq ?_
          refine wc_weak (.cons (i := 0) rfl <| .cons (i := 1) rfl <| .cons (i := 2) rfl <| .cons (i := 3) rfl <| .cons (i := 4) rfl <| .cons (i := 6) rfl <| .cons (i := 7) rfl <| .cons (i := 8) rfl <| .cons (i := 9) rfl <| .cons (i := 10) rfl <| .cons (i := 25) rfl <| .cons (i := 36) rfl <| .cons (i := 43) rfl <| .nil) ?_
          refine wc_region ?_
          refine wl_free .none rfl (yf_eql rfl rfl) ?_
          refine wl_free .none rfl (yf_assign rfl) ?_
          refine wl_nil ?_
          refine wq_then ?_
          refine wc_cond rfl (fun hc => ?_) (fun hc => ?_)
          · replace hc := eq_of_beq hc
            first | have hcc := hx.1 hc | skip
            refine wc_skip ?_
            refine wq_meet (ι := {x : Bool // x = true ↔ o.code = 16 ∨ o.code = 17}) ⟨(o.code == 16), by simp [hc]⟩ ?_ (fun w h => h)
            · (repeat (refine .cons rfl ?_)); exact .nil
          · replace hc := beq_no hc
            first | have hcc : ¬ (o.code = 16 ∨ o.code = 17) := (fun h => by rw [hx.2 h] at hc; cases hc) | skip
            refine wc_weak (.cons (i := 0) rfl <| .cons (i := 1) rfl <| .cons (i := 2) rfl <| .cons (i := 3) rfl <| .cons (i := 4) rfl <| .cons (i := 6) rfl <| .cons (i := 7) rfl <| .cons (i := 8) rfl <| .cons (i := 9) rfl <| .cons (i := 10) rfl <| .cons (i := 25) rfl <| .cons (i := 36) rfl <| .cons (i := 43) rfl <| .cons (i := 49) rfl <| .nil) ?_
            refine wc_region ?_
            refine wl_free .none rfl (yf_eql rfl rfl) ?_
            refine wl_free .none rfl (yf_assign rfl) ?_
            refine wl_nil ?_
            refine wq_meet (ι := {x : Bool // x = true ↔ o.code = 16 ∨ o.code = 17}) ⟨(o.code == 17), by simp; omega⟩ ?_ (fun w h => h)
            · (repeat (refine .cons rfl ?_)); exact .nil
        · obtain ⟨x, hx⟩ := x
          dsimp only
          refine wc_cond rfl (fun hc => ?_) (fun hc => ?_)
          · skip
            first | have hcc := hx.1 hc | skip
            refine wc_seq ?_
            refine wc_seq ?_
            refine wc_region ?_
            refine wl_free .none rfl (yf_move rfl) ?_
            refine wl_free .none rfl (yf_eqNil rfl rfl (by kernel_rfl)) ?_
            refine wl_nil ?_
            refine wq_then ?_
            refine wc_cond rfl (fun hc => ?_) (fun hc => ?_)
            · skip
              obtain rfl : mo = none := by
                cases mo with
                | none => rfl
                | some ν => simp at hc
              refine wc_seq ?_
              refine wc_weak (.cons (i := 2) rfl <| .cons (i := 3) rfl <| .cons (i := 4) rfl <| .cons (i := 6) rfl <| .cons (i := 7) rfl <| .cons (i := 8) rfl <| .cons (i := 9) rfl <| .cons (i := 10) rfl <| .cons (i := 25) rfl <| .cons (i := 49) rfl <| .cons (i := 53) rfl <| .nil) ?_
              refine wc_region ?_
              refine wl_free .none rfl (yf_loadAllL 2 rfl rfl Try.underlying37 rfl (u28l hl)) ?_
              refine wl_chain0 .none (cf_storeAll (seg := u32s s.vars) 1 rfl rfl rfl (ints_one' _) (by rw [us_len, hl]; rfl) (u28l hl)) (fun _ => ?_)
              refine wl_free .none rfl (yf_assign rfl) ?_
              refine wl_nil ?_
              refine wq_then ?_
              refine wc_ret ?_
              refine wq_then_ret ?_
              refine wq_block_ret ?_
              refine wq_then_ret ?_
              first | refine wq_retCT rfl rfl rfl 0 rfl Try.underlying37 rfl (u28l vo'.1) (fun w hw => ?_) | refine wq_retCT rfl rfl rfl 1 rfl Try.underlying37 rfl (u28l hl) (fun w hw => ?_) | refine wq_retCT rfl rfl rfl 2 rfl Try.underlying37 rfl (u28l hl) (fun w hw => ?_)
              exact ⟨⟨true, s.leave at_ cur, cur, none⟩, ⟨hm, rfl, vo, by rw [evStepM_ld hcc]; rfl⟩, rfl, Hp.drop hw (.cons _ (.cons _ (.cons _ (.cons _ (.refl _))))) (.refl _)⟩
            · skip
              obtain ⟨ν, rfl⟩ : ∃ ν, mo = some ν := by
                cases mo with
                | none => simp at hc
                | some ν => exact ⟨ν, rfl⟩
              obtain ⟨okν, h7⟩ := hm ν rfl
              obtain ⟨lx, ly, lb, hlv⟩ : ∃ lx ly lb, rloadV ν.r ν.b (IntKind.u32.wrap (s.get o.a + o.n)) (szL o.code) = [.int .u32 lx, .int .u32 ly, .bool lb] := by
                unfold rloadV; split <;> exact ⟨_, _, _, rfl⟩
              have hld := rloadV_ld okν h7 hlv
              have hldR : ∀ W, OnL (refL ν) W → Calls Try.prog 90 #[ptrV ν.M, .int .u32 (IntKind.u32.wrap (s.get o.a + o.n)), .int .i64 (szL o.code)] W fun e w' => e = .returned (.agg #[.int .u32 lx, .int .u32 ly, .bool lb]) ∧ Ext W w' := fun W hW => by
                have := refLoad_any ν okν (IntKind.u32.wrap (s.get o.a + o.n)) (szL o.code) (szL_in o.code).1 (szL_in o.code).2 W hW
                rw [hlv] at this; exact this
              refine wc_skip ?_
              refine wq_then ?_
              refine wc_seq ?_
              refine wc_weak (.cons (i := 2) rfl <| .cons (i := 3) rfl <| .cons (i := 4) rfl <| .cons (i := 6) rfl <| .cons (i := 7) rfl <| .cons (i := 8) rfl <| .cons (i := 9) rfl <| .cons (i := 10) rfl <| .cons (i := 25) rfl <| .cons (i := 49) rfl <| .cons (i := 53) rfl <| .nil) ?_
              refine wc_drawTN 10 [0, 1, 2, 3, 4, 5, 6, 7, 8, 9] (Blk b3 (bk 36 (opC o))) (by kernel_rfl) (by kernel_rfl) Blk.stab (fun w h => HpG.blk h (k := 3) rfl) (fun n0 hn0 => ?_)
              refine wd_at rfl ?_
              (refine wd_free ?_ .none rfl (yf_move rfl) ?_; (· rfl);  skip)
              refine wd_at rfl ?_
              (refine wd_free ?_ .none rfl (yf_move rfl) ?_; (· rfl);  skip)
              refine wd_at rfl ?_
              (refine wd_free ?_ .none rfl (yf_fieldAddr (off := 4) (sz := 0) rfl Try.underlying36 (by kernel_rfl) rfl) ?_; (· rfl);  skip)
              refine wd_at rfl ?_
              (refine wd_free ?_ .none rfl (yf_loadJ rfl rfl Try.underlying34 rfl) ?_; (· rfl);  skip)
              refine wd_at rfl ?_
              (refine wd_free ?_ .none rfl (yf_add rfl rfl rfl) ?_; (· rfl);  skip)
              refine wd_at rfl ?_
              (refine wd_free ?_ .none rfl (yf_fieldAddr (off := 0) (sz := 0) rfl Try.underlying36 (by kernel_rfl) rfl) ?_; (· rfl);  skip)
              refine wd_at rfl ?_
              (refine wd_free ?_ .none rfl (yf_loadJ rfl rfl Try.underlying3 rfl) ?_; (· rfl);  skip)
              refine wd_at rfl ?_
              refine wd_pure .none rfl (by kernel_rfl) rfl (fun _ _ hj hx => Blk.onE hj hx) (fun w hw => refSize_any o.code (by omega) w) ?_
              refine wd_at rfl ?_
              refine wd_pure .none rfl (by kernel_rfl) rfl (fun _ _ hj hx => Blk.onE hj hx) (fun w hw => hldR w (fun p hp => HpG.own hw p (List.mem_cons_of_mem _ (List.mem_cons_of_mem _ (List.mem_cons_of_mem _ (List.mem_cons_of_mem _ hp)))))) ?_
              refine wd_at rfl ?_
              refine wd_newH ?_ .none rfl (fun k hk => Nat.lt_of_lt_of_le hk hn0) (nf_alloc (z := .agg #[.int .u32 0, .int .u32 0, .bool false]) (cs := [.int .u32 0, .int .u32 0, .bool false]) (by kernel_rfl) rfl) (fun b11 hb11 => ?_)
              · rfl
              refine wd_endTH ?_
              simp only [List.drop_succ_cons, List.drop_zero]
              first | refine wl_chain0 .none (cf_storeRow 0 rfl rfl rfl rfl rfl (by kernel_rfl)) (fun _ => ?_) | refine wl_chain0 .none (cf_storeRow 1 rfl rfl rfl rfl rfl (by kernel_rfl)) (fun _ => ?_) | refine wl_chain0 .none (cf_storeRow 2 rfl rfl rfl rfl rfl (by kernel_rfl)) (fun _ => ?_) | refine wl_chain0 .none (cf_storeRow 3 rfl rfl rfl rfl rfl (by kernel_rfl)) (fun _ => ?_) | refine wl_chain0 .none (cf_storeRow 4 rfl rfl rfl rfl rfl (by kernel_rfl)) (fun _ => ?_) | refine wl_chain0 .none (cf_storeRow 5 rfl rfl rfl rfl rfl (by kernel_rfl)) (fun _ => ?_)
              refine wl_nil ?_
              refine wq_then ?_
              refine wc_seq ?_
              refine wc_seq ?_
              refine wc_weak (.cons (i := 2) rfl <| .cons (i := 3) rfl <| .cons (i := 4) rfl <| .cons (i := 6) rfl <| .cons (i := 7) rfl <| .cons (i := 8) rfl <| .cons (i := 9) rfl <| .cons (i := 10) rfl <| .cons (i := 11) rfl <| .cons (i := 25) rfl <| .cons (i := 49) rfl <| .cons (i := 53) rfl <| .nil) ?_
              refine wc_region ?_
              refine wl_free .none rfl (yf_fieldAddr (off := 2) (sz := 0) rfl Try.underlying145 (by kernel_rfl) rfl) ?_
              first | refine wl_free .none rfl (yf_loadL 0 rfl rfl rfl Try.underlying4 rfl) ?_ | refine wl_free .none rfl (yf_loadL 1 rfl rfl rfl Try.underlying4 rfl) ?_ | refine wl_free .none rfl (yf_loadL 2 rfl rfl rfl Try.underlying4 rfl) ?_ | refine wl_free .none rfl (yf_loadL 3 rfl rfl rfl Try.underlying4 rfl) ?_ | refine wl_free .none rfl (yf_loadL 4 rfl rfl rfl Try.underlying4 rfl) ?_ | refine wl_free .none rfl (yf_loadL 5 rfl rfl rfl Try.underlying4 rfl) ?_
              refine wl_free .none rfl (yf_not rfl) ?_
              refine wl_nil ?_
              refine wq_then ?_
              refine wc_cond rfl (fun hc => ?_) (fun hc => ?_)
              · skip
                have hlb : lb = false := by simpa using hc
                subst hlb
                refine wc_seq ?_
                refine wc_weak (.cons (i := 2) rfl <| .cons (i := 3) rfl <| .cons (i := 4) rfl <| .cons (i := 6) rfl <| .cons (i := 7) rfl <| .cons (i := 8) rfl <| .cons (i := 9) rfl <| .cons (i := 10) rfl <| .cons (i := 11) rfl <| .cons (i := 25) rfl <| .cons (i := 49) rfl <| .cons (i := 53) rfl <| .cons (i := 66) rfl <| .nil) ?_
                refine wc_region ?_
                refine wl_free .none rfl (yf_loadAllL 3 rfl rfl Try.underlying37 rfl (u28l hl)) ?_
                refine wl_chain0 .none (cf_storeAll (seg := u32s s.vars) 2 rfl rfl rfl (ints_one' _) (by rw [us_len, hl]; rfl) (u28l hl)) (fun _ => ?_)
                refine wl_free .none rfl (yf_assign rfl) ?_
                refine wl_nil ?_
                refine wq_then ?_
                refine wc_ret ?_
                refine wq_then_ret ?_
                refine wq_block_ret ?_
                refine wq_then_ret ?_
                first | refine wq_retCT rfl rfl rfl 0 rfl Try.underlying37 rfl (u28l vo'.1) (fun w hw => ?_) | refine wq_retCT rfl rfl rfl 1 rfl Try.underlying37 rfl (u28l hl) (fun w hw => ?_) | refine wq_retCT rfl rfl rfl 2 rfl Try.underlying37 rfl (u28l hl) (fun w hw => ?_)
                exact ⟨⟨true, s.leave at_ cur, cur, some ν⟩, ⟨hm, rfl, vo, by rw [evStepM_ld hcc, show ldP (mPM (some ν)) _ _ = none from hld]⟩, rfl, Hp.drop hw (.cons _ (.cons _ (.cons _ (.cons _ (.cons _ (.refl _)))))) (.refl _)⟩
              · skip
                have hlb : lb = true := by simpa using hc
                subst hlb
                refine wc_skip ?_
                refine wq_then ?_
                refine wc_weak (.cons (i := 2) rfl <| .cons (i := 3) rfl <| .cons (i := 4) rfl <| .cons (i := 6) rfl <| .cons (i := 7) rfl <| .cons (i := 8) rfl <| .cons (i := 9) rfl <| .cons (i := 10) rfl <| .cons (i := 11) rfl <| .cons (i := 25) rfl <| .cons (i := 49) rfl <| .cons (i := 53) rfl <| .cons (i := 66) rfl <| .nil) ?_
                refine wc_region ?_
                refine wl_free .none rfl (yf_fieldAddr (off := 1) (sz := 0) rfl Try.underlying36 (by kernel_rfl) rfl) ?_
                first | refine wl_free .none rfl (yf_loadL 0 rfl rfl rfl Try.underlying3 rfl) ?_ | refine wl_free .none rfl (yf_loadL 1 rfl rfl rfl Try.underlying3 rfl) ?_ | refine wl_free .none rfl (yf_loadL 2 rfl rfl rfl Try.underlying3 rfl) ?_ | refine wl_free .none rfl (yf_loadL 3 rfl rfl rfl Try.underlying3 rfl) ?_ | refine wl_free .none rfl (yf_loadL 4 rfl rfl rfl Try.underlying3 rfl) ?_ | refine wl_free .none rfl (yf_loadL 5 rfl rfl rfl Try.underlying3 rfl) ?_
                refine wl_free .none rfl (yf_fieldAddr (off := 0) (sz := 0) rfl Try.underlying145 (by kernel_rfl) rfl) ?_
                first | refine wl_free .none rfl (yf_loadL 0 rfl rfl rfl Try.underlying34 rfl) ?_ | refine wl_free .none rfl (yf_loadL 1 rfl rfl rfl Try.underlying34 rfl) ?_ | refine wl_free .none rfl (yf_loadL 2 rfl rfl rfl Try.underlying34 rfl) ?_ | refine wl_free .none rfl (yf_loadL 3 rfl rfl rfl Try.underlying34 rfl) ?_ | refine wl_free .none rfl (yf_loadL 4 rfl rfl rfl Try.underlying34 rfl) ?_ | refine wl_free .none rfl (yf_loadL 5 rfl rfl rfl Try.underlying34 rfl) ?_
                first | (refine wl_free .none rfl (yf_indexAddrA (es := 1) rfl rfl Try.underlying37 (by kernel_rfl) rfl ?_ rfl) ?_; (· first | decide | omega | (simp; omega)); skip) | (refine wl_free .none rfl (yf_indexAddrA (es := 1) rfl rfl Try.underlying37 (by kernel_rfl) (Int.toNat_of_nonneg ?_).symm ?_ rfl) ?_; (· omega); (· first | decide | omega | (simp; omega)); skip)
                refine wl_chain0 .none (cf_storeU (l := s.vars) 3 rfl rfl rfl (by omega) (by kernel_rfl)) (fun _ => ?_)
                refine wl_nil ?_
                refine wq_block ?_
                refine wq_meet (ι := {j : EvOut × Int // evStepM at_ o s cur (mPM (some ν)) = (false, j.1, j.2, mPM (some ν)) ∧ VarsOk j.1.vars}) ⟨(s.set o.d lx, cur), ?_, vo.set (ldP_u32 hm.pm (szL_in _).1 hld)⟩ (.cons rfl <| .cons rfl <| .nil) (fun w h => ?_)
                · rw [evStepM_ld hcc, show ldP (mPM (some ν)) _ _ = some lx from hld]
                · simp only [Nat.zero_add, Nat.mul_one] at h; exact Hp.drop h (.cons _ (.cons _ (.refl _))) (.refl _)
          · skip
            first | have hcc : ¬ (o.code = 16 ∨ o.code = 17) := (fun h => by rw [hx.2 h] at hc; cases hc) | skip
            refine wc_cut (ι := {x : Bool // x = true ↔ o.code = 18 ∨ o.code = 19}) (fun x => [(2, .pointer (mP mo)), (3, ptrV b3), (4, ptrV b4), (6, ptrV b6), (7, .bool false), (8, .int .u32 (s.get o.a)), (9, .int .u32 (s.get o.b)), (10, ptrV b10), (25, .int .i64 o.code), (73, .bool x.1)]) (fun _ => Hp (fun k => k ∈ (mLs mo).map (·.1)) w_0 ((b10, bk 68 (rfW o.code).toList) :: (b6, bk 37 (u32s (List.replicate 28 0))) :: (b4, bk 37 (u32s s.vars)) :: (b3, bk 36 (opC o)) :: mLs mo) [] (fun _ => True)) ?_ (fun x => ?_)
            · skip
              refine wc_seq ?_
              refine wc_region ?_
              refine wl_free .none rfl (yf_eql rfl rfl) ?_
              refine wl_free .none rfl (yf_assign rfl) ?_
              refine wl_nil ?_
              refine wq_then ?_
              refine wc_cond rfl (fun hc => ?_) (fun hc => ?_)
              · replace hc := eq_of_beq hc
                first | have hcc := hx.1 hc | skip
                refine wc_skip ?_
                refine wq_meet (ι := {x : Bool // x = true ↔ o.code = 18 ∨ o.code = 19}) ⟨(o.code == 18), by simp [hc]⟩ ?_ (fun w h => h)
                · (repeat (refine .cons rfl ?_)); exact .nil
              · replace hc := beq_no hc
                first | have hcc : ¬ (o.code = 18 ∨ o.code = 19) := (fun h => by rw [hx.2 h] at hc; cases hc) | skip
                refine wc_weak (.cons (i := 2) rfl <| .cons (i := 3) rfl <| .cons (i := 4) rfl <| .cons (i := 6) rfl <| .cons (i := 7) rfl <| .cons (i := 8) rfl <| .cons (i := 9) rfl <| .cons (i := 10) rfl <| .cons (i := 25) rfl <| .cons (i := 49) rfl <| .cons (i := 73) rfl <| .nil) ?_
                refine wc_region ?_
                refine wl_free .none rfl (yf_eql rfl rfl) ?_
                refine wl_free .none rfl (yf_assign rfl) ?_
                refine wl_nil ?_
                refine wq_meet (ι := {x : Bool // x = true ↔ o.code = 18 ∨ o.code = 19}) ⟨(o.code == 19), by simp; omega⟩ ?_ (fun w h => h)
                · (repeat (refine .cons rfl ?_)); exact .nil
            · obtain ⟨x, hx⟩ := x
              dsimp only
              refine wc_cond rfl (fun hc => ?_) (fun hc => ?_)
              · skip
                first | have hcc := hx.1 hc | skip
                refine wc_seq ?_
                refine wc_seq ?_
                refine wc_region ?_
                refine wl_free .none rfl (yf_move rfl) ?_
                refine wl_free .none rfl (yf_eqNil rfl rfl (by kernel_rfl)) ?_
                refine wl_nil ?_
                refine wq_then ?_
                refine wc_cond rfl (fun hc => ?_) (fun hc => ?_)
                · skip
                  obtain rfl : mo = none := by
                    cases mo with
                    | none => rfl
                    | some ν => simp at hc
                  refine wc_seq ?_
                  refine wc_weak (.cons (i := 2) rfl <| .cons (i := 3) rfl <| .cons (i := 4) rfl <| .cons (i := 6) rfl <| .cons (i := 7) rfl <| .cons (i := 8) rfl <| .cons (i := 9) rfl <| .cons (i := 10) rfl <| .cons (i := 25) rfl <| .cons (i := 73) rfl <| .cons (i := 77) rfl <| .nil) ?_
                  refine wc_region ?_
                  refine wl_free .none rfl (yf_loadAllL 2 rfl rfl Try.underlying37 rfl (u28l hl)) ?_
                  refine wl_chain0 .none (cf_storeAll (seg := u32s s.vars) 1 rfl rfl rfl (ints_one' _) (by rw [us_len, hl]; rfl) (u28l hl)) (fun _ => ?_)
                  refine wl_free .none rfl (yf_assign rfl) ?_
                  refine wl_nil ?_
                  refine wq_then ?_
                  refine wc_ret ?_
                  refine wq_then_ret ?_
                  refine wq_block_ret ?_
                  refine wq_then_ret ?_
                  first | refine wq_retCT rfl rfl rfl 0 rfl Try.underlying37 rfl (u28l vo'.1) (fun w hw => ?_) | refine wq_retCT rfl rfl rfl 1 rfl Try.underlying37 rfl (u28l hl) (fun w hw => ?_) | refine wq_retCT rfl rfl rfl 2 rfl Try.underlying37 rfl (u28l hl) (fun w hw => ?_)
                  exact ⟨⟨true, s.leave at_ cur, cur, none⟩, ⟨hm, rfl, vo, by rw [evStepM_st hcc]; rfl⟩, rfl, Hp.drop hw (.cons _ (.cons _ (.cons _ (.cons _ (.refl _))))) (.refl _)⟩
                · skip
                  obtain ⟨ν, rfl⟩ : ∃ ν, mo = some ν := by
                    cases mo with
                    | none => simp at hc
                    | some ν => exact ⟨ν, rfl⟩
                  obtain ⟨okν, h7⟩ := hm ν rfl
                  obtain ⟨sy, sb, hsv⟩ : ∃ sy sb, rchkV (rchk ν.r (IntKind.u32.wrap (s.get o.a + o.n)) 2 0 (szL o.code)) = [.int .u32 0, .int .u32 sy, .bool sb] := by
                    cases rchk ν.r (IntKind.u32.wrap (s.get o.a + o.n)) 2 0 (szL o.code) <;> exact ⟨_, _, rfl⟩
                  have hst := rchkV_st h7 gb (szL_in o.code).2 hsv
                  have hstR : ∀ W, OnL (refL ν) W → Calls Try.prog 92 #[ptrV ν.M, .int .u32 (IntKind.u32.wrap (s.get o.a + o.n)), .int .i64 (szL o.code), .int .u32 (s.get o.b)] W fun e w' => ∃ ν' : Rm, ν' = ν.st (rstoreB ν.r ν.b (IntKind.u32.wrap (s.get o.a + o.n)) (szL o.code) (s.get o.b)) ∧ e = .returned (.agg #[.int .u32 0, .int .u32 sy, .bool sb]) ∧ Hp (fun k => k ∈ (refL ν).map (·.1)) W (refL ν') [] (fun _ => True) w' := fun W hW => by
                    have := refStore_any ν okν (IntKind.u32.wrap (s.get o.a + o.n)) (szL o.code) (szL_in o.code).1 (szL_in o.code).2 (s.get o.b) gb W hW
                    rw [hsv] at this; exact this
                  refine wc_skip ?_
                  refine wq_then ?_
                  refine wc_seq ?_
                  refine wc_weak (.cons (i := 2) rfl <| .cons (i := 3) rfl <| .cons (i := 4) rfl <| .cons (i := 6) rfl <| .cons (i := 7) rfl <| .cons (i := 8) rfl <| .cons (i := 9) rfl <| .cons (i := 10) rfl <| .cons (i := 25) rfl <| .cons (i := 73) rfl <| .cons (i := 77) rfl <| .nil) ?_
                  refine wc_drawTN 11 [0, 1, 2, 3, 4, 5, 6, 7, 8, 9, 10] (Blk b3 (bk 36 (opC o))) (by kernel_rfl) (by kernel_rfl) Blk.stab (fun w h => HpG.blk h (k := 3) rfl) (fun n0 hn0 => ?_)
                  refine wd_at rfl ?_
                  (refine wd_free ?_ .none rfl (yf_move rfl) ?_; (· rfl);  skip)
                  refine wd_at rfl ?_
                  (refine wd_free ?_ .none rfl (yf_move rfl) ?_; (· rfl);  skip)
                  refine wd_at rfl ?_
                  (refine wd_free ?_ .none rfl (yf_fieldAddr (off := 4) (sz := 0) rfl Try.underlying36 (by kernel_rfl) rfl) ?_; (· rfl);  skip)
                  refine wd_at rfl ?_
                  (refine wd_free ?_ .none rfl (yf_loadJ rfl rfl Try.underlying34 rfl) ?_; (· rfl);  skip)
                  refine wd_at rfl ?_
                  (refine wd_free ?_ .none rfl (yf_add rfl rfl rfl) ?_; (· rfl);  skip)
                  refine wd_at rfl ?_
                  (refine wd_free ?_ .none rfl (yf_fieldAddr (off := 0) (sz := 0) rfl Try.underlying36 (by kernel_rfl) rfl) ?_; (· rfl);  skip)
                  refine wd_at rfl ?_
                  (refine wd_free ?_ .none rfl (yf_loadJ rfl rfl Try.underlying3 rfl) ?_; (· rfl);  skip)
                  refine wd_at rfl ?_
                  refine wd_pure .none rfl (by kernel_rfl) rfl (fun _ _ hj hx => Blk.onE hj hx) (fun w hw => refSize_any o.code (by omega) w) ?_
                  refine wd_at rfl ?_
                  (refine wd_free ?_ .none rfl (yf_move rfl) ?_; (· rfl);  skip)
                  refine wd_at rfl ?_
                  refine wd_callK [(b10, bk 68 (rfW o.code).toList), (b6, bk 37 (u32s (List.replicate 28 0))), (b4, bk 37 (u32s s.vars)), (b3, bk 36 (opC o))] (refL ν) .none rfl (by kernel_rfl) rfl (fun w w' hw hj hk => Blk.keep hj hk (HpG.notin hw (p := (b3, _)) (List.mem_cons_of_mem _ (List.mem_cons_of_mem _ (List.mem_cons_of_mem _ (List.mem_cons_self ..)))))) (fun w hm _ => hstR w hm) (fun ν' hν' => by rw [hν']; rfl) (fun ν' hν' => ?_)
                  refine wd_at rfl ?_
                  refine wd_newH ?_ .none rfl (fun k hk => Nat.lt_of_lt_of_le hk hn0) (nf_alloc (z := .agg #[.int .u32 0, .int .u32 0, .bool false]) (cs := [.int .u32 0, .int .u32 0, .bool false]) (by kernel_rfl) rfl) (fun b12 hb12 => ?_)
                  · rfl
                  refine wd_endTH ?_
                  simp only [List.drop_succ_cons, List.drop_zero]
                  first | refine wl_chain0 .none (cf_storeRow 0 rfl rfl rfl rfl rfl (by kernel_rfl)) (fun _ => ?_) | refine wl_chain0 .none (cf_storeRow 1 rfl rfl rfl rfl rfl (by kernel_rfl)) (fun _ => ?_) | refine wl_chain0 .none (cf_storeRow 2 rfl rfl rfl rfl rfl (by kernel_rfl)) (fun _ => ?_) | refine wl_chain0 .none (cf_storeRow 3 rfl rfl rfl rfl rfl (by kernel_rfl)) (fun _ => ?_) | refine wl_chain0 .none (cf_storeRow 4 rfl rfl rfl rfl rfl (by kernel_rfl)) (fun _ => ?_) | refine wl_chain0 .none (cf_storeRow 5 rfl rfl rfl rfl rfl (by kernel_rfl)) (fun _ => ?_)
                  refine wl_nil ?_
                  refine wq_then ?_
                  refine wc_seq ?_
                  refine wc_weak (.cons (i := 2) rfl <| .cons (i := 3) rfl <| .cons (i := 4) rfl <| .cons (i := 6) rfl <| .cons (i := 7) rfl <| .cons (i := 8) rfl <| .cons (i := 9) rfl <| .cons (i := 10) rfl <| .cons (i := 12) rfl <| .cons (i := 25) rfl <| .cons (i := 73) rfl <| .cons (i := 77) rfl <| .nil) ?_
                  refine wc_drawN [0, 1, 2, 3, 4] (J2 b4 b12 (bk 37 (u32s s.vars)) (bk 145 [.int .u32 0, .int .u32 sy, .bool sb])) (by kernel_rfl) (by kernel_rfl) J2.stab (fun _ h => ⟨HpG.blk h (k := 3) rfl, HpG.blk h (k := 0) rfl⟩) (fun n0 hn0 => ?_)
                  refine wd_at rfl ?_
                  (refine wd_free ?_ .none rfl (YF.anti (yf_loadRowJ rfl Try.underlying37 rfl (u28l hl)) (fun _ h => h.1)) ?_; (· rfl);  skip)
                  refine wd_at rfl ?_
                  (refine wd_free ?_ .none rfl (yf_fieldAddr (off := 2) (sz := 0) rfl Try.underlying145 (by kernel_rfl) rfl) ?_; (· rfl);  skip)
                  refine wd_at rfl ?_
                  (refine wd_free ?_ .none rfl (YF.anti (yf_loadJ (v := .bool sb) rfl rfl Try.underlying4 rfl) (fun _ h => h.2)) ?_; (· rfl);  skip)
                  refine wd_at rfl ?_
                  refine wd_storeAll (seg := u32s s.vars) 2 .none rfl rfl rfl (ints_one' _) (by rw [us_len, hl]; rfl) (u28l hl) (fun w w' hw hj hk => ⟨Blk.keep hj.1 hk (HpG.ne hw (i := 3) (j := 2) rfl rfl rfl), Blk.keep hj.2 hk (HpG.ne hw (i := 0) (j := 2) rfl rfl rfl)⟩) ?_
                  refine wd_at rfl ?_
                  (refine wd_free ?_ .none rfl (yf_assign rfl) ?_; (· rfl);  skip)
                  refine wd_endH ?_
                  refine wq_then ?_
                  refine wc_ret ?_
                  refine wq_block_ret ?_
                  refine wq_then_ret ?_
                  first | refine wq_retCT rfl rfl rfl 0 rfl Try.underlying37 rfl (u28l vo'.1) (fun w hw => ?_) | refine wq_retCT rfl rfl rfl 1 rfl Try.underlying37 rfl (u28l hl) (fun w hw => ?_) | refine wq_retCT rfl rfl rfl 2 rfl Try.underlying37 rfl (u28l hl) (fun w hw => ?_)
                  have okν' : ν'.Ok := by
                    rw [hν']
                    refine okν.st ?_ ?_
                    · unfold rstoreB; split
                      · rw [rstoreGo_len]; exact okν.lb
                      · exact okν.lb
                    · unfold rstoreB; split
                      · exact rstoreGo_u8 okν.u8 _ _ _
                      · exact okν.u8
                  have hr' : ν'.r = ν.r := by rw [hν']
                  have hM' : ν'.M = ν.M := by rw [hν']
                  have hb' : ν'.b = rstoreB ν.r ν.b (IntKind.u32.wrap (s.get o.a + o.n)) (szL o.code) (s.get o.b) := by rw [hν']
                  have hmo : MoOk (some ν') := fun r e => by cases e; exact ⟨okν', by rw [hr']; exact h7⟩
                  have hMM : mP (some ν') = mP (some ν) := by show some (⟨ν'.M, 0, none⟩ : Addr) = some ⟨ν.M, 0, none⟩; rw [hM']
                  have hp : mPM (some ν') = some (ν.r, rstoreB ν.r ν.b (IntKind.u32.wrap (s.get o.a + o.n)) (szL o.code) (s.get o.b)) := by show some (ν'.r, ν'.b) = _; rw [hr', hb']
                  cases sb with
                  | true => exact ⟨⟨false, s, cur, some ν'⟩, ⟨hmo, hMM, vo, by rw [evStepM_st hcc, show stP (mPM (some ν)) _ _ _ = _ from hst.1, hp]; rfl⟩, rfl, Hp.drop hw (.cons _ (.cons _ (.cons _ (.cons _ (.cons _ (.refl _)))))) (.refl _)⟩
                  | false => exact ⟨⟨true, s.leave at_ cur, cur, some ν'⟩, ⟨hmo, hMM, vo, by rw [evStepM_st hcc, show stP (mPM (some ν)) _ _ _ = _ from hst.1, hp, hst.2 rfl]; rfl⟩, rfl, Hp.drop hw (.cons _ (.cons _ (.cons _ (.cons _ (.cons _ (.refl _)))))) (.refl _)⟩
              · skip
                first | have hcc : ¬ (o.code = 18 ∨ o.code = 19) := (fun h => by rw [hx.2 h] at hc; cases hc) | skip
                refine wc_seq ?_
                refine wc_region ?_
                refine wl_free .none rfl (yf_eql rfl rfl) ?_
                refine wl_free .none rfl (yf_assign rfl) ?_
                refine wl_nil ?_
                refine wq_then ?_
                refine wc_cond rfl (fun hc => ?_) (fun hc => ?_)
                · replace hc := eq_of_beq hc
                  refine wc_seq ?_
                  refine wc_weak (.cons (i := 2) rfl <| .cons (i := 3) rfl <| .cons (i := 4) rfl <| .cons (i := 6) rfl <| .cons (i := 7) rfl <| .cons (i := 8) rfl <| .cons (i := 9) rfl <| .cons (i := 10) rfl <| .cons (i := 25) rfl <| .cons (i := 73) rfl <| .cons (i := 92) rfl <| .nil) ?_
                  refine wc_region ?_
                  refine wl_free .none rfl (yf_loadAllL 2 rfl rfl Try.underlying37 rfl (u28l hl)) ?_
                  refine wl_free .none rfl (yf_move rfl) ?_
                  refine wl_free .none rfl (yf_neq rfl rfl) ?_
                  refine wl_chain0 .none (cf_storeAll (seg := u32s s.vars) 1 rfl rfl rfl (ints_one' _) (by rw [us_len, hl]; rfl) (u28l hl)) (fun _ => ?_)
                  refine wl_free .none rfl (yf_assign rfl) ?_
                  refine wl_nil ?_
                  refine wq_then ?_
                  refine wc_ret ?_
                  refine wq_block_ret ?_
                  refine wq_then_ret ?_
                  first | refine wq_retCT rfl rfl rfl 0 rfl Try.underlying37 rfl (u28l vo'.1) (fun w hw => ?_) | refine wq_retCT rfl rfl rfl 1 rfl Try.underlying37 rfl (u28l hl) (fun w hw => ?_) | refine wq_retCT rfl rfl rfl 2 rfl Try.underlying37 rfl (u28l hl) (fun w hw => ?_)
                  by_cases hz : s.get o.a = 0
                  · exact ⟨⟨true, s.leave at_ cur, cur, mo⟩, ⟨hm, rfl, vo, by rw [evStepM_other (by omega)]; simp [evStep, hc, hz]⟩, by rw [hz]; rfl, Hp.drop hw (.cons _ (.cons _ (.cons _ (.cons _ (.refl _))))) (.refl _)⟩
                  · exact ⟨⟨false, s, cur, mo⟩, ⟨hm, rfl, vo, by rw [evStepM_other (by omega)]; simp [evStep, hc, hz]⟩, by simp [hz], Hp.drop hw (.cons _ (.cons _ (.cons _ (.cons _ (.refl _))))) (.refl _)⟩
                · replace hc := beq_no hc
                  refine wc_seq ?_
                  refine wc_weak (.cons (i := 2) rfl <| .cons (i := 3) rfl <| .cons (i := 4) rfl <| .cons (i := 6) rfl <| .cons (i := 7) rfl <| .cons (i := 8) rfl <| .cons (i := 9) rfl <| .cons (i := 10) rfl <| .cons (i := 25) rfl <| .cons (i := 73) rfl <| .cons (i := 92) rfl <| .nil) ?_
                  refine wc_region ?_
                  refine wl_free .none rfl (yf_eql rfl rfl) ?_
                  refine wl_free .none rfl (yf_assign rfl) ?_
                  refine wl_nil ?_
                  refine wq_then ?_
                  refine wc_cond rfl (fun hc => ?_) (fun hc => ?_)
                  · replace hc := eq_of_beq hc
                    refine wc_seq ?_
                    refine wc_weak (.cons (i := 2) rfl <| .cons (i := 3) rfl <| .cons (i := 4) rfl <| .cons (i := 6) rfl <| .cons (i := 7) rfl <| .cons (i := 8) rfl <| .cons (i := 9) rfl <| .cons (i := 10) rfl <| .cons (i := 25) rfl <| .cons (i := 73) rfl <| .cons (i := 92) rfl <| .cons (i := 97) rfl <| .nil) ?_
                    refine wc_region ?_
                    refine wl_free .none rfl (yf_loadAllL 2 rfl rfl Try.underlying37 rfl (u28l hl)) ?_
                    refine wl_chain0 .none (cf_storeAll (seg := u32s s.vars) 1 rfl rfl rfl (ints_one' _) (by rw [us_len, hl]; rfl) (u28l hl)) (fun _ => ?_)
                    refine wl_free .none rfl (yf_assign rfl) ?_
                    refine wl_nil ?_
                    refine wq_then ?_
                    refine wc_ret ?_
                    refine wq_block_ret ?_
                    refine wq_then_ret ?_
                    first | refine wq_retCT rfl rfl rfl 0 rfl Try.underlying37 rfl (u28l vo'.1) (fun w hw => ?_) | refine wq_retCT rfl rfl rfl 1 rfl Try.underlying37 rfl (u28l hl) (fun w hw => ?_) | refine wq_retCT rfl rfl rfl 2 rfl Try.underlying37 rfl (u28l hl) (fun w hw => ?_)
                    exact ⟨⟨true, s.leave at_ cur, cur, mo⟩, ⟨hm, rfl, vo, by rw [evStepM_other (by omega)]; simp [evStep, hc]⟩, rfl, Hp.drop hw (.cons _ (.cons _ (.cons _ (.cons _ (.refl _))))) (.refl _)⟩
                  · replace hc := beq_no hc
                    refine wc_seq ?_
                    refine wc_weak (.cons (i := 2) rfl <| .cons (i := 3) rfl <| .cons (i := 4) rfl <| .cons (i := 6) rfl <| .cons (i := 7) rfl <| .cons (i := 8) rfl <| .cons (i := 9) rfl <| .cons (i := 10) rfl <| .cons (i := 25) rfl <| .cons (i := 73) rfl <| .cons (i := 92) rfl <| .cons (i := 97) rfl <| .nil) ?_
                    refine wc_region ?_
                    refine wl_free .none rfl (yf_fieldAddr (off := 1) (sz := 0) rfl Try.underlying68 (by kernel_rfl) rfl) ?_
                    first | refine wl_free .none rfl (yf_loadL 0 rfl rfl rfl Try.underlying4 rfl) ?_ | refine wl_free .none rfl (yf_loadL 1 rfl rfl rfl Try.underlying4 rfl) ?_ | refine wl_free .none rfl (yf_loadL 2 rfl rfl rfl Try.underlying4 rfl) ?_ | refine wl_free .none rfl (yf_loadL 3 rfl rfl rfl Try.underlying4 rfl) ?_ | refine wl_free .none rfl (yf_loadL 4 rfl rfl rfl Try.underlying4 rfl) ?_ | refine wl_free .none rfl (yf_loadL 5 rfl rfl rfl Try.underlying4 rfl) ?_
                    refine wl_nil ?_
                    refine wq_then ?_
                    refine wc_cond rfl (fun hc => ?_) (fun hc => ?_)
                    · skip
                      have h315 : 3 ≤ o.code ∧ o.code ≤ 15 := by simp [shD] at hc; omega
                      refine wc_weak (.cons (i := 2) rfl <| .cons (i := 3) rfl <| .cons (i := 4) rfl <| .cons (i := 6) rfl <| .cons (i := 7) rfl <| .cons (i := 8) rfl <| .cons (i := 9) rfl <| .cons (i := 10) rfl <| .cons (i := 25) rfl <| .cons (i := 27) rfl <| .cons (i := 73) rfl <| .cons (i := 92) rfl <| .cons (i := 97) rfl <| .nil) ?_
                      refine wc_drawTN 7 [0, 1, 2, 3, 4, 5, 6] _ (by kernel_rfl) (by kernel_rfl) HpG.stab (fun _ h => h) (fun n0 hn0 => ?_)
                      refine wd_at rfl ?_
                      (refine wd_free ?_ .none rfl (yf_fieldAddr (off := 1) (sz := 0) rfl Try.underlying36 (by kernel_rfl) rfl) ?_; (· rfl);  skip)
                      refine wd_at rfl ?_
                      (refine wd_free ?_ .none rfl (yf_loadL 3 rfl rfl rfl Try.underlying3 rfl) ?_; (· rfl);  skip)
                      refine wd_at rfl ?_
                      (refine wd_free ?_ .none rfl (yf_fieldAddr (off := 0) (sz := 0) rfl Try.underlying36 (by kernel_rfl) rfl) ?_; (· rfl);  skip)
                      refine wd_at rfl ?_
                      (refine wd_free ?_ .none rfl (yf_loadL 3 rfl rfl rfl Try.underlying3 rfl) ?_; (· rfl);  skip)
                      refine wd_at rfl ?_
                      (refine wd_free ?_ .none rfl (yf_move rfl) ?_; (· rfl);  skip)
                      refine wd_at rfl ?_
                      (refine wd_free ?_ .none rfl (yf_move rfl) ?_; (· rfl);  skip)
                      refine wd_at rfl ?_
                      refine wd_pure .none rfl (by kernel_rfl) rfl (fun _ _ hj hx => HpG.onE hj hx) (fun w hw => (refOp_any o.code (s.get o.a) (s.get o.b) w ga.1 ga.2 gb.1 gb.2).mono fun e w' ⟨h1, h2⟩ => ⟨h1, by subst h2; exact Ext.refl _⟩) ?_
                      refine wd_endTH ?_
                      simp only [List.drop_succ_cons, List.drop_zero]
                      first | (refine wl_free .none rfl (yf_indexAddrA (es := 1) rfl rfl Try.underlying37 (by kernel_rfl) rfl ?_ rfl) ?_; (· first | decide | omega | (simp; omega)); skip) | (refine wl_free .none rfl (yf_indexAddrA (es := 1) rfl rfl Try.underlying37 (by kernel_rfl) (Int.toNat_of_nonneg ?_).symm ?_ rfl) ?_; (· omega); (· first | decide | omega | (simp; omega)); skip)
                      refine wl_chain0 .none (cf_storeU (l := s.vars) 2 rfl rfl rfl (by omega) (by kernel_rfl)) (fun _ => ?_)
                      refine wl_nil ?_
                      refine wq_block ?_
                      refine wq_meet (ι := {j : EvOut × Int // evStepM at_ o s cur (mPM mo) = (false, j.1, j.2, mPM mo) ∧ VarsOk j.1.vars}) ⟨(s.set o.d (wordOpL o.code (s.get o.a) (s.get o.b)), cur), ?_, vo.set hrg⟩ (.cons rfl <| .cons rfl <| .nil) (fun w h => ?_)
                      · rw [evStepM_other (by omega)]
                        have hev : evStep at_ o s cur = (false, s.set o.d (wordOpL o.code (s.get o.a) (s.get o.b)), cur) := by
                          unfold evStep
                          rw [if_neg (by omega), if_neg (by omega), if_neg (by omega), if_neg (by omega), if_neg (by omega), if_neg (by omega), if_neg (by omega), if_neg (by omega)]
                        rw [hev]
                      · simp only [Nat.zero_add, Nat.mul_one] at h; exact Hp.drop h (.cons _ (.refl _)) (.refl _)
                    · skip
                      have h2023 : o.code = 20 ∨ o.code = 23 := by simp [shD] at hc; omega
                      refine wc_skip ?_
                      refine wq_block ?_
                      refine wq_meet (ι := {j : EvOut × Int // evStepM at_ o s cur (mPM mo) = (false, j.1, j.2, mPM mo) ∧ VarsOk j.1.vars}) ⟨(s, if o.code = 20 then o.n else cur), ?_, vo⟩ (.cons rfl <| .cons rfl <| .nil) (fun w h => Hp.drop h (.cons _ (.refl _)) (.refl _))
                      rw [evStepM_other (by omega)]
                      rcases h2023 with h | h
                      · simp [evStep, h]
                      · simp [evStep, h, h23 h]
  · obtain ⟨⟨s', cur'⟩, hst, vo'⟩ := j
    dsimp only at hst vo' ⊢
    refine wc_seq ?_
    refine wc_region ?_
    refine wl_free .none rfl (yf_loadAllL 1 rfl rfl Try.underlying37 rfl (u28l vo'.1)) ?_
    refine wl_chain0 .none (cf_storeAll (seg := u32s s'.vars) 0 rfl rfl rfl (ints_one' _) (by rw [us_len, vo'.1]; rfl) (u28l vo'.1)) (fun _ => ?_)
    refine wl_free .none rfl (yf_assign rfl) ?_
    refine wl_nil ?_
    refine wq_then ?_
    refine wc_ret ?_
    first | refine wq_retCT rfl rfl rfl 0 rfl Try.underlying37 rfl (u28l vo'.1) (fun w hw => ?_) | refine wq_retCT rfl rfl rfl 1 rfl Try.underlying37 rfl (u28l hl) (fun w hw => ?_) | refine wq_retCT rfl rfl rfl 2 rfl Try.underlying37 rfl (u28l hl) (fun w hw => ?_)
    exact ⟨⟨false, s', cur', mo⟩, ⟨hm, rfl, vo', hst⟩, rfl, Hp.drop hw (.cons _ (.cons _ (.cons _ (.refl _)))) (.refl _)⟩
end Go.Proofs.Ytojofinofpgopaa
/- The reference: Eval. -/
namespace Go.Proofs.Ytojofinofpgopaa
open Go.RowKit
theorem gvL_eq (s : EvOut) : gvL s.vars = s.guests.vars := rfl
theorem gvL_len {l : List Int} (h : l.length = 28) : (gvL l).length = 28 := by rw [zg_len, h]
theorem ou57 {s : EvOut} (h : s.vars.length = 28) : (Try.prog.info? 57).map (·.size) = some (ouL s).length := by rw [ouL_len, h]; kernel_rfl
theorem built57a (vars : List Int) (hv : vars.length = 28) (d n : Int) : Try.prog.built 57 [(2, .int .i64 d), (3, .int .u32 n), (4, .agg (u32s vars).toArray)] = some (ouL ⟨false, 0, d, n, vars⟩).toArray := by
  match vars, hv with
  | [v0, v1, v2, v3, v4, v5, v6, v7, v8, v9, v10, v11, v12, v13, v14, v15, v16, v17, v18, v19, v20, v21, v22, v23, v24, v25, v26, v27], _ => (show _ = _; kernel_rfl)
theorem built57b (vars : List Int) (hv : vars.length = 28) (i d n : Int) : Try.prog.built 57 [(0, .bool true), (1, .int .i64 i), (2, .int .i64 d), (3, .int .u32 n), (4, .agg (u32s vars).toArray)] = some (ouL ⟨true, i, d, n, vars⟩).toArray := by
  match vars, hv with
  | [v0, v1, v2, v3, v4, v5, v6, v7, v8, v9, v10, v11, v12, v13, v14, v15, v16, v17, v18, v19, v20, v21, v22, v23, v24, v25, v26, v27], _ => (show _ = _; kernel_rfl)
structure RvJ where
  k : Nat
  s : EvOut
  cur : Int
  mo : Option Rm
structure RvI (b : IBlk) (Rr : EvOut × PM) (mo : Option Rm) (j : RvJ) : Prop where
  ok : MoOk j.mo
  M : mP j.mo = mP mo
  lt : j.k < b.ops.length
  vo : VarsOk j.s.vars
  cur : j.k = 0 ∨ 0 ≤ j.cur ∧ j.cur < b.at_.length
  go : evGoM b.at_ (b.ops.drop j.k) j.s j.cur (mPM j.mo) = Rr
  k0 : j.s.lv = false ∧ j.s.idx = 0 ∧ j.s.done = b.at_.length
theorem evGoM_last {at_ : List Int} {ops : List IOp} {k : Nat} {s s' : EvOut} {cur cur' : Int} {m m' : PM} (hk : k + 1 = ops.length) (h : evStepM at_ (ops.getD k noOp) s cur m = (false, s', cur', m')) : evGoM at_ (ops.drop k) s cur m = (s', m') := by
  rw [evGoM_cont (by omega) h, hk, List.drop_length]; rfl
set_option maxRecDepth 100000 in
set_option maxHeartbeats 4000000 in
theorem refEvalM_any (aA aP aO : Option Addr) (cA cP cO : Nat) (b : IBlk) (n : Nat) (hi : BR.OkN n ⟨b, aA, aP, aO, cA, cP, cO⟩) (hn : n ≤ maxLen) (vars : List Int) (hvo : VarsOk vars) (mo : Option Rm) (hm : MoOk mo) (w_0 : World) (h : OnL (mLs mo) w_0) (hb : BRd (fun k => k ∈ (mLs mo).map (·.1)) ⟨b, aA, aP, aO, cA, cP, cO⟩ w_0) :
    Calls Try.prog 33 #[blkV aA aP aO cA cP cO b, .agg (u32s vars).toArray, .pointer (mP mo)] w_0 fun e w' =>
      ∃ mo' : Option Rm, (MoOk mo' ∧ mP mo' = mP mo ∧ mPM mo' = (evalM b vars (mPM mo)).2) ∧ e = .returned (.agg (ouL (evalM b vars (mPM mo)).1).toArray) ∧ Hp (fun k => k ∈ (mLs mo).map (·.1)) w_0 (mLs mo') [] (fun _ => True) w' := by
  have hv28 := hvo.1
  obtain ⟨F, hF_, hFt⟩ := hb.foot'
  obtain ⟨gO, oO, hO⟩ : ∃ gO oO, 0 < b.ops.length → aO = some ⟨gO, oO, none⟩ := by
    by_cases h0 : 0 < b.ops.length
    · obtain ⟨g, o, e, _⟩ := hb.o (by have := opsCells_len b.ops; show 0 < (opsCells b.ops).length; omega)
      exact ⟨g, o, fun _ => e⟩
    · exact ⟨0, 0, fun h => absurd h h0⟩
  obtain ⟨gA, oA, hA⟩ : ∃ gA oA, 0 < b.at_.length → aA = some ⟨gA, oA, none⟩ := by
    by_cases h0 : 0 < b.at_.length
    · obtain ⟨g, o, e, _⟩ := hb.a (by show 0 < (b.at_.map _).length; rw [List.length_map]; exact h0)
      exact ⟨g, o, fun _ => e⟩
    · exact ⟨0, 0, fun h => absurd h h0⟩
  have hlen := hi.lO
  refine calls_wc (args := [blkV aA aP aO cA cP cO b, .agg (u32s vars).toArray, .pointer (mP mo)]) Try.func33 rfl 95 rfl (Nat.le_of_ble_eq_true rfl) ?_
  refine wc_weak (.cons (i := 0) rfl <| .cons (i := 1) rfl <| .cons (i := 2) rfl <| .nil) ?_
  refine wc_conseq (H' := Hp (fun k => k ∈ (mLs mo).map (·.1)) w_0 (mLs mo) [] (BRd (fun k => k ∈ (mLs mo).map (·.1)) ⟨b, aA, aP, aO, cA, cP, cO⟩)) (fun u hu => ?_) ?_
  · subst hu; exact ((Hp.startL h hm.nodup).addX ⟨F, fun k hk => ⟨(hF_ k hk).1, (hF_ k hk).2, fun hm => (hF_ k hk).2 (by simpa [blks] using hm)⟩, hFt⟩).weakX fun _ h => h.1
  refine wc_seq ?_
  refine wc_region ?_
  refine wl_new .none rfl (nf_box rfl rfl) (fun b3 => ?_)
  refine wl_new .none rfl (nf_box rfl rfl) (fun b4 => ?_)
  refine wl_new .none rfl (nf_alloc (z := .agg #[.bool false, .int .i64 0, .int .i64 0, .int .u32 0, .int .u32 0, .int .u32 0, .int .u32 0, .int .u32 0, .int .u32 0, .int .u32 0, .int .u32 0, .int .u32 0, .int .u32 0, .int .u32 0, .int .u32 0, .int .u32 0, .int .u32 0, .int .u32 0, .int .u32 0, .int .u32 0, .int .u32 0, .int .u32 0, .int .u32 0, .int .u32 0, .int .u32 0, .int .u32 0, .int .u32 0, .int .u32 0, .int .u32 0, .int .u32 0, .int .u32 0, .int .u32 0]) (cs := [.bool false, .int .i64 0, .int .i64 0, .int .u32 0, .int .u32 0, .int .u32 0, .int .u32 0, .int .u32 0, .int .u32 0, .int .u32 0, .int .u32 0, .int .u32 0, .int .u32 0, .int .u32 0, .int .u32 0, .int .u32 0, .int .u32 0, .int .u32 0, .int .u32 0, .int .u32 0, .int .u32 0, .int .u32 0, .int .u32 0, .int .u32 0, .int .u32 0, .int .u32 0, .int .u32 0, .int .u32 0, .int .u32 0, .int .u32 0, .int .u32 0, .int .u32 0]) (by kernel_rfl) rfl) (fun b6 => ?_)
  refine wl_nil ?_
  refine wq_then ?_
  refine wc_seq ?_
  refine wc_region ?_
  first | refine wl_free .none rfl (yf_loadAllL 0 rfl rfl Try.underlying26 rfl (by kernel_rfl)) ?_ | refine wl_free .none rfl (yf_loadAllL 1 rfl rfl Try.underlying26 rfl (by kernel_rfl)) ?_ | refine wl_free .none rfl (yf_loadAllL 2 rfl rfl Try.underlying26 rfl (by kernel_rfl)) ?_ | refine wl_free .none rfl (yf_loadAllL 3 rfl rfl Try.underlying26 rfl (by kernel_rfl)) ?_ | refine wl_free .none rfl (yf_loadAllL 4 rfl rfl Try.underlying26 rfl (by kernel_rfl)) ?_ | refine wl_free .none rfl (yf_loadAllL 5 rfl rfl Try.underlying26 rfl (by kernel_rfl)) ?_
  refine wl_pure .none rfl (by kernel_rfl) rfl (fun w hw => refValid_call (i := ⟨b, aA, aP, aO, cA, cP, cO⟩) (HpG.x hw) hi hn) ?_
  refine wl_free .none rfl (yf_assign rfl) ?_
  refine wl_nil ?_
  refine wq_then ?_
  refine wc_seq ?_
  refine wc_seq ?_
  refine wc_weak (.cons (i := 0) rfl <| .cons (i := 1) rfl <| .cons (i := 2) rfl <| .cons (i := 3) rfl <| .cons (i := 4) rfl <| .cons (i := 6) rfl <| .cons (i := 7) rfl <| .nil) ?_
  refine wc_region ?_
  refine wl_free .none rfl (yf_move rfl) ?_
  refine wl_free .none rfl (yf_not rfl) ?_
  refine wl_nil ?_
  refine wq_then ?_
  refine wc_cond rfl (fun hc => ?_) (fun hc => ?_)
  · skip
    have hval : validL b = false := by simpa using hc
    refine wc_seq ?_
    refine wc_weak (.cons (i := 0) rfl <| .cons (i := 1) rfl <| .cons (i := 2) rfl <| .cons (i := 3) rfl <| .cons (i := 4) rfl <| .cons (i := 6) rfl <| .cons (i := 7) rfl <| .cons (i := 17) rfl <| .nil) ?_
    refine wc_region ?_
    refine wl_free .none rfl (yf_buildS [.bool false, .int .i64 0, .int .i64 0, .int .u32 0, .int .u32 0, .int .u32 0, .int .u32 0, .int .u32 0, .int .u32 0, .int .u32 0, .int .u32 0, .int .u32 0, .int .u32 0, .int .u32 0, .int .u32 0, .int .u32 0, .int .u32 0, .int .u32 0, .int .u32 0, .int .u32 0, .int .u32 0, .int .u32 0, .int .u32 0, .int .u32 0, .int .u32 0, .int .u32 0, .int .u32 0, .int .u32 0, .int .u32 0, .int .u32 0, .int .u32 0, .int .u32 0] [(0, 1), (1, 1), (2, 1), (3, 1), (4, 28)] rfl (by kernel_rfl) (by kernel_rfl) rfl) ?_
    first | refine wl_chain0 .none (cf_storeRow 0 rfl rfl rfl rfl rfl (by kernel_rfl)) (fun _ => ?_) | refine wl_chain0 .none (cf_storeRow 1 rfl rfl rfl rfl rfl (by kernel_rfl)) (fun _ => ?_) | refine wl_chain0 .none (cf_storeRow 2 rfl rfl rfl rfl rfl (by kernel_rfl)) (fun _ => ?_) | refine wl_chain0 .none (cf_storeRow 3 rfl rfl rfl rfl rfl (by kernel_rfl)) (fun _ => ?_) | refine wl_chain0 .none (cf_storeRow 4 rfl rfl rfl rfl rfl (by kernel_rfl)) (fun _ => ?_) | refine wl_chain0 .none (cf_storeRow 5 rfl rfl rfl rfl rfl (by kernel_rfl)) (fun _ => ?_)
    refine wl_nil ?_
    refine wq_then ?_
    refine wc_ret ?_
    refine wq_then_ret ?_
    first | refine wq_retC rfl rfl 2 rfl Try.underlying57 rfl (ou57 hgl) (fun w hw => ?_) | refine wq_retC rfl rfl 3 rfl Try.underlying57 rfl (ou57 hgl) (fun w hw => ?_) | refine wq_retC rfl rfl 0 rfl Try.underlying57 rfl (by kernel_rfl) (fun w hw => ?_)
    refine ⟨mo, ⟨hm, rfl, ?_⟩, ?_, hp_and (Hp.drop hw (.cons _ (.cons _ (.cons _ (.refl _)))) (.refl _))⟩
    · rw [evalM, hval]; rfl
    · rw [evalM, hval]; rfl
  · skip
    have hval : validL b = true := by simpa using hc
    have VF := valid_facts hval
    have hle := VF.le
    have hR : (evalM b vars (mPM mo)) = ((evGoM b.at_ b.ops ⟨false, 0, b.at_.length, 0, vars⟩ 0 (mPM mo)).1.guests, (evGoM b.at_ b.ops ⟨false, 0, b.at_.length, 0, vars⟩ 0 (mPM mo)).2) := by rw [evalM, if_pos hval]
    obtain ⟨Rr, hRr⟩ : ∃ Rr, evGoM b.at_ b.ops ⟨false, 0, b.at_.length, 0, vars⟩ 0 (mPM mo) = Rr := ⟨_, rfl⟩
    rw [hRr] at hR
    refine wc_skip ?_
    refine wq_then ?_
    refine wc_seq ?_
    refine wc_weak (.cons (i := 0) rfl <| .cons (i := 1) rfl <| .cons (i := 2) rfl <| .cons (i := 3) rfl <| .cons (i := 4) rfl <| .cons (i := 6) rfl <| .cons (i := 7) rfl <| .cons (i := 17) rfl <| .nil) ?_
    refine wc_region ?_
    refine wl_free .none rfl (yf_loadAllL 1 rfl rfl Try.underlying37 rfl (u28l hv28)) ?_
    refine wl_new .none rfl (nf_alloc (z := .agg #[.int .u32 0, .int .u32 0, .int .u32 0, .int .u32 0, .int .u32 0, .int .u32 0, .int .u32 0, .int .u32 0, .int .u32 0, .int .u32 0, .int .u32 0, .int .u32 0, .int .u32 0, .int .u32 0, .int .u32 0, .int .u32 0, .int .u32 0, .int .u32 0, .int .u32 0, .int .u32 0, .int .u32 0, .int .u32 0, .int .u32 0, .int .u32 0, .int .u32 0, .int .u32 0, .int .u32 0, .int .u32 0]) (cs := [.int .u32 0, .int .u32 0, .int .u32 0, .int .u32 0, .int .u32 0, .int .u32 0, .int .u32 0, .int .u32 0, .int .u32 0, .int .u32 0, .int .u32 0, .int .u32 0, .int .u32 0, .int .u32 0, .int .u32 0, .int .u32 0, .int .u32 0, .int .u32 0, .int .u32 0, .int .u32 0, .int .u32 0, .int .u32 0, .int .u32 0, .int .u32 0, .int .u32 0, .int .u32 0, .int .u32 0, .int .u32 0]) (by kernel_rfl) rfl) (fun b8 => ?_)
    refine wl_chain0 .none (cf_storeAll (seg := u32s vars) 0 rfl rfl rfl (ints_one' _) (by rw [us_len, hv28]; rfl) (u28l hv28)) (fun _ => ?_)
    refine wl_nil ?_
    refine wq_then ?_
    refine wc_seq ?_
    refine wc_weak (.cons (i := 0) rfl <| .cons (i := 1) rfl <| .cons (i := 2) rfl <| .cons (i := 3) rfl <| .cons (i := 4) rfl <| .cons (i := 6) rfl <| .cons (i := 7) rfl <| .cons (i := 8) rfl <| .cons (i := 17) rfl <| .nil) ?_
    refine wc_region ?_
    refine wl_free .none rfl (yf_assign rfl) ?_
    refine wl_nil ?_
    refine wq_then ?_
    refine wc_seq ?_
    refine wc_seq ?_
    refine wc_region ?_
    refine wl_free .none rfl (yf_assign rfl) ?_
    refine wl_nil ?_
    refine wq_then ?_
    refine wc_block ?_
    refine wc_loop (ι := {j : RvJ // RvI b Rr mo j}) (fun j => [(2, .pointer (mP mo)), (3, ptrV b3), (6, ptrV b6), (8, ptrV b8), (9, .int .i64 j.1.cur), (10, .int .i64 j.1.k)]) (fun j => Hp (fun k => k ∈ (mLs mo).map (·.1)) w_0 ((b8, bk 37 (u32s j.1.s.vars)) :: (b6, bk 57 (ouL zeroOut)) :: (b4, bk 37 (u32s vars)) :: (b3, bk 26 (hdC aA aP aO cA cP cO b)) :: mLs j.1.mo) [] (BRd (fun k => k ∈ (mLs mo).map (·.1)) ⟨b, aA, aP, aO, cA, cP, cO⟩)) (fun j => b.ops.length - j.1.k) ⟨⟨0, ⟨false, 0, b.at_.length, 0, vars⟩, 0, mo⟩, hm, rfl, VF.pos, hvo, .inl rfl, hRr, rfl, rfl, rfl⟩ ?_ ?_ (fun j => ?_)
    · exact .cons rfl <| .cons rfl <| .cons rfl <| .cons rfl <| .consE rfl rfl <| .consE rfl rfl <| .nil
    · exact fun w h => h
    obtain ⟨⟨k, s, cur, mi⟩, oki, Mi, hk, voi, curi, goi, k0⟩ := j
    dsimp only at oki Mi hk voi curi goi k0 ⊢
    refine wc_seq ?_
    refine wc_seq ?_
    refine wc_region ?_
    refine wl_free .none rfl (yf_move rfl) ?_
    refine wl_free .none rfl (yf_fieldAddr (off := 2) (sz := 0) rfl Try.underlying26 (by kernel_rfl) rfl) ?_
    first | refine wl_free .none rfl (yf_loadL 0 rfl rfl rfl Try.underlying24 rfl) ?_ | refine wl_free .none rfl (yf_loadL 1 rfl rfl rfl Try.underlying24 rfl) ?_ | refine wl_free .none rfl (yf_loadL 2 rfl rfl rfl Try.underlying24 rfl) ?_ | refine wl_free .none rfl (yf_loadL 3 rfl rfl rfl Try.underlying24 rfl) ?_ | refine wl_free .none rfl (yf_loadL 4 rfl rfl rfl Try.underlying24 rfl) ?_ | refine wl_free .none rfl (yf_loadL 5 rfl rfl rfl Try.underlying24 rfl) ?_
    refine wl_free .none rfl (yf_lenS rfl Try.underlying24) ?_
    refine wl_free .none rfl (yf_lss rfl rfl) ?_
    refine wl_nil ?_
    refine wq_then ?_
    refine wc_cond rfl (fun hc => ?_) (fun hc => ?_)
    · replace hc := of_decide_eq_true hc
      have hOk := hO (by omega)
      obtain ⟨o, ho⟩ : ∃ o, b.ops.getD k noOp = o := ⟨_, rfl⟩
      have hF := VF.form k hk
      have hfb := form_bd hF
      have hun := hi.uO _ (opD_mem hk)
      have hmk := VF.mark k hk
      have hlast := VF.last k hk
      rw [ho] at hfb hun hmk hF hlast
      obtain ⟨⟨d0, d1⟩, ⟨a0, a1⟩, ⟨q0, q1⟩, e0, e1⟩ := hfb
      have hun' := hun
      obtain ⟨n0, n1⟩ := hun
      have ga := voi.get a0 a1
      have hgl := gvL_len voi.1
      have hcur : o.code ≠ 20 → 0 ≤ cur ∧ cur < (b.at_.length : Int) := fun h20 => by
        rcases curi with h | h
        · exfalso; subst h; have := VF.first; rw [ho] at this; exact h20 this
        · exact h
      obtain ⟨tc, htc⟩ : ∃ tc, (if o.code = 20 then o.n else cur) = tc := ⟨_, rfl⟩
      refine wc_skip ?_
      refine wq_then ?_
      refine wc_seq ?_
      refine wc_block ?_
      refine wc_seq ?_
      refine wc_weak (.cons (i := 2) rfl <| .cons (i := 3) rfl <| .cons (i := 6) rfl <| .cons (i := 8) rfl <| .cons (i := 9) rfl <| .cons (i := 10) rfl <| .cons (i := 24) rfl <| .nil) ?_
      refine wc_region ?_
      refine wl_free .none rfl (yf_fieldAddr (off := 2) (sz := 0) rfl Try.underlying26 (by kernel_rfl) rfl) ?_
      first | refine wl_free .none rfl (yf_loadL 0 rfl rfl rfl Try.underlying24 rfl) ?_ | refine wl_free .none rfl (yf_loadL 1 rfl rfl rfl Try.underlying24 rfl) ?_ | refine wl_free .none rfl (yf_loadL 2 rfl rfl rfl Try.underlying24 rfl) ?_ | refine wl_free .none rfl (yf_loadL 3 rfl rfl rfl Try.underlying24 rfl) ?_ | refine wl_free .none rfl (yf_loadL 4 rfl rfl rfl Try.underlying24 rfl) ?_ | refine wl_free .none rfl (yf_loadL 5 rfl rfl rfl Try.underlying24 rfl) ?_
      refine wl_free .none rfl (yf_move rfl) ?_
      refine wl_free .none rfl (yf_indexAddrS (g := gO) (o := oO) (j := k) (es := 5) (by rw [← hOk]; rfl) rfl Try.underlying24 (by kernel_rfl) rfl hk rfl) ?_
      refine wl_free .none rfl (yf_loadRow (cs := opC o) rfl Try.underlying36 rfl (by kernel_rfl) (fun w h => by have := (HpG.x h).o; dsimp only at this; rw [hOk] at this; rw [← ho]; exact RdIn.opRow this hk rfl)) ?_
      refine wl_new .none rfl (nf_alloc (z := .agg #[.int .i64 0, .int .i64 0, .int .i64 0, .int .i64 0, .int .u32 0]) (cs := [.int .i64 0, .int .i64 0, .int .i64 0, .int .i64 0, .int .u32 0]) (by kernel_rfl) rfl) (fun b11 => ?_)
      first | refine wl_chain0 .none (cf_storeRow 0 rfl rfl rfl rfl rfl (by kernel_rfl)) (fun _ => ?_) | refine wl_chain0 .none (cf_storeRow 1 rfl rfl rfl rfl rfl (by kernel_rfl)) (fun _ => ?_) | refine wl_chain0 .none (cf_storeRow 2 rfl rfl rfl rfl rfl (by kernel_rfl)) (fun _ => ?_) | refine wl_chain0 .none (cf_storeRow 3 rfl rfl rfl rfl rfl (by kernel_rfl)) (fun _ => ?_) | refine wl_chain0 .none (cf_storeRow 4 rfl rfl rfl rfl rfl (by kernel_rfl)) (fun _ => ?_) | refine wl_chain0 .none (cf_storeRow 5 rfl rfl rfl rfl rfl (by kernel_rfl)) (fun _ => ?_)
      refine wl_nil ?_
      refine wq_then ?_
      refine wc_cut (ι := Unit) (fun _ => [(2, .pointer (mP mo)), (3, ptrV b3), (6, ptrV b6), (8, ptrV b8), (9, .int .i64 tc), (10, .int .i64 k), (11, ptrV b11)]) (fun _ => Hp (fun k => k ∈ (mLs mo).map (·.1)) w_0 ((b11, bk 36 (opC o)) :: (b8, bk 37 (u32s s.vars)) :: (b6, bk 57 (ouL zeroOut)) :: (b4, bk 37 (u32s vars)) :: (b3, bk 26 (hdC aA aP aO cA cP cO b)) :: mLs mi) [] (BRd (fun k => k ∈ (mLs mo).map (·.1)) ⟨b, aA, aP, aO, cA, cP, cO⟩)) ?_ (fun _ => ?_)
      · skip
        refine wc_seq ?_
        refine wc_weak (.cons (i := 2) rfl <| .cons (i := 3) rfl <| .cons (i := 6) rfl <| .cons (i := 8) rfl <| .cons (i := 9) rfl <| .cons (i := 10) rfl <| .cons (i := 11) rfl <| .cons (i := 24) rfl <| .nil) ?_
        refine wc_region ?_
        refine wl_free .none rfl (yf_fieldAddr (off := 0) (sz := 0) rfl Try.underlying36 (by kernel_rfl) rfl) ?_
        first | refine wl_free .none rfl (yf_loadL 0 rfl rfl rfl Try.underlying3 rfl) ?_ | refine wl_free .none rfl (yf_loadL 1 rfl rfl rfl Try.underlying3 rfl) ?_ | refine wl_free .none rfl (yf_loadL 2 rfl rfl rfl Try.underlying3 rfl) ?_ | refine wl_free .none rfl (yf_loadL 3 rfl rfl rfl Try.underlying3 rfl) ?_ | refine wl_free .none rfl (yf_loadL 4 rfl rfl rfl Try.underlying3 rfl) ?_ | refine wl_free .none rfl (yf_loadL 5 rfl rfl rfl Try.underlying3 rfl) ?_
        refine wl_free .none rfl (yf_eql rfl rfl) ?_
        refine wl_nil ?_
        refine wq_then ?_
        refine wc_cond rfl (fun hc => ?_) (fun hc => ?_)
        · replace hc := eq_of_beq hc
          have htn : o.n = tc := by rw [← htc, if_pos hc]
          refine wc_weak (.cons (i := 2) rfl <| .cons (i := 3) rfl <| .cons (i := 6) rfl <| .cons (i := 8) rfl <| .cons (i := 9) rfl <| .cons (i := 10) rfl <| .cons (i := 11) rfl <| .cons (i := 24) rfl <| .cons (i := 34) rfl <| .nil) ?_
          refine wc_region ?_
          refine wl_free .none rfl (yf_fieldAddr (off := 4) (sz := 0) rfl Try.underlying36 (by kernel_rfl) rfl) ?_
          first | refine wl_free .none rfl (yf_loadL 0 rfl rfl rfl Try.underlying34 rfl) ?_ | refine wl_free .none rfl (yf_loadL 1 rfl rfl rfl Try.underlying34 rfl) ?_ | refine wl_free .none rfl (yf_loadL 2 rfl rfl rfl Try.underlying34 rfl) ?_ | refine wl_free .none rfl (yf_loadL 3 rfl rfl rfl Try.underlying34 rfl) ?_ | refine wl_free .none rfl (yf_loadL 4 rfl rfl rfl Try.underlying34 rfl) ?_ | refine wl_free .none rfl (yf_loadL 5 rfl rfl rfl Try.underlying34 rfl) ?_
          first | (refine wl_free .none rfl (yf_conv rfl (by kernel_rfl) Try.underlying3 (i64_in _ ?_ ?_)) ?_; (· omega); (· omega); skip) | refine wl_free .none rfl (yf_conv rfl (by kernel_rfl) Try.underlying3 rfl) ?_
          refine wl_free .none rfl (yf_assign rfl) ?_
          refine wl_nil ?_
          refine wq_meet () (.cons rfl <| .cons rfl <| .cons rfl <| .cons rfl <| .consE rfl (congrArg (Value.int .i64) htn) <| .cons rfl <| .cons rfl <| .nil) (fun w h => h)
        · replace hc := beq_no hc
          have htn : cur = tc := by rw [← htc, if_neg hc]
          refine wc_skip ?_
          refine wq_meet () (.cons rfl <| .cons rfl <| .cons rfl <| .cons rfl <| .consE rfl (congrArg (Value.int .i64) htn) <| .cons rfl <| .cons rfl <| .nil) (fun w h => h)
      · skip
        refine wc_seq ?_
        refine wc_cut (ι := {x : Bool // x = true ↔ (o.code = 24 ∨ (o.code = 23 ∧ s.get o.a ≠ 0))}) (fun x => [(2, .pointer (mP mo)), (3, ptrV b3), (6, ptrV b6), (8, ptrV b8), (9, .int .i64 tc), (10, .int .i64 k), (11, ptrV b11), (52, .bool x.1)]) (fun _ => Hp (fun k => k ∈ (mLs mo).map (·.1)) w_0 ((b11, bk 36 (opC o)) :: (b8, bk 37 (u32s s.vars)) :: (b6, bk 57 (ouL zeroOut)) :: (b4, bk 37 (u32s vars)) :: (b3, bk 26 (hdC aA aP aO cA cP cO b)) :: mLs mi) [] (BRd (fun k => k ∈ (mLs mo).map (·.1)) ⟨b, aA, aP, aO, cA, cP, cO⟩)) ?_ (fun x => ?_)
        · skip
          refine wc_region ?_
          refine wl_free .none rfl (yf_fieldAddr (off := 0) (sz := 0) rfl Try.underlying36 (by kernel_rfl) rfl) ?_
          first | refine wl_free .none rfl (yf_loadL 0 rfl rfl rfl Try.underlying3 rfl) ?_ | refine wl_free .none rfl (yf_loadL 1 rfl rfl rfl Try.underlying3 rfl) ?_ | refine wl_free .none rfl (yf_loadL 2 rfl rfl rfl Try.underlying3 rfl) ?_ | refine wl_free .none rfl (yf_loadL 3 rfl rfl rfl Try.underlying3 rfl) ?_ | refine wl_free .none rfl (yf_loadL 4 rfl rfl rfl Try.underlying3 rfl) ?_ | refine wl_free .none rfl (yf_loadL 5 rfl rfl rfl Try.underlying3 rfl) ?_
          refine wl_free .none rfl (yf_eql rfl rfl) ?_
          refine wl_free .none rfl (yf_move rfl) ?_
          refine wl_split 41 rfl (fun hg1 => ?_) (fun hg1 => ?_)
          · replace hg1 := eq_of_beq hg1
            refine wl_pass (.some rfl rfl rfl) rfl ?_
            refine wl_pass (.some rfl rfl rfl) rfl ?_
            refine wl_pass (.some rfl rfl rfl) rfl ?_
            refine wl_pass (.some rfl rfl rfl) rfl ?_
            refine wl_passU rfl rfl rfl ?_
            refine wl_passU rfl rfl rfl ?_
            refine wl_passU rfl rfl rfl ?_
            refine wl_passU rfl rfl rfl ?_
            refine wl_passU rfl rfl rfl ?_
            refine wl_pass (.some rfl rfl rfl) rfl ?_
            refine wl_free .none rfl (yf_pickT rfl rfl) ?_
            refine wl_nil ?_
            refine wq_meet (ι := {x : Bool // x = true ↔ (o.code = 24 ∨ (o.code = 23 ∧ s.get o.a ≠ 0))}) ⟨true, by simp [hg1]⟩ ?_ (fun w h => h)
            (repeat (refine .cons rfl ?_)); exact .nil
          · replace hg1 := beq_no hg1
            refine wl_free (.some rfl rfl) rfl (yf_fieldAddr (off := 0) (sz := 0) rfl Try.underlying36 (by kernel_rfl) rfl) ?_
            first | refine wl_free (.some rfl rfl) rfl (yf_loadL 0 rfl rfl rfl Try.underlying3 rfl) ?_ | refine wl_free (.some rfl rfl) rfl (yf_loadL 1 rfl rfl rfl Try.underlying3 rfl) ?_ | refine wl_free (.some rfl rfl) rfl (yf_loadL 2 rfl rfl rfl Try.underlying3 rfl) ?_ | refine wl_free (.some rfl rfl) rfl (yf_loadL 3 rfl rfl rfl Try.underlying3 rfl) ?_ | refine wl_free (.some rfl rfl) rfl (yf_loadL 4 rfl rfl rfl Try.underlying3 rfl) ?_ | refine wl_free (.some rfl rfl) rfl (yf_loadL 5 rfl rfl rfl Try.underlying3 rfl) ?_
            refine wl_free (.some rfl rfl) rfl (yf_eql rfl rfl) ?_
            refine wl_free (.some rfl rfl) rfl (yf_move rfl) ?_
            refine wl_split 45 rfl (fun hg2 => ?_) (fun hg2 => ?_)
            · replace hg2 := eq_of_beq hg2
              refine wl_free (.some rfl rfl) rfl (yf_fieldAddr (off := 2) (sz := 0) rfl Try.underlying36 (by kernel_rfl) rfl) ?_
              first | refine wl_free (.some rfl rfl) rfl (yf_loadL 0 rfl rfl rfl Try.underlying3 rfl) ?_ | refine wl_free (.some rfl rfl) rfl (yf_loadL 1 rfl rfl rfl Try.underlying3 rfl) ?_ | refine wl_free (.some rfl rfl) rfl (yf_loadL 2 rfl rfl rfl Try.underlying3 rfl) ?_ | refine wl_free (.some rfl rfl) rfl (yf_loadL 3 rfl rfl rfl Try.underlying3 rfl) ?_ | refine wl_free (.some rfl rfl) rfl (yf_loadL 4 rfl rfl rfl Try.underlying3 rfl) ?_ | refine wl_free (.some rfl rfl) rfl (yf_loadL 5 rfl rfl rfl Try.underlying3 rfl) ?_
              first | (refine wl_free (.some rfl rfl) rfl (yf_indexAddrA (es := 1) rfl rfl Try.underlying37 (by kernel_rfl) rfl ?_ rfl) ?_; (· first | decide | omega | (simp; omega)); skip) | (refine wl_free (.some rfl rfl) rfl (yf_indexAddrA (es := 1) rfl rfl Try.underlying37 (by kernel_rfl) (Int.toNat_of_nonneg ?_).symm ?_ rfl) ?_; (· omega); (· first | decide | omega | (simp; omega)); skip)
              refine wl_free (.some rfl rfl) rfl (yf_loadL (v := .int .u32 (s.get o.a)) 1 rfl rfl (us_at (i := o.a.toNat) (by rw [voi.1]; omega) (by omega)) Try.underlying34 rfl) ?_
              refine wl_free (.some rfl rfl) rfl (yf_neq rfl rfl) ?_
              refine wl_free (.some rfl rfl) rfl (yf_pickT rfl rfl) ?_
              refine wl_free .none rfl (yf_pickF rfl rfl) ?_
              refine wl_nil ?_
              refine wq_meet (ι := {x : Bool // x = true ↔ (o.code = 24 ∨ (o.code = 23 ∧ s.get o.a ≠ 0))}) ⟨(s.get o.a != 0), by simp [hg2]⟩ ?_ (fun w h => h)
              (repeat (refine .cons rfl ?_)); exact .nil
            · replace hg2 := beq_no hg2
              refine wl_pass (.some rfl rfl rfl) rfl ?_
              refine wl_pass (.some rfl rfl rfl) rfl ?_
              refine wl_pass (.some rfl rfl rfl) rfl ?_
              refine wl_pass (.some rfl rfl rfl) rfl ?_
              refine wl_pass (.some rfl rfl rfl) rfl ?_
              refine wl_free (.some rfl rfl) rfl (yf_pickF rfl rfl) ?_
              refine wl_free .none rfl (yf_pickF rfl rfl) ?_
              refine wl_nil ?_
              refine wq_meet (ι := {x : Bool // x = true ↔ (o.code = 24 ∨ (o.code = 23 ∧ s.get o.a ≠ 0))}) ⟨false, by simp [hg1, hg2]⟩ ?_ (fun w h => h)
              (repeat (refine .cons rfl ?_)); exact .nil
        · obtain ⟨x, hx⟩ := x
          dsimp only
          refine wc_cond rfl (fun hc => ?_) (fun hc => ?_)
          · skip
            have hcc := hx.1 hc
            refine wc_seq ?_
            refine wc_drawTN 7 [0, 1, 2, 3, 4, 5, 6] _ (by kernel_rfl) (by kernel_rfl) HpG.stab (fun _ h => h) (fun n0 hn0 => ?_)
            refine wd_at rfl ?_
            (refine wd_free ?_ .none rfl (yf_fieldAddr (off := 0) (sz := 0) rfl Try.underlying26 (by kernel_rfl) rfl) ?_; (· rfl);  skip)
            refine wd_at rfl ?_
            first | (refine wd_free ?_ .none rfl (yf_loadL 0 rfl rfl rfl Try.underlying22 rfl) ?_; (· rfl);  skip) | (refine wd_free ?_ .none rfl (yf_loadL 1 rfl rfl rfl Try.underlying22 rfl) ?_; (· rfl);  skip) | (refine wd_free ?_ .none rfl (yf_loadL 2 rfl rfl rfl Try.underlying22 rfl) ?_; (· rfl);  skip) | (refine wd_free ?_ .none rfl (yf_loadL 3 rfl rfl rfl Try.underlying22 rfl) ?_; (· rfl);  skip) | (refine wd_free ?_ .none rfl (yf_loadL 4 rfl rfl rfl Try.underlying22 rfl) ?_; (· rfl);  skip) | (refine wd_free ?_ .none rfl (yf_loadL 5 rfl rfl rfl Try.underlying22 rfl) ?_; (· rfl);  skip)
            refine wd_at rfl ?_
            (refine wd_free ?_ .none rfl (yf_lenS rfl Try.underlying22) ?_; (· rfl);  skip)
            refine wd_at rfl ?_
            (refine wd_free ?_ .none rfl (yf_fieldAddr (off := 4) (sz := 0) rfl Try.underlying36 (by kernel_rfl) rfl) ?_; (· rfl);  skip)
            refine wd_at rfl ?_
            first | (refine wd_free ?_ .none rfl (yf_loadL 0 rfl rfl rfl Try.underlying34 rfl) ?_; (· rfl);  skip) | (refine wd_free ?_ .none rfl (yf_loadL 1 rfl rfl rfl Try.underlying34 rfl) ?_; (· rfl);  skip) | (refine wd_free ?_ .none rfl (yf_loadL 2 rfl rfl rfl Try.underlying34 rfl) ?_; (· rfl);  skip) | (refine wd_free ?_ .none rfl (yf_loadL 3 rfl rfl rfl Try.underlying34 rfl) ?_; (· rfl);  skip) | (refine wd_free ?_ .none rfl (yf_loadL 4 rfl rfl rfl Try.underlying34 rfl) ?_; (· rfl);  skip) | (refine wd_free ?_ .none rfl (yf_loadL 5 rfl rfl rfl Try.underlying34 rfl) ?_; (· rfl);  skip)
            refine wd_at rfl ?_
            (refine wd_free ?_ .none rfl (yf_loadAllL 1 rfl rfl Try.underlying37 rfl (u28l voi.1)) ?_; (· rfl);  skip)
            refine wd_at rfl ?_
            refine wd_pure .none rfl (by kernel_rfl) rfl (fun _ _ hj hx => HpG.onE hj hx) (fun w hw => guests_any s.vars voi.1 w) ?_
            refine wd_endTH ?_
            simp only [List.drop_succ_cons, List.drop_zero]
            refine wl_free .none rfl (yf_build rfl (built57a _ hgl _ _)) ?_
            refine wl_chain0 .none (cf_storeAll (seg := ouL ⟨false, 0, b.at_.length, o.n, gvL s.vars⟩) 2 rfl rfl rfl (fun v hv => List.all_eq_true.1 (ouL_all _) v hv) (by rw [ouL_len, hgl]; rfl) (ou57 hgl)) (fun _ => ?_)
            refine wl_nil ?_
            refine wq_then ?_
            refine wc_ret ?_
            refine wq_then_ret ?_
            refine wq_block_ret ?_
            refine wq_then_ret ?_
            refine wq_then_ret ?_
            refine wq_block_ret ?_
            refine wq_then_ret ?_
            first | refine wq_retC rfl rfl 2 rfl Try.underlying57 rfl (ou57 hgl) (fun w hw => ?_) | refine wq_retC rfl rfl 3 rfl Try.underlying57 rfl (ou57 hgl) (fun w hw => ?_) | refine wq_retC rfl rfl 0 rfl Try.underlying57 rfl (by kernel_rfl) (fun w hw => ?_)
            have hg : Rr = ({ s with pc := o.n }, mPM mi) := by
              rw [← goi]
              rcases hcc with h24 | ⟨h23, hz⟩
              · have hk1 : k + 1 = b.ops.length := by
                  have : endsL o.code = true := by rw [h24]; rfl
                  rw [hlast] at this; simpa using this
                exact evGoM_last (cur' := cur) hk1 (by rw [ho, evStepM_other (by omega)]; simp [evStep, h24])
              · exact evGoM_stop (cur' := cur) hk (by rw [ho, evStepM_other (by omega)]; simp [evStep, h23, hz])
            obtain ⟨k1, k2, k3⟩ := k0
            refine ⟨mi, ⟨oki, Mi, by rw [hR, hg]⟩, ?_, hp_and (Hp.drop hw (.cons _ (.cons _ (.cons _ (.cons _ (.cons _ (.refl _)))))) (.refl _))⟩
            rw [hR, hg]
            show Ending.returned (.agg (ouL ⟨false, 0, b.at_.length, o.n, gvL s.vars⟩).toArray) = .returned (.agg (ouL ⟨s.lv, s.idx, s.done, o.n, gvL s.vars⟩).toArray)
            rw [k1, k2, k3]
          · skip
            have hcc : ¬ (o.code = 24 ∨ (o.code = 23 ∧ s.get o.a ≠ 0)) := (fun h => by rw [hx.2 h] at hc; cases hc)
            refine wc_skip ?_
            refine wq_then ?_
            refine wc_seq ?_
            refine wc_seq ?_
            refine wc_region ?_
            refine wl_free .none rfl (yf_fieldAddr (off := 0) (sz := 0) rfl Try.underlying36 (by kernel_rfl) rfl) ?_
            first | refine wl_free .none rfl (yf_loadL 0 rfl rfl rfl Try.underlying3 rfl) ?_ | refine wl_free .none rfl (yf_loadL 1 rfl rfl rfl Try.underlying3 rfl) ?_ | refine wl_free .none rfl (yf_loadL 2 rfl rfl rfl Try.underlying3 rfl) ?_ | refine wl_free .none rfl (yf_loadL 3 rfl rfl rfl Try.underlying3 rfl) ?_ | refine wl_free .none rfl (yf_loadL 4 rfl rfl rfl Try.underlying3 rfl) ?_ | refine wl_free .none rfl (yf_loadL 5 rfl rfl rfl Try.underlying3 rfl) ?_
            refine wl_free .none rfl (yf_eql rfl rfl) ?_
            refine wl_nil ?_
            refine wq_then ?_
            refine wc_cond rfl (fun hc => ?_) (fun hc => ?_)
            · replace hc := eq_of_beq hc
              refine wc_seq ?_
              refine wc_weak (.cons (i := 2) rfl <| .cons (i := 3) rfl <| .cons (i := 6) rfl <| .cons (i := 8) rfl <| .cons (i := 9) rfl <| .cons (i := 10) rfl <| .cons (i := 11) rfl <| .cons (i := 52) rfl <| .cons (i := 63) rfl <| .nil) ?_
              refine wc_drawTN 9 [0, 1, 2, 3, 4, 5, 6, 7, 8] _ (by kernel_rfl) (by kernel_rfl) HpG.stab (fun _ h => h) (fun n0 hn0 => ?_)
              refine wd_at rfl ?_
              (refine wd_free ?_ .none rfl (yf_fieldAddr (off := 0) (sz := 0) rfl Try.underlying26 (by kernel_rfl) rfl) ?_; (· rfl);  skip)
              refine wd_at rfl ?_
              first | (refine wd_free ?_ .none rfl (yf_loadL 0 rfl rfl rfl Try.underlying22 rfl) ?_; (· rfl);  skip) | (refine wd_free ?_ .none rfl (yf_loadL 1 rfl rfl rfl Try.underlying22 rfl) ?_; (· rfl);  skip) | (refine wd_free ?_ .none rfl (yf_loadL 2 rfl rfl rfl Try.underlying22 rfl) ?_; (· rfl);  skip) | (refine wd_free ?_ .none rfl (yf_loadL 3 rfl rfl rfl Try.underlying22 rfl) ?_; (· rfl);  skip) | (refine wd_free ?_ .none rfl (yf_loadL 4 rfl rfl rfl Try.underlying22 rfl) ?_; (· rfl);  skip) | (refine wd_free ?_ .none rfl (yf_loadL 5 rfl rfl rfl Try.underlying22 rfl) ?_; (· rfl);  skip)
              refine wd_at rfl ?_
              (refine wd_free ?_ .none rfl (yf_lenS rfl Try.underlying22) ?_; (· rfl);  skip)
              refine wd_at rfl ?_
              (refine wd_free ?_ .none rfl (yf_fieldAddr (off := 2) (sz := 0) rfl Try.underlying36 (by kernel_rfl) rfl) ?_; (· rfl);  skip)
              refine wd_at rfl ?_
              first | (refine wd_free ?_ .none rfl (yf_loadL 0 rfl rfl rfl Try.underlying3 rfl) ?_; (· rfl);  skip) | (refine wd_free ?_ .none rfl (yf_loadL 1 rfl rfl rfl Try.underlying3 rfl) ?_; (· rfl);  skip) | (refine wd_free ?_ .none rfl (yf_loadL 2 rfl rfl rfl Try.underlying3 rfl) ?_; (· rfl);  skip) | (refine wd_free ?_ .none rfl (yf_loadL 3 rfl rfl rfl Try.underlying3 rfl) ?_; (· rfl);  skip) | (refine wd_free ?_ .none rfl (yf_loadL 4 rfl rfl rfl Try.underlying3 rfl) ?_; (· rfl);  skip) | (refine wd_free ?_ .none rfl (yf_loadL 5 rfl rfl rfl Try.underlying3 rfl) ?_; (· rfl);  skip)
              refine wd_at rfl ?_
              first | (refine wd_free ?_ .none rfl (yf_indexAddrA (es := 1) rfl rfl Try.underlying37 (by kernel_rfl) rfl ?_ rfl) ?_; (· rfl); (· first | decide | omega | (simp; omega)); skip) | (refine wd_free ?_ .none rfl (yf_indexAddrA (es := 1) rfl rfl Try.underlying37 (by kernel_rfl) (Int.toNat_of_nonneg ?_).symm ?_ rfl) ?_; (· rfl); (· omega); (· first | decide | omega | (simp; omega)); skip)
              refine wd_at rfl ?_
              (refine wd_free ?_ .none rfl (yf_loadL (v := .int .u32 (s.get o.a)) 1 rfl rfl (us_at (i := o.a.toNat) (by rw [voi.1]; omega) (by omega)) Try.underlying34 rfl) ?_; (· rfl);  skip)
              refine wd_at rfl ?_
              (refine wd_free ?_ .none rfl (yf_loadAllL 1 rfl rfl Try.underlying37 rfl (u28l voi.1)) ?_; (· rfl);  skip)
              refine wd_at rfl ?_
              refine wd_pure .none rfl (by kernel_rfl) rfl (fun _ _ hj hx => HpG.onE hj hx) (fun w hw => guests_any s.vars voi.1 w) ?_
              refine wd_endTH ?_
              simp only [List.drop_succ_cons, List.drop_zero]
              refine wl_free .none rfl (yf_build rfl (built57a _ hgl _ _)) ?_
              refine wl_chain0 .none (cf_storeAll (seg := ouL ⟨false, 0, b.at_.length, s.get o.a, gvL s.vars⟩) 2 rfl rfl rfl (fun v hv => List.all_eq_true.1 (ouL_all _) v hv) (by rw [ouL_len, hgl]; rfl) (ou57 hgl)) (fun _ => ?_)
              refine wl_nil ?_
              refine wq_then ?_
              refine wc_ret ?_
              refine wq_then_ret ?_
              refine wq_block_ret ?_
              refine wq_then_ret ?_
              refine wq_then_ret ?_
              refine wq_block_ret ?_
              refine wq_then_ret ?_
              first | refine wq_retC rfl rfl 2 rfl Try.underlying57 rfl (ou57 hgl) (fun w hw => ?_) | refine wq_retC rfl rfl 3 rfl Try.underlying57 rfl (ou57 hgl) (fun w hw => ?_) | refine wq_retC rfl rfl 0 rfl Try.underlying57 rfl (by kernel_rfl) (fun w hw => ?_)
              have hg : Rr = ({ s with pc := s.get o.a }, mPM mi) := by
                rw [← goi]
                have hk1 : k + 1 = b.ops.length := by
                  have : endsL o.code = true := by rw [hc]; rfl
                  rw [hlast] at this; simpa using this
                exact evGoM_last (cur' := cur) hk1 (by rw [ho, evStepM_other (by omega)]; simp [evStep, hc])
              obtain ⟨k1, k2, k3⟩ := k0
              refine ⟨mi, ⟨oki, Mi, by rw [hR, hg]⟩, ?_, hp_and (Hp.drop hw (.cons _ (.cons _ (.cons _ (.cons _ (.cons _ (.refl _)))))) (.refl _))⟩
              rw [hR, hg]
              show Ending.returned (.agg (ouL ⟨false, 0, b.at_.length, s.get o.a, gvL s.vars⟩).toArray) = .returned (.agg (ouL ⟨s.lv, s.idx, s.done, s.get o.a, gvL s.vars⟩).toArray)
              rw [k1, k2, k3]
            · replace hc := beq_no hc
              refine wc_skip ?_
              refine wq_then ?_
              refine wc_seq ?_
              refine wc_weak (.cons (i := 2) rfl <| .cons (i := 3) rfl <| .cons (i := 6) rfl <| .cons (i := 8) rfl <| .cons (i := 9) rfl <| .cons (i := 10) rfl <| .cons (i := 11) rfl <| .cons (i := 52) rfl <| .cons (i := 63) rfl <| .nil) ?_
              refine wc_region ?_
              first | refine wl_free .none rfl (yf_loadAllL 0 rfl rfl Try.underlying36 rfl (by kernel_rfl)) ?_ | refine wl_free .none rfl (yf_loadAllL 1 rfl rfl Try.underlying36 rfl (by kernel_rfl)) ?_ | refine wl_free .none rfl (yf_loadAllL 2 rfl rfl Try.underlying36 rfl (by kernel_rfl)) ?_ | refine wl_free .none rfl (yf_loadAllL 3 rfl rfl Try.underlying36 rfl (by kernel_rfl)) ?_ | refine wl_free .none rfl (yf_loadAllL 4 rfl rfl Try.underlying36 rfl (by kernel_rfl)) ?_ | refine wl_free .none rfl (yf_loadAllL 5 rfl rfl Try.underlying36 rfl (by kernel_rfl)) ?_
              refine wl_free .none rfl (yf_loadAllL 1 rfl rfl Try.underlying37 rfl (u28l voi.1)) ?_
              refine wl_free .none rfl (yf_move rfl) ?_
              refine wl_callM [(b11, bk 36 (opC o)), (b8, bk 37 (u32s s.vars)), (b6, bk 57 (ouL zeroOut)), (b4, bk 37 (u32s vars)), (b3, bk 26 (hdC aA aP aO cA cP cO b))] (mLs mi) .none rfl (by kernel_rfl) rfl (fun w hm _ => by rw [← Mi]; exact apply_any o hF hun' b.at_ s voi cur (by omega) (by omega) (fun h23 => Decidable.byContradiction fun hz => hcc (.inr ⟨h23, hz⟩)) mi oki w hm) (fun j hj => ?_)
              obtain ⟨stop, s', cur', m'⟩ := j
              obtain ⟨ok', M', vo', hst⟩ := hj
              dsimp only at ok' M' vo' hst ⊢
              refine wl_free .none rfl (yf_move rfl) ?_
              refine wl_free .none rfl (yf_extract rfl rfl) ?_
              refine wl_free .none rfl (yf_extract rfl rfl) ?_
              refine wl_new .none rfl (nf_alloc (z := .agg #[.int .u32 0, .int .u32 0, .int .u32 0, .int .u32 0, .int .u32 0, .int .u32 0, .int .u32 0, .int .u32 0, .int .u32 0, .int .u32 0, .int .u32 0, .int .u32 0, .int .u32 0, .int .u32 0, .int .u32 0, .int .u32 0, .int .u32 0, .int .u32 0, .int .u32 0, .int .u32 0, .int .u32 0, .int .u32 0, .int .u32 0, .int .u32 0, .int .u32 0, .int .u32 0, .int .u32 0, .int .u32 0]) (cs := [.int .u32 0, .int .u32 0, .int .u32 0, .int .u32 0, .int .u32 0, .int .u32 0, .int .u32 0, .int .u32 0, .int .u32 0, .int .u32 0, .int .u32 0, .int .u32 0, .int .u32 0, .int .u32 0, .int .u32 0, .int .u32 0, .int .u32 0, .int .u32 0, .int .u32 0, .int .u32 0, .int .u32 0, .int .u32 0, .int .u32 0, .int .u32 0, .int .u32 0, .int .u32 0, .int .u32 0, .int .u32 0]) (by kernel_rfl) rfl) (fun b12 => ?_)
              refine wl_chain0 .none (cf_storeAll (seg := u32s s'.vars) 0 rfl rfl rfl (ints_one' _) (by rw [us_len, vo'.1]; rfl) (u28l vo'.1)) (fun _ => ?_)
              refine wl_free .none rfl (yf_assign rfl) ?_
              refine wl_nil ?_
              refine wq_then ?_
              refine wc_seq ?_
              refine wc_seq ?_
              refine wc_weak (.cons (i := 2) rfl <| .cons (i := 3) rfl <| .cons (i := 6) rfl <| .cons (i := 8) rfl <| .cons (i := 9) rfl <| .cons (i := 10) rfl <| .cons (i := 11) rfl <| .cons (i := 12) rfl <| .cons (i := 13) rfl <| .cons (i := 52) rfl <| .cons (i := 63) rfl <| .nil) ?_
              refine wc_region ?_
              refine wl_free .none rfl (yf_move rfl) ?_
              refine wl_free .none rfl (yf_not rfl) ?_
              refine wl_nil ?_
              refine wq_then ?_
              refine wc_cond rfl (fun hc => ?_) (fun hc => ?_)
              · skip
                have hstop : stop = true := by simpa using hc
                subst hstop
                obtain ⟨hmm, hor⟩ := evStepM_stop hst
                have hlv : shL o.code = true ∧ s' = s.leave b.at_ cur := hor.elim id (fun h => absurd (.inr ⟨h.1, h.2.1⟩) hcc)
                have h20 : o.code ≠ 20 := fun h => by rw [h] at hlv; exact absurd hlv.1 (by decide)
                obtain ⟨c0, c1⟩ := hcur h20
                have htcc : tc = cur := by rw [← htc, if_neg h20]
                subst htcc
                have hAk := hA (by omega)
                obtain ⟨_, hs'⟩ := hlv
                have hAv : (u32s b.at_)[tc.toNat]? = some (.int .u32 (b.at_.getD tc.toNat 0)) := us_at (i := tc.toNat) (by omega) rfl
                refine wc_seq ?_
                refine wc_weak (.cons (i := 2) rfl <| .cons (i := 3) rfl <| .cons (i := 6) rfl <| .cons (i := 8) rfl <| .cons (i := 9) rfl <| .cons (i := 10) rfl <| .cons (i := 11) rfl <| .cons (i := 12) rfl <| .cons (i := 13) rfl <| .cons (i := 52) rfl <| .cons (i := 63) rfl <| .cons (i := 82) rfl <| .nil) ?_
                refine wc_drawTN 9 [0, 1, 2, 3, 4, 5, 6, 7, 8] _ (by kernel_rfl) (by kernel_rfl) HpG.stab (fun _ h => h) (fun n0 hn0 => ?_)
                refine wd_at rfl ?_
                (refine wd_free ?_ .none rfl (yf_move rfl) ?_; (· rfl);  skip)
                refine wd_at rfl ?_
                (refine wd_free ?_ .none rfl (yf_move rfl) ?_; (· rfl);  skip)
                refine wd_at rfl ?_
                (refine wd_free ?_ .none rfl (yf_fieldAddr (off := 0) (sz := 0) rfl Try.underlying26 (by kernel_rfl) rfl) ?_; (· rfl);  skip)
                refine wd_at rfl ?_
                first | (refine wd_free ?_ .none rfl (yf_loadL 0 rfl rfl rfl Try.underlying22 rfl) ?_; (· rfl);  skip) | (refine wd_free ?_ .none rfl (yf_loadL 1 rfl rfl rfl Try.underlying22 rfl) ?_; (· rfl);  skip) | (refine wd_free ?_ .none rfl (yf_loadL 2 rfl rfl rfl Try.underlying22 rfl) ?_; (· rfl);  skip) | (refine wd_free ?_ .none rfl (yf_loadL 3 rfl rfl rfl Try.underlying22 rfl) ?_; (· rfl);  skip) | (refine wd_free ?_ .none rfl (yf_loadL 4 rfl rfl rfl Try.underlying22 rfl) ?_; (· rfl);  skip) | (refine wd_free ?_ .none rfl (yf_loadL 5 rfl rfl rfl Try.underlying22 rfl) ?_; (· rfl);  skip)
                refine wd_at rfl ?_
                (refine wd_free ?_ .none rfl (yf_move rfl) ?_; (· rfl);  skip)
                refine wd_at rfl ?_
                (refine wd_free ?_ .none rfl (yf_indexAddrS (g := gA) (o := oA) (j := tc.toNat) (es := 1) (by rw [← hAk]; rfl) rfl Try.underlying22 (by kernel_rfl) (Int.toNat_of_nonneg c0).symm (by omega) rfl) ?_; (· rfl);  skip)
                refine wd_at rfl ?_
                (refine wd_free ?_ .none rfl (yf_load rfl Try.underlying34 rfl (fun w h => by have := (HpG.x h).a.rd; dsimp only at this; rw [hAk] at this; exact this.at (i := tc.toNat) (by rw [List.length_map]; omega) (by omega) hAv)) ?_; (· rfl);  skip)
                refine wd_at rfl ?_
                (refine wd_free ?_ .none rfl (yf_loadAllL 2 rfl rfl Try.underlying37 rfl (u28l voi.1)) ?_; (· rfl);  skip)
                refine wd_at rfl ?_
                refine wd_pure .none rfl (by kernel_rfl) rfl (fun _ _ hj hx => HpG.onE hj hx) (fun w hw => guests_any s.vars voi.1 w) ?_
                refine wd_endTH ?_
                simp only [List.drop_succ_cons, List.drop_zero]
                refine wl_free .none rfl (yf_build rfl (built57b _ hgl _ _ _)) ?_
                refine wl_chain0 .none (cf_storeAll (seg := ouL ⟨true, tc, tc, b.at_.getD tc.toNat 0, gvL s.vars⟩) 3 rfl rfl rfl (fun v hv => List.all_eq_true.1 (ouL_all _) v hv) (by rw [ouL_len, hgl]; rfl) (ou57 hgl)) (fun _ => ?_)
                refine wl_nil ?_
                refine wq_then ?_
                refine wc_ret ?_
                refine wq_then_ret ?_
                refine wq_block_ret ?_
                refine wq_then_ret ?_
                refine wq_then_ret ?_
                refine wq_block_ret ?_
                refine wq_then_ret ?_
                first | refine wq_retC rfl rfl 2 rfl Try.underlying57 rfl (ou57 hgl) (fun w hw => ?_) | refine wq_retC rfl rfl 3 rfl Try.underlying57 rfl (ou57 hgl) (fun w hw => ?_) | refine wq_retC rfl rfl 0 rfl Try.underlying57 rfl (by kernel_rfl) (fun w hw => ?_)
                have hg : Rr = (s', mPM m') := by
                  rw [← goi]
                  exact evGoM_stop (cur' := cur') hk (by rw [ho, hst])
                refine ⟨m', ⟨ok', M'.trans Mi, by rw [hR, hg]⟩, ?_, hp_and (Hp.drop hw (.cons _ (.cons _ (.cons _ (.cons _ (.cons _ (.cons _ (.refl _))))))) (.refl _))⟩
                rw [hR, hg, hs']; rfl
              · skip
                have hstop : stop = false := by simpa using hc
                subst hstop
                have hkeep := evStepM_keep hst
                refine wc_skip ?_
                refine wq_then ?_
                refine wc_weak (.cons (i := 2) rfl <| .cons (i := 3) rfl <| .cons (i := 6) rfl <| .cons (i := 8) rfl <| .cons (i := 9) rfl <| .cons (i := 10) rfl <| .cons (i := 11) rfl <| .cons (i := 12) rfl <| .cons (i := 13) rfl <| .cons (i := 52) rfl <| .cons (i := 63) rfl <| .cons (i := 82) rfl <| .nil) ?_
                refine wc_region ?_
                refine wl_free .none rfl (yf_loadAllL 0 rfl rfl Try.underlying37 rfl (u28l vo'.1)) ?_
                refine wl_chain0 .none (cf_storeAll (seg := u32s s'.vars) 2 rfl rfl rfl (ints_one' _) (by rw [us_len, us_len, vo'.1, voi.1]) (u28l vo'.1)) (fun _ => ?_)
                refine wl_nil ?_
                refine wq_block ?_
                refine wq_then ?_
                refine wc_weak (.cons (i := 2) rfl <| .cons (i := 3) rfl <| .cons (i := 6) rfl <| .cons (i := 8) rfl <| .cons (i := 9) rfl <| .cons (i := 10) rfl <| .cons (i := 11) rfl <| .cons (i := 12) rfl <| .cons (i := 13) rfl <| .cons (i := 52) rfl <| .cons (i := 63) rfl <| .cons (i := 82) rfl <| .nil) ?_
                refine wc_region ?_
                refine wl_free .none rfl (yf_move rfl) ?_
                first | (refine wl_free .none rfl (yf_add rfl rfl (i64_in _ ?_ ?_)) ?_; (· omega); (· omega); skip) | refine wl_free .none rfl (yf_add rfl rfl rfl) ?_
                refine wl_free .none rfl (yf_assign rfl) ?_
                refine wl_nil ?_
                have hk1 : k + 1 < b.ops.length := by
                  have h22 : o.code ≠ 22 := fun h22 => by have := evStepM_slow (at_ := b.at_) (s := s) (cur := cur) (m := mPM mi) h22; rw [hst] at this; cases this
                  have hne : ¬ k + 1 = b.ops.length := fun e => by
                    have : endsL o.code = true := by rw [hlast]; simpa using e
                    simp [endsL] at this; omega
                  omega
                refine wq_round (ι := {j : RvJ // RvI b Rr mo j}) ⟨⟨k + 1, s', cur', m'⟩, ok', M'.trans Mi, hk1, vo', .inr ?_, ?_, by rw [hkeep.1]; exact k0.1, by rw [hkeep.2.1]; exact k0.2.1, by rw [hkeep.2.2.1]; exact k0.2.2⟩ ?_ ?_ (fun w h => ?_)
                · show 0 ≤ cur' ∧ cur' < _
                  rw [hkeep.2.2.2]
                  by_cases h20 : o.code = 20
                  · rw [if_pos h20]; exact hmk h20
                  · rw [if_neg h20]; exact hcur h20
                · rw [← goi]
                  refine (evGoM_cont (cur' := cur') hk ?_).symm
                  rw [ho, hst]
                · show b.ops.length - (k + 1) < b.ops.length - k; omega
                · exact .cons rfl <| .cons rfl <| .cons rfl <| .cons rfl <| .consE rfl (congrArg (Value.int .i64) (htc.symm.trans hkeep.2.2.2.symm)) <| .consE rfl rfl <| .nil
                · exact Hp.drop h (.cons _ (.cons _ (.refl _))) (.refl _)
    · replace hc := of_decide_eq_false hc
      omega
end Go.Proofs.Ytojofinofpgopaa
/- What the laws on evaluation share. -/
namespace Go.Proofs.Ytojofinofpgopaa
open Go.RowKit
section
variable {P : Program} {n : Nat} {m : List (Nat × Value)} {ty : TypeId} {H : World → Prop} {G B : Nat → Prop} {w0 w w' : World} {L L1 L' : List (Nat × Obj)} {R : List Rw} {X J S : World → Prop} {Q : Exit → Act → World → Prop} {ops : Array Oper} {σ : List Nat}
theorem yf_makeIface {x : Operand} {T : TypeId} {v : Value} {d : TypeDesc} (hx : ev m x = some v) (ht : P.underlying T = some d) (hd : (match d with | .interface _ => true | _ => false) = false) : YF P (.makeInterface T x) ty n m H (.iface T v) := fun _ w dd pos af g hs hw => by
  cases d <;> first | (simp [Yl, execOp, hs.ev hx, Instr.makeInterface, run_underlying ht]; done) | cases hd
/-- A call that makes blocks of its own. -/
theorem wl_callN {ι : Type} {C : ι → Prop} {rest : List Oper} {d : Nat} {pos : String} {af : Array Edge} {gd : Option (Nat × Bool)} {f : FuncId} {args : List Operand} {ats : Array TypeId} {vs : List Value} {val : ι → Value} {L1' : ι → List (Nat × Obj)} {X' : ι → World → Prop} (hg : Gd ops m gd) (hd : Nat.blt d n = true) (hf : goes P f = true) (ha : evl m args = some vs)
    (hC : ∀ w, Hp B w0 L R X w → Calls P f vs.toArray w fun e w' => ∃ i, C i ∧ e = .returned (val i) ∧ Hp (fun _ => False) w (L1' i) [] (X' i) w')
    (h : ∀ i, C i → WL P ops Q rest n ((d, val i) :: m) (Hp B w0 (L ++ L1' i) R X)) : WL P ops Q (⟨some d, .call { callee := .value (.func f), args := args.toArray, argTypes := ats }, ty, pos, af, gd⟩ :: rest) n m (Hp B w0 L R X) :=
  wl_chain (ι := {i // C i}) (val := fun i => val i.1) (H' := fun i => Hp B w0 (L ++ L1' i.1) R X) hg hd
    (cf_call hf ha fun w hw => (hC w hw).mono fun _ _ ⟨i, c, e1, e2⟩ => ⟨_, e1, ⟨i, c⟩, rfl, Hp.callM (L1 := []) (by simpa using hw) (Hp.nob e2)⟩) fun i => h i.1 i.2
/-- Calls in a region that draws its order, whatever is known. -/
theorem wd_callG {ι : Type} {C : ι → Prop} {S' : ι → World → Prop} {d : Nat} {pos : String} {af : Array Edge} {gd : Option (Nat × Bool)} {f : FuncId} {args : List Operand} {ats : Array TypeId} {vs : List Value} {val : ι → Value} (hg : Gd ops m gd) (hd : Nat.blt d n = true) (hf : goes P f = true) (ha : evl m args = some vs) (hst : ∀ i, C i → AStab (S' i))
    (hC : ∀ w, S w → J w → Calls P f vs.toArray w fun e w' => ∃ i, C i ∧ e = .returned (val i) ∧ Keep G w w' ∧ J w' ∧ S' i w')
    (h : ∀ i, C i → WD P ops J Q σ G n ((d, val i) :: m) (S' i)) : WDo P ops J Q ⟨some d, .call { callee := .value (.func f), args := args.toArray, argTypes := ats }, ty, pos, af, gd⟩ σ G n m S :=
  wd_chain (ι := {i // C i}) (val := fun i => val i.1) (H' := fun i => S' i.1) rfl (fun _ _ e => by cases e) hg hd (fun i => hst i.1 i.2)
    (fun _ w _ _ _ _ hs hw hj => (ch_call hs hf ha ((hC w hw hj).mono fun _ _ ⟨i, c, e1, e2, e3, e4⟩ => ⟨_, e1, ⟨⟨i, c⟩, rfl, e2, e3, e4⟩⟩)).mono
      (R := fun v' w' => ∃ i : {i // C i}, v' = val i.1 ∧ Keep G w w' ∧ J w' ∧ S' i.1 w') fun _ _ ⟨i, e1, e2, e3, e4⟩ => ⟨e2, e3, i, e1, e4⟩) fun i => h i.1 i.2
theorem wd_pureG {d : Nat} {pos : String} {af : Array Edge} {gd : Option (Nat × Bool)} {f : FuncId} {args : List Operand} {ats : Array TypeId} {vs : List Value} {v : Value} (hg : Gd ops m gd) (hd : Nat.blt d n = true) (hf : goes P f = true) (ha : evl m args = some vs) (hS : ∀ w w', S w → Ext w w' → S w') (hJ : ∀ w w', J w → Ext w w' → J w')
    (hC : ∀ w, S w → Calls P f vs.toArray w fun e w' => e = .returned v ∧ Ext w w')
    (h : WD P ops J Q σ G n ((d, v) :: m) S) : WDo P ops J Q ⟨some d, .call { callee := .value (.func f), args := args.toArray, argTypes := ats }, ty, pos, af, gd⟩ σ G n m S :=
  wd_callG (ι := Unit) (C := fun _ => True) (val := fun _ => v) (S' := fun _ => S) hg hd hf ha (fun _ _ w ob h => hS w _ h (Ext.alloc (Ext.refl w) ob))
    (fun w hw hj => (hC w hw).mono fun _ w' ⟨e1, e2⟩ => ⟨(), trivial, e1, Keep.of_ext e2, hJ w w' hj e2, hS w w' hw e2⟩) fun _ _ => h
theorem wd_endS (h : WQ Q .normal n m S) : WD P ops J Q [] G n m S := fun a hs w hw _ => h a w hs hw
/-- What is known, and that old blocks are old. -/
def HpO (G B : Nat → Prop) (w0 : World) (L Lo : List (Nat × Obj)) (R : List Rw) (X : World → Prop) (w : World) : Prop := Hp B w0 L R X w ∧ ∀ p ∈ Lo, G p.1
theorem HpO.ext {Lo : List (Nat × Obj)} : ∀ w w', HpO G B w0 L Lo R X w → Ext w w' → HpO G B w0 L Lo R X w' := fun _ _ h hx => ⟨HpG.onE h.1 hx, h.2⟩
theorem HpO.stab {Lo : List (Nat × Obj)} : AStab (HpO G B w0 L Lo R X) := fun w ob h => HpO.ext w _ h (Ext.alloc (Ext.refl w) ob)
end
abbrev blkC (i : BR) : List Value := [.slice i.aA i.b.at_.length i.cA, .slice i.aP i.b.pages.length i.cP, .slice i.aO i.b.ops.length i.cO]
theorem perm_swap3 {α : Type} (A B C : List α) : ((A ++ B) ++ C).Perm ((A ++ C) ++ B) := by
  rw [List.append_assoc, List.append_assoc]; exact List.Perm.append_left A List.perm_append_comm
theorem irEval_call (i : BR) {m : Nat} (hi : i.OkN m) (hm : m ≤ maxLen) {vars : List Int} (hvo : VarsOk vars) {μ : Mm} (ok : μ.Ok) {w : World} (h : OnL (memL μ) w) (hb : BRd (fun k => k ∈ (memL μ).map (·.1)) i w) :
    Calls Try.prog 21 #[i.v, .agg (u32s vars).toArray, .iface 51 (ptrV μ.M)] w fun e w' =>
      ∃ μ' : Mm, (μ'.Ok ∧ μ.Same μ' ∧ μ'.pm = (evalM i.b vars μ.pm).2) ∧ e = .returned (.agg (ouL (evalM i.b vars μ.pm).1).toArray) ∧ Hp (fun k => k ∈ (memL μ).map (·.1)) w (memL μ') [] (fun _ => True) w' := by
  obtain ⟨b, aA, aP, aO, cA, cP, cO⟩ := i
  exact evalM_any aA aP aO cA cP cO b m hi hm vars hvo μ ok w h hb
theorem irEvalNil_call (i : BR) {m : Nat} (hi : i.OkN m) (hm : m ≤ maxLen) {vars : List Int} (hvo : VarsOk vars) {Bad : Nat → Prop} {w : World} (hb : BRd Bad i w) :
    Calls Try.prog 21 #[i.v, .agg (u32s vars).toArray, .nilIface] w fun e w' => e = .returned (.agg (ouL (evalM i.b vars none).1).toArray) ∧ Ext w w' := by
  have := eval_nil i.aA i.aP i.aO i.cA i.cP i.cO i.b vars w w.heap.size (Nat.le_refl _) (hb.blk hi hm) hvo.1 hvo.2 (OkN.un hi)
  refine this.mono fun e w' ⟨h1, h2⟩ => ⟨?_, h2⟩
  rw [h1, evalM_nil, ouL_cells]
theorem refEval_call (i : BR) {m : Nat} (hi : i.OkN m) (hm : m ≤ maxLen) {vars : List Int} (hvo : VarsOk vars) {ν : Rm} (ok : ν.Ok) (h7 : ∀ v ∈ ν.r, 0 ≤ v ∧ v ≤ 7) {w : World} (h : OnL (refL ν) w) (hb : BRd (fun k => k ∈ (refL ν).map (·.1)) i w) :
    Calls Try.prog 33 #[i.v, .agg (u32s vars).toArray, ptrV ν.M] w fun e w' =>
      ∃ ν' : Rm, (ν'.Ok ∧ ν'.M = ν.M ∧ some (ν'.r, ν'.b) = (evalM i.b vars (some (ν.r, ν.b))).2) ∧ e = .returned (.agg (ouL (evalM i.b vars (some (ν.r, ν.b))).1).toArray) ∧ Hp (fun k => k ∈ (refL ν).map (·.1)) w (refL ν') [] (fun _ => True) w' := by
  obtain ⟨b, aA, aP, aO, cA, cP, cO⟩ := i
  refine (refEvalM_any aA aP aO cA cP cO b m hi hm vars hvo (some ν) (fun r e => by cases e; exact ⟨ok, h7⟩) w h hb).mono fun e w' ⟨mo', ⟨h1, h2, h3⟩, h4, h5⟩ => ?_
  cases mo' with
  | none => cases h2
  | some ν' =>
    refine ⟨ν', ⟨(h1 ν' rfl).1, ?_, h3⟩, h4, h5⟩
    injection h2 with h2
    exact congrArg Addr.block h2
theorem refEvalNil_call (i : BR) {m : Nat} (hi : i.OkN m) (hm : m ≤ maxLen) {vars : List Int} (hvo : VarsOk vars) {Bad : Nat → Prop} {w : World} (hb : BRd Bad i w) :
    Calls Try.prog 33 #[i.v, .agg (u32s vars).toArray, .pointer none] w fun e w' => e = .returned (.agg (ouL (evalM i.b vars none).1).toArray) ∧ Ext w w' := by
  obtain ⟨b, aA, aP, aO, cA, cP, cO⟩ := i
  refine (refEvalM_any aA aP aO cA cP cO b m hi hm vars hvo none (fun r e => by cases e) w (fun p hp => by cases hp) (hb.weak fun k hk => by simp [mLs] at hk)).mono fun e w' ⟨mo', ⟨h1, h2, h3⟩, h4, h5⟩ => ⟨h4, ?_⟩
  exact ((HpG.keep h5).mono fun k _ hk => by simp [mLs] at hk : Keep (fun _ => False) w w').ext
theorem and7b (a : Int) : 0 ≤ bits .and .i64 a 7 ∧ bits .and .i64 a 7 ≤ 7 := by
  have h : (BitVec.ofInt 64 a &&& BitVec.ofInt 64 7).toNat ≤ 7 := by
    rw [BitVec.toNat_and]; exact Nat.and_le_right
  have e : bits .and .i64 a 7 = (((BitVec.ofInt 64 a &&& BitVec.ofInt 64 7).toNat : Nat) : Int) := by
    show IntKind.i64.wrap ((BitVec.ofInt 64 a &&& BitVec.ofInt 64 7).toNat : Int) = _
    exact i64_in _ (by omega) (by omega)
  rw [e]; omega
theorem rlL_7 (x : Su) : ∀ v ∈ rlL x 3, 0 ≤ v ∧ v ≤ 7 := by
  intro v hv
  simp only [rlL, List.mem_cons, List.not_mem_nil, or_false] at hv
  rcases hv with rfl | rfl | rfl <;> exact and7b _
/-- The state of the memory that a setup describes. -/
def suM (x : Su) : PM := some (rlL x 3, suBytes x)
theorem su_pm {x : Su} {μ : Mm} (h1 : μ.bytes = suBytes x) (h2 : μ.p.map (·.r) = rlL x 3) : μ.pm = suM x := by
  show some (μ.p.map (·.r), μ.bytes) = _
  rw [h1, h2]; rfl
theorem su_rm {x : Su} {ν : Rm} (h1 : ν.b = suBytes x) (h2 : ν.r = rlL x 3) : some (ν.r, ν.b) = suM x := by rw [h1, h2]; rfl
/-- The two readable arguments. -/
def X2 (A : Option Addr) (s : List Int) (x : Su) (n0 : Nat) (w : World) : Prop := RdIn (fun k => n0 ≤ k) A (i64s s) w ∧ RdIn (fun k => n0 ≤ k) x.vA (u32s x.v) w
theorem X2.foot {A : Option Addr} {s : List Int} {x : Su} {n0 : Nat} {w : World} (h : X2 A s x n0 w) : ∃ F : Nat → Prop, (∀ k, F k → k < w.heap.size ∧ ¬ False) ∧ Foot F (X2 A s x n0) w := by
  obtain ⟨F1, h1, g1⟩ := h.1.foot'
  obtain ⟨F2, h2, g2⟩ := h.2.foot'
  exact ⟨fun k => F1 k ∨ F2 k, fun k hk => ⟨hk.elim (fun h => (h1 k h).1) (fun h => (h2 k h).1), id⟩, fun u hu => ⟨g1 u fun k hk => hu k (.inl hk), g2 u fun k hk => hu k (.inr hk)⟩⟩
theorem BRd.ofR {G B : Nat → Prop} {w0 w : World} {L L1 : List (Nat × Obj)} {R : List Rw} {X : World → Prop} {i : BR} (h : HpG G B w0 (L ++ L1) R X w) (hs : ∀ r ∈ i.rows, r ∈ R) : BRd (fun k => k ∈ L1.map (·.1)) i w :=
  (BRd.ofM h hs).weak fun k hk => by rw [List.map_append]; exact List.mem_append_right _ hk
end Go.Proofs.Ytojofinofpgopaa
/- Regions that draw their order: a call that makes blocks, and a new block beside it. -/
namespace Go.Proofs.Ytojofinofpgopaa
open Go.RowKit
section
variable {P : Program} {n : Nat} {m : List (Nat × Value)} {ty : TypeId} {G B : Nat → Prop} {w0 w w' : World} {L L1 L1' L' : List (Nat × Obj)} {R Rs : List Rw} {X X' J S : World → Prop} {Q : Exit → Act → World → Prop} {ops : Array Oper} {σ : List Nat}
/-- What is known; the facts on old blocks are on blocks of G. -/
structure HpF (G B : Nat → Prop) (w0 : World) (L : List (Nat × Obj)) (R : List Rw) (X : World → Prop) (w : World) : Prop where
  hp : Hp B w0 L R X w
  ft : ∃ F : Nat → Prop, (∀ k, F k → k < w.heap.size ∧ ¬ B k ∧ k ∉ blks L R ∧ G k) ∧ Foot F X w
theorem HpF.of (h : HpG G B w0 L R X w) : HpF G B w0 L R X w := ⟨h.hp, h.foot⟩
theorem HpF.onE (h : HpF G B w0 L R X w) (hx : Ext w w') : HpF G B w0 L R X w' := by
  obtain ⟨F, hF, hX⟩ := h.ft
  exact ⟨HpG.onE h.hp hx, F, fun k hk => ⟨Nat.lt_of_lt_of_le (hF k hk).1 (Keep.of_ext (G := fun _ => False) hx).size, (hF k hk).2⟩, fun u hu => hX u fun k hk => (hu k hk).trans ((Keep.of_ext (G := fun _ => False) hx).block k (hF k hk).1 id)⟩
theorem HpF.ext : ∀ w w', HpF G B w0 L R X w → Ext w w' → HpF G B w0 L R X w' := fun _ _ h hx => h.onE hx
theorem HpF.stab : AStab (HpF G B w0 L R X) := fun w ob h => h.onE (Ext.alloc (Ext.refl w) ob)
theorem HpF.callM (h : HpF G B w0 (L ++ L1) R X w) (hc : Hp (fun k => k ∈ L1.map (fun p : Nat × Obj => p.1)) w L1' [] X' w') : HpF G B w0 (L ++ L1') R X w' := by
  have hK := HpG.keep hc
  obtain ⟨F, hF, hX⟩ := h.ft
  refine ⟨Hp.callM h.hp hc, F, fun k hk => ?_, fun u hu => hX u fun k hk => ?_⟩
  · obtain ⟨a1, a2, a3, a4⟩ := hF k hk
    refine ⟨Nat.lt_of_lt_of_le a1 hK.size, a2, fun hm => a3 ?_, a4⟩
    unfold blks at hm ⊢
    rw [List.map_append] at hm ⊢
    rcases List.mem_append.1 hm with hm | hm
    · rcases List.mem_append.1 hm with hm | hm
      · exact List.mem_append_left _ (List.mem_append_left _ hm)
      · obtain ⟨p, hp, rfl⟩ := List.mem_map.1 hm
        rcases HpG.mine hc p hp with h1 | h1
        · omega
        · exact List.mem_append_left _ (List.mem_append_right _ h1)
    · exact List.mem_append_right _ hm
  · obtain ⟨a1, _, a3, _⟩ := hF k hk
    rw [hu k hk]
    refine hK.block k a1 fun hm => a3 ?_
    unfold blks
    rw [List.map_append]
    exact List.mem_append_left _ (List.mem_append_right _ hm)
theorem HpF.callR (h : HpF G B w0 L R X w) (hc : Hp (fun _ => False) w [] Rs X' w') : HpF G B w0 L (Rs ++ R) X w' := by
  have hK := HpG.keep hc
  obtain ⟨F, hF, hX⟩ := h.ft
  refine ⟨Hp.callR h.hp hc, F, fun k hk => ?_, fun u hu => hX u fun k hk => ?_⟩
  · obtain ⟨a1, a2, a3, a4⟩ := hF k hk
    refine ⟨Nat.lt_of_lt_of_le a1 hK.size, a2, fun hm => ?_, a4⟩
    unfold blks at hm a3
    rw [List.filterMap_append] at hm
    rcases List.mem_append.1 hm with hm | hm
    · exact a3 (List.mem_append_left _ hm)
    · rcases List.mem_append.1 hm with hm | hm
      · obtain ⟨r, hr, he⟩ := List.mem_filterMap.1 hm
        have := ((HpG.rows hc r hr).lt k he).1
        omega
      · exact a3 (List.mem_append_right _ hm)
  · obtain ⟨a1, _, a3, _⟩ := hF k hk
    rw [hu k hk]
    exact hK.block k a1 id
theorem HpF.join (h : HpF G B w0 L R X w) {g T : Nat} {cs : List Value} (hg : w.heap[g]? = some (bk T cs)) (hG : ¬ G g) (hm : w0.heap.size ≤ g) (hL : ∀ p ∈ L, p.2 ≠ bk T cs) (hR : ∀ r ∈ R, r.E ≠ T) : HpF (fun k => k = g ∨ G k) B w0 ((g, bk T cs) :: L) R X w := by
  have h1 : g ∉ L.map (·.1) := fun hm => by
    obtain ⟨p, hp, e⟩ := List.mem_map.1 hm
    have := HpG.own h.hp p hp
    rw [e, hg] at this
    injection this with this
    exact hL p hp this.symm
  have h2 : g ∉ R.filterMap (·.v.ownBlock) := fun hm => by
    obtain ⟨r, hr, e⟩ := List.mem_filterMap.1 hm
    obtain ⟨_, hrow⟩ := HpG.rows h.hp r hr
    rcases hrow with ⟨hv, _⟩ | ⟨g', cap, cur, hv, _, hh, _⟩
    · rw [hv] at e; simp [Value.ownBlock] at e
    · rw [hv] at e
      simp [Value.ownBlock] at e
      subst e
      rw [hg] at hh
      injection hh with hh
      injection hh with _ hE _
      exact hR r hr hE.symm
  obtain ⟨F, hF, hX⟩ := h.ft
  have hF' : ∀ k, F k → k < w.heap.size ∧ ¬ B k ∧ k ∉ blks ((g, bk T cs) :: L) R ∧ (k = g ∨ G k) := fun k hk => by
    obtain ⟨a1, a2, a3, a4⟩ := hF k hk
    refine ⟨a1, a2, fun hm => ?_, .inr a4⟩
    rcases List.mem_cons.1 hm with rfl | hm
    · exact hG a4
    · exact a3 hm
  refine ⟨⟨HpG.keep h.hp, fun p hp => ?_, fun p hp => ?_, HpG.rows h.hp, ?_, fun _ _ => trivial, F, fun k hk => ⟨(hF' k hk).1, (hF' k hk).2.1, (hF' k hk).2.2.1, trivial⟩, hX⟩, F, hF', hX⟩
  · rcases List.mem_cons.1 hp with rfl | hp
    · exact hg
    · exact HpG.own h.hp p hp
  · rcases List.mem_cons.1 hp with rfl | hp
    · exact .inl hm
    · exact HpG.mine h.hp p hp
  · refine List.nodup_cons.2 ⟨fun hm => ?_, HpG.nd h.hp⟩
    rcases List.mem_append.1 hm with hm | hm
    · exact h1 hm
    · exact h2 hm
theorem wd_newF {op : Op} {d : Nat} {pos : String} {af : Array Edge} {g : Option (Nat × Bool)} {T : Nat} {cs : List Value} {f : Nat → Value} (hk : kd ⟨some d, op, ty, pos, af, g⟩ = .new) (hg : Gd ops m g) (hd : Nat.blt d n = true) (hG : ∀ k, k < w0.heap.size → G k)
    (hn : NF P op ty n m (bk T cs) f) (hL : ∀ p ∈ L, p.2 ≠ bk T cs) (hR : ∀ r ∈ R, r.E ≠ T) (h : ∀ b, ¬ G b → WD P ops J Q σ (fun k => k = b ∨ G k) n ((d, f b) :: m) (HpF (fun k => k = b ∨ G k) B w0 ((b, bk T cs) :: L) R X)) : WDo P ops J Q ⟨some d, op, ty, pos, af, g⟩ σ G n m (HpF G B w0 L R X) :=
  wd_new hk hg hd hn fun b hb => wd_weak (fun w ⟨h1, h2⟩ => h1.join h2 hb (Nat.le_of_not_lt fun hlt => hb (hG b hlt)) hL hR) (h b hb)
theorem wd_endTF {G' : Nat → Prop} {tail : List Oper} (h : WL P ops Q tail n m (Hp B w0 L R X)) : WD P ops J (fun _ a w => wpList P ops Q tail a w) [] G' n m (HpF G B w0 L R X) := fun a hs w hw _ => h a w hs hw.hp
end
/-- The type of a block of cells. -/
def oty : Obj → Nat
  | .cells _ t _ => t
  | _ => 0
theorem oty_ne {o : Obj} {T : Nat} {cs : List Value} (h : oty o ≠ T) : o ≠ bk T cs := fun e => h (by rw [e]; rfl)
theorem memL_ty {μ : Mm} : ∀ p ∈ memL μ, oty p.2 = 121 ∨ oty p.2 = 118 ∨ oty p.2 = 135 := fun p hp => by
  unfold memL at hp
  rcases List.mem_cons.1 hp with rfl | hp
  · exact .inl rfl
  rcases List.mem_cons.1 hp with rfl | hp
  · exact .inr (.inl rfl)
  rcases List.mem_cons.1 hp with rfl | hp
  · exact .inr (.inr rfl)
  obtain ⟨q, _, hq⟩ := List.mem_flatMap.1 hp
  unfold ownL at hq
  split at hq
  · rw [List.mem_singleton.1 hq]; exact .inr (.inr rfl)
  · cases hq
theorem memL_no {μ : Mm} {T : Nat} {cs : List Value} (h : Nat.beq T 121 = false ∧ Nat.beq T 118 = false ∧ Nat.beq T 135 = false) : ∀ p ∈ memL μ, p.2 ≠ bk T cs := fun p hp => oty_ne fun e => by
  have := memL_ty p hp
  obtain ⟨h1, h2, h3⟩ := h
  rcases this with h | h | h <;> rw [h] at e <;> subst e
  · simp at h1
  · simp at h2
  · simp at h3
theorem no_cons {T : Nat} {cs : List Value} {p : Nat × Obj} {L : List (Nat × Obj)} (h : Nat.beq (oty p.2) T = false) (hL : ∀ p ∈ L, p.2 ≠ bk T cs) : ∀ q ∈ p :: L, q.2 ≠ bk T cs := fun q hq => by
  rcases List.mem_cons.1 hq with rfl | hq
  · exact oty_ne fun e => by rw [e] at h; simp at h
  · exact hL q hq
theorem no_append {T : Nat} {cs : List Value} {L L' : List (Nat × Obj)} (h : ∀ p ∈ L, p.2 ≠ bk T cs) (hL : ∀ p ∈ L', p.2 ≠ bk T cs) : ∀ q ∈ L ++ L', q.2 ≠ bk T cs := fun q hq => (List.mem_append.1 hq).elim (h q) (hL q)
theorem rows_no {i : BR} {T : Nat} (h : Nat.beq 34 T = false ∧ Nat.beq 36 T = false ∧ Nat.beq 3 T = false) : ∀ r ∈ i.rows, r.E ≠ T := fun r hr => by
  obtain ⟨h1, h2, h3⟩ := h
  simp only [BR.rows, List.mem_cons, List.not_mem_nil, or_false] at hr
  rcases hr with rfl | rfl | rfl <;> intro e <;> subst e
  · simp [u32Row] at h1
  · simp [opRow] at h2
  · simp [intRow] at h3
theorem no_nilR {T : Nat} : ∀ r ∈ ([] : List Rw), r.E ≠ T := fun r hr => by cases hr
theorem no_appR {T : Nat} {R R' : List Rw} (h : ∀ r ∈ R, r.E ≠ T) (h' : ∀ r ∈ R', r.E ≠ T) : ∀ r ∈ R ++ R', r.E ≠ T := fun r hr => (List.mem_append.1 hr).elim (h r) (h' r)
theorem ou_part {s : EvOut} (h : s.vars.length = 28) : ∀ i, i < 28 → ∃ a, ((ouL s).toArray.extract 4 (4 + 28))[i]? = some (.int .u32 a) := fun i hi => by
  refine ⟨s.vars.getD i 0, ?_⟩
  have h1 := ouL_at h hi rfl
  have hlt := (List.getElem?_eq_some_iff.1 h1).1
  rw [Array.getElem?_extract_of_lt (by simp; omega)]
  have h2 := (List.getElem?_eq_some_iff.1 h1).2
  simp only [List.getElem_toArray, h2]
set_option maxRecDepth 100000 in
theorem eqOut {s : EvOut} (h : s.vars.length = 28) (w : World) : (Op.equalIn 10000 39 (.agg (ouL s).toArray) (.agg (ouL s).toArray)).run Try.prog w = .ok true w := by
  obtain ⟨i, hi⟩ : ∃ i, Try.prog.info? 34 = some i := Option.isSome_iff_exists.1 (by kernel_rfl)
  have hf : Try.prog.underlying 39 = some (.struct (Try.prog.fieldsOf 39)) := by kernel_rfl
  rw [show (10000 : Nat) = 9999 + 1 from rfl, run_equalIn_struct (P := Try.prog) w 9999 39 _ _ hf (by kernel_rfl)]
  refine eqFields_refl w _ ?_
  have int : ∀ (k : IntKind) (t : TypeId) (o : Nat) (a : Int), Try.prog.underlying t = some (.int k) → (ouL s)[o]? = some (.int k a) → ∃ v, (∀ w, (part t (ouL s).toArray o).run Try.prog w = .ok v w) ∧ ∀ w, (Op.equalIn 9999 t v v).run Try.prog w = .ok true w := fun k t o a ht ho =>
    ⟨.int k a, fun w => run_part1 ht rfl (by simpa using ho) w, fun w => by rw [run_equalIn_int (P := Try.prog) w 9998 t k k a a ht]; simp⟩
  have hfs := hf.symm.trans Try.underlying39
  injection hfs with hfs
  injection hfs with hfs
  rw [hfs]
  intro f hfm
  simp only [List.mem_cons, List.not_mem_nil, or_false] at hfm
  rcases hfm with rfl | rfl | rfl | rfl | rfl
  · exact ⟨.bool s.lv, fun w => run_part1 Try.underlying4 rfl rfl w, fun w => by rw [run_equalIn_bool' (P := Try.prog) w 9998 _ s.lv s.lv Try.underlying4]; simp⟩
  · exact int .i64 _ 1 s.idx (by kernel_rfl) rfl
  · exact int .i64 _ 2 s.done (by kernel_rfl) rfl
  · exact int .u32 _ 3 s.pc (by kernel_rfl) rfl
  · exact ⟨_, fun w => run_partR Try.underlying37 rfl (by kernel_rfl) w, fun w => arr_refl (d := 9997) Try.underlying37 Try.underlying34 hi (by kernel_rfl) (ou_part h) w⟩
end Go.Proofs.Ytojofinofpgopaa
/- Facts drawn from a walk; a new block beside old ones. -/
namespace Go.Proofs.Ytojofinofpgopaa
open Go.RowKit
theorem wc_fact {P : Program} {c : Code} {Q : Exit → Act → World → Prop} {n : Nat} {m : List (Nat × Value)} {H : World → Prop} {p : Prop} (hp : ∀ w, H w → p) (h : p → WC P c Q n m H) : WC P c Q n m H := fun a w hs hw => h (hp w hw) a w hs hw
def gzL (v : List Int) : List Int := v.take 19 ++ List.replicate 9 0
theorem gzL_len {v : List Int} (h : v.length = 28) : (gzL v).length = 28 := by simp [gzL, h]
theorem clr_row {v : List Int} (hv : v.length = 28) : (u32s v).take 19 ++ List.replicate 9 (.int .u32 0) ++ (u32s v).drop (19 + 9) = u32s (gzL v) := by
  rw [List.drop_of_length_le (by rw [us_len, hv]; omega), List.append_nil]
  simp [u32s, gzL]
theorem pm_eq {μ μ' : Mm} (h : μ.pm = μ'.pm) : μ.rs = μ'.rs ∧ μ.bytes = μ'.bytes := by
  injection h with h
  injection h with h1 h2
  exact ⟨h1, h2⟩
section
variable {P : Program} {n : Nat} {m : List (Nat × Value)} {ty : TypeId} {G B : Nat → Prop} {w0 w : World} {L : List (Nat × Obj)} {R : List Rw} {X J : World → Prop} {Q : Exit → Act → World → Prop} {ops : Array Oper} {σ : List Nat}
/-- A drawn region; the blocks known ahead are old. -/
theorem wc_drawTNb {id : Nat} {l : List Oper} (k : Nat) (σ : List Nat) (J : World → Prop) (hm : P.follows .mixedOrders = true) (hB : okT l.toArray k σ = true) (hJ : AStab J) (hj : ∀ w, Hp B w0 L R X w → J w)
    (h : ∀ n0, w0.heap.size ≤ n0 → (∀ j ∈ blks L R, j < n0) → WD P l.toArray J (fun _ a w => wpList P l.toArray Q (l.drop k) a w) σ (fun j => j < n0) n m (HpG (fun j => j < n0) B w0 L R X)) : WC P (.region id l.toArray true) Q n m (Hp B w0 L R X) := fun a w hs hw =>
  region_ST (J := J) hm hB (fun k => k < w.heap.size) (HpG (fun k => k < w.heap.size) B w0 L R X) HpG.stab hJ (HpG.drew hw.inn) (hj _ (Hp.drew hw)) (fun _ h => h) (h w.heap.size (HpG.size hw) (HpG.lt hw) a hs)
theorem HpF.joinG (h : HpF G B w0 L R X w) {g T : Nat} {cs : List Value} (hg : w.heap[g]? = some (bk T cs)) (hG : ¬ G g) (hm : w0.heap.size ≤ g) (hL : ∀ p ∈ L, G p.1 ∨ p.2 ≠ bk T cs) (hR : ∀ r ∈ R, r.E ≠ T) : HpF (fun k => k = g ∨ G k) B w0 ((g, bk T cs) :: L) R X w := by
  have h1 : g ∉ L.map (·.1) := fun hm => by
    obtain ⟨p, hp, e⟩ := List.mem_map.1 hm
    rcases hL p hp with h2 | h2
    · rw [e] at h2; exact hG h2
    · have := HpG.own h.hp p hp
      rw [e, hg] at this
      injection this with this
      exact h2 this.symm
  have h2 : g ∉ R.filterMap (·.v.ownBlock) := fun hm => by
    obtain ⟨r, hr, e⟩ := List.mem_filterMap.1 hm
    obtain ⟨_, hrow⟩ := HpG.rows h.hp r hr
    rcases hrow with ⟨hv, _⟩ | ⟨g', cap, cur, hv, _, hh, _⟩
    · rw [hv] at e; simp [Value.ownBlock] at e
    · rw [hv] at e
      simp [Value.ownBlock] at e
      subst e
      rw [hg] at hh
      injection hh with hh
      injection hh with _ hE _
      exact hR r hr hE.symm
  obtain ⟨F, hF, hX⟩ := h.ft
  have hF' : ∀ k, F k → k < w.heap.size ∧ ¬ B k ∧ k ∉ blks ((g, bk T cs) :: L) R ∧ (k = g ∨ G k) := fun k hk => by
    obtain ⟨a1, a2, a3, a4⟩ := hF k hk
    refine ⟨a1, a2, fun hm => ?_, .inr a4⟩
    rcases List.mem_cons.1 hm with rfl | hm
    · exact hG a4
    · exact a3 hm
  refine ⟨⟨HpG.keep h.hp, fun p hp => ?_, fun p hp => ?_, HpG.rows h.hp, ?_, fun _ _ => trivial, F, fun k hk => ⟨(hF' k hk).1, (hF' k hk).2.1, (hF' k hk).2.2.1, trivial⟩, hX⟩, F, hF', hX⟩
  · rcases List.mem_cons.1 hp with rfl | hp
    · exact hg
    · exact HpG.own h.hp p hp
  · rcases List.mem_cons.1 hp with rfl | hp
    · exact .inl hm
    · exact HpG.mine h.hp p hp
  · refine List.nodup_cons.2 ⟨fun hm => ?_, HpG.nd h.hp⟩
    rcases List.mem_append.1 hm with hm | hm
    · exact h1 hm
    · exact h2 hm
theorem wd_newFG {op : Op} {d : Nat} {pos : String} {af : Array Edge} {g : Option (Nat × Bool)} {T : Nat} {cs : List Value} {f : Nat → Value} (hk : kd ⟨some d, op, ty, pos, af, g⟩ = .new) (hg : Gd ops m g) (hd : Nat.blt d n = true) (hG : ∀ k, k < w0.heap.size → G k)
    (hn : NF P op ty n m (bk T cs) f) (hL : ∀ p ∈ L, G p.1 ∨ p.2 ≠ bk T cs) (hR : ∀ r ∈ R, r.E ≠ T) (h : ∀ b, ¬ G b → WD P ops J Q σ (fun k => k = b ∨ G k) n ((d, f b) :: m) (HpF (fun k => k = b ∨ G k) B w0 ((b, bk T cs) :: L) R X)) : WDo P ops J Q ⟨some d, op, ty, pos, af, g⟩ σ G n m (HpF G B w0 L R X) :=
  wd_new hk hg hd hn fun b hb => wd_weak (fun w ⟨h1, h2⟩ => h1.joinG h2 hb (Nat.le_of_not_lt fun hlt => hb (hG b hlt)) hL hR) (h b hb)
end
theorem rows2_no {A A' : Option Addr} {c c' : Nat} {l : List Int} {l' : List IOp} {T : Nat} (h : Nat.beq 34 T = false ∧ Nat.beq 36 T = false) : ∀ r ∈ [u32Row A c l, opRow A' c' l'], r.E ≠ T := fun r hr => by
  obtain ⟨h1, h2⟩ := h
  simp only [List.mem_cons, List.not_mem_nil, or_false] at hr
  rcases hr with rfl | rfl <;> intro e <;> subst e
  · simp [u32Row] at h1
  · simp [opRow] at h2
end Go.Proofs.Ytojofinofpgopaa
