/- The parser of statements: statement. -/
import Derived.Test.YtfpkpnkdnammnaaGreatDoorSyL
import Derived.Test.YtfpkpnkdnammnaaGreatDoorSyU
namespace Go.Proofs.YtfpkpnkdnammnaaGreatDoor
open Go.RowKit
/-- An expression that lies there, its kids' cells told. -/
def exsC (F : Nat → Prop) (w : World) (x : Ex) (A : Option Addr) (cap : Nat) (kc : List Value) : Prop := Cp x.kids.length cap ∧ RdF F A kc w ∧ ExsV F w x.kids kc
theorem exsC.lies {x : Ex} {A : Option Addr} {cap : Nat} {kc : List Value} : Lies fun F w => exsC F w x A cap kc :=
  ⟨fun hk ⟨h0, h1, h2⟩ => ⟨h0, RdF.lies.foot hk h1, ExsV.lies.foot hk h2⟩, fun ⟨h0, h1, h2⟩ => ⟨h0, RdF.lies.lt h1, ExsV.lies.lt h2⟩, fun hF ⟨h0, h1, h2⟩ => ⟨h0, RdF.lies.mono hF h1, ExsV.lies.mono hF h2⟩⟩
theorem exsC.k {F : Nat → Prop} {w : World} {x : Ex} {A : Option Addr} {cap : Nat} {kc : List Value} (h : exsC F w x A cap kc) : exsK F w x A cap := ⟨h.1, kc, h.2.1, h.2.2⟩
structure ExV where
  A : Option Addr
  cap : Nat
  kc : List Value
section
variable {ops : Array Oper} {Q : Exit → Act → World → Prop} {n : Nat} {m : List (Nat × Value)} {ty : TypeId} {G B : Nat → Prop} {w0 : World} {L : List (Nat × Obj)} {R : List Rw} {X : World → Prop} {rest : List Oper} {d : Nat} {pos : String} {af : Array Edge} {gd : Option (Nat × Bool)} {f : FuncId} {args : List Operand} {ats : Array TypeId} {vs : List Value}
theorem wl_exC (E : PE) (s : PS) (x : Ex) (s' : PS) (bp : Nat) (k : Nat) (hB : ∀ k, B k → k < w0.heap.size) (hX : ∀ w, X w → TkX E w) (hC : ∀ w, w.heap[bp]? = some (pO E s) → TkX E w → Calls Tryz.prog f vs.toArray w (ExPost E bp w x s')) (hg : Gd ops m gd) (hd : Nat.blt d n = true) (hf : goes Tryz.prog f = true) (ha : evl m args = some vs) (hk : L[k]? = some (bp, pO E s))
    (h : ∀ (i : ExV) F, (∀ k, F k → w0.heap.size ≤ k) → (x.kind = 4 → i.cap = x.kids.length) → i.kc.length = 4 * x.kids.length → WL Tryz.prog ops Q rest n ((d, .agg (exOf x i.A i.cap).toArray) :: m) (Hp B w0 (L.set k (bp, pO E s')) R (fun u => exsC F u x i.A i.cap i.kc ∧ X u))) :
    WL Tryz.prog ops Q (⟨some d, .call { callee := .value (.func f), args := args.toArray, argTypes := ats }, ty, pos, af, gd⟩ :: rest) n m (Hp B w0 L R X) :=
  wl_callT (ι := ExV) (C := fun i => (x.kind = 4 → i.cap = x.kids.length) ∧ i.kc.length = 4 * x.kids.length) (val := fun i => .agg (exOf x i.A i.cap).toArray) (obi := fun _ => pO E s') (TT := fun i F u => exsC F u x i.A i.cap i.kc) hg hd k hf ha hk hB (fun _ => exsC.lies)
    (fun w h1 hw => (hC w h1 (hX w (HpG.x hw))).mono fun _ _ ⟨A, cap, e1, e0, e2, e3, h0, kc, h4, h5⟩ => ⟨⟨A, cap, kc⟩, ⟨e0, h5.len⟩, e1, e2, e3, h0, h4, h5⟩) fun i F hc hF => h i F hF hc.1 hc.2
end
theorem sim_st {F : Nat → Prop} {u : World} {kc : List Value} {A1 : Option Addr} {x : Ex} {A2 : Option Addr} {cap2 c1 k : Nat} {nm : Bs} {es : List Ex} (h : SimK F u kc A1 x A2 cap2) (hes : ExsV F u es kc) (hc : Cp (es.length + 1) c1) : stsK F u (.mk k nm (es ++ [x]) [] []) ⟨A1, none, none, c1, 0, 0⟩ :=
  ⟨by show Cp (es ++ [x]).length c1; rw [List.length_append]; exact hc, cp00, cp00, ⟨_, h.1, ExsV.append hes h.2.one⟩, ⟨[], RdF.nil, .nil⟩, ⟨[], RdF.nil, .nil⟩⟩
set_option maxHeartbeats 2000000 in
set_option maxRecDepth 100000 in
theorem statement_any {E : PE} (hE : E.Ok) {fe f : Nat} (hfe : EOk E fe) (IH : SOk E fe f) (s : PS) (t : St) (s' : PS) (hr : stmS E.tk (EE E fe) (stF E.tk (EE E fe) f) s = some (t, s')) (he : s.err = 0) (hs : s.at_ ≤ E.m) (bp : Nat) (w_0 : World) (hb : w_0.heap[bp]? = some (pO E s)) (hX : TkX E w_0) :
    Calls Tryz.prog 128 #[.pointer (some ⟨bp, 0, none⟩)] w_0 (StPost E bp w_0 t s') := by
  have hbl : bp < w_0.heap.size := bp_lt hb bp rfl
  unfold stmS at hr
  refine calls_wc (args := [.pointer (some ⟨bp, 0, none⟩)]) Tryz.func128 rfl 107 rfl (Nat.le_of_ble_eq_true rfl) ?_
  refine wc_weak (.cons (i := 0) rfl <| .nil) ?_
  refine wc_conseq (H' := Hp (fun k => k = bp) w_0 [(bp, pO E s)] [] (TkX E)) (fun u hu => ?_) ?_
  · subst hu; exact Hp.startP hb hX
  refine wc_seq ?_
  refine wc_region ?_
  refine wl_new .none rfl (nf_alloc (z := .agg #[.int .i64 0, .string ⟨#[]⟩, .slice none 0 0, .slice none 0 0, .slice none 0 0]) (cs := [.int .i64 0, .string ⟨#[]⟩, .slice none 0 0, .slice none 0 0, .slice none 0 0]) (by kernel_rfl) rfl) (fun b2 => ?_)
  refine wl_nil ?_
  refine wq_then ?_
  refine wc_seq ?_
  refine wc_region ?_
  refine wl_free .none rfl (yf_move rfl) ?_
  refine wl_free .none rfl (yf_nilCheck rfl) ?_
  refine wl_free .none rfl (yf_fieldAddr (off := 0) (sz := 0) rfl Tryz.underlying90 (by kernel_rfl) rfl) ?_
  refine wl_free .none rfl (yf_loadL 1 rfl rfl rfl Tryz.underlying87 rfl) ?_
  (refine wl_free .none rfl (yf_indexAddrS (j := 0) (es := 4) rfl rfl Tryz.underlying87 (by kernel_rfl) rfl ?_ rfl) ?_; (· first | decide | omega | (simp; done) | (simp; omega)); skip)
  refine wl_free .none rfl (yf_loadRow (cs := tokC (E.tk s.at_)) rfl Tryz.underlying92 rfl (by kernel_rfl) (fun w h => tkRow (HpG.x h) hs (by omega))) ?_
  refine wl_new .none rfl (nf_alloc (z := .agg #[.int .i64 0, .int .i64 0, .string ⟨#[]⟩, .int .u64 0]) (cs := [.int .i64 0, .int .i64 0, .string ⟨#[]⟩, .int .u64 0]) (by kernel_rfl) rfl) (fun b3 => ?_)
  refine wl_chain0 .none (cf_storeRow 0 rfl rfl rfl rfl rfl (by kernel_rfl)) (fun _ => ?_)
  refine wl_nil ?_
  refine wq_then ?_
  refine wc_seq ?_
  refine wc_block ?_
  refine wc_seq ?_
  refine wc_weak (.cons (i := 0) rfl <| .cons (i := 2) rfl <| .cons (i := 3) rfl <| .nil) ?_
  refine wc_region ?_
  refine wl_free .none rfl (yf_move rfl) ?_
  refine wl_take E hE s hs kVar bp (fun _ h => h) 2 .none rfl  rfl rfl ?_
  refine wl_free .none rfl (yf_assign rfl) ?_
  refine wl_nil ?_
  refine wq_then ?_
  refine wc_cond rfl (fun h14 => ?_) (fun h14 => ?_)
  · skip
    have ha := isP_adv hE.kind hs h14
    have hn := nameP_in hE.kind ha
    have hq := needP_in hE.kind [61] hn.1
    rw [h14] at hr ⊢
    obtain ⟨x, s1, hx1, hx2⟩ := andThen_some hr
    cases hx2
    refine wc_seq ?_
    refine wc_weak (.cons (i := 0) rfl <| .cons (i := 2) rfl <| .cons (i := 3) rfl <| .cons (i := 14) rfl <| .nil) ?_
    refine wc_region ?_
    refine wl_free .none rfl (yf_move rfl) ?_
    refine wl_name E hE (adv s) ha bp (fun _ h => h) 2 .none rfl  rfl rfl ?_
    refine wl_free .none rfl (yf_buildS [.int .i64 0, .string ⟨#[]⟩, .slice none 0 0, .slice none 0 0, .slice none 0 0] [(0, 1), (1, 1), (2, 1), (3, 1), (4, 1)] rfl (by kernel_rfl) (by kernel_rfl) rfl) ?_
    refine wl_new .none rfl (nf_alloc (z := .agg #[.int .i64 0, .string ⟨#[]⟩, .slice none 0 0, .slice none 0 0, .slice none 0 0]) (cs := [.int .i64 0, .string ⟨#[]⟩, .slice none 0 0, .slice none 0 0, .slice none 0 0]) (by kernel_rfl) rfl) (fun b4 => ?_)
    refine wl_chain0 .none (cf_storeRow 0 rfl rfl rfl rfl rfl (by kernel_rfl)) (fun _ => ?_)
    refine wl_nil ?_
    refine wq_then ?_
    refine wc_seq ?_
    refine wc_weak (.cons (i := 0) rfl <| .cons (i := 2) rfl <| .cons (i := 3) rfl <| .cons (i := 4) rfl <| .cons (i := 14) rfl <| .nil) ?_
    refine wc_region ?_
    refine wl_free .none rfl (yf_move rfl) ?_
    refine wl_need E hE (nameP E.tk (adv s)).2 hn.1 [61] bp (fun _ h => h) 3 .none rfl  rfl rfl ?_
    refine wl_nil ?_
    refine wq_then ?_
    refine wc_seq ?_
    refine wc_weak (.cons (i := 0) rfl <| .cons (i := 2) rfl <| .cons (i := 3) rfl <| .cons (i := 4) rfl <| .cons (i := 14) rfl <| .nil) ?_
    refine wc_region ?_
    refine wl_free .none rfl (yf_move rfl) ?_
    refine wl_free .none rfl (yf_loadAllL 0 rfl rfl Tryz.underlying60 rfl (by kernel_rfl)) ?_
    refine wl_si E (needP E.tk [61] (nameP E.tk (adv s)).2) 1 (nameP E.tk (adv s)).1 0 [] x (needP E.tk [59] s1) bp 3 (bp_lt hb) (fun w h1 h2 => simple_any hE hfe 1 (nameP E.tk (adv s)).1 none 0 [] rfl (by omega) (fun _ => rfl) _ x s1 hx1 hq.1 bp (F0 := fun _ => False) (fun _ h => h.elim) w h1 h2 RdF.nil) .none rfl  (by kernel_rfl) rfl rfl (fun i F hi hF => ?_)
    refine wl_chain0 .none (cf_storeRow 2 rfl rfl rfl rfl rfl (by kernel_rfl)) (fun _ => ?_)
    refine wl_nil ?_
    refine wq_then ?_
    refine wc_ret ?_
    refine wq_block_ret ?_
    refine wq_then_ret ?_
    refine wq_retC rfl rfl 2 rfl Tryz.underlying60 rfl (by kernel_rfl) (fun w hw => ?_)
    first
    | exact ⟨⟨i.A1, none, none, i.c1, 0, 0⟩, rfl, HpG.keep hw, HpG.blkL (j := 2) hw rfl, stsK.lies.mono hF (sim_st (HpG.x hw).1 .nil hi)⟩
    | exact ⟨⟨i.A1, none, none, i.c1, 0, 0⟩, rfl, HpG.keep hw, HpG.blkL (j := 3) hw rfl, stsK.lies.mono hF (sim_st (HpG.x hw).1 .nil hi)⟩
    | exact ⟨⟨i.A1, none, none, i.c1, 0, 0⟩, rfl, HpG.keep hw, HpG.blkL (j := 3) hw rfl, stsK.lies.mono hF3 (sim_st (HpG.x hw).1 .nil hi)⟩
    | exact ⟨⟨i.A1, none, none, i.c1, 0, 0⟩, (by show _ = Ending.returned (.agg (stC 3 [] i.A1 (x.kids ++ [y]).length i.c1 none 0 0 none 0 0).toArray); rw [List.length_append]; rfl), HpG.keep hw, HpG.blkL (j := 3) hw rfl, sim_st (SimK.lies.mono hF3 (HpG.x hw).1) (ExsV.lies.mono hF (HpG.x hw).2.1.2.2) hi⟩
    | exact ⟨⟨some ⟨b105, 0, none⟩, none, none, 1, 0, 0⟩, rfl, HpG.keep hw, HpG.blkL (j := 4) hw rfl, cp11, cp00, cp00, ⟨_, HpG.rdF (j := 0) hw rfl (HpG.fresh (j := 0) (i := 4) hw rfl rfl rfl), (exsK.lies.mono hF (HpG.x hw).1.k).one⟩, ⟨[], RdF.nil, .nil⟩, ⟨[], RdF.nil, .nil⟩⟩
    | exact ⟨⟨some ⟨b46, 0, none⟩, A2, none, 1, cap2, 0⟩, rfl, HpG.keep hw, HpG.blkL (j := 4) hw rfl, cp11, (HpG.x hw).1.1, cp00, ⟨_, HpG.rdF (j := 1) hw rfl (HpG.fresh (j := 1) (i := 4) hw rfl rfl rfl), (exsK.lies.mono hF (HpG.x hw).2.1).one⟩, (blkK.lies.mono hF2 (HpG.x hw).1).2, ⟨[], RdF.nil, .nil⟩⟩
    | exact ⟨⟨some ⟨b30, 0, none⟩, A2, none, 1, cap2, 0⟩, rfl, HpG.keep hw, HpG.blkL (j := 4) hw rfl, cp11, (HpG.x hw).1.1, cp00, ⟨_, HpG.rdF (j := 1) hw rfl (HpG.fresh (j := 1) (i := 4) hw rfl rfl rfl), (exsK.lies.mono hF (HpG.x hw).2.1).one⟩, (blkK.lies.mono hF2 (HpG.x hw).1).2, ⟨[], RdF.nil, .nil⟩⟩
    | exact ⟨⟨some ⟨b30, 0, none⟩, A2, A3, 1, cap2, cap3⟩, rfl, HpG.keep hw, HpG.blkL (j := 4) hw rfl, cp11, (HpG.x hw).2.1.1, (HpG.x hw).1.1, ⟨_, HpG.rdF (j := 1) hw rfl (HpG.fresh (j := 1) (i := 4) hw rfl rfl rfl), (exsK.lies.mono hF (HpG.x hw).2.2.1).one⟩, (blkK.lies.mono hF2 (HpG.x hw).2.1).2, (blkK.lies.mono hF3 (HpG.x hw).1).2⟩
  · skip
    rw [h14] at hr ⊢
    refine wc_seq ?_
    refine wc_weak (.cons (i := 0) rfl <| .cons (i := 2) rfl <| .cons (i := 3) rfl <| .cons (i := 14) rfl <| .nil) ?_
    refine wc_region ?_
    refine wl_free .none rfl (yf_move rfl) ?_
    refine wl_take E hE s hs kIf bp (fun _ h => h) 2 .none rfl  rfl rfl ?_
    refine wl_free .none rfl (yf_assign rfl) ?_
    refine wl_nil ?_
    refine wq_then ?_
    refine wc_cond rfl (fun h25 => ?_) (fun h25 => ?_)
    · skip
      have ha := isP_adv hE.kind hs h25
      rw [h25] at hr ⊢
      obtain ⟨x, s1, hx1, hr⟩ := andThen_some hr
      obtain ⟨b, s2, hb1, hr⟩ := andThen_some hr
      have hs1 := EE_g hE fe _ ha x s1 hx1
      have hs2 := blockS_g hE.kind (stF_g hE.kind (EE_g hE fe) f) _ hs1.2.1 b s2 hb1
      refine wc_seq ?_
      refine wc_weak (.cons (i := 0) rfl <| .cons (i := 2) rfl <| .cons (i := 3) rfl <| .cons (i := 14) rfl <| .cons (i := 25) rfl <| .nil) ?_
      refine wc_region ?_
      refine wl_free .none rfl (yf_move rfl) ?_
      refine wl_ex E (adv s) x s1 bp 2 (bp_lt hb) (fun _ h => h) (fun w h1 h2 => expr_any hfe _ x s1 hx1 ha bp w h1 h2) .none rfl  (by kernel_rfl) rfl rfl (fun A cap F hF hc => ?_)
      refine wl_new .none rfl (nf_bs1 (z := .agg #[.int .i64 0, .int .u32 0, .string ⟨#[]⟩, .slice none 0 0]) rfl rfl Tryz.underlying55 (by kernel_rfl) (by kernel_rfl) rfl rfl) (fun b30 => ?_)
      refine wl_free .none rfl (yf_buildS [.int .i64 0, .string ⟨#[]⟩, .slice none 0 0, .slice none 0 0, .slice none 0 0] [(0, 1), (1, 1), (2, 1), (3, 1), (4, 1)] rfl (by kernel_rfl) (by kernel_rfl) rfl) ?_
      refine wl_new .none rfl (nf_alloc (z := .agg #[.int .i64 0, .string ⟨#[]⟩, .slice none 0 0, .slice none 0 0, .slice none 0 0]) (cs := [.int .i64 0, .string ⟨#[]⟩, .slice none 0 0, .slice none 0 0, .slice none 0 0]) (by kernel_rfl) rfl) (fun b5 => ?_)
      refine wl_chain0 .none (cf_storeRow 0 rfl rfl rfl rfl rfl (by kernel_rfl)) (fun _ => ?_)
      refine wl_nil ?_
      refine wq_then ?_
      refine wc_seq ?_
      refine wc_weak (.cons (i := 0) rfl <| .cons (i := 2) rfl <| .cons (i := 3) rfl <| .cons (i := 5) rfl <| .cons (i := 14) rfl <| .cons (i := 25) rfl <| .nil) ?_
      refine wc_region ?_
      refine wl_free .none rfl (yf_move rfl) ?_
      refine wl_bl E s1 b s2 bp 4 (bp_lt hb) (fun _ h => h.2) (fun w h1 h2 => IH.blk s1 b s2 hb1 hs1.2.1 bp w h1 h2) .none rfl  (by kernel_rfl) rfl rfl (fun A2 cap2 F2 hF2 => ?_)
      refine wl_free .none rfl (yf_fieldAddr (off := 3) (sz := 0) rfl Tryz.underlying60 (by kernel_rfl) rfl) ?_
      refine wl_chain0 .none (cf_store 0 rfl rfl rfl rfl rfl (by kernel_rfl)) (fun _ => ?_)
      refine wl_nil ?_
      refine wq_then ?_
      refine wc_seq ?_
      refine wc_seq ?_
      refine wc_weak (.cons (i := 0) rfl <| .cons (i := 2) rfl <| .cons (i := 3) rfl <| .cons (i := 5) rfl <| .cons (i := 14) rfl <| .cons (i := 25) rfl <| .nil) ?_
      refine wc_region ?_
      refine wl_free .none rfl (yf_move rfl) ?_
      refine wl_take E hE s2 hs2.2.1 kElse bp (fun _ h => h.2.2) 4 .none rfl  rfl rfl ?_
      refine wl_nil ?_
      refine wq_then ?_
      refine wc_cond rfl (fun h36 => ?_) (fun h36 => ?_)
      · skip
        have ha2 := isP_adv hE.kind hs2.2.1 h36
        rw [h36] at hr ⊢
        obtain ⟨c, s3, hc1, hc2⟩ := andThen_some hr
        cases hc2
        refine wc_weak (.cons (i := 0) rfl <| .cons (i := 2) rfl <| .cons (i := 3) rfl <| .cons (i := 5) rfl <| .cons (i := 14) rfl <| .cons (i := 25) rfl <| .cons (i := 36) rfl <| .nil) ?_
        refine wc_region ?_
        refine wl_free .none rfl (yf_move rfl) ?_
        refine wl_bl E (adv s2) c s' bp 4 (bp_lt hb) (fun _ h => h.2.2) (fun w h1 h2 => IH.blk (adv s2) c s' hc1 ha2 bp w h1 h2) .none rfl  (by kernel_rfl) rfl rfl (fun A3 cap3 F3 hF3 => ?_)
        refine wl_free .none rfl (yf_fieldAddr (off := 4) (sz := 0) rfl Tryz.underlying60 (by kernel_rfl) rfl) ?_
        refine wl_chain0 .none (cf_store 0 rfl rfl rfl rfl rfl (by kernel_rfl)) (fun _ => ?_)
        refine wl_nil ?_
        refine wq_then ?_
        refine wc_seq ?_
        refine wc_weak (.cons (i := 0) rfl <| .cons (i := 2) rfl <| .cons (i := 3) rfl <| .cons (i := 5) rfl <| .cons (i := 14) rfl <| .cons (i := 25) rfl <| .cons (i := 36) rfl <| .nil) ?_
        refine wc_region ?_
        refine wl_free .none rfl (yf_loadAllL 0 rfl rfl Tryz.underlying60 rfl (by kernel_rfl)) ?_
        refine wl_chain0 .none (cf_storeRow 3 rfl rfl rfl rfl rfl (by kernel_rfl)) (fun _ => ?_)
        refine wl_nil ?_
        refine wq_then ?_
        refine wc_ret ?_
        refine wq_block_ret ?_
        refine wq_then_ret ?_
        refine wq_retC rfl rfl 3 rfl Tryz.underlying60 rfl (by kernel_rfl) (fun w hw => ?_)
        first
        | exact ⟨⟨i.A1, none, none, i.c1, 0, 0⟩, rfl, HpG.keep hw, HpG.blkL (j := 2) hw rfl, stsK.lies.mono hF (sim_st (HpG.x hw).1 .nil hi)⟩
        | exact ⟨⟨i.A1, none, none, i.c1, 0, 0⟩, rfl, HpG.keep hw, HpG.blkL (j := 3) hw rfl, stsK.lies.mono hF (sim_st (HpG.x hw).1 .nil hi)⟩
        | exact ⟨⟨i.A1, none, none, i.c1, 0, 0⟩, rfl, HpG.keep hw, HpG.blkL (j := 3) hw rfl, stsK.lies.mono hF3 (sim_st (HpG.x hw).1 .nil hi)⟩
        | exact ⟨⟨i.A1, none, none, i.c1, 0, 0⟩, (by show _ = Ending.returned (.agg (stC 3 [] i.A1 (x.kids ++ [y]).length i.c1 none 0 0 none 0 0).toArray); rw [List.length_append]; rfl), HpG.keep hw, HpG.blkL (j := 3) hw rfl, sim_st (SimK.lies.mono hF3 (HpG.x hw).1) (ExsV.lies.mono hF (HpG.x hw).2.1.2.2) hi⟩
        | exact ⟨⟨some ⟨b105, 0, none⟩, none, none, 1, 0, 0⟩, rfl, HpG.keep hw, HpG.blkL (j := 4) hw rfl, cp11, cp00, cp00, ⟨_, HpG.rdF (j := 0) hw rfl (HpG.fresh (j := 0) (i := 4) hw rfl rfl rfl), (exsK.lies.mono hF (HpG.x hw).1.k).one⟩, ⟨[], RdF.nil, .nil⟩, ⟨[], RdF.nil, .nil⟩⟩
        | exact ⟨⟨some ⟨b46, 0, none⟩, A2, none, 1, cap2, 0⟩, rfl, HpG.keep hw, HpG.blkL (j := 4) hw rfl, cp11, (HpG.x hw).1.1, cp00, ⟨_, HpG.rdF (j := 1) hw rfl (HpG.fresh (j := 1) (i := 4) hw rfl rfl rfl), (exsK.lies.mono hF (HpG.x hw).2.1).one⟩, (blkK.lies.mono hF2 (HpG.x hw).1).2, ⟨[], RdF.nil, .nil⟩⟩
        | exact ⟨⟨some ⟨b30, 0, none⟩, A2, none, 1, cap2, 0⟩, rfl, HpG.keep hw, HpG.blkL (j := 4) hw rfl, cp11, (HpG.x hw).1.1, cp00, ⟨_, HpG.rdF (j := 1) hw rfl (HpG.fresh (j := 1) (i := 4) hw rfl rfl rfl), (exsK.lies.mono hF (HpG.x hw).2.1).one⟩, (blkK.lies.mono hF2 (HpG.x hw).1).2, ⟨[], RdF.nil, .nil⟩⟩
        | exact ⟨⟨some ⟨b30, 0, none⟩, A2, A3, 1, cap2, cap3⟩, rfl, HpG.keep hw, HpG.blkL (j := 4) hw rfl, cp11, (HpG.x hw).2.1.1, (HpG.x hw).1.1, ⟨_, HpG.rdF (j := 1) hw rfl (HpG.fresh (j := 1) (i := 4) hw rfl rfl rfl), (exsK.lies.mono hF (HpG.x hw).2.2.1).one⟩, (blkK.lies.mono hF2 (HpG.x hw).2.1).2, (blkK.lies.mono hF3 (HpG.x hw).1).2⟩
      · skip
        rw [h36] at hr ⊢
        cases hr
        refine wc_skip ?_
        refine wq_then ?_
        refine wc_seq ?_
        refine wc_weak (.cons (i := 0) rfl <| .cons (i := 2) rfl <| .cons (i := 3) rfl <| .cons (i := 5) rfl <| .cons (i := 14) rfl <| .cons (i := 25) rfl <| .cons (i := 36) rfl <| .nil) ?_
        refine wc_region ?_
        refine wl_free .none rfl (yf_loadAllL 0 rfl rfl Tryz.underlying60 rfl (by kernel_rfl)) ?_
        refine wl_chain0 .none (cf_storeRow 3 rfl rfl rfl rfl rfl (by kernel_rfl)) (fun _ => ?_)
        refine wl_nil ?_
        refine wq_then ?_
        refine wc_ret ?_
        refine wq_block_ret ?_
        refine wq_then_ret ?_
        refine wq_retC rfl rfl 3 rfl Tryz.underlying60 rfl (by kernel_rfl) (fun w hw => ?_)
        first
        | exact ⟨⟨i.A1, none, none, i.c1, 0, 0⟩, rfl, HpG.keep hw, HpG.blkL (j := 2) hw rfl, stsK.lies.mono hF (sim_st (HpG.x hw).1 .nil hi)⟩
        | exact ⟨⟨i.A1, none, none, i.c1, 0, 0⟩, rfl, HpG.keep hw, HpG.blkL (j := 3) hw rfl, stsK.lies.mono hF (sim_st (HpG.x hw).1 .nil hi)⟩
        | exact ⟨⟨i.A1, none, none, i.c1, 0, 0⟩, rfl, HpG.keep hw, HpG.blkL (j := 3) hw rfl, stsK.lies.mono hF3 (sim_st (HpG.x hw).1 .nil hi)⟩
        | exact ⟨⟨i.A1, none, none, i.c1, 0, 0⟩, (by show _ = Ending.returned (.agg (stC 3 [] i.A1 (x.kids ++ [y]).length i.c1 none 0 0 none 0 0).toArray); rw [List.length_append]; rfl), HpG.keep hw, HpG.blkL (j := 3) hw rfl, sim_st (SimK.lies.mono hF3 (HpG.x hw).1) (ExsV.lies.mono hF (HpG.x hw).2.1.2.2) hi⟩
        | exact ⟨⟨some ⟨b105, 0, none⟩, none, none, 1, 0, 0⟩, rfl, HpG.keep hw, HpG.blkL (j := 4) hw rfl, cp11, cp00, cp00, ⟨_, HpG.rdF (j := 0) hw rfl (HpG.fresh (j := 0) (i := 4) hw rfl rfl rfl), (exsK.lies.mono hF (HpG.x hw).1.k).one⟩, ⟨[], RdF.nil, .nil⟩, ⟨[], RdF.nil, .nil⟩⟩
        | exact ⟨⟨some ⟨b46, 0, none⟩, A2, none, 1, cap2, 0⟩, rfl, HpG.keep hw, HpG.blkL (j := 4) hw rfl, cp11, (HpG.x hw).1.1, cp00, ⟨_, HpG.rdF (j := 1) hw rfl (HpG.fresh (j := 1) (i := 4) hw rfl rfl rfl), (exsK.lies.mono hF (HpG.x hw).2.1).one⟩, (blkK.lies.mono hF2 (HpG.x hw).1).2, ⟨[], RdF.nil, .nil⟩⟩
        | exact ⟨⟨some ⟨b30, 0, none⟩, A2, none, 1, cap2, 0⟩, rfl, HpG.keep hw, HpG.blkL (j := 4) hw rfl, cp11, (HpG.x hw).1.1, cp00, ⟨_, HpG.rdF (j := 1) hw rfl (HpG.fresh (j := 1) (i := 4) hw rfl rfl rfl), (exsK.lies.mono hF (HpG.x hw).2.1).one⟩, (blkK.lies.mono hF2 (HpG.x hw).1).2, ⟨[], RdF.nil, .nil⟩⟩
        | exact ⟨⟨some ⟨b30, 0, none⟩, A2, A3, 1, cap2, cap3⟩, rfl, HpG.keep hw, HpG.blkL (j := 4) hw rfl, cp11, (HpG.x hw).2.1.1, (HpG.x hw).1.1, ⟨_, HpG.rdF (j := 1) hw rfl (HpG.fresh (j := 1) (i := 4) hw rfl rfl rfl), (exsK.lies.mono hF (HpG.x hw).2.2.1).one⟩, (blkK.lies.mono hF2 (HpG.x hw).2.1).2, (blkK.lies.mono hF3 (HpG.x hw).1).2⟩
    · skip
      rw [h25] at hr ⊢
      refine wc_seq ?_
      refine wc_weak (.cons (i := 0) rfl <| .cons (i := 2) rfl <| .cons (i := 3) rfl <| .cons (i := 14) rfl <| .cons (i := 25) rfl <| .nil) ?_
      refine wc_region ?_
      refine wl_free .none rfl (yf_move rfl) ?_
      refine wl_take E hE s hs kWhile bp (fun _ h => h) 2 .none rfl  rfl rfl ?_
      refine wl_free .none rfl (yf_assign rfl) ?_
      refine wl_nil ?_
      refine wq_then ?_
      refine wc_cond rfl (fun h41 => ?_) (fun h41 => ?_)
      · skip
        have ha := isP_adv hE.kind hs h41
        rw [h41] at hr ⊢
        obtain ⟨x, s1, hx1, hr⟩ := andThen_some hr
        obtain ⟨b, s2, hb1, hr⟩ := andThen_some hr
        cases hr
        have hs1 := EE_g hE fe _ ha x s1 hx1
        refine wc_seq ?_
        refine wc_weak (.cons (i := 0) rfl <| .cons (i := 2) rfl <| .cons (i := 3) rfl <| .cons (i := 14) rfl <| .cons (i := 25) rfl <| .cons (i := 41) rfl <| .nil) ?_
        refine wc_region ?_
        refine wl_free .none rfl (yf_move rfl) ?_
        refine wl_ex E (adv s) x s1 bp 2 (bp_lt hb) (fun _ h => h) (fun w h1 h2 => expr_any hfe _ x s1 hx1 ha bp w h1 h2) .none rfl  (by kernel_rfl) rfl rfl (fun A cap F hF hc => ?_)
        refine wl_new .none rfl (nf_bs1 (z := .agg #[.int .i64 0, .int .u32 0, .string ⟨#[]⟩, .slice none 0 0]) rfl rfl Tryz.underlying55 (by kernel_rfl) (by kernel_rfl) rfl rfl) (fun b46 => ?_)
        refine wl_free .none rfl (yf_buildS [.int .i64 0, .string ⟨#[]⟩, .slice none 0 0, .slice none 0 0, .slice none 0 0] [(0, 1), (1, 1), (2, 1), (3, 1), (4, 1)] rfl (by kernel_rfl) (by kernel_rfl) rfl) ?_
        refine wl_new .none rfl (nf_alloc (z := .agg #[.int .i64 0, .string ⟨#[]⟩, .slice none 0 0, .slice none 0 0, .slice none 0 0]) (cs := [.int .i64 0, .string ⟨#[]⟩, .slice none 0 0, .slice none 0 0, .slice none 0 0]) (by kernel_rfl) rfl) (fun b6 => ?_)
        refine wl_chain0 .none (cf_storeRow 0 rfl rfl rfl rfl rfl (by kernel_rfl)) (fun _ => ?_)
        refine wl_nil ?_
        refine wq_then ?_
        refine wc_seq ?_
        refine wc_weak (.cons (i := 0) rfl <| .cons (i := 2) rfl <| .cons (i := 3) rfl <| .cons (i := 6) rfl <| .cons (i := 14) rfl <| .cons (i := 25) rfl <| .cons (i := 41) rfl <| .nil) ?_
        refine wc_region ?_
        refine wl_free .none rfl (yf_move rfl) ?_
        refine wl_bl E s1 b s' bp 4 (bp_lt hb) (fun _ h => h.2) (fun w h1 h2 => IH.blk s1 b s' hb1 hs1.2.1 bp w h1 h2) .none rfl  (by kernel_rfl) rfl rfl (fun A2 cap2 F2 hF2 => ?_)
        refine wl_free .none rfl (yf_fieldAddr (off := 3) (sz := 0) rfl Tryz.underlying60 (by kernel_rfl) rfl) ?_
        refine wl_chain0 .none (cf_store 0 rfl rfl rfl rfl rfl (by kernel_rfl)) (fun _ => ?_)
        refine wl_nil ?_
        refine wq_then ?_
        refine wc_seq ?_
        refine wc_weak (.cons (i := 0) rfl <| .cons (i := 2) rfl <| .cons (i := 3) rfl <| .cons (i := 6) rfl <| .cons (i := 14) rfl <| .cons (i := 25) rfl <| .cons (i := 41) rfl <| .nil) ?_
        refine wc_region ?_
        refine wl_free .none rfl (yf_loadAllL 0 rfl rfl Tryz.underlying60 rfl (by kernel_rfl)) ?_
        refine wl_chain0 .none (cf_storeRow 3 rfl rfl rfl rfl rfl (by kernel_rfl)) (fun _ => ?_)
        refine wl_nil ?_
        refine wq_then ?_
        refine wc_ret ?_
        refine wq_block_ret ?_
        refine wq_then_ret ?_
        refine wq_retC rfl rfl 3 rfl Tryz.underlying60 rfl (by kernel_rfl) (fun w hw => ?_)
        first
        | exact ⟨⟨i.A1, none, none, i.c1, 0, 0⟩, rfl, HpG.keep hw, HpG.blkL (j := 2) hw rfl, stsK.lies.mono hF (sim_st (HpG.x hw).1 .nil hi)⟩
        | exact ⟨⟨i.A1, none, none, i.c1, 0, 0⟩, rfl, HpG.keep hw, HpG.blkL (j := 3) hw rfl, stsK.lies.mono hF (sim_st (HpG.x hw).1 .nil hi)⟩
        | exact ⟨⟨i.A1, none, none, i.c1, 0, 0⟩, rfl, HpG.keep hw, HpG.blkL (j := 3) hw rfl, stsK.lies.mono hF3 (sim_st (HpG.x hw).1 .nil hi)⟩
        | exact ⟨⟨i.A1, none, none, i.c1, 0, 0⟩, (by show _ = Ending.returned (.agg (stC 3 [] i.A1 (x.kids ++ [y]).length i.c1 none 0 0 none 0 0).toArray); rw [List.length_append]; rfl), HpG.keep hw, HpG.blkL (j := 3) hw rfl, sim_st (SimK.lies.mono hF3 (HpG.x hw).1) (ExsV.lies.mono hF (HpG.x hw).2.1.2.2) hi⟩
        | exact ⟨⟨some ⟨b105, 0, none⟩, none, none, 1, 0, 0⟩, rfl, HpG.keep hw, HpG.blkL (j := 4) hw rfl, cp11, cp00, cp00, ⟨_, HpG.rdF (j := 0) hw rfl (HpG.fresh (j := 0) (i := 4) hw rfl rfl rfl), (exsK.lies.mono hF (HpG.x hw).1.k).one⟩, ⟨[], RdF.nil, .nil⟩, ⟨[], RdF.nil, .nil⟩⟩
        | exact ⟨⟨some ⟨b46, 0, none⟩, A2, none, 1, cap2, 0⟩, rfl, HpG.keep hw, HpG.blkL (j := 4) hw rfl, cp11, (HpG.x hw).1.1, cp00, ⟨_, HpG.rdF (j := 1) hw rfl (HpG.fresh (j := 1) (i := 4) hw rfl rfl rfl), (exsK.lies.mono hF (HpG.x hw).2.1).one⟩, (blkK.lies.mono hF2 (HpG.x hw).1).2, ⟨[], RdF.nil, .nil⟩⟩
        | exact ⟨⟨some ⟨b30, 0, none⟩, A2, none, 1, cap2, 0⟩, rfl, HpG.keep hw, HpG.blkL (j := 4) hw rfl, cp11, (HpG.x hw).1.1, cp00, ⟨_, HpG.rdF (j := 1) hw rfl (HpG.fresh (j := 1) (i := 4) hw rfl rfl rfl), (exsK.lies.mono hF (HpG.x hw).2.1).one⟩, (blkK.lies.mono hF2 (HpG.x hw).1).2, ⟨[], RdF.nil, .nil⟩⟩
        | exact ⟨⟨some ⟨b30, 0, none⟩, A2, A3, 1, cap2, cap3⟩, rfl, HpG.keep hw, HpG.blkL (j := 4) hw rfl, cp11, (HpG.x hw).2.1.1, (HpG.x hw).1.1, ⟨_, HpG.rdF (j := 1) hw rfl (HpG.fresh (j := 1) (i := 4) hw rfl rfl rfl), (exsK.lies.mono hF (HpG.x hw).2.2.1).one⟩, (blkK.lies.mono hF2 (HpG.x hw).2.1).2, (blkK.lies.mono hF3 (HpG.x hw).1).2⟩
      · skip
        rw [h41] at hr ⊢
        refine wc_seq ?_
        refine wc_weak (.cons (i := 0) rfl <| .cons (i := 2) rfl <| .cons (i := 3) rfl <| .cons (i := 14) rfl <| .cons (i := 25) rfl <| .cons (i := 41) rfl <| .nil) ?_
        refine wc_region ?_
        refine wl_free .none rfl (yf_move rfl) ?_
        refine wl_take E hE s hs kRet bp (fun _ h => h) 2 .none rfl  rfl rfl ?_
        refine wl_free .none rfl (yf_assign rfl) ?_
        refine wl_nil ?_
        refine wq_then ?_
        refine wc_cond rfl (fun h52 => ?_) (fun h52 => ?_)
        · skip
          have ha := isP_adv hE.kind hs h52
          rw [h52] at hr ⊢
          obtain ⟨x, s1, hx1, hx2⟩ := andThen_some hr
          cases hx2
          refine wc_seq ?_
          refine wc_weak (.cons (i := 0) rfl <| .cons (i := 2) rfl <| .cons (i := 3) rfl <| .cons (i := 14) rfl <| .cons (i := 25) rfl <| .cons (i := 41) rfl <| .cons (i := 52) rfl <| .nil) ?_
          refine wc_region ?_
          refine wl_free .none rfl (yf_move rfl) ?_
          refine wl_free .none rfl (yf_buildS [.int .i64 0, .string ⟨#[]⟩, .slice none 0 0, .slice none 0 0, .slice none 0 0] [(0, 1), (1, 1), (2, 1), (3, 1), (4, 1)] rfl (by kernel_rfl) (by kernel_rfl) rfl) ?_
          refine wl_si E (adv s) 6 [] 0 [] x (needP E.tk [59] s1) bp 2 (bp_lt hb) (fun w h1 h2 => simple_any hE hfe 6 [] none 0 [] rfl (by omega) (fun _ => rfl) _ x s1 hx1 ha bp (F0 := fun _ => False) (fun _ h => h.elim) w h1 h2 RdF.nil) .none rfl  (by kernel_rfl) rfl rfl (fun i F hi hF => ?_)
          refine wl_chain0 .none (cf_storeRow 1 rfl rfl rfl rfl rfl (by kernel_rfl)) (fun _ => ?_)
          refine wl_nil ?_
          refine wq_then ?_
          refine wc_ret ?_
          refine wq_block_ret ?_
          refine wq_then_ret ?_
          refine wq_retC rfl rfl 1 rfl Tryz.underlying60 rfl (by kernel_rfl) (fun w hw => ?_)
          first
          | exact ⟨⟨i.A1, none, none, i.c1, 0, 0⟩, rfl, HpG.keep hw, HpG.blkL (j := 2) hw rfl, stsK.lies.mono hF (sim_st (HpG.x hw).1 .nil hi)⟩
          | exact ⟨⟨i.A1, none, none, i.c1, 0, 0⟩, rfl, HpG.keep hw, HpG.blkL (j := 3) hw rfl, stsK.lies.mono hF (sim_st (HpG.x hw).1 .nil hi)⟩
          | exact ⟨⟨i.A1, none, none, i.c1, 0, 0⟩, rfl, HpG.keep hw, HpG.blkL (j := 3) hw rfl, stsK.lies.mono hF3 (sim_st (HpG.x hw).1 .nil hi)⟩
          | exact ⟨⟨i.A1, none, none, i.c1, 0, 0⟩, (by show _ = Ending.returned (.agg (stC 3 [] i.A1 (x.kids ++ [y]).length i.c1 none 0 0 none 0 0).toArray); rw [List.length_append]; rfl), HpG.keep hw, HpG.blkL (j := 3) hw rfl, sim_st (SimK.lies.mono hF3 (HpG.x hw).1) (ExsV.lies.mono hF (HpG.x hw).2.1.2.2) hi⟩
          | exact ⟨⟨some ⟨b105, 0, none⟩, none, none, 1, 0, 0⟩, rfl, HpG.keep hw, HpG.blkL (j := 4) hw rfl, cp11, cp00, cp00, ⟨_, HpG.rdF (j := 0) hw rfl (HpG.fresh (j := 0) (i := 4) hw rfl rfl rfl), (exsK.lies.mono hF (HpG.x hw).1.k).one⟩, ⟨[], RdF.nil, .nil⟩, ⟨[], RdF.nil, .nil⟩⟩
          | exact ⟨⟨some ⟨b46, 0, none⟩, A2, none, 1, cap2, 0⟩, rfl, HpG.keep hw, HpG.blkL (j := 4) hw rfl, cp11, (HpG.x hw).1.1, cp00, ⟨_, HpG.rdF (j := 1) hw rfl (HpG.fresh (j := 1) (i := 4) hw rfl rfl rfl), (exsK.lies.mono hF (HpG.x hw).2.1).one⟩, (blkK.lies.mono hF2 (HpG.x hw).1).2, ⟨[], RdF.nil, .nil⟩⟩
          | exact ⟨⟨some ⟨b30, 0, none⟩, A2, none, 1, cap2, 0⟩, rfl, HpG.keep hw, HpG.blkL (j := 4) hw rfl, cp11, (HpG.x hw).1.1, cp00, ⟨_, HpG.rdF (j := 1) hw rfl (HpG.fresh (j := 1) (i := 4) hw rfl rfl rfl), (exsK.lies.mono hF (HpG.x hw).2.1).one⟩, (blkK.lies.mono hF2 (HpG.x hw).1).2, ⟨[], RdF.nil, .nil⟩⟩
          | exact ⟨⟨some ⟨b30, 0, none⟩, A2, A3, 1, cap2, cap3⟩, rfl, HpG.keep hw, HpG.blkL (j := 4) hw rfl, cp11, (HpG.x hw).2.1.1, (HpG.x hw).1.1, ⟨_, HpG.rdF (j := 1) hw rfl (HpG.fresh (j := 1) (i := 4) hw rfl rfl rfl), (exsK.lies.mono hF (HpG.x hw).2.2.1).one⟩, (blkK.lies.mono hF2 (HpG.x hw).2.1).2, (blkK.lies.mono hF3 (HpG.x hw).1).2⟩
        · skip
          rw [h52] at hr ⊢
          refine wc_seq ?_
          refine wc_weak (.cons (i := 0) rfl <| .cons (i := 2) rfl <| .cons (i := 3) rfl <| .cons (i := 14) rfl <| .cons (i := 25) rfl <| .cons (i := 41) rfl <| .cons (i := 52) rfl <| .nil) ?_
          refine wc_region ?_
          refine wl_free .none rfl (yf_move rfl) ?_
          refine wl_take E hE s hs kOut bp (fun _ h => h) 2 .none rfl  rfl rfl ?_
          refine wl_free .none rfl (yf_assign rfl) ?_
          refine wl_nil ?_
          refine wq_then ?_
          refine wc_cond rfl (fun h58 => ?_) (fun h58 => ?_)
          · skip
            have ha := isP_adv hE.kind hs h58
            rw [h58] at hr ⊢
            obtain ⟨x, s1, hx1, hx2⟩ := andThen_some hr
            cases hx2
            refine wc_seq ?_
            refine wc_weak (.cons (i := 0) rfl <| .cons (i := 2) rfl <| .cons (i := 3) rfl <| .cons (i := 14) rfl <| .cons (i := 25) rfl <| .cons (i := 41) rfl <| .cons (i := 52) rfl <| .cons (i := 58) rfl <| .nil) ?_
            refine wc_region ?_
            refine wl_free .none rfl (yf_move rfl) ?_
            refine wl_free .none rfl (yf_buildS [.int .i64 0, .string ⟨#[]⟩, .slice none 0 0, .slice none 0 0, .slice none 0 0] [(0, 1), (1, 1), (2, 1), (3, 1), (4, 1)] rfl (by kernel_rfl) (by kernel_rfl) rfl) ?_
            refine wl_si E (adv s) 7 [] 0 [] x (needP E.tk [59] s1) bp 2 (bp_lt hb) (fun w h1 h2 => simple_any hE hfe 7 [] none 0 [] rfl (by omega) (fun _ => rfl) _ x s1 hx1 ha bp (F0 := fun _ => False) (fun _ h => h.elim) w h1 h2 RdF.nil) .none rfl  (by kernel_rfl) rfl rfl (fun i F hi hF => ?_)
            refine wl_chain0 .none (cf_storeRow 1 rfl rfl rfl rfl rfl (by kernel_rfl)) (fun _ => ?_)
            refine wl_nil ?_
            refine wq_then ?_
            refine wc_ret ?_
            refine wq_block_ret ?_
            refine wq_then_ret ?_
            refine wq_retC rfl rfl 1 rfl Tryz.underlying60 rfl (by kernel_rfl) (fun w hw => ?_)
            first
            | exact ⟨⟨i.A1, none, none, i.c1, 0, 0⟩, rfl, HpG.keep hw, HpG.blkL (j := 2) hw rfl, stsK.lies.mono hF (sim_st (HpG.x hw).1 .nil hi)⟩
            | exact ⟨⟨i.A1, none, none, i.c1, 0, 0⟩, rfl, HpG.keep hw, HpG.blkL (j := 3) hw rfl, stsK.lies.mono hF (sim_st (HpG.x hw).1 .nil hi)⟩
            | exact ⟨⟨i.A1, none, none, i.c1, 0, 0⟩, rfl, HpG.keep hw, HpG.blkL (j := 3) hw rfl, stsK.lies.mono hF3 (sim_st (HpG.x hw).1 .nil hi)⟩
            | exact ⟨⟨i.A1, none, none, i.c1, 0, 0⟩, (by show _ = Ending.returned (.agg (stC 3 [] i.A1 (x.kids ++ [y]).length i.c1 none 0 0 none 0 0).toArray); rw [List.length_append]; rfl), HpG.keep hw, HpG.blkL (j := 3) hw rfl, sim_st (SimK.lies.mono hF3 (HpG.x hw).1) (ExsV.lies.mono hF (HpG.x hw).2.1.2.2) hi⟩
            | exact ⟨⟨some ⟨b105, 0, none⟩, none, none, 1, 0, 0⟩, rfl, HpG.keep hw, HpG.blkL (j := 4) hw rfl, cp11, cp00, cp00, ⟨_, HpG.rdF (j := 0) hw rfl (HpG.fresh (j := 0) (i := 4) hw rfl rfl rfl), (exsK.lies.mono hF (HpG.x hw).1.k).one⟩, ⟨[], RdF.nil, .nil⟩, ⟨[], RdF.nil, .nil⟩⟩
            | exact ⟨⟨some ⟨b46, 0, none⟩, A2, none, 1, cap2, 0⟩, rfl, HpG.keep hw, HpG.blkL (j := 4) hw rfl, cp11, (HpG.x hw).1.1, cp00, ⟨_, HpG.rdF (j := 1) hw rfl (HpG.fresh (j := 1) (i := 4) hw rfl rfl rfl), (exsK.lies.mono hF (HpG.x hw).2.1).one⟩, (blkK.lies.mono hF2 (HpG.x hw).1).2, ⟨[], RdF.nil, .nil⟩⟩
            | exact ⟨⟨some ⟨b30, 0, none⟩, A2, none, 1, cap2, 0⟩, rfl, HpG.keep hw, HpG.blkL (j := 4) hw rfl, cp11, (HpG.x hw).1.1, cp00, ⟨_, HpG.rdF (j := 1) hw rfl (HpG.fresh (j := 1) (i := 4) hw rfl rfl rfl), (exsK.lies.mono hF (HpG.x hw).2.1).one⟩, (blkK.lies.mono hF2 (HpG.x hw).1).2, ⟨[], RdF.nil, .nil⟩⟩
            | exact ⟨⟨some ⟨b30, 0, none⟩, A2, A3, 1, cap2, cap3⟩, rfl, HpG.keep hw, HpG.blkL (j := 4) hw rfl, cp11, (HpG.x hw).2.1.1, (HpG.x hw).1.1, ⟨_, HpG.rdF (j := 1) hw rfl (HpG.fresh (j := 1) (i := 4) hw rfl rfl rfl), (exsK.lies.mono hF (HpG.x hw).2.2.1).one⟩, (blkK.lies.mono hF2 (HpG.x hw).2.1).2, (blkK.lies.mono hF3 (HpG.x hw).1).2⟩
          · skip
            rw [h58] at hr ⊢
            obtain ⟨x, s1, hx1, hr⟩ := andThen_some hr
            have hs1 := EE_g hE fe _ hs x s1 hx1
            have hk4 := (exF_k (tk := E.tk) fe).bin 0 s x s1 hx1
            refine wc_skip ?_
            refine wq_block ?_
            refine wq_then ?_
            refine wc_seq ?_
            refine wc_weak (.cons (i := 0) rfl <| .cons (i := 2) rfl <| .cons (i := 3) rfl <| .cons (i := 14) rfl <| .cons (i := 25) rfl <| .cons (i := 41) rfl <| .cons (i := 52) rfl <| .cons (i := 58) rfl <| .nil) ?_
            refine wc_region ?_
            refine wl_free .none rfl (yf_move rfl) ?_
            refine wl_exC E s x s1 bp 2 (bp_lt hb) (fun _ h => h) (fun w h1 h2 => expr_any hfe _ x s1 hx1 hs bp w h1 h2) .none rfl  (by kernel_rfl) rfl rfl (fun i F hF hc hkc => ?_)
            obtain ⟨A, cap, kc⟩ := i
            dsimp only at hc hkc ⊢
            refine wl_new .none rfl (nf_alloc (z := .agg #[.int .i64 0, .int .u32 0, .string ⟨#[]⟩, .slice none 0 0]) (cs := [.int .i64 0, .int .u32 0, .string ⟨#[]⟩, .slice none 0 0]) (by kernel_rfl) rfl) (fun b7 => ?_)
            refine wl_chain0 .none (cf_storeRow 0 rfl rfl rfl rfl rfl (by kernel_rfl)) (fun _ => ?_)
            refine wl_nil ?_
            refine wq_then ?_
            refine wc_seq ?_
            refine wc_block ?_
            refine wc_seq ?_
            refine wc_weak (.cons (i := 0) rfl <| .cons (i := 2) rfl <| .cons (i := 3) rfl <| .cons (i := 7) rfl <| .cons (i := 14) rfl <| .cons (i := 25) rfl <| .cons (i := 41) rfl <| .cons (i := 52) rfl <| .cons (i := 58) rfl <| .nil) ?_
            refine wc_region ?_
            refine wl_free .none rfl (yf_fieldAddr (off := 0) (sz := 0) rfl Tryz.underlying92 (by kernel_rfl) rfl) ?_
            refine wl_free .none rfl (yf_loadL 1 rfl rfl rfl Tryz.underlying3 rfl) ?_
            refine wl_free .none rfl (yf_eql rfl rfl) ?_
            refine wl_free .none rfl (yf_move rfl) ?_
            refine wl_split 70 rfl (fun h214 => ?_) (fun h214 => ?_)
            · replace h214 := eq_of_beq h214
              refine wl_free (.some rfl rfl) rfl (yf_fieldAddr (off := 0) (sz := 0) rfl Tryz.underlying57 (by kernel_rfl) rfl) ?_
              refine wl_free (.some rfl rfl) rfl (yf_loadL 0 rfl rfl rfl Tryz.underlying3 rfl) ?_
              refine wl_free (.some rfl rfl) rfl (yf_eql rfl rfl) ?_
              refine wl_free .none rfl (yf_pickT rfl rfl) ?_
              refine wl_free .none rfl (yf_move rfl) ?_
              refine wl_split 75 rfl (fun h219 => ?_) (fun h219 => ?_)
              · replace h219 := eq_of_beq h219
                refine wl_free (.some rfl rfl) rfl (yf_move rfl) ?_
                refine wl_take E hE s1 hs1.2.1 [61] bp (fun _ h => h.2) 3 (.some rfl rfl) rfl  rfl rfl ?_
                refine wl_free .none rfl (yf_pickT rfl rfl) ?_
                refine wl_free .none rfl (yf_assign rfl) ?_
                refine wl_nil ?_
                refine wq_then ?_
                refine wc_cond rfl (fun h66 => ?_) (fun h66 => ?_)
                · skip
                  rw [if_pos ⟨by omega, by omega, h66⟩] at hr
                  have ha := isP_adv hE.kind hs1.2.1 h66
                  obtain ⟨y, s2, hy1, hy2⟩ := andThen_some hr
                  cases hy2
                  rw [h66]
                  refine wc_seq ?_
                  refine wc_weak (.cons (i := 0) rfl <| .cons (i := 2) rfl <| .cons (i := 3) rfl <| .cons (i := 7) rfl <| .cons (i := 14) rfl <| .cons (i := 25) rfl <| .cons (i := 41) rfl <| .cons (i := 52) rfl <| .cons (i := 58) rfl <| .cons (i := 66) rfl <| .nil) ?_
                  refine wc_region ?_
                  refine wl_free .none rfl (yf_move rfl) ?_
                  refine wl_free .none rfl (yf_fieldAddr (off := 2) (sz := 0) rfl Tryz.underlying57 (by kernel_rfl) rfl) ?_
                  refine wl_free .none rfl (yf_loadL 0 rfl rfl rfl Tryz.underlying9 rfl) ?_
                  refine wl_free .none rfl (yf_buildS [.int .i64 0, .string ⟨#[]⟩, .slice none 0 0, .slice none 0 0, .slice none 0 0] [(0, 1), (1, 1), (2, 1), (3, 1), (4, 1)] rfl (by kernel_rfl) (by kernel_rfl) rfl) ?_
                  refine wl_si E (adv s1) 2 x.name 0 [] y (needP E.tk [59] s2) bp 3 (bp_lt hb) (fun w h1 h2 => simple_any hE hfe 2 x.name none 0 [] rfl (by omega) (fun _ => rfl) _ y s2 hy1 ha bp (F0 := fun _ => False) (fun _ h => h.elim) w h1 h2.2 RdF.nil) .none rfl  (by kernel_rfl) rfl rfl (fun i F3 hi hF3 => ?_)
                  refine wl_chain0 .none (cf_storeRow 2 rfl rfl rfl rfl rfl (by kernel_rfl)) (fun _ => ?_)
                  refine wl_nil ?_
                  refine wq_then ?_
                  refine wc_ret ?_
                  refine wq_block_ret ?_
                  refine wq_then_ret ?_
                  refine wq_retC rfl rfl 2 rfl Tryz.underlying60 rfl (by kernel_rfl) (fun w hw => ?_)
                  first
                  | exact ⟨⟨i.A1, none, none, i.c1, 0, 0⟩, rfl, HpG.keep hw, HpG.blkL (j := 2) hw rfl, stsK.lies.mono hF (sim_st (HpG.x hw).1 .nil hi)⟩
                  | exact ⟨⟨i.A1, none, none, i.c1, 0, 0⟩, rfl, HpG.keep hw, HpG.blkL (j := 3) hw rfl, stsK.lies.mono hF (sim_st (HpG.x hw).1 .nil hi)⟩
                  | exact ⟨⟨i.A1, none, none, i.c1, 0, 0⟩, rfl, HpG.keep hw, HpG.blkL (j := 3) hw rfl, stsK.lies.mono hF3 (sim_st (HpG.x hw).1 .nil hi)⟩
                  | exact ⟨⟨i.A1, none, none, i.c1, 0, 0⟩, (by show _ = Ending.returned (.agg (stC 3 [] i.A1 (x.kids ++ [y]).length i.c1 none 0 0 none 0 0).toArray); rw [List.length_append]; rfl), HpG.keep hw, HpG.blkL (j := 3) hw rfl, sim_st (SimK.lies.mono hF3 (HpG.x hw).1) (ExsV.lies.mono hF (HpG.x hw).2.1.2.2) hi⟩
                  | exact ⟨⟨some ⟨b105, 0, none⟩, none, none, 1, 0, 0⟩, rfl, HpG.keep hw, HpG.blkL (j := 4) hw rfl, cp11, cp00, cp00, ⟨_, HpG.rdF (j := 0) hw rfl (HpG.fresh (j := 0) (i := 4) hw rfl rfl rfl), (exsK.lies.mono hF (HpG.x hw).1.k).one⟩, ⟨[], RdF.nil, .nil⟩, ⟨[], RdF.nil, .nil⟩⟩
                  | exact ⟨⟨some ⟨b46, 0, none⟩, A2, none, 1, cap2, 0⟩, rfl, HpG.keep hw, HpG.blkL (j := 4) hw rfl, cp11, (HpG.x hw).1.1, cp00, ⟨_, HpG.rdF (j := 1) hw rfl (HpG.fresh (j := 1) (i := 4) hw rfl rfl rfl), (exsK.lies.mono hF (HpG.x hw).2.1).one⟩, (blkK.lies.mono hF2 (HpG.x hw).1).2, ⟨[], RdF.nil, .nil⟩⟩
                  | exact ⟨⟨some ⟨b30, 0, none⟩, A2, none, 1, cap2, 0⟩, rfl, HpG.keep hw, HpG.blkL (j := 4) hw rfl, cp11, (HpG.x hw).1.1, cp00, ⟨_, HpG.rdF (j := 1) hw rfl (HpG.fresh (j := 1) (i := 4) hw rfl rfl rfl), (exsK.lies.mono hF (HpG.x hw).2.1).one⟩, (blkK.lies.mono hF2 (HpG.x hw).1).2, ⟨[], RdF.nil, .nil⟩⟩
                  | exact ⟨⟨some ⟨b30, 0, none⟩, A2, A3, 1, cap2, cap3⟩, rfl, HpG.keep hw, HpG.blkL (j := 4) hw rfl, cp11, (HpG.x hw).2.1.1, (HpG.x hw).1.1, ⟨_, HpG.rdF (j := 1) hw rfl (HpG.fresh (j := 1) (i := 4) hw rfl rfl rfl), (exsK.lies.mono hF (HpG.x hw).2.2.1).one⟩, (blkK.lies.mono hF2 (HpG.x hw).2.1).2, (blkK.lies.mono hF3 (HpG.x hw).1).2⟩
                · skip
                  rw [if_neg (fun hh => by rw [h66] at hh; cases hh.2.2)] at hr
                  rw [h66]
                  refine wc_seq ?_
                  refine wc_weak (.cons (i := 0) rfl <| .cons (i := 2) rfl <| .cons (i := 3) rfl <| .cons (i := 7) rfl <| .cons (i := 14) rfl <| .cons (i := 25) rfl <| .cons (i := 41) rfl <| .cons (i := 52) rfl <| .cons (i := 58) rfl <| .cons (i := 66) rfl <| .nil) ?_
                  refine wc_region ?_
                  refine wl_free .none rfl (yf_fieldAddr (off := 2) (sz := 0) rfl Tryz.underlying92 (by kernel_rfl) rfl) ?_
                  refine wl_free .none rfl (yf_loadL 1 rfl rfl rfl Tryz.underlying9 rfl) ?_
                  refine wl_free .none rfl (yf_strs_eql rfl rfl Tryz.underlying9) ?_
                  refine wl_free .none rfl (yf_move rfl) ?_
                  refine wl_split 88 rfl (fun h234 => ?_) (fun h234 => ?_)
                  · skip
                    refine wl_free (.some rfl rfl) rfl (yf_fieldAddr (off := 0) (sz := 0) rfl Tryz.underlying57 (by kernel_rfl) rfl) ?_
                    refine wl_free (.some rfl rfl) rfl (yf_loadL 0 rfl rfl rfl Tryz.underlying3 rfl) ?_
                    refine wl_free (.some rfl rfl) rfl (yf_eql rfl rfl) ?_
                    refine wl_free .none rfl (yf_pickT rfl rfl) ?_
                    refine wl_free .none rfl (yf_move rfl) ?_
                    refine wl_split 93 rfl (fun h239 => ?_) (fun h239 => ?_)
                    · replace h239 := eq_of_beq h239
                      refine wl_free (.some rfl rfl) rfl (yf_move rfl) ?_
                      refine wl_take E hE s1 hs1.2.1 [61] bp (fun _ h => h.2) 3 (.some rfl rfl) rfl  rfl rfl ?_
                      refine wl_free .none rfl (yf_pickT rfl rfl) ?_
                      refine wl_free .none rfl (yf_assign rfl) ?_
                      refine wl_nil ?_
                      refine wq_then ?_
                      refine wc_cond rfl (fun h84 => ?_) (fun h84 => ?_)
                      · skip
                        rw [if_pos ⟨of_decide_eq_true h234, by omega, h84⟩] at hr
                        obtain rfl : cap = x.kids.length := hc (by omega)
                        have h1k : x.kids.length = 1 := hk4 (by omega)
                        have ha := isP_adv hE.kind hs1.2.1 h84
                        obtain ⟨y, s2, hy1, hy2⟩ := andThen_some hr
                        cases hy2
                        rw [h84]
                        refine wc_seq ?_
                        refine wc_weak (.cons (i := 0) rfl <| .cons (i := 2) rfl <| .cons (i := 3) rfl <| .cons (i := 7) rfl <| .cons (i := 14) rfl <| .cons (i := 25) rfl <| .cons (i := 41) rfl <| .cons (i := 52) rfl <| .cons (i := 58) rfl <| .cons (i := 66) rfl <| .cons (i := 84) rfl <| .nil) ?_
                        refine wc_region ?_
                        refine wl_free .none rfl (yf_move rfl) ?_
                        refine wl_free .none rfl (yf_fieldAddr (off := 3) (sz := 0) rfl Tryz.underlying57 (by kernel_rfl) rfl) ?_
                        refine wl_free .none rfl (yf_loadL 0 rfl rfl rfl Tryz.underlying55 rfl) ?_
                        refine wl_free .none rfl (yf_buildS [.int .i64 0, .string ⟨#[]⟩, .slice none 0 0, .slice none 0 0, .slice none 0 0] [(0, 1), (1, 1), (2, 1), (3, 1), (4, 1)] rfl (by kernel_rfl) (by kernel_rfl) rfl) ?_
                        refine wl_si E (adv s1) 3 [] x.kids.length kc y (needP E.tk [59] s2) bp 3 (bp_lt hb) (fun w h1 h2 => simple_any hE hfe 3 [] A x.kids.length kc (by omega) (by omega) (fun h => by omega) _ y s2 hy1 ha bp (F0 := F) (fun k hk => by have := hF k hk; omega) w h1 h2.2 h2.1.2.1) .none rfl  (by kernel_rfl) rfl rfl (fun i F3 hi hF3 => ?_)
                        refine wl_chain0 .none (cf_storeRow 2 rfl rfl rfl rfl rfl (by kernel_rfl)) (fun _ => ?_)
                        refine wl_nil ?_
                        refine wq_then ?_
                        refine wc_ret ?_
                        refine wq_block_ret ?_
                        refine wq_then_ret ?_
                        refine wq_retC rfl rfl 2 rfl Tryz.underlying60 rfl (by kernel_rfl) (fun w hw => ?_)
                        first
                        | exact ⟨⟨i.A1, none, none, i.c1, 0, 0⟩, rfl, HpG.keep hw, HpG.blkL (j := 2) hw rfl, stsK.lies.mono hF (sim_st (HpG.x hw).1 .nil hi)⟩
                        | exact ⟨⟨i.A1, none, none, i.c1, 0, 0⟩, rfl, HpG.keep hw, HpG.blkL (j := 3) hw rfl, stsK.lies.mono hF (sim_st (HpG.x hw).1 .nil hi)⟩
                        | exact ⟨⟨i.A1, none, none, i.c1, 0, 0⟩, rfl, HpG.keep hw, HpG.blkL (j := 3) hw rfl, stsK.lies.mono hF3 (sim_st (HpG.x hw).1 .nil hi)⟩
                        | exact ⟨⟨i.A1, none, none, i.c1, 0, 0⟩, (by show _ = Ending.returned (.agg (stC 3 [] i.A1 (x.kids ++ [y]).length i.c1 none 0 0 none 0 0).toArray); rw [List.length_append]; rfl), HpG.keep hw, HpG.blkL (j := 3) hw rfl, sim_st (SimK.lies.mono hF3 (HpG.x hw).1) (ExsV.lies.mono hF (HpG.x hw).2.1.2.2) hi⟩
                        | exact ⟨⟨some ⟨b105, 0, none⟩, none, none, 1, 0, 0⟩, rfl, HpG.keep hw, HpG.blkL (j := 4) hw rfl, cp11, cp00, cp00, ⟨_, HpG.rdF (j := 0) hw rfl (HpG.fresh (j := 0) (i := 4) hw rfl rfl rfl), (exsK.lies.mono hF (HpG.x hw).1.k).one⟩, ⟨[], RdF.nil, .nil⟩, ⟨[], RdF.nil, .nil⟩⟩
                        | exact ⟨⟨some ⟨b46, 0, none⟩, A2, none, 1, cap2, 0⟩, rfl, HpG.keep hw, HpG.blkL (j := 4) hw rfl, cp11, (HpG.x hw).1.1, cp00, ⟨_, HpG.rdF (j := 1) hw rfl (HpG.fresh (j := 1) (i := 4) hw rfl rfl rfl), (exsK.lies.mono hF (HpG.x hw).2.1).one⟩, (blkK.lies.mono hF2 (HpG.x hw).1).2, ⟨[], RdF.nil, .nil⟩⟩
                        | exact ⟨⟨some ⟨b30, 0, none⟩, A2, none, 1, cap2, 0⟩, rfl, HpG.keep hw, HpG.blkL (j := 4) hw rfl, cp11, (HpG.x hw).1.1, cp00, ⟨_, HpG.rdF (j := 1) hw rfl (HpG.fresh (j := 1) (i := 4) hw rfl rfl rfl), (exsK.lies.mono hF (HpG.x hw).2.1).one⟩, (blkK.lies.mono hF2 (HpG.x hw).1).2, ⟨[], RdF.nil, .nil⟩⟩
                        | exact ⟨⟨some ⟨b30, 0, none⟩, A2, A3, 1, cap2, cap3⟩, rfl, HpG.keep hw, HpG.blkL (j := 4) hw rfl, cp11, (HpG.x hw).2.1.1, (HpG.x hw).1.1, ⟨_, HpG.rdF (j := 1) hw rfl (HpG.fresh (j := 1) (i := 4) hw rfl rfl rfl), (exsK.lies.mono hF (HpG.x hw).2.2.1).one⟩, (blkK.lies.mono hF2 (HpG.x hw).2.1).2, (blkK.lies.mono hF3 (HpG.x hw).1).2⟩
                      · skip
                        rw [if_neg (fun hh => by rw [h84] at hh; cases hh.2.2)] at hr
                        cases hr
                        rw [h84]
                        refine wc_skip ?_
                        refine wq_block ?_
                        refine wq_then ?_
                        refine wc_seq ?_
                        refine wc_weak (.cons (i := 0) rfl <| .cons (i := 2) rfl <| .cons (i := 3) rfl <| .cons (i := 7) rfl <| .cons (i := 14) rfl <| .cons (i := 25) rfl <| .cons (i := 41) rfl <| .cons (i := 52) rfl <| .cons (i := 58) rfl <| .cons (i := 66) rfl <| .cons (i := 84) rfl <| .nil) ?_
                        refine wc_region ?_
                        refine wl_free .none rfl (yf_move rfl) ?_
                        refine wl_need E hE s1 hs1.2.1 [59] bp (fun _ h => h.2) 3 .none rfl  rfl rfl ?_
                        refine wl_nil ?_
                        refine wq_then ?_
                        refine wc_seq ?_
                        refine wc_weak (.cons (i := 0) rfl <| .cons (i := 2) rfl <| .cons (i := 3) rfl <| .cons (i := 7) rfl <| .cons (i := 14) rfl <| .cons (i := 25) rfl <| .cons (i := 41) rfl <| .cons (i := 52) rfl <| .cons (i := 58) rfl <| .cons (i := 66) rfl <| .cons (i := 84) rfl <| .nil) ?_
                        refine wc_region ?_
                        refine wl_free .none rfl (yf_loadAllL 0 rfl rfl Tryz.underlying57 rfl (by kernel_rfl)) ?_
                        refine wl_new .none rfl (nf_bs1 (z := .agg #[.int .i64 0, .int .u32 0, .string ⟨#[]⟩, .slice none 0 0]) rfl rfl Tryz.underlying55 (by kernel_rfl) (by kernel_rfl) rfl rfl) (fun b105 => ?_)
                        refine wl_free .none rfl (yf_buildS [.int .i64 0, .string ⟨#[]⟩, .slice none 0 0, .slice none 0 0, .slice none 0 0] [(0, 1), (1, 1), (2, 1), (3, 1), (4, 1)] rfl (by kernel_rfl) (by kernel_rfl) rfl) ?_
                        refine wl_chain0 .none (cf_storeRow 3 rfl rfl rfl rfl rfl (by kernel_rfl)) (fun _ => ?_)
                        refine wl_nil ?_
                        refine wq_then ?_
                        refine wc_ret ?_
                        refine wq_retC rfl rfl 3 rfl Tryz.underlying60 rfl (by kernel_rfl) (fun w hw => ?_)
                        first
                        | exact ⟨⟨i.A1, none, none, i.c1, 0, 0⟩, rfl, HpG.keep hw, HpG.blkL (j := 2) hw rfl, stsK.lies.mono hF (sim_st (HpG.x hw).1 .nil hi)⟩
                        | exact ⟨⟨i.A1, none, none, i.c1, 0, 0⟩, rfl, HpG.keep hw, HpG.blkL (j := 3) hw rfl, stsK.lies.mono hF (sim_st (HpG.x hw).1 .nil hi)⟩
                        | exact ⟨⟨i.A1, none, none, i.c1, 0, 0⟩, rfl, HpG.keep hw, HpG.blkL (j := 3) hw rfl, stsK.lies.mono hF3 (sim_st (HpG.x hw).1 .nil hi)⟩
                        | exact ⟨⟨i.A1, none, none, i.c1, 0, 0⟩, (by show _ = Ending.returned (.agg (stC 3 [] i.A1 (x.kids ++ [y]).length i.c1 none 0 0 none 0 0).toArray); rw [List.length_append]; rfl), HpG.keep hw, HpG.blkL (j := 3) hw rfl, sim_st (SimK.lies.mono hF3 (HpG.x hw).1) (ExsV.lies.mono hF (HpG.x hw).2.1.2.2) hi⟩
                        | exact ⟨⟨some ⟨b105, 0, none⟩, none, none, 1, 0, 0⟩, rfl, HpG.keep hw, HpG.blkL (j := 4) hw rfl, cp11, cp00, cp00, ⟨_, HpG.rdF (j := 0) hw rfl (HpG.fresh (j := 0) (i := 4) hw rfl rfl rfl), (exsK.lies.mono hF (HpG.x hw).1.k).one⟩, ⟨[], RdF.nil, .nil⟩, ⟨[], RdF.nil, .nil⟩⟩
                        | exact ⟨⟨some ⟨b46, 0, none⟩, A2, none, 1, cap2, 0⟩, rfl, HpG.keep hw, HpG.blkL (j := 4) hw rfl, cp11, (HpG.x hw).1.1, cp00, ⟨_, HpG.rdF (j := 1) hw rfl (HpG.fresh (j := 1) (i := 4) hw rfl rfl rfl), (exsK.lies.mono hF (HpG.x hw).2.1).one⟩, (blkK.lies.mono hF2 (HpG.x hw).1).2, ⟨[], RdF.nil, .nil⟩⟩
                        | exact ⟨⟨some ⟨b30, 0, none⟩, A2, none, 1, cap2, 0⟩, rfl, HpG.keep hw, HpG.blkL (j := 4) hw rfl, cp11, (HpG.x hw).1.1, cp00, ⟨_, HpG.rdF (j := 1) hw rfl (HpG.fresh (j := 1) (i := 4) hw rfl rfl rfl), (exsK.lies.mono hF (HpG.x hw).2.1).one⟩, (blkK.lies.mono hF2 (HpG.x hw).1).2, ⟨[], RdF.nil, .nil⟩⟩
                        | exact ⟨⟨some ⟨b30, 0, none⟩, A2, A3, 1, cap2, cap3⟩, rfl, HpG.keep hw, HpG.blkL (j := 4) hw rfl, cp11, (HpG.x hw).2.1.1, (HpG.x hw).1.1, ⟨_, HpG.rdF (j := 1) hw rfl (HpG.fresh (j := 1) (i := 4) hw rfl rfl rfl), (exsK.lies.mono hF (HpG.x hw).2.2.1).one⟩, (blkK.lies.mono hF2 (HpG.x hw).2.1).2, (blkK.lies.mono hF3 (HpG.x hw).1).2⟩
                    · replace h239 := beq_no h239
                      rw [if_neg (fun hh => by omega)] at hr
                      cases hr
                      refine wl_pass (.some rfl rfl rfl) rfl ?_
                      refine wl_pass (.some rfl rfl rfl) rfl ?_
                      refine wl_free .none rfl (yf_pickF rfl rfl) ?_
                      refine wl_free .none rfl (yf_assign rfl) ?_
                      refine wl_nil ?_
                      refine wq_then ?_
                      refine wc_false rfl ?_
                      refine wc_skip ?_
                      refine wq_block ?_
                      refine wq_then ?_
                      refine wc_seq ?_
                      refine wc_weak (.cons (i := 0) rfl <| .cons (i := 2) rfl <| .cons (i := 3) rfl <| .cons (i := 7) rfl <| .cons (i := 14) rfl <| .cons (i := 25) rfl <| .cons (i := 41) rfl <| .cons (i := 52) rfl <| .cons (i := 58) rfl <| .cons (i := 66) rfl <| .cons (i := 84) rfl <| .nil) ?_
                      refine wc_region ?_
                      refine wl_free .none rfl (yf_move rfl) ?_
                      refine wl_need E hE s1 hs1.2.1 [59] bp (fun _ h => h.2) 3 .none rfl  rfl rfl ?_
                      refine wl_nil ?_
                      refine wq_then ?_
                      refine wc_seq ?_
                      refine wc_weak (.cons (i := 0) rfl <| .cons (i := 2) rfl <| .cons (i := 3) rfl <| .cons (i := 7) rfl <| .cons (i := 14) rfl <| .cons (i := 25) rfl <| .cons (i := 41) rfl <| .cons (i := 52) rfl <| .cons (i := 58) rfl <| .cons (i := 66) rfl <| .cons (i := 84) rfl <| .nil) ?_
                      refine wc_region ?_
                      refine wl_free .none rfl (yf_loadAllL 0 rfl rfl Tryz.underlying57 rfl (by kernel_rfl)) ?_
                      refine wl_new .none rfl (nf_bs1 (z := .agg #[.int .i64 0, .int .u32 0, .string ⟨#[]⟩, .slice none 0 0]) rfl rfl Tryz.underlying55 (by kernel_rfl) (by kernel_rfl) rfl rfl) (fun b105 => ?_)
                      refine wl_free .none rfl (yf_buildS [.int .i64 0, .string ⟨#[]⟩, .slice none 0 0, .slice none 0 0, .slice none 0 0] [(0, 1), (1, 1), (2, 1), (3, 1), (4, 1)] rfl (by kernel_rfl) (by kernel_rfl) rfl) ?_
                      refine wl_chain0 .none (cf_storeRow 3 rfl rfl rfl rfl rfl (by kernel_rfl)) (fun _ => ?_)
                      refine wl_nil ?_
                      refine wq_then ?_
                      refine wc_ret ?_
                      refine wq_retC rfl rfl 3 rfl Tryz.underlying60 rfl (by kernel_rfl) (fun w hw => ?_)
                      first
                      | exact ⟨⟨i.A1, none, none, i.c1, 0, 0⟩, rfl, HpG.keep hw, HpG.blkL (j := 2) hw rfl, stsK.lies.mono hF (sim_st (HpG.x hw).1 .nil hi)⟩
                      | exact ⟨⟨i.A1, none, none, i.c1, 0, 0⟩, rfl, HpG.keep hw, HpG.blkL (j := 3) hw rfl, stsK.lies.mono hF (sim_st (HpG.x hw).1 .nil hi)⟩
                      | exact ⟨⟨i.A1, none, none, i.c1, 0, 0⟩, rfl, HpG.keep hw, HpG.blkL (j := 3) hw rfl, stsK.lies.mono hF3 (sim_st (HpG.x hw).1 .nil hi)⟩
                      | exact ⟨⟨i.A1, none, none, i.c1, 0, 0⟩, (by show _ = Ending.returned (.agg (stC 3 [] i.A1 (x.kids ++ [y]).length i.c1 none 0 0 none 0 0).toArray); rw [List.length_append]; rfl), HpG.keep hw, HpG.blkL (j := 3) hw rfl, sim_st (SimK.lies.mono hF3 (HpG.x hw).1) (ExsV.lies.mono hF (HpG.x hw).2.1.2.2) hi⟩
                      | exact ⟨⟨some ⟨b105, 0, none⟩, none, none, 1, 0, 0⟩, rfl, HpG.keep hw, HpG.blkL (j := 4) hw rfl, cp11, cp00, cp00, ⟨_, HpG.rdF (j := 0) hw rfl (HpG.fresh (j := 0) (i := 4) hw rfl rfl rfl), (exsK.lies.mono hF (HpG.x hw).1.k).one⟩, ⟨[], RdF.nil, .nil⟩, ⟨[], RdF.nil, .nil⟩⟩
                      | exact ⟨⟨some ⟨b46, 0, none⟩, A2, none, 1, cap2, 0⟩, rfl, HpG.keep hw, HpG.blkL (j := 4) hw rfl, cp11, (HpG.x hw).1.1, cp00, ⟨_, HpG.rdF (j := 1) hw rfl (HpG.fresh (j := 1) (i := 4) hw rfl rfl rfl), (exsK.lies.mono hF (HpG.x hw).2.1).one⟩, (blkK.lies.mono hF2 (HpG.x hw).1).2, ⟨[], RdF.nil, .nil⟩⟩
                      | exact ⟨⟨some ⟨b30, 0, none⟩, A2, none, 1, cap2, 0⟩, rfl, HpG.keep hw, HpG.blkL (j := 4) hw rfl, cp11, (HpG.x hw).1.1, cp00, ⟨_, HpG.rdF (j := 1) hw rfl (HpG.fresh (j := 1) (i := 4) hw rfl rfl rfl), (exsK.lies.mono hF (HpG.x hw).2.1).one⟩, (blkK.lies.mono hF2 (HpG.x hw).1).2, ⟨[], RdF.nil, .nil⟩⟩
                      | exact ⟨⟨some ⟨b30, 0, none⟩, A2, A3, 1, cap2, cap3⟩, rfl, HpG.keep hw, HpG.blkL (j := 4) hw rfl, cp11, (HpG.x hw).2.1.1, (HpG.x hw).1.1, ⟨_, HpG.rdF (j := 1) hw rfl (HpG.fresh (j := 1) (i := 4) hw rfl rfl rfl), (exsK.lies.mono hF (HpG.x hw).2.2.1).one⟩, (blkK.lies.mono hF2 (HpG.x hw).2.1).2, (blkK.lies.mono hF3 (HpG.x hw).1).2⟩
                  · skip
                    rw [if_neg (fun hh => of_decide_eq_false h234 hh.1)] at hr
                    cases hr
                    refine wl_pass (.some rfl rfl rfl) rfl ?_
                    refine wl_pass (.some rfl rfl rfl) rfl ?_
                    refine wl_pass (.some rfl rfl rfl) rfl ?_
                    refine wl_free .none rfl (yf_pickF rfl rfl) ?_
                    refine wl_free .none rfl (yf_move rfl) ?_
                    refine wl_pass (.some rfl rfl rfl) rfl ?_
                    refine wl_pass (.some rfl rfl rfl) rfl ?_
                    refine wl_free .none rfl (yf_pickF rfl rfl) ?_
                    refine wl_free .none rfl (yf_assign rfl) ?_
                    refine wl_nil ?_
                    refine wq_then ?_
                    refine wc_false rfl ?_
                    refine wc_skip ?_
                    refine wq_block ?_
                    refine wq_then ?_
                    refine wc_seq ?_
                    refine wc_weak (.cons (i := 0) rfl <| .cons (i := 2) rfl <| .cons (i := 3) rfl <| .cons (i := 7) rfl <| .cons (i := 14) rfl <| .cons (i := 25) rfl <| .cons (i := 41) rfl <| .cons (i := 52) rfl <| .cons (i := 58) rfl <| .cons (i := 66) rfl <| .cons (i := 84) rfl <| .nil) ?_
                    refine wc_region ?_
                    refine wl_free .none rfl (yf_move rfl) ?_
                    refine wl_need E hE s1 hs1.2.1 [59] bp (fun _ h => h.2) 3 .none rfl  rfl rfl ?_
                    refine wl_nil ?_
                    refine wq_then ?_
                    refine wc_seq ?_
                    refine wc_weak (.cons (i := 0) rfl <| .cons (i := 2) rfl <| .cons (i := 3) rfl <| .cons (i := 7) rfl <| .cons (i := 14) rfl <| .cons (i := 25) rfl <| .cons (i := 41) rfl <| .cons (i := 52) rfl <| .cons (i := 58) rfl <| .cons (i := 66) rfl <| .cons (i := 84) rfl <| .nil) ?_
                    refine wc_region ?_
                    refine wl_free .none rfl (yf_loadAllL 0 rfl rfl Tryz.underlying57 rfl (by kernel_rfl)) ?_
                    refine wl_new .none rfl (nf_bs1 (z := .agg #[.int .i64 0, .int .u32 0, .string ⟨#[]⟩, .slice none 0 0]) rfl rfl Tryz.underlying55 (by kernel_rfl) (by kernel_rfl) rfl rfl) (fun b105 => ?_)
                    refine wl_free .none rfl (yf_buildS [.int .i64 0, .string ⟨#[]⟩, .slice none 0 0, .slice none 0 0, .slice none 0 0] [(0, 1), (1, 1), (2, 1), (3, 1), (4, 1)] rfl (by kernel_rfl) (by kernel_rfl) rfl) ?_
                    refine wl_chain0 .none (cf_storeRow 3 rfl rfl rfl rfl rfl (by kernel_rfl)) (fun _ => ?_)
                    refine wl_nil ?_
                    refine wq_then ?_
                    refine wc_ret ?_
                    refine wq_retC rfl rfl 3 rfl Tryz.underlying60 rfl (by kernel_rfl) (fun w hw => ?_)
                    first
                    | exact ⟨⟨i.A1, none, none, i.c1, 0, 0⟩, rfl, HpG.keep hw, HpG.blkL (j := 2) hw rfl, stsK.lies.mono hF (sim_st (HpG.x hw).1 .nil hi)⟩
                    | exact ⟨⟨i.A1, none, none, i.c1, 0, 0⟩, rfl, HpG.keep hw, HpG.blkL (j := 3) hw rfl, stsK.lies.mono hF (sim_st (HpG.x hw).1 .nil hi)⟩
                    | exact ⟨⟨i.A1, none, none, i.c1, 0, 0⟩, rfl, HpG.keep hw, HpG.blkL (j := 3) hw rfl, stsK.lies.mono hF3 (sim_st (HpG.x hw).1 .nil hi)⟩
                    | exact ⟨⟨i.A1, none, none, i.c1, 0, 0⟩, (by show _ = Ending.returned (.agg (stC 3 [] i.A1 (x.kids ++ [y]).length i.c1 none 0 0 none 0 0).toArray); rw [List.length_append]; rfl), HpG.keep hw, HpG.blkL (j := 3) hw rfl, sim_st (SimK.lies.mono hF3 (HpG.x hw).1) (ExsV.lies.mono hF (HpG.x hw).2.1.2.2) hi⟩
                    | exact ⟨⟨some ⟨b105, 0, none⟩, none, none, 1, 0, 0⟩, rfl, HpG.keep hw, HpG.blkL (j := 4) hw rfl, cp11, cp00, cp00, ⟨_, HpG.rdF (j := 0) hw rfl (HpG.fresh (j := 0) (i := 4) hw rfl rfl rfl), (exsK.lies.mono hF (HpG.x hw).1.k).one⟩, ⟨[], RdF.nil, .nil⟩, ⟨[], RdF.nil, .nil⟩⟩
                    | exact ⟨⟨some ⟨b46, 0, none⟩, A2, none, 1, cap2, 0⟩, rfl, HpG.keep hw, HpG.blkL (j := 4) hw rfl, cp11, (HpG.x hw).1.1, cp00, ⟨_, HpG.rdF (j := 1) hw rfl (HpG.fresh (j := 1) (i := 4) hw rfl rfl rfl), (exsK.lies.mono hF (HpG.x hw).2.1).one⟩, (blkK.lies.mono hF2 (HpG.x hw).1).2, ⟨[], RdF.nil, .nil⟩⟩
                    | exact ⟨⟨some ⟨b30, 0, none⟩, A2, none, 1, cap2, 0⟩, rfl, HpG.keep hw, HpG.blkL (j := 4) hw rfl, cp11, (HpG.x hw).1.1, cp00, ⟨_, HpG.rdF (j := 1) hw rfl (HpG.fresh (j := 1) (i := 4) hw rfl rfl rfl), (exsK.lies.mono hF (HpG.x hw).2.1).one⟩, (blkK.lies.mono hF2 (HpG.x hw).1).2, ⟨[], RdF.nil, .nil⟩⟩
                    | exact ⟨⟨some ⟨b30, 0, none⟩, A2, A3, 1, cap2, cap3⟩, rfl, HpG.keep hw, HpG.blkL (j := 4) hw rfl, cp11, (HpG.x hw).2.1.1, (HpG.x hw).1.1, ⟨_, HpG.rdF (j := 1) hw rfl (HpG.fresh (j := 1) (i := 4) hw rfl rfl rfl), (exsK.lies.mono hF (HpG.x hw).2.2.1).one⟩, (blkK.lies.mono hF2 (HpG.x hw).2.1).2, (blkK.lies.mono hF3 (HpG.x hw).1).2⟩
              · replace h219 := beq_no h219
                rw [if_neg (fun hh => by omega)] at hr
                refine wl_pass (.some rfl rfl rfl) rfl ?_
                refine wl_pass (.some rfl rfl rfl) rfl ?_
                refine wl_free .none rfl (yf_pickF rfl rfl) ?_
                refine wl_free .none rfl (yf_assign rfl) ?_
                refine wl_nil ?_
                refine wq_then ?_
                refine wc_false rfl ?_
                refine wc_seq ?_
                refine wc_weak (.cons (i := 0) rfl <| .cons (i := 2) rfl <| .cons (i := 3) rfl <| .cons (i := 7) rfl <| .cons (i := 14) rfl <| .cons (i := 25) rfl <| .cons (i := 41) rfl <| .cons (i := 52) rfl <| .cons (i := 58) rfl <| .cons (i := 66) rfl <| .nil) ?_
                refine wc_region ?_
                refine wl_free .none rfl (yf_fieldAddr (off := 2) (sz := 0) rfl Tryz.underlying92 (by kernel_rfl) rfl) ?_
                refine wl_free .none rfl (yf_loadL 1 rfl rfl rfl Tryz.underlying9 rfl) ?_
                refine wl_free .none rfl (yf_strs_eql rfl rfl Tryz.underlying9) ?_
                refine wl_free .none rfl (yf_move rfl) ?_
                refine wl_split 88 rfl (fun h234 => ?_) (fun h234 => ?_)
                · skip
                  refine wl_free (.some rfl rfl) rfl (yf_fieldAddr (off := 0) (sz := 0) rfl Tryz.underlying57 (by kernel_rfl) rfl) ?_
                  refine wl_free (.some rfl rfl) rfl (yf_loadL 0 rfl rfl rfl Tryz.underlying3 rfl) ?_
                  refine wl_free (.some rfl rfl) rfl (yf_eql rfl rfl) ?_
                  refine wl_free .none rfl (yf_pickT rfl rfl) ?_
                  refine wl_free .none rfl (yf_move rfl) ?_
                  refine wl_split 93 rfl (fun h239 => ?_) (fun h239 => ?_)
                  · replace h239 := eq_of_beq h239
                    refine wl_free (.some rfl rfl) rfl (yf_move rfl) ?_
                    refine wl_take E hE s1 hs1.2.1 [61] bp (fun _ h => h.2) 3 (.some rfl rfl) rfl  rfl rfl ?_
                    refine wl_free .none rfl (yf_pickT rfl rfl) ?_
                    refine wl_free .none rfl (yf_assign rfl) ?_
                    refine wl_nil ?_
                    refine wq_then ?_
                    refine wc_cond rfl (fun h84 => ?_) (fun h84 => ?_)
                    · skip
                      rw [if_pos ⟨of_decide_eq_true h234, by omega, h84⟩] at hr
                      obtain rfl : cap = x.kids.length := hc (by omega)
                      have h1k : x.kids.length = 1 := hk4 (by omega)
                      have ha := isP_adv hE.kind hs1.2.1 h84
                      obtain ⟨y, s2, hy1, hy2⟩ := andThen_some hr
                      cases hy2
                      rw [h84]
                      refine wc_seq ?_
                      refine wc_weak (.cons (i := 0) rfl <| .cons (i := 2) rfl <| .cons (i := 3) rfl <| .cons (i := 7) rfl <| .cons (i := 14) rfl <| .cons (i := 25) rfl <| .cons (i := 41) rfl <| .cons (i := 52) rfl <| .cons (i := 58) rfl <| .cons (i := 66) rfl <| .cons (i := 84) rfl <| .nil) ?_
                      refine wc_region ?_
                      refine wl_free .none rfl (yf_move rfl) ?_
                      refine wl_free .none rfl (yf_fieldAddr (off := 3) (sz := 0) rfl Tryz.underlying57 (by kernel_rfl) rfl) ?_
                      refine wl_free .none rfl (yf_loadL 0 rfl rfl rfl Tryz.underlying55 rfl) ?_
                      refine wl_free .none rfl (yf_buildS [.int .i64 0, .string ⟨#[]⟩, .slice none 0 0, .slice none 0 0, .slice none 0 0] [(0, 1), (1, 1), (2, 1), (3, 1), (4, 1)] rfl (by kernel_rfl) (by kernel_rfl) rfl) ?_
                      refine wl_si E (adv s1) 3 [] x.kids.length kc y (needP E.tk [59] s2) bp 3 (bp_lt hb) (fun w h1 h2 => simple_any hE hfe 3 [] A x.kids.length kc (by omega) (by omega) (fun h => by omega) _ y s2 hy1 ha bp (F0 := F) (fun k hk => by have := hF k hk; omega) w h1 h2.2 h2.1.2.1) .none rfl  (by kernel_rfl) rfl rfl (fun i F3 hi hF3 => ?_)
                      refine wl_chain0 .none (cf_storeRow 2 rfl rfl rfl rfl rfl (by kernel_rfl)) (fun _ => ?_)
                      refine wl_nil ?_
                      refine wq_then ?_
                      refine wc_ret ?_
                      refine wq_block_ret ?_
                      refine wq_then_ret ?_
                      refine wq_retC rfl rfl 2 rfl Tryz.underlying60 rfl (by kernel_rfl) (fun w hw => ?_)
                      first
                      | exact ⟨⟨i.A1, none, none, i.c1, 0, 0⟩, rfl, HpG.keep hw, HpG.blkL (j := 2) hw rfl, stsK.lies.mono hF (sim_st (HpG.x hw).1 .nil hi)⟩
                      | exact ⟨⟨i.A1, none, none, i.c1, 0, 0⟩, rfl, HpG.keep hw, HpG.blkL (j := 3) hw rfl, stsK.lies.mono hF (sim_st (HpG.x hw).1 .nil hi)⟩
                      | exact ⟨⟨i.A1, none, none, i.c1, 0, 0⟩, rfl, HpG.keep hw, HpG.blkL (j := 3) hw rfl, stsK.lies.mono hF3 (sim_st (HpG.x hw).1 .nil hi)⟩
                      | exact ⟨⟨i.A1, none, none, i.c1, 0, 0⟩, (by show _ = Ending.returned (.agg (stC 3 [] i.A1 (x.kids ++ [y]).length i.c1 none 0 0 none 0 0).toArray); rw [List.length_append]; rfl), HpG.keep hw, HpG.blkL (j := 3) hw rfl, sim_st (SimK.lies.mono hF3 (HpG.x hw).1) (ExsV.lies.mono hF (HpG.x hw).2.1.2.2) hi⟩
                      | exact ⟨⟨some ⟨b105, 0, none⟩, none, none, 1, 0, 0⟩, rfl, HpG.keep hw, HpG.blkL (j := 4) hw rfl, cp11, cp00, cp00, ⟨_, HpG.rdF (j := 0) hw rfl (HpG.fresh (j := 0) (i := 4) hw rfl rfl rfl), (exsK.lies.mono hF (HpG.x hw).1.k).one⟩, ⟨[], RdF.nil, .nil⟩, ⟨[], RdF.nil, .nil⟩⟩
                      | exact ⟨⟨some ⟨b46, 0, none⟩, A2, none, 1, cap2, 0⟩, rfl, HpG.keep hw, HpG.blkL (j := 4) hw rfl, cp11, (HpG.x hw).1.1, cp00, ⟨_, HpG.rdF (j := 1) hw rfl (HpG.fresh (j := 1) (i := 4) hw rfl rfl rfl), (exsK.lies.mono hF (HpG.x hw).2.1).one⟩, (blkK.lies.mono hF2 (HpG.x hw).1).2, ⟨[], RdF.nil, .nil⟩⟩
                      | exact ⟨⟨some ⟨b30, 0, none⟩, A2, none, 1, cap2, 0⟩, rfl, HpG.keep hw, HpG.blkL (j := 4) hw rfl, cp11, (HpG.x hw).1.1, cp00, ⟨_, HpG.rdF (j := 1) hw rfl (HpG.fresh (j := 1) (i := 4) hw rfl rfl rfl), (exsK.lies.mono hF (HpG.x hw).2.1).one⟩, (blkK.lies.mono hF2 (HpG.x hw).1).2, ⟨[], RdF.nil, .nil⟩⟩
                      | exact ⟨⟨some ⟨b30, 0, none⟩, A2, A3, 1, cap2, cap3⟩, rfl, HpG.keep hw, HpG.blkL (j := 4) hw rfl, cp11, (HpG.x hw).2.1.1, (HpG.x hw).1.1, ⟨_, HpG.rdF (j := 1) hw rfl (HpG.fresh (j := 1) (i := 4) hw rfl rfl rfl), (exsK.lies.mono hF (HpG.x hw).2.2.1).one⟩, (blkK.lies.mono hF2 (HpG.x hw).2.1).2, (blkK.lies.mono hF3 (HpG.x hw).1).2⟩
                    · skip
                      rw [if_neg (fun hh => by rw [h84] at hh; cases hh.2.2)] at hr
                      cases hr
                      rw [h84]
                      refine wc_skip ?_
                      refine wq_block ?_
                      refine wq_then ?_
                      refine wc_seq ?_
                      refine wc_weak (.cons (i := 0) rfl <| .cons (i := 2) rfl <| .cons (i := 3) rfl <| .cons (i := 7) rfl <| .cons (i := 14) rfl <| .cons (i := 25) rfl <| .cons (i := 41) rfl <| .cons (i := 52) rfl <| .cons (i := 58) rfl <| .cons (i := 66) rfl <| .cons (i := 84) rfl <| .nil) ?_
                      refine wc_region ?_
                      refine wl_free .none rfl (yf_move rfl) ?_
                      refine wl_need E hE s1 hs1.2.1 [59] bp (fun _ h => h.2) 3 .none rfl  rfl rfl ?_
                      refine wl_nil ?_
                      refine wq_then ?_
                      refine wc_seq ?_
                      refine wc_weak (.cons (i := 0) rfl <| .cons (i := 2) rfl <| .cons (i := 3) rfl <| .cons (i := 7) rfl <| .cons (i := 14) rfl <| .cons (i := 25) rfl <| .cons (i := 41) rfl <| .cons (i := 52) rfl <| .cons (i := 58) rfl <| .cons (i := 66) rfl <| .cons (i := 84) rfl <| .nil) ?_
                      refine wc_region ?_
                      refine wl_free .none rfl (yf_loadAllL 0 rfl rfl Tryz.underlying57 rfl (by kernel_rfl)) ?_
                      refine wl_new .none rfl (nf_bs1 (z := .agg #[.int .i64 0, .int .u32 0, .string ⟨#[]⟩, .slice none 0 0]) rfl rfl Tryz.underlying55 (by kernel_rfl) (by kernel_rfl) rfl rfl) (fun b105 => ?_)
                      refine wl_free .none rfl (yf_buildS [.int .i64 0, .string ⟨#[]⟩, .slice none 0 0, .slice none 0 0, .slice none 0 0] [(0, 1), (1, 1), (2, 1), (3, 1), (4, 1)] rfl (by kernel_rfl) (by kernel_rfl) rfl) ?_
                      refine wl_chain0 .none (cf_storeRow 3 rfl rfl rfl rfl rfl (by kernel_rfl)) (fun _ => ?_)
                      refine wl_nil ?_
                      refine wq_then ?_
                      refine wc_ret ?_
                      refine wq_retC rfl rfl 3 rfl Tryz.underlying60 rfl (by kernel_rfl) (fun w hw => ?_)
                      first
                      | exact ⟨⟨i.A1, none, none, i.c1, 0, 0⟩, rfl, HpG.keep hw, HpG.blkL (j := 2) hw rfl, stsK.lies.mono hF (sim_st (HpG.x hw).1 .nil hi)⟩
                      | exact ⟨⟨i.A1, none, none, i.c1, 0, 0⟩, rfl, HpG.keep hw, HpG.blkL (j := 3) hw rfl, stsK.lies.mono hF (sim_st (HpG.x hw).1 .nil hi)⟩
                      | exact ⟨⟨i.A1, none, none, i.c1, 0, 0⟩, rfl, HpG.keep hw, HpG.blkL (j := 3) hw rfl, stsK.lies.mono hF3 (sim_st (HpG.x hw).1 .nil hi)⟩
                      | exact ⟨⟨i.A1, none, none, i.c1, 0, 0⟩, (by show _ = Ending.returned (.agg (stC 3 [] i.A1 (x.kids ++ [y]).length i.c1 none 0 0 none 0 0).toArray); rw [List.length_append]; rfl), HpG.keep hw, HpG.blkL (j := 3) hw rfl, sim_st (SimK.lies.mono hF3 (HpG.x hw).1) (ExsV.lies.mono hF (HpG.x hw).2.1.2.2) hi⟩
                      | exact ⟨⟨some ⟨b105, 0, none⟩, none, none, 1, 0, 0⟩, rfl, HpG.keep hw, HpG.blkL (j := 4) hw rfl, cp11, cp00, cp00, ⟨_, HpG.rdF (j := 0) hw rfl (HpG.fresh (j := 0) (i := 4) hw rfl rfl rfl), (exsK.lies.mono hF (HpG.x hw).1.k).one⟩, ⟨[], RdF.nil, .nil⟩, ⟨[], RdF.nil, .nil⟩⟩
                      | exact ⟨⟨some ⟨b46, 0, none⟩, A2, none, 1, cap2, 0⟩, rfl, HpG.keep hw, HpG.blkL (j := 4) hw rfl, cp11, (HpG.x hw).1.1, cp00, ⟨_, HpG.rdF (j := 1) hw rfl (HpG.fresh (j := 1) (i := 4) hw rfl rfl rfl), (exsK.lies.mono hF (HpG.x hw).2.1).one⟩, (blkK.lies.mono hF2 (HpG.x hw).1).2, ⟨[], RdF.nil, .nil⟩⟩
                      | exact ⟨⟨some ⟨b30, 0, none⟩, A2, none, 1, cap2, 0⟩, rfl, HpG.keep hw, HpG.blkL (j := 4) hw rfl, cp11, (HpG.x hw).1.1, cp00, ⟨_, HpG.rdF (j := 1) hw rfl (HpG.fresh (j := 1) (i := 4) hw rfl rfl rfl), (exsK.lies.mono hF (HpG.x hw).2.1).one⟩, (blkK.lies.mono hF2 (HpG.x hw).1).2, ⟨[], RdF.nil, .nil⟩⟩
                      | exact ⟨⟨some ⟨b30, 0, none⟩, A2, A3, 1, cap2, cap3⟩, rfl, HpG.keep hw, HpG.blkL (j := 4) hw rfl, cp11, (HpG.x hw).2.1.1, (HpG.x hw).1.1, ⟨_, HpG.rdF (j := 1) hw rfl (HpG.fresh (j := 1) (i := 4) hw rfl rfl rfl), (exsK.lies.mono hF (HpG.x hw).2.2.1).one⟩, (blkK.lies.mono hF2 (HpG.x hw).2.1).2, (blkK.lies.mono hF3 (HpG.x hw).1).2⟩
                  · replace h239 := beq_no h239
                    rw [if_neg (fun hh => by omega)] at hr
                    cases hr
                    refine wl_pass (.some rfl rfl rfl) rfl ?_
                    refine wl_pass (.some rfl rfl rfl) rfl ?_
                    refine wl_free .none rfl (yf_pickF rfl rfl) ?_
                    refine wl_free .none rfl (yf_assign rfl) ?_
                    refine wl_nil ?_
                    refine wq_then ?_
                    refine wc_false rfl ?_
                    refine wc_skip ?_
                    refine wq_block ?_
                    refine wq_then ?_
                    refine wc_seq ?_
                    refine wc_weak (.cons (i := 0) rfl <| .cons (i := 2) rfl <| .cons (i := 3) rfl <| .cons (i := 7) rfl <| .cons (i := 14) rfl <| .cons (i := 25) rfl <| .cons (i := 41) rfl <| .cons (i := 52) rfl <| .cons (i := 58) rfl <| .cons (i := 66) rfl <| .cons (i := 84) rfl <| .nil) ?_
                    refine wc_region ?_
                    refine wl_free .none rfl (yf_move rfl) ?_
                    refine wl_need E hE s1 hs1.2.1 [59] bp (fun _ h => h.2) 3 .none rfl  rfl rfl ?_
                    refine wl_nil ?_
                    refine wq_then ?_
                    refine wc_seq ?_
                    refine wc_weak (.cons (i := 0) rfl <| .cons (i := 2) rfl <| .cons (i := 3) rfl <| .cons (i := 7) rfl <| .cons (i := 14) rfl <| .cons (i := 25) rfl <| .cons (i := 41) rfl <| .cons (i := 52) rfl <| .cons (i := 58) rfl <| .cons (i := 66) rfl <| .cons (i := 84) rfl <| .nil) ?_
                    refine wc_region ?_
                    refine wl_free .none rfl (yf_loadAllL 0 rfl rfl Tryz.underlying57 rfl (by kernel_rfl)) ?_
                    refine wl_new .none rfl (nf_bs1 (z := .agg #[.int .i64 0, .int .u32 0, .string ⟨#[]⟩, .slice none 0 0]) rfl rfl Tryz.underlying55 (by kernel_rfl) (by kernel_rfl) rfl rfl) (fun b105 => ?_)
                    refine wl_free .none rfl (yf_buildS [.int .i64 0, .string ⟨#[]⟩, .slice none 0 0, .slice none 0 0, .slice none 0 0] [(0, 1), (1, 1), (2, 1), (3, 1), (4, 1)] rfl (by kernel_rfl) (by kernel_rfl) rfl) ?_
                    refine wl_chain0 .none (cf_storeRow 3 rfl rfl rfl rfl rfl (by kernel_rfl)) (fun _ => ?_)
                    refine wl_nil ?_
                    refine wq_then ?_
                    refine wc_ret ?_
                    refine wq_retC rfl rfl 3 rfl Tryz.underlying60 rfl (by kernel_rfl) (fun w hw => ?_)
                    first
                    | exact ⟨⟨i.A1, none, none, i.c1, 0, 0⟩, rfl, HpG.keep hw, HpG.blkL (j := 2) hw rfl, stsK.lies.mono hF (sim_st (HpG.x hw).1 .nil hi)⟩
                    | exact ⟨⟨i.A1, none, none, i.c1, 0, 0⟩, rfl, HpG.keep hw, HpG.blkL (j := 3) hw rfl, stsK.lies.mono hF (sim_st (HpG.x hw).1 .nil hi)⟩
                    | exact ⟨⟨i.A1, none, none, i.c1, 0, 0⟩, rfl, HpG.keep hw, HpG.blkL (j := 3) hw rfl, stsK.lies.mono hF3 (sim_st (HpG.x hw).1 .nil hi)⟩
                    | exact ⟨⟨i.A1, none, none, i.c1, 0, 0⟩, (by show _ = Ending.returned (.agg (stC 3 [] i.A1 (x.kids ++ [y]).length i.c1 none 0 0 none 0 0).toArray); rw [List.length_append]; rfl), HpG.keep hw, HpG.blkL (j := 3) hw rfl, sim_st (SimK.lies.mono hF3 (HpG.x hw).1) (ExsV.lies.mono hF (HpG.x hw).2.1.2.2) hi⟩
                    | exact ⟨⟨some ⟨b105, 0, none⟩, none, none, 1, 0, 0⟩, rfl, HpG.keep hw, HpG.blkL (j := 4) hw rfl, cp11, cp00, cp00, ⟨_, HpG.rdF (j := 0) hw rfl (HpG.fresh (j := 0) (i := 4) hw rfl rfl rfl), (exsK.lies.mono hF (HpG.x hw).1.k).one⟩, ⟨[], RdF.nil, .nil⟩, ⟨[], RdF.nil, .nil⟩⟩
                    | exact ⟨⟨some ⟨b46, 0, none⟩, A2, none, 1, cap2, 0⟩, rfl, HpG.keep hw, HpG.blkL (j := 4) hw rfl, cp11, (HpG.x hw).1.1, cp00, ⟨_, HpG.rdF (j := 1) hw rfl (HpG.fresh (j := 1) (i := 4) hw rfl rfl rfl), (exsK.lies.mono hF (HpG.x hw).2.1).one⟩, (blkK.lies.mono hF2 (HpG.x hw).1).2, ⟨[], RdF.nil, .nil⟩⟩
                    | exact ⟨⟨some ⟨b30, 0, none⟩, A2, none, 1, cap2, 0⟩, rfl, HpG.keep hw, HpG.blkL (j := 4) hw rfl, cp11, (HpG.x hw).1.1, cp00, ⟨_, HpG.rdF (j := 1) hw rfl (HpG.fresh (j := 1) (i := 4) hw rfl rfl rfl), (exsK.lies.mono hF (HpG.x hw).2.1).one⟩, (blkK.lies.mono hF2 (HpG.x hw).1).2, ⟨[], RdF.nil, .nil⟩⟩
                    | exact ⟨⟨some ⟨b30, 0, none⟩, A2, A3, 1, cap2, cap3⟩, rfl, HpG.keep hw, HpG.blkL (j := 4) hw rfl, cp11, (HpG.x hw).2.1.1, (HpG.x hw).1.1, ⟨_, HpG.rdF (j := 1) hw rfl (HpG.fresh (j := 1) (i := 4) hw rfl rfl rfl), (exsK.lies.mono hF (HpG.x hw).2.2.1).one⟩, (blkK.lies.mono hF2 (HpG.x hw).2.1).2, (blkK.lies.mono hF3 (HpG.x hw).1).2⟩
                · skip
                  rw [if_neg (fun hh => of_decide_eq_false h234 hh.1)] at hr
                  cases hr
                  refine wl_pass (.some rfl rfl rfl) rfl ?_
                  refine wl_pass (.some rfl rfl rfl) rfl ?_
                  refine wl_pass (.some rfl rfl rfl) rfl ?_
                  refine wl_free .none rfl (yf_pickF rfl rfl) ?_
                  refine wl_free .none rfl (yf_move rfl) ?_
                  refine wl_pass (.some rfl rfl rfl) rfl ?_
                  refine wl_pass (.some rfl rfl rfl) rfl ?_
                  refine wl_free .none rfl (yf_pickF rfl rfl) ?_
                  refine wl_free .none rfl (yf_assign rfl) ?_
                  refine wl_nil ?_
                  refine wq_then ?_
                  refine wc_false rfl ?_
                  refine wc_skip ?_
                  refine wq_block ?_
                  refine wq_then ?_
                  refine wc_seq ?_
                  refine wc_weak (.cons (i := 0) rfl <| .cons (i := 2) rfl <| .cons (i := 3) rfl <| .cons (i := 7) rfl <| .cons (i := 14) rfl <| .cons (i := 25) rfl <| .cons (i := 41) rfl <| .cons (i := 52) rfl <| .cons (i := 58) rfl <| .cons (i := 66) rfl <| .cons (i := 84) rfl <| .nil) ?_
                  refine wc_region ?_
                  refine wl_free .none rfl (yf_move rfl) ?_
                  refine wl_need E hE s1 hs1.2.1 [59] bp (fun _ h => h.2) 3 .none rfl  rfl rfl ?_
                  refine wl_nil ?_
                  refine wq_then ?_
                  refine wc_seq ?_
                  refine wc_weak (.cons (i := 0) rfl <| .cons (i := 2) rfl <| .cons (i := 3) rfl <| .cons (i := 7) rfl <| .cons (i := 14) rfl <| .cons (i := 25) rfl <| .cons (i := 41) rfl <| .cons (i := 52) rfl <| .cons (i := 58) rfl <| .cons (i := 66) rfl <| .cons (i := 84) rfl <| .nil) ?_
                  refine wc_region ?_
                  refine wl_free .none rfl (yf_loadAllL 0 rfl rfl Tryz.underlying57 rfl (by kernel_rfl)) ?_
                  refine wl_new .none rfl (nf_bs1 (z := .agg #[.int .i64 0, .int .u32 0, .string ⟨#[]⟩, .slice none 0 0]) rfl rfl Tryz.underlying55 (by kernel_rfl) (by kernel_rfl) rfl rfl) (fun b105 => ?_)
                  refine wl_free .none rfl (yf_buildS [.int .i64 0, .string ⟨#[]⟩, .slice none 0 0, .slice none 0 0, .slice none 0 0] [(0, 1), (1, 1), (2, 1), (3, 1), (4, 1)] rfl (by kernel_rfl) (by kernel_rfl) rfl) ?_
                  refine wl_chain0 .none (cf_storeRow 3 rfl rfl rfl rfl rfl (by kernel_rfl)) (fun _ => ?_)
                  refine wl_nil ?_
                  refine wq_then ?_
                  refine wc_ret ?_
                  refine wq_retC rfl rfl 3 rfl Tryz.underlying60 rfl (by kernel_rfl) (fun w hw => ?_)
                  first
                  | exact ⟨⟨i.A1, none, none, i.c1, 0, 0⟩, rfl, HpG.keep hw, HpG.blkL (j := 2) hw rfl, stsK.lies.mono hF (sim_st (HpG.x hw).1 .nil hi)⟩
                  | exact ⟨⟨i.A1, none, none, i.c1, 0, 0⟩, rfl, HpG.keep hw, HpG.blkL (j := 3) hw rfl, stsK.lies.mono hF (sim_st (HpG.x hw).1 .nil hi)⟩
                  | exact ⟨⟨i.A1, none, none, i.c1, 0, 0⟩, rfl, HpG.keep hw, HpG.blkL (j := 3) hw rfl, stsK.lies.mono hF3 (sim_st (HpG.x hw).1 .nil hi)⟩
                  | exact ⟨⟨i.A1, none, none, i.c1, 0, 0⟩, (by show _ = Ending.returned (.agg (stC 3 [] i.A1 (x.kids ++ [y]).length i.c1 none 0 0 none 0 0).toArray); rw [List.length_append]; rfl), HpG.keep hw, HpG.blkL (j := 3) hw rfl, sim_st (SimK.lies.mono hF3 (HpG.x hw).1) (ExsV.lies.mono hF (HpG.x hw).2.1.2.2) hi⟩
                  | exact ⟨⟨some ⟨b105, 0, none⟩, none, none, 1, 0, 0⟩, rfl, HpG.keep hw, HpG.blkL (j := 4) hw rfl, cp11, cp00, cp00, ⟨_, HpG.rdF (j := 0) hw rfl (HpG.fresh (j := 0) (i := 4) hw rfl rfl rfl), (exsK.lies.mono hF (HpG.x hw).1.k).one⟩, ⟨[], RdF.nil, .nil⟩, ⟨[], RdF.nil, .nil⟩⟩
                  | exact ⟨⟨some ⟨b46, 0, none⟩, A2, none, 1, cap2, 0⟩, rfl, HpG.keep hw, HpG.blkL (j := 4) hw rfl, cp11, (HpG.x hw).1.1, cp00, ⟨_, HpG.rdF (j := 1) hw rfl (HpG.fresh (j := 1) (i := 4) hw rfl rfl rfl), (exsK.lies.mono hF (HpG.x hw).2.1).one⟩, (blkK.lies.mono hF2 (HpG.x hw).1).2, ⟨[], RdF.nil, .nil⟩⟩
                  | exact ⟨⟨some ⟨b30, 0, none⟩, A2, none, 1, cap2, 0⟩, rfl, HpG.keep hw, HpG.blkL (j := 4) hw rfl, cp11, (HpG.x hw).1.1, cp00, ⟨_, HpG.rdF (j := 1) hw rfl (HpG.fresh (j := 1) (i := 4) hw rfl rfl rfl), (exsK.lies.mono hF (HpG.x hw).2.1).one⟩, (blkK.lies.mono hF2 (HpG.x hw).1).2, ⟨[], RdF.nil, .nil⟩⟩
                  | exact ⟨⟨some ⟨b30, 0, none⟩, A2, A3, 1, cap2, cap3⟩, rfl, HpG.keep hw, HpG.blkL (j := 4) hw rfl, cp11, (HpG.x hw).2.1.1, (HpG.x hw).1.1, ⟨_, HpG.rdF (j := 1) hw rfl (HpG.fresh (j := 1) (i := 4) hw rfl rfl rfl), (exsK.lies.mono hF (HpG.x hw).2.2.1).one⟩, (blkK.lies.mono hF2 (HpG.x hw).2.1).2, (blkK.lies.mono hF3 (HpG.x hw).1).2⟩
            · replace h214 := beq_no h214
              rw [if_neg (fun hh => by omega)] at hr
              refine wl_pass (.some rfl rfl rfl) rfl ?_
              refine wl_pass (.some rfl rfl rfl) rfl ?_
              refine wl_pass (.some rfl rfl rfl) rfl ?_
              refine wl_free .none rfl (yf_pickF rfl rfl) ?_
              refine wl_free .none rfl (yf_move rfl) ?_
              refine wl_pass (.some rfl rfl rfl) rfl ?_
              refine wl_pass (.some rfl rfl rfl) rfl ?_
              refine wl_free .none rfl (yf_pickF rfl rfl) ?_
              refine wl_free .none rfl (yf_assign rfl) ?_
              refine wl_nil ?_
              refine wq_then ?_
              refine wc_false rfl ?_
              refine wc_seq ?_
              refine wc_weak (.cons (i := 0) rfl <| .cons (i := 2) rfl <| .cons (i := 3) rfl <| .cons (i := 7) rfl <| .cons (i := 14) rfl <| .cons (i := 25) rfl <| .cons (i := 41) rfl <| .cons (i := 52) rfl <| .cons (i := 58) rfl <| .cons (i := 66) rfl <| .nil) ?_
              refine wc_region ?_
              refine wl_free .none rfl (yf_fieldAddr (off := 2) (sz := 0) rfl Tryz.underlying92 (by kernel_rfl) rfl) ?_
              refine wl_free .none rfl (yf_loadL 1 rfl rfl rfl Tryz.underlying9 rfl) ?_
              refine wl_free .none rfl (yf_strs_eql rfl rfl Tryz.underlying9) ?_
              refine wl_free .none rfl (yf_move rfl) ?_
              refine wl_split 88 rfl (fun h234 => ?_) (fun h234 => ?_)
              · skip
                refine wl_free (.some rfl rfl) rfl (yf_fieldAddr (off := 0) (sz := 0) rfl Tryz.underlying57 (by kernel_rfl) rfl) ?_
                refine wl_free (.some rfl rfl) rfl (yf_loadL 0 rfl rfl rfl Tryz.underlying3 rfl) ?_
                refine wl_free (.some rfl rfl) rfl (yf_eql rfl rfl) ?_
                refine wl_free .none rfl (yf_pickT rfl rfl) ?_
                refine wl_free .none rfl (yf_move rfl) ?_
                refine wl_split 93 rfl (fun h239 => ?_) (fun h239 => ?_)
                · replace h239 := eq_of_beq h239
                  refine wl_free (.some rfl rfl) rfl (yf_move rfl) ?_
                  refine wl_take E hE s1 hs1.2.1 [61] bp (fun _ h => h.2) 3 (.some rfl rfl) rfl  rfl rfl ?_
                  refine wl_free .none rfl (yf_pickT rfl rfl) ?_
                  refine wl_free .none rfl (yf_assign rfl) ?_
                  refine wl_nil ?_
                  refine wq_then ?_
                  refine wc_cond rfl (fun h84 => ?_) (fun h84 => ?_)
                  · skip
                    rw [if_pos ⟨of_decide_eq_true h234, by omega, h84⟩] at hr
                    obtain rfl : cap = x.kids.length := hc (by omega)
                    have h1k : x.kids.length = 1 := hk4 (by omega)
                    have ha := isP_adv hE.kind hs1.2.1 h84
                    obtain ⟨y, s2, hy1, hy2⟩ := andThen_some hr
                    cases hy2
                    rw [h84]
                    refine wc_seq ?_
                    refine wc_weak (.cons (i := 0) rfl <| .cons (i := 2) rfl <| .cons (i := 3) rfl <| .cons (i := 7) rfl <| .cons (i := 14) rfl <| .cons (i := 25) rfl <| .cons (i := 41) rfl <| .cons (i := 52) rfl <| .cons (i := 58) rfl <| .cons (i := 66) rfl <| .cons (i := 84) rfl <| .nil) ?_
                    refine wc_region ?_
                    refine wl_free .none rfl (yf_move rfl) ?_
                    refine wl_free .none rfl (yf_fieldAddr (off := 3) (sz := 0) rfl Tryz.underlying57 (by kernel_rfl) rfl) ?_
                    refine wl_free .none rfl (yf_loadL 0 rfl rfl rfl Tryz.underlying55 rfl) ?_
                    refine wl_free .none rfl (yf_buildS [.int .i64 0, .string ⟨#[]⟩, .slice none 0 0, .slice none 0 0, .slice none 0 0] [(0, 1), (1, 1), (2, 1), (3, 1), (4, 1)] rfl (by kernel_rfl) (by kernel_rfl) rfl) ?_
                    refine wl_si E (adv s1) 3 [] x.kids.length kc y (needP E.tk [59] s2) bp 3 (bp_lt hb) (fun w h1 h2 => simple_any hE hfe 3 [] A x.kids.length kc (by omega) (by omega) (fun h => by omega) _ y s2 hy1 ha bp (F0 := F) (fun k hk => by have := hF k hk; omega) w h1 h2.2 h2.1.2.1) .none rfl  (by kernel_rfl) rfl rfl (fun i F3 hi hF3 => ?_)
                    refine wl_chain0 .none (cf_storeRow 2 rfl rfl rfl rfl rfl (by kernel_rfl)) (fun _ => ?_)
                    refine wl_nil ?_
                    refine wq_then ?_
                    refine wc_ret ?_
                    refine wq_block_ret ?_
                    refine wq_then_ret ?_
                    refine wq_retC rfl rfl 2 rfl Tryz.underlying60 rfl (by kernel_rfl) (fun w hw => ?_)
                    first
                    | exact ⟨⟨i.A1, none, none, i.c1, 0, 0⟩, rfl, HpG.keep hw, HpG.blkL (j := 2) hw rfl, stsK.lies.mono hF (sim_st (HpG.x hw).1 .nil hi)⟩
                    | exact ⟨⟨i.A1, none, none, i.c1, 0, 0⟩, rfl, HpG.keep hw, HpG.blkL (j := 3) hw rfl, stsK.lies.mono hF (sim_st (HpG.x hw).1 .nil hi)⟩
                    | exact ⟨⟨i.A1, none, none, i.c1, 0, 0⟩, rfl, HpG.keep hw, HpG.blkL (j := 3) hw rfl, stsK.lies.mono hF3 (sim_st (HpG.x hw).1 .nil hi)⟩
                    | exact ⟨⟨i.A1, none, none, i.c1, 0, 0⟩, (by show _ = Ending.returned (.agg (stC 3 [] i.A1 (x.kids ++ [y]).length i.c1 none 0 0 none 0 0).toArray); rw [List.length_append]; rfl), HpG.keep hw, HpG.blkL (j := 3) hw rfl, sim_st (SimK.lies.mono hF3 (HpG.x hw).1) (ExsV.lies.mono hF (HpG.x hw).2.1.2.2) hi⟩
                    | exact ⟨⟨some ⟨b105, 0, none⟩, none, none, 1, 0, 0⟩, rfl, HpG.keep hw, HpG.blkL (j := 4) hw rfl, cp11, cp00, cp00, ⟨_, HpG.rdF (j := 0) hw rfl (HpG.fresh (j := 0) (i := 4) hw rfl rfl rfl), (exsK.lies.mono hF (HpG.x hw).1.k).one⟩, ⟨[], RdF.nil, .nil⟩, ⟨[], RdF.nil, .nil⟩⟩
                    | exact ⟨⟨some ⟨b46, 0, none⟩, A2, none, 1, cap2, 0⟩, rfl, HpG.keep hw, HpG.blkL (j := 4) hw rfl, cp11, (HpG.x hw).1.1, cp00, ⟨_, HpG.rdF (j := 1) hw rfl (HpG.fresh (j := 1) (i := 4) hw rfl rfl rfl), (exsK.lies.mono hF (HpG.x hw).2.1).one⟩, (blkK.lies.mono hF2 (HpG.x hw).1).2, ⟨[], RdF.nil, .nil⟩⟩
                    | exact ⟨⟨some ⟨b30, 0, none⟩, A2, none, 1, cap2, 0⟩, rfl, HpG.keep hw, HpG.blkL (j := 4) hw rfl, cp11, (HpG.x hw).1.1, cp00, ⟨_, HpG.rdF (j := 1) hw rfl (HpG.fresh (j := 1) (i := 4) hw rfl rfl rfl), (exsK.lies.mono hF (HpG.x hw).2.1).one⟩, (blkK.lies.mono hF2 (HpG.x hw).1).2, ⟨[], RdF.nil, .nil⟩⟩
                    | exact ⟨⟨some ⟨b30, 0, none⟩, A2, A3, 1, cap2, cap3⟩, rfl, HpG.keep hw, HpG.blkL (j := 4) hw rfl, cp11, (HpG.x hw).2.1.1, (HpG.x hw).1.1, ⟨_, HpG.rdF (j := 1) hw rfl (HpG.fresh (j := 1) (i := 4) hw rfl rfl rfl), (exsK.lies.mono hF (HpG.x hw).2.2.1).one⟩, (blkK.lies.mono hF2 (HpG.x hw).2.1).2, (blkK.lies.mono hF3 (HpG.x hw).1).2⟩
                  · skip
                    rw [if_neg (fun hh => by rw [h84] at hh; cases hh.2.2)] at hr
                    cases hr
                    rw [h84]
                    refine wc_skip ?_
                    refine wq_block ?_
                    refine wq_then ?_
                    refine wc_seq ?_
                    refine wc_weak (.cons (i := 0) rfl <| .cons (i := 2) rfl <| .cons (i := 3) rfl <| .cons (i := 7) rfl <| .cons (i := 14) rfl <| .cons (i := 25) rfl <| .cons (i := 41) rfl <| .cons (i := 52) rfl <| .cons (i := 58) rfl <| .cons (i := 66) rfl <| .cons (i := 84) rfl <| .nil) ?_
                    refine wc_region ?_
                    refine wl_free .none rfl (yf_move rfl) ?_
                    refine wl_need E hE s1 hs1.2.1 [59] bp (fun _ h => h.2) 3 .none rfl  rfl rfl ?_
                    refine wl_nil ?_
                    refine wq_then ?_
                    refine wc_seq ?_
                    refine wc_weak (.cons (i := 0) rfl <| .cons (i := 2) rfl <| .cons (i := 3) rfl <| .cons (i := 7) rfl <| .cons (i := 14) rfl <| .cons (i := 25) rfl <| .cons (i := 41) rfl <| .cons (i := 52) rfl <| .cons (i := 58) rfl <| .cons (i := 66) rfl <| .cons (i := 84) rfl <| .nil) ?_
                    refine wc_region ?_
                    refine wl_free .none rfl (yf_loadAllL 0 rfl rfl Tryz.underlying57 rfl (by kernel_rfl)) ?_
                    refine wl_new .none rfl (nf_bs1 (z := .agg #[.int .i64 0, .int .u32 0, .string ⟨#[]⟩, .slice none 0 0]) rfl rfl Tryz.underlying55 (by kernel_rfl) (by kernel_rfl) rfl rfl) (fun b105 => ?_)
                    refine wl_free .none rfl (yf_buildS [.int .i64 0, .string ⟨#[]⟩, .slice none 0 0, .slice none 0 0, .slice none 0 0] [(0, 1), (1, 1), (2, 1), (3, 1), (4, 1)] rfl (by kernel_rfl) (by kernel_rfl) rfl) ?_
                    refine wl_chain0 .none (cf_storeRow 3 rfl rfl rfl rfl rfl (by kernel_rfl)) (fun _ => ?_)
                    refine wl_nil ?_
                    refine wq_then ?_
                    refine wc_ret ?_
                    refine wq_retC rfl rfl 3 rfl Tryz.underlying60 rfl (by kernel_rfl) (fun w hw => ?_)
                    first
                    | exact ⟨⟨i.A1, none, none, i.c1, 0, 0⟩, rfl, HpG.keep hw, HpG.blkL (j := 2) hw rfl, stsK.lies.mono hF (sim_st (HpG.x hw).1 .nil hi)⟩
                    | exact ⟨⟨i.A1, none, none, i.c1, 0, 0⟩, rfl, HpG.keep hw, HpG.blkL (j := 3) hw rfl, stsK.lies.mono hF (sim_st (HpG.x hw).1 .nil hi)⟩
                    | exact ⟨⟨i.A1, none, none, i.c1, 0, 0⟩, rfl, HpG.keep hw, HpG.blkL (j := 3) hw rfl, stsK.lies.mono hF3 (sim_st (HpG.x hw).1 .nil hi)⟩
                    | exact ⟨⟨i.A1, none, none, i.c1, 0, 0⟩, (by show _ = Ending.returned (.agg (stC 3 [] i.A1 (x.kids ++ [y]).length i.c1 none 0 0 none 0 0).toArray); rw [List.length_append]; rfl), HpG.keep hw, HpG.blkL (j := 3) hw rfl, sim_st (SimK.lies.mono hF3 (HpG.x hw).1) (ExsV.lies.mono hF (HpG.x hw).2.1.2.2) hi⟩
                    | exact ⟨⟨some ⟨b105, 0, none⟩, none, none, 1, 0, 0⟩, rfl, HpG.keep hw, HpG.blkL (j := 4) hw rfl, cp11, cp00, cp00, ⟨_, HpG.rdF (j := 0) hw rfl (HpG.fresh (j := 0) (i := 4) hw rfl rfl rfl), (exsK.lies.mono hF (HpG.x hw).1.k).one⟩, ⟨[], RdF.nil, .nil⟩, ⟨[], RdF.nil, .nil⟩⟩
                    | exact ⟨⟨some ⟨b46, 0, none⟩, A2, none, 1, cap2, 0⟩, rfl, HpG.keep hw, HpG.blkL (j := 4) hw rfl, cp11, (HpG.x hw).1.1, cp00, ⟨_, HpG.rdF (j := 1) hw rfl (HpG.fresh (j := 1) (i := 4) hw rfl rfl rfl), (exsK.lies.mono hF (HpG.x hw).2.1).one⟩, (blkK.lies.mono hF2 (HpG.x hw).1).2, ⟨[], RdF.nil, .nil⟩⟩
                    | exact ⟨⟨some ⟨b30, 0, none⟩, A2, none, 1, cap2, 0⟩, rfl, HpG.keep hw, HpG.blkL (j := 4) hw rfl, cp11, (HpG.x hw).1.1, cp00, ⟨_, HpG.rdF (j := 1) hw rfl (HpG.fresh (j := 1) (i := 4) hw rfl rfl rfl), (exsK.lies.mono hF (HpG.x hw).2.1).one⟩, (blkK.lies.mono hF2 (HpG.x hw).1).2, ⟨[], RdF.nil, .nil⟩⟩
                    | exact ⟨⟨some ⟨b30, 0, none⟩, A2, A3, 1, cap2, cap3⟩, rfl, HpG.keep hw, HpG.blkL (j := 4) hw rfl, cp11, (HpG.x hw).2.1.1, (HpG.x hw).1.1, ⟨_, HpG.rdF (j := 1) hw rfl (HpG.fresh (j := 1) (i := 4) hw rfl rfl rfl), (exsK.lies.mono hF (HpG.x hw).2.2.1).one⟩, (blkK.lies.mono hF2 (HpG.x hw).2.1).2, (blkK.lies.mono hF3 (HpG.x hw).1).2⟩
                · replace h239 := beq_no h239
                  rw [if_neg (fun hh => by omega)] at hr
                  cases hr
                  refine wl_pass (.some rfl rfl rfl) rfl ?_
                  refine wl_pass (.some rfl rfl rfl) rfl ?_
                  refine wl_free .none rfl (yf_pickF rfl rfl) ?_
                  refine wl_free .none rfl (yf_assign rfl) ?_
                  refine wl_nil ?_
                  refine wq_then ?_
                  refine wc_false rfl ?_
                  refine wc_skip ?_
                  refine wq_block ?_
                  refine wq_then ?_
                  refine wc_seq ?_
                  refine wc_weak (.cons (i := 0) rfl <| .cons (i := 2) rfl <| .cons (i := 3) rfl <| .cons (i := 7) rfl <| .cons (i := 14) rfl <| .cons (i := 25) rfl <| .cons (i := 41) rfl <| .cons (i := 52) rfl <| .cons (i := 58) rfl <| .cons (i := 66) rfl <| .cons (i := 84) rfl <| .nil) ?_
                  refine wc_region ?_
                  refine wl_free .none rfl (yf_move rfl) ?_
                  refine wl_need E hE s1 hs1.2.1 [59] bp (fun _ h => h.2) 3 .none rfl  rfl rfl ?_
                  refine wl_nil ?_
                  refine wq_then ?_
                  refine wc_seq ?_
                  refine wc_weak (.cons (i := 0) rfl <| .cons (i := 2) rfl <| .cons (i := 3) rfl <| .cons (i := 7) rfl <| .cons (i := 14) rfl <| .cons (i := 25) rfl <| .cons (i := 41) rfl <| .cons (i := 52) rfl <| .cons (i := 58) rfl <| .cons (i := 66) rfl <| .cons (i := 84) rfl <| .nil) ?_
                  refine wc_region ?_
                  refine wl_free .none rfl (yf_loadAllL 0 rfl rfl Tryz.underlying57 rfl (by kernel_rfl)) ?_
                  refine wl_new .none rfl (nf_bs1 (z := .agg #[.int .i64 0, .int .u32 0, .string ⟨#[]⟩, .slice none 0 0]) rfl rfl Tryz.underlying55 (by kernel_rfl) (by kernel_rfl) rfl rfl) (fun b105 => ?_)
                  refine wl_free .none rfl (yf_buildS [.int .i64 0, .string ⟨#[]⟩, .slice none 0 0, .slice none 0 0, .slice none 0 0] [(0, 1), (1, 1), (2, 1), (3, 1), (4, 1)] rfl (by kernel_rfl) (by kernel_rfl) rfl) ?_
                  refine wl_chain0 .none (cf_storeRow 3 rfl rfl rfl rfl rfl (by kernel_rfl)) (fun _ => ?_)
                  refine wl_nil ?_
                  refine wq_then ?_
                  refine wc_ret ?_
                  refine wq_retC rfl rfl 3 rfl Tryz.underlying60 rfl (by kernel_rfl) (fun w hw => ?_)
                  first
                  | exact ⟨⟨i.A1, none, none, i.c1, 0, 0⟩, rfl, HpG.keep hw, HpG.blkL (j := 2) hw rfl, stsK.lies.mono hF (sim_st (HpG.x hw).1 .nil hi)⟩
                  | exact ⟨⟨i.A1, none, none, i.c1, 0, 0⟩, rfl, HpG.keep hw, HpG.blkL (j := 3) hw rfl, stsK.lies.mono hF (sim_st (HpG.x hw).1 .nil hi)⟩
                  | exact ⟨⟨i.A1, none, none, i.c1, 0, 0⟩, rfl, HpG.keep hw, HpG.blkL (j := 3) hw rfl, stsK.lies.mono hF3 (sim_st (HpG.x hw).1 .nil hi)⟩
                  | exact ⟨⟨i.A1, none, none, i.c1, 0, 0⟩, (by show _ = Ending.returned (.agg (stC 3 [] i.A1 (x.kids ++ [y]).length i.c1 none 0 0 none 0 0).toArray); rw [List.length_append]; rfl), HpG.keep hw, HpG.blkL (j := 3) hw rfl, sim_st (SimK.lies.mono hF3 (HpG.x hw).1) (ExsV.lies.mono hF (HpG.x hw).2.1.2.2) hi⟩
                  | exact ⟨⟨some ⟨b105, 0, none⟩, none, none, 1, 0, 0⟩, rfl, HpG.keep hw, HpG.blkL (j := 4) hw rfl, cp11, cp00, cp00, ⟨_, HpG.rdF (j := 0) hw rfl (HpG.fresh (j := 0) (i := 4) hw rfl rfl rfl), (exsK.lies.mono hF (HpG.x hw).1.k).one⟩, ⟨[], RdF.nil, .nil⟩, ⟨[], RdF.nil, .nil⟩⟩
                  | exact ⟨⟨some ⟨b46, 0, none⟩, A2, none, 1, cap2, 0⟩, rfl, HpG.keep hw, HpG.blkL (j := 4) hw rfl, cp11, (HpG.x hw).1.1, cp00, ⟨_, HpG.rdF (j := 1) hw rfl (HpG.fresh (j := 1) (i := 4) hw rfl rfl rfl), (exsK.lies.mono hF (HpG.x hw).2.1).one⟩, (blkK.lies.mono hF2 (HpG.x hw).1).2, ⟨[], RdF.nil, .nil⟩⟩
                  | exact ⟨⟨some ⟨b30, 0, none⟩, A2, none, 1, cap2, 0⟩, rfl, HpG.keep hw, HpG.blkL (j := 4) hw rfl, cp11, (HpG.x hw).1.1, cp00, ⟨_, HpG.rdF (j := 1) hw rfl (HpG.fresh (j := 1) (i := 4) hw rfl rfl rfl), (exsK.lies.mono hF (HpG.x hw).2.1).one⟩, (blkK.lies.mono hF2 (HpG.x hw).1).2, ⟨[], RdF.nil, .nil⟩⟩
                  | exact ⟨⟨some ⟨b30, 0, none⟩, A2, A3, 1, cap2, cap3⟩, rfl, HpG.keep hw, HpG.blkL (j := 4) hw rfl, cp11, (HpG.x hw).2.1.1, (HpG.x hw).1.1, ⟨_, HpG.rdF (j := 1) hw rfl (HpG.fresh (j := 1) (i := 4) hw rfl rfl rfl), (exsK.lies.mono hF (HpG.x hw).2.2.1).one⟩, (blkK.lies.mono hF2 (HpG.x hw).2.1).2, (blkK.lies.mono hF3 (HpG.x hw).1).2⟩
              · skip
                rw [if_neg (fun hh => of_decide_eq_false h234 hh.1)] at hr
                cases hr
                refine wl_pass (.some rfl rfl rfl) rfl ?_
                refine wl_pass (.some rfl rfl rfl) rfl ?_
                refine wl_pass (.some rfl rfl rfl) rfl ?_
                refine wl_free .none rfl (yf_pickF rfl rfl) ?_
                refine wl_free .none rfl (yf_move rfl) ?_
                refine wl_pass (.some rfl rfl rfl) rfl ?_
                refine wl_pass (.some rfl rfl rfl) rfl ?_
                refine wl_free .none rfl (yf_pickF rfl rfl) ?_
                refine wl_free .none rfl (yf_assign rfl) ?_
                refine wl_nil ?_
                refine wq_then ?_
                refine wc_false rfl ?_
                refine wc_skip ?_
                refine wq_block ?_
                refine wq_then ?_
                refine wc_seq ?_
                refine wc_weak (.cons (i := 0) rfl <| .cons (i := 2) rfl <| .cons (i := 3) rfl <| .cons (i := 7) rfl <| .cons (i := 14) rfl <| .cons (i := 25) rfl <| .cons (i := 41) rfl <| .cons (i := 52) rfl <| .cons (i := 58) rfl <| .cons (i := 66) rfl <| .cons (i := 84) rfl <| .nil) ?_
                refine wc_region ?_
                refine wl_free .none rfl (yf_move rfl) ?_
                refine wl_need E hE s1 hs1.2.1 [59] bp (fun _ h => h.2) 3 .none rfl  rfl rfl ?_
                refine wl_nil ?_
                refine wq_then ?_
                refine wc_seq ?_
                refine wc_weak (.cons (i := 0) rfl <| .cons (i := 2) rfl <| .cons (i := 3) rfl <| .cons (i := 7) rfl <| .cons (i := 14) rfl <| .cons (i := 25) rfl <| .cons (i := 41) rfl <| .cons (i := 52) rfl <| .cons (i := 58) rfl <| .cons (i := 66) rfl <| .cons (i := 84) rfl <| .nil) ?_
                refine wc_region ?_
                refine wl_free .none rfl (yf_loadAllL 0 rfl rfl Tryz.underlying57 rfl (by kernel_rfl)) ?_
                refine wl_new .none rfl (nf_bs1 (z := .agg #[.int .i64 0, .int .u32 0, .string ⟨#[]⟩, .slice none 0 0]) rfl rfl Tryz.underlying55 (by kernel_rfl) (by kernel_rfl) rfl rfl) (fun b105 => ?_)
                refine wl_free .none rfl (yf_buildS [.int .i64 0, .string ⟨#[]⟩, .slice none 0 0, .slice none 0 0, .slice none 0 0] [(0, 1), (1, 1), (2, 1), (3, 1), (4, 1)] rfl (by kernel_rfl) (by kernel_rfl) rfl) ?_
                refine wl_chain0 .none (cf_storeRow 3 rfl rfl rfl rfl rfl (by kernel_rfl)) (fun _ => ?_)
                refine wl_nil ?_
                refine wq_then ?_
                refine wc_ret ?_
                refine wq_retC rfl rfl 3 rfl Tryz.underlying60 rfl (by kernel_rfl) (fun w hw => ?_)
                first
                | exact ⟨⟨i.A1, none, none, i.c1, 0, 0⟩, rfl, HpG.keep hw, HpG.blkL (j := 2) hw rfl, stsK.lies.mono hF (sim_st (HpG.x hw).1 .nil hi)⟩
                | exact ⟨⟨i.A1, none, none, i.c1, 0, 0⟩, rfl, HpG.keep hw, HpG.blkL (j := 3) hw rfl, stsK.lies.mono hF (sim_st (HpG.x hw).1 .nil hi)⟩
                | exact ⟨⟨i.A1, none, none, i.c1, 0, 0⟩, rfl, HpG.keep hw, HpG.blkL (j := 3) hw rfl, stsK.lies.mono hF3 (sim_st (HpG.x hw).1 .nil hi)⟩
                | exact ⟨⟨i.A1, none, none, i.c1, 0, 0⟩, (by show _ = Ending.returned (.agg (stC 3 [] i.A1 (x.kids ++ [y]).length i.c1 none 0 0 none 0 0).toArray); rw [List.length_append]; rfl), HpG.keep hw, HpG.blkL (j := 3) hw rfl, sim_st (SimK.lies.mono hF3 (HpG.x hw).1) (ExsV.lies.mono hF (HpG.x hw).2.1.2.2) hi⟩
                | exact ⟨⟨some ⟨b105, 0, none⟩, none, none, 1, 0, 0⟩, rfl, HpG.keep hw, HpG.blkL (j := 4) hw rfl, cp11, cp00, cp00, ⟨_, HpG.rdF (j := 0) hw rfl (HpG.fresh (j := 0) (i := 4) hw rfl rfl rfl), (exsK.lies.mono hF (HpG.x hw).1.k).one⟩, ⟨[], RdF.nil, .nil⟩, ⟨[], RdF.nil, .nil⟩⟩
                | exact ⟨⟨some ⟨b46, 0, none⟩, A2, none, 1, cap2, 0⟩, rfl, HpG.keep hw, HpG.blkL (j := 4) hw rfl, cp11, (HpG.x hw).1.1, cp00, ⟨_, HpG.rdF (j := 1) hw rfl (HpG.fresh (j := 1) (i := 4) hw rfl rfl rfl), (exsK.lies.mono hF (HpG.x hw).2.1).one⟩, (blkK.lies.mono hF2 (HpG.x hw).1).2, ⟨[], RdF.nil, .nil⟩⟩
                | exact ⟨⟨some ⟨b30, 0, none⟩, A2, none, 1, cap2, 0⟩, rfl, HpG.keep hw, HpG.blkL (j := 4) hw rfl, cp11, (HpG.x hw).1.1, cp00, ⟨_, HpG.rdF (j := 1) hw rfl (HpG.fresh (j := 1) (i := 4) hw rfl rfl rfl), (exsK.lies.mono hF (HpG.x hw).2.1).one⟩, (blkK.lies.mono hF2 (HpG.x hw).1).2, ⟨[], RdF.nil, .nil⟩⟩
                | exact ⟨⟨some ⟨b30, 0, none⟩, A2, A3, 1, cap2, cap3⟩, rfl, HpG.keep hw, HpG.blkL (j := 4) hw rfl, cp11, (HpG.x hw).2.1.1, (HpG.x hw).1.1, ⟨_, HpG.rdF (j := 1) hw rfl (HpG.fresh (j := 1) (i := 4) hw rfl rfl rfl), (exsK.lies.mono hF (HpG.x hw).2.2.1).one⟩, (blkK.lies.mono hF2 (HpG.x hw).2.1).2, (blkK.lies.mono hF3 (HpG.x hw).1).2⟩
theorem st_all {E : PE} (hE : E.Ok) {fe : Nat} (hfe : EOk E fe) : ∀ f, f ≤ 100000000 → SOk E fe f := by
  intro f
  induction f using Nat.strongRecOn with
  | _ f ih =>
    intro hf
    have hb : ∀ k, k < f → SOk E fe k := fun k hk => ih k hk (by omega)
    refine ⟨fun s t s' hr he hs bp w h1 h2 => ?_, fun s l s' hr hs bp w h1 h2 => block_any hE hf hb s l s' hr hs bp w h1 h2⟩
    cases f with
    | zero => cases hr
    | succ f => exact statement_any hE hfe (hb f (by omega)) s t s' hr he hs bp w h1 h2
end Go.Proofs.YtfpkpnkdnammnaaGreatDoor
