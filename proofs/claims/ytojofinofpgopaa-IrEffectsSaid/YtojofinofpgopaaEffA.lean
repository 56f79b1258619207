/- IrEffects: the closure mod; one; Reads as a row. -/
import Derived.Test.YtojofinofpgopaaMgV
import Derived.Test.YtojofinofpgopaaPlEff
namespace Go.Proofs.Ytojofinofpgopaa
open Go.RowKit
section
variable {P : Program} {n : Nat} {m : List (Nat × Value)} {ty : TypeId} {G B : Nat → Prop} {w0 w : World} {L : List (Nat × Obj)} {R : List Rw} {X J : World → Prop} {Q : Exit → Act → World → Prop} {ops : Array Oper} {σ : List Nat}
theorem wd_callVP {d : Nat} {pos : String} {af : Array Edge} {gd : Option (Nat × Bool)} {x : Operand} {f : FuncId} {args : List Operand} {ats : Array TypeId} {us vs cs : List Value} {v : Value} (hg : Gd ops m gd) (hd : Nat.blt d n = true) (hx : ev m x = some (.func (.func f) us.toArray cs.toArray)) (hf : goes P f = true) (ha : evl m args = some vs)
    (hJ : ∀ w w', J w → Ext w w' → J w')
    (hC : ∀ w, HpG G B w0 L R X w → Calls P f (us ++ vs ++ cs).toArray w fun e w' => e = .returned v ∧ Ext w w')
    (h : WD P ops J Q σ G n ((d, v) :: m) (HpG G B w0 L R X)) : WDo P ops J Q ⟨some d, .call { callee := .value x, args := args.toArray, argTypes := ats }, ty, pos, af, gd⟩ σ G n m (HpG G B w0 L R X) :=
  wd_chain (ι := Unit) (val := fun _ => v) (H' := fun _ => HpG G B w0 L R X) rfl (fun _ _ e => by cases e) hg hd (fun _ => HpG.stab)
    (fun _ w _ _ _ _ hs hw hj => (ch_callV hs hx hf ha ((hC w hw).mono fun _ _ ⟨e1, e2⟩ => ⟨_, e1, rfl, e2⟩)).mono
      (R := fun v' w' => v' = v ∧ Ext w w') fun _ w' ⟨e1, e2⟩ => ⟨Keep.of_ext e2, hJ w w' hj e2, (), e1, hw.onE e2⟩) fun _ => h
end
theorem mod_any (v : Int) (w : World) : Calls Try.prog 37 #[.int .i64 v] w fun e w' => e = .returned (.int .i64 (v % 19)) ∧ Ext w w' := by
  refine calls_wc (args := [.int .i64 v]) Try.func37 rfl 7 rfl (Nat.le_of_ble_eq_true rfl) ?_
  refine wc_weak (.cons (i := 0) rfl <| .nil) ?_
  refine wc_conseq (H' := Hp (fun _ => False) w [] [] (fun _ => True)) (fun u hu => ?_) ?_
  · subst hu; exact Hp.start0
  refine wc_seq ?_
  refine wc_region ?_
  refine wl_free .none rfl (yf_assign rfl) ?_
  refine wl_nil ?_
  refine wq_then ?_
  refine wc_seq ?_
  refine wc_region ?_
  refine wl_free .none rfl (yf_move rfl) ?_
  (refine wl_free .none rfl (yf_rem rfl rfl ?_ rfl) ?_; (· first | decide | omega); skip)
  refine wl_free .none rfl (yf_add rfl rfl (wrap_rem (by decide) (by decide))) ?_
  (refine wl_free .none rfl (yf_rem rfl rfl ?_ (rem_add_rem (by decide))) ?_; (· first | decide | omega); skip)
  refine wl_free .none rfl (yf_assign rfl) ?_
  refine wl_nil ?_
  refine wq_then ?_
  refine wc_ret ?_
  refine wq_ret1 rfl rfl (fun w hw => ?_)
  exact ⟨rfl, (HpG.keep hw).ext⟩
theorem reads_call (o : IOp) (w : World) : Calls Try.prog 23 #[.agg (opC o).toArray] w fun e w' => ∃ p : Option Addr × Nat, True ∧ e = .returned (.slice p.1 (readsL o).length p.2) ∧ Hp (fun _ => False) w [] [intRow p.1 p.2 (readsL o)] (fun _ => True) w' :=
  (reads_any o w).mono fun e w' ⟨s, h1, h2, h3⟩ => by
    obtain ⟨A, cap, rfl, _⟩ := row_arr h2 (by simp)
    exact ⟨(A, cap), trivial, h1, Hp.addRow Hp.start0 h3 (r := intRow A cap (readsL o)) h2⟩
theorem one_end {w u : World} {L : List (Nat × Obj)} {X : World → Prop} {A : Option Addr} {cap b4 k : Nat} {cs : List Value} {o : IOp} (h : Hp (fun _ => False) w L [⟨.slice A k cap, 36, 5, k, cs⟩, ⟨.slice (some ⟨b4, 0, none⟩) 1 1, 34, 1, 1, [.int .u32 4]⟩] X u) (hk : k = (oneL o).ops.length) (hcs : cs = opsCells (oneL o).ops) (hcap : k ≤ cap) (hn : U32 o.n) :
    ∃ i : BR, (i.b = oneL o ∧ i.OkN 100) ∧ Ending.returned (.agg #[.slice (some ⟨b4, 0, none⟩) 1 1, .slice none 0 0, .slice A k cap]) = .returned i.v ∧ Hp (fun _ => False) w [] i.rows (fun _ => True) u := by
  subst hk; subst hcs
  have hl : (oneL o).ops.length ≤ 3 := by
    show (⟨20, 0, 0, 0, 0⟩ :: o :: tailL o : List IOp).length ≤ 3
    unfold tailL; split <;> simp
  refine ⟨⟨oneL o, some ⟨b4, 0, none⟩, none, A, 1, 0, cap⟩, ⟨rfl, ⟨fun n hn' => ?_, fun q hq => ?_, by show (1 : Nat) ≤ 100; omega, Nat.zero_le _, by show (oneL o).ops.length ≤ 100; omega, Nat.le_refl _, Nat.le_refl _, hcap⟩⟩, rfl, ?_⟩
  · have : n = 4 := by simpa [oneL] using hn'
    rw [this]; exact ⟨by decide, by decide⟩
  · have hq : q ∈ (⟨20, 0, 0, 0, 0⟩ :: o :: tailL o : List IOp) := hq
    rcases List.mem_cons.1 hq with rfl | hq
    · exact ⟨by decide, by decide⟩
    rcases List.mem_cons.1 hq with rfl | hq
    · exact hn
    · unfold tailL at hq
      split at hq
      · cases hq
      · rw [List.mem_singleton.1 hq]; exact ⟨by decide, by decide⟩
  · have h2 := Hp.nil (hp_and (Hp.drop (L' := []) h (List.nil_sublist _) (.refl _))) 3 1
    exact Hp.perm h2 (((List.Perm.swap _ _ _).cons _).trans ((List.Perm.swap _ _ _).trans ((List.Perm.swap _ _ _).cons _)))
set_option maxRecDepth 100000 in
theorem one_any (o : IOp) (hn : U32 o.n) (w : World) : Calls Try.prog 39 #[.agg (opC o).toArray] w fun e w' => ∃ i : BR, (i.b = oneL o ∧ i.OkN 100) ∧ e = .returned i.v ∧ Hp (fun _ => False) w [] i.rows (fun _ => True) w' := by
  refine calls_wc (args := [.agg (opC o).toArray]) Try.func39 rfl 29 rfl (Nat.le_of_ble_eq_true rfl) ?_
  refine wc_weak (.cons (i := 0) rfl <| .nil) ?_
  refine wc_conseq (H' := Hp (fun _ => False) w [] [] (fun _ => True)) (fun u hu => ?_) ?_
  · subst hu; exact Hp.start0
  refine wc_seq ?_
  refine wc_region ?_
  refine wl_new .none rfl (nf_box rfl rfl) (fun b1 => ?_)
  refine wl_new .none rfl (nf_alloc (z := .agg #[.slice none 0 0, .slice none 0 0, .slice none 0 0]) (cs := [.slice none 0 0, .slice none 0 0, .slice none 0 0]) (by kernel_rfl) rfl) (fun b2 => ?_)
  refine wl_nil ?_
  refine wq_then ?_
  refine wc_seq ?_
  refine wc_region ?_
  refine wl_new .none rfl (nf_bs1 (z := .int .u32 0) rfl rfl Try.underlying22 (by kernel_rfl) (by kernel_rfl) rfl rfl) (fun b4 => ?_)
  refine wl_conseq (fun w h => Hp.toRow (k := 1) (size := 1) h (HpG.old h (k := 0) rfl) rfl (by decide)) ?_
  refine wl_free .none rfl (yf_buildS [.int .i64 0, .int .i64 0, .int .i64 0, .int .i64 0, .int .u32 0] [(0, 1), (1, 1), (2, 1), (3, 1), (4, 1)] rfl (by kernel_rfl) (by kernel_rfl) rfl) ?_
  first | refine wl_free .none rfl (yf_loadAllL 0 rfl rfl Try.underlying36 rfl (by kernel_rfl)) ?_ | refine wl_free .none rfl (yf_loadAllL 1 rfl rfl Try.underlying36 rfl (by kernel_rfl)) ?_ | refine wl_free .none rfl (yf_loadAllL 2 rfl rfl Try.underlying36 rfl (by kernel_rfl)) ?_ | refine wl_free .none rfl (yf_loadAllL 3 rfl rfl Try.underlying36 rfl (by kernel_rfl)) ?_ | refine wl_free .none rfl (yf_loadAllL 4 rfl rfl Try.underlying36 rfl (by kernel_rfl)) ?_ | refine wl_free .none rfl (yf_loadAllL 5 rfl rfl Try.underlying36 rfl (by kernel_rfl)) ?_
  refine wl_new .none rfl (nf_bs2 (z := .agg #[.int .i64 0, .int .i64 0, .int .i64 0, .int .i64 0, .int .u32 0]) rfl rfl rfl rfl Try.underlying24 (by kernel_rfl) (by kernel_rfl) rfl rfl rfl) (fun b7 => ?_)
  refine wl_conseq (fun w h => Hp.toRow (k := 2) (size := 5) h (HpG.old h (k := 0) rfl) rfl (by decide)) ?_
  refine wl_free .none rfl (yf_buildS [.slice none 0 0, .slice none 0 0, .slice none 0 0] [(0, 1), (1, 1), (2, 1)] rfl (by kernel_rfl) (by kernel_rfl) rfl) ?_
  refine wl_new .none rfl (nf_alloc (z := .agg #[.slice none 0 0, .slice none 0 0, .slice none 0 0]) (cs := [.slice none 0 0, .slice none 0 0, .slice none 0 0]) (by kernel_rfl) rfl) (fun b3 => ?_)
  first | refine wl_chain0 .none (cf_storeRow 0 rfl rfl rfl rfl rfl (by kernel_rfl)) (fun _ => ?_) | refine wl_chain0 .none (cf_storeRow 1 rfl rfl rfl rfl rfl (by kernel_rfl)) (fun _ => ?_) | refine wl_chain0 .none (cf_storeRow 2 rfl rfl rfl rfl rfl (by kernel_rfl)) (fun _ => ?_) | refine wl_chain0 .none (cf_storeRow 3 rfl rfl rfl rfl rfl (by kernel_rfl)) (fun _ => ?_) | refine wl_chain0 .none (cf_storeRow 4 rfl rfl rfl rfl rfl (by kernel_rfl)) (fun _ => ?_) | refine wl_chain0 .none (cf_storeRow 5 rfl rfl rfl rfl rfl (by kernel_rfl)) (fun _ => ?_)
  refine wl_nil ?_
  refine wq_then ?_
  refine wc_seq ?_
  refine wc_seq ?_
  refine wc_weak (.cons (i := 0) rfl <| .cons (i := 1) rfl <| .cons (i := 2) rfl <| .cons (i := 3) rfl <| .nil) ?_
  refine wc_region ?_
  refine wl_free .none rfl (yf_fieldAddr (off := 0) (sz := 0) rfl Try.underlying36 (by kernel_rfl) rfl) ?_
  first | refine wl_free .none rfl (yf_loadL 0 rfl rfl rfl Try.underlying3 rfl) ?_ | refine wl_free .none rfl (yf_loadL 1 rfl rfl rfl Try.underlying3 rfl) ?_ | refine wl_free .none rfl (yf_loadL 2 rfl rfl rfl Try.underlying3 rfl) ?_ | refine wl_free .none rfl (yf_loadL 3 rfl rfl rfl Try.underlying3 rfl) ?_ | refine wl_free .none rfl (yf_loadL 4 rfl rfl rfl Try.underlying3 rfl) ?_ | refine wl_free .none rfl (yf_loadL 5 rfl rfl rfl Try.underlying3 rfl) ?_
  refine wl_free .none rfl (yf_neq rfl rfl) ?_
  refine wl_free .none rfl (yf_move rfl) ?_
  refine wl_split 12 rfl (fun g1 => ?_) (fun g1 => ?_)
  · replace g1 := bne_yes g1
    refine wl_free (.some rfl rfl) rfl (yf_fieldAddr (off := 0) (sz := 0) rfl Try.underlying36 (by kernel_rfl) rfl) ?_
    first | refine wl_free (.some rfl rfl) rfl (yf_loadL 0 rfl rfl rfl Try.underlying3 rfl) ?_ | refine wl_free (.some rfl rfl) rfl (yf_loadL 1 rfl rfl rfl Try.underlying3 rfl) ?_ | refine wl_free (.some rfl rfl) rfl (yf_loadL 2 rfl rfl rfl Try.underlying3 rfl) ?_ | refine wl_free (.some rfl rfl) rfl (yf_loadL 3 rfl rfl rfl Try.underlying3 rfl) ?_ | refine wl_free (.some rfl rfl) rfl (yf_loadL 4 rfl rfl rfl Try.underlying3 rfl) ?_ | refine wl_free (.some rfl rfl) rfl (yf_loadL 5 rfl rfl rfl Try.underlying3 rfl) ?_
    refine wl_free (.some rfl rfl) rfl (yf_neq rfl rfl) ?_
    refine wl_free .none rfl (yf_pickT rfl rfl) ?_
    refine wl_free .none rfl (yf_move rfl) ?_
    refine wl_split 17 rfl (fun g2 => ?_) (fun g2 => ?_)
    · replace g2 := bne_yes g2
      refine wl_free (.some rfl rfl) rfl (yf_fieldAddr (off := 0) (sz := 0) rfl Try.underlying36 (by kernel_rfl) rfl) ?_
      first | refine wl_free (.some rfl rfl) rfl (yf_loadL 0 rfl rfl rfl Try.underlying3 rfl) ?_ | refine wl_free (.some rfl rfl) rfl (yf_loadL 1 rfl rfl rfl Try.underlying3 rfl) ?_ | refine wl_free (.some rfl rfl) rfl (yf_loadL 2 rfl rfl rfl Try.underlying3 rfl) ?_ | refine wl_free (.some rfl rfl) rfl (yf_loadL 3 rfl rfl rfl Try.underlying3 rfl) ?_ | refine wl_free (.some rfl rfl) rfl (yf_loadL 4 rfl rfl rfl Try.underlying3 rfl) ?_ | refine wl_free (.some rfl rfl) rfl (yf_loadL 5 rfl rfl rfl Try.underlying3 rfl) ?_
      refine wl_free (.some rfl rfl) rfl (yf_neq rfl rfl) ?_
      refine wl_free .none rfl (yf_pickT rfl rfl) ?_
      refine wl_nil ?_
      refine wq_then ?_
      refine wc_cond rfl (fun hc => ?_) (fun hc => ?_)
      · replace hc := bne_yes hc
        refine wc_weak (.cons (i := 0) rfl <| .cons (i := 1) rfl <| .cons (i := 2) rfl <| .cons (i := 3) rfl <| .cons (i := 21) rfl <| .nil) ?_
        refine wc_region ?_
        refine wl_free .none rfl (yf_fieldAddr (off := 2) (sz := 0) rfl Try.underlying26 (by kernel_rfl) rfl) ?_
        first | refine wl_free .none rfl (yf_loadL 0 rfl rfl rfl Try.underlying24 rfl) ?_ | refine wl_free .none rfl (yf_loadL 1 rfl rfl rfl Try.underlying24 rfl) ?_ | refine wl_free .none rfl (yf_loadL 2 rfl rfl rfl Try.underlying24 rfl) ?_ | refine wl_free .none rfl (yf_loadL 3 rfl rfl rfl Try.underlying24 rfl) ?_ | refine wl_free .none rfl (yf_loadL 4 rfl rfl rfl Try.underlying24 rfl) ?_ | refine wl_free .none rfl (yf_loadL 5 rfl rfl rfl Try.underlying24 rfl) ?_
        refine wl_free .none rfl (yf_buildS [.int .i64 0, .int .i64 0, .int .i64 0, .int .i64 0, .int .u32 0] [(0, 1), (1, 1), (2, 1), (3, 1), (4, 1)] rfl (by kernel_rfl) (by kernel_rfl) rfl) ?_
        refine wl_new .none rfl (nf_bs1 (z := .agg #[.int .i64 0, .int .i64 0, .int .i64 0, .int .i64 0, .int .u32 0]) rfl rfl Try.underlying24 (by kernel_rfl) (by kernel_rfl) rfl rfl) (fun b25 => ?_)
        first | (refine wl_appendL (z := .agg #[.int .i64 0, .int .i64 0, .int .i64 0, .int .i64 0, .int .u32 0]) (bytes := 40) 0 0 .none rfl rfl rfl rfl rfl Try.underlying24 (by kernel_rfl) rfl rfl rfl rfl ?_ ?_ ?_ (fun a26 c26 h26 => ?_); (· omega); (· omega); (· omega); skip) | (refine wl_appendL (z := .agg #[.int .i64 0, .int .i64 0, .int .i64 0, .int .i64 0, .int .u32 0]) (bytes := 40) 1 0 .none rfl rfl rfl rfl rfl Try.underlying24 (by kernel_rfl) rfl rfl rfl rfl ?_ ?_ ?_ (fun a26 c26 h26 => ?_); (· omega); (· omega); (· omega); skip) | (refine wl_appendL (z := .agg #[.int .i64 0, .int .i64 0, .int .i64 0, .int .i64 0, .int .u32 0]) (bytes := 40) 2 0 .none rfl rfl rfl rfl rfl Try.underlying24 (by kernel_rfl) rfl rfl rfl rfl ?_ ?_ ?_ (fun a26 c26 h26 => ?_); (· omega); (· omega); (· omega); skip) | (refine wl_appendL (z := .agg #[.int .i64 0, .int .i64 0, .int .i64 0, .int .i64 0, .int .u32 0]) (bytes := 40) 0 1 .none rfl rfl rfl rfl rfl Try.underlying24 (by kernel_rfl) rfl rfl rfl rfl ?_ ?_ ?_ (fun a26 c26 h26 => ?_); (· omega); (· omega); (· omega); skip) | (refine wl_appendL (z := .agg #[.int .i64 0, .int .i64 0, .int .i64 0, .int .i64 0, .int .u32 0]) (bytes := 40) 1 1 .none rfl rfl rfl rfl rfl Try.underlying24 (by kernel_rfl) rfl rfl rfl rfl ?_ ?_ ?_ (fun a26 c26 h26 => ?_); (· omega); (· omega); (· omega); skip) | (refine wl_appendL (z := .agg #[.int .i64 0, .int .i64 0, .int .i64 0, .int .i64 0, .int .u32 0]) (bytes := 40) 2 1 .none rfl rfl rfl rfl rfl Try.underlying24 (by kernel_rfl) rfl rfl rfl rfl ?_ ?_ ?_ (fun a26 c26 h26 => ?_); (· omega); (· omega); (· omega); skip) | (refine wl_appendL (z := .agg #[.int .i64 0, .int .i64 0, .int .i64 0, .int .i64 0, .int .u32 0]) (bytes := 40) 0 2 .none rfl rfl rfl rfl rfl Try.underlying24 (by kernel_rfl) rfl rfl rfl rfl ?_ ?_ ?_ (fun a26 c26 h26 => ?_); (· omega); (· omega); (· omega); skip) | (refine wl_appendL (z := .agg #[.int .i64 0, .int .i64 0, .int .i64 0, .int .i64 0, .int .u32 0]) (bytes := 40) 1 2 .none rfl rfl rfl rfl rfl Try.underlying24 (by kernel_rfl) rfl rfl rfl rfl ?_ ?_ ?_ (fun a26 c26 h26 => ?_); (· omega); (· omega); (· omega); skip) | (refine wl_appendL (z := .agg #[.int .i64 0, .int .i64 0, .int .i64 0, .int .i64 0, .int .u32 0]) (bytes := 40) 2 2 .none rfl rfl rfl rfl rfl Try.underlying24 (by kernel_rfl) rfl rfl rfl rfl ?_ ?_ ?_ (fun a26 c26 h26 => ?_); (· omega); (· omega); (· omega); skip)
        refine wl_free .none rfl (yf_fieldAddr (off := 2) (sz := 0) rfl Try.underlying26 (by kernel_rfl) rfl) ?_
        first | refine wl_chain0 .none (cf_store 0 rfl rfl rfl rfl rfl (by kernel_rfl)) (fun _ => ?_) | refine wl_chain0 .none (cf_store 1 rfl rfl rfl rfl rfl (by kernel_rfl)) (fun _ => ?_) | refine wl_chain0 .none (cf_store 2 rfl rfl rfl rfl rfl (by kernel_rfl)) (fun _ => ?_) | refine wl_chain0 .none (cf_store 3 rfl rfl rfl rfl rfl (by kernel_rfl)) (fun _ => ?_) | refine wl_chain0 .none (cf_store 4 rfl rfl rfl rfl rfl (by kernel_rfl)) (fun _ => ?_) | refine wl_chain0 .none (cf_store 5 rfl rfl rfl rfl rfl (by kernel_rfl)) (fun _ => ?_)
        refine wl_nil ?_
        refine wq_then ?_
        refine wc_seq ?_
        refine wc_weak (.cons (i := 0) rfl <| .cons (i := 1) rfl <| .cons (i := 2) rfl <| .cons (i := 3) rfl <| .cons (i := 21) rfl <| .nil) ?_
        refine wc_region ?_
        first | refine wl_free .none rfl (yf_loadAllL 0 rfl rfl Try.underlying26 rfl (by kernel_rfl)) ?_ | refine wl_free .none rfl (yf_loadAllL 1 rfl rfl Try.underlying26 rfl (by kernel_rfl)) ?_ | refine wl_free .none rfl (yf_loadAllL 2 rfl rfl Try.underlying26 rfl (by kernel_rfl)) ?_ | refine wl_free .none rfl (yf_loadAllL 3 rfl rfl Try.underlying26 rfl (by kernel_rfl)) ?_ | refine wl_free .none rfl (yf_loadAllL 4 rfl rfl Try.underlying26 rfl (by kernel_rfl)) ?_ | refine wl_free .none rfl (yf_loadAllL 5 rfl rfl Try.underlying26 rfl (by kernel_rfl)) ?_
        first | refine wl_chain0 .none (cf_storeRow 0 rfl rfl rfl rfl rfl (by kernel_rfl)) (fun _ => ?_) | refine wl_chain0 .none (cf_storeRow 1 rfl rfl rfl rfl rfl (by kernel_rfl)) (fun _ => ?_) | refine wl_chain0 .none (cf_storeRow 2 rfl rfl rfl rfl rfl (by kernel_rfl)) (fun _ => ?_) | refine wl_chain0 .none (cf_storeRow 3 rfl rfl rfl rfl rfl (by kernel_rfl)) (fun _ => ?_) | refine wl_chain0 .none (cf_storeRow 4 rfl rfl rfl rfl rfl (by kernel_rfl)) (fun _ => ?_) | refine wl_chain0 .none (cf_storeRow 5 rfl rfl rfl rfl rfl (by kernel_rfl)) (fun _ => ?_)
        refine wl_nil ?_
        refine wq_then ?_
        refine wc_ret ?_
        first | refine wq_retC rfl rfl 0 rfl Try.underlying26 rfl (by kernel_rfl) (fun w hw => ?_) | refine wq_retC rfl rfl 1 rfl Try.underlying26 rfl (by kernel_rfl) (fun w hw => ?_) | refine wq_retC rfl rfl 2 rfl Try.underlying26 rfl (by kernel_rfl) (fun w hw => ?_) | refine wq_retC rfl rfl 3 rfl Try.underlying26 rfl (by kernel_rfl) (fun w hw => ?_) | refine wq_retC rfl rfl 4 rfl Try.underlying26 rfl (by kernel_rfl) (fun w hw => ?_) | refine wq_retC rfl rfl 5 rfl Try.underlying26 rfl (by kernel_rfl) (fun w hw => ?_) | refine wq_retC rfl rfl 6 rfl Try.underlying26 rfl (by kernel_rfl) (fun w hw => ?_)
        have hE : endsL o.code = false := by
          simp at hc; simp [endsL]; omega
        have ht : tailL o = [exitOp 8] := by unfold tailL; rw [if_neg (by rw [hE]; decide)]
        exact one_end (o := o) hw (by show 2 + 1 = (⟨20, 0, 0, 0, 0⟩ :: o :: tailL o : List IOp).length; rw [ht]; rfl) (by show _ = opsCells (⟨20, 0, 0, 0, 0⟩ :: o :: tailL o); rw [ht]; rfl) h26 hn
      · replace hc := bne_no hc
        refine wc_skip ?_
        refine wq_then ?_
        refine wc_seq ?_
        refine wc_weak (.cons (i := 0) rfl <| .cons (i := 1) rfl <| .cons (i := 2) rfl <| .cons (i := 3) rfl <| .cons (i := 21) rfl <| .nil) ?_
        refine wc_region ?_
        first | refine wl_free .none rfl (yf_loadAllL 0 rfl rfl Try.underlying26 rfl (by kernel_rfl)) ?_ | refine wl_free .none rfl (yf_loadAllL 1 rfl rfl Try.underlying26 rfl (by kernel_rfl)) ?_ | refine wl_free .none rfl (yf_loadAllL 2 rfl rfl Try.underlying26 rfl (by kernel_rfl)) ?_ | refine wl_free .none rfl (yf_loadAllL 3 rfl rfl Try.underlying26 rfl (by kernel_rfl)) ?_ | refine wl_free .none rfl (yf_loadAllL 4 rfl rfl Try.underlying26 rfl (by kernel_rfl)) ?_ | refine wl_free .none rfl (yf_loadAllL 5 rfl rfl Try.underlying26 rfl (by kernel_rfl)) ?_
        first | refine wl_chain0 .none (cf_storeRow 0 rfl rfl rfl rfl rfl (by kernel_rfl)) (fun _ => ?_) | refine wl_chain0 .none (cf_storeRow 1 rfl rfl rfl rfl rfl (by kernel_rfl)) (fun _ => ?_) | refine wl_chain0 .none (cf_storeRow 2 rfl rfl rfl rfl rfl (by kernel_rfl)) (fun _ => ?_) | refine wl_chain0 .none (cf_storeRow 3 rfl rfl rfl rfl rfl (by kernel_rfl)) (fun _ => ?_) | refine wl_chain0 .none (cf_storeRow 4 rfl rfl rfl rfl rfl (by kernel_rfl)) (fun _ => ?_) | refine wl_chain0 .none (cf_storeRow 5 rfl rfl rfl rfl rfl (by kernel_rfl)) (fun _ => ?_)
        refine wl_nil ?_
        refine wq_then ?_
        refine wc_ret ?_
        first | refine wq_retC rfl rfl 0 rfl Try.underlying26 rfl (by kernel_rfl) (fun w hw => ?_) | refine wq_retC rfl rfl 1 rfl Try.underlying26 rfl (by kernel_rfl) (fun w hw => ?_) | refine wq_retC rfl rfl 2 rfl Try.underlying26 rfl (by kernel_rfl) (fun w hw => ?_) | refine wq_retC rfl rfl 3 rfl Try.underlying26 rfl (by kernel_rfl) (fun w hw => ?_) | refine wq_retC rfl rfl 4 rfl Try.underlying26 rfl (by kernel_rfl) (fun w hw => ?_) | refine wq_retC rfl rfl 5 rfl Try.underlying26 rfl (by kernel_rfl) (fun w hw => ?_) | refine wq_retC rfl rfl 6 rfl Try.underlying26 rfl (by kernel_rfl) (fun w hw => ?_)
        have hE : endsL o.code = true := by
          have : o.code = 22 := by simpa using hc
          rw [this]; rfl
        have ht : tailL o = [] := by unfold tailL; rw [if_pos hE]
        exact one_end (o := o) hw (by show 2 = (⟨20, 0, 0, 0, 0⟩ :: o :: tailL o : List IOp).length; rw [ht]; rfl) (by show _ = opsCells (⟨20, 0, 0, 0, 0⟩ :: o :: tailL o); rw [ht]; rfl) (Nat.le_refl _) hn
    · replace g2 := bne_no g2
      refine wl_pass (.some rfl rfl rfl) rfl ?_
      refine wl_pass (.some rfl rfl rfl) rfl ?_
      refine wl_pass (.some rfl rfl rfl) rfl ?_
      refine wl_free .none rfl (yf_pickF rfl rfl) ?_
      refine wl_nil ?_
      refine wq_then ?_
      refine wc_false rfl ?_
      refine wc_skip ?_
      refine wq_then ?_
      refine wc_seq ?_
      refine wc_weak (.cons (i := 0) rfl <| .cons (i := 1) rfl <| .cons (i := 2) rfl <| .cons (i := 3) rfl <| .cons (i := 21) rfl <| .nil) ?_
      refine wc_region ?_
      first | refine wl_free .none rfl (yf_loadAllL 0 rfl rfl Try.underlying26 rfl (by kernel_rfl)) ?_ | refine wl_free .none rfl (yf_loadAllL 1 rfl rfl Try.underlying26 rfl (by kernel_rfl)) ?_ | refine wl_free .none rfl (yf_loadAllL 2 rfl rfl Try.underlying26 rfl (by kernel_rfl)) ?_ | refine wl_free .none rfl (yf_loadAllL 3 rfl rfl Try.underlying26 rfl (by kernel_rfl)) ?_ | refine wl_free .none rfl (yf_loadAllL 4 rfl rfl Try.underlying26 rfl (by kernel_rfl)) ?_ | refine wl_free .none rfl (yf_loadAllL 5 rfl rfl Try.underlying26 rfl (by kernel_rfl)) ?_
      first | refine wl_chain0 .none (cf_storeRow 0 rfl rfl rfl rfl rfl (by kernel_rfl)) (fun _ => ?_) | refine wl_chain0 .none (cf_storeRow 1 rfl rfl rfl rfl rfl (by kernel_rfl)) (fun _ => ?_) | refine wl_chain0 .none (cf_storeRow 2 rfl rfl rfl rfl rfl (by kernel_rfl)) (fun _ => ?_) | refine wl_chain0 .none (cf_storeRow 3 rfl rfl rfl rfl rfl (by kernel_rfl)) (fun _ => ?_) | refine wl_chain0 .none (cf_storeRow 4 rfl rfl rfl rfl rfl (by kernel_rfl)) (fun _ => ?_) | refine wl_chain0 .none (cf_storeRow 5 rfl rfl rfl rfl rfl (by kernel_rfl)) (fun _ => ?_)
      refine wl_nil ?_
      refine wq_then ?_
      refine wc_ret ?_
      first | refine wq_retC rfl rfl 0 rfl Try.underlying26 rfl (by kernel_rfl) (fun w hw => ?_) | refine wq_retC rfl rfl 1 rfl Try.underlying26 rfl (by kernel_rfl) (fun w hw => ?_) | refine wq_retC rfl rfl 2 rfl Try.underlying26 rfl (by kernel_rfl) (fun w hw => ?_) | refine wq_retC rfl rfl 3 rfl Try.underlying26 rfl (by kernel_rfl) (fun w hw => ?_) | refine wq_retC rfl rfl 4 rfl Try.underlying26 rfl (by kernel_rfl) (fun w hw => ?_) | refine wq_retC rfl rfl 5 rfl Try.underlying26 rfl (by kernel_rfl) (fun w hw => ?_) | refine wq_retC rfl rfl 6 rfl Try.underlying26 rfl (by kernel_rfl) (fun w hw => ?_)
      have hE : endsL o.code = true := by
        have : o.code = 25 := by simpa using g2
        rw [this]; rfl
      have ht : tailL o = [] := by unfold tailL; rw [if_pos hE]
      exact one_end (o := o) hw (by show 2 = (⟨20, 0, 0, 0, 0⟩ :: o :: tailL o : List IOp).length; rw [ht]; rfl) (by show _ = opsCells (⟨20, 0, 0, 0, 0⟩ :: o :: tailL o); rw [ht]; rfl) (Nat.le_refl _) hn
  · replace g1 := bne_no g1
    refine wl_pass (.some rfl rfl rfl) rfl ?_
    refine wl_pass (.some rfl rfl rfl) rfl ?_
    refine wl_pass (.some rfl rfl rfl) rfl ?_
    refine wl_free .none rfl (yf_pickF rfl rfl) ?_
    refine wl_free .none rfl (yf_move rfl) ?_
    refine wl_pass (.some rfl rfl rfl) rfl ?_
    refine wl_pass (.some rfl rfl rfl) rfl ?_
    refine wl_pass (.some rfl rfl rfl) rfl ?_
    refine wl_free .none rfl (yf_pickF rfl rfl) ?_
    refine wl_nil ?_
    refine wq_then ?_
    refine wc_false rfl ?_
    refine wc_skip ?_
    refine wq_then ?_
    refine wc_seq ?_
    refine wc_weak (.cons (i := 0) rfl <| .cons (i := 1) rfl <| .cons (i := 2) rfl <| .cons (i := 3) rfl <| .cons (i := 21) rfl <| .nil) ?_
    refine wc_region ?_
    first | refine wl_free .none rfl (yf_loadAllL 0 rfl rfl Try.underlying26 rfl (by kernel_rfl)) ?_ | refine wl_free .none rfl (yf_loadAllL 1 rfl rfl Try.underlying26 rfl (by kernel_rfl)) ?_ | refine wl_free .none rfl (yf_loadAllL 2 rfl rfl Try.underlying26 rfl (by kernel_rfl)) ?_ | refine wl_free .none rfl (yf_loadAllL 3 rfl rfl Try.underlying26 rfl (by kernel_rfl)) ?_ | refine wl_free .none rfl (yf_loadAllL 4 rfl rfl Try.underlying26 rfl (by kernel_rfl)) ?_ | refine wl_free .none rfl (yf_loadAllL 5 rfl rfl Try.underlying26 rfl (by kernel_rfl)) ?_
    first | refine wl_chain0 .none (cf_storeRow 0 rfl rfl rfl rfl rfl (by kernel_rfl)) (fun _ => ?_) | refine wl_chain0 .none (cf_storeRow 1 rfl rfl rfl rfl rfl (by kernel_rfl)) (fun _ => ?_) | refine wl_chain0 .none (cf_storeRow 2 rfl rfl rfl rfl rfl (by kernel_rfl)) (fun _ => ?_) | refine wl_chain0 .none (cf_storeRow 3 rfl rfl rfl rfl rfl (by kernel_rfl)) (fun _ => ?_) | refine wl_chain0 .none (cf_storeRow 4 rfl rfl rfl rfl rfl (by kernel_rfl)) (fun _ => ?_) | refine wl_chain0 .none (cf_storeRow 5 rfl rfl rfl rfl rfl (by kernel_rfl)) (fun _ => ?_)
    refine wl_nil ?_
    refine wq_then ?_
    refine wc_ret ?_
    first | refine wq_retC rfl rfl 0 rfl Try.underlying26 rfl (by kernel_rfl) (fun w hw => ?_) | refine wq_retC rfl rfl 1 rfl Try.underlying26 rfl (by kernel_rfl) (fun w hw => ?_) | refine wq_retC rfl rfl 2 rfl Try.underlying26 rfl (by kernel_rfl) (fun w hw => ?_) | refine wq_retC rfl rfl 3 rfl Try.underlying26 rfl (by kernel_rfl) (fun w hw => ?_) | refine wq_retC rfl rfl 4 rfl Try.underlying26 rfl (by kernel_rfl) (fun w hw => ?_) | refine wq_retC rfl rfl 5 rfl Try.underlying26 rfl (by kernel_rfl) (fun w hw => ?_) | refine wq_retC rfl rfl 6 rfl Try.underlying26 rfl (by kernel_rfl) (fun w hw => ?_)
    have hE : endsL o.code = true := by
      have : o.code = 24 := by simpa using g1
      rw [this]; rfl
    have ht : tailL o = [] := by unfold tailL; rw [if_pos hE]
    exact one_end (o := o) hw (by show 2 = (⟨20, 0, 0, 0, 0⟩ :: o :: tailL o : List IOp).length; rw [ht]; rfl) (by show _ = opsCells (⟨20, 0, 0, 0, 0⟩ :: o :: tailL o); rw [ht]; rfl) (Nat.le_refl _) hn
end Go.Proofs.Ytojofinofpgopaa
