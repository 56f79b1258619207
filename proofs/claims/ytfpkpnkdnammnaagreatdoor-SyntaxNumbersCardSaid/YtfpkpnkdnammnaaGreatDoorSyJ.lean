/- The parser of expressions: primary. -/
import Derived.Test.YtfpkpnkdnammnaaGreatDoorSyI
namespace Go.Proofs.YtfpkpnkdnammnaaGreatDoor
open Go.RowKit
theorem tkRow {E : PE} {w : World} (h : TkX E w) {s : PS} (hs : s.at_ ≤ E.m) {o : Nat} (ho : o = 4 * s.at_) : w.rangeAt E.g o (tokC (E.tk s.at_)) := fun j v hv => by subst ho; exact h _ hs j v hv
section
variable {tk : Nat → Tok} {r : EF} {s : PS} {p : Ex × PS}
theorem primS_err (h : primS tk r s = some p) (he : s.err ≠ 0) : p = (noEx, s) := by
  unfold primS at h; rw [if_pos he] at h; cases h; rfl
theorem primS_num (h : primS tk r s = some p) (he : s.err = 0) (h1 : (tk s.at_).kind = 1 ∧ (tk s.at_).value < 4294967296) : p = (.mk 1 (tk s.at_).value [] [], adv s) := by
  unfold primS at h; rw [if_neg (by omega), if_pos h1] at h; cases h; rfl
theorem primS_name (h : primS tk r s = some p) (he : s.err = 0) (h2 : (tk s.at_).kind = 2) : (bif isP tk [40] (adv s) then
      (bif isP tk [41] (adv (adv s)) then some (.mk 3 0 (tk s.at_).text [], adv (adv (adv s)))
      else andThen (r.list [] (adv (adv s))) fun l s' => some (.mk 3 0 (tk s.at_).text l, s'))
    else some (.mk 2 0 (tk s.at_).text [], adv s)) = some p := by
  unfold primS at h; rw [if_neg (by omega), if_neg (by omega), if_pos h2] at h; exact h
theorem primS_rest (h : primS tk r s = some p) (he : s.err = 0) (h1 : ¬ ((tk s.at_).kind = 1 ∧ (tk s.at_).value < 4294967296)) (h2 : (tk s.at_).kind ≠ 2) : (bif isP tk kMem s then andThen (r.bin 0 (needP tk [91] (adv s))) fun e s => some (.mk 4 0 [] [e], needP tk [93] s)
  else bif isP tk kIn s then some (.mk 5 0 [] [], adv s)
  else bif isP tk [40] s then andThen (r.bin 0 (adv s)) fun e s => some (e, needP tk [41] s)
  else some (noEx, failP tk s)) = some p := by
  unfold primS at h; rw [if_neg (by omega), if_neg h1, if_neg h2] at h; exact h
end
theorem prim_call {tk : Nat → Tok} {f : Nat} {s : PS} {nm : Bs} {p : Ex × PS} (h : (bif isP tk [41] s then some (Ex.mk 3 0 nm [], adv s) else andThen ((exF tk f).list [] s) fun l s' => some (.mk 3 0 nm l, s')) = some p) :
    ∃ l s', p = (.mk 3 0 nm l, s') ∧ ((isP tk [41] s = true ∧ l = [] ∧ s' = adv s) ∨ (isP tk [41] s = false ∧ (exF tk f).list [] s = some (l, s'))) := by
  cases hi : isP tk [41] s with
  | true => rw [hi] at h; cases h; exact ⟨[], _, rfl, .inl ⟨rfl, rfl, rfl⟩⟩
  | false =>
    rw [hi] at h
    obtain ⟨l, s1, h1, h2⟩ := andThen_some h
    cases h2
    exact ⟨l, _, rfl, .inr ⟨rfl, h1⟩⟩
set_option maxRecDepth 100000 in
theorem primary_any {E : PE} (hE : E.Ok) {f : Nat} (IH : EOk E f) (hf : f ≤ 100000000) (s : PS) (x : Ex) (s' : PS) (hr : primS E.tk (exF E.tk f) s = some (x, s')) (hs : s.at_ ≤ E.m) (bp : Nat) (w_0 : World) (hb : w_0.heap[bp]? = some (pO E s)) (hX : TkX E w_0) : Calls Tryz.prog 185 #[.pointer (some ⟨bp, 0, none⟩)] w_0 (ExPost E bp w_0 x s') := by
  refine calls_wc (args := [.pointer (some ⟨bp, 0, none⟩)]) Tryz.func185 rfl 90 rfl (Nat.le_of_ble_eq_true rfl) ?_
  refine wc_weak (.cons (i := 0) rfl <| .nil) ?_
  refine wc_conseq (H' := Hp (fun k => k = bp) w_0 [(bp, pO E s)] [] (TkX E)) (fun u hu => ?_) ?_
  · subst hu; exact Hp.startP hb hX
  refine wc_seq ?_
  refine wc_region ?_
  refine wl_new .none rfl (nf_box rfl rfl) (fun b1 => ?_)
  refine wl_new .none rfl (nf_alloc (z := .agg #[.int .i64 0, .int .u32 0, .string ⟨#[]⟩, .slice none 0 0]) (cs := [.int .i64 0, .int .u32 0, .string ⟨#[]⟩, .slice none 0 0]) (by kernel_rfl) rfl) (fun b2 => ?_)
  refine wl_nil ?_
  refine wq_then ?_
  refine wc_seq ?_
  refine wc_region ?_
  refine wl_free .none rfl (yf_loadL 1 rfl rfl rfl Tryz.underlying86 rfl) ?_
  refine wl_free .none rfl (yf_nilCheck rfl) ?_
  refine wl_free .none rfl (yf_fieldAddr (off := 0) (sz := 0) rfl Tryz.underlying90 (by kernel_rfl) rfl) ?_
  refine wl_free .none rfl (yf_loadL 2 rfl rfl rfl Tryz.underlying87 rfl) ?_
  (refine wl_free .none rfl (yf_indexAddrS (j := 0) (es := 4) rfl rfl Tryz.underlying87 (by kernel_rfl) rfl ?_ rfl) ?_; (· first | decide | omega | (simp; done) | (simp; omega)); skip)
  refine wl_free .none rfl (yf_loadRow (cs := tokC (E.tk s.at_)) rfl Tryz.underlying92 rfl (by kernel_rfl) (fun w h => tkRow (HpG.x h) hs (by omega))) ?_
  refine wl_new .none rfl (nf_alloc (z := .agg #[.int .i64 0, .int .i64 0, .string ⟨#[]⟩, .int .u64 0]) (cs := [.int .i64 0, .int .i64 0, .string ⟨#[]⟩, .int .u64 0]) (by kernel_rfl) rfl) (fun b3 => ?_)
  refine wl_chain0 .none (cf_storeRow 0 rfl rfl rfl rfl rfl (by kernel_rfl)) (fun _ => ?_)
  refine wl_nil ?_
  refine wq_then ?_
  refine wc_seq ?_
  refine wc_block ?_
  refine wc_seq ?_
  refine wc_weak (.cons (i := 0) rfl <| .cons (i := 1) rfl <| .cons (i := 2) rfl <| .cons (i := 3) rfl <| .nil) ?_
  refine wc_region ?_
  refine wl_free .none rfl (yf_loadL 2 rfl rfl rfl Tryz.underlying86 rfl) ?_
  refine wl_ok E s bp 3 .none rfl  rfl rfl ?_
  refine wl_free .none rfl (yf_not rfl) ?_
  refine wl_free .none rfl (yf_assign rfl) ?_
  refine wl_nil ?_
  refine wq_then ?_
  refine wc_cond rfl (fun h15 => ?_) (fun h15 => ?_)
  · skip
    have he : s.err ≠ 0 := by simpa using h15
    cases primS_err hr he
    refine wc_skip ?_
    refine wq_block ?_
    refine wq_then ?_
    refine wc_seq ?_
    refine wc_weak (.cons (i := 0) rfl <| .cons (i := 1) rfl <| .cons (i := 2) rfl <| .cons (i := 3) rfl <| .cons (i := 15) rfl <| .nil) ?_
    refine wc_region ?_
    refine wl_free .none rfl (yf_buildS [.int .i64 0, .int .u32 0, .string ⟨#[]⟩, .slice none 0 0] [(0, 1), (1, 1), (2, 1), (3, 1)] rfl (by kernel_rfl) (by kernel_rfl) rfl) ?_
    refine wl_chain0 .none (cf_storeRow 1 rfl rfl rfl rfl rfl (by kernel_rfl)) (fun _ => ?_)
    refine wl_nil ?_
    refine wq_then ?_
    refine wc_ret ?_
    refine wq_retC rfl rfl 1 rfl Tryz.underlying57 rfl (by kernel_rfl) (fun w hw => ?_)
    first
    | exact ⟨none, 0, rfl, (fun h => by cases h), HpG.keep hw, HpG.blkL (j := 3) hw rfl, cp00, [], RdF.nil, .nil⟩
    | exact ⟨A, cap, rfl, (by first | exact hc | (intro h; cases h)), HpG.keep hw, HpG.blkL (j := 4) hw rfl, exsK.lies.mono hF (HpG.x hw).1⟩
    | exact ⟨some ⟨b75, 0, none⟩, 1, rfl, (fun _ => rfl), HpG.keep hw, HpG.blkL (j := 5) hw rfl, cp11, _, HpG.rdF (j := 0) hw rfl (HpG.fresh (j := 0) (i := 5) hw rfl rfl rfl), ExsV.lies.mono hF (HpG.x hw).1.one⟩
  · skip
    have he : s.err = 0 := by simpa using h15
    refine wc_seq ?_
    refine wc_weak (.cons (i := 0) rfl <| .cons (i := 1) rfl <| .cons (i := 2) rfl <| .cons (i := 3) rfl <| .cons (i := 15) rfl <| .nil) ?_
    refine wc_region ?_
    refine wl_free .none rfl (yf_fieldAddr (off := 0) (sz := 0) rfl Tryz.underlying92 (by kernel_rfl) rfl) ?_
    refine wl_free .none rfl (yf_loadL 0 rfl rfl rfl Tryz.underlying3 rfl) ?_
    refine wl_free .none rfl (yf_eql rfl rfl) ?_
    refine wl_free .none rfl (yf_move rfl) ?_
    refine wl_split 23 rfl (fun h44 => ?_) (fun h44 => ?_)
    · replace h44 := eq_of_beq h44
      refine wl_free (.some rfl rfl) rfl (yf_fieldAddr (off := 3) (sz := 0) rfl Tryz.underlying92 (by kernel_rfl) rfl) ?_
      refine wl_free (.some rfl rfl) rfl (yf_loadL 0 rfl rfl rfl Tryz.underlying53 rfl) ?_
      refine wl_free (.some rfl rfl) rfl (yf_lss rfl rfl) ?_
      refine wl_free .none rfl (yf_pickT rfl rfl) ?_
      refine wl_free .none rfl (yf_assign rfl) ?_
      refine wl_nil ?_
      refine wq_then ?_
      refine wc_cond rfl (fun h19 => ?_) (fun h19 => ?_)
      · replace h19 := of_decide_eq_true h19
        cases primS_num hr he ⟨by omega, by omega⟩
        have ha := adv_in hE.kind hs (by omega) (by omega)
        refine wc_seq ?_
        refine wc_weak (.cons (i := 0) rfl <| .cons (i := 1) rfl <| .cons (i := 2) rfl <| .cons (i := 3) rfl <| .cons (i := 15) rfl <| .cons (i := 19) rfl <| .nil) ?_
        refine wc_still 8 (by kernel_rfl) (by kernel_rfl) (fun _ h => HpG.drew h) ?_
        refine wt_free .none rfl (yf_loadL 2 rfl rfl rfl Tryz.underlying86 rfl) ?_
        refine wt_free .none rfl (yf_loadL 2 rfl rfl rfl Tryz.underlying86 rfl) ?_
        refine wt_free .none rfl (yf_nilCheck rfl) ?_
        refine wt_free .none rfl (yf_fieldAddr (off := 0) (sz := 0) rfl Tryz.underlying90 (by kernel_rfl) rfl) ?_
        refine wt_free .none rfl (yf_loadL 3 rfl rfl rfl Tryz.underlying87 rfl) ?_
        refine wt_free .none rfl (yf_adv hE ha rfl rfl Tryz.underlying87 (by kernel_rfl)) ?_
        refine wt_free .none rfl (yf_nilCheck rfl) ?_
        refine wt_free .none rfl (yf_fieldAddr (off := 0) (sz := 0) rfl Tryz.underlying90 (by kernel_rfl) rfl) ?_
        refine wt_tail ?_
        refine wl_chain0 .none (cf_store 3 rfl rfl rfl rfl rfl (by kernel_rfl)) (fun _ => ?_)
        refine wl_nil ?_
        refine wq_then ?_
        refine wc_seq ?_
        refine wc_weak (.cons (i := 0) rfl <| .cons (i := 1) rfl <| .cons (i := 2) rfl <| .cons (i := 3) rfl <| .cons (i := 15) rfl <| .cons (i := 19) rfl <| .nil) ?_
        refine wc_region ?_
        refine wl_free .none rfl (yf_fieldAddr (off := 3) (sz := 0) rfl Tryz.underlying92 (by kernel_rfl) rfl) ?_
        refine wl_free .none rfl (yf_loadL 0 rfl rfl rfl Tryz.underlying53 rfl) ?_
        refine wl_free .none rfl (yf_conv rfl (by kernel_rfl) Tryz.underlying50 (u32_in _ (by omega) (by omega))) ?_
        refine wl_free .none rfl (yf_buildS [.int .i64 0, .int .u32 0, .string ⟨#[]⟩, .slice none 0 0] [(0, 1), (1, 1), (2, 1), (3, 1)] rfl (by kernel_rfl) (by kernel_rfl) rfl) ?_
        refine wl_chain0 .none (cf_storeRow 1 rfl rfl rfl rfl rfl (by kernel_rfl)) (fun _ => ?_)
        refine wl_nil ?_
        refine wq_then ?_
        refine wc_ret ?_
        refine wq_block_ret ?_
        refine wq_then_ret ?_
        refine wq_retC rfl rfl 1 rfl Tryz.underlying57 rfl (by kernel_rfl) (fun w hw => ?_)
        first
        | exact ⟨none, 0, rfl, (fun h => by cases h), HpG.keep hw, HpG.blkL (j := 3) hw rfl, cp00, [], RdF.nil, .nil⟩
        | exact ⟨A, cap, rfl, (by first | exact hc | (intro h; cases h)), HpG.keep hw, HpG.blkL (j := 4) hw rfl, exsK.lies.mono hF (HpG.x hw).1⟩
        | exact ⟨some ⟨b75, 0, none⟩, 1, rfl, (fun _ => rfl), HpG.keep hw, HpG.blkL (j := 5) hw rfl, cp11, _, HpG.rdF (j := 0) hw rfl (HpG.fresh (j := 0) (i := 5) hw rfl rfl rfl), ExsV.lies.mono hF (HpG.x hw).1.one⟩
      · replace h19 := of_decide_eq_false h19
        refine wc_seq ?_
        refine wc_weak (.cons (i := 0) rfl <| .cons (i := 1) rfl <| .cons (i := 2) rfl <| .cons (i := 3) rfl <| .cons (i := 15) rfl <| .cons (i := 19) rfl <| .nil) ?_
        refine wc_region ?_
        refine wl_free .none rfl (yf_fieldAddr (off := 0) (sz := 0) rfl Tryz.underlying92 (by kernel_rfl) rfl) ?_
        refine wl_free .none rfl (yf_loadL 0 rfl rfl rfl Tryz.underlying3 rfl) ?_
        refine wl_free .none rfl (yf_eql rfl rfl) ?_
        refine wl_free .none rfl (yf_assign rfl) ?_
        refine wl_nil ?_
        refine wq_then ?_
        refine wc_cond rfl (fun h40 => ?_) (fun h40 => ?_)
        · replace h40 := eq_of_beq h40
          first
            | (omega)
            | (
              have hr := primS_name hr he (by omega)
              have ha := adv_in hE.kind hs (by omega) (by omega)
              refine wc_seq ?_
              refine wc_weak (.cons (i := 0) rfl <| .cons (i := 1) rfl <| .cons (i := 2) rfl <| .cons (i := 3) rfl <| .cons (i := 15) rfl <| .cons (i := 19) rfl <| .cons (i := 40) rfl <| .nil) ?_
              refine wc_still 8 (by kernel_rfl) (by kernel_rfl) (fun _ h => HpG.drew h) ?_
              first | refine wt_free .none rfl (yf_loadL 0 rfl rfl rfl Tryz.underlying86 rfl) ?_ | refine wt_free .none rfl (yf_loadL 1 rfl rfl rfl Tryz.underlying86 rfl) ?_ | refine wt_free .none rfl (yf_loadL 2 rfl rfl rfl Tryz.underlying86 rfl) ?_ | refine wt_free .none rfl (yf_loadL 3 rfl rfl rfl Tryz.underlying86 rfl) ?_ | refine wt_free .none rfl (yf_loadL 4 rfl rfl rfl Tryz.underlying86 rfl) ?_ | refine wt_free .none rfl (yf_loadL 5 rfl rfl rfl Tryz.underlying86 rfl) ?_
              first | refine wt_free .none rfl (yf_loadL 0 rfl rfl rfl Tryz.underlying86 rfl) ?_ | refine wt_free .none rfl (yf_loadL 1 rfl rfl rfl Tryz.underlying86 rfl) ?_ | refine wt_free .none rfl (yf_loadL 2 rfl rfl rfl Tryz.underlying86 rfl) ?_ | refine wt_free .none rfl (yf_loadL 3 rfl rfl rfl Tryz.underlying86 rfl) ?_ | refine wt_free .none rfl (yf_loadL 4 rfl rfl rfl Tryz.underlying86 rfl) ?_ | refine wt_free .none rfl (yf_loadL 5 rfl rfl rfl Tryz.underlying86 rfl) ?_
              refine wt_free .none rfl (yf_nilCheck rfl) ?_
              refine wt_free .none rfl (yf_fieldAddr (off := 0) (sz := 0) rfl Tryz.underlying90 (by kernel_rfl) rfl) ?_
              first | refine wt_free .none rfl (yf_loadL 0 rfl rfl rfl Tryz.underlying87 rfl) ?_ | refine wt_free .none rfl (yf_loadL 1 rfl rfl rfl Tryz.underlying87 rfl) ?_ | refine wt_free .none rfl (yf_loadL 2 rfl rfl rfl Tryz.underlying87 rfl) ?_ | refine wt_free .none rfl (yf_loadL 3 rfl rfl rfl Tryz.underlying87 rfl) ?_ | refine wt_free .none rfl (yf_loadL 4 rfl rfl rfl Tryz.underlying87 rfl) ?_ | refine wt_free .none rfl (yf_loadL 5 rfl rfl rfl Tryz.underlying87 rfl) ?_
              refine wt_free .none rfl (yf_adv hE ha rfl rfl Tryz.underlying87 (by kernel_rfl)) ?_
              refine wt_free .none rfl (yf_nilCheck rfl) ?_
              refine wt_free .none rfl (yf_fieldAddr (off := 0) (sz := 0) rfl Tryz.underlying90 (by kernel_rfl) rfl) ?_
              refine wt_tail ?_
              first | refine wl_chain0 .none (cf_store 0 rfl rfl rfl rfl rfl (by kernel_rfl)) (fun _ => ?_) | refine wl_chain0 .none (cf_store 1 rfl rfl rfl rfl rfl (by kernel_rfl)) (fun _ => ?_) | refine wl_chain0 .none (cf_store 2 rfl rfl rfl rfl rfl (by kernel_rfl)) (fun _ => ?_) | refine wl_chain0 .none (cf_store 3 rfl rfl rfl rfl rfl (by kernel_rfl)) (fun _ => ?_) | refine wl_chain0 .none (cf_store 4 rfl rfl rfl rfl rfl (by kernel_rfl)) (fun _ => ?_) | refine wl_chain0 .none (cf_store 5 rfl rfl rfl rfl rfl (by kernel_rfl)) (fun _ => ?_)
              refine wl_nil ?_
              refine wq_then ?_
              refine wc_seq ?_
              refine wc_seq ?_
              refine wc_weak (.cons (i := 0) rfl <| .cons (i := 1) rfl <| .cons (i := 2) rfl <| .cons (i := 3) rfl <| .cons (i := 15) rfl <| .cons (i := 19) rfl <| .cons (i := 40) rfl <| .nil) ?_
              refine wc_region ?_
              first | refine wl_free .none rfl (yf_loadL 0 rfl rfl rfl Tryz.underlying86 rfl) ?_ | refine wl_free .none rfl (yf_loadL 1 rfl rfl rfl Tryz.underlying86 rfl) ?_ | refine wl_free .none rfl (yf_loadL 2 rfl rfl rfl Tryz.underlying86 rfl) ?_ | refine wl_free .none rfl (yf_loadL 3 rfl rfl rfl Tryz.underlying86 rfl) ?_ | refine wl_free .none rfl (yf_loadL 4 rfl rfl rfl Tryz.underlying86 rfl) ?_ | refine wl_free .none rfl (yf_loadL 5 rfl rfl rfl Tryz.underlying86 rfl) ?_
              refine wl_take E hE (adv s) ha [40] bp (fun _ h => h) 3 .none rfl  rfl rfl ?_
              refine wl_free .none rfl (yf_not rfl) ?_
              refine wl_nil ?_
              refine wq_then ?_
              refine wc_cond rfl (fun h54 => ?_) (fun h54 => ?_)
              · skip
                have h54 : isP E.tk [40] (adv s) = false := by simpa using h54
                rw [h54] at hr ⊢
                cases hr
                refine wc_seq ?_
                refine wc_weak (.cons (i := 0) rfl <| .cons (i := 1) rfl <| .cons (i := 2) rfl <| .cons (i := 3) rfl <| .cons (i := 15) rfl <| .cons (i := 19) rfl <| .cons (i := 40) rfl <| .cons (i := 54) rfl <| .nil) ?_
                refine wc_region ?_
                refine wl_free .none rfl (yf_fieldAddr (off := 2) (sz := 0) rfl Tryz.underlying92 (by kernel_rfl) rfl) ?_
                first | refine wl_free .none rfl (yf_loadL 0 rfl rfl rfl Tryz.underlying9 rfl) ?_ | refine wl_free .none rfl (yf_loadL 1 rfl rfl rfl Tryz.underlying9 rfl) ?_ | refine wl_free .none rfl (yf_loadL 2 rfl rfl rfl Tryz.underlying9 rfl) ?_ | refine wl_free .none rfl (yf_loadL 3 rfl rfl rfl Tryz.underlying9 rfl) ?_ | refine wl_free .none rfl (yf_loadL 4 rfl rfl rfl Tryz.underlying9 rfl) ?_ | refine wl_free .none rfl (yf_loadL 5 rfl rfl rfl Tryz.underlying9 rfl) ?_
                refine wl_free .none rfl (yf_buildS [.int .i64 0, .int .u32 0, .string ⟨#[]⟩, .slice none 0 0] [(0, 1), (1, 1), (2, 1), (3, 1)] rfl (by kernel_rfl) (by kernel_rfl) rfl) ?_
                first | refine wl_chain0 .none (cf_storeRow 0 rfl rfl rfl rfl rfl (by kernel_rfl)) (fun _ => ?_) | refine wl_chain0 .none (cf_storeRow 1 rfl rfl rfl rfl rfl (by kernel_rfl)) (fun _ => ?_) | refine wl_chain0 .none (cf_storeRow 2 rfl rfl rfl rfl rfl (by kernel_rfl)) (fun _ => ?_) | refine wl_chain0 .none (cf_storeRow 3 rfl rfl rfl rfl rfl (by kernel_rfl)) (fun _ => ?_) | refine wl_chain0 .none (cf_storeRow 4 rfl rfl rfl rfl rfl (by kernel_rfl)) (fun _ => ?_) | refine wl_chain0 .none (cf_storeRow 5 rfl rfl rfl rfl rfl (by kernel_rfl)) (fun _ => ?_)
                refine wl_nil ?_
                refine wq_then ?_
                refine wc_ret ?_
                refine wq_then_ret ?_
                refine wq_block_ret ?_
                refine wq_then_ret ?_
                first | refine wq_retC rfl rfl 0 rfl Tryz.underlying57 rfl (by kernel_rfl) (fun w hw => ?_) | refine wq_retC rfl rfl 1 rfl Tryz.underlying57 rfl (by kernel_rfl) (fun w hw => ?_) | refine wq_retC rfl rfl 2 rfl Tryz.underlying57 rfl (by kernel_rfl) (fun w hw => ?_) | refine wq_retC rfl rfl 3 rfl Tryz.underlying57 rfl (by kernel_rfl) (fun w hw => ?_) | refine wq_retC rfl rfl 4 rfl Tryz.underlying57 rfl (by kernel_rfl) (fun w hw => ?_) | refine wq_retC rfl rfl 5 rfl Tryz.underlying57 rfl (by kernel_rfl) (fun w hw => ?_) | refine wq_retC rfl rfl 6 rfl Tryz.underlying57 rfl (by kernel_rfl) (fun w hw => ?_)
                first
                | exact ⟨none, 0, rfl, (fun h => by cases h), HpG.keep hw, HpG.blkL (j := 3) hw rfl, cp00, [], RdF.nil, .nil⟩
                | exact ⟨A, cap, rfl, (by first | exact hc | (intro h; cases h)), HpG.keep hw, HpG.blkL (j := 4) hw rfl, exsK.lies.mono hF (HpG.x hw).1⟩
                | exact ⟨some ⟨b75, 0, none⟩, 1, rfl, (fun _ => rfl), HpG.keep hw, HpG.blkL (j := 5) hw rfl, cp11, _, HpG.rdF (j := 0) hw rfl (HpG.fresh (j := 0) (i := 5) hw rfl rfl rfl), ExsV.lies.mono hF (HpG.x hw).1.one⟩
              · skip
                have h54 : isP E.tk [40] (adv s) = true := by simpa using h54
                have ha2 := isP_adv hE.kind ha h54
                rw [h54] at hr ⊢
                obtain ⟨l, s2, he2, hr2⟩ := prim_call hr
                cases he2
                refine wc_skip ?_
                refine wq_then ?_
                refine wc_seq ?_
                refine wc_weak (.cons (i := 0) rfl <| .cons (i := 1) rfl <| .cons (i := 2) rfl <| .cons (i := 3) rfl <| .cons (i := 15) rfl <| .cons (i := 19) rfl <| .cons (i := 40) rfl <| .cons (i := 54) rfl <| .nil) ?_
                refine wc_region ?_
                refine wl_free .none rfl (yf_fieldAddr (off := 2) (sz := 0) rfl Tryz.underlying92 (by kernel_rfl) rfl) ?_
                first | refine wl_free .none rfl (yf_loadL 0 rfl rfl rfl Tryz.underlying9 rfl) ?_ | refine wl_free .none rfl (yf_loadL 1 rfl rfl rfl Tryz.underlying9 rfl) ?_ | refine wl_free .none rfl (yf_loadL 2 rfl rfl rfl Tryz.underlying9 rfl) ?_ | refine wl_free .none rfl (yf_loadL 3 rfl rfl rfl Tryz.underlying9 rfl) ?_ | refine wl_free .none rfl (yf_loadL 4 rfl rfl rfl Tryz.underlying9 rfl) ?_ | refine wl_free .none rfl (yf_loadL 5 rfl rfl rfl Tryz.underlying9 rfl) ?_
                refine wl_free .none rfl (yf_buildS [.int .i64 0, .int .u32 0, .string ⟨#[]⟩, .slice none 0 0] [(0, 1), (1, 1), (2, 1), (3, 1)] rfl (by kernel_rfl) (by kernel_rfl) rfl) ?_
                refine wl_new .none rfl (nf_alloc (z := .agg #[.int .i64 0, .int .u32 0, .string ⟨#[]⟩, .slice none 0 0]) (cs := [.int .i64 0, .int .u32 0, .string ⟨#[]⟩, .slice none 0 0]) (by kernel_rfl) rfl) (fun b4 => ?_)
                first | refine wl_chain0 .none (cf_storeRow 0 rfl rfl rfl rfl rfl (by kernel_rfl)) (fun _ => ?_) | refine wl_chain0 .none (cf_storeRow 1 rfl rfl rfl rfl rfl (by kernel_rfl)) (fun _ => ?_) | refine wl_chain0 .none (cf_storeRow 2 rfl rfl rfl rfl rfl (by kernel_rfl)) (fun _ => ?_) | refine wl_chain0 .none (cf_storeRow 3 rfl rfl rfl rfl rfl (by kernel_rfl)) (fun _ => ?_) | refine wl_chain0 .none (cf_storeRow 4 rfl rfl rfl rfl rfl (by kernel_rfl)) (fun _ => ?_) | refine wl_chain0 .none (cf_storeRow 5 rfl rfl rfl rfl rfl (by kernel_rfl)) (fun _ => ?_)
                refine wl_nil ?_
                refine wq_then ?_
                refine wc_seq ?_
                refine wc_weak (.cons (i := 0) rfl <| .cons (i := 1) rfl <| .cons (i := 2) rfl <| .cons (i := 3) rfl <| .cons (i := 4) rfl <| .cons (i := 15) rfl <| .cons (i := 19) rfl <| .cons (i := 40) rfl <| .cons (i := 54) rfl <| .nil) ?_
                refine wc_region ?_
                first | refine wl_free .none rfl (yf_loadL 0 rfl rfl rfl Tryz.underlying86 rfl) ?_ | refine wl_free .none rfl (yf_loadL 1 rfl rfl rfl Tryz.underlying86 rfl) ?_ | refine wl_free .none rfl (yf_loadL 2 rfl rfl rfl Tryz.underlying86 rfl) ?_ | refine wl_free .none rfl (yf_loadL 3 rfl rfl rfl Tryz.underlying86 rfl) ?_ | refine wl_free .none rfl (yf_loadL 4 rfl rfl rfl Tryz.underlying86 rfl) ?_ | refine wl_free .none rfl (yf_loadL 5 rfl rfl rfl Tryz.underlying86 rfl) ?_
                refine wl_free .none rfl (yf_makeFunc rfl rfl) ?_
                refine wl_chain (ι := {i : (Option Addr × Nat) × (Nat → Prop) // ∀ k, i.2 k → w_0.heap.size ≤ k}) (val := fun _ => .tuple #[]) (H' := fun i => Hp (fun k => k = bp) w_0 [(b4, exB 3 0 (E.tk s.at_).text i.1.1.1 l.length i.1.1.2), (b3, bk 92 (tokC (E.tk s.at_))), (b2, bk 57 (exC 0 0 [] none 0 0)), (b1, pxO bp), (bp, pO E s')] [] (fun u => exsK i.1.2 u (.mk 3 0 (E.tk s.at_).text l) i.1.1.1 i.1.1.2 ∧ TkX E u)) .none rfl  (cf_call (by kernel_rfl) rfl (fun w hw => ?_)) (fun i => ?_)
                · refine (list_any hE IH hf (adv (adv s)) l s' hr2 ha2 bp b4 b1 _ (HpG.ne hw (i := 4) (j := 0) rfl rfl rfl) w (HpG.blkL hw (j := 4) rfl) (HpG.blkL hw (j := 0) rfl) (HpG.blkL hw (j := 3) rfl) (HpG.x hw)).mono fun e w' ⟨A, cap, e1, e2, e3, e4, e5⟩ => ?_
                  obtain ⟨F, hF, hp⟩ := Hp.call2T (T := fun F u => exsK F u (.mk 3 0 (E.tk s.at_).text l) A cap) exsK.lies hw (bp_lt hb) (i := 4) (j := 0) rfl rfl rfl e2 e3 e4 e5
                  exact ⟨_, e1, ⟨((A, cap), F), hF⟩, rfl, hp⟩
                obtain ⟨⟨⟨A, cap⟩, F⟩, hF⟩ := i
                dsimp only at hF ⊢
                refine wl_nil ?_
                refine wq_then ?_
                refine wc_seq ?_
                refine wc_weak (.cons (i := 0) rfl <| .cons (i := 1) rfl <| .cons (i := 2) rfl <| .cons (i := 3) rfl <| .cons (i := 4) rfl <| .cons (i := 15) rfl <| .cons (i := 19) rfl <| .cons (i := 40) rfl <| .cons (i := 54) rfl <| .nil) ?_
                refine wc_region ?_
                first | refine wl_free .none rfl (yf_loadAllL 0 rfl rfl Tryz.underlying57 rfl (by kernel_rfl)) ?_ | refine wl_free .none rfl (yf_loadAllL 1 rfl rfl Tryz.underlying57 rfl (by kernel_rfl)) ?_ | refine wl_free .none rfl (yf_loadAllL 2 rfl rfl Tryz.underlying57 rfl (by kernel_rfl)) ?_ | refine wl_free .none rfl (yf_loadAllL 3 rfl rfl Tryz.underlying57 rfl (by kernel_rfl)) ?_ | refine wl_free .none rfl (yf_loadAllL 4 rfl rfl Tryz.underlying57 rfl (by kernel_rfl)) ?_ | refine wl_free .none rfl (yf_loadAllL 5 rfl rfl Tryz.underlying57 rfl (by kernel_rfl)) ?_
                first | refine wl_chain0 .none (cf_storeRow 0 rfl rfl rfl rfl rfl (by kernel_rfl)) (fun _ => ?_) | refine wl_chain0 .none (cf_storeRow 1 rfl rfl rfl rfl rfl (by kernel_rfl)) (fun _ => ?_) | refine wl_chain0 .none (cf_storeRow 2 rfl rfl rfl rfl rfl (by kernel_rfl)) (fun _ => ?_) | refine wl_chain0 .none (cf_storeRow 3 rfl rfl rfl rfl rfl (by kernel_rfl)) (fun _ => ?_) | refine wl_chain0 .none (cf_storeRow 4 rfl rfl rfl rfl rfl (by kernel_rfl)) (fun _ => ?_) | refine wl_chain0 .none (cf_storeRow 5 rfl rfl rfl rfl rfl (by kernel_rfl)) (fun _ => ?_)
                refine wl_nil ?_
                refine wq_then ?_
                refine wc_ret ?_
                refine wq_block_ret ?_
                refine wq_then_ret ?_
                first | refine wq_retC rfl rfl 0 rfl Tryz.underlying57 rfl (by kernel_rfl) (fun w hw => ?_) | refine wq_retC rfl rfl 1 rfl Tryz.underlying57 rfl (by kernel_rfl) (fun w hw => ?_) | refine wq_retC rfl rfl 2 rfl Tryz.underlying57 rfl (by kernel_rfl) (fun w hw => ?_) | refine wq_retC rfl rfl 3 rfl Tryz.underlying57 rfl (by kernel_rfl) (fun w hw => ?_) | refine wq_retC rfl rfl 4 rfl Tryz.underlying57 rfl (by kernel_rfl) (fun w hw => ?_) | refine wq_retC rfl rfl 5 rfl Tryz.underlying57 rfl (by kernel_rfl) (fun w hw => ?_) | refine wq_retC rfl rfl 6 rfl Tryz.underlying57 rfl (by kernel_rfl) (fun w hw => ?_)
                first
                | exact ⟨none, 0, rfl, (fun h => by cases h), HpG.keep hw, HpG.blkL (j := 3) hw rfl, cp00, [], RdF.nil, .nil⟩
                | exact ⟨A, cap, rfl, (by first | exact hc | (intro h; cases h)), HpG.keep hw, HpG.blkL (j := 4) hw rfl, exsK.lies.mono hF (HpG.x hw).1⟩
                | exact ⟨some ⟨b75, 0, none⟩, 1, rfl, (fun _ => rfl), HpG.keep hw, HpG.blkL (j := 5) hw rfl, cp11, _, HpG.rdF (j := 0) hw rfl (HpG.fresh (j := 0) (i := 5) hw rfl rfl rfl), ExsV.lies.mono hF (HpG.x hw).1.one⟩)
        · replace h40 := beq_no h40
          first
            | (omega)
            | (
              have hr := primS_rest hr he (by omega) (by omega)
              refine wc_seq ?_
              refine wc_weak (.cons (i := 0) rfl <| .cons (i := 1) rfl <| .cons (i := 2) rfl <| .cons (i := 3) rfl <| .cons (i := 15) rfl <| .cons (i := 19) rfl <| .cons (i := 40) rfl <| .nil) ?_
              refine wc_region ?_
              refine wl_free .none rfl (yf_loadL 2 rfl rfl rfl Tryz.underlying86 rfl) ?_
              refine wl_take E hE s hs kMem bp (fun _ h => h) 3 .none rfl  rfl rfl ?_
              refine wl_free .none rfl (yf_assign rfl) ?_
              refine wl_nil ?_
              refine wq_then ?_
              refine wc_cond rfl (fun h65 => ?_) (fun h65 => ?_)
              · skip
                have ha := isP_adv hE.kind hs h65
                have hn := needP_in hE.kind [91] ha
                rw [h65] at hr ⊢
                obtain ⟨e, s1, hx1, hx2⟩ := andThen_some hr
                cases hx2
                have hs1 := (exF_g hE.kind f).bin 0 _ hn.1 e s1 hx1
                refine wc_seq ?_
                refine wc_weak (.cons (i := 0) rfl <| .cons (i := 1) rfl <| .cons (i := 2) rfl <| .cons (i := 3) rfl <| .cons (i := 15) rfl <| .cons (i := 19) rfl <| .cons (i := 40) rfl <| .cons (i := 65) rfl <| .nil) ?_
                refine wc_region ?_
                refine wl_free .none rfl (yf_loadL 2 rfl rfl rfl Tryz.underlying86 rfl) ?_
                refine wl_need E hE (adv s) ha [91] bp (fun _ h => h) 3 .none rfl  rfl rfl ?_
                refine wl_nil ?_
                refine wq_then ?_
                refine wc_seq ?_
                refine wc_weak (.cons (i := 0) rfl <| .cons (i := 1) rfl <| .cons (i := 2) rfl <| .cons (i := 3) rfl <| .cons (i := 15) rfl <| .cons (i := 19) rfl <| .cons (i := 40) rfl <| .cons (i := 65) rfl <| .nil) ?_
                refine wc_region ?_
                refine wl_free .none rfl (yf_loadL 2 rfl rfl rfl Tryz.underlying86 rfl) ?_
                refine wl_ex E (needP E.tk [91] (adv s)) e s1 bp 3 (bp_lt hb) (fun _ h => h) (fun w h1 h2 => expr_any IH _ e s1 hx1 hn.1 bp w h1 h2) .none rfl  (by kernel_rfl) rfl rfl (fun A cap F hF hc => ?_)
                refine wl_new .none rfl (nf_alloc (z := .agg #[.int .i64 0, .int .u32 0, .string ⟨#[]⟩, .slice none 0 0]) (cs := [.int .i64 0, .int .u32 0, .string ⟨#[]⟩, .slice none 0 0]) (by kernel_rfl) rfl) (fun b5 => ?_)
                refine wl_chain0 .none (cf_storeRow 0 rfl rfl rfl rfl rfl (by kernel_rfl)) (fun _ => ?_)
                refine wl_nil ?_
                refine wq_then ?_
                refine wc_seq ?_
                refine wc_weak (.cons (i := 0) rfl <| .cons (i := 1) rfl <| .cons (i := 2) rfl <| .cons (i := 3) rfl <| .cons (i := 5) rfl <| .cons (i := 15) rfl <| .cons (i := 19) rfl <| .cons (i := 40) rfl <| .cons (i := 65) rfl <| .nil) ?_
                refine wc_region ?_
                refine wl_free .none rfl (yf_loadL 3 rfl rfl rfl Tryz.underlying86 rfl) ?_
                refine wl_need E hE s1 hs1.2.1 [93] bp (fun _ h => h.2) 4 .none rfl  rfl rfl ?_
                refine wl_nil ?_
                refine wq_then ?_
                refine wc_seq ?_
                refine wc_weak (.cons (i := 0) rfl <| .cons (i := 1) rfl <| .cons (i := 2) rfl <| .cons (i := 3) rfl <| .cons (i := 5) rfl <| .cons (i := 15) rfl <| .cons (i := 19) rfl <| .cons (i := 40) rfl <| .cons (i := 65) rfl <| .nil) ?_
                refine wc_region ?_
                refine wl_free .none rfl (yf_loadAllL 0 rfl rfl Tryz.underlying57 rfl (by kernel_rfl)) ?_
                refine wl_new .none rfl (nf_bs1 (z := .agg #[.int .i64 0, .int .u32 0, .string ⟨#[]⟩, .slice none 0 0]) rfl rfl Tryz.underlying55 (by kernel_rfl) (by kernel_rfl) rfl rfl) (fun b75 => ?_)
                refine wl_free .none rfl (yf_buildS [.int .i64 0, .int .u32 0, .string ⟨#[]⟩, .slice none 0 0] [(0, 1), (1, 1), (2, 1), (3, 1)] rfl (by kernel_rfl) (by kernel_rfl) rfl) ?_
                refine wl_chain0 .none (cf_storeRow 3 rfl rfl rfl rfl rfl (by kernel_rfl)) (fun _ => ?_)
                refine wl_nil ?_
                refine wq_then ?_
                refine wc_ret ?_
                refine wq_block_ret ?_
                refine wq_then_ret ?_
                refine wq_retC rfl rfl 3 rfl Tryz.underlying57 rfl (by kernel_rfl) (fun w hw => ?_)
                first
                | exact ⟨none, 0, rfl, (fun h => by cases h), HpG.keep hw, HpG.blkL (j := 3) hw rfl, cp00, [], RdF.nil, .nil⟩
                | exact ⟨A, cap, rfl, (by first | exact hc | (intro h; cases h)), HpG.keep hw, HpG.blkL (j := 4) hw rfl, exsK.lies.mono hF (HpG.x hw).1⟩
                | exact ⟨some ⟨b75, 0, none⟩, 1, rfl, (fun _ => rfl), HpG.keep hw, HpG.blkL (j := 5) hw rfl, cp11, _, HpG.rdF (j := 0) hw rfl (HpG.fresh (j := 0) (i := 5) hw rfl rfl rfl), ExsV.lies.mono hF (HpG.x hw).1.one⟩
              · skip
                rw [h65] at hr ⊢
                refine wc_seq ?_
                refine wc_weak (.cons (i := 0) rfl <| .cons (i := 1) rfl <| .cons (i := 2) rfl <| .cons (i := 3) rfl <| .cons (i := 15) rfl <| .cons (i := 19) rfl <| .cons (i := 40) rfl <| .cons (i := 65) rfl <| .nil) ?_
                refine wc_region ?_
                refine wl_free .none rfl (yf_loadL 2 rfl rfl rfl Tryz.underlying86 rfl) ?_
                refine wl_take E hE s hs kIn bp (fun _ h => h) 3 .none rfl  rfl rfl ?_
                refine wl_free .none rfl (yf_assign rfl) ?_
                refine wl_nil ?_
                refine wq_then ?_
                refine wc_cond rfl (fun h77 => ?_) (fun h77 => ?_)
                · skip
                  rw [h77] at hr ⊢
                  cases hr
                  refine wc_seq ?_
                  refine wc_weak (.cons (i := 0) rfl <| .cons (i := 1) rfl <| .cons (i := 2) rfl <| .cons (i := 3) rfl <| .cons (i := 15) rfl <| .cons (i := 19) rfl <| .cons (i := 40) rfl <| .cons (i := 65) rfl <| .cons (i := 77) rfl <| .nil) ?_
                  refine wc_region ?_
                  refine wl_free .none rfl (yf_buildS [.int .i64 0, .int .u32 0, .string ⟨#[]⟩, .slice none 0 0] [(0, 1), (1, 1), (2, 1), (3, 1)] rfl (by kernel_rfl) (by kernel_rfl) rfl) ?_
                  refine wl_chain0 .none (cf_storeRow 1 rfl rfl rfl rfl rfl (by kernel_rfl)) (fun _ => ?_)
                  refine wl_nil ?_
                  refine wq_then ?_
                  refine wc_ret ?_
                  refine wq_block_ret ?_
                  refine wq_then_ret ?_
                  refine wq_retC rfl rfl 1 rfl Tryz.underlying57 rfl (by kernel_rfl) (fun w hw => ?_)
                  first
                  | exact ⟨none, 0, rfl, (fun h => by cases h), HpG.keep hw, HpG.blkL (j := 3) hw rfl, cp00, [], RdF.nil, .nil⟩
                  | exact ⟨A, cap, rfl, (by first | exact hc | (intro h; cases h)), HpG.keep hw, HpG.blkL (j := 4) hw rfl, exsK.lies.mono hF (HpG.x hw).1⟩
                  | exact ⟨some ⟨b75, 0, none⟩, 1, rfl, (fun _ => rfl), HpG.keep hw, HpG.blkL (j := 5) hw rfl, cp11, _, HpG.rdF (j := 0) hw rfl (HpG.fresh (j := 0) (i := 5) hw rfl rfl rfl), ExsV.lies.mono hF (HpG.x hw).1.one⟩
                · skip
                  rw [h77] at hr ⊢
                  refine wc_seq ?_
                  refine wc_weak (.cons (i := 0) rfl <| .cons (i := 1) rfl <| .cons (i := 2) rfl <| .cons (i := 3) rfl <| .cons (i := 15) rfl <| .cons (i := 19) rfl <| .cons (i := 40) rfl <| .cons (i := 65) rfl <| .cons (i := 77) rfl <| .nil) ?_
                  refine wc_region ?_
                  refine wl_free .none rfl (yf_loadL 2 rfl rfl rfl Tryz.underlying86 rfl) ?_
                  refine wl_take E hE s hs [40] bp (fun _ h => h) 3 .none rfl  rfl rfl ?_
                  refine wl_free .none rfl (yf_assign rfl) ?_
                  refine wl_nil ?_
                  refine wq_then ?_
                  refine wc_cond rfl (fun h81 => ?_) (fun h81 => ?_)
                  · skip
                    have ha := isP_adv hE.kind hs h81
                    rw [h81] at hr ⊢
                    obtain ⟨e, s1, hx1, hx2⟩ := andThen_some hr
                    cases hx2
                    have hs1 := (exF_g hE.kind f).bin 0 _ ha x s1 hx1
                    refine wc_seq ?_
                    refine wc_weak (.cons (i := 0) rfl <| .cons (i := 1) rfl <| .cons (i := 2) rfl <| .cons (i := 3) rfl <| .cons (i := 15) rfl <| .cons (i := 19) rfl <| .cons (i := 40) rfl <| .cons (i := 65) rfl <| .cons (i := 77) rfl <| .cons (i := 81) rfl <| .nil) ?_
                    refine wc_region ?_
                    refine wl_free .none rfl (yf_loadL 2 rfl rfl rfl Tryz.underlying86 rfl) ?_
                    refine wl_ex E (adv s) x s1 bp 3 (bp_lt hb) (fun _ h => h) (fun w h1 h2 => expr_any IH _ x s1 hx1 ha bp w h1 h2) .none rfl  (by kernel_rfl) rfl rfl (fun A cap F hF hc => ?_)
                    refine wl_new .none rfl (nf_alloc (z := .agg #[.int .i64 0, .int .u32 0, .string ⟨#[]⟩, .slice none 0 0]) (cs := [.int .i64 0, .int .u32 0, .string ⟨#[]⟩, .slice none 0 0]) (by kernel_rfl) rfl) (fun b6 => ?_)
                    refine wl_chain0 .none (cf_storeRow 0 rfl rfl rfl rfl rfl (by kernel_rfl)) (fun _ => ?_)
                    refine wl_nil ?_
                    refine wq_then ?_
                    refine wc_seq ?_
                    refine wc_weak (.cons (i := 0) rfl <| .cons (i := 1) rfl <| .cons (i := 2) rfl <| .cons (i := 3) rfl <| .cons (i := 6) rfl <| .cons (i := 15) rfl <| .cons (i := 19) rfl <| .cons (i := 40) rfl <| .cons (i := 65) rfl <| .cons (i := 77) rfl <| .cons (i := 81) rfl <| .nil) ?_
                    refine wc_region ?_
                    refine wl_free .none rfl (yf_loadL 3 rfl rfl rfl Tryz.underlying86 rfl) ?_
                    refine wl_need E hE s1 hs1.2.1 [41] bp (fun _ h => h.2) 4 .none rfl  rfl rfl ?_
                    refine wl_nil ?_
                    refine wq_then ?_
                    refine wc_seq ?_
                    refine wc_weak (.cons (i := 0) rfl <| .cons (i := 1) rfl <| .cons (i := 2) rfl <| .cons (i := 3) rfl <| .cons (i := 6) rfl <| .cons (i := 15) rfl <| .cons (i := 19) rfl <| .cons (i := 40) rfl <| .cons (i := 65) rfl <| .cons (i := 77) rfl <| .cons (i := 81) rfl <| .nil) ?_
                    refine wc_region ?_
                    refine wl_free .none rfl (yf_loadAllL 0 rfl rfl Tryz.underlying57 rfl (by kernel_rfl)) ?_
                    refine wl_chain0 .none (cf_storeRow 2 rfl rfl rfl rfl rfl (by kernel_rfl)) (fun _ => ?_)
                    refine wl_nil ?_
                    refine wq_then ?_
                    refine wc_ret ?_
                    refine wq_block_ret ?_
                    refine wq_then_ret ?_
                    refine wq_retC rfl rfl 2 rfl Tryz.underlying57 rfl (by kernel_rfl) (fun w hw => ?_)
                    first
                    | exact ⟨none, 0, rfl, (fun h => by cases h), HpG.keep hw, HpG.blkL (j := 3) hw rfl, cp00, [], RdF.nil, .nil⟩
                    | exact ⟨A, cap, rfl, (by first | exact hc | (intro h; cases h)), HpG.keep hw, HpG.blkL (j := 4) hw rfl, exsK.lies.mono hF (HpG.x hw).1⟩
                    | exact ⟨some ⟨b75, 0, none⟩, 1, rfl, (fun _ => rfl), HpG.keep hw, HpG.blkL (j := 5) hw rfl, cp11, _, HpG.rdF (j := 0) hw rfl (HpG.fresh (j := 0) (i := 5) hw rfl rfl rfl), ExsV.lies.mono hF (HpG.x hw).1.one⟩
                  · skip
                    rw [h81] at hr ⊢
                    cases hr
                    refine wc_weak (.cons (i := 0) rfl <| .cons (i := 1) rfl <| .cons (i := 2) rfl <| .cons (i := 3) rfl <| .cons (i := 15) rfl <| .cons (i := 19) rfl <| .cons (i := 40) rfl <| .cons (i := 65) rfl <| .cons (i := 77) rfl <| .cons (i := 81) rfl <| .nil) ?_
                    refine wc_region ?_
                    refine wl_free .none rfl (yf_loadL 2 rfl rfl rfl Tryz.underlying86 rfl) ?_
                    refine wl_fail E s hs bp (fun _ h => h) 3 .none rfl  rfl rfl ?_
                    refine wl_nil ?_
                    refine wq_block ?_
                    refine wq_then ?_
                    refine wc_seq ?_
                    refine wc_weak (.cons (i := 0) rfl <| .cons (i := 1) rfl <| .cons (i := 2) rfl <| .cons (i := 3) rfl <| .cons (i := 15) rfl <| .cons (i := 19) rfl <| .cons (i := 40) rfl <| .cons (i := 65) rfl <| .cons (i := 77) rfl <| .cons (i := 81) rfl <| .nil) ?_
                    refine wc_region ?_
                    refine wl_free .none rfl (yf_buildS [.int .i64 0, .int .u32 0, .string ⟨#[]⟩, .slice none 0 0] [(0, 1), (1, 1), (2, 1), (3, 1)] rfl (by kernel_rfl) (by kernel_rfl) rfl) ?_
                    refine wl_chain0 .none (cf_storeRow 1 rfl rfl rfl rfl rfl (by kernel_rfl)) (fun _ => ?_)
                    refine wl_nil ?_
                    refine wq_then ?_
                    refine wc_ret ?_
                    refine wq_retC rfl rfl 1 rfl Tryz.underlying57 rfl (by kernel_rfl) (fun w hw => ?_)
                    first
                    | exact ⟨none, 0, rfl, (fun h => by cases h), HpG.keep hw, HpG.blkL (j := 3) hw rfl, cp00, [], RdF.nil, .nil⟩
                    | exact ⟨A, cap, rfl, (by first | exact hc | (intro h; cases h)), HpG.keep hw, HpG.blkL (j := 4) hw rfl, exsK.lies.mono hF (HpG.x hw).1⟩
                    | exact ⟨some ⟨b75, 0, none⟩, 1, rfl, (fun _ => rfl), HpG.keep hw, HpG.blkL (j := 5) hw rfl, cp11, _, HpG.rdF (j := 0) hw rfl (HpG.fresh (j := 0) (i := 5) hw rfl rfl rfl), ExsV.lies.mono hF (HpG.x hw).1.one⟩)
    · replace h44 := beq_no h44
      refine wl_pass (.some rfl rfl rfl) rfl ?_
      refine wl_pass (.some rfl rfl rfl) rfl ?_
      refine wl_pass (.some rfl rfl rfl) rfl ?_
      refine wl_free .none rfl (yf_pickF rfl rfl) ?_
      refine wl_free .none rfl (yf_assign rfl) ?_
      refine wl_nil ?_
      refine wq_then ?_
      refine wc_false rfl ?_
      refine wc_seq ?_
      refine wc_weak (.cons (i := 0) rfl <| .cons (i := 1) rfl <| .cons (i := 2) rfl <| .cons (i := 3) rfl <| .cons (i := 15) rfl <| .cons (i := 19) rfl <| .nil) ?_
      refine wc_region ?_
      refine wl_free .none rfl (yf_fieldAddr (off := 0) (sz := 0) rfl Tryz.underlying92 (by kernel_rfl) rfl) ?_
      refine wl_free .none rfl (yf_loadL 0 rfl rfl rfl Tryz.underlying3 rfl) ?_
      refine wl_free .none rfl (yf_eql rfl rfl) ?_
      refine wl_free .none rfl (yf_assign rfl) ?_
      refine wl_nil ?_
      refine wq_then ?_
      refine wc_cond rfl (fun h40 => ?_) (fun h40 => ?_)
      · replace h40 := eq_of_beq h40
        first
          | (omega)
          | (
            have hr := primS_name hr he (by omega)
            have ha := adv_in hE.kind hs (by omega) (by omega)
            refine wc_seq ?_
            refine wc_weak (.cons (i := 0) rfl <| .cons (i := 1) rfl <| .cons (i := 2) rfl <| .cons (i := 3) rfl <| .cons (i := 15) rfl <| .cons (i := 19) rfl <| .cons (i := 40) rfl <| .nil) ?_
            refine wc_still 8 (by kernel_rfl) (by kernel_rfl) (fun _ h => HpG.drew h) ?_
            refine wt_free .none rfl (yf_loadL 2 rfl rfl rfl Tryz.underlying86 rfl) ?_
            refine wt_free .none rfl (yf_loadL 2 rfl rfl rfl Tryz.underlying86 rfl) ?_
            refine wt_free .none rfl (yf_nilCheck rfl) ?_
            refine wt_free .none rfl (yf_fieldAddr (off := 0) (sz := 0) rfl Tryz.underlying90 (by kernel_rfl) rfl) ?_
            refine wt_free .none rfl (yf_loadL 3 rfl rfl rfl Tryz.underlying87 rfl) ?_
            refine wt_free .none rfl (yf_adv hE ha rfl rfl Tryz.underlying87 (by kernel_rfl)) ?_
            refine wt_free .none rfl (yf_nilCheck rfl) ?_
            refine wt_free .none rfl (yf_fieldAddr (off := 0) (sz := 0) rfl Tryz.underlying90 (by kernel_rfl) rfl) ?_
            refine wt_tail ?_
            refine wl_chain0 .none (cf_store 3 rfl rfl rfl rfl rfl (by kernel_rfl)) (fun _ => ?_)
            refine wl_nil ?_
            refine wq_then ?_
            refine wc_seq ?_
            refine wc_seq ?_
            refine wc_weak (.cons (i := 0) rfl <| .cons (i := 1) rfl <| .cons (i := 2) rfl <| .cons (i := 3) rfl <| .cons (i := 15) rfl <| .cons (i := 19) rfl <| .cons (i := 40) rfl <| .nil) ?_
            refine wc_region ?_
            refine wl_free .none rfl (yf_loadL 2 rfl rfl rfl Tryz.underlying86 rfl) ?_
            refine wl_take E hE (adv s) ha [40] bp (fun _ h => h) 3 .none rfl  rfl rfl ?_
            refine wl_free .none rfl (yf_not rfl) ?_
            refine wl_nil ?_
            refine wq_then ?_
            refine wc_cond rfl (fun h54 => ?_) (fun h54 => ?_)
            · skip
              have h54 : isP E.tk [40] (adv s) = false := by simpa using h54
              rw [h54] at hr ⊢
              cases hr
              refine wc_seq ?_
              refine wc_weak (.cons (i := 0) rfl <| .cons (i := 1) rfl <| .cons (i := 2) rfl <| .cons (i := 3) rfl <| .cons (i := 15) rfl <| .cons (i := 19) rfl <| .cons (i := 40) rfl <| .cons (i := 54) rfl <| .nil) ?_
              refine wc_region ?_
              refine wl_free .none rfl (yf_fieldAddr (off := 2) (sz := 0) rfl Tryz.underlying92 (by kernel_rfl) rfl) ?_
              refine wl_free .none rfl (yf_loadL 0 rfl rfl rfl Tryz.underlying9 rfl) ?_
              refine wl_free .none rfl (yf_buildS [.int .i64 0, .int .u32 0, .string ⟨#[]⟩, .slice none 0 0] [(0, 1), (1, 1), (2, 1), (3, 1)] rfl (by kernel_rfl) (by kernel_rfl) rfl) ?_
              refine wl_chain0 .none (cf_storeRow 1 rfl rfl rfl rfl rfl (by kernel_rfl)) (fun _ => ?_)
              refine wl_nil ?_
              refine wq_then ?_
              refine wc_ret ?_
              refine wq_then_ret ?_
              refine wq_block_ret ?_
              refine wq_then_ret ?_
              refine wq_retC rfl rfl 1 rfl Tryz.underlying57 rfl (by kernel_rfl) (fun w hw => ?_)
              first
              | exact ⟨none, 0, rfl, (fun h => by cases h), HpG.keep hw, HpG.blkL (j := 3) hw rfl, cp00, [], RdF.nil, .nil⟩
              | exact ⟨A, cap, rfl, (by first | exact hc | (intro h; cases h)), HpG.keep hw, HpG.blkL (j := 4) hw rfl, exsK.lies.mono hF (HpG.x hw).1⟩
              | exact ⟨some ⟨b75, 0, none⟩, 1, rfl, (fun _ => rfl), HpG.keep hw, HpG.blkL (j := 5) hw rfl, cp11, _, HpG.rdF (j := 0) hw rfl (HpG.fresh (j := 0) (i := 5) hw rfl rfl rfl), ExsV.lies.mono hF (HpG.x hw).1.one⟩
            · skip
              have h54 : isP E.tk [40] (adv s) = true := by simpa using h54
              have ha2 := isP_adv hE.kind ha h54
              rw [h54] at hr ⊢
              obtain ⟨l, s2, he2, hr2⟩ := prim_call hr
              cases he2
              refine wc_skip ?_
              refine wq_then ?_
              refine wc_seq ?_
              refine wc_weak (.cons (i := 0) rfl <| .cons (i := 1) rfl <| .cons (i := 2) rfl <| .cons (i := 3) rfl <| .cons (i := 15) rfl <| .cons (i := 19) rfl <| .cons (i := 40) rfl <| .cons (i := 54) rfl <| .nil) ?_
              refine wc_region ?_
              refine wl_free .none rfl (yf_fieldAddr (off := 2) (sz := 0) rfl Tryz.underlying92 (by kernel_rfl) rfl) ?_
              refine wl_free .none rfl (yf_loadL 0 rfl rfl rfl Tryz.underlying9 rfl) ?_
              refine wl_free .none rfl (yf_buildS [.int .i64 0, .int .u32 0, .string ⟨#[]⟩, .slice none 0 0] [(0, 1), (1, 1), (2, 1), (3, 1)] rfl (by kernel_rfl) (by kernel_rfl) rfl) ?_
              refine wl_new .none rfl (nf_alloc (z := .agg #[.int .i64 0, .int .u32 0, .string ⟨#[]⟩, .slice none 0 0]) (cs := [.int .i64 0, .int .u32 0, .string ⟨#[]⟩, .slice none 0 0]) (by kernel_rfl) rfl) (fun b4 => ?_)
              refine wl_chain0 .none (cf_storeRow 0 rfl rfl rfl rfl rfl (by kernel_rfl)) (fun _ => ?_)
              refine wl_nil ?_
              refine wq_then ?_
              refine wc_seq ?_
              refine wc_weak (.cons (i := 0) rfl <| .cons (i := 1) rfl <| .cons (i := 2) rfl <| .cons (i := 3) rfl <| .cons (i := 4) rfl <| .cons (i := 15) rfl <| .cons (i := 19) rfl <| .cons (i := 40) rfl <| .cons (i := 54) rfl <| .nil) ?_
              refine wc_region ?_
              refine wl_free .none rfl (yf_loadL 3 rfl rfl rfl Tryz.underlying86 rfl) ?_
              refine wl_free .none rfl (yf_makeFunc rfl rfl) ?_
              refine wl_chain (ι := {i : (Option Addr × Nat) × (Nat → Prop) // ∀ k, i.2 k → w_0.heap.size ≤ k}) (val := fun _ => .tuple #[]) (H' := fun i => Hp (fun k => k = bp) w_0 [(b4, exB 3 0 (E.tk s.at_).text i.1.1.1 l.length i.1.1.2), (b3, bk 92 (tokC (E.tk s.at_))), (b2, bk 57 (exC 0 0 [] none 0 0)), (b1, pxO bp), (bp, pO E s')] [] (fun u => exsK i.1.2 u (.mk 3 0 (E.tk s.at_).text l) i.1.1.1 i.1.1.2 ∧ TkX E u)) .none rfl  (cf_call (by kernel_rfl) rfl (fun w hw => ?_)) (fun i => ?_)
              · refine (list_any hE IH hf (adv (adv s)) l s' hr2 ha2 bp b4 b1 _ (HpG.ne hw (i := 4) (j := 0) rfl rfl rfl) w (HpG.blkL hw (j := 4) rfl) (HpG.blkL hw (j := 0) rfl) (HpG.blkL hw (j := 3) rfl) (HpG.x hw)).mono fun e w' ⟨A, cap, e1, e2, e3, e4, e5⟩ => ?_
                obtain ⟨F, hF, hp⟩ := Hp.call2T (T := fun F u => exsK F u (.mk 3 0 (E.tk s.at_).text l) A cap) exsK.lies hw (bp_lt hb) (i := 4) (j := 0) rfl rfl rfl e2 e3 e4 e5
                exact ⟨_, e1, ⟨((A, cap), F), hF⟩, rfl, hp⟩
              obtain ⟨⟨⟨A, cap⟩, F⟩, hF⟩ := i
              dsimp only at hF ⊢
              refine wl_nil ?_
              refine wq_then ?_
              refine wc_seq ?_
              refine wc_weak (.cons (i := 0) rfl <| .cons (i := 1) rfl <| .cons (i := 2) rfl <| .cons (i := 3) rfl <| .cons (i := 4) rfl <| .cons (i := 15) rfl <| .cons (i := 19) rfl <| .cons (i := 40) rfl <| .cons (i := 54) rfl <| .nil) ?_
              refine wc_region ?_
              refine wl_free .none rfl (yf_loadAllL 0 rfl rfl Tryz.underlying57 rfl (by kernel_rfl)) ?_
              refine wl_chain0 .none (cf_storeRow 2 rfl rfl rfl rfl rfl (by kernel_rfl)) (fun _ => ?_)
              refine wl_nil ?_
              refine wq_then ?_
              refine wc_ret ?_
              refine wq_block_ret ?_
              refine wq_then_ret ?_
              refine wq_retC rfl rfl 2 rfl Tryz.underlying57 rfl (by kernel_rfl) (fun w hw => ?_)
              first
              | exact ⟨none, 0, rfl, (fun h => by cases h), HpG.keep hw, HpG.blkL (j := 3) hw rfl, cp00, [], RdF.nil, .nil⟩
              | exact ⟨A, cap, rfl, (by first | exact hc | (intro h; cases h)), HpG.keep hw, HpG.blkL (j := 4) hw rfl, exsK.lies.mono hF (HpG.x hw).1⟩
              | exact ⟨some ⟨b75, 0, none⟩, 1, rfl, (fun _ => rfl), HpG.keep hw, HpG.blkL (j := 5) hw rfl, cp11, _, HpG.rdF (j := 0) hw rfl (HpG.fresh (j := 0) (i := 5) hw rfl rfl rfl), ExsV.lies.mono hF (HpG.x hw).1.one⟩)
      · replace h40 := beq_no h40
        first
          | (omega)
          | (
            have hr := primS_rest hr he (by omega) (by omega)
            refine wc_seq ?_
            refine wc_weak (.cons (i := 0) rfl <| .cons (i := 1) rfl <| .cons (i := 2) rfl <| .cons (i := 3) rfl <| .cons (i := 15) rfl <| .cons (i := 19) rfl <| .cons (i := 40) rfl <| .nil) ?_
            refine wc_region ?_
            refine wl_free .none rfl (yf_loadL 2 rfl rfl rfl Tryz.underlying86 rfl) ?_
            refine wl_take E hE s hs kMem bp (fun _ h => h) 3 .none rfl  rfl rfl ?_
            refine wl_free .none rfl (yf_assign rfl) ?_
            refine wl_nil ?_
            refine wq_then ?_
            refine wc_cond rfl (fun h65 => ?_) (fun h65 => ?_)
            · skip
              have ha := isP_adv hE.kind hs h65
              have hn := needP_in hE.kind [91] ha
              rw [h65] at hr ⊢
              obtain ⟨e, s1, hx1, hx2⟩ := andThen_some hr
              cases hx2
              have hs1 := (exF_g hE.kind f).bin 0 _ hn.1 e s1 hx1
              refine wc_seq ?_
              refine wc_weak (.cons (i := 0) rfl <| .cons (i := 1) rfl <| .cons (i := 2) rfl <| .cons (i := 3) rfl <| .cons (i := 15) rfl <| .cons (i := 19) rfl <| .cons (i := 40) rfl <| .cons (i := 65) rfl <| .nil) ?_
              refine wc_region ?_
              refine wl_free .none rfl (yf_loadL 2 rfl rfl rfl Tryz.underlying86 rfl) ?_
              refine wl_need E hE (adv s) ha [91] bp (fun _ h => h) 3 .none rfl  rfl rfl ?_
              refine wl_nil ?_
              refine wq_then ?_
              refine wc_seq ?_
              refine wc_weak (.cons (i := 0) rfl <| .cons (i := 1) rfl <| .cons (i := 2) rfl <| .cons (i := 3) rfl <| .cons (i := 15) rfl <| .cons (i := 19) rfl <| .cons (i := 40) rfl <| .cons (i := 65) rfl <| .nil) ?_
              refine wc_region ?_
              refine wl_free .none rfl (yf_loadL 2 rfl rfl rfl Tryz.underlying86 rfl) ?_
              refine wl_ex E (needP E.tk [91] (adv s)) e s1 bp 3 (bp_lt hb) (fun _ h => h) (fun w h1 h2 => expr_any IH _ e s1 hx1 hn.1 bp w h1 h2) .none rfl  (by kernel_rfl) rfl rfl (fun A cap F hF hc => ?_)
              refine wl_new .none rfl (nf_alloc (z := .agg #[.int .i64 0, .int .u32 0, .string ⟨#[]⟩, .slice none 0 0]) (cs := [.int .i64 0, .int .u32 0, .string ⟨#[]⟩, .slice none 0 0]) (by kernel_rfl) rfl) (fun b5 => ?_)
              refine wl_chain0 .none (cf_storeRow 0 rfl rfl rfl rfl rfl (by kernel_rfl)) (fun _ => ?_)
              refine wl_nil ?_
              refine wq_then ?_
              refine wc_seq ?_
              refine wc_weak (.cons (i := 0) rfl <| .cons (i := 1) rfl <| .cons (i := 2) rfl <| .cons (i := 3) rfl <| .cons (i := 5) rfl <| .cons (i := 15) rfl <| .cons (i := 19) rfl <| .cons (i := 40) rfl <| .cons (i := 65) rfl <| .nil) ?_
              refine wc_region ?_
              refine wl_free .none rfl (yf_loadL 3 rfl rfl rfl Tryz.underlying86 rfl) ?_
              refine wl_need E hE s1 hs1.2.1 [93] bp (fun _ h => h.2) 4 .none rfl  rfl rfl ?_
              refine wl_nil ?_
              refine wq_then ?_
              refine wc_seq ?_
              refine wc_weak (.cons (i := 0) rfl <| .cons (i := 1) rfl <| .cons (i := 2) rfl <| .cons (i := 3) rfl <| .cons (i := 5) rfl <| .cons (i := 15) rfl <| .cons (i := 19) rfl <| .cons (i := 40) rfl <| .cons (i := 65) rfl <| .nil) ?_
              refine wc_region ?_
              refine wl_free .none rfl (yf_loadAllL 0 rfl rfl Tryz.underlying57 rfl (by kernel_rfl)) ?_
              refine wl_new .none rfl (nf_bs1 (z := .agg #[.int .i64 0, .int .u32 0, .string ⟨#[]⟩, .slice none 0 0]) rfl rfl Tryz.underlying55 (by kernel_rfl) (by kernel_rfl) rfl rfl) (fun b75 => ?_)
              refine wl_free .none rfl (yf_buildS [.int .i64 0, .int .u32 0, .string ⟨#[]⟩, .slice none 0 0] [(0, 1), (1, 1), (2, 1), (3, 1)] rfl (by kernel_rfl) (by kernel_rfl) rfl) ?_
              refine wl_chain0 .none (cf_storeRow 3 rfl rfl rfl rfl rfl (by kernel_rfl)) (fun _ => ?_)
              refine wl_nil ?_
              refine wq_then ?_
              refine wc_ret ?_
              refine wq_block_ret ?_
              refine wq_then_ret ?_
              refine wq_retC rfl rfl 3 rfl Tryz.underlying57 rfl (by kernel_rfl) (fun w hw => ?_)
              first
              | exact ⟨none, 0, rfl, (fun h => by cases h), HpG.keep hw, HpG.blkL (j := 3) hw rfl, cp00, [], RdF.nil, .nil⟩
              | exact ⟨A, cap, rfl, (by first | exact hc | (intro h; cases h)), HpG.keep hw, HpG.blkL (j := 4) hw rfl, exsK.lies.mono hF (HpG.x hw).1⟩
              | exact ⟨some ⟨b75, 0, none⟩, 1, rfl, (fun _ => rfl), HpG.keep hw, HpG.blkL (j := 5) hw rfl, cp11, _, HpG.rdF (j := 0) hw rfl (HpG.fresh (j := 0) (i := 5) hw rfl rfl rfl), ExsV.lies.mono hF (HpG.x hw).1.one⟩
            · skip
              rw [h65] at hr ⊢
              refine wc_seq ?_
              refine wc_weak (.cons (i := 0) rfl <| .cons (i := 1) rfl <| .cons (i := 2) rfl <| .cons (i := 3) rfl <| .cons (i := 15) rfl <| .cons (i := 19) rfl <| .cons (i := 40) rfl <| .cons (i := 65) rfl <| .nil) ?_
              refine wc_region ?_
              refine wl_free .none rfl (yf_loadL 2 rfl rfl rfl Tryz.underlying86 rfl) ?_
              refine wl_take E hE s hs kIn bp (fun _ h => h) 3 .none rfl  rfl rfl ?_
              refine wl_free .none rfl (yf_assign rfl) ?_
              refine wl_nil ?_
              refine wq_then ?_
              refine wc_cond rfl (fun h77 => ?_) (fun h77 => ?_)
              · skip
                rw [h77] at hr ⊢
                cases hr
                refine wc_seq ?_
                refine wc_weak (.cons (i := 0) rfl <| .cons (i := 1) rfl <| .cons (i := 2) rfl <| .cons (i := 3) rfl <| .cons (i := 15) rfl <| .cons (i := 19) rfl <| .cons (i := 40) rfl <| .cons (i := 65) rfl <| .cons (i := 77) rfl <| .nil) ?_
                refine wc_region ?_
                refine wl_free .none rfl (yf_buildS [.int .i64 0, .int .u32 0, .string ⟨#[]⟩, .slice none 0 0] [(0, 1), (1, 1), (2, 1), (3, 1)] rfl (by kernel_rfl) (by kernel_rfl) rfl) ?_
                refine wl_chain0 .none (cf_storeRow 1 rfl rfl rfl rfl rfl (by kernel_rfl)) (fun _ => ?_)
                refine wl_nil ?_
                refine wq_then ?_
                refine wc_ret ?_
                refine wq_block_ret ?_
                refine wq_then_ret ?_
                refine wq_retC rfl rfl 1 rfl Tryz.underlying57 rfl (by kernel_rfl) (fun w hw => ?_)
                first
                | exact ⟨none, 0, rfl, (fun h => by cases h), HpG.keep hw, HpG.blkL (j := 3) hw rfl, cp00, [], RdF.nil, .nil⟩
                | exact ⟨A, cap, rfl, (by first | exact hc | (intro h; cases h)), HpG.keep hw, HpG.blkL (j := 4) hw rfl, exsK.lies.mono hF (HpG.x hw).1⟩
                | exact ⟨some ⟨b75, 0, none⟩, 1, rfl, (fun _ => rfl), HpG.keep hw, HpG.blkL (j := 5) hw rfl, cp11, _, HpG.rdF (j := 0) hw rfl (HpG.fresh (j := 0) (i := 5) hw rfl rfl rfl), ExsV.lies.mono hF (HpG.x hw).1.one⟩
              · skip
                rw [h77] at hr ⊢
                refine wc_seq ?_
                refine wc_weak (.cons (i := 0) rfl <| .cons (i := 1) rfl <| .cons (i := 2) rfl <| .cons (i := 3) rfl <| .cons (i := 15) rfl <| .cons (i := 19) rfl <| .cons (i := 40) rfl <| .cons (i := 65) rfl <| .cons (i := 77) rfl <| .nil) ?_
                refine wc_region ?_
                refine wl_free .none rfl (yf_loadL 2 rfl rfl rfl Tryz.underlying86 rfl) ?_
                refine wl_take E hE s hs [40] bp (fun _ h => h) 3 .none rfl  rfl rfl ?_
                refine wl_free .none rfl (yf_assign rfl) ?_
                refine wl_nil ?_
                refine wq_then ?_
                refine wc_cond rfl (fun h81 => ?_) (fun h81 => ?_)
                · skip
                  have ha := isP_adv hE.kind hs h81
                  rw [h81] at hr ⊢
                  obtain ⟨e, s1, hx1, hx2⟩ := andThen_some hr
                  cases hx2
                  have hs1 := (exF_g hE.kind f).bin 0 _ ha x s1 hx1
                  refine wc_seq ?_
                  refine wc_weak (.cons (i := 0) rfl <| .cons (i := 1) rfl <| .cons (i := 2) rfl <| .cons (i := 3) rfl <| .cons (i := 15) rfl <| .cons (i := 19) rfl <| .cons (i := 40) rfl <| .cons (i := 65) rfl <| .cons (i := 77) rfl <| .cons (i := 81) rfl <| .nil) ?_
                  refine wc_region ?_
                  refine wl_free .none rfl (yf_loadL 2 rfl rfl rfl Tryz.underlying86 rfl) ?_
                  refine wl_ex E (adv s) x s1 bp 3 (bp_lt hb) (fun _ h => h) (fun w h1 h2 => expr_any IH _ x s1 hx1 ha bp w h1 h2) .none rfl  (by kernel_rfl) rfl rfl (fun A cap F hF hc => ?_)
                  refine wl_new .none rfl (nf_alloc (z := .agg #[.int .i64 0, .int .u32 0, .string ⟨#[]⟩, .slice none 0 0]) (cs := [.int .i64 0, .int .u32 0, .string ⟨#[]⟩, .slice none 0 0]) (by kernel_rfl) rfl) (fun b6 => ?_)
                  refine wl_chain0 .none (cf_storeRow 0 rfl rfl rfl rfl rfl (by kernel_rfl)) (fun _ => ?_)
                  refine wl_nil ?_
                  refine wq_then ?_
                  refine wc_seq ?_
                  refine wc_weak (.cons (i := 0) rfl <| .cons (i := 1) rfl <| .cons (i := 2) rfl <| .cons (i := 3) rfl <| .cons (i := 6) rfl <| .cons (i := 15) rfl <| .cons (i := 19) rfl <| .cons (i := 40) rfl <| .cons (i := 65) rfl <| .cons (i := 77) rfl <| .cons (i := 81) rfl <| .nil) ?_
                  refine wc_region ?_
                  refine wl_free .none rfl (yf_loadL 3 rfl rfl rfl Tryz.underlying86 rfl) ?_
                  refine wl_need E hE s1 hs1.2.1 [41] bp (fun _ h => h.2) 4 .none rfl  rfl rfl ?_
                  refine wl_nil ?_
                  refine wq_then ?_
                  refine wc_seq ?_
                  refine wc_weak (.cons (i := 0) rfl <| .cons (i := 1) rfl <| .cons (i := 2) rfl <| .cons (i := 3) rfl <| .cons (i := 6) rfl <| .cons (i := 15) rfl <| .cons (i := 19) rfl <| .cons (i := 40) rfl <| .cons (i := 65) rfl <| .cons (i := 77) rfl <| .cons (i := 81) rfl <| .nil) ?_
                  refine wc_region ?_
                  refine wl_free .none rfl (yf_loadAllL 0 rfl rfl Tryz.underlying57 rfl (by kernel_rfl)) ?_
                  refine wl_chain0 .none (cf_storeRow 2 rfl rfl rfl rfl rfl (by kernel_rfl)) (fun _ => ?_)
                  refine wl_nil ?_
                  refine wq_then ?_
                  refine wc_ret ?_
                  refine wq_block_ret ?_
                  refine wq_then_ret ?_
                  refine wq_retC rfl rfl 2 rfl Tryz.underlying57 rfl (by kernel_rfl) (fun w hw => ?_)
                  first
                  | exact ⟨none, 0, rfl, (fun h => by cases h), HpG.keep hw, HpG.blkL (j := 3) hw rfl, cp00, [], RdF.nil, .nil⟩
                  | exact ⟨A, cap, rfl, (by first | exact hc | (intro h; cases h)), HpG.keep hw, HpG.blkL (j := 4) hw rfl, exsK.lies.mono hF (HpG.x hw).1⟩
                  | exact ⟨some ⟨b75, 0, none⟩, 1, rfl, (fun _ => rfl), HpG.keep hw, HpG.blkL (j := 5) hw rfl, cp11, _, HpG.rdF (j := 0) hw rfl (HpG.fresh (j := 0) (i := 5) hw rfl rfl rfl), ExsV.lies.mono hF (HpG.x hw).1.one⟩
                · skip
                  rw [h81] at hr ⊢
                  cases hr
                  refine wc_weak (.cons (i := 0) rfl <| .cons (i := 1) rfl <| .cons (i := 2) rfl <| .cons (i := 3) rfl <| .cons (i := 15) rfl <| .cons (i := 19) rfl <| .cons (i := 40) rfl <| .cons (i := 65) rfl <| .cons (i := 77) rfl <| .cons (i := 81) rfl <| .nil) ?_
                  refine wc_region ?_
                  refine wl_free .none rfl (yf_loadL 2 rfl rfl rfl Tryz.underlying86 rfl) ?_
                  refine wl_fail E s hs bp (fun _ h => h) 3 .none rfl  rfl rfl ?_
                  refine wl_nil ?_
                  refine wq_block ?_
                  refine wq_then ?_
                  refine wc_seq ?_
                  refine wc_weak (.cons (i := 0) rfl <| .cons (i := 1) rfl <| .cons (i := 2) rfl <| .cons (i := 3) rfl <| .cons (i := 15) rfl <| .cons (i := 19) rfl <| .cons (i := 40) rfl <| .cons (i := 65) rfl <| .cons (i := 77) rfl <| .cons (i := 81) rfl <| .nil) ?_
                  refine wc_region ?_
                  refine wl_free .none rfl (yf_buildS [.int .i64 0, .int .u32 0, .string ⟨#[]⟩, .slice none 0 0] [(0, 1), (1, 1), (2, 1), (3, 1)] rfl (by kernel_rfl) (by kernel_rfl) rfl) ?_
                  refine wl_chain0 .none (cf_storeRow 1 rfl rfl rfl rfl rfl (by kernel_rfl)) (fun _ => ?_)
                  refine wl_nil ?_
                  refine wq_then ?_
                  refine wc_ret ?_
                  refine wq_retC rfl rfl 1 rfl Tryz.underlying57 rfl (by kernel_rfl) (fun w hw => ?_)
                  first
                  | exact ⟨none, 0, rfl, (fun h => by cases h), HpG.keep hw, HpG.blkL (j := 3) hw rfl, cp00, [], RdF.nil, .nil⟩
                  | exact ⟨A, cap, rfl, (by first | exact hc | (intro h; cases h)), HpG.keep hw, HpG.blkL (j := 4) hw rfl, exsK.lies.mono hF (HpG.x hw).1⟩
                  | exact ⟨some ⟨b75, 0, none⟩, 1, rfl, (fun _ => rfl), HpG.keep hw, HpG.blkL (j := 5) hw rfl, cp11, _, HpG.rdF (j := 0) hw rfl (HpG.fresh (j := 0) (i := 5) hw rfl rfl rfl), ExsV.lies.mono hF (HpG.x hw).1.one⟩)
end Go.Proofs.YtfpkpnkdnammnaaGreatDoor
