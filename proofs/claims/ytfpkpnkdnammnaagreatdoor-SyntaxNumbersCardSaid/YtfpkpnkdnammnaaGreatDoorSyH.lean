/- The parser of expressions: lists of arguments. -/
import Derived.Test.YtfpkpnkdnammnaaGreatDoorMgH
import Derived.Test.YtfpkpnkdnammnaaGreatDoorSxN
namespace Go.Proofs.YtfpkpnkdnammnaaGreatDoor
open Go.RowKit
abbrev exB (k n : Nat) (s : Bs) (A : Option Addr) (len cap : Nat) : Obj := bk 57 (exC k n s A len cap)
theorem exC_one (k n : Nat) (s : Bs) (A : Option Addr) (len cap : Nat) : ∀ v ∈ exC k n s A len cap, v.oneCell' = true := fun v hv => by
  simp only [List.mem_cons, List.not_mem_nil, or_false] at hv
  rcases hv with rfl | rfl | rfl | rfl <;> rfl
set_option maxRecDepth 100000 in
theorem elem_any {E : PE} {f : Nat} (IH : EOk E f) (s : PS) (x : Ex) (s' : PS) (hr : (exF E.tk f).bin 0 s = some (x, s')) (hs : s.at_ ≤ E.m) (bp be bx : Nat) (nm : Bs) (A : Option Addr) (len cap : Nat) (xs : List Value) (hlen : len ≤ 1000000000) {B : Nat → Prop} {w0 : World} {X : World → Prop} (hB : ∀ k, B k → k < w0.heap.size) (hX : ∀ w, X w → Blk bx (bk 86 [.pointer (some ⟨bp, 0, none⟩)]) w ∧ TkX E w)
    (w_0 : World) (h : Hp B w0 [(bp, pO E s), (be, exB 3 0 nm A len cap)] [⟨.slice A len cap, 57, 4, len, xs⟩] X w_0) : Calls Tryz.prog 189 #[.pointer (some ⟨be, 0, none⟩), .pointer (some ⟨bx, 0, none⟩)] w_0 fun e w' => ∃ A' cap' A2 cap2 F, e = .returned (.tuple #[]) ∧ (∀ k, F k → w0.heap.size ≤ k) ∧ len + 1 ≤ cap' ∧ Hp B w0 [(bp, pO E s'), (be, exB 3 0 nm A' (len + 1) cap')] [⟨.slice A' (len + 1) cap', 57, 4, len + 1, xs ++ exOf x A2 cap2⟩] (fun u => exsK F u x A2 cap2 ∧ X u) w' := by
  have hlx : xs.length = len * 4 := (HpG.rowAt (k := 0) h rfl).1
  refine calls_wc (args := [.pointer (some ⟨be, 0, none⟩), .pointer (some ⟨bx, 0, none⟩)]) Tryz.func189 rfl 11 rfl (Nat.le_of_ble_eq_true rfl) ?_
  refine wc_weak (.cons (i := 0) rfl <| .cons (i := 1) rfl <| .nil) ?_
  refine wc_conseq (H' := Hp B w0 [(bp, pO E s), (be, exB 3 0 nm A len cap)] [⟨.slice A len cap, 57, 4, len, xs⟩] X) (fun u hu => ?_) ?_
  · subst hu; exact h
  refine wc_drawA 6 [0, 1, 4, 2, 3, 5] (fun u => Blk be (exB 3 0 nm A len cap) u ∧ Blk bx (bk 86 [.pointer (some ⟨bp, 0, none⟩)]) u) (by kernel_rfl) (by kernel_rfl) (fun u ob ⟨h1, h2⟩ => ⟨Blk.stab u ob h1, Blk.stab u ob h2⟩) (fun u h => ⟨HpG.blk h (k := 1) rfl, (hX u (HpG.x h)).1⟩) (fun n0 hn0 => ?_)
  refine wd_at rfl ?_
  (refine wd_free ?_ .none rfl (yf_fieldAddr (off := 3) (sz := 0) rfl Tryz.underlying57 (by kernel_rfl) rfl) ?_; (· rfl);  skip)
  refine wd_at rfl ?_
  (refine wd_free ?_ .none rfl (yf_load (v := .slice A len cap) rfl Tryz.underlying55 rfl (fun u h => by rw [cell_of_row u be _ _ _ _ h.1]; rfl)) ?_; (· rfl);  skip)
  refine wd_at rfl ?_
  (refine wd_free ?_ .none rfl (yf_lenS rfl Tryz.underlying55) ?_; (· rfl);  skip)
  refine wd_at rfl ?_
  (refine wd_free ?_ .none rfl (yf_load (v := .pointer (some ⟨bp, 0, none⟩)) rfl Tryz.underlying86 rfl (fun u h => by rw [cell_of_row u bx _ _ _ _ h.2]; rfl)) ?_; (· rfl);  skip)
  refine wd_at rfl ?_
  refine wd_ex E s x s' bp 0 hB (fun u h => (hX u h).2) (fun u u' h1 h2 hK => ⟨h2.1.keep hK (HpG.ne h1 (i := 1) (j := 0) rfl rfl rfl), h2.2.keep hK ?_⟩) (fun u h1 h2 => expr_any IH s x s' hr hs bp u h1 h2) .none rfl  (by kernel_rfl) rfl rfl (fun A2 cap2 F hF hc => ?_)
  · exact fun e => by subst e; have h9 := h2.2.symm.trans (HpG.blkL h1 (j := 0) rfl); simp at h9
  refine wd_at rfl ?_
  refine wd_newH ?_ .none rfl (fun k hk => .inr (Nat.lt_of_lt_of_le hk hn0)) (nf_bs1 (z := .agg #[.int .i64 0, .int .u32 0, .string ⟨#[]⟩, .slice none 0 0]) rfl rfl Tryz.underlying55 (by kernel_rfl) (by kernel_rfl) rfl rfl) (fun b7 hb7 => ?_)
  · rfl
  refine wd_endA ?_
  refine wa_step (k := 4) [6] (by kernel_rfl) (by simp) ⟨⟨_, rfl, ?_⟩, trivial⟩
  · skip
    (refine wl_appendB (z := .agg #[.int .i64 0, .int .u32 0, .string ⟨#[]⟩, .slice none 0 0]) (bytes := 56) 0 0 .none rfl rfl rfl rfl rfl Tryz.underlying55 (by kernel_rfl) rfl rfl rfl rfl rfl ?_ ?_ (fun a8 c8 h8 => ?_); (· omega); (· omega); skip)
    refine wl_nil ?_
    refine wq_any ?_
    refine wa_step (k := 3) [7, 9] (by kernel_rfl) (by simp) ⟨⟨_, rfl, ?_⟩, ⟨_, rfl, ?_⟩, trivial⟩
    · skip
      (refine wl_free .none rfl (yf_indexAddrS (es := 4) rfl rfl Tryz.underlying55 (by kernel_rfl) rfl ?_ rfl) ?_; (· first | decide | omega | (simp; done) | (simp; omega)); skip)
      refine wl_nil ?_
      refine wq_any ?_
      refine wa_step (k := 2) [8, 9] (by kernel_rfl) (by simp) ⟨⟨_, rfl, ?_⟩, ⟨_, rfl, ?_⟩, trivial⟩
      · skip
        refine wl_chain0 .none (cf_storeRR (seg := exOf x A2 cap2) 0 rfl rfl rfl (exC_one _ _ _ _ _ _) (by rw [List.length_append, hlx]; simp) (by kernel_rfl)) (fun _ => ?_)
        refine wl_nil ?_
        refine wq_any ?_
        refine wa_step (k := 1) [9] (by kernel_rfl) (by simp) ⟨⟨_, rfl, ?_⟩, trivial⟩
        · skip
          refine wl_free .none rfl (yf_fieldAddr (off := 3) (sz := 0) rfl Tryz.underlying57 (by kernel_rfl) rfl) ?_
          refine wl_nil ?_
          refine wq_any ?_
          refine wa_step (k := 0) [10] (by kernel_rfl) (by simp) ⟨⟨_, rfl, ?_⟩, trivial⟩
          · skip
            refine wl_chain0 .none (cf_store 2 rfl rfl rfl rfl rfl (by kernel_rfl)) (fun _ => ?_)
            refine wl_nil ?_
            refine wq_any ?_
            refine wa_end (by kernel_rfl) ?_
            refine wq_end0 rfl (fun w hw => ?_)
            refine ⟨some ⟨a8, 0, none⟩, c8, A2, cap2, F, rfl, hF, h8, ?_⟩
            have e1 : (xs ++ exC 0 0 [] none 0 0).take (0 + len * 4) = xs := by rw [Nat.zero_add, ← hlx, List.take_left]
            have e2 : (xs ++ exC 0 0 [] none 0 0).drop (0 + len * 4 + (exOf x A2 cap2).length) = [] := List.drop_eq_nil_of_le (by rw [List.length_append, hlx]; simp)
            have hw2 := Hp.drop hw (List.sublist_cons_self _ _) (List.Sublist.refl _)
            have e3 : (xs ++ exC 0 0 [] none 0 0).take (0 + len * 4) ++ exOf x A2 cap2 ++ (xs ++ exC 0 0 [] none 0 0).drop (0 + len * 4 + (exOf x A2 cap2).length) = xs ++ exOf x A2 cap2 := by rw [e1, e2, List.append_nil]
            rw [← e3]
            exact hw2
      · skip
        refine wl_free .none rfl (yf_fieldAddr (off := 3) (sz := 0) rfl Tryz.underlying57 (by kernel_rfl) rfl) ?_
        refine wl_nil ?_
        refine wq_any ?_
        refine wa_step (k := 1) [8, 10] (by kernel_rfl) (by simp) ⟨⟨_, rfl, ?_⟩, ⟨_, rfl, ?_⟩, trivial⟩
        · skip
          refine wl_chain0 .none (cf_storeRR (seg := exOf x A2 cap2) 0 rfl rfl rfl (exC_one _ _ _ _ _ _) (by rw [List.length_append, hlx]; simp) (by kernel_rfl)) (fun _ => ?_)
          refine wl_nil ?_
          refine wq_any ?_
          refine wa_step (k := 0) [10] (by kernel_rfl) (by simp) ⟨⟨_, rfl, ?_⟩, trivial⟩
          · skip
            refine wl_chain0 .none (cf_store 2 rfl rfl rfl rfl rfl (by kernel_rfl)) (fun _ => ?_)
            refine wl_nil ?_
            refine wq_any ?_
            refine wa_end (by kernel_rfl) ?_
            refine wq_end0 rfl (fun w hw => ?_)
            refine ⟨some ⟨a8, 0, none⟩, c8, A2, cap2, F, rfl, hF, h8, ?_⟩
            have e1 : (xs ++ exC 0 0 [] none 0 0).take (0 + len * 4) = xs := by rw [Nat.zero_add, ← hlx, List.take_left]
            have e2 : (xs ++ exC 0 0 [] none 0 0).drop (0 + len * 4 + (exOf x A2 cap2).length) = [] := List.drop_eq_nil_of_le (by rw [List.length_append, hlx]; simp)
            have hw2 := Hp.drop hw (List.sublist_cons_self _ _) (List.Sublist.refl _)
            have e3 : (xs ++ exC 0 0 [] none 0 0).take (0 + len * 4) ++ exOf x A2 cap2 ++ (xs ++ exC 0 0 [] none 0 0).drop (0 + len * 4 + (exOf x A2 cap2).length) = xs ++ exOf x A2 cap2 := by rw [e1, e2, List.append_nil]
            rw [← e3]
            exact hw2
        · skip
          refine wl_chain0 .none (cf_store 2 rfl rfl rfl rfl rfl (by kernel_rfl)) (fun _ => ?_)
          refine wl_nil ?_
          refine wq_any ?_
          refine wa_step (k := 0) [8] (by kernel_rfl) (by simp) ⟨⟨_, rfl, ?_⟩, trivial⟩
          · skip
            refine wl_chain0 .none (cf_storeRR (seg := exOf x A2 cap2) 0 rfl rfl rfl (exC_one _ _ _ _ _ _) (by rw [List.length_append, hlx]; simp) (by kernel_rfl)) (fun _ => ?_)
            refine wl_nil ?_
            refine wq_any ?_
            refine wa_end (by kernel_rfl) ?_
            refine wq_end0 rfl (fun w hw => ?_)
            refine ⟨some ⟨a8, 0, none⟩, c8, A2, cap2, F, rfl, hF, h8, ?_⟩
            have e1 : (xs ++ exC 0 0 [] none 0 0).take (0 + len * 4) = xs := by rw [Nat.zero_add, ← hlx, List.take_left]
            have e2 : (xs ++ exC 0 0 [] none 0 0).drop (0 + len * 4 + (exOf x A2 cap2).length) = [] := List.drop_eq_nil_of_le (by rw [List.length_append, hlx]; simp)
            have hw2 := Hp.drop hw (List.sublist_cons_self _ _) (List.Sublist.refl _)
            have e3 : (xs ++ exC 0 0 [] none 0 0).take (0 + len * 4) ++ exOf x A2 cap2 ++ (xs ++ exC 0 0 [] none 0 0).drop (0 + len * 4 + (exOf x A2 cap2).length) = xs ++ exOf x A2 cap2 := by rw [e1, e2, List.append_nil]
            rw [← e3]
            exact hw2
    · skip
      refine wl_free .none rfl (yf_fieldAddr (off := 3) (sz := 0) rfl Tryz.underlying57 (by kernel_rfl) rfl) ?_
      refine wl_nil ?_
      refine wq_any ?_
      refine wa_step (k := 2) [7, 10] (by kernel_rfl) (by simp) ⟨⟨_, rfl, ?_⟩, ⟨_, rfl, ?_⟩, trivial⟩
      · skip
        (refine wl_free .none rfl (yf_indexAddrS (es := 4) rfl rfl Tryz.underlying55 (by kernel_rfl) rfl ?_ rfl) ?_; (· first | decide | omega | (simp; done) | (simp; omega)); skip)
        refine wl_nil ?_
        refine wq_any ?_
        refine wa_step (k := 1) [8, 10] (by kernel_rfl) (by simp) ⟨⟨_, rfl, ?_⟩, ⟨_, rfl, ?_⟩, trivial⟩
        · skip
          refine wl_chain0 .none (cf_storeRR (seg := exOf x A2 cap2) 0 rfl rfl rfl (exC_one _ _ _ _ _ _) (by rw [List.length_append, hlx]; simp) (by kernel_rfl)) (fun _ => ?_)
          refine wl_nil ?_
          refine wq_any ?_
          refine wa_step (k := 0) [10] (by kernel_rfl) (by simp) ⟨⟨_, rfl, ?_⟩, trivial⟩
          · skip
            refine wl_chain0 .none (cf_store 2 rfl rfl rfl rfl rfl (by kernel_rfl)) (fun _ => ?_)
            refine wl_nil ?_
            refine wq_any ?_
            refine wa_end (by kernel_rfl) ?_
            refine wq_end0 rfl (fun w hw => ?_)
            refine ⟨some ⟨a8, 0, none⟩, c8, A2, cap2, F, rfl, hF, h8, ?_⟩
            have e1 : (xs ++ exC 0 0 [] none 0 0).take (0 + len * 4) = xs := by rw [Nat.zero_add, ← hlx, List.take_left]
            have e2 : (xs ++ exC 0 0 [] none 0 0).drop (0 + len * 4 + (exOf x A2 cap2).length) = [] := List.drop_eq_nil_of_le (by rw [List.length_append, hlx]; simp)
            have hw2 := Hp.drop hw (List.sublist_cons_self _ _) (List.Sublist.refl _)
            have e3 : (xs ++ exC 0 0 [] none 0 0).take (0 + len * 4) ++ exOf x A2 cap2 ++ (xs ++ exC 0 0 [] none 0 0).drop (0 + len * 4 + (exOf x A2 cap2).length) = xs ++ exOf x A2 cap2 := by rw [e1, e2, List.append_nil]
            rw [← e3]
            exact hw2
        · skip
          refine wl_chain0 .none (cf_store 2 rfl rfl rfl rfl rfl (by kernel_rfl)) (fun _ => ?_)
          refine wl_nil ?_
          refine wq_any ?_
          refine wa_step (k := 0) [8] (by kernel_rfl) (by simp) ⟨⟨_, rfl, ?_⟩, trivial⟩
          · skip
            refine wl_chain0 .none (cf_storeRR (seg := exOf x A2 cap2) 0 rfl rfl rfl (exC_one _ _ _ _ _ _) (by rw [List.length_append, hlx]; simp) (by kernel_rfl)) (fun _ => ?_)
            refine wl_nil ?_
            refine wq_any ?_
            refine wa_end (by kernel_rfl) ?_
            refine wq_end0 rfl (fun w hw => ?_)
            refine ⟨some ⟨a8, 0, none⟩, c8, A2, cap2, F, rfl, hF, h8, ?_⟩
            have e1 : (xs ++ exC 0 0 [] none 0 0).take (0 + len * 4) = xs := by rw [Nat.zero_add, ← hlx, List.take_left]
            have e2 : (xs ++ exC 0 0 [] none 0 0).drop (0 + len * 4 + (exOf x A2 cap2).length) = [] := List.drop_eq_nil_of_le (by rw [List.length_append, hlx]; simp)
            have hw2 := Hp.drop hw (List.sublist_cons_self _ _) (List.Sublist.refl _)
            have e3 : (xs ++ exC 0 0 [] none 0 0).take (0 + len * 4) ++ exOf x A2 cap2 ++ (xs ++ exC 0 0 [] none 0 0).drop (0 + len * 4 + (exOf x A2 cap2).length) = xs ++ exOf x A2 cap2 := by rw [e1, e2, List.append_nil]
            rw [← e3]
            exact hw2
      · skip
        refine wl_chain0 .none (cf_store 2 rfl rfl rfl rfl rfl (by kernel_rfl)) (fun _ => ?_)
        refine wl_nil ?_
        refine wq_any ?_
        refine wa_step (k := 1) [7] (by kernel_rfl) (by simp) ⟨⟨_, rfl, ?_⟩, trivial⟩
        · skip
          (refine wl_free .none rfl (yf_indexAddrS (es := 4) rfl rfl Tryz.underlying55 (by kernel_rfl) rfl ?_ rfl) ?_; (· first | decide | omega | (simp; done) | (simp; omega)); skip)
          refine wl_nil ?_
          refine wq_any ?_
          refine wa_step (k := 0) [8] (by kernel_rfl) (by simp) ⟨⟨_, rfl, ?_⟩, trivial⟩
          · skip
            refine wl_chain0 .none (cf_storeRR (seg := exOf x A2 cap2) 0 rfl rfl rfl (exC_one _ _ _ _ _ _) (by rw [List.length_append, hlx]; simp) (by kernel_rfl)) (fun _ => ?_)
            refine wl_nil ?_
            refine wq_any ?_
            refine wa_end (by kernel_rfl) ?_
            refine wq_end0 rfl (fun w hw => ?_)
            refine ⟨some ⟨a8, 0, none⟩, c8, A2, cap2, F, rfl, hF, h8, ?_⟩
            have e1 : (xs ++ exC 0 0 [] none 0 0).take (0 + len * 4) = xs := by rw [Nat.zero_add, ← hlx, List.take_left]
            have e2 : (xs ++ exC 0 0 [] none 0 0).drop (0 + len * 4 + (exOf x A2 cap2).length) = [] := List.drop_eq_nil_of_le (by rw [List.length_append, hlx]; simp)
            have hw2 := Hp.drop hw (List.sublist_cons_self _ _) (List.Sublist.refl _)
            have e3 : (xs ++ exC 0 0 [] none 0 0).take (0 + len * 4) ++ exOf x A2 cap2 ++ (xs ++ exC 0 0 [] none 0 0).drop (0 + len * 4 + (exOf x A2 cap2).length) = xs ++ exOf x A2 cap2 := by rw [e1, e2, List.append_nil]
            rw [← e3]
            exact hw2
end Go.Proofs.YtfpkpnkdnammnaaGreatDoor
