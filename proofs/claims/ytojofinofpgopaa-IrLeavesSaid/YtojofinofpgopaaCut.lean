/- babelref12.Cut. -/
import Derived.Test.YtojofinofpgopaaMgV
import Derived.Test.YtojofinofpgopaaPlCut
namespace Go.Proofs.Ytojofinofpgopaa
open Go.RowKit
theorem tw_take {p : IOp → Bool} : ∀ {l : List IOp} {k : Nat}, k ≤ l.length → (∀ j, j < k → p (l.getD j noOp) = true) → (k = l.length ∨ p (l.getD k noOp) = false) → l.takeWhile p = l.take k
  | [], k, _, _, _ => by simp
  | o :: r, 0, _, _, h => by
    rcases h with h | h
    · simp at h
    · rw [List.takeWhile_cons, show p o = false from h]; rfl
  | o :: r, k + 1, hk, hj, h => by
    have h0 : p o = true := hj 0 (by omega)
    rw [List.takeWhile_cons, h0, List.take_succ_cons]
    show o :: r.takeWhile p = _
    rw [tw_take (k := k) (by simpa using hk) (fun j hj' => by simpa using hj (j + 1) (by omega)) (by simpa using h)]
theorem take_snoc {l : List IOp} {k : Nat} (hk : k < l.length) : l.take k ++ [l.getD k noOp] = l.take (k + 1) := by
  rw [List.take_succ_eq_append_getElem hk, List.getD_eq_getElem?_getD, List.getElem?_eq_getElem hk]; rfl
structure CtJ where
  k : Nat
  A : Option Addr
  cap : Nat
structure CtI (b : IBlk) (n : Int) (j : CtJ) : Prop where
  le : j.k ≤ b.ops.length
  all : ∀ q, q < j.k → pI n (b.ops.getD q noOp) = true
  cap : j.k ≤ j.cap
set_option maxRecDepth 100000 in
set_option maxHeartbeats 4000000 in
theorem cut_any (i : BR) (n : Nat) (w_0 : World) (hb : BRd (fun k => w_0.heap.size ≤ k) i w_0) (hi : i.OkN 100000) (hn : n < i.b.at_.length) :
    Calls Try.prog 36 #[i.v, .int .i64 n] w_0 fun e w' => ∃ j : BR, (j.b = cutL i.b n ∧ j.OkN 100001 ∧ j.aP = i.aP ∧ j.cP = i.cP) ∧ e = .returned j.v ∧ Hp (fun _ => False) w_0 [] [u32Row j.aA j.cA j.b.at_, opRow j.aO j.cO j.b.ops] (fun _ => True) w' := by
  obtain ⟨b, aA, aP, aO, cA, cP, cO⟩ := i
  obtain ⟨gO, oO, hO⟩ : ∃ gO oO, 0 < b.ops.length → aO = some ⟨gO, oO, none⟩ := by
    by_cases h0 : 0 < b.ops.length
    · obtain ⟨g, o, e, _⟩ := hb.o (by have := opsCells_len b.ops; show 0 < (opsCells b.ops).length; omega)
      exact ⟨g, o, fun _ => e⟩
    · exact ⟨0, 0, fun h => absurd h h0⟩
  dsimp only at hn
  obtain ⟨gA, oA, hA, _⟩ := hb.a (by show 0 < (b.at_.map _).length; rw [List.length_map]; omega)
  dsimp only at hA
  obtain ⟨uA, uO, lA, lP, lO, hcA, hcP, hcO⟩ := hi
  dsimp only at uA uO lA lP lO hcA hcP hcO
  have hmx : 200000 ≤ maxLen := by unfold maxLen; omega
  refine calls_wc (args := [blkV aA aP aO cA cP cO b, .int .i64 n]) Try.func36 rfl 67 rfl (Nat.le_of_ble_eq_true rfl) ?_
  refine wc_weak (.cons (i := 0) rfl <| .cons (i := 1) rfl <| .nil) ?_
  refine wc_conseq (H' := Hp (fun _ => False) w_0 [] [] (BRd (fun k => w_0.heap.size ≤ k) ⟨b, aA, aP, aO, cA, cP, cO⟩)) (fun u hu => ?_) ?_
  · subst hu; exact Hp.start hb.foot0
  refine wc_seq ?_
  refine wc_region ?_
  refine wl_new .none rfl (nf_box rfl rfl) (fun b2 => ?_)
  refine wl_new .none rfl (nf_alloc (z := .agg #[.slice none 0 0, .slice none 0 0, .slice none 0 0]) (cs := [.slice none 0 0, .slice none 0 0, .slice none 0 0]) (by kernel_rfl) rfl) (fun b4 => ?_)
  refine wl_nil ?_
  refine wq_then ?_
  refine wc_seq ?_
  refine wc_region ?_
  refine wl_free .none rfl (yf_fieldAddr (off := 1) (sz := 0) rfl Try.underlying26 (by kernel_rfl) rfl) ?_
  first | refine wl_free .none rfl (yf_loadL 0 rfl rfl rfl Try.underlying23 rfl) ?_ | refine wl_free .none rfl (yf_loadL 1 rfl rfl rfl Try.underlying23 rfl) ?_ | refine wl_free .none rfl (yf_loadL 2 rfl rfl rfl Try.underlying23 rfl) ?_ | refine wl_free .none rfl (yf_loadL 3 rfl rfl rfl Try.underlying23 rfl) ?_ | refine wl_free .none rfl (yf_loadL 4 rfl rfl rfl Try.underlying23 rfl) ?_ | refine wl_free .none rfl (yf_loadL 5 rfl rfl rfl Try.underlying23 rfl) ?_
  refine wl_free .none rfl (yf_buildS [.slice none 0 0, .slice none 0 0, .slice none 0 0] [(0, 1), (1, 1), (2, 1)] rfl (by kernel_rfl) (by kernel_rfl) rfl) ?_
  refine wl_new .none rfl (nf_alloc (z := .agg #[.slice none 0 0, .slice none 0 0, .slice none 0 0]) (cs := [.slice none 0 0, .slice none 0 0, .slice none 0 0]) (by kernel_rfl) rfl) (fun b5 => ?_)
  first | refine wl_chain0 .none (cf_storeRow 0 rfl rfl rfl rfl rfl (by kernel_rfl)) (fun _ => ?_) | refine wl_chain0 .none (cf_storeRow 1 rfl rfl rfl rfl rfl (by kernel_rfl)) (fun _ => ?_) | refine wl_chain0 .none (cf_storeRow 2 rfl rfl rfl rfl rfl (by kernel_rfl)) (fun _ => ?_) | refine wl_chain0 .none (cf_storeRow 3 rfl rfl rfl rfl rfl (by kernel_rfl)) (fun _ => ?_) | refine wl_chain0 .none (cf_storeRow 4 rfl rfl rfl rfl rfl (by kernel_rfl)) (fun _ => ?_) | refine wl_chain0 .none (cf_storeRow 5 rfl rfl rfl rfl rfl (by kernel_rfl)) (fun _ => ?_)
  refine wl_nil ?_
  refine wq_then ?_
  refine wc_seq ?_
  refine wc_seq ?_
  refine wc_weak (.cons (i := 0) rfl <| .cons (i := 1) rfl <| .cons (i := 2) rfl <| .cons (i := 4) rfl <| .cons (i := 5) rfl <| .nil) ?_
  refine wc_conseq (fun w h => Hp.nil (Hp.nil h 34 1) 36 5) ?_
  refine wc_region ?_
  refine wl_free .none rfl (yf_assign rfl) ?_
  refine wl_nil ?_
  refine wq_then ?_
  refine wc_block ?_
  refine wc_loop (ι := {j : CtJ // CtI b n j}) (fun j => [(1, .int .i64 n), (2, ptrV b2), (4, ptrV b4), (5, ptrV b5), (6, .int .i64 j.1.k)]) (fun j => Hp (fun _ => False) w_0 [(b5, bk 26 [.slice none 0 0, .slice aP b.pages.length cP, .slice j.1.A (b.ops.take j.1.k).length j.1.cap]), (b4, bk 26 [.slice none 0 0, .slice none 0 0, .slice none 0 0]), (b2, bk 26 (hdC aA aP aO cA cP cO b))] [⟨.slice j.1.A (b.ops.take j.1.k).length j.1.cap, 36, 5, (b.ops.take j.1.k).length, opsCells (b.ops.take j.1.k)⟩, ⟨.slice none 0 0, 34, 1, 0, []⟩] (BRd (fun k => w_0.heap.size ≤ k) ⟨b, aA, aP, aO, cA, cP, cO⟩)) (fun j => b.ops.length - j.1.k) ⟨⟨0, none, 0⟩, Nat.zero_le _, fun q hq => absurd hq (Nat.not_lt_zero _), Nat.le_refl _⟩ ?_ ?_ (fun j => ?_)
  · exact .cons rfl <| .cons rfl <| .cons rfl <| .cons rfl <| .consE rfl rfl <| .nil
  · exact fun w h => h
  obtain ⟨⟨k, A, cap⟩, hk, hall, hcap⟩ := j
  dsimp only at hk hall hcap ⊢
  obtain ⟨l, hl⟩ : ∃ l, b.ops.take k = l := ⟨_, rfl⟩
  have hll : l.length = k := by rw [← hl, List.length_take]; omega
  obtain ⟨o, ho⟩ : ∃ o, b.ops.getD k noOp = o := ⟨_, rfl⟩
  have hun : k < b.ops.length → U32 o.n := fun h => by rw [← ho]; exact uO _ (opD_mem h)
  rw [hl]
  refine wc_seq ?_
  refine wc_cut (ι := {x : Bool // x = true ↔ (k < b.ops.length ∧ pI n o = true)}) (fun x => [(1, .int .i64 n), (2, ptrV b2), (4, ptrV b4), (5, ptrV b5), (6, .int .i64 k), (34, .bool x.1)]) (fun _ => Hp (fun _ => False) w_0 [(b5, bk 26 [.slice none 0 0, .slice aP b.pages.length cP, .slice A l.length cap]), (b4, bk 26 [.slice none 0 0, .slice none 0 0, .slice none 0 0]), (b2, bk 26 (hdC aA aP aO cA cP cO b))] [⟨.slice A l.length cap, 36, 5, l.length, opsCells l⟩, ⟨.slice none 0 0, 34, 1, 0, []⟩] (BRd (fun k => w_0.heap.size ≤ k) ⟨b, aA, aP, aO, cA, cP, cO⟩)) ?_ (fun x => ?_)
  · skip
    refine wc_region ?_
    refine wl_free .none rfl (yf_move rfl) ?_
    refine wl_free .none rfl (yf_fieldAddr (off := 2) (sz := 0) rfl Try.underlying26 (by kernel_rfl) rfl) ?_
    first | refine wl_free .none rfl (yf_loadL 0 rfl rfl rfl Try.underlying24 rfl) ?_ | refine wl_free .none rfl (yf_loadL 1 rfl rfl rfl Try.underlying24 rfl) ?_ | refine wl_free .none rfl (yf_loadL 2 rfl rfl rfl Try.underlying24 rfl) ?_ | refine wl_free .none rfl (yf_loadL 3 rfl rfl rfl Try.underlying24 rfl) ?_ | refine wl_free .none rfl (yf_loadL 4 rfl rfl rfl Try.underlying24 rfl) ?_ | refine wl_free .none rfl (yf_loadL 5 rfl rfl rfl Try.underlying24 rfl) ?_
    refine wl_free .none rfl (yf_lenS rfl Try.underlying24) ?_
    refine wl_free .none rfl (yf_lss rfl rfl) ?_
    refine wl_free .none rfl (yf_move rfl) ?_
    refine wl_split 15 rfl (fun hg1 => ?_) (fun hg1 => ?_)
    · replace hg1 := of_decide_eq_true hg1
      have hg1 : k < b.ops.length := by omega
      have hOk := hO (by omega)
      obtain ⟨n0, n1⟩ := hun hg1
      refine wl_free (.some rfl rfl) rfl (yf_fieldAddr (off := 2) (sz := 0) rfl Try.underlying26 (by kernel_rfl) rfl) ?_
      first | refine wl_free (.some rfl rfl) rfl (yf_loadL 0 rfl rfl rfl Try.underlying24 rfl) ?_ | refine wl_free (.some rfl rfl) rfl (yf_loadL 1 rfl rfl rfl Try.underlying24 rfl) ?_ | refine wl_free (.some rfl rfl) rfl (yf_loadL 2 rfl rfl rfl Try.underlying24 rfl) ?_ | refine wl_free (.some rfl rfl) rfl (yf_loadL 3 rfl rfl rfl Try.underlying24 rfl) ?_ | refine wl_free (.some rfl rfl) rfl (yf_loadL 4 rfl rfl rfl Try.underlying24 rfl) ?_ | refine wl_free (.some rfl rfl) rfl (yf_loadL 5 rfl rfl rfl Try.underlying24 rfl) ?_
      refine wl_free (.some rfl rfl) rfl (yf_move rfl) ?_
      refine wl_free (.some rfl rfl) rfl (yf_indexAddrS (g := gO) (o := oO) (j := k) (es := 5) (by rw [← hOk]; rfl) rfl Try.underlying24 (by kernel_rfl) rfl hg1 rfl) ?_
      refine wl_free (.some rfl rfl) rfl (yf_fieldAddr (off := 0) (sz := 0) rfl Try.underlying36 (by kernel_rfl) rfl) ?_
      refine wl_free (.some rfl rfl) rfl (yf_load (v := .int .i64 o.code) rfl Try.underlying3 rfl (fun w h => by have := (HpG.x h).o; dsimp only at this; rw [hOk] at this; have h2 := RdIn.opRow this hg1 rfl; rw [ho] at h2; exact h2 0 _ rfl)) ?_
      refine wl_free (.some rfl rfl) rfl (yf_neq rfl rfl) ?_
      refine wl_free (.some rfl rfl) rfl (yf_move rfl) ?_
      refine wl_split 23 rfl (fun hg2 => ?_) (fun hg2 => ?_)
      · replace hg2 := bne_yes hg2
        refine wl_pass (.some rfl rfl rfl) rfl ?_
        refine wl_pass (.some rfl rfl rfl) rfl ?_
        refine wl_pass (.some rfl rfl rfl) rfl ?_
        refine wl_pass (.some rfl rfl rfl) rfl ?_
        refine wl_pass (.some rfl rfl rfl) rfl ?_
        refine wl_pass (.some rfl rfl rfl) rfl ?_
        refine wl_pass (.some rfl rfl rfl) rfl ?_
        refine wl_pass (.some rfl rfl rfl) rfl ?_
        refine wl_pass (.some rfl rfl rfl) rfl ?_
        refine wl_free (.some rfl rfl) rfl (yf_pickT rfl rfl) ?_
        refine wl_free .none rfl (yf_pickT rfl rfl) ?_
        refine wl_nil ?_
        refine wq_meet (ι := {x : Bool // x = true ↔ (k < b.ops.length ∧ pI n o = true)}) ⟨true, by simp [pI, hg1, hg2]⟩ ?_ (fun w h => h)
        (repeat (refine .cons rfl ?_)); exact .nil
      · replace hg2 := bne_no hg2
        refine wl_free (.some rfl rfl) rfl (yf_fieldAddr (off := 2) (sz := 0) rfl Try.underlying26 (by kernel_rfl) rfl) ?_
        first | refine wl_free (.some rfl rfl) rfl (yf_loadL 0 rfl rfl rfl Try.underlying24 rfl) ?_ | refine wl_free (.some rfl rfl) rfl (yf_loadL 1 rfl rfl rfl Try.underlying24 rfl) ?_ | refine wl_free (.some rfl rfl) rfl (yf_loadL 2 rfl rfl rfl Try.underlying24 rfl) ?_ | refine wl_free (.some rfl rfl) rfl (yf_loadL 3 rfl rfl rfl Try.underlying24 rfl) ?_ | refine wl_free (.some rfl rfl) rfl (yf_loadL 4 rfl rfl rfl Try.underlying24 rfl) ?_ | refine wl_free (.some rfl rfl) rfl (yf_loadL 5 rfl rfl rfl Try.underlying24 rfl) ?_
        refine wl_free (.some rfl rfl) rfl (yf_move rfl) ?_
        refine wl_free (.some rfl rfl) rfl (yf_indexAddrS (g := gO) (o := oO) (j := k) (es := 5) (by rw [← hOk]; rfl) rfl Try.underlying24 (by kernel_rfl) rfl hg1 rfl) ?_
        refine wl_free (.some rfl rfl) rfl (yf_fieldAddr (off := 4) (sz := 0) rfl Try.underlying36 (by kernel_rfl) rfl) ?_
        refine wl_free (.some rfl rfl) rfl (yf_load (v := .int .u32 o.n) rfl Try.underlying34 rfl (fun w h => by have := (HpG.x h).o; dsimp only at this; rw [hOk] at this; have h2 := RdIn.opRow this hg1 rfl; rw [ho] at h2; exact h2 4 _ rfl)) ?_
        first | (refine wl_free (.some rfl rfl) rfl (yf_conv rfl (by kernel_rfl) Try.underlying3 (i64_in _ ?_ ?_)) ?_; (· omega); (· omega); skip) | refine wl_free (.some rfl rfl) rfl (yf_conv rfl (by kernel_rfl) Try.underlying3 rfl) ?_
        refine wl_free (.some rfl rfl) rfl (yf_move rfl) ?_
        refine wl_free (.some rfl rfl) rfl (yf_lss rfl rfl) ?_
        refine wl_free (.some rfl rfl) rfl (yf_pickF rfl rfl) ?_
        refine wl_free .none rfl (yf_pickT rfl rfl) ?_
        refine wl_nil ?_
        refine wq_meet (ι := {x : Bool // x = true ↔ (k < b.ops.length ∧ pI n o = true)}) ⟨decide (o.n < n), by simp [pI, hg1, hg2]⟩ ?_ (fun w h => h)
        (repeat (refine .cons rfl ?_)); exact .nil
    · replace hg1 := of_decide_eq_false hg1
      refine wl_pass (.some rfl rfl rfl) rfl ?_
      refine wl_pass (.some rfl rfl rfl) rfl ?_
      refine wl_pass (.some rfl rfl rfl) rfl ?_
      refine wl_pass (.some rfl rfl rfl) rfl ?_
      refine wl_pass (.some rfl rfl rfl) rfl ?_
      refine wl_pass (.some rfl rfl rfl) rfl ?_
      refine wl_pass (.some rfl rfl rfl) rfl ?_
      refine wl_pass (.some rfl rfl rfl) rfl ?_
      refine wl_passU rfl rfl rfl ?_
      refine wl_passU rfl rfl rfl ?_
      refine wl_passU rfl rfl rfl ?_
      refine wl_passU rfl rfl rfl ?_
      refine wl_passU rfl rfl rfl ?_
      refine wl_passU rfl rfl rfl ?_
      refine wl_passU rfl rfl rfl ?_
      refine wl_passU rfl rfl rfl ?_
      refine wl_passU rfl rfl rfl ?_
      refine wl_pass (.some rfl rfl rfl) rfl ?_
      refine wl_free .none rfl (yf_pickF rfl rfl) ?_
      refine wl_nil ?_
      refine wq_meet (ι := {x : Bool // x = true ↔ (k < b.ops.length ∧ pI n o = true)}) ⟨false, by simp; omega⟩ ?_ (fun w h => h)
      (repeat (refine .cons rfl ?_)); exact .nil
  · obtain ⟨x, hx⟩ := x
    dsimp only
    refine wc_cond rfl (fun hc => ?_) (fun hc => ?_)
    · skip
      obtain ⟨hk1, hp1⟩ := hx.1 hc
      have hOk := hO (by omega)
      refine wc_skip ?_
      refine wq_then ?_
      refine wc_seq ?_
      refine wc_block ?_
      refine wc_drawTN 8 [0, 1, 2, 3, 4, 5, 6, 7] _ (by kernel_rfl) (by kernel_rfl) HpG.stab (fun _ h => h) (fun n0 hn0 => ?_)
      refine wd_at rfl ?_
      (refine wd_free ?_ .none rfl (yf_fieldAddr (off := 2) (sz := 0) rfl Try.underlying26 (by kernel_rfl) rfl) ?_; (· rfl);  skip)
      refine wd_at rfl ?_
      first | (refine wd_free ?_ .none rfl (yf_loadL 0 rfl rfl rfl Try.underlying24 rfl) ?_; (· rfl);  skip) | (refine wd_free ?_ .none rfl (yf_loadL 1 rfl rfl rfl Try.underlying24 rfl) ?_; (· rfl);  skip) | (refine wd_free ?_ .none rfl (yf_loadL 2 rfl rfl rfl Try.underlying24 rfl) ?_; (· rfl);  skip) | (refine wd_free ?_ .none rfl (yf_loadL 3 rfl rfl rfl Try.underlying24 rfl) ?_; (· rfl);  skip) | (refine wd_free ?_ .none rfl (yf_loadL 4 rfl rfl rfl Try.underlying24 rfl) ?_; (· rfl);  skip) | (refine wd_free ?_ .none rfl (yf_loadL 5 rfl rfl rfl Try.underlying24 rfl) ?_; (· rfl);  skip)
      refine wd_at rfl ?_
      (refine wd_free ?_ .none rfl (yf_fieldAddr (off := 2) (sz := 0) rfl Try.underlying26 (by kernel_rfl) rfl) ?_; (· rfl);  skip)
      refine wd_at rfl ?_
      first | (refine wd_free ?_ .none rfl (yf_loadL 0 rfl rfl rfl Try.underlying24 rfl) ?_; (· rfl);  skip) | (refine wd_free ?_ .none rfl (yf_loadL 1 rfl rfl rfl Try.underlying24 rfl) ?_; (· rfl);  skip) | (refine wd_free ?_ .none rfl (yf_loadL 2 rfl rfl rfl Try.underlying24 rfl) ?_; (· rfl);  skip) | (refine wd_free ?_ .none rfl (yf_loadL 3 rfl rfl rfl Try.underlying24 rfl) ?_; (· rfl);  skip) | (refine wd_free ?_ .none rfl (yf_loadL 4 rfl rfl rfl Try.underlying24 rfl) ?_; (· rfl);  skip) | (refine wd_free ?_ .none rfl (yf_loadL 5 rfl rfl rfl Try.underlying24 rfl) ?_; (· rfl);  skip)
      refine wd_at rfl ?_
      (refine wd_free ?_ .none rfl (yf_move rfl) ?_; (· rfl);  skip)
      refine wd_at rfl ?_
      (refine wd_free ?_ .none rfl (yf_indexAddrS (g := gO) (o := oO) (j := k) (es := 5) (by rw [← hOk]; rfl) rfl Try.underlying24 (by kernel_rfl) rfl hk1 rfl) ?_; (· rfl);  skip)
      refine wd_at rfl ?_
      (refine wd_free ?_ .none rfl (yf_loadRow (cs := opC o) rfl Try.underlying36 rfl (by kernel_rfl) (fun w h => by have := (HpG.x h).o; dsimp only at this; rw [hOk] at this; rw [← ho]; exact RdIn.opRow this hk1 rfl)) ?_; (· rfl);  skip)
      refine wd_at rfl ?_
      refine wd_newH ?_ .none rfl (fun k hk => Nat.lt_of_lt_of_le hk hn0) (nf_bs1 (z := .agg #[.int .i64 0, .int .i64 0, .int .i64 0, .int .i64 0, .int .u32 0]) rfl rfl Try.underlying24 (by kernel_rfl) (by kernel_rfl) rfl rfl) (fun b44 hb44 => ?_)
      · rfl
      refine wd_endTH ?_
      simp only [List.drop_succ_cons, List.drop_zero]
      first | (refine wl_appendL (z := .agg #[.int .i64 0, .int .i64 0, .int .i64 0, .int .i64 0, .int .u32 0]) (bytes := 40) 0 0 .none rfl rfl rfl rfl rfl Try.underlying24 (by kernel_rfl) rfl rfl rfl rfl ?_ ?_ ?_ (fun a45 c45 h45 => ?_); (· omega); (· omega); (· omega); skip) | (refine wl_appendL (z := .agg #[.int .i64 0, .int .i64 0, .int .i64 0, .int .i64 0, .int .u32 0]) (bytes := 40) 1 0 .none rfl rfl rfl rfl rfl Try.underlying24 (by kernel_rfl) rfl rfl rfl rfl ?_ ?_ ?_ (fun a45 c45 h45 => ?_); (· omega); (· omega); (· omega); skip) | (refine wl_appendL (z := .agg #[.int .i64 0, .int .i64 0, .int .i64 0, .int .i64 0, .int .u32 0]) (bytes := 40) 2 0 .none rfl rfl rfl rfl rfl Try.underlying24 (by kernel_rfl) rfl rfl rfl rfl ?_ ?_ ?_ (fun a45 c45 h45 => ?_); (· omega); (· omega); (· omega); skip) | (refine wl_appendL (z := .agg #[.int .i64 0, .int .i64 0, .int .i64 0, .int .i64 0, .int .u32 0]) (bytes := 40) 0 1 .none rfl rfl rfl rfl rfl Try.underlying24 (by kernel_rfl) rfl rfl rfl rfl ?_ ?_ ?_ (fun a45 c45 h45 => ?_); (· omega); (· omega); (· omega); skip) | (refine wl_appendL (z := .agg #[.int .i64 0, .int .i64 0, .int .i64 0, .int .i64 0, .int .u32 0]) (bytes := 40) 1 1 .none rfl rfl rfl rfl rfl Try.underlying24 (by kernel_rfl) rfl rfl rfl rfl ?_ ?_ ?_ (fun a45 c45 h45 => ?_); (· omega); (· omega); (· omega); skip) | (refine wl_appendL (z := .agg #[.int .i64 0, .int .i64 0, .int .i64 0, .int .i64 0, .int .u32 0]) (bytes := 40) 2 1 .none rfl rfl rfl rfl rfl Try.underlying24 (by kernel_rfl) rfl rfl rfl rfl ?_ ?_ ?_ (fun a45 c45 h45 => ?_); (· omega); (· omega); (· omega); skip) | (refine wl_appendL (z := .agg #[.int .i64 0, .int .i64 0, .int .i64 0, .int .i64 0, .int .u32 0]) (bytes := 40) 0 2 .none rfl rfl rfl rfl rfl Try.underlying24 (by kernel_rfl) rfl rfl rfl rfl ?_ ?_ ?_ (fun a45 c45 h45 => ?_); (· omega); (· omega); (· omega); skip) | (refine wl_appendL (z := .agg #[.int .i64 0, .int .i64 0, .int .i64 0, .int .i64 0, .int .u32 0]) (bytes := 40) 1 2 .none rfl rfl rfl rfl rfl Try.underlying24 (by kernel_rfl) rfl rfl rfl rfl ?_ ?_ ?_ (fun a45 c45 h45 => ?_); (· omega); (· omega); (· omega); skip) | (refine wl_appendL (z := .agg #[.int .i64 0, .int .i64 0, .int .i64 0, .int .i64 0, .int .u32 0]) (bytes := 40) 2 2 .none rfl rfl rfl rfl rfl Try.underlying24 (by kernel_rfl) rfl rfl rfl rfl ?_ ?_ ?_ (fun a45 c45 h45 => ?_); (· omega); (· omega); (· omega); skip)
      refine wl_free .none rfl (yf_fieldAddr (off := 2) (sz := 0) rfl Try.underlying26 (by kernel_rfl) rfl) ?_
      first | refine wl_chain0 .none (cf_store 0 rfl rfl rfl rfl rfl (by kernel_rfl)) (fun _ => ?_) | refine wl_chain0 .none (cf_store 1 rfl rfl rfl rfl rfl (by kernel_rfl)) (fun _ => ?_) | refine wl_chain0 .none (cf_store 2 rfl rfl rfl rfl rfl (by kernel_rfl)) (fun _ => ?_) | refine wl_chain0 .none (cf_store 3 rfl rfl rfl rfl rfl (by kernel_rfl)) (fun _ => ?_) | refine wl_chain0 .none (cf_store 4 rfl rfl rfl rfl rfl (by kernel_rfl)) (fun _ => ?_) | refine wl_chain0 .none (cf_store 5 rfl rfl rfl rfl rfl (by kernel_rfl)) (fun _ => ?_)
      refine wl_nil ?_
      refine wq_block ?_
      refine wq_then ?_
      refine wc_weak (.cons (i := 1) rfl <| .cons (i := 2) rfl <| .cons (i := 4) rfl <| .cons (i := 5) rfl <| .cons (i := 6) rfl <| .cons (i := 34) rfl <| .nil) ?_
      refine wc_region ?_
      refine wl_free .none rfl (yf_move rfl) ?_
      first | (refine wl_free .none rfl (yf_add rfl rfl (i64_in _ ?_ ?_)) ?_; (· omega); (· omega); skip) | refine wl_free .none rfl (yf_add rfl rfl rfl) ?_
      refine wl_free .none rfl (yf_assign rfl) ?_
      refine wl_nil ?_
      have e : b.ops.take (k + 1) = l ++ [o] := by rw [← take_snoc hk1, hl, ho]
      have e1 : opsCells (l ++ [o]) = opsCells l ++ opC o := by rw [opsCells_app]; rfl
      have e2 : (l ++ [o]).length = l.length + 1 := by simp
      refine wq_round (ι := {j : CtJ // CtI b n j}) ⟨⟨k + 1, a45, c45⟩, by show k + 1 ≤ _; omega, fun q hq => ?_, by show k + 1 ≤ c45; omega⟩ ?_ ?_ (fun u h => ?_)
      · rcases Nat.lt_or_ge q k with h | h
        · exact hall q h
        · obtain rfl : q = k := by have : q < k + 1 := hq; omega
          rw [ho]; exact hp1
      · show b.ops.length - (k + 1) < b.ops.length - k; omega
      · exact .cons rfl <| .cons rfl <| .cons rfl <| .cons rfl <| .consE rfl rfl <| .nil
      · show Hp (fun _ => False) w_0 [(b5, bk _ [_, _, .slice a45 (b.ops.take (k + 1)).length c45]), _, _] [⟨.slice a45 (b.ops.take (k + 1)).length c45, _, 5, (b.ops.take (k + 1)).length, opsCells (b.ops.take (k + 1))⟩, _] _ _
        rw [e, e1, e2]; exact Hp.drop h (.cons _ (.refl _)) (.refl _)
    · skip
      have hx2 : ¬ (k < b.ops.length ∧ pI n o = true) := fun h => by rw [hx.2 h] at hc; cases hc
      have htw : b.ops.takeWhile (pI n) = l := by
        rw [← hl]
        refine tw_take hk hall ?_
        rw [ho]
        rcases Nat.lt_or_ge k b.ops.length with h | h
        · exact .inr (by rw [← Bool.not_eq_true]; exact fun hp => hx2 ⟨h, hp⟩)
        · exact .inl (by omega)
      refine wc_exit ?_
      refine wq_then_exit ?_
      refine wq_then_exit ?_
      refine wq_here ?_
      refine wq_then ?_
      refine wc_seq ?_
      refine wc_still 6 (by kernel_rfl) (by kernel_rfl) (fun _ h => HpG.drew h) ?_
      refine wt_free .none rfl (yf_fieldAddr (off := 0) (sz := 0) rfl Try.underlying26 (by kernel_rfl) rfl) ?_
      first | refine wt_free .none rfl (yf_loadL 0 rfl rfl rfl Try.underlying22 rfl) ?_ | refine wt_free .none rfl (yf_loadL 1 rfl rfl rfl Try.underlying22 rfl) ?_ | refine wt_free .none rfl (yf_loadL 2 rfl rfl rfl Try.underlying22 rfl) ?_ | refine wt_free .none rfl (yf_loadL 3 rfl rfl rfl Try.underlying22 rfl) ?_ | refine wt_free .none rfl (yf_loadL 4 rfl rfl rfl Try.underlying22 rfl) ?_ | refine wt_free .none rfl (yf_loadL 5 rfl rfl rfl Try.underlying22 rfl) ?_
      refine wt_free .none rfl (yf_fieldAddr (off := 0) (sz := 0) rfl Try.underlying26 (by kernel_rfl) rfl) ?_
      first | refine wt_free .none rfl (yf_loadL 0 rfl rfl rfl Try.underlying22 rfl) ?_ | refine wt_free .none rfl (yf_loadL 1 rfl rfl rfl Try.underlying22 rfl) ?_ | refine wt_free .none rfl (yf_loadL 2 rfl rfl rfl Try.underlying22 rfl) ?_ | refine wt_free .none rfl (yf_loadL 3 rfl rfl rfl Try.underlying22 rfl) ?_ | refine wt_free .none rfl (yf_loadL 4 rfl rfl rfl Try.underlying22 rfl) ?_ | refine wt_free .none rfl (yf_loadL 5 rfl rfl rfl Try.underlying22 rfl) ?_
      refine wt_free .none rfl (yf_move rfl) ?_
      (refine wt_free .none rfl (yf_sliceHi (size := 1) rfl rfl Try.underlying22 (by kernel_rfl) rfl ?_) ?_; (· omega); skip)
      refine wt_tail ?_
      refine wl_appendS (z := .int .u32 0) (bytes := 4) (news := (b.at_.take n).map (Value.int .u32)) 1 .none rfl rfl rfl rfl (fun w h => by have := ((HpG.x h).a.rd).take n; rw [← List.map_take] at this; exact this) Try.underlying22 (by kernel_rfl) rfl rfl (by rw [List.length_map, List.length_take]; omega) (ints_one' _) (by omega) (by omega) (by omega) (fun A1 c1 h1 => ?_)
      refine wl_free .none rfl (yf_fieldAddr (off := 0) (sz := 0) rfl Try.underlying26 (by kernel_rfl) rfl) ?_
      first | refine wl_chain0 .none (cf_store 0 rfl rfl rfl rfl rfl (by kernel_rfl)) (fun _ => ?_) | refine wl_chain0 .none (cf_store 1 rfl rfl rfl rfl rfl (by kernel_rfl)) (fun _ => ?_) | refine wl_chain0 .none (cf_store 2 rfl rfl rfl rfl rfl (by kernel_rfl)) (fun _ => ?_) | refine wl_chain0 .none (cf_store 3 rfl rfl rfl rfl rfl (by kernel_rfl)) (fun _ => ?_) | refine wl_chain0 .none (cf_store 4 rfl rfl rfl rfl rfl (by kernel_rfl)) (fun _ => ?_) | refine wl_chain0 .none (cf_store 5 rfl rfl rfl rfl rfl (by kernel_rfl)) (fun _ => ?_)
      refine wl_nil ?_
      refine wq_then ?_
      refine wc_seq ?_
      refine wc_weak (.cons (i := 1) rfl <| .cons (i := 2) rfl <| .cons (i := 4) rfl <| .cons (i := 5) rfl <| .cons (i := 6) rfl <| .cons (i := 34) rfl <| .nil) ?_
      refine wc_drawTN 9 [0, 1, 2, 3, 4, 5, 6, 7, 8] _ (by kernel_rfl) (by kernel_rfl) HpG.stab (fun _ h => h) (fun n0 hn0 => ?_)
      refine wd_at rfl ?_
      (refine wd_free ?_ .none rfl (yf_fieldAddr (off := 2) (sz := 0) rfl Try.underlying26 (by kernel_rfl) rfl) ?_; (· rfl);  skip)
      refine wd_at rfl ?_
      first | (refine wd_free ?_ .none rfl (yf_loadL 0 rfl rfl rfl Try.underlying24 rfl) ?_; (· rfl);  skip) | (refine wd_free ?_ .none rfl (yf_loadL 1 rfl rfl rfl Try.underlying24 rfl) ?_; (· rfl);  skip) | (refine wd_free ?_ .none rfl (yf_loadL 2 rfl rfl rfl Try.underlying24 rfl) ?_; (· rfl);  skip) | (refine wd_free ?_ .none rfl (yf_loadL 3 rfl rfl rfl Try.underlying24 rfl) ?_; (· rfl);  skip) | (refine wd_free ?_ .none rfl (yf_loadL 4 rfl rfl rfl Try.underlying24 rfl) ?_; (· rfl);  skip) | (refine wd_free ?_ .none rfl (yf_loadL 5 rfl rfl rfl Try.underlying24 rfl) ?_; (· rfl);  skip)
      refine wd_at rfl ?_
      (refine wd_free ?_ .none rfl (yf_fieldAddr (off := 0) (sz := 0) rfl Try.underlying26 (by kernel_rfl) rfl) ?_; (· rfl);  skip)
      refine wd_at rfl ?_
      first | (refine wd_free ?_ .none rfl (yf_loadL 0 rfl rfl rfl Try.underlying22 rfl) ?_; (· rfl);  skip) | (refine wd_free ?_ .none rfl (yf_loadL 1 rfl rfl rfl Try.underlying22 rfl) ?_; (· rfl);  skip) | (refine wd_free ?_ .none rfl (yf_loadL 2 rfl rfl rfl Try.underlying22 rfl) ?_; (· rfl);  skip) | (refine wd_free ?_ .none rfl (yf_loadL 3 rfl rfl rfl Try.underlying22 rfl) ?_; (· rfl);  skip) | (refine wd_free ?_ .none rfl (yf_loadL 4 rfl rfl rfl Try.underlying22 rfl) ?_; (· rfl);  skip) | (refine wd_free ?_ .none rfl (yf_loadL 5 rfl rfl rfl Try.underlying22 rfl) ?_; (· rfl);  skip)
      refine wd_at rfl ?_
      (refine wd_free ?_ .none rfl (yf_move rfl) ?_; (· rfl);  skip)
      refine wd_at rfl ?_
      (refine wd_free ?_ .none rfl (yf_indexAddrS (g := gA) (o := oA) (j := n) (es := 1) (by rw [← hA]; rfl) rfl Try.underlying22 (by kernel_rfl) rfl hn rfl) ?_; (· rfl);  skip)
      refine wd_at rfl ?_
      (refine wd_free ?_ .none rfl (yf_load (v := .int .u32 (b.at_.getD n 0)) rfl Try.underlying34 rfl (fun w h => by have := (HpG.x h).a.rd; dsimp only at this; rw [hA] at this; exact this.at (i := n) (by rw [List.length_map]; exact hn) (by omega) (us_at hn rfl))) ?_; (· rfl);  skip)
      refine wd_at rfl ?_
      (refine wd_free ?_ .none rfl (yf_buildS [.int .i64 0, .int .i64 0, .int .i64 0, .int .i64 0, .int .u32 0] [(0, 1), (1, 1), (2, 1), (3, 1), (4, 1)] rfl (by kernel_rfl) (by kernel_rfl) rfl) ?_; (· rfl);  skip)
      refine wd_at rfl ?_
      refine wd_newH ?_ .none rfl (fun k hk => Nat.lt_of_lt_of_le hk hn0) (nf_bs1 (z := .agg #[.int .i64 0, .int .i64 0, .int .i64 0, .int .i64 0, .int .u32 0]) rfl rfl Try.underlying24 (by kernel_rfl) (by kernel_rfl) rfl rfl) (fun b63 hb63 => ?_)
      · rfl
      refine wd_endTH ?_
      simp only [List.drop_succ_cons, List.drop_zero]
      first | (refine wl_appendL (z := .agg #[.int .i64 0, .int .i64 0, .int .i64 0, .int .i64 0, .int .u32 0]) (bytes := 40) 0 0 .none rfl rfl rfl rfl rfl Try.underlying24 (by kernel_rfl) rfl rfl rfl rfl ?_ ?_ ?_ (fun a64 c64 h64 => ?_); (· omega); (· omega); (· omega); skip) | (refine wl_appendL (z := .agg #[.int .i64 0, .int .i64 0, .int .i64 0, .int .i64 0, .int .u32 0]) (bytes := 40) 1 0 .none rfl rfl rfl rfl rfl Try.underlying24 (by kernel_rfl) rfl rfl rfl rfl ?_ ?_ ?_ (fun a64 c64 h64 => ?_); (· omega); (· omega); (· omega); skip) | (refine wl_appendL (z := .agg #[.int .i64 0, .int .i64 0, .int .i64 0, .int .i64 0, .int .u32 0]) (bytes := 40) 2 0 .none rfl rfl rfl rfl rfl Try.underlying24 (by kernel_rfl) rfl rfl rfl rfl ?_ ?_ ?_ (fun a64 c64 h64 => ?_); (· omega); (· omega); (· omega); skip) | (refine wl_appendL (z := .agg #[.int .i64 0, .int .i64 0, .int .i64 0, .int .i64 0, .int .u32 0]) (bytes := 40) 0 1 .none rfl rfl rfl rfl rfl Try.underlying24 (by kernel_rfl) rfl rfl rfl rfl ?_ ?_ ?_ (fun a64 c64 h64 => ?_); (· omega); (· omega); (· omega); skip) | (refine wl_appendL (z := .agg #[.int .i64 0, .int .i64 0, .int .i64 0, .int .i64 0, .int .u32 0]) (bytes := 40) 1 1 .none rfl rfl rfl rfl rfl Try.underlying24 (by kernel_rfl) rfl rfl rfl rfl ?_ ?_ ?_ (fun a64 c64 h64 => ?_); (· omega); (· omega); (· omega); skip) | (refine wl_appendL (z := .agg #[.int .i64 0, .int .i64 0, .int .i64 0, .int .i64 0, .int .u32 0]) (bytes := 40) 2 1 .none rfl rfl rfl rfl rfl Try.underlying24 (by kernel_rfl) rfl rfl rfl rfl ?_ ?_ ?_ (fun a64 c64 h64 => ?_); (· omega); (· omega); (· omega); skip) | (refine wl_appendL (z := .agg #[.int .i64 0, .int .i64 0, .int .i64 0, .int .i64 0, .int .u32 0]) (bytes := 40) 0 2 .none rfl rfl rfl rfl rfl Try.underlying24 (by kernel_rfl) rfl rfl rfl rfl ?_ ?_ ?_ (fun a64 c64 h64 => ?_); (· omega); (· omega); (· omega); skip) | (refine wl_appendL (z := .agg #[.int .i64 0, .int .i64 0, .int .i64 0, .int .i64 0, .int .u32 0]) (bytes := 40) 1 2 .none rfl rfl rfl rfl rfl Try.underlying24 (by kernel_rfl) rfl rfl rfl rfl ?_ ?_ ?_ (fun a64 c64 h64 => ?_); (· omega); (· omega); (· omega); skip) | (refine wl_appendL (z := .agg #[.int .i64 0, .int .i64 0, .int .i64 0, .int .i64 0, .int .u32 0]) (bytes := 40) 2 2 .none rfl rfl rfl rfl rfl Try.underlying24 (by kernel_rfl) rfl rfl rfl rfl ?_ ?_ ?_ (fun a64 c64 h64 => ?_); (· omega); (· omega); (· omega); skip)
      refine wl_free .none rfl (yf_fieldAddr (off := 2) (sz := 0) rfl Try.underlying26 (by kernel_rfl) rfl) ?_
      first | refine wl_chain0 .none (cf_store 0 rfl rfl rfl rfl rfl (by kernel_rfl)) (fun _ => ?_) | refine wl_chain0 .none (cf_store 1 rfl rfl rfl rfl rfl (by kernel_rfl)) (fun _ => ?_) | refine wl_chain0 .none (cf_store 2 rfl rfl rfl rfl rfl (by kernel_rfl)) (fun _ => ?_) | refine wl_chain0 .none (cf_store 3 rfl rfl rfl rfl rfl (by kernel_rfl)) (fun _ => ?_) | refine wl_chain0 .none (cf_store 4 rfl rfl rfl rfl rfl (by kernel_rfl)) (fun _ => ?_) | refine wl_chain0 .none (cf_store 5 rfl rfl rfl rfl rfl (by kernel_rfl)) (fun _ => ?_)
      refine wl_nil ?_
      refine wq_then ?_
      refine wc_seq ?_
      refine wc_weak (.cons (i := 1) rfl <| .cons (i := 2) rfl <| .cons (i := 4) rfl <| .cons (i := 5) rfl <| .cons (i := 6) rfl <| .cons (i := 34) rfl <| .nil) ?_
      refine wc_region ?_
      first | refine wl_free .none rfl (yf_loadAllL 0 rfl rfl Try.underlying26 rfl (by kernel_rfl)) ?_ | refine wl_free .none rfl (yf_loadAllL 1 rfl rfl Try.underlying26 rfl (by kernel_rfl)) ?_ | refine wl_free .none rfl (yf_loadAllL 2 rfl rfl Try.underlying26 rfl (by kernel_rfl)) ?_ | refine wl_free .none rfl (yf_loadAllL 3 rfl rfl Try.underlying26 rfl (by kernel_rfl)) ?_ | refine wl_free .none rfl (yf_loadAllL 4 rfl rfl Try.underlying26 rfl (by kernel_rfl)) ?_ | refine wl_free .none rfl (yf_loadAllL 5 rfl rfl Try.underlying26 rfl (by kernel_rfl)) ?_
      first | refine wl_chain0 .none (cf_storeRow 0 rfl rfl rfl rfl rfl (by kernel_rfl)) (fun _ => ?_) | refine wl_chain0 .none (cf_storeRow 1 rfl rfl rfl rfl rfl (by kernel_rfl)) (fun _ => ?_) | refine wl_chain0 .none (cf_storeRow 2 rfl rfl rfl rfl rfl (by kernel_rfl)) (fun _ => ?_) | refine wl_chain0 .none (cf_storeRow 3 rfl rfl rfl rfl rfl (by kernel_rfl)) (fun _ => ?_) | refine wl_chain0 .none (cf_storeRow 4 rfl rfl rfl rfl rfl (by kernel_rfl)) (fun _ => ?_) | refine wl_chain0 .none (cf_storeRow 5 rfl rfl rfl rfl rfl (by kernel_rfl)) (fun _ => ?_)
      refine wl_nil ?_
      refine wq_then ?_
      refine wc_ret ?_
      first | refine wq_retC rfl rfl 0 rfl Try.underlying26 rfl (by kernel_rfl) (fun w hw => ?_) | refine wq_retC rfl rfl 1 rfl Try.underlying26 rfl (by kernel_rfl) (fun w hw => ?_) | refine wq_retC rfl rfl 2 rfl Try.underlying26 rfl (by kernel_rfl) (fun w hw => ?_) | refine wq_retC rfl rfl 3 rfl Try.underlying26 rfl (by kernel_rfl) (fun w hw => ?_) | refine wq_retC rfl rfl 4 rfl Try.underlying26 rfl (by kernel_rfl) (fun w hw => ?_) | refine wq_retC rfl rfl 5 rfl Try.underlying26 rfl (by kernel_rfl) (fun w hw => ?_) | refine wq_retC rfl rfl 6 rfl Try.underlying26 rfl (by kernel_rfl) (fun w hw => ?_)
      have hlt : (b.at_.take n).length = n := by rw [List.length_take]; omega
      have e0 : (cutL b n).ops = l ++ [exitOp (b.at_.getD n 0)] := by show b.ops.takeWhile (pI n) ++ _ = _; rw [htw]
      have e1 : opsCells (cutL b n).ops = opsCells l ++ opC (exitOp (b.at_.getD n 0)) := by rw [e0, opsCells_app]; rfl
      have e2 : (cutL b n).ops.length = l.length + 1 := by rw [e0]; simp
      refine ⟨⟨cutL b n, A1, aP, a64, c1, cP, c64⟩, ⟨rfl, ⟨fun m hm => uA m (List.mem_of_mem_take hm), fun q hq => ?_, by show (b.at_.take n).length ≤ _; omega, by show b.pages.length ≤ _; omega, by show (cutL b n).ops.length ≤ _; omega, by show (b.at_.take n).length ≤ c1; omega, hcP, by show (cutL b n).ops.length ≤ c64; omega⟩, rfl, rfl⟩, ?_, ?_⟩
      · have hq : q ∈ (cutL b n).ops := hq
        rw [e0] at hq
        rcases List.mem_append.1 hq with hq | hq
        · rw [← hl] at hq; exact uO q (List.mem_of_mem_take hq)
        · rw [List.mem_singleton.1 hq]
          have := getD_mem (l := b.at_) hn
          exact uA _ this
      · show Ending.returned (.agg #[.slice A1 (0 + n) c1, .slice aP b.pages.length cP, .slice a64 (l.length + 1) c64]) = .returned (.agg #[.slice A1 (b.at_.take n).length c1, .slice aP b.pages.length cP, .slice a64 (cutL b n).ops.length c64])
        rw [hlt, e2, Nat.zero_add]
      · show Hp _ _ [] [⟨.slice A1 (b.at_.take n).length c1, _, 1, (b.at_.take n).length, (b.at_.take n).map (Value.int .u32)⟩, ⟨.slice a64 (cutL b n).ops.length c64, _, 5, (cutL b n).ops.length, opsCells (cutL b n).ops⟩] _ _
        rw [hlt, e2, e1]
        have h := hp_and (Hp.drop (L' := []) hw (List.nil_sublist _) (.refl _))
        rw [Nat.zero_add, List.nil_append] at h
        exact Hp.perm h (.swap _ _ _)
end Go.Proofs.Ytojofinofpgopaa
