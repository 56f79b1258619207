/- The maker of blocks: instruction. -/
import Derived.Test.YtojofinofpgopaaDoorMk
namespace Go.Proofs.YtojofinofpgopaaDoor
open Go.RowKit
structure Lp where
  nn : Int
  kk : Nat
  l : List IOp
  wr : List Bool
  v : Value
/-- The first loop: operations that may leave. -/
def LpC (p : Int) (k : Nat) (i : Lp) : Prop := 0 ≤ i.nn ∧ i.l.length + i.nn.toNat ≤ 3 ∧ i.kk + 20 * i.nn.toNat ≤ k + 61 ∧ i.wr.length = 8 ∧ ∃ W, Ins p i.wr i.l W false
/-- The second: operations that write guest variables. -/
def LpD (p : Int) (k : Nat) (i : Lp) : Prop := 0 ≤ i.nn ∧ i.l.length + i.nn.toNat ≤ 7 ∧ i.kk + 20 * i.nn.toNat ≤ k + 160 ∧ i.wr.length = 8 ∧ ∃ W ch, Ins p i.wr i.l W ch
theorem LpC.mk {p : Int} {k : Nat} {nn : Int} {kk : Nat} {l : List IOp} {wr : List Bool} {v : Value} (h0 : 0 ≤ nn) (h1 : l.length + nn.toNat ≤ 3) (h2 : kk + 20 * nn.toNat ≤ k + 61) (h3 : wr.length = 8) (h4 : ∃ W, Ins p wr l W false) : LpC p k ⟨nn, kk, l, wr, v⟩ := ⟨h0, h1, h2, h3, h4⟩
theorem LpD.mk {p : Int} {k : Nat} {nn : Int} {kk : Nat} {l : List IOp} {wr : List Bool} {v : Value} (h0 : 0 ≤ nn) (h1 : l.length + nn.toNat ≤ 7) (h2 : kk + 20 * nn.toNat ≤ k + 160) (h3 : wr.length = 8) (h4 : ∃ W ch, Ins p wr l W ch) : LpD p k ⟨nn, kk, l, wr, v⟩ := ⟨h0, h1, h2, h3, h4⟩
abbrev LpI (M b4 t : Nat) (i : Lp) : List (Nat × Value) := [(0, .pointer (some ⟨M, 0, none⟩)), (3, i.v), (4, .pointer (some ⟨b4, 0, none⟩)), (t, .int .i64 i.nn)]
abbrev LpH (w : World) (M b4 : Nat) (A : Option Addr) (cap : Nat) (s : List Int) (i : Lp) : World → Prop := Hp (fun j => j = M) w [(b4, bk 85 (bools i.wr)), (M, mkV A cap s i.kk)] [⟨i.v, 53, 5, i.l.length, opsCells i.l⟩] (RdIn (fun j => j = M) A (i64s s))
theorem LpH.go {w : World} {M b4 : Nat} {A : Option Addr} {cap : Nat} {s : List Int} {L : List (Nat × Obj)} {kk : Nat} {l : List IOp} {wr' : List Bool} {v : Value} {cs : List Value} {xs : List Value} {n : Nat} {nn : Int} {u : World} (h : Hp (fun j => j = M) w L [⟨v, 53, 5, n, xs⟩] (RdIn (fun j => j = M) A (i64s s)) u)
    (hL : [(b4, bk 85 cs), (M, mkV A cap s kk)].Sublist L) (hc : cs = bools wr') (hn : n = l.length) (hx : xs = opsCells l) : LpH w M b4 A cap s ⟨nn, kk, l, wr', v⟩ u := by
  subst hc; subst hn; subst hx
  exact Hp.drop h hL (List.Sublist.refl _)
theorem opsCells_snoc (l : List IOp) (c d a b n : Int) : opsCells l ++ [.int .i64 c, .int .i64 d, .int .i64 a, .int .i64 b, .int .u32 n] = opsCells (l ++ [⟨c, d, a, b, n⟩]) := by rw [opsCells_app]; rfl
set_option maxRecDepth 100000 in
theorem instruction_any {M : Nat} {A : Option Addr} {cap : Nat} {s : List Int} {k : Nat} (p : Int) (w : World) (h : Mk M A cap s k w) (hk : k < 4294960000) :
    Calls Tryd.prog 18 #[.pointer (some ⟨M, 0, none⟩)] w fun e w' => ∃ v, e = .returned v ∧ ∃ l k', l.length ≤ 7 ∧ k' ≤ k + 200 ∧ (∃ wr W ch, Ins p wr l W ch) ∧ Hp (fun j => j = M) w [(M, mkV A cap s k')] [⟨v, 53, 5, l.length, opsCells l⟩] (RdIn (fun j => j = M) A (i64s s)) w' := by
  have hl := h.len
  refine calls_wc (args := [.pointer (some ⟨M, 0, none⟩)]) Tryd.func18 rfl 141 rfl (Nat.le_of_ble_eq_true rfl) ?_
  refine wc_weak (.cons (i := 0) rfl <| .nil) ?_
  refine wc_conseq (H' := Hp (fun j => j = M) w [(M, mkV A cap s k)] [] (RdIn (fun j => j = M) A (i64s s))) (fun u hu => ?_) ?_
  · subst hu; exact Hp.startB h.m h.rd.foot'
  refine wc_seq ?_
  refine wc_region ?_
  refine wl_free .none rfl (yf_assign rfl) ?_
  refine wl_nil ?_
  refine wq_then ?_
  refine wc_seq ?_
  refine wc_region ?_
  refine wl_free .none rfl (yf_assign rfl) ?_
  refine wl_nil ?_
  refine wq_then ?_
  refine wc_seq ?_
  refine wc_region ?_
  refine wl_new .none rfl (nf_alloc (z := .agg #[.bool false, .bool false, .bool false, .bool false, .bool false, .bool false, .bool false, .bool false]) (cs := [.bool false, .bool false, .bool false, .bool false, .bool false, .bool false, .bool false, .bool false]) (by kernel_rfl) rfl) (fun b4 => ?_)
  refine wl_nil ?_
  refine wq_then ?_
  refine wc_seq ?_
  refine wc_seq ?_
  refine wc_conseq (fun w h => Hp.nil h 53 5) ?_
  refine wc_region ?_
  refine wl_free .none rfl (yf_move rfl) ?_
  refine wl_turnE .none rfl 1 (by kernel_rfl) rfl rfl (fun w hm hw => take_any _ w ⟨hm, HpG.x hw, hl⟩ (by decide) (by decide) (by omega)) (fun x hx => ?_)
  refine wl_free .none rfl (yf_assign rfl) ?_
  refine wl_nil ?_
  refine wq_then ?_
  refine wc_block ?_
  refine wc_loop (ι := {i : Lp // LpC p k i}) (fun i => LpI M b4 5 i.1) (fun i => LpH w M b4 A cap s i.1) (fun i => i.1.nn.toNat) ⟨⟨x, k + 1, [], List.replicate 8 false, .slice none 0 0⟩, LpC.mk hx.1 (by simp; omega) (by omega) rfl ⟨0, rfl, Kn.zero (fun t => by rw [List.getD_eq_getElem?_getD, List.getElem?_replicate]; split <;> rfl), fun o ho => by cases ho⟩⟩ (.cons rfl <| .cons rfl <| .cons rfl <| .cons rfl <| .nil) (fun w h => h) (fun i => ?_)
  obtain ⟨⟨nn, kk, l, wr, v⟩, hn0, hlen, hkk, hwr, W, hI⟩ := i
  dsimp only [LpI, LpH] at hn0 hlen hkk hwr hI ⊢
  refine wc_seq ?_
  refine wc_seq ?_
  refine wc_region ?_
  refine wl_free .none rfl (yf_move rfl) ?_
  refine wl_free .none rfl (yf_gtr rfl rfl) ?_
  refine wl_nil ?_
  refine wq_then ?_
  refine wc_cond rfl (fun hc => ?_) (fun hc => ?_)
  · replace hc := of_decide_eq_true hc
    refine wc_skip ?_
    refine wq_then ?_
    refine wc_seq ?_
    refine wc_block ?_
    refine wc_seq ?_
    refine wc_weak (.cons (i := 0) rfl <| .cons (i := 3) rfl <| .cons (i := 4) rfl <| .cons (i := 5) rfl <| .cons (i := 18) rfl <| .nil) ?_
    refine wc_region ?_
    refine wl_free .none rfl (yf_move rfl) ?_
    refine wl_turnE .none rfl 1 (by kernel_rfl) rfl rfl (fun w hm hw => take_any _ w ⟨hm, HpG.x hw, hl⟩ (by decide) (by decide) (by omega)) (fun t ht => ?_)
    refine wl_free .none rfl (yf_assign rfl) ?_
    refine wl_nil ?_
    refine wq_then ?_
    refine wc_seq ?_
    refine wc_weak (.cons (i := 0) rfl <| .cons (i := 3) rfl <| .cons (i := 4) rfl <| .cons (i := 5) rfl <| .cons (i := 6) rfl <| .cons (i := 18) rfl <| .nil) ?_
    refine wc_region ?_
    refine wl_free .none rfl (yf_move rfl) ?_
    refine wl_free .none rfl (yf_loadAllL 0 rfl rfl Tryd.underlying85 rfl (by rw [bools_len, hwr]; kernel_rfl)) ?_
    refine wl_turnE .none rfl 1 (by kernel_rfl) rfl rfl (fun w hm hw => source_any wr w ⟨hm, HpG.x hw, hl⟩ (by omega) hwr) (fun a ha => ?_)
    refine wl_free .none rfl (yf_assign rfl) ?_
    refine wl_nil ?_
    refine wq_then ?_
    refine wc_seq ?_
    refine wc_seq ?_
    refine wc_weak (.cons (i := 0) rfl <| .cons (i := 3) rfl <| .cons (i := 4) rfl <| .cons (i := 5) rfl <| .cons (i := 6) rfl <| .cons (i := 7) rfl <| .cons (i := 18) rfl <| .nil) ?_
    refine wc_region ?_
    refine wl_free .none rfl (yf_move rfl) ?_
    refine wl_turnE .none rfl 1 (by kernel_rfl) rfl rfl (fun w hm hw => take_any _ w ⟨hm, HpG.x hw, hl⟩ (by decide) (by decide) (by omega)) (fun q hq => ?_)
    refine wl_nil ?_
    refine wq_then ?_
    refine wc_block ?_
    refine wc_seq ?_
    refine wc_weak (.cons (i := 0) rfl <| .cons (i := 3) rfl <| .cons (i := 4) rfl <| .cons (i := 5) rfl <| .cons (i := 6) rfl <| .cons (i := 7) rfl <| .cons (i := 18) rfl <| .cons (i := 27) rfl <| .nil) ?_
    refine wc_region ?_
    refine wl_free .none rfl (yf_eql rfl rfl) ?_
    refine wl_free .none rfl (yf_assign rfl) ?_
    refine wl_nil ?_
    refine wq_then ?_
    refine wc_cond rfl (fun hc => ?_) (fun hc => ?_)
    · replace hc := eq_of_beq hc
      refine wc_weak (.cons (i := 0) rfl <| .cons (i := 3) rfl <| .cons (i := 4) rfl <| .cons (i := 5) rfl <| .cons (i := 6) rfl <| .cons (i := 7) rfl <| .cons (i := 18) rfl <| .cons (i := 27) rfl <| .cons (i := 42) rfl <| .nil) ?_
      refine wc_region ?_
      refine wl_free .none rfl (yf_move rfl) ?_
      refine wl_free .none rfl (yf_move rfl) ?_
      (refine wl_free .none rfl (yf_add rfl rfl (i64_in _ ?_ ?_)) ?_; (· omega); (· omega); skip)
      refine wl_free .none rfl (yf_move rfl) ?_
      refine wl_turnE .none rfl 1 (by kernel_rfl) rfl rfl (fun w hm hw => word_any w ⟨hm, HpG.x hw, hl⟩ (by omega)) (fun z hz => ?_)
      refine wl_free .none rfl (yf_buildS [.int .i64 0, .int .i64 0, .int .i64 0, .int .i64 0, .int .u32 0] [(0, 1), (1, 1), (2, 1), (3, 1), (4, 1)] rfl (by kernel_rfl) (by kernel_rfl) rfl) ?_
      refine wl_new .none rfl (nf_bs1 (z := .agg #[.int .i64 0, .int .i64 0, .int .i64 0, .int .i64 0, .int .u32 0]) rfl rfl Tryd.underlying26 (by kernel_rfl) (by kernel_rfl) rfl rfl) (fun b50 => ?_)
      (refine wl_append (z := .agg #[.int .i64 0, .int .i64 0, .int .i64 0, .int .i64 0, .int .u32 0]) (bytes := 40) 0 0 .none rfl rfl rfl rfl rfl Tryd.underlying26 (by kernel_rfl) rfl rfl rfl rfl rfl ?_ ?_ (fun a51 c51 => ?_); (· omega); (· omega); skip)
      refine wl_free .none rfl (yf_assign rfl) ?_
      refine wl_nil ?_
      refine wq_block ?_
      refine wq_then ?_
      refine wc_seq ?_
      refine wc_weak (.cons (i := 0) rfl <| .cons (i := 3) rfl <| .cons (i := 4) rfl <| .cons (i := 5) rfl <| .cons (i := 6) rfl <| .cons (i := 7) rfl <| .cons (i := 18) rfl <| .cons (i := 27) rfl <| .cons (i := 42) rfl <| .nil) ?_
      refine wc_region ?_
      refine wl_free .none rfl (yf_move rfl) ?_
      refine wl_free .none rfl (yf_geq rfl rfl) ?_
      refine wl_nil ?_
      refine wq_then ?_
      refine wc_cond rfl (fun hc => ?_) (fun hc => ?_)
      · replace hc := of_decide_eq_true hc
        first
          | (omega)
          | (
            refine wc_weak (.cons (i := 0) rfl <| .cons (i := 3) rfl <| .cons (i := 4) rfl <| .cons (i := 5) rfl <| .cons (i := 6) rfl <| .cons (i := 7) rfl <| .cons (i := 18) rfl <| .cons (i := 27) rfl <| .cons (i := 42) rfl <| .cons (i := 74) rfl <| .nil) ?_
            refine wc_region ?_
            refine wl_free .none rfl (yf_move rfl) ?_
            (refine wl_free .none rfl (yf_indexAddrA (es := 1) rfl rfl Tryd.underlying85 (by kernel_rfl) (Int.toNat_of_nonneg ?_).symm ?_ rfl) ?_; (· omega); (· first | decide | omega | (simp; omega)); skip)
            refine wl_chain0 .none (cf_store 1 rfl rfl rfl rfl (by rw [bools_len, hwr]; simp; omega) (by kernel_rfl)) (fun _ => ?_)
            refine wl_nil ?_
            refine wq_block ?_
            refine wq_then ?_
            refine wc_weak (.cons (i := 0) rfl <| .cons (i := 3) rfl <| .cons (i := 4) rfl <| .cons (i := 5) rfl <| .cons (i := 6) rfl <| .cons (i := 7) rfl <| .cons (i := 18) rfl <| .cons (i := 27) rfl <| .cons (i := 42) rfl <| .cons (i := 74) rfl <| .nil) ?_
            refine wc_region ?_
            refine wl_free .none rfl (yf_move rfl) ?_
            (refine wl_free .none rfl (yf_sub rfl rfl (i64_in _ ?_ ?_)) ?_; (· omega); (· omega); skip)
            refine wl_free .none rfl (yf_assign rfl) ?_
            refine wl_nil ?_
            refine wq_round (ι := {i : Lp // LpC p k i}) ⟨⟨nn - 1, kk + 1 + 1 + 1 + 2, l ++ [⟨1, 20 + t, 0, 0, z⟩], wr.set t.toNat true, .slice (some ⟨a51, 0, none⟩) (l.length + 1) c51⟩, LpC.mk (by omega) (by simp; omega) (by omega) (by simp [hwr]) (ins_const hI ht.1 ht.2 hz)⟩ ?_ ?_ (fun w h => ?_)
            · show (nn - 1).toNat < nn.toNat; omega
            · exact .cons rfl <| .cons rfl <| .cons rfl <| .cons rfl <| .nil
            · exact LpH.go h (.cons _ (.refl _)) (by simp [bools, List.map_set]) (by simp) (opsCells_snoc ..))
      · replace hc := of_decide_eq_false hc
        first
          | (omega)
          | (
            refine wc_skip ?_
            refine wq_block ?_
            refine wq_then ?_
            refine wc_weak (.cons (i := 0) rfl <| .cons (i := 3) rfl <| .cons (i := 4) rfl <| .cons (i := 5) rfl <| .cons (i := 6) rfl <| .cons (i := 7) rfl <| .cons (i := 18) rfl <| .cons (i := 27) rfl <| .cons (i := 42) rfl <| .cons (i := 74) rfl <| .nil) ?_
            refine wc_region ?_
            refine wl_free .none rfl (yf_move rfl) ?_
            first | (refine wl_free .none rfl (yf_sub rfl rfl (i64_in _ ?_ ?_)) ?_; (· omega); (· omega); skip) | refine wl_free .none rfl (yf_sub rfl rfl rfl) ?_
            refine wl_free .none rfl (yf_assign rfl) ?_
            refine wl_nil ?_
            skip)
    · replace hc := beq_no hc
      refine wc_seq ?_
      refine wc_weak (.cons (i := 0) rfl <| .cons (i := 3) rfl <| .cons (i := 4) rfl <| .cons (i := 5) rfl <| .cons (i := 6) rfl <| .cons (i := 7) rfl <| .cons (i := 18) rfl <| .cons (i := 27) rfl <| .cons (i := 42) rfl <| .nil) ?_
      refine wc_region ?_
      refine wl_free .none rfl (yf_eql rfl rfl) ?_
      refine wl_free .none rfl (yf_assign rfl) ?_
      refine wl_nil ?_
      refine wq_then ?_
      refine wc_cond rfl (fun hc => ?_) (fun hc => ?_)
      · replace hc := eq_of_beq hc
        refine wc_weak (.cons (i := 0) rfl <| .cons (i := 3) rfl <| .cons (i := 4) rfl <| .cons (i := 5) rfl <| .cons (i := 6) rfl <| .cons (i := 7) rfl <| .cons (i := 18) rfl <| .cons (i := 27) rfl <| .cons (i := 42) rfl <| .cons (i := 52) rfl <| .nil) ?_
        refine wc_region ?_
        refine wl_free .none rfl (yf_move rfl) ?_
        refine wl_free .none rfl (yf_move rfl) ?_
        refine wl_turnE .none rfl 1 (by kernel_rfl) rfl rfl (fun w hm hw => take_any _ w ⟨hm, HpG.x hw, hl⟩ (by decide) (by decide) (by omega)) (fun c hc => ?_)
        (refine wl_free .none rfl (yf_add rfl rfl (i64_in _ ?_ ?_)) ?_; (· omega); (· omega); skip)
        refine wl_free .none rfl (yf_move rfl) ?_
        (refine wl_free .none rfl (yf_add rfl rfl (i64_in _ ?_ ?_)) ?_; (· omega); (· omega); skip)
        refine wl_free .none rfl (yf_move rfl) ?_
        refine wl_free .none rfl (yf_move rfl) ?_
        refine wl_turnE .none rfl 1 (by kernel_rfl) rfl rfl (fun w hm hw => word_any w ⟨hm, HpG.x hw, hl⟩ (by omega)) (fun z hz => ?_)
        refine wl_free .none rfl (yf_buildS [.int .i64 0, .int .i64 0, .int .i64 0, .int .i64 0, .int .u32 0] [(0, 1), (1, 1), (2, 1), (3, 1), (4, 1)] rfl (by kernel_rfl) (by kernel_rfl) rfl) ?_
        refine wl_new .none rfl (nf_bs1 (z := .agg #[.int .i64 0, .int .i64 0, .int .i64 0, .int .i64 0, .int .u32 0]) rfl rfl Tryd.underlying26 (by kernel_rfl) (by kernel_rfl) rfl rfl) (fun b64 => ?_)
        (refine wl_append (z := .agg #[.int .i64 0, .int .i64 0, .int .i64 0, .int .i64 0, .int .u32 0]) (bytes := 40) 0 0 .none rfl rfl rfl rfl rfl Tryd.underlying26 (by kernel_rfl) rfl rfl rfl rfl rfl ?_ ?_ (fun a65 c65 => ?_); (· omega); (· omega); skip)
        refine wl_free .none rfl (yf_assign rfl) ?_
        refine wl_nil ?_
        refine wq_block ?_
        refine wq_then ?_
        refine wc_seq ?_
        refine wc_weak (.cons (i := 0) rfl <| .cons (i := 3) rfl <| .cons (i := 4) rfl <| .cons (i := 5) rfl <| .cons (i := 6) rfl <| .cons (i := 7) rfl <| .cons (i := 18) rfl <| .cons (i := 27) rfl <| .cons (i := 42) rfl <| .cons (i := 52) rfl <| .nil) ?_
        refine wc_region ?_
        refine wl_free .none rfl (yf_move rfl) ?_
        refine wl_free .none rfl (yf_geq rfl rfl) ?_
        refine wl_nil ?_
        refine wq_then ?_
        refine wc_cond rfl (fun hc => ?_) (fun hc => ?_)
        · replace hc := of_decide_eq_true hc
          first
            | (omega)
            | (
              refine wc_weak (.cons (i := 0) rfl <| .cons (i := 3) rfl <| .cons (i := 4) rfl <| .cons (i := 5) rfl <| .cons (i := 6) rfl <| .cons (i := 7) rfl <| .cons (i := 18) rfl <| .cons (i := 27) rfl <| .cons (i := 42) rfl <| .cons (i := 52) rfl <| .cons (i := 74) rfl <| .nil) ?_
              refine wc_region ?_
              refine wl_free .none rfl (yf_move rfl) ?_
              (refine wl_free .none rfl (yf_indexAddrA (es := 1) rfl rfl Tryd.underlying85 (by kernel_rfl) (Int.toNat_of_nonneg ?_).symm ?_ rfl) ?_; (· omega); (· first | decide | omega | (simp; omega)); skip)
              refine wl_chain0 .none (cf_store 1 rfl rfl rfl rfl (by rw [bools_len, hwr]; simp; omega) (by kernel_rfl)) (fun _ => ?_)
              refine wl_nil ?_
              refine wq_block ?_
              refine wq_then ?_
              refine wc_weak (.cons (i := 0) rfl <| .cons (i := 3) rfl <| .cons (i := 4) rfl <| .cons (i := 5) rfl <| .cons (i := 6) rfl <| .cons (i := 7) rfl <| .cons (i := 18) rfl <| .cons (i := 27) rfl <| .cons (i := 42) rfl <| .cons (i := 52) rfl <| .cons (i := 74) rfl <| .nil) ?_
              refine wc_region ?_
              refine wl_free .none rfl (yf_move rfl) ?_
              (refine wl_free .none rfl (yf_sub rfl rfl (i64_in _ ?_ ?_)) ?_; (· omega); (· omega); skip)
              refine wl_free .none rfl (yf_assign rfl) ?_
              refine wl_nil ?_
              refine wq_round (ι := {i : Lp // LpC p k i}) ⟨⟨nn - 1, kk + 1 + 1 + 1 + 1 + 2, l ++ [⟨16 + c, 20 + t, a, 0, z⟩], wr.set t.toNat true, .slice (some ⟨a65, 0, none⟩) (l.length + 1) c65⟩, LpC.mk (by omega) (by simp; omega) (by omega) (by simp [hwr]) (ins_load hI (by omega) ht.1 ht.2 ha hz)⟩ ?_ ?_ (fun w h => ?_)
              · show (nn - 1).toNat < nn.toNat; omega
              · exact .cons rfl <| .cons rfl <| .cons rfl <| .cons rfl <| .nil
              · exact LpH.go h (.cons _ (.refl _)) (by simp [bools, List.map_set]) (by simp) (opsCells_snoc ..))
        · replace hc := of_decide_eq_false hc
          first
            | (omega)
            | (
              refine wc_skip ?_
              refine wq_block ?_
              refine wq_then ?_
              refine wc_weak (.cons (i := 0) rfl <| .cons (i := 3) rfl <| .cons (i := 4) rfl <| .cons (i := 5) rfl <| .cons (i := 6) rfl <| .cons (i := 7) rfl <| .cons (i := 18) rfl <| .cons (i := 27) rfl <| .cons (i := 42) rfl <| .cons (i := 52) rfl <| .cons (i := 74) rfl <| .nil) ?_
              refine wc_region ?_
              refine wl_free .none rfl (yf_move rfl) ?_
              first | (refine wl_free .none rfl (yf_sub rfl rfl (i64_in _ ?_ ?_)) ?_; (· omega); (· omega); skip) | refine wl_free .none rfl (yf_sub rfl rfl rfl) ?_
              refine wl_free .none rfl (yf_assign rfl) ?_
              refine wl_nil ?_
              skip)
      · replace hc := beq_no hc
        refine wc_seq ?_
        refine wc_weak (.cons (i := 0) rfl <| .cons (i := 3) rfl <| .cons (i := 4) rfl <| .cons (i := 5) rfl <| .cons (i := 6) rfl <| .cons (i := 7) rfl <| .cons (i := 18) rfl <| .cons (i := 27) rfl <| .cons (i := 42) rfl <| .cons (i := 52) rfl <| .nil) ?_
        refine wc_region ?_
        refine wl_free .none rfl (yf_eql rfl rfl) ?_
        refine wl_free .none rfl (yf_assign rfl) ?_
        refine wl_nil ?_
        refine wq_then ?_
        refine wc_cond rfl (fun hc => ?_) (fun hc => ?_)
        · replace hc := eq_of_beq hc
          refine wc_seq ?_
          refine wc_weak (.cons (i := 0) rfl <| .cons (i := 3) rfl <| .cons (i := 4) rfl <| .cons (i := 5) rfl <| .cons (i := 6) rfl <| .cons (i := 7) rfl <| .cons (i := 18) rfl <| .cons (i := 27) rfl <| .cons (i := 42) rfl <| .cons (i := 52) rfl <| .cons (i := 66) rfl <| .nil) ?_
          refine wc_region ?_
          refine wl_free .none rfl (yf_move rfl) ?_
          refine wl_free .none rfl (yf_move rfl) ?_
          refine wl_free .none rfl (yf_buildS [.int .i64 0, .int .i64 0, .int .i64 0, .int .i64 0, .int .u32 0] [(0, 1), (1, 1), (2, 1), (3, 1), (4, 1)] rfl (by kernel_rfl) (by kernel_rfl) rfl) ?_
          refine wl_new .none rfl (nf_bs1 (z := .agg #[.int .i64 0, .int .i64 0, .int .i64 0, .int .i64 0, .int .u32 0]) rfl rfl Tryd.underlying26 (by kernel_rfl) (by kernel_rfl) rfl rfl) (fun b71 => ?_)
          (refine wl_append (z := .agg #[.int .i64 0, .int .i64 0, .int .i64 0, .int .i64 0, .int .u32 0]) (bytes := 40) 0 0 .none rfl rfl rfl rfl rfl Tryd.underlying26 (by kernel_rfl) rfl rfl rfl rfl rfl ?_ ?_ (fun a72 c72 => ?_); (· omega); (· omega); skip)
          refine wl_free .none rfl (yf_assign rfl) ?_
          refine wl_nil ?_
          refine wq_then ?_
          refine wc_weak (.cons (i := 0) rfl <| .cons (i := 3) rfl <| .cons (i := 4) rfl <| .cons (i := 5) rfl <| .cons (i := 6) rfl <| .cons (i := 7) rfl <| .cons (i := 18) rfl <| .cons (i := 27) rfl <| .cons (i := 42) rfl <| .cons (i := 52) rfl <| .cons (i := 66) rfl <| .nil) ?_
          refine wc_region ?_
          refine wl_free .none rfl (yf_assign rfl) ?_
          refine wl_nil ?_
          refine wq_block ?_
          refine wq_then ?_
          refine wc_seq ?_
          refine wc_region ?_
          refine wl_free .none rfl (yf_move rfl) ?_
          refine wl_free .none rfl (yf_geq rfl rfl) ?_
          refine wl_nil ?_
          refine wq_then ?_
          refine wc_cond rfl (fun hc => ?_) (fun hc => ?_)
          · replace hc := of_decide_eq_true hc
            first
              | (omega)
              | (
                refine wc_weak (.cons (i := 0) rfl <| .cons (i := 3) rfl <| .cons (i := 4) rfl <| .cons (i := 5) rfl <| .cons (i := 6) rfl <| .cons (i := 7) rfl <| .cons (i := 18) rfl <| .cons (i := 27) rfl <| .cons (i := 42) rfl <| .cons (i := 52) rfl <| .cons (i := 66) rfl <| .cons (i := 74) rfl <| .nil) ?_
                refine wc_region ?_
                refine wl_free .none rfl (yf_move rfl) ?_
                first | (refine wl_free .none rfl (yf_indexAddrA (es := 1) rfl rfl Tryd.underlying85 (by kernel_rfl) rfl ?_ rfl) ?_; (· first | decide | omega | (simp; omega)); skip) | (refine wl_free .none rfl (yf_indexAddrA (es := 1) rfl rfl Tryd.underlying85 (by kernel_rfl) (Int.toNat_of_nonneg ?_).symm ?_ rfl) ?_; (· omega); (· first | decide | omega | (simp; omega)); skip)
                refine wl_chain0 .none (cf_store 1 rfl rfl rfl rfl (by rw [bools_len, hwr]; simp; omega) (by kernel_rfl)) (fun _ => ?_)
                refine wl_nil ?_
                refine wq_block ?_
                refine wq_then ?_
                refine wc_weak (.cons (i := 0) rfl <| .cons (i := 3) rfl <| .cons (i := 4) rfl <| .cons (i := 5) rfl <| .cons (i := 6) rfl <| .cons (i := 7) rfl <| .cons (i := 18) rfl <| .cons (i := 27) rfl <| .cons (i := 42) rfl <| .cons (i := 52) rfl <| .cons (i := 66) rfl <| .cons (i := 74) rfl <| .nil) ?_
                refine wc_region ?_
                refine wl_free .none rfl (yf_move rfl) ?_
                first | (refine wl_free .none rfl (yf_sub rfl rfl (i64_in _ ?_ ?_)) ?_; (· omega); (· omega); skip) | refine wl_free .none rfl (yf_sub rfl rfl rfl) ?_
                refine wl_free .none rfl (yf_assign rfl) ?_
                refine wl_nil ?_
                skip)
          · replace hc := of_decide_eq_false hc
            first
              | (omega)
              | (
                refine wc_skip ?_
                refine wq_block ?_
                refine wq_then ?_
                refine wc_weak (.cons (i := 0) rfl <| .cons (i := 3) rfl <| .cons (i := 4) rfl <| .cons (i := 5) rfl <| .cons (i := 6) rfl <| .cons (i := 7) rfl <| .cons (i := 18) rfl <| .cons (i := 27) rfl <| .cons (i := 42) rfl <| .cons (i := 52) rfl <| .cons (i := 66) rfl <| .cons (i := 74) rfl <| .nil) ?_
                refine wc_region ?_
                refine wl_free .none rfl (yf_move rfl) ?_
                (refine wl_free .none rfl (yf_sub rfl rfl (i64_in _ ?_ ?_)) ?_; (· omega); (· omega); skip)
                refine wl_free .none rfl (yf_assign rfl) ?_
                refine wl_nil ?_
                refine wq_round (ι := {i : Lp // LpC p k i}) ⟨⟨nn - 1, kk + 1 + 1 + 1, l ++ [⟨21, 0, a, 0, 0⟩], wr, .slice (some ⟨a72, 0, none⟩) (l.length + 1) c72⟩, LpC.mk (by omega) (by simp; omega) (by omega) hwr (ins_guard hI ha)⟩ ?_ ?_ (fun w h => ?_)
                · show (nn - 1).toNat < nn.toNat; omega
                · exact .cons rfl <| .cons rfl <| .cons rfl <| .cons rfl <| .nil
                · exact LpH.go h (.cons _ (.refl _)) rfl (by simp) (opsCells_snoc ..))
        · replace hc := beq_no hc
          refine wc_seq ?_
          refine wc_weak (.cons (i := 0) rfl <| .cons (i := 3) rfl <| .cons (i := 4) rfl <| .cons (i := 5) rfl <| .cons (i := 6) rfl <| .cons (i := 7) rfl <| .cons (i := 18) rfl <| .cons (i := 27) rfl <| .cons (i := 42) rfl <| .cons (i := 52) rfl <| .cons (i := 66) rfl <| .nil) ?_
          refine wc_region ?_
          refine wl_free .none rfl (yf_move rfl) ?_
          refine wl_free .none rfl (yf_loadAllL 0 rfl rfl Tryd.underlying85 rfl (by rw [bools_len, hwr]; kernel_rfl)) ?_
          refine wl_turnE .none rfl 1 (by kernel_rfl) rfl rfl (fun w hm hw => source_any wr w ⟨hm, HpG.x hw, hl⟩ (by omega) hwr) (fun b hb => ?_)
          refine wl_free .none rfl (yf_assign rfl) ?_
          refine wl_nil ?_
          refine wq_then ?_
          refine wc_weak (.cons (i := 0) rfl <| .cons (i := 3) rfl <| .cons (i := 4) rfl <| .cons (i := 5) rfl <| .cons (i := 6) rfl <| .cons (i := 7) rfl <| .cons (i := 8) rfl <| .cons (i := 18) rfl <| .cons (i := 27) rfl <| .cons (i := 42) rfl <| .cons (i := 52) rfl <| .cons (i := 66) rfl <| .nil) ?_
          refine wc_region ?_
          refine wl_free .none rfl (yf_move rfl) ?_
          refine wl_free .none rfl (yf_move rfl) ?_
          refine wl_turnE .none rfl 1 (by kernel_rfl) rfl rfl (fun w hm hw => take_any _ w ⟨hm, HpG.x hw, hl⟩ (by decide) (by decide) (by omega)) (fun c hc => ?_)
          (refine wl_free .none rfl (yf_add rfl rfl (i64_in _ ?_ ?_)) ?_; (· omega); (· omega); skip)
          refine wl_free .none rfl (yf_move rfl) ?_
          (refine wl_free .none rfl (yf_add rfl rfl (i64_in _ ?_ ?_)) ?_; (· omega); (· omega); skip)
          refine wl_free .none rfl (yf_move rfl) ?_
          refine wl_free .none rfl (yf_move rfl) ?_
          refine wl_free .none rfl (yf_buildS [.int .i64 0, .int .i64 0, .int .i64 0, .int .i64 0, .int .u32 0] [(0, 1), (1, 1), (2, 1), (3, 1), (4, 1)] rfl (by kernel_rfl) (by kernel_rfl) rfl) ?_
          refine wl_new .none rfl (nf_bs1 (z := .agg #[.int .i64 0, .int .i64 0, .int .i64 0, .int .i64 0, .int .u32 0]) rfl rfl Tryd.underlying26 (by kernel_rfl) (by kernel_rfl) rfl rfl) (fun b40 => ?_)
          (refine wl_append (z := .agg #[.int .i64 0, .int .i64 0, .int .i64 0, .int .i64 0, .int .u32 0]) (bytes := 40) 0 0 .none rfl rfl rfl rfl rfl Tryd.underlying26 (by kernel_rfl) rfl rfl rfl rfl rfl ?_ ?_ (fun a41 c41 => ?_); (· omega); (· omega); skip)
          refine wl_free .none rfl (yf_assign rfl) ?_
          refine wl_nil ?_
          refine wq_block ?_
          refine wq_then ?_
          refine wc_seq ?_
          refine wc_weak (.cons (i := 0) rfl <| .cons (i := 3) rfl <| .cons (i := 4) rfl <| .cons (i := 5) rfl <| .cons (i := 6) rfl <| .cons (i := 7) rfl <| .cons (i := 8) rfl <| .cons (i := 18) rfl <| .cons (i := 27) rfl <| .cons (i := 42) rfl <| .cons (i := 52) rfl <| .cons (i := 66) rfl <| .nil) ?_
          refine wc_region ?_
          refine wl_free .none rfl (yf_move rfl) ?_
          refine wl_free .none rfl (yf_geq rfl rfl) ?_
          refine wl_nil ?_
          refine wq_then ?_
          refine wc_cond rfl (fun hc => ?_) (fun hc => ?_)
          · replace hc := of_decide_eq_true hc
            first
              | (omega)
              | (
                refine wc_weak (.cons (i := 0) rfl <| .cons (i := 3) rfl <| .cons (i := 4) rfl <| .cons (i := 5) rfl <| .cons (i := 6) rfl <| .cons (i := 7) rfl <| .cons (i := 8) rfl <| .cons (i := 18) rfl <| .cons (i := 27) rfl <| .cons (i := 42) rfl <| .cons (i := 52) rfl <| .cons (i := 66) rfl <| .cons (i := 74) rfl <| .nil) ?_
                refine wc_region ?_
                refine wl_free .none rfl (yf_move rfl) ?_
                (refine wl_free .none rfl (yf_indexAddrA (es := 1) rfl rfl Tryd.underlying85 (by kernel_rfl) (Int.toNat_of_nonneg ?_).symm ?_ rfl) ?_; (· omega); (· first | decide | omega | (simp; omega)); skip)
                refine wl_chain0 .none (cf_store 1 rfl rfl rfl rfl (by rw [bools_len, hwr]; simp; omega) (by kernel_rfl)) (fun _ => ?_)
                refine wl_nil ?_
                refine wq_block ?_
                refine wq_then ?_
                refine wc_weak (.cons (i := 0) rfl <| .cons (i := 3) rfl <| .cons (i := 4) rfl <| .cons (i := 5) rfl <| .cons (i := 6) rfl <| .cons (i := 7) rfl <| .cons (i := 8) rfl <| .cons (i := 18) rfl <| .cons (i := 27) rfl <| .cons (i := 42) rfl <| .cons (i := 52) rfl <| .cons (i := 66) rfl <| .cons (i := 74) rfl <| .nil) ?_
                refine wc_region ?_
                refine wl_free .none rfl (yf_move rfl) ?_
                (refine wl_free .none rfl (yf_sub rfl rfl (i64_in _ ?_ ?_)) ?_; (· omega); (· omega); skip)
                refine wl_free .none rfl (yf_assign rfl) ?_
                refine wl_nil ?_
                refine wq_round (ι := {i : Lp // LpC p k i}) ⟨⟨nn - 1, kk + 1 + 1 + 1 + 1 + 1, l ++ [⟨3 + c, 20 + t, a, b, 0⟩], wr.set t.toNat true, .slice (some ⟨a41, 0, none⟩) (l.length + 1) c41⟩, LpC.mk (by omega) (by simp; omega) (by omega) (by simp [hwr]) (ins_bin hI (by omega) (by omega) ht.1 ht.2 ha hb)⟩ ?_ ?_ (fun w h => ?_)
                · show (nn - 1).toNat < nn.toNat; omega
                · exact .cons rfl <| .cons rfl <| .cons rfl <| .cons rfl <| .nil
                · exact LpH.go h (.cons _ (.refl _)) (by simp [bools, List.map_set]) (by simp) (opsCells_snoc ..))
          · replace hc := of_decide_eq_false hc
            first
              | (omega)
              | (
                refine wc_skip ?_
                refine wq_block ?_
                refine wq_then ?_
                refine wc_weak (.cons (i := 0) rfl <| .cons (i := 3) rfl <| .cons (i := 4) rfl <| .cons (i := 5) rfl <| .cons (i := 6) rfl <| .cons (i := 7) rfl <| .cons (i := 8) rfl <| .cons (i := 18) rfl <| .cons (i := 27) rfl <| .cons (i := 42) rfl <| .cons (i := 52) rfl <| .cons (i := 66) rfl <| .cons (i := 74) rfl <| .nil) ?_
                refine wc_region ?_
                refine wl_free .none rfl (yf_move rfl) ?_
                first | (refine wl_free .none rfl (yf_sub rfl rfl (i64_in _ ?_ ?_)) ?_; (· omega); (· omega); skip) | refine wl_free .none rfl (yf_sub rfl rfl rfl) ?_
                refine wl_free .none rfl (yf_assign rfl) ?_
                refine wl_nil ?_
                skip)
  · replace hc := of_decide_eq_false hc
    refine wc_exit ?_
    refine wq_then_exit ?_
    refine wq_then_exit ?_
    refine wq_here ?_
    refine wq_then ?_
    refine wc_cut (ι := {i : Lp // i.l.length ≤ 4 ∧ i.kk ≤ k + 90 ∧ i.wr.length = 8 ∧ ∃ W ch, Ins p i.wr i.l W ch}) (fun i => [(0, .pointer (some ⟨M, 0, none⟩)), (3, i.1.v), (4, .pointer (some ⟨b4, 0, none⟩))]) (fun i => LpH w M b4 A cap s i.1) ?_ (fun i => ?_)
    · skip
      refine wc_seq ?_
      refine wc_weak (.cons (i := 0) rfl <| .cons (i := 3) rfl <| .cons (i := 4) rfl <| .cons (i := 5) rfl <| .cons (i := 18) rfl <| .nil) ?_
      refine wc_region ?_
      refine wl_free .none rfl (yf_move rfl) ?_
      refine wl_turnE .none rfl 1 (by kernel_rfl) rfl rfl (fun w hm hw => take_any _ w ⟨hm, HpG.x hw, hl⟩ (by decide) (by decide) (by omega)) (fun x hx => ?_)
      refine wl_free .none rfl (yf_eql rfl rfl) ?_
      refine wl_nil ?_
      refine wq_then ?_
      refine wc_cond rfl (fun hc => ?_) (fun hc => ?_)
      · replace hc := eq_of_beq hc
        refine wc_seq ?_
        refine wc_weak (.cons (i := 0) rfl <| .cons (i := 3) rfl <| .cons (i := 4) rfl <| .cons (i := 5) rfl <| .cons (i := 18) rfl <| .cons (i := 79) rfl <| .nil) ?_
        refine wc_region ?_
        refine wl_free .none rfl (yf_move rfl) ?_
        refine wl_free .none rfl (yf_loadAllL 0 rfl rfl Tryd.underlying85 rfl (by rw [bools_len, hwr]; kernel_rfl)) ?_
        refine wl_turnE .none rfl 1 (by kernel_rfl) rfl rfl (fun w hm hw => source_any wr w ⟨hm, HpG.x hw, hl⟩ (by omega) hwr) (fun a ha => ?_)
        refine wl_free .none rfl (yf_assign rfl) ?_
        refine wl_nil ?_
        refine wq_then ?_
        refine wc_seq ?_
        refine wc_weak (.cons (i := 0) rfl <| .cons (i := 3) rfl <| .cons (i := 4) rfl <| .cons (i := 5) rfl <| .cons (i := 9) rfl <| .cons (i := 18) rfl <| .cons (i := 79) rfl <| .nil) ?_
        refine wc_region ?_
        refine wl_free .none rfl (yf_move rfl) ?_
        refine wl_free .none rfl (yf_loadAllL 0 rfl rfl Tryd.underlying85 rfl (by rw [bools_len, hwr]; kernel_rfl)) ?_
        refine wl_turnE .none rfl 1 (by kernel_rfl) rfl rfl (fun w hm hw => source_any wr w ⟨hm, HpG.x hw, hl⟩ (by omega) hwr) (fun b hb => ?_)
        refine wl_free .none rfl (yf_assign rfl) ?_
        refine wl_nil ?_
        refine wq_then ?_
        refine wc_weak (.cons (i := 0) rfl <| .cons (i := 3) rfl <| .cons (i := 4) rfl <| .cons (i := 5) rfl <| .cons (i := 9) rfl <| .cons (i := 10) rfl <| .cons (i := 18) rfl <| .cons (i := 79) rfl <| .nil) ?_
        refine wc_region ?_
        refine wl_free .none rfl (yf_move rfl) ?_
        refine wl_free .none rfl (yf_move rfl) ?_
        refine wl_turnE .none rfl 1 (by kernel_rfl) rfl rfl (fun w hm hw => take_any _ w ⟨hm, HpG.x hw, hl⟩ (by decide) (by decide) (by omega)) (fun c hc => ?_)
        (refine wl_free .none rfl (yf_add rfl rfl (i64_in _ ?_ ?_)) ?_; (· omega); (· omega); skip)
        refine wl_free .none rfl (yf_move rfl) ?_
        refine wl_free .none rfl (yf_move rfl) ?_
        refine wl_free .none rfl (yf_move rfl) ?_
        refine wl_turnE .none rfl 1 (by kernel_rfl) rfl rfl (fun w hm hw => word_any w ⟨hm, HpG.x hw, hl⟩ (by omega)) (fun z hz => ?_)
        refine wl_free .none rfl (yf_buildS [.int .i64 0, .int .i64 0, .int .i64 0, .int .i64 0, .int .u32 0] [(0, 1), (1, 1), (2, 1), (3, 1), (4, 1)] rfl (by kernel_rfl) (by kernel_rfl) rfl) ?_
        refine wl_new .none rfl (nf_bs1 (z := .agg #[.int .i64 0, .int .i64 0, .int .i64 0, .int .i64 0, .int .u32 0]) rfl rfl Tryd.underlying26 (by kernel_rfl) (by kernel_rfl) rfl rfl) (fun b95 => ?_)
        (refine wl_append (z := .agg #[.int .i64 0, .int .i64 0, .int .i64 0, .int .i64 0, .int .u32 0]) (bytes := 40) 0 0 .none rfl rfl rfl rfl rfl Tryd.underlying26 (by kernel_rfl) rfl rfl rfl rfl rfl ?_ ?_ (fun a96 c96 => ?_); (· omega); (· omega); skip)
        refine wl_free .none rfl (yf_assign rfl) ?_
        refine wl_nil ?_
        refine wq_meet (ι := {i : Lp // i.l.length ≤ 4 ∧ i.kk ≤ k + 90 ∧ i.wr.length = 8 ∧ ∃ W ch, Ins p i.wr i.l W ch}) ⟨⟨0, kk + 1 + 1 + 1 + 1 + 2, l ++ [⟨18 + c, 0, a, b, z⟩], wr, .slice (some ⟨a96, 0, none⟩) (l.length + 1) c96⟩, by simp; omega, by show kk + 1 + 1 + 1 + 1 + 2 ≤ k + 90; omega, hwr, ins_store hI (by omega) ha hb hz⟩ ?_ (fun w h => ?_)
        · exact .cons rfl <| .cons rfl <| .cons rfl <| .nil
        · exact LpH.go h (.cons _ (.refl _)) rfl (by simp) (opsCells_snoc ..)
      · replace hc := beq_no hc
        refine wc_skip ?_
        refine wq_meet (ι := {i : Lp // i.l.length ≤ 4 ∧ i.kk ≤ k + 90 ∧ i.wr.length = 8 ∧ ∃ W ch, Ins p i.wr i.l W ch}) ⟨⟨0, kk + 1, l, wr, v⟩, by show l.length ≤ 4; omega, by show kk + 1 ≤ k + 90; omega, hwr, W, false, hI⟩ ?_ (fun w h => ?_)
        · exact .cons rfl <| .cons rfl <| .cons rfl <| .nil
        · exact h
    · obtain ⟨⟨nn, kk, l, wr, v⟩, hlen, hkk, hwr, W, ch, hI⟩ := i
      dsimp only [LpH] at hlen hkk hwr hI ⊢
      refine wc_seq ?_
      refine wc_seq ?_
      refine wc_region ?_
      refine wl_free .none rfl (yf_move rfl) ?_
      refine wl_turnE .none rfl 1 (by kernel_rfl) rfl rfl (fun w hm hw => take_any _ w ⟨hm, HpG.x hw, hl⟩ (by decide) (by decide) (by omega)) (fun x2 hx2 => ?_)
      refine wl_free .none rfl (yf_assign rfl) ?_
      refine wl_nil ?_
      refine wq_then ?_
      refine wc_block ?_
      refine wc_loop (ι := {i : Lp // LpD p k i}) (fun i => LpI M b4 11 i.1) (fun i => LpH w M b4 A cap s i.1) (fun i => i.1.nn.toNat) ⟨⟨x2, kk + 1, l, wr, v⟩, LpD.mk hx2.1 (by omega) (by omega) hwr ⟨W, ch, hI⟩⟩ (.cons rfl <| .cons rfl <| .cons rfl <| .cons rfl <| .nil) (fun w h => h) (fun i => ?_)
      obtain ⟨⟨nn, kk, l, wr, v⟩, hn0, hlen, hkk, hwr, W, ch, hI⟩ := i
      dsimp only [LpI, LpH] at hn0 hlen hkk hwr hI ⊢
      refine wc_seq ?_
      refine wc_seq ?_
      refine wc_region ?_
      refine wl_free .none rfl (yf_move rfl) ?_
      refine wl_free .none rfl (yf_gtr rfl rfl) ?_
      refine wl_nil ?_
      refine wq_then ?_
      refine wc_cond rfl (fun hc => ?_) (fun hc => ?_)
      · replace hc := of_decide_eq_true hc
        refine wc_skip ?_
        refine wq_then ?_
        refine wc_seq ?_
        refine wc_block ?_
        refine wc_seq ?_
        refine wc_weak (.cons (i := 0) rfl <| .cons (i := 3) rfl <| .cons (i := 4) rfl <| .cons (i := 11) rfl <| .cons (i := 100) rfl <| .nil) ?_
        refine wc_region ?_
        refine wl_free .none rfl (yf_move rfl) ?_
        refine wl_turnE .none rfl 1 (by kernel_rfl) rfl rfl (fun w hm hw => take_any _ w ⟨hm, HpG.x hw, hl⟩ (by decide) (by decide) (by omega)) (fun d hd => ?_)
        refine wl_free .none rfl (yf_assign rfl) ?_
        refine wl_nil ?_
        refine wq_then ?_
        refine wc_seq ?_
        refine wc_weak (.cons (i := 0) rfl <| .cons (i := 3) rfl <| .cons (i := 4) rfl <| .cons (i := 11) rfl <| .cons (i := 12) rfl <| .cons (i := 100) rfl <| .nil) ?_
        refine wc_region ?_
        refine wl_free .none rfl (yf_move rfl) ?_
        refine wl_free .none rfl (yf_loadAllL 0 rfl rfl Tryd.underlying85 rfl (by rw [bools_len, hwr]; kernel_rfl)) ?_
        refine wl_turnE .none rfl 1 (by kernel_rfl) rfl rfl (fun w hm hw => source_any wr w ⟨hm, HpG.x hw, hl⟩ (by omega) hwr) (fun a ha => ?_)
        refine wl_free .none rfl (yf_assign rfl) ?_
        refine wl_nil ?_
        refine wq_then ?_
        refine wc_seq ?_
        refine wc_weak (.cons (i := 0) rfl <| .cons (i := 3) rfl <| .cons (i := 4) rfl <| .cons (i := 11) rfl <| .cons (i := 12) rfl <| .cons (i := 13) rfl <| .cons (i := 100) rfl <| .nil) ?_
        refine wc_region ?_
        refine wl_free .none rfl (yf_move rfl) ?_
        refine wl_turnE .none rfl 1 (by kernel_rfl) rfl rfl (fun w hm hw => take_any _ w ⟨hm, HpG.x hw, hl⟩ (by decide) (by decide) (by omega)) (fun q hq => ?_)
        refine wl_nil ?_
        refine wq_then ?_
        refine wc_block ?_
        refine wc_seq ?_
        refine wc_weak (.cons (i := 0) rfl <| .cons (i := 3) rfl <| .cons (i := 4) rfl <| .cons (i := 11) rfl <| .cons (i := 12) rfl <| .cons (i := 13) rfl <| .cons (i := 100) rfl <| .cons (i := 109) rfl <| .nil) ?_
        refine wc_region ?_
        refine wl_free .none rfl (yf_eql rfl rfl) ?_
        refine wl_free .none rfl (yf_assign rfl) ?_
        refine wl_nil ?_
        refine wq_then ?_
        refine wc_cond rfl (fun hc => ?_) (fun hc => ?_)
        · replace hc := eq_of_beq hc
          refine wc_weak (.cons (i := 0) rfl <| .cons (i := 3) rfl <| .cons (i := 4) rfl <| .cons (i := 11) rfl <| .cons (i := 12) rfl <| .cons (i := 13) rfl <| .cons (i := 100) rfl <| .cons (i := 109) rfl <| .cons (i := 123) rfl <| .nil) ?_
          refine wc_region ?_
          refine wl_free .none rfl (yf_move rfl) ?_
          refine wl_free .none rfl (yf_move rfl) ?_
          refine wl_free .none rfl (yf_move rfl) ?_
          refine wl_turnE .none rfl 1 (by kernel_rfl) rfl rfl (fun w hm hw => word_any w ⟨hm, HpG.x hw, hl⟩ (by omega)) (fun z hz => ?_)
          refine wl_free .none rfl (yf_buildS [.int .i64 0, .int .i64 0, .int .i64 0, .int .i64 0, .int .u32 0] [(0, 1), (1, 1), (2, 1), (3, 1), (4, 1)] rfl (by kernel_rfl) (by kernel_rfl) rfl) ?_
          refine wl_new .none rfl (nf_bs1 (z := .agg #[.int .i64 0, .int .i64 0, .int .i64 0, .int .i64 0, .int .u32 0]) rfl rfl Tryd.underlying26 (by kernel_rfl) (by kernel_rfl) rfl rfl) (fun b130 => ?_)
          (refine wl_append (z := .agg #[.int .i64 0, .int .i64 0, .int .i64 0, .int .i64 0, .int .u32 0]) (bytes := 40) 0 0 .none rfl rfl rfl rfl rfl Tryd.underlying26 (by kernel_rfl) rfl rfl rfl rfl rfl ?_ ?_ (fun a131 c131 => ?_); (· omega); (· omega); skip)
          refine wl_free .none rfl (yf_assign rfl) ?_
          refine wl_nil ?_
          refine wq_block ?_
          refine wq_block ?_
          refine wq_then ?_
          refine wc_weak (.cons (i := 0) rfl <| .cons (i := 3) rfl <| .cons (i := 4) rfl <| .cons (i := 11) rfl <| .cons (i := 12) rfl <| .cons (i := 13) rfl <| .cons (i := 100) rfl <| .cons (i := 109) rfl <| .cons (i := 123) rfl <| .nil) ?_
          refine wc_region ?_
          refine wl_free .none rfl (yf_move rfl) ?_
          (refine wl_free .none rfl (yf_sub rfl rfl (i64_in _ ?_ ?_)) ?_; (· omega); (· omega); skip)
          refine wl_free .none rfl (yf_assign rfl) ?_
          refine wl_nil ?_
          refine wq_round (ι := {i : Lp // LpD p k i}) ⟨⟨nn - 1, kk + 1 + 1 + 1 + 2, l ++ [⟨1, d, 0, 0, z⟩], wr, .slice (some ⟨a131, 0, none⟩) (l.length + 1) c131⟩, LpD.mk (by omega) (by simp; omega) (by omega) hwr (ins_const3 hI hd.1 hd.2 hz)⟩ ?_ ?_ (fun w h => ?_)
          · show (nn - 1).toNat < nn.toNat; omega
          · exact .cons rfl <| .cons rfl <| .cons rfl <| .cons rfl <| .nil
          · exact LpH.go h (.cons _ (.refl _)) rfl (by simp) (opsCells_snoc ..)
        · replace hc := beq_no hc
          refine wc_seq ?_
          refine wc_weak (.cons (i := 0) rfl <| .cons (i := 3) rfl <| .cons (i := 4) rfl <| .cons (i := 11) rfl <| .cons (i := 12) rfl <| .cons (i := 13) rfl <| .cons (i := 100) rfl <| .cons (i := 109) rfl <| .cons (i := 123) rfl <| .nil) ?_
          refine wc_region ?_
          refine wl_free .none rfl (yf_eql rfl rfl) ?_
          refine wl_free .none rfl (yf_assign rfl) ?_
          refine wl_nil ?_
          refine wq_then ?_
          refine wc_cond rfl (fun hc => ?_) (fun hc => ?_)
          · replace hc := eq_of_beq hc
            refine wc_weak (.cons (i := 0) rfl <| .cons (i := 3) rfl <| .cons (i := 4) rfl <| .cons (i := 11) rfl <| .cons (i := 12) rfl <| .cons (i := 13) rfl <| .cons (i := 100) rfl <| .cons (i := 109) rfl <| .cons (i := 123) rfl <| .cons (i := 132) rfl <| .nil) ?_
            refine wc_region ?_
            refine wl_free .none rfl (yf_move rfl) ?_
            refine wl_free .none rfl (yf_move rfl) ?_
            refine wl_free .none rfl (yf_move rfl) ?_
            refine wl_free .none rfl (yf_buildS [.int .i64 0, .int .i64 0, .int .i64 0, .int .i64 0, .int .u32 0] [(0, 1), (1, 1), (2, 1), (3, 1), (4, 1)] rfl (by kernel_rfl) (by kernel_rfl) rfl) ?_
            refine wl_new .none rfl (nf_bs1 (z := .agg #[.int .i64 0, .int .i64 0, .int .i64 0, .int .i64 0, .int .u32 0]) rfl rfl Tryd.underlying26 (by kernel_rfl) (by kernel_rfl) rfl rfl) (fun b138 => ?_)
            (refine wl_append (z := .agg #[.int .i64 0, .int .i64 0, .int .i64 0, .int .i64 0, .int .u32 0]) (bytes := 40) 0 0 .none rfl rfl rfl rfl rfl Tryd.underlying26 (by kernel_rfl) rfl rfl rfl rfl rfl ?_ ?_ (fun a139 c139 => ?_); (· omega); (· omega); skip)
            refine wl_free .none rfl (yf_assign rfl) ?_
            refine wl_nil ?_
            refine wq_block ?_
            refine wq_block ?_
            refine wq_then ?_
            refine wc_weak (.cons (i := 0) rfl <| .cons (i := 3) rfl <| .cons (i := 4) rfl <| .cons (i := 11) rfl <| .cons (i := 12) rfl <| .cons (i := 13) rfl <| .cons (i := 100) rfl <| .cons (i := 109) rfl <| .cons (i := 123) rfl <| .cons (i := 132) rfl <| .nil) ?_
            refine wc_region ?_
            refine wl_free .none rfl (yf_move rfl) ?_
            (refine wl_free .none rfl (yf_sub rfl rfl (i64_in _ ?_ ?_)) ?_; (· omega); (· omega); skip)
            refine wl_free .none rfl (yf_assign rfl) ?_
            refine wl_nil ?_
            refine wq_round (ι := {i : Lp // LpD p k i}) ⟨⟨nn - 1, kk + 1 + 1 + 1, l ++ [⟨2, d, a, 0, 0⟩], wr, .slice (some ⟨a139, 0, none⟩) (l.length + 1) c139⟩, LpD.mk (by omega) (by simp; omega) (by omega) hwr (ins_move3 hI hd.1 hd.2 ha)⟩ ?_ ?_ (fun w h => ?_)
            · show (nn - 1).toNat < nn.toNat; omega
            · exact .cons rfl <| .cons rfl <| .cons rfl <| .cons rfl <| .nil
            · exact LpH.go h (.cons _ (.refl _)) rfl (by simp) (opsCells_snoc ..)
          · replace hc := beq_no hc
            refine wc_seq ?_
            refine wc_weak (.cons (i := 0) rfl <| .cons (i := 3) rfl <| .cons (i := 4) rfl <| .cons (i := 11) rfl <| .cons (i := 12) rfl <| .cons (i := 13) rfl <| .cons (i := 100) rfl <| .cons (i := 109) rfl <| .cons (i := 123) rfl <| .cons (i := 132) rfl <| .nil) ?_
            refine wc_region ?_
            refine wl_free .none rfl (yf_move rfl) ?_
            refine wl_free .none rfl (yf_loadAllL 0 rfl rfl Tryd.underlying85 rfl (by rw [bools_len, hwr]; kernel_rfl)) ?_
            refine wl_turnE .none rfl 1 (by kernel_rfl) rfl rfl (fun w hm hw => source_any wr w ⟨hm, HpG.x hw, hl⟩ (by omega) hwr) (fun b hb => ?_)
            refine wl_free .none rfl (yf_assign rfl) ?_
            refine wl_nil ?_
            refine wq_then ?_
            refine wc_weak (.cons (i := 0) rfl <| .cons (i := 3) rfl <| .cons (i := 4) rfl <| .cons (i := 11) rfl <| .cons (i := 12) rfl <| .cons (i := 13) rfl <| .cons (i := 14) rfl <| .cons (i := 100) rfl <| .cons (i := 109) rfl <| .cons (i := 123) rfl <| .cons (i := 132) rfl <| .nil) ?_
            refine wc_region ?_
            refine wl_free .none rfl (yf_move rfl) ?_
            refine wl_free .none rfl (yf_move rfl) ?_
            refine wl_turnE .none rfl 1 (by kernel_rfl) rfl rfl (fun w hm hw => take_any _ w ⟨hm, HpG.x hw, hl⟩ (by decide) (by decide) (by omega)) (fun c hc => ?_)
            (refine wl_free .none rfl (yf_add rfl rfl (i64_in _ ?_ ?_)) ?_; (· omega); (· omega); skip)
            refine wl_free .none rfl (yf_move rfl) ?_
            refine wl_free .none rfl (yf_move rfl) ?_
            refine wl_free .none rfl (yf_move rfl) ?_
            refine wl_free .none rfl (yf_buildS [.int .i64 0, .int .i64 0, .int .i64 0, .int .i64 0, .int .u32 0] [(0, 1), (1, 1), (2, 1), (3, 1), (4, 1)] rfl (by kernel_rfl) (by kernel_rfl) rfl) ?_
            refine wl_new .none rfl (nf_bs1 (z := .agg #[.int .i64 0, .int .i64 0, .int .i64 0, .int .i64 0, .int .u32 0]) rfl rfl Tryd.underlying26 (by kernel_rfl) (by kernel_rfl) rfl rfl) (fun b121 => ?_)
            (refine wl_append (z := .agg #[.int .i64 0, .int .i64 0, .int .i64 0, .int .i64 0, .int .u32 0]) (bytes := 40) 0 0 .none rfl rfl rfl rfl rfl Tryd.underlying26 (by kernel_rfl) rfl rfl rfl rfl rfl ?_ ?_ (fun a122 c122 => ?_); (· omega); (· omega); skip)
            refine wl_free .none rfl (yf_assign rfl) ?_
            refine wl_nil ?_
            refine wq_block ?_
            refine wq_block ?_
            refine wq_then ?_
            refine wc_weak (.cons (i := 0) rfl <| .cons (i := 3) rfl <| .cons (i := 4) rfl <| .cons (i := 11) rfl <| .cons (i := 12) rfl <| .cons (i := 13) rfl <| .cons (i := 14) rfl <| .cons (i := 100) rfl <| .cons (i := 109) rfl <| .cons (i := 123) rfl <| .cons (i := 132) rfl <| .nil) ?_
            refine wc_region ?_
            refine wl_free .none rfl (yf_move rfl) ?_
            (refine wl_free .none rfl (yf_sub rfl rfl (i64_in _ ?_ ?_)) ?_; (· omega); (· omega); skip)
            refine wl_free .none rfl (yf_assign rfl) ?_
            refine wl_nil ?_
            refine wq_round (ι := {i : Lp // LpD p k i}) ⟨⟨nn - 1, kk + 1 + 1 + 1 + 1 + 1, l ++ [⟨3 + c, d, a, b, 0⟩], wr, .slice (some ⟨a122, 0, none⟩) (l.length + 1) c122⟩, LpD.mk (by omega) (by simp; omega) (by omega) hwr (ins_bin3 hI (by omega) (by omega) hd.1 hd.2 ha hb)⟩ ?_ ?_ (fun w h => ?_)
            · show (nn - 1).toNat < nn.toNat; omega
            · exact .cons rfl <| .cons rfl <| .cons rfl <| .cons rfl <| .nil
            · exact LpH.go h (.cons _ (.refl _)) rfl (by simp) (opsCells_snoc ..)
      · replace hc := of_decide_eq_false hc
        refine wc_exit ?_
        refine wq_then_exit ?_
        refine wq_then_exit ?_
        refine wq_here ?_
        refine wq_then ?_
        refine wc_seq ?_
        refine wc_weak (.cons (i := 0) rfl <| .cons (i := 3) rfl <| .cons (i := 4) rfl <| .cons (i := 11) rfl <| .cons (i := 100) rfl <| .nil) ?_
        refine wc_region ?_
        refine wl_free .none rfl (yf_move rfl) ?_
        refine wl_free .none rfl (yf_assign rfl) ?_
        refine wl_nil ?_
        refine wq_then ?_
        refine wc_ret ?_
        refine wq_ret1 rfl rfl (fun w hw => ?_)
        exact ⟨_, rfl, l, kk, by omega, by omega, ⟨wr, W, ch, hI⟩, Hp.drop hw (List.Sublist.cons _ (List.Sublist.refl _)) (List.Sublist.refl _)⟩
end Go.Proofs.YtojofinofpgopaaDoor
