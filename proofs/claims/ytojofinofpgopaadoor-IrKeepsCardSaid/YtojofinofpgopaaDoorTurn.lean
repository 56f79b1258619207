/- Own, Turned. -/
import Derived.Test.YtojofinofpgopaaDoorMgT
import Derived.Test.YtojofinofpgopaaDoorMade
namespace Go.Proofs.YtojofinofpgopaaDoor
open Go.RowKit
set_option maxRecDepth 100000 in
theorem own_any (i : BR) (m : Nat) (w : World) (h : BRd (fun k => w.heap.size ≤ k) i w) (hi : i.OkN m) (hm : m ≤ 1000000) :
    Calls Tryd.prog 12 #[i.v] w fun e w' => ∃ j : BR, (j.b = i.b ∧ j.OkN m ∧ (0 < j.b.ops.length → ∃ g, j.aO = some ⟨g, 0, none⟩)) ∧ e = .returned j.v ∧ Hp (fun _ => False) w [] j.rows (fun _ => True) w' := by
  have l1 := hi.lA
  have l2 := hi.lP
  have l3 := hi.lO
  refine calls_wc (args := [i.v]) Tryd.func12 rfl 23 rfl (Nat.le_of_ble_eq_true rfl) ?_
  refine wc_weak (.cons (i := 0) rfl <| .nil) ?_
  refine wc_conseq (H' := Hp (fun _ => False) w [] [] (BRd (fun k => w.heap.size ≤ k) i)) (fun u hu => ?_) ?_
  · subst hu; exact Hp.start h.foot0
  refine wc_seq ?_
  refine wc_region ?_
  refine wl_new .none rfl (nf_box rfl rfl) (fun b1 => ?_)
  refine wl_new .none rfl (nf_alloc (z := .agg #[.slice none 0 0, .slice none 0 0, .slice none 0 0]) (cs := [.slice none 0 0, .slice none 0 0, .slice none 0 0]) (by kernel_rfl) rfl) (fun b2 => ?_)
  refine wl_nil ?_
  refine wq_then ?_
  refine wc_seq ?_
  refine wc_region ?_
  refine wl_new .none rfl (nf_alloc (z := .agg #[.slice none 0 0, .slice none 0 0, .slice none 0 0]) (cs := [.slice none 0 0, .slice none 0 0, .slice none 0 0]) (by kernel_rfl) rfl) (fun b3 => ?_)
  refine wl_nil ?_
  refine wq_then ?_
  refine wc_seq ?_
  refine wc_conseq (fun w h => Hp.nil (Hp.nil (Hp.nil h 3 1) 53 5) 35 1) ?_
  refine wc_region ?_
  refine wl_free .none rfl (yf_fieldAddr (off := 0) (sz := 0) rfl Tryd.underlying28 (by kernel_rfl) rfl) ?_
  refine wl_free .none rfl (yf_loadL 0 rfl rfl rfl Tryd.underlying25 rfl) ?_
  refine wl_free .none rfl (yf_fieldAddr (off := 0) (sz := 0) rfl Tryd.underlying28 (by kernel_rfl) rfl) ?_
  refine wl_free .none rfl (yf_loadL 2 rfl rfl rfl Tryd.underlying25 rfl) ?_
  refine wl_appendS (z := .int .u32 0) (bytes := 4) 0 .none rfl rfl rfl rfl (fun w h => (HpG.x h).a.rd) Tryd.underlying25 (by kernel_rfl) rfl rfl (by simp) (ints_one _) (by omega) (by omega) (by omega) (fun A1 c1 h1 => ?_)
  refine wl_free .none rfl (yf_fieldAddr (off := 0) (sz := 0) rfl Tryd.underlying28 (by kernel_rfl) rfl) ?_
  refine wl_chain0 .none (cf_store 0 rfl rfl rfl rfl rfl (by kernel_rfl)) (fun _ => ?_)
  refine wl_nil ?_
  refine wq_then ?_
  refine wc_seq ?_
  refine wc_weak (.cons (i := 0) rfl <| .cons (i := 1) rfl <| .cons (i := 2) rfl <| .cons (i := 3) rfl <| .nil) ?_
  refine wc_region ?_
  refine wl_free .none rfl (yf_fieldAddr (off := 1) (sz := 0) rfl Tryd.underlying28 (by kernel_rfl) rfl) ?_
  refine wl_free .none rfl (yf_loadL 0 rfl rfl rfl Tryd.underlying22 rfl) ?_
  refine wl_free .none rfl (yf_fieldAddr (off := 1) (sz := 0) rfl Tryd.underlying28 (by kernel_rfl) rfl) ?_
  refine wl_free .none rfl (yf_loadL 2 rfl rfl rfl Tryd.underlying22 rfl) ?_
  refine wl_appendS (z := .int .i64 0) (bytes := 8) 2 .none rfl rfl rfl rfl (fun w h => (HpG.x h).p.rd) Tryd.underlying22 (by kernel_rfl) rfl rfl (by simp) (ints_one _) (by omega) (by omega) (by omega) (fun A3 c3 h3 => ?_)
  refine wl_free .none rfl (yf_fieldAddr (off := 1) (sz := 0) rfl Tryd.underlying28 (by kernel_rfl) rfl) ?_
  refine wl_chain0 .none (cf_store 0 rfl rfl rfl rfl rfl (by kernel_rfl)) (fun _ => ?_)
  refine wl_nil ?_
  refine wq_then ?_
  refine wc_seq ?_
  refine wc_weak (.cons (i := 0) rfl <| .cons (i := 1) rfl <| .cons (i := 2) rfl <| .cons (i := 3) rfl <| .nil) ?_
  refine wc_region ?_
  refine wl_free .none rfl (yf_fieldAddr (off := 2) (sz := 0) rfl Tryd.underlying28 (by kernel_rfl) rfl) ?_
  refine wl_free .none rfl (yf_loadL 0 rfl rfl rfl Tryd.underlying26 rfl) ?_
  refine wl_free .none rfl (yf_fieldAddr (off := 2) (sz := 0) rfl Tryd.underlying28 (by kernel_rfl) rfl) ?_
  refine wl_free .none rfl (yf_loadL 2 rfl rfl rfl Tryd.underlying26 rfl) ?_
  refine wl_appendS (z := .agg #[.int .i64 0, .int .i64 0, .int .i64 0, .int .i64 0, .int .u32 0]) (bytes := 40) 1 .none rfl rfl rfl rfl (fun w h => (HpG.x h).o.rd) Tryd.underlying26 (by kernel_rfl) rfl rfl (opsCells_len _) (opsCells_one _) (by omega) (by omega) (by omega) (fun A2 c2 h2 => ?_)
  refine wl_free .none rfl (yf_fieldAddr (off := 2) (sz := 0) rfl Tryd.underlying28 (by kernel_rfl) rfl) ?_
  refine wl_chain0 .none (cf_store 0 rfl rfl rfl rfl rfl (by kernel_rfl)) (fun _ => ?_)
  refine wl_nil ?_
  refine wq_then ?_
  refine wc_seq ?_
  refine wc_weak (.cons (i := 0) rfl <| .cons (i := 1) rfl <| .cons (i := 2) rfl <| .cons (i := 3) rfl <| .nil) ?_
  refine wc_region ?_
  refine wl_free .none rfl (yf_loadAllL 0 rfl rfl Tryd.underlying28 rfl (by kernel_rfl)) ?_
  refine wl_chain0 .none (cf_storeRow 1 rfl rfl rfl rfl rfl (by kernel_rfl)) (fun _ => ?_)
  refine wl_nil ?_
  refine wq_then ?_
  refine wc_ret ?_
  refine wq_retC rfl rfl 1 rfl Tryd.underlying28 rfl (by kernel_rfl) (fun w hw => ?_)
  exact br_end hw i.b (.refl _) rfl (Nat.zero_add _) (Nat.zero_add _) (Nat.zero_add _) rfl rfl rfl hi.uA hi.uO h1 h2 h3 (by omega) (by omega) (by omega)
/-- The pages of a turned block: its own, and one at most that is small. -/
def PgT (i j : IBlk) : Prop := ∀ p ∈ j.pages, p ∈ i.pages ∨ (-400 ≤ p ∧ p < 5000)
theorem turn_endP {m : Nat} {w : World} {e : Ending} {u : World} {b b0 : IBlk} (h : ∃ i : BR, (i.b = b ∧ i.OkN m ∧ (0 < i.b.ops.length → ∃ g, i.aO = some ⟨g, 0, none⟩)) ∧ e = .returned i.v ∧ Hp (fun _ => False) w [] i.rows (fun _ => True) u) (hp : ∀ p ∈ b.pages, p ∈ b0.pages ∨ (-400 ≤ p ∧ p < 5000)) : ∃ i : BR, (i.OkN m ∧ PgT b0 i.b) ∧ e = .returned i.v ∧ Hp (fun _ => False) w [] i.rows (fun _ => True) u := by
  obtain ⟨i, ⟨rfl, h1, _⟩, h2, h3⟩ := h
  exact ⟨i, ⟨h1, hp⟩, h2, h3⟩
set_option maxRecDepth 100000 in
set_option maxHeartbeats 4000000 in
theorem turnedP_any (q0 q1 q2 : Int) (i : BR) (m : Nat) (w : World) (h : BRd (fun k => w.heap.size ≤ k) i w) (hi : i.OkN m) (hm : m ≤ 1000000) :
    Calls Tryd.prog 7 #[i.v, .agg #[.int .i64 q0, .int .i64 q1, .int .i64 q2]] w fun e w' => ∃ j : BR, (j.OkN (m + 1) ∧ PgT i.b j.b) ∧ e = .returned j.v ∧ Hp (fun _ => False) w [] j.rows (fun _ => True) w' := by
  obtain ⟨n, hn⟩ : ∃ n, bits .and .i64 q2 65535 = n := ⟨_, rfl⟩
  have hnb := and16 q2
  rw [hn] at hnb
  obtain ⟨n1, hn1⟩ : ∃ n, bits .and .i64 q1 65535 = n := ⟨_, rfl⟩
  have hnb1 := and16 q1
  rw [hn1] at hnb1
  obtain ⟨s, hs⟩ : ∃ s, (q0.tmod 11 + 11).tmod 11 = s := ⟨_, rfl⟩
  have t28 := tmod_in (x := n) (n := 28) hnb.1 (by decide)
  have t30 := tmod_in (x := n) (n := 30) hnb.1 (by decide)
  have t3 := tmod_in (x := n) (n := 3) hnb.1 (by decide)
  have t5000 := tmod_in (x := n) (n := 5000) hnb.1 (by decide)
  refine calls_wc (args := [i.v, .agg #[.int .i64 q0, .int .i64 q1, .int .i64 q2]]) Tryd.func7 rfl 186 rfl (Nat.le_of_ble_eq_true rfl) ?_
  refine wc_weak (.cons (i := 0) rfl <| .cons (i := 1) rfl <| .nil) ?_
  refine wc_conseq (H' := Hp (fun _ => False) w [] [] (BRd (fun k => w.heap.size ≤ k) i)) (fun u hu => ?_) ?_
  · subst hu; exact Hp.start h.foot0
  refine wc_seq ?_
  refine wc_region ?_
  refine wl_new .none rfl (nf_box rfl rfl) (fun b2 => ?_)
  refine wl_new .none rfl (nf_box rfl rfl) (fun b3 => ?_)
  refine wl_new .none rfl (nf_alloc (z := .agg #[.slice none 0 0, .slice none 0 0, .slice none 0 0]) (cs := [.slice none 0 0, .slice none 0 0, .slice none 0 0]) (by kernel_rfl) rfl) (fun b4 => ?_)
  refine wl_nil ?_
  refine wq_then ?_
  refine wc_seq ?_
  refine wc_region ?_
  refine wl_free .none rfl (yf_loadAllL 2 rfl rfl Tryd.underlying28 rfl (by kernel_rfl)) ?_
  refine wl_callR .none rfl (by kernel_rfl) rfl (fun w hw => own_any i m w (BRd.cur hw) hi hm) (fun j hj => ?_)
  obtain ⟨b, aA, aP, aO, cA, cP, cO⟩ := j
  obtain ⟨hbi, ⟨uA, uO, lA, lP, lO, hA, hP, hO⟩, hg⟩ := hj
  have hpg : ∀ p ∈ b.pages, p ∈ i.b.pages ∨ (-400 ≤ p ∧ p < 5000) := fun p hp => .inl (by rw [← hbi]; exact hp)
  dsimp only [BR.rows, BR.v, List.cons_append, List.nil_append] at uA uO lA lP lO hA hP hO hg ⊢
  refine wl_new .none rfl (nf_alloc (z := .agg #[.slice none 0 0, .slice none 0 0, .slice none 0 0]) (cs := [.slice none 0 0, .slice none 0 0, .slice none 0 0]) (by kernel_rfl) rfl) (fun b5 => ?_)
  refine wl_chain0 .none (cf_storeRow 0 rfl rfl rfl rfl rfl (by kernel_rfl)) (fun _ => ?_)
  refine wl_nil ?_
  refine wq_then ?_
  refine wc_seq ?_
  refine wc_seq ?_
  refine wc_weak (.cons (i := 0) rfl <| .cons (i := 1) rfl <| .cons (i := 2) rfl <| .cons (i := 3) rfl <| .cons (i := 4) rfl <| .cons (i := 5) rfl <| .nil) ?_
  refine wc_region ?_
  refine wl_free .none rfl (yf_fieldAddr (off := 2) (sz := 0) rfl Tryd.underlying28 (by kernel_rfl) rfl) ?_
  refine wl_free .none rfl (yf_loadL 0 rfl rfl rfl Tryd.underlying26 rfl) ?_
  refine wl_free .none rfl (yf_lenS rfl Tryd.underlying26) ?_
  refine wl_free .none rfl (yf_eql rfl rfl) ?_
  refine wl_nil ?_
  refine wq_then ?_
  refine wc_cond rfl (fun hc => ?_) (fun hc => ?_)
  · replace hc := eq_of_beq hc
    refine wc_seq ?_
    refine wc_weak (.cons (i := 0) rfl <| .cons (i := 1) rfl <| .cons (i := 2) rfl <| .cons (i := 3) rfl <| .cons (i := 4) rfl <| .cons (i := 5) rfl <| .cons (i := 18) rfl <| .nil) ?_
    refine wc_region ?_
    refine wl_free .none rfl (yf_loadAllL 0 rfl rfl Tryd.underlying28 rfl (by kernel_rfl)) ?_
    refine wl_chain0 .none (cf_storeRow 1 rfl rfl rfl rfl rfl (by kernel_rfl)) (fun _ => ?_)
    refine wl_nil ?_
    refine wq_then ?_
    refine wc_ret ?_
    refine wq_then_ret ?_
    refine wq_retC rfl rfl 1 rfl Tryd.underlying28 rfl (by kernel_rfl) (fun w hw => ?_)
    exact turn_endP (br_end hw b (.refl _) rfl rfl rfl rfl rfl rfl rfl uA uO hA hO hP (by omega) (by omega) (by omega)) hpg
  · replace hc := beq_no hc
    obtain ⟨g, rfl⟩ := hg (by omega)
    obtain ⟨ix, hix, hi0⟩ : ∃ x : Nat, n1.tmod (b.ops.length : Int) = x ∧ x < b.ops.length := by
      have := tmod_in (x := n1) (n := (b.ops.length : Int)) hnb1.1 (by omega)
      exact ⟨(n1.tmod (b.ops.length : Int)).toNat, by omega, by omega⟩
    obtain ⟨kx, hkx, hk0⟩ : ∃ x : Nat, n.tmod (b.ops.length : Int) = x ∧ x < b.ops.length := by
      have := tmod_in (x := n) (n := (b.ops.length : Int)) hnb.1 (by omega)
      exact ⟨(n.tmod (b.ops.length : Int)).toNat, by omega, by omega⟩
    obtain ⟨z, hz, hz0⟩ : ∃ x : Nat, n.tmod ((b.at_.length : Int) + 1) = x ∧ x ≤ b.at_.length := by
      have := tmod_in (x := n) (n := (b.at_.length : Int) + 1) hnb.1 (by omega)
      exact ⟨(n.tmod ((b.at_.length : Int) + 1)).toNat, by omega, by omega⟩
    refine wc_skip ?_
    refine wq_then ?_
    refine wc_seq ?_
    refine wc_weak (.cons (i := 0) rfl <| .cons (i := 1) rfl <| .cons (i := 2) rfl <| .cons (i := 3) rfl <| .cons (i := 4) rfl <| .cons (i := 5) rfl <| .cons (i := 18) rfl <| .nil) ?_
    refine wc_region ?_
    (refine wl_free .none rfl (yf_indexAddrA (j := 2) (es := 1) rfl rfl Tryd.underlying23 (by kernel_rfl) rfl ?_ rfl) ?_; (· first | decide | omega | (simp; omega)); skip)
    refine wl_free .none rfl (yf_loadL 2 rfl rfl rfl Tryd.underlying3 rfl) ?_
    refine wl_free .none rfl (yf_and rfl rfl hn) ?_
    refine wl_free .none rfl (yf_assign rfl) ?_
    refine wl_nil ?_
    refine wq_then ?_
    refine wc_seq ?_
    refine wc_weak (.cons (i := 0) rfl <| .cons (i := 1) rfl <| .cons (i := 2) rfl <| .cons (i := 3) rfl <| .cons (i := 4) rfl <| .cons (i := 5) rfl <| .cons (i := 6) rfl <| .cons (i := 18) rfl <| .nil) ?_
    refine wc_region ?_
    (refine wl_free .none rfl (yf_indexAddrA (j := 1) (es := 1) rfl rfl Tryd.underlying23 (by kernel_rfl) rfl ?_ rfl) ?_; (· first | decide | omega | (simp; omega)); skip)
    refine wl_free .none rfl (yf_loadL 2 rfl rfl rfl Tryd.underlying3 rfl) ?_
    refine wl_free .none rfl (yf_and rfl rfl hn1) ?_
    refine wl_free .none rfl (yf_fieldAddr (off := 2) (sz := 0) rfl Tryd.underlying28 (by kernel_rfl) rfl) ?_
    refine wl_free .none rfl (yf_loadL 0 rfl rfl rfl Tryd.underlying26 rfl) ?_
    refine wl_free .none rfl (yf_lenS rfl Tryd.underlying26) ?_
    (refine wl_free .none rfl (yf_rem rfl rfl ?_ hix) ?_; (· first | decide | omega); skip)
    refine wl_free .none rfl (yf_assign rfl) ?_
    refine wl_nil ?_
    refine wq_then ?_
    refine wc_seq ?_
    refine wc_seq ?_
    refine wc_weak (.cons (i := 0) rfl <| .cons (i := 1) rfl <| .cons (i := 2) rfl <| .cons (i := 3) rfl <| .cons (i := 4) rfl <| .cons (i := 5) rfl <| .cons (i := 6) rfl <| .cons (i := 7) rfl <| .cons (i := 18) rfl <| .nil) ?_
    refine wc_region ?_
    (refine wl_free .none rfl (yf_indexAddrA (j := 0) (es := 1) rfl rfl Tryd.underlying23 (by kernel_rfl) rfl ?_ rfl) ?_; (· first | decide | omega | (simp; omega)); skip)
    refine wl_free .none rfl (yf_loadL 2 rfl rfl rfl Tryd.underlying3 rfl) ?_
    (refine wl_free .none rfl (yf_rem rfl rfl ?_ rfl) ?_; (· first | decide | omega); skip)
    refine wl_free .none rfl (yf_add rfl rfl (wrap_rem (by decide) (by decide))) ?_
    (refine wl_free .none rfl (yf_rem rfl rfl ?_ hs) ?_; (· first | decide | omega); skip)
    refine wl_nil ?_
    refine wq_then ?_
    refine wc_block ?_
    refine wc_seq ?_
    refine wc_weak (.cons (i := 0) rfl <| .cons (i := 1) rfl <| .cons (i := 2) rfl <| .cons (i := 3) rfl <| .cons (i := 4) rfl <| .cons (i := 5) rfl <| .cons (i := 6) rfl <| .cons (i := 7) rfl <| .cons (i := 18) rfl <| .cons (i := 34) rfl <| .nil) ?_
    refine wc_region ?_
    refine wl_free .none rfl (yf_eql rfl rfl) ?_
    refine wl_free .none rfl (yf_assign rfl) ?_
    refine wl_nil ?_
    refine wq_then ?_
    refine wc_cond rfl (fun hc => ?_) (fun hc => ?_)
    · replace hc := eq_of_beq hc
      refine wc_weak (.cons (i := 0) rfl <| .cons (i := 1) rfl <| .cons (i := 2) rfl <| .cons (i := 3) rfl <| .cons (i := 4) rfl <| .cons (i := 5) rfl <| .cons (i := 6) rfl <| .cons (i := 7) rfl <| .cons (i := 18) rfl <| .cons (i := 34) rfl <| .cons (i := 45) rfl <| .nil) ?_
      refine wc_region ?_
      refine wl_free .none rfl (yf_fieldAddr (off := 2) (sz := 0) rfl Tryd.underlying28 (by kernel_rfl) rfl) ?_
      refine wl_free .none rfl (yf_loadL 0 rfl rfl rfl Tryd.underlying26 rfl) ?_
      refine wl_free .none rfl (yf_move rfl) ?_
      refine wl_free .none rfl (yf_move rfl) ?_
      (refine wl_free .none rfl (yf_rem rfl rfl ?_ rfl) ?_; (· first | decide | omega); skip)
      (refine wl_free .none rfl (yf_indexAddrS (es := 5) rfl rfl Tryd.underlying26 (by kernel_rfl) rfl ?_ rfl) ?_; (· first | decide | omega | (simp; omega)); skip)
      refine wl_free .none rfl (yf_fieldAddr (off := 0) (sz := 0) rfl Tryd.underlying53 (by kernel_rfl) rfl) ?_
      refine wl_chain0 .none (cf_storeR 1 rfl rfl rfl rfl (by rw [opsCells_len]; omega) (by kernel_rfl)) (fun _ => ?_)
      refine wl_nil ?_
      refine wq_block ?_
      refine wq_then ?_
      refine wc_seq ?_
      refine wc_weak (.cons (i := 0) rfl <| .cons (i := 1) rfl <| .cons (i := 2) rfl <| .cons (i := 3) rfl <| .cons (i := 4) rfl <| .cons (i := 5) rfl <| .cons (i := 6) rfl <| .cons (i := 7) rfl <| .cons (i := 18) rfl <| .cons (i := 34) rfl <| .cons (i := 45) rfl <| .nil) ?_
      refine wc_region ?_
      refine wl_free .none rfl (yf_loadAllL 0 rfl rfl Tryd.underlying28 rfl (by kernel_rfl)) ?_
      refine wl_chain0 .none (cf_storeRow 1 rfl rfl rfl rfl rfl (by kernel_rfl)) (fun _ => ?_)
      refine wl_nil ?_
      refine wq_then ?_
      refine wc_ret ?_
      refine wq_retC rfl rfl 1 rfl Tryd.underlying28 rfl (by kernel_rfl) (fun w hw => ?_)
      exact turn_endP (br_end hw ⟨b.at_, b.pages, b.ops.set ix {b.ops.getD ix noOp with code := n.tmod 28}⟩ (.refl _) rfl rfl (by simp) rfl rfl (opsCells_cell hi0 0 (by decide) rfl) rfl uA (set_all uO (show U32 (b.ops.getD ix noOp).n from uO _ (opD_mem hi0))) hA hO hP (by omega) (by omega) (by omega)) hpg
    · replace hc := beq_no hc
      refine wc_seq ?_
      refine wc_weak (.cons (i := 0) rfl <| .cons (i := 1) rfl <| .cons (i := 2) rfl <| .cons (i := 3) rfl <| .cons (i := 4) rfl <| .cons (i := 5) rfl <| .cons (i := 6) rfl <| .cons (i := 7) rfl <| .cons (i := 18) rfl <| .cons (i := 34) rfl <| .cons (i := 45) rfl <| .nil) ?_
      refine wc_region ?_
      refine wl_free .none rfl (yf_eql rfl rfl) ?_
      refine wl_free .none rfl (yf_assign rfl) ?_
      refine wl_nil ?_
      refine wq_then ?_
      refine wc_cond rfl (fun hc => ?_) (fun hc => ?_)
      · replace hc := eq_of_beq hc
        refine wc_weak (.cons (i := 0) rfl <| .cons (i := 1) rfl <| .cons (i := 2) rfl <| .cons (i := 3) rfl <| .cons (i := 4) rfl <| .cons (i := 5) rfl <| .cons (i := 6) rfl <| .cons (i := 7) rfl <| .cons (i := 18) rfl <| .cons (i := 34) rfl <| .cons (i := 45) rfl <| .cons (i := 54) rfl <| .nil) ?_
        refine wc_region ?_
        refine wl_free .none rfl (yf_fieldAddr (off := 2) (sz := 0) rfl Tryd.underlying28 (by kernel_rfl) rfl) ?_
        refine wl_free .none rfl (yf_loadL 0 rfl rfl rfl Tryd.underlying26 rfl) ?_
        refine wl_free .none rfl (yf_move rfl) ?_
        refine wl_free .none rfl (yf_move rfl) ?_
        (refine wl_free .none rfl (yf_rem rfl rfl ?_ rfl) ?_; (· first | decide | omega); skip)
        (refine wl_free .none rfl (yf_sub rfl rfl (i64_in _ ?_ ?_)) ?_; (· omega); (· omega); skip)
        (refine wl_free .none rfl (yf_indexAddrS (es := 5) rfl rfl Tryd.underlying26 (by kernel_rfl) rfl ?_ rfl) ?_; (· first | decide | omega | (simp; omega)); skip)
        refine wl_free .none rfl (yf_fieldAddr (off := 1) (sz := 0) rfl Tryd.underlying53 (by kernel_rfl) rfl) ?_
        refine wl_chain0 .none (cf_storeR 1 rfl rfl rfl rfl (by rw [opsCells_len]; omega) (by kernel_rfl)) (fun _ => ?_)
        refine wl_nil ?_
        refine wq_block ?_
        refine wq_then ?_
        refine wc_seq ?_
        refine wc_weak (.cons (i := 0) rfl <| .cons (i := 1) rfl <| .cons (i := 2) rfl <| .cons (i := 3) rfl <| .cons (i := 4) rfl <| .cons (i := 5) rfl <| .cons (i := 6) rfl <| .cons (i := 7) rfl <| .cons (i := 18) rfl <| .cons (i := 34) rfl <| .cons (i := 45) rfl <| .cons (i := 54) rfl <| .nil) ?_
        refine wc_region ?_
        refine wl_free .none rfl (yf_loadAllL 0 rfl rfl Tryd.underlying28 rfl (by kernel_rfl)) ?_
        refine wl_chain0 .none (cf_storeRow 1 rfl rfl rfl rfl rfl (by kernel_rfl)) (fun _ => ?_)
        refine wl_nil ?_
        refine wq_then ?_
        refine wc_ret ?_
        refine wq_retC rfl rfl 1 rfl Tryd.underlying28 rfl (by kernel_rfl) (fun w hw => ?_)
        exact turn_endP (br_end hw ⟨b.at_, b.pages, b.ops.set ix {b.ops.getD ix noOp with d := n.tmod 30 - 1}⟩ (.refl _) rfl rfl (by simp) rfl rfl (opsCells_cell hi0 1 (by decide) rfl) rfl uA (set_all uO (show U32 (b.ops.getD ix noOp).n from uO _ (opD_mem hi0))) hA hO hP (by omega) (by omega) (by omega)) hpg
      · replace hc := beq_no hc
        refine wc_seq ?_
        refine wc_weak (.cons (i := 0) rfl <| .cons (i := 1) rfl <| .cons (i := 2) rfl <| .cons (i := 3) rfl <| .cons (i := 4) rfl <| .cons (i := 5) rfl <| .cons (i := 6) rfl <| .cons (i := 7) rfl <| .cons (i := 18) rfl <| .cons (i := 34) rfl <| .cons (i := 45) rfl <| .cons (i := 54) rfl <| .nil) ?_
        refine wc_region ?_
        refine wl_free .none rfl (yf_eql rfl rfl) ?_
        refine wl_free .none rfl (yf_assign rfl) ?_
        refine wl_nil ?_
        refine wq_then ?_
        refine wc_cond rfl (fun hc => ?_) (fun hc => ?_)
        · replace hc := eq_of_beq hc
          refine wc_weak (.cons (i := 0) rfl <| .cons (i := 1) rfl <| .cons (i := 2) rfl <| .cons (i := 3) rfl <| .cons (i := 4) rfl <| .cons (i := 5) rfl <| .cons (i := 6) rfl <| .cons (i := 7) rfl <| .cons (i := 18) rfl <| .cons (i := 34) rfl <| .cons (i := 45) rfl <| .cons (i := 54) rfl <| .cons (i := 64) rfl <| .nil) ?_
          refine wc_region ?_
          refine wl_free .none rfl (yf_fieldAddr (off := 2) (sz := 0) rfl Tryd.underlying28 (by kernel_rfl) rfl) ?_
          refine wl_free .none rfl (yf_loadL 0 rfl rfl rfl Tryd.underlying26 rfl) ?_
          refine wl_free .none rfl (yf_move rfl) ?_
          refine wl_free .none rfl (yf_move rfl) ?_
          (refine wl_free .none rfl (yf_rem rfl rfl ?_ rfl) ?_; (· first | decide | omega); skip)
          (refine wl_free .none rfl (yf_sub rfl rfl (i64_in _ ?_ ?_)) ?_; (· omega); (· omega); skip)
          (refine wl_free .none rfl (yf_indexAddrS (es := 5) rfl rfl Tryd.underlying26 (by kernel_rfl) rfl ?_ rfl) ?_; (· first | decide | omega | (simp; omega)); skip)
          refine wl_free .none rfl (yf_fieldAddr (off := 2) (sz := 0) rfl Tryd.underlying53 (by kernel_rfl) rfl) ?_
          refine wl_chain0 .none (cf_storeR 1 rfl rfl rfl rfl (by rw [opsCells_len]; omega) (by kernel_rfl)) (fun _ => ?_)
          refine wl_nil ?_
          refine wq_block ?_
          refine wq_then ?_
          refine wc_seq ?_
          refine wc_weak (.cons (i := 0) rfl <| .cons (i := 1) rfl <| .cons (i := 2) rfl <| .cons (i := 3) rfl <| .cons (i := 4) rfl <| .cons (i := 5) rfl <| .cons (i := 6) rfl <| .cons (i := 7) rfl <| .cons (i := 18) rfl <| .cons (i := 34) rfl <| .cons (i := 45) rfl <| .cons (i := 54) rfl <| .cons (i := 64) rfl <| .nil) ?_
          refine wc_region ?_
          refine wl_free .none rfl (yf_loadAllL 0 rfl rfl Tryd.underlying28 rfl (by kernel_rfl)) ?_
          refine wl_chain0 .none (cf_storeRow 1 rfl rfl rfl rfl rfl (by kernel_rfl)) (fun _ => ?_)
          refine wl_nil ?_
          refine wq_then ?_
          refine wc_ret ?_
          refine wq_retC rfl rfl 1 rfl Tryd.underlying28 rfl (by kernel_rfl) (fun w hw => ?_)
          exact turn_endP (br_end hw ⟨b.at_, b.pages, b.ops.set ix {b.ops.getD ix noOp with a := n.tmod 30 - 1}⟩ (.refl _) rfl rfl (by simp) rfl rfl (opsCells_cell hi0 2 (by decide) rfl) rfl uA (set_all uO (show U32 (b.ops.getD ix noOp).n from uO _ (opD_mem hi0))) hA hO hP (by omega) (by omega) (by omega)) hpg
        · replace hc := beq_no hc
          refine wc_seq ?_
          refine wc_weak (.cons (i := 0) rfl <| .cons (i := 1) rfl <| .cons (i := 2) rfl <| .cons (i := 3) rfl <| .cons (i := 4) rfl <| .cons (i := 5) rfl <| .cons (i := 6) rfl <| .cons (i := 7) rfl <| .cons (i := 18) rfl <| .cons (i := 34) rfl <| .cons (i := 45) rfl <| .cons (i := 54) rfl <| .cons (i := 64) rfl <| .nil) ?_
          refine wc_region ?_
          refine wl_free .none rfl (yf_eql rfl rfl) ?_
          refine wl_free .none rfl (yf_assign rfl) ?_
          refine wl_nil ?_
          refine wq_then ?_
          refine wc_cond rfl (fun hc => ?_) (fun hc => ?_)
          · replace hc := eq_of_beq hc
            refine wc_weak (.cons (i := 0) rfl <| .cons (i := 1) rfl <| .cons (i := 2) rfl <| .cons (i := 3) rfl <| .cons (i := 4) rfl <| .cons (i := 5) rfl <| .cons (i := 6) rfl <| .cons (i := 7) rfl <| .cons (i := 18) rfl <| .cons (i := 34) rfl <| .cons (i := 45) rfl <| .cons (i := 54) rfl <| .cons (i := 64) rfl <| .cons (i := 74) rfl <| .nil) ?_
            refine wc_region ?_
            refine wl_free .none rfl (yf_fieldAddr (off := 2) (sz := 0) rfl Tryd.underlying28 (by kernel_rfl) rfl) ?_
            refine wl_free .none rfl (yf_loadL 0 rfl rfl rfl Tryd.underlying26 rfl) ?_
            refine wl_free .none rfl (yf_move rfl) ?_
            refine wl_free .none rfl (yf_move rfl) ?_
            (refine wl_free .none rfl (yf_rem rfl rfl ?_ rfl) ?_; (· first | decide | omega); skip)
            (refine wl_free .none rfl (yf_sub rfl rfl (i64_in _ ?_ ?_)) ?_; (· omega); (· omega); skip)
            (refine wl_free .none rfl (yf_indexAddrS (es := 5) rfl rfl Tryd.underlying26 (by kernel_rfl) rfl ?_ rfl) ?_; (· first | decide | omega | (simp; omega)); skip)
            refine wl_free .none rfl (yf_fieldAddr (off := 3) (sz := 0) rfl Tryd.underlying53 (by kernel_rfl) rfl) ?_
            refine wl_chain0 .none (cf_storeR 1 rfl rfl rfl rfl (by rw [opsCells_len]; omega) (by kernel_rfl)) (fun _ => ?_)
            refine wl_nil ?_
            refine wq_block ?_
            refine wq_then ?_
            refine wc_seq ?_
            refine wc_weak (.cons (i := 0) rfl <| .cons (i := 1) rfl <| .cons (i := 2) rfl <| .cons (i := 3) rfl <| .cons (i := 4) rfl <| .cons (i := 5) rfl <| .cons (i := 6) rfl <| .cons (i := 7) rfl <| .cons (i := 18) rfl <| .cons (i := 34) rfl <| .cons (i := 45) rfl <| .cons (i := 54) rfl <| .cons (i := 64) rfl <| .cons (i := 74) rfl <| .nil) ?_
            refine wc_region ?_
            refine wl_free .none rfl (yf_loadAllL 0 rfl rfl Tryd.underlying28 rfl (by kernel_rfl)) ?_
            refine wl_chain0 .none (cf_storeRow 1 rfl rfl rfl rfl rfl (by kernel_rfl)) (fun _ => ?_)
            refine wl_nil ?_
            refine wq_then ?_
            refine wc_ret ?_
            refine wq_retC rfl rfl 1 rfl Tryd.underlying28 rfl (by kernel_rfl) (fun w hw => ?_)
            exact turn_endP (br_end hw ⟨b.at_, b.pages, b.ops.set ix {b.ops.getD ix noOp with b := n.tmod 30 - 1}⟩ (.refl _) rfl rfl (by simp) rfl rfl (opsCells_cell hi0 3 (by decide) rfl) rfl uA (set_all uO (show U32 (b.ops.getD ix noOp).n from uO _ (opD_mem hi0))) hA hO hP (by omega) (by omega) (by omega)) hpg
          · replace hc := beq_no hc
            refine wc_seq ?_
            refine wc_weak (.cons (i := 0) rfl <| .cons (i := 1) rfl <| .cons (i := 2) rfl <| .cons (i := 3) rfl <| .cons (i := 4) rfl <| .cons (i := 5) rfl <| .cons (i := 6) rfl <| .cons (i := 7) rfl <| .cons (i := 18) rfl <| .cons (i := 34) rfl <| .cons (i := 45) rfl <| .cons (i := 54) rfl <| .cons (i := 64) rfl <| .cons (i := 74) rfl <| .nil) ?_
            refine wc_region ?_
            refine wl_free .none rfl (yf_eql rfl rfl) ?_
            refine wl_free .none rfl (yf_assign rfl) ?_
            refine wl_nil ?_
            refine wq_then ?_
            refine wc_cond rfl (fun hc => ?_) (fun hc => ?_)
            · replace hc := eq_of_beq hc
              refine wc_weak (.cons (i := 0) rfl <| .cons (i := 1) rfl <| .cons (i := 2) rfl <| .cons (i := 3) rfl <| .cons (i := 4) rfl <| .cons (i := 5) rfl <| .cons (i := 6) rfl <| .cons (i := 7) rfl <| .cons (i := 18) rfl <| .cons (i := 34) rfl <| .cons (i := 45) rfl <| .cons (i := 54) rfl <| .cons (i := 64) rfl <| .cons (i := 74) rfl <| .cons (i := 84) rfl <| .nil) ?_
              refine wc_still 14 (by kernel_rfl) (by kernel_rfl) (fun _ h => HpG.drew h) ?_
              refine wt_free .none rfl (yf_fieldAddr (off := 2) (sz := 0) rfl Tryd.underlying28 (by kernel_rfl) rfl) ?_
              refine wt_free .none rfl (yf_loadL 0 rfl rfl rfl Tryd.underlying26 rfl) ?_
              refine wt_free .none rfl (yf_move rfl) ?_
              refine wt_free .none rfl (yf_fieldAddr (off := 2) (sz := 0) rfl Tryd.underlying28 (by kernel_rfl) rfl) ?_
              refine wt_free .none rfl (yf_loadL 0 rfl rfl rfl Tryd.underlying26 rfl) ?_
              refine wt_free .none rfl (yf_move rfl) ?_
              (refine wt_free .none rfl (yf_indexAddrS (es := 5) rfl rfl Tryd.underlying26 (by kernel_rfl) rfl ?_ rfl) ?_; (· first | decide | omega | (simp; omega)); skip)
              refine wt_free .none rfl (yf_fieldAddr (off := 4) (sz := 0) rfl Tryd.underlying53 (by kernel_rfl) rfl) ?_
              refine wt_free .none rfl (yf_loadR (v := .int .u32 (b.ops.getD ix noOp).n) 1 rfl rfl (ops_cell hi0 rfl (by decide)) Tryd.underlying35 rfl) ?_
              refine wt_free .none rfl (yf_move rfl) ?_
              (refine wt_free .none rfl (yf_rem rfl rfl ?_ rfl) ?_; (· first | decide | omega); skip)
              (refine wt_free .none rfl (yf_conv rfl (by kernel_rfl) Tryd.underlying35 (u32_in _ ?_ ?_)) ?_; (· omega); (· omega); skip)
              refine wt_free .none rfl (yf_add rfl rfl rfl) ?_
              refine wt_free .none rfl (yf_sub rfl rfl rfl) ?_
              refine wt_tail ?_
              (refine wl_free .none rfl (yf_indexAddrS (es := 5) rfl rfl Tryd.underlying26 (by kernel_rfl) rfl ?_ rfl) ?_; (· first | decide | omega | (simp; omega)); skip)
              refine wl_free .none rfl (yf_fieldAddr (off := 4) (sz := 0) rfl Tryd.underlying53 (by kernel_rfl) rfl) ?_
              refine wl_chain0 .none (cf_storeR 1 rfl rfl rfl rfl (by rw [opsCells_len]; omega) (by kernel_rfl)) (fun _ => ?_)
              refine wl_nil ?_
              refine wq_block ?_
              refine wq_then ?_
              refine wc_seq ?_
              refine wc_weak (.cons (i := 0) rfl <| .cons (i := 1) rfl <| .cons (i := 2) rfl <| .cons (i := 3) rfl <| .cons (i := 4) rfl <| .cons (i := 5) rfl <| .cons (i := 6) rfl <| .cons (i := 7) rfl <| .cons (i := 18) rfl <| .cons (i := 34) rfl <| .cons (i := 45) rfl <| .cons (i := 54) rfl <| .cons (i := 64) rfl <| .cons (i := 74) rfl <| .cons (i := 84) rfl <| .nil) ?_
              refine wc_region ?_
              refine wl_free .none rfl (yf_loadAllL 0 rfl rfl Tryd.underlying28 rfl (by kernel_rfl)) ?_
              refine wl_chain0 .none (cf_storeRow 1 rfl rfl rfl rfl rfl (by kernel_rfl)) (fun _ => ?_)
              refine wl_nil ?_
              refine wq_then ?_
              refine wc_ret ?_
              refine wq_retC rfl rfl 1 rfl Tryd.underlying28 rfl (by kernel_rfl) (fun w hw => ?_)
              exact turn_endP (br_end hw ⟨b.at_, b.pages, b.ops.set ix {b.ops.getD ix noOp with n := IntKind.u32.wrap (IntKind.u32.wrap ((b.ops.getD ix noOp).n + n.tmod 3) - 1)}⟩ (.refl _) rfl rfl (by simp) rfl rfl (opsCells_cell hi0 4 (by decide) rfl) rfl uA (set_all uO (u32_wrap _)) hA hO hP (by omega) (by omega) (by omega)) hpg
            · replace hc := beq_no hc
              refine wc_seq ?_
              refine wc_weak (.cons (i := 0) rfl <| .cons (i := 1) rfl <| .cons (i := 2) rfl <| .cons (i := 3) rfl <| .cons (i := 4) rfl <| .cons (i := 5) rfl <| .cons (i := 6) rfl <| .cons (i := 7) rfl <| .cons (i := 18) rfl <| .cons (i := 34) rfl <| .cons (i := 45) rfl <| .cons (i := 54) rfl <| .cons (i := 64) rfl <| .cons (i := 74) rfl <| .cons (i := 84) rfl <| .nil) ?_
              refine wc_region ?_
              refine wl_free .none rfl (yf_eql rfl rfl) ?_
              refine wl_free .none rfl (yf_assign rfl) ?_
              refine wl_nil ?_
              refine wq_then ?_
              refine wc_cond rfl (fun hc => ?_) (fun hc => ?_)
              · replace hc := eq_of_beq hc
                refine wc_seq ?_
                refine wc_weak (.cons (i := 0) rfl <| .cons (i := 1) rfl <| .cons (i := 2) rfl <| .cons (i := 3) rfl <| .cons (i := 4) rfl <| .cons (i := 5) rfl <| .cons (i := 6) rfl <| .cons (i := 7) rfl <| .cons (i := 18) rfl <| .cons (i := 34) rfl <| .cons (i := 45) rfl <| .cons (i := 54) rfl <| .cons (i := 64) rfl <| .cons (i := 74) rfl <| .cons (i := 84) rfl <| .cons (i := 102) rfl <| .nil) ?_
                refine wc_region ?_
                refine wl_free .none rfl (yf_fieldAddr (off := 2) (sz := 0) rfl Tryd.underlying28 (by kernel_rfl) rfl) ?_
                refine wl_free .none rfl (yf_loadL 0 rfl rfl rfl Tryd.underlying26 rfl) ?_
                refine wl_free .none rfl (yf_move rfl) ?_
                (refine wl_free .none rfl (yf_add rfl rfl (i64_in _ ?_ ?_)) ?_; (· omega); (· omega); skip)
                (refine wl_free .none rfl (yf_sliceLo (size := 5) (i := ix + 1) rfl rfl Tryd.underlying26 (by kernel_rfl) rfl ?_) ?_; (· omega); skip)
                refine wl_free .none rfl (yf_assign rfl) ?_
                refine wl_nil ?_
                refine wq_then ?_
                refine wc_weak (.cons (i := 0) rfl <| .cons (i := 1) rfl <| .cons (i := 2) rfl <| .cons (i := 3) rfl <| .cons (i := 4) rfl <| .cons (i := 5) rfl <| .cons (i := 6) rfl <| .cons (i := 7) rfl <| .cons (i := 8) rfl <| .cons (i := 18) rfl <| .cons (i := 34) rfl <| .cons (i := 45) rfl <| .cons (i := 54) rfl <| .cons (i := 64) rfl <| .cons (i := 74) rfl <| .cons (i := 84) rfl <| .cons (i := 102) rfl <| .nil) ?_
                refine wc_region ?_
                refine wl_free .none rfl (yf_fieldAddr (off := 2) (sz := 0) rfl Tryd.underlying28 (by kernel_rfl) rfl) ?_
                refine wl_free .none rfl (yf_loadL 0 rfl rfl rfl Tryd.underlying26 rfl) ?_
                refine wl_free .none rfl (yf_move rfl) ?_
                (refine wl_free .none rfl (yf_sliceHi (size := 5) rfl rfl Tryd.underlying26 (by kernel_rfl) rfl ?_) ?_; (· omega); skip)
                refine wl_free .none rfl (yf_move rfl) ?_
                refine wl_appendT (z := .agg #[.int .i64 0, .int .i64 0, .int .i64 0, .int .i64 0, .int .u32 0]) (bytes := 40) 1 .none rfl rfl rfl rfl (fun w h => row_rdLo (size := 5) (HpG.rowAt h (k := 1) rfl) rfl) Tryd.underlying26 (by kernel_rfl) rfl rfl (by rw [List.length_drop, opsCells_len]; omega) (fun v hv => opsCells_one _ v (List.mem_of_mem_drop hv)) (by omega) (by omega) (by omega) (by omega) (fun A5 c5 h5 => ?_)
                refine wl_free .none rfl (yf_fieldAddr (off := 2) (sz := 0) rfl Tryd.underlying28 (by kernel_rfl) rfl) ?_
                refine wl_chain0 .none (cf_store 0 rfl rfl rfl rfl rfl (by kernel_rfl)) (fun _ => ?_)
                refine wl_nil ?_
                refine wq_block ?_
                refine wq_then ?_
                refine wc_seq ?_
                refine wc_weak (.cons (i := 0) rfl <| .cons (i := 1) rfl <| .cons (i := 2) rfl <| .cons (i := 3) rfl <| .cons (i := 4) rfl <| .cons (i := 5) rfl <| .cons (i := 6) rfl <| .cons (i := 7) rfl <| .cons (i := 8) rfl <| .cons (i := 18) rfl <| .cons (i := 34) rfl <| .cons (i := 45) rfl <| .cons (i := 54) rfl <| .cons (i := 64) rfl <| .cons (i := 74) rfl <| .cons (i := 84) rfl <| .cons (i := 102) rfl <| .nil) ?_
                refine wc_region ?_
                refine wl_free .none rfl (yf_loadAllL 0 rfl rfl Tryd.underlying28 rfl (by kernel_rfl)) ?_
                refine wl_chain0 .none (cf_storeRow 1 rfl rfl rfl rfl rfl (by kernel_rfl)) (fun _ => ?_)
                refine wl_nil ?_
                refine wq_then ?_
                refine wc_ret ?_
                refine wq_retC rfl rfl 1 rfl Tryd.underlying28 rfl (by kernel_rfl) (fun w hw => ?_)
                exact turn_endP (br_end hw ⟨b.at_, b.pages, b.ops.take ix ++ b.ops.drop (ix + 1)⟩ (.refl _) rfl rfl (by simp; omega) rfl rfl (by rw [opsCells_take, opsCells_drop, opsCells_app]) rfl uA (fun o ho => by
                  rcases List.mem_append.1 ho with ho | ho
                  · exact uO o (List.mem_of_mem_take ho)
                  · exact uO o (List.mem_of_mem_drop ho)) hA h5 hP (by omega) (by omega) (by omega)) hpg
              · replace hc := beq_no hc
                refine wc_seq ?_
                refine wc_weak (.cons (i := 0) rfl <| .cons (i := 1) rfl <| .cons (i := 2) rfl <| .cons (i := 3) rfl <| .cons (i := 4) rfl <| .cons (i := 5) rfl <| .cons (i := 6) rfl <| .cons (i := 7) rfl <| .cons (i := 18) rfl <| .cons (i := 34) rfl <| .cons (i := 45) rfl <| .cons (i := 54) rfl <| .cons (i := 64) rfl <| .cons (i := 74) rfl <| .cons (i := 84) rfl <| .cons (i := 102) rfl <| .nil) ?_
                refine wc_region ?_
                refine wl_free .none rfl (yf_eql rfl rfl) ?_
                refine wl_free .none rfl (yf_assign rfl) ?_
                refine wl_nil ?_
                refine wq_then ?_
                refine wc_cond rfl (fun hc => ?_) (fun hc => ?_)
                · replace hc := eq_of_beq hc
                  refine wc_seq ?_
                  refine wc_weak (.cons (i := 0) rfl <| .cons (i := 1) rfl <| .cons (i := 2) rfl <| .cons (i := 3) rfl <| .cons (i := 4) rfl <| .cons (i := 5) rfl <| .cons (i := 6) rfl <| .cons (i := 7) rfl <| .cons (i := 18) rfl <| .cons (i := 34) rfl <| .cons (i := 45) rfl <| .cons (i := 54) rfl <| .cons (i := 64) rfl <| .cons (i := 74) rfl <| .cons (i := 84) rfl <| .cons (i := 102) rfl <| .cons (i := 116) rfl <| .nil) ?_
                  refine wc_region ?_
                  refine wl_free .none rfl (yf_fieldAddr (off := 2) (sz := 0) rfl Tryd.underlying28 (by kernel_rfl) rfl) ?_
                  refine wl_free .none rfl (yf_loadL 0 rfl rfl rfl Tryd.underlying26 rfl) ?_
                  refine wl_free .none rfl (yf_move rfl) ?_
                  (refine wl_free .none rfl (yf_indexAddrS (es := 5) rfl rfl Tryd.underlying26 (by kernel_rfl) rfl ?_ rfl) ?_; (· first | decide | omega | (simp; omega)); skip)
                  refine wl_free .none rfl (yf_loadRR (seg := opC (b.ops.getD ix noOp)) 1 rfl rfl (ops_row hi0) Tryd.underlying53 rfl (by kernel_rfl)) ?_
                  refine wl_new .none rfl (nf_alloc (z := .agg #[.int .i64 0, .int .i64 0, .int .i64 0, .int .i64 0, .int .u32 0]) (cs := [.int .i64 0, .int .i64 0, .int .i64 0, .int .i64 0, .int .u32 0]) (by kernel_rfl) rfl) (fun b9 => ?_)
                  refine wl_chain0 .none (cf_storeRow 0 rfl rfl rfl rfl rfl (by kernel_rfl)) (fun _ => ?_)
                  refine wl_nil ?_
                  refine wq_then ?_
                  refine wc_seq ?_
                  refine wc_weak (.cons (i := 0) rfl <| .cons (i := 1) rfl <| .cons (i := 2) rfl <| .cons (i := 3) rfl <| .cons (i := 4) rfl <| .cons (i := 5) rfl <| .cons (i := 6) rfl <| .cons (i := 7) rfl <| .cons (i := 9) rfl <| .cons (i := 18) rfl <| .cons (i := 34) rfl <| .cons (i := 45) rfl <| .cons (i := 54) rfl <| .cons (i := 64) rfl <| .cons (i := 74) rfl <| .cons (i := 84) rfl <| .cons (i := 102) rfl <| .cons (i := 116) rfl <| .nil) ?_
                  refine wc_region ?_
                  refine wl_free .none rfl (yf_assign rfl) ?_
                  refine wl_nil ?_
                  refine wq_then ?_
                  refine wc_seq ?_
                  refine wc_conseq (fun w h => Hp.nil h 53 5) ?_
                  refine wc_region ?_
                  refine wl_free .none rfl (yf_move rfl) ?_
                  refine wl_free .none rfl (yf_fieldAddr (off := 2) (sz := 0) rfl Tryd.underlying28 (by kernel_rfl) rfl) ?_
                  refine wl_free .none rfl (yf_loadL 1 rfl rfl rfl Tryd.underlying26 rfl) ?_
                  refine wl_free .none rfl (yf_move rfl) ?_
                  (refine wl_free .none rfl (yf_sliceHi (size := 5) rfl rfl Tryd.underlying26 (by kernel_rfl) rfl ?_) ?_; (· omega); skip)
                  refine wl_appendS (z := .agg #[.int .i64 0, .int .i64 0, .int .i64 0, .int .i64 0, .int .u32 0]) (bytes := 40) 0 .none rfl rfl rfl rfl (fun w h => row_rdHi (size := 5) (i := ix) (HpG.rowAt h (k := 2) rfl)) Tryd.underlying26 (by kernel_rfl) rfl rfl (by rw [List.length_take, opsCells_len]; omega) (fun v hv => opsCells_one _ v (List.mem_of_mem_take hv)) (by omega) (by omega) (by omega) (fun A6 c6 h6 => ?_)
                  refine wl_free .none rfl (yf_assign rfl) ?_
                  refine wl_nil ?_
                  refine wq_then ?_
                  refine wc_seq ?_
                  refine wc_weak (.cons (i := 0) rfl <| .cons (i := 1) rfl <| .cons (i := 2) rfl <| .cons (i := 3) rfl <| .cons (i := 4) rfl <| .cons (i := 5) rfl <| .cons (i := 6) rfl <| .cons (i := 7) rfl <| .cons (i := 9) rfl <| .cons (i := 10) rfl <| .cons (i := 18) rfl <| .cons (i := 34) rfl <| .cons (i := 45) rfl <| .cons (i := 54) rfl <| .cons (i := 64) rfl <| .cons (i := 74) rfl <| .cons (i := 84) rfl <| .cons (i := 102) rfl <| .cons (i := 116) rfl <| .nil) ?_
                  refine wc_region ?_
                  refine wl_free .none rfl (yf_move rfl) ?_
                  refine wl_free .none rfl (yf_loadAllL 0 rfl rfl Tryd.underlying53 rfl (by kernel_rfl)) ?_
                  refine wl_new .none rfl (nf_bs1 (z := .agg #[.int .i64 0, .int .i64 0, .int .i64 0, .int .i64 0, .int .u32 0]) rfl rfl Tryd.underlying26 (by kernel_rfl) (by kernel_rfl) rfl rfl) (fun b131 => ?_)
                  (refine wl_appendL (z := .agg #[.int .i64 0, .int .i64 0, .int .i64 0, .int .i64 0, .int .u32 0]) (bytes := 40) 0 0 .none rfl rfl rfl rfl rfl Tryd.underlying26 (by kernel_rfl) rfl rfl rfl rfl ?_ ?_ ?_ (fun a132 c132 h132 => ?_); (· omega); (· omega); (· omega); skip)
                  refine wl_free .none rfl (yf_assign rfl) ?_
                  refine wl_nil ?_
                  refine wq_then ?_
                  refine wc_weak (.cons (i := 0) rfl <| .cons (i := 1) rfl <| .cons (i := 2) rfl <| .cons (i := 3) rfl <| .cons (i := 4) rfl <| .cons (i := 5) rfl <| .cons (i := 6) rfl <| .cons (i := 7) rfl <| .cons (i := 9) rfl <| .cons (i := 10) rfl <| .cons (i := 18) rfl <| .cons (i := 34) rfl <| .cons (i := 45) rfl <| .cons (i := 54) rfl <| .cons (i := 64) rfl <| .cons (i := 74) rfl <| .cons (i := 84) rfl <| .cons (i := 102) rfl <| .cons (i := 116) rfl <| .nil) ?_
                  refine wc_region ?_
                  refine wl_free .none rfl (yf_move rfl) ?_
                  refine wl_free .none rfl (yf_fieldAddr (off := 2) (sz := 0) rfl Tryd.underlying28 (by kernel_rfl) rfl) ?_
                  refine wl_free .none rfl (yf_loadL 2 rfl rfl rfl Tryd.underlying26 rfl) ?_
                  refine wl_free .none rfl (yf_move rfl) ?_
                  (refine wl_free .none rfl (yf_sliceLo (size := 5) (i := ix) rfl rfl Tryd.underlying26 (by kernel_rfl) rfl ?_) ?_; (· omega); skip)
                  refine wl_appendS (z := .agg #[.int .i64 0, .int .i64 0, .int .i64 0, .int .i64 0, .int .u32 0]) (bytes := 40) 0 .none rfl rfl rfl rfl (fun w h => row_rdLo (size := 5) (i := ix) (HpG.rowAt h (k := 2) rfl) rfl) Tryd.underlying26 (by kernel_rfl) rfl rfl (by rw [List.length_drop, opsCells_len]; omega) (fun v hv => opsCells_one _ v (List.mem_of_mem_drop hv)) (by omega) (by omega) (by omega) (fun A7 c7 h7 => ?_)
                  refine wl_free .none rfl (yf_fieldAddr (off := 2) (sz := 0) rfl Tryd.underlying28 (by kernel_rfl) rfl) ?_
                  refine wl_chain0 .none (cf_store 2 rfl rfl rfl rfl rfl (by kernel_rfl)) (fun _ => ?_)
                  refine wl_nil ?_
                  refine wq_block ?_
                  refine wq_then ?_
                  refine wc_seq ?_
                  refine wc_weak (.cons (i := 0) rfl <| .cons (i := 1) rfl <| .cons (i := 2) rfl <| .cons (i := 3) rfl <| .cons (i := 4) rfl <| .cons (i := 5) rfl <| .cons (i := 6) rfl <| .cons (i := 7) rfl <| .cons (i := 9) rfl <| .cons (i := 10) rfl <| .cons (i := 18) rfl <| .cons (i := 34) rfl <| .cons (i := 45) rfl <| .cons (i := 54) rfl <| .cons (i := 64) rfl <| .cons (i := 74) rfl <| .cons (i := 84) rfl <| .cons (i := 102) rfl <| .cons (i := 116) rfl <| .nil) ?_
                  refine wc_region ?_
                  refine wl_free .none rfl (yf_loadAllL 2 rfl rfl Tryd.underlying28 rfl (by kernel_rfl)) ?_
                  refine wl_chain0 .none (cf_storeRow 3 rfl rfl rfl rfl rfl (by kernel_rfl)) (fun _ => ?_)
                  refine wl_nil ?_
                  refine wq_then ?_
                  refine wc_ret ?_
                  refine wq_retC rfl rfl 3 rfl Tryd.underlying28 rfl (by kernel_rfl) (fun w hw => ?_)
                  exact turn_endP (br_end (Hp.perm hw (.swap _ _ _)) ⟨b.at_, b.pages, b.ops.take ix ++ [b.ops.getD ix noOp] ++ b.ops.drop ix⟩ (.cons_cons _ (.cons_cons _ (.cons _ (.refl _)))) rfl rfl (by simp; omega) rfl rfl (by simp only [opsCells_take, opsCells_drop, opsCells_app, List.nil_append]; rfl) rfl uA (fun o ho => by
                    rcases List.mem_append.1 ho with ho | ho
                    · rcases List.mem_append.1 ho with ho | ho
                      · exact uO o (List.mem_of_mem_take ho)
                      · have : o = b.ops.getD ix noOp := by simpa using ho
                        rw [this]; exact uO _ (opD_mem hi0)
                    · exact uO o (List.mem_of_mem_drop ho)) hA h7 hP (by omega) (by omega) (by omega)) hpg
                · replace hc := beq_no hc
                  refine wc_seq ?_
                  refine wc_weak (.cons (i := 0) rfl <| .cons (i := 1) rfl <| .cons (i := 2) rfl <| .cons (i := 3) rfl <| .cons (i := 4) rfl <| .cons (i := 5) rfl <| .cons (i := 6) rfl <| .cons (i := 7) rfl <| .cons (i := 18) rfl <| .cons (i := 34) rfl <| .cons (i := 45) rfl <| .cons (i := 54) rfl <| .cons (i := 64) rfl <| .cons (i := 74) rfl <| .cons (i := 84) rfl <| .cons (i := 102) rfl <| .cons (i := 116) rfl <| .nil) ?_
                  refine wc_region ?_
                  refine wl_free .none rfl (yf_eql rfl rfl) ?_
                  refine wl_free .none rfl (yf_assign rfl) ?_
                  refine wl_nil ?_
                  refine wq_then ?_
                  refine wc_cond rfl (fun hc => ?_) (fun hc => ?_)
                  · replace hc := eq_of_beq hc
                    refine wc_seq ?_
                    refine wc_weak (.cons (i := 0) rfl <| .cons (i := 1) rfl <| .cons (i := 2) rfl <| .cons (i := 3) rfl <| .cons (i := 4) rfl <| .cons (i := 5) rfl <| .cons (i := 6) rfl <| .cons (i := 7) rfl <| .cons (i := 18) rfl <| .cons (i := 34) rfl <| .cons (i := 45) rfl <| .cons (i := 54) rfl <| .cons (i := 64) rfl <| .cons (i := 74) rfl <| .cons (i := 84) rfl <| .cons (i := 102) rfl <| .cons (i := 116) rfl <| .cons (i := 140) rfl <| .nil) ?_
                    refine wc_region ?_
                    refine wl_free .none rfl (yf_move rfl) ?_
                    refine wl_free .none rfl (yf_fieldAddr (off := 2) (sz := 0) rfl Tryd.underlying28 (by kernel_rfl) rfl) ?_
                    refine wl_free .none rfl (yf_loadL 0 rfl rfl rfl Tryd.underlying26 rfl) ?_
                    refine wl_free .none rfl (yf_lenS rfl Tryd.underlying26) ?_
                    (refine wl_free .none rfl (yf_rem rfl rfl ?_ hkx) ?_; (· first | decide | omega); skip)
                    refine wl_free .none rfl (yf_assign rfl) ?_
                    refine wl_nil ?_
                    refine wq_then ?_
                    refine wc_seq ?_
                    refine wc_weak (.cons (i := 0) rfl <| .cons (i := 1) rfl <| .cons (i := 2) rfl <| .cons (i := 3) rfl <| .cons (i := 4) rfl <| .cons (i := 5) rfl <| .cons (i := 6) rfl <| .cons (i := 7) rfl <| .cons (i := 11) rfl <| .cons (i := 18) rfl <| .cons (i := 34) rfl <| .cons (i := 45) rfl <| .cons (i := 54) rfl <| .cons (i := 64) rfl <| .cons (i := 74) rfl <| .cons (i := 84) rfl <| .cons (i := 102) rfl <| .cons (i := 116) rfl <| .cons (i := 140) rfl <| .nil) ?_
                    refine wc_region ?_
                    refine wl_free .none rfl (yf_fieldAddr (off := 2) (sz := 0) rfl Tryd.underlying28 (by kernel_rfl) rfl) ?_
                    refine wl_free .none rfl (yf_loadL 0 rfl rfl rfl Tryd.underlying26 rfl) ?_
                    refine wl_free .none rfl (yf_move rfl) ?_
                    (refine wl_free .none rfl (yf_indexAddrS (es := 5) rfl rfl Tryd.underlying26 (by kernel_rfl) rfl ?_ rfl) ?_; (· first | decide | omega | (simp; omega)); skip)
                    refine wl_free .none rfl (yf_loadRR (seg := opC (b.ops.getD ix noOp)) 1 rfl rfl (ops_row hi0) Tryd.underlying53 rfl (by kernel_rfl)) ?_
                    refine wl_new .none rfl (nf_alloc (z := .agg #[.int .i64 0, .int .i64 0, .int .i64 0, .int .i64 0, .int .u32 0]) (cs := [.int .i64 0, .int .i64 0, .int .i64 0, .int .i64 0, .int .u32 0]) (by kernel_rfl) rfl) (fun b12 => ?_)
                    refine wl_chain0 .none (cf_storeRow 0 rfl rfl rfl rfl rfl (by kernel_rfl)) (fun _ => ?_)
                    refine wl_nil ?_
                    refine wq_then ?_
                    refine wc_seq ?_
                    refine wc_weak (.cons (i := 0) rfl <| .cons (i := 1) rfl <| .cons (i := 2) rfl <| .cons (i := 3) rfl <| .cons (i := 4) rfl <| .cons (i := 5) rfl <| .cons (i := 6) rfl <| .cons (i := 7) rfl <| .cons (i := 11) rfl <| .cons (i := 12) rfl <| .cons (i := 18) rfl <| .cons (i := 34) rfl <| .cons (i := 45) rfl <| .cons (i := 54) rfl <| .cons (i := 64) rfl <| .cons (i := 74) rfl <| .cons (i := 84) rfl <| .cons (i := 102) rfl <| .cons (i := 116) rfl <| .cons (i := 140) rfl <| .nil) ?_
                    refine wc_still 8 (by kernel_rfl) (by kernel_rfl) (fun _ h => HpG.drew h) ?_
                    refine wt_free .none rfl (yf_fieldAddr (off := 2) (sz := 0) rfl Tryd.underlying28 (by kernel_rfl) rfl) ?_
                    refine wt_free .none rfl (yf_loadL 1 rfl rfl rfl Tryd.underlying26 rfl) ?_
                    refine wt_free .none rfl (yf_move rfl) ?_
                    refine wt_free .none rfl (yf_fieldAddr (off := 2) (sz := 0) rfl Tryd.underlying28 (by kernel_rfl) rfl) ?_
                    refine wt_free .none rfl (yf_loadL 1 rfl rfl rfl Tryd.underlying26 rfl) ?_
                    refine wt_free .none rfl (yf_move rfl) ?_
                    (refine wt_free .none rfl (yf_indexAddrS (es := 5) rfl rfl Tryd.underlying26 (by kernel_rfl) rfl ?_ rfl) ?_; (· first | decide | omega | (simp; omega)); skip)
                    refine wt_free .none rfl (yf_loadRR (seg := opC (b.ops.getD kx noOp)) 1 rfl rfl (ops_row hk0) Tryd.underlying53 rfl (by kernel_rfl)) ?_
                    refine wt_tail ?_
                    (refine wl_free .none rfl (yf_indexAddrS (es := 5) rfl rfl Tryd.underlying26 (by kernel_rfl) rfl ?_ rfl) ?_; (· first | decide | omega | (simp; omega)); skip)
                    refine wl_chain0 .none (cf_storeRR (seg := opC (b.ops.getD kx noOp)) 1 rfl rfl rfl (opC_one _) (by rw [opsCells_len]; show 0 + ix * 5 + 5 ≤ _; omega) (by kernel_rfl)) (fun _ => ?_)
                    refine wl_nil ?_
                    refine wq_then ?_
                    refine wc_weak (.cons (i := 0) rfl <| .cons (i := 1) rfl <| .cons (i := 2) rfl <| .cons (i := 3) rfl <| .cons (i := 4) rfl <| .cons (i := 5) rfl <| .cons (i := 6) rfl <| .cons (i := 7) rfl <| .cons (i := 11) rfl <| .cons (i := 12) rfl <| .cons (i := 18) rfl <| .cons (i := 34) rfl <| .cons (i := 45) rfl <| .cons (i := 54) rfl <| .cons (i := 64) rfl <| .cons (i := 74) rfl <| .cons (i := 84) rfl <| .cons (i := 102) rfl <| .cons (i := 116) rfl <| .cons (i := 140) rfl <| .nil) ?_
                    refine wc_region ?_
                    refine wl_free .none rfl (yf_fieldAddr (off := 2) (sz := 0) rfl Tryd.underlying28 (by kernel_rfl) rfl) ?_
                    refine wl_free .none rfl (yf_loadL 1 rfl rfl rfl Tryd.underlying26 rfl) ?_
                    refine wl_free .none rfl (yf_move rfl) ?_
                    refine wl_free .none rfl (yf_loadAllL 0 rfl rfl Tryd.underlying53 rfl (by kernel_rfl)) ?_
                    (refine wl_free .none rfl (yf_indexAddrS (es := 5) rfl rfl Tryd.underlying26 (by kernel_rfl) rfl ?_ rfl) ?_; (· first | decide | omega | (simp; omega)); skip)
                    refine wl_chain0 .none (cf_storeRR (seg := opC (b.ops.getD ix noOp)) 1 rfl rfl rfl (opC_one _) (by simp only [List.length_append, List.length_take, List.length_drop, opsCells_len, List.length_cons, List.length_nil]; omega) (by kernel_rfl)) (fun _ => ?_)
                    refine wl_nil ?_
                    refine wq_block ?_
                    refine wq_then ?_
                    refine wc_seq ?_
                    refine wc_weak (.cons (i := 0) rfl <| .cons (i := 1) rfl <| .cons (i := 2) rfl <| .cons (i := 3) rfl <| .cons (i := 4) rfl <| .cons (i := 5) rfl <| .cons (i := 6) rfl <| .cons (i := 7) rfl <| .cons (i := 11) rfl <| .cons (i := 12) rfl <| .cons (i := 18) rfl <| .cons (i := 34) rfl <| .cons (i := 45) rfl <| .cons (i := 54) rfl <| .cons (i := 64) rfl <| .cons (i := 74) rfl <| .cons (i := 84) rfl <| .cons (i := 102) rfl <| .cons (i := 116) rfl <| .cons (i := 140) rfl <| .nil) ?_
                    refine wc_region ?_
                    refine wl_free .none rfl (yf_loadAllL 1 rfl rfl Tryd.underlying28 rfl (by kernel_rfl)) ?_
                    refine wl_chain0 .none (cf_storeRow 2 rfl rfl rfl rfl rfl (by kernel_rfl)) (fun _ => ?_)
                    refine wl_nil ?_
                    refine wq_then ?_
                    refine wc_ret ?_
                    refine wq_retC rfl rfl 2 rfl Tryd.underlying28 rfl (by kernel_rfl) (fun w hw => ?_)
                    exact turn_endP (br_end hw ⟨b.at_, b.pages, (b.ops.set ix (b.ops.getD kx noOp)).set kx (b.ops.getD ix noOp)⟩ (.refl _) rfl rfl (by simp) rfl rfl (by
                      show (List.take (0 + kx * 5) (List.take (0 + ix * 5) (opsCells b.ops) ++ opC (b.ops.getD kx noOp) ++ List.drop (0 + ix * 5 + 5) (opsCells b.ops)) ++ opC (b.ops.getD ix noOp) ++ List.drop (0 + kx * 5 + 5) (List.take (0 + ix * 5) (opsCells b.ops) ++ opC (b.ops.getD kx noOp) ++ List.drop (0 + ix * 5 + 5) (opsCells b.ops))) = _
                      rw [opsCells_put _ hi0, opsCells_put _ (by simpa using hk0)]) rfl uA (set_all (set_all uO (uO _ (opD_mem hk0))) (uO _ (opD_mem hi0))) hA hO hP (by omega) (by omega) (by omega)) hpg
                  · replace hc := beq_no hc
                    refine wc_seq ?_
                    refine wc_weak (.cons (i := 0) rfl <| .cons (i := 1) rfl <| .cons (i := 2) rfl <| .cons (i := 3) rfl <| .cons (i := 4) rfl <| .cons (i := 5) rfl <| .cons (i := 6) rfl <| .cons (i := 7) rfl <| .cons (i := 18) rfl <| .cons (i := 34) rfl <| .cons (i := 45) rfl <| .cons (i := 54) rfl <| .cons (i := 64) rfl <| .cons (i := 74) rfl <| .cons (i := 84) rfl <| .cons (i := 102) rfl <| .cons (i := 116) rfl <| .cons (i := 140) rfl <| .nil) ?_
                    refine wc_region ?_
                    refine wl_free .none rfl (yf_eql rfl rfl) ?_
                    refine wl_free .none rfl (yf_assign rfl) ?_
                    refine wl_nil ?_
                    refine wq_then ?_
                    refine wc_cond rfl (fun hc => ?_) (fun hc => ?_)
                    · replace hc := eq_of_beq hc
                      refine wc_weak (.cons (i := 0) rfl <| .cons (i := 1) rfl <| .cons (i := 2) rfl <| .cons (i := 3) rfl <| .cons (i := 4) rfl <| .cons (i := 5) rfl <| .cons (i := 6) rfl <| .cons (i := 7) rfl <| .cons (i := 18) rfl <| .cons (i := 34) rfl <| .cons (i := 45) rfl <| .cons (i := 54) rfl <| .cons (i := 64) rfl <| .cons (i := 74) rfl <| .cons (i := 84) rfl <| .cons (i := 102) rfl <| .cons (i := 116) rfl <| .cons (i := 140) rfl <| .cons (i := 166) rfl <| .nil) ?_
                      refine wc_region ?_
                      refine wl_free .none rfl (yf_fieldAddr (off := 0) (sz := 0) rfl Tryd.underlying28 (by kernel_rfl) rfl) ?_
                      refine wl_free .none rfl (yf_loadL 0 rfl rfl rfl Tryd.underlying25 rfl) ?_
                      refine wl_free .none rfl (yf_move rfl) ?_
                      (refine wl_free .none rfl (yf_conv rfl (by kernel_rfl) Tryd.underlying35 (u32_in _ ?_ ?_)) ?_; (· omega); (· omega); skip)
                      refine wl_new .none rfl (nf_bs1 (z := .int .u32 0) rfl rfl Tryd.underlying25 (by kernel_rfl) (by kernel_rfl) rfl rfl) (fun b172 => ?_)
                      (refine wl_appendL (z := .int .u32 0) (bytes := 4) 0 0 .none rfl rfl rfl rfl rfl Tryd.underlying25 (by kernel_rfl) rfl rfl rfl rfl ?_ ?_ ?_ (fun a173 c173 h173 => ?_); (· omega); (· omega); (· omega); skip)
                      refine wl_free .none rfl (yf_fieldAddr (off := 0) (sz := 0) rfl Tryd.underlying28 (by kernel_rfl) rfl) ?_
                      refine wl_chain0 .none (cf_store 1 rfl rfl rfl rfl rfl (by kernel_rfl)) (fun _ => ?_)
                      refine wl_nil ?_
                      refine wq_block ?_
                      refine wq_then ?_
                      refine wc_seq ?_
                      refine wc_weak (.cons (i := 0) rfl <| .cons (i := 1) rfl <| .cons (i := 2) rfl <| .cons (i := 3) rfl <| .cons (i := 4) rfl <| .cons (i := 5) rfl <| .cons (i := 6) rfl <| .cons (i := 7) rfl <| .cons (i := 18) rfl <| .cons (i := 34) rfl <| .cons (i := 45) rfl <| .cons (i := 54) rfl <| .cons (i := 64) rfl <| .cons (i := 74) rfl <| .cons (i := 84) rfl <| .cons (i := 102) rfl <| .cons (i := 116) rfl <| .cons (i := 140) rfl <| .cons (i := 166) rfl <| .nil) ?_
                      refine wc_region ?_
                      refine wl_free .none rfl (yf_loadAllL 1 rfl rfl Tryd.underlying28 rfl (by kernel_rfl)) ?_
                      refine wl_chain0 .none (cf_storeRow 2 rfl rfl rfl rfl rfl (by kernel_rfl)) (fun _ => ?_)
                      refine wl_nil ?_
                      refine wq_then ?_
                      refine wc_ret ?_
                      refine wq_retC rfl rfl 2 rfl Tryd.underlying28 rfl (by kernel_rfl) (fun w hw => ?_)
                      exact turn_endP (br_end hw ⟨b.at_ ++ [n], b.pages, b.ops⟩ (.refl _) rfl (by simp) rfl rfl (by simp) rfl rfl (mem_snoc uA ⟨by omega, by omega⟩) uO h173 hO hP (by omega) (by omega) (by omega)) hpg
                    · replace hc := beq_no hc
                      refine wc_seq ?_
                      refine wc_weak (.cons (i := 0) rfl <| .cons (i := 1) rfl <| .cons (i := 2) rfl <| .cons (i := 3) rfl <| .cons (i := 4) rfl <| .cons (i := 5) rfl <| .cons (i := 6) rfl <| .cons (i := 7) rfl <| .cons (i := 18) rfl <| .cons (i := 34) rfl <| .cons (i := 45) rfl <| .cons (i := 54) rfl <| .cons (i := 64) rfl <| .cons (i := 74) rfl <| .cons (i := 84) rfl <| .cons (i := 102) rfl <| .cons (i := 116) rfl <| .cons (i := 140) rfl <| .cons (i := 166) rfl <| .nil) ?_
                      refine wc_region ?_
                      refine wl_free .none rfl (yf_eql rfl rfl) ?_
                      refine wl_free .none rfl (yf_assign rfl) ?_
                      refine wl_nil ?_
                      refine wq_then ?_
                      refine wc_cond rfl (fun hc => ?_) (fun hc => ?_)
                      · replace hc := eq_of_beq hc
                        refine wc_weak (.cons (i := 0) rfl <| .cons (i := 1) rfl <| .cons (i := 2) rfl <| .cons (i := 3) rfl <| .cons (i := 4) rfl <| .cons (i := 5) rfl <| .cons (i := 6) rfl <| .cons (i := 7) rfl <| .cons (i := 18) rfl <| .cons (i := 34) rfl <| .cons (i := 45) rfl <| .cons (i := 54) rfl <| .cons (i := 64) rfl <| .cons (i := 74) rfl <| .cons (i := 84) rfl <| .cons (i := 102) rfl <| .cons (i := 116) rfl <| .cons (i := 140) rfl <| .cons (i := 166) rfl <| .cons (i := 175) rfl <| .nil) ?_
                        refine wc_region ?_
                        refine wl_free .none rfl (yf_fieldAddr (off := 1) (sz := 0) rfl Tryd.underlying28 (by kernel_rfl) rfl) ?_
                        refine wl_free .none rfl (yf_loadL 0 rfl rfl rfl Tryd.underlying22 rfl) ?_
                        refine wl_free .none rfl (yf_move rfl) ?_
                        (refine wl_free .none rfl (yf_rem rfl rfl ?_ rfl) ?_; (· first | decide | omega); skip)
                        (refine wl_free .none rfl (yf_sub rfl rfl (i64_in _ ?_ ?_)) ?_; (· omega); (· omega); skip)
                        refine wl_new .none rfl (nf_bs1 (z := .int .i64 0) rfl rfl Tryd.underlying22 (by kernel_rfl) (by kernel_rfl) rfl rfl) (fun b182 => ?_)
                        (refine wl_appendL (z := .int .i64 0) (bytes := 8) 2 0 .none rfl rfl rfl rfl rfl Tryd.underlying22 (by kernel_rfl) rfl rfl rfl rfl ?_ ?_ ?_ (fun a183 c183 h183 => ?_); (· omega); (· omega); (· omega); skip)
                        refine wl_free .none rfl (yf_fieldAddr (off := 1) (sz := 0) rfl Tryd.underlying28 (by kernel_rfl) rfl) ?_
                        refine wl_chain0 .none (cf_store 1 rfl rfl rfl rfl rfl (by kernel_rfl)) (fun _ => ?_)
                        refine wl_nil ?_
                        refine wq_block ?_
                        refine wq_then ?_
                        refine wc_seq ?_
                        refine wc_weak (.cons (i := 0) rfl <| .cons (i := 1) rfl <| .cons (i := 2) rfl <| .cons (i := 3) rfl <| .cons (i := 4) rfl <| .cons (i := 5) rfl <| .cons (i := 6) rfl <| .cons (i := 7) rfl <| .cons (i := 18) rfl <| .cons (i := 34) rfl <| .cons (i := 45) rfl <| .cons (i := 54) rfl <| .cons (i := 64) rfl <| .cons (i := 74) rfl <| .cons (i := 84) rfl <| .cons (i := 102) rfl <| .cons (i := 116) rfl <| .cons (i := 140) rfl <| .cons (i := 166) rfl <| .cons (i := 175) rfl <| .nil) ?_
                        refine wc_region ?_
                        refine wl_free .none rfl (yf_loadAllL 1 rfl rfl Tryd.underlying28 rfl (by kernel_rfl)) ?_
                        refine wl_chain0 .none (cf_storeRow 2 rfl rfl rfl rfl rfl (by kernel_rfl)) (fun _ => ?_)
                        refine wl_nil ?_
                        refine wq_then ?_
                        refine wc_ret ?_
                        refine wq_retC rfl rfl 2 rfl Tryd.underlying28 rfl (by kernel_rfl) (fun w hw => ?_)
                        exact turn_endP (br_end hw ⟨b.at_, b.pages ++ [n.tmod 5000 - 400], b.ops⟩ (.refl _) rfl rfl rfl (by simp) rfl rfl (by simp) uA uO hA hO h183 (by omega) (by omega) (by omega)) (fun p hp => by
                          rcases List.mem_append.1 hp with hp | hp
                          · exact hpg p hp
                          · have := List.mem_singleton.1 hp
                            exact .inr (by omega))
                      · replace hc := beq_no hc
                        refine wc_weak (.cons (i := 0) rfl <| .cons (i := 1) rfl <| .cons (i := 2) rfl <| .cons (i := 3) rfl <| .cons (i := 4) rfl <| .cons (i := 5) rfl <| .cons (i := 6) rfl <| .cons (i := 7) rfl <| .cons (i := 18) rfl <| .cons (i := 34) rfl <| .cons (i := 45) rfl <| .cons (i := 54) rfl <| .cons (i := 64) rfl <| .cons (i := 74) rfl <| .cons (i := 84) rfl <| .cons (i := 102) rfl <| .cons (i := 116) rfl <| .cons (i := 140) rfl <| .cons (i := 166) rfl <| .cons (i := 175) rfl <| .nil) ?_
                        refine wc_still 9 (by kernel_rfl) (by kernel_rfl) (fun _ h => HpG.drew h) ?_
                        refine wt_free .none rfl (yf_fieldAddr (off := 0) (sz := 0) rfl Tryd.underlying28 (by kernel_rfl) rfl) ?_
                        refine wt_free .none rfl (yf_loadL 0 rfl rfl rfl Tryd.underlying25 rfl) ?_
                        refine wt_free .none rfl (yf_move rfl) ?_
                        refine wt_free .none rfl (yf_fieldAddr (off := 0) (sz := 0) rfl Tryd.underlying28 (by kernel_rfl) rfl) ?_
                        refine wt_free .none rfl (yf_loadL 0 rfl rfl rfl Tryd.underlying25 rfl) ?_
                        refine wt_free .none rfl (yf_lenS rfl Tryd.underlying25) ?_
                        (refine wt_free .none rfl (yf_add rfl rfl (i64_in _ ?_ ?_)) ?_; (· omega); (· omega); skip)
                        (refine wt_free .none rfl (yf_rem rfl rfl ?_ hz) ?_; (· first | decide | omega); skip)
                        (refine wt_free .none rfl (yf_sliceHi (size := 1) rfl rfl Tryd.underlying25 (by kernel_rfl) rfl ?_) ?_; (· omega); skip)
                        refine wt_tail ?_
                        refine wl_free .none rfl (yf_fieldAddr (off := 0) (sz := 0) rfl Tryd.underlying28 (by kernel_rfl) rfl) ?_
                        refine wl_chain0 .none (cf_store 0 rfl rfl rfl rfl rfl (by kernel_rfl)) (fun _ => ?_)
                        refine wl_conseq (fun w h => Hp.trunc h (k := 0) (i := z) rfl (by omega)) ?_
                        refine wl_nil ?_
                        refine wq_block ?_
                        refine wq_then ?_
                        refine wc_seq ?_
                        refine wc_weak (.cons (i := 0) rfl <| .cons (i := 1) rfl <| .cons (i := 2) rfl <| .cons (i := 3) rfl <| .cons (i := 4) rfl <| .cons (i := 5) rfl <| .cons (i := 6) rfl <| .cons (i := 7) rfl <| .cons (i := 18) rfl <| .cons (i := 34) rfl <| .cons (i := 45) rfl <| .cons (i := 54) rfl <| .cons (i := 64) rfl <| .cons (i := 74) rfl <| .cons (i := 84) rfl <| .cons (i := 102) rfl <| .cons (i := 116) rfl <| .cons (i := 140) rfl <| .cons (i := 166) rfl <| .cons (i := 175) rfl <| .nil) ?_
                        refine wc_region ?_
                        refine wl_free .none rfl (yf_loadAllL 0 rfl rfl Tryd.underlying28 rfl (by kernel_rfl)) ?_
                        refine wl_chain0 .none (cf_storeRow 1 rfl rfl rfl rfl rfl (by kernel_rfl)) (fun _ => ?_)
                        refine wl_nil ?_
                        refine wq_then ?_
                        refine wc_ret ?_
                        refine wq_retC rfl rfl 1 rfl Tryd.underlying28 rfl (by kernel_rfl) (fun w hw => ?_)
                        exact turn_endP (br_end hw ⟨b.at_.take z, b.pages, b.ops⟩ (.refl _) rfl (by simp; omega) rfl rfl (by simp [List.map_take]) rfl rfl (fun n hn => uA n (List.mem_of_mem_take hn)) uO (by omega) hO hP (by omega) (by omega) (by omega)) hpg
theorem turned_any (q0 q1 q2 : Int) (i : BR) (m : Nat) (w : World) (h : BRd (fun k => w.heap.size ≤ k) i w) (hi : i.OkN m) (hm : m ≤ 1000000) :
    Calls Tryd.prog 7 #[i.v, .agg #[.int .i64 q0, .int .i64 q1, .int .i64 q2]] w fun e w' => ∃ j : BR, j.OkN (m + 1) ∧ e = .returned j.v ∧ Hp (fun _ => False) w [] j.rows (fun _ => True) w' :=
  (turnedP_any q0 q1 q2 i m w h hi hm).mono fun _ _ ⟨j, ⟨h1, _⟩, h2, h3⟩ => ⟨j, h1, h2, h3⟩
end Go.Proofs.YtojofinofpgopaaDoor
