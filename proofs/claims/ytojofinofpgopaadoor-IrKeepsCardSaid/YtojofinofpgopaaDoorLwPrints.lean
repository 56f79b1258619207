/- The law IrPrints. -/
import Derived.Test.YtojofinofpgopaaDoorMgDi
import Derived.Test.YtojofinofpgopaaDoorDSame
import Derived.Test.YtojofinofpgopaaDoorMgDp
import Derived.Test.YtojofinofpgopaaDoorMgT
import Derived.Test.YtojofinofpgopaaDoorLwMd
import Derived.Test.YtojofinofpgopaaDoorTurn
namespace Go.Proofs.YtojofinofpgopaaDoor
open Go.RowKit
theorem yf_strs_eqlC {P : Program} {n : Nat} {m : List (Nat × Value)} {ty : TypeId} {H : World → Prop} {x y : Operand} {t t' : TypeId} {a b : List UInt8} {c : Bool} (hx : ev m x = some (.string ⟨a.toArray⟩)) (hy : ev m y = some (.string ⟨b.toArray⟩)) (ht : P.underlying t = some .string) (hc : decide (a = b) = c) : YF P (.binOp .eql t x y t') ty n m H (.bool c) := hc ▸ yf_strs_eql hx hy ht
theorem yf_bool_eqlC {P : Program} {n : Nat} {m : List (Nat × Value)} {ty : TypeId} {H : World → Prop} {x y : Operand} {t t' : TypeId} {a b c : Bool} (hx : ev m x = some (.bool a)) (hy : ev m y = some (.bool b)) (ht : P.underlying t = some .bool) (hc : (a == b) = c) : YF P (.binOp .eql t x y t') ty n m H (.bool c) := hc ▸ yf_bool_eql hx hy ht
theorem pgOk_valid {b : IBlk} (h : validL b = true) : PgOk b := fun p hp => by have := valid_pages h p hp; omega
theorem pgOk_turn {b c : IBlk} (h : PgOk b) (ht : PgT b c) : PgOk c := fun p hp => by
  rcases ht p hp with h1 | h1
  · exact h p h1
  · omega
theorem prints_law {b c : IBlk} (hb : validL b = true) (hc : validL c = true) (uA : ∀ v ∈ b.at_, U32 v) (uO : ∀ o ∈ b.ops, U32 o.n) (vA : ∀ v ∈ c.at_, U32 v) (vO : ∀ o ∈ c.ops, U32 o.n) : (decide (printL b = printL c) == sameD b c) = true := by
  rw [beq_iff_eq, sameD, Bool.eq_iff_iff, decide_eq_true_iff, decide_eq_true_iff]
  constructor
  · exact print_inj hb hc uA uO vA vO
  · rintro ⟨h1, h2, h3⟩
    unfold printL
    rw [h1, h2, h3]
theorem BR.OkN.up {m m' : Nat} {i : BR} (h : i.OkN m) (hm : m ≤ m') : i.OkN m' := ⟨h.uA, h.uO, Nat.le_trans h.lA hm, Nat.le_trans h.lP hm, Nat.le_trans h.lO hm, h.hA, h.hP, h.hO⟩
set_option maxRecDepth 100000 in
set_option maxHeartbeats 4000000 in
theorem irPrints_any (A : Option Addr) (cap : Nat) (s : List Int) (q0 q1 q2 r0 r1 r2 : Int) (w : World) (hA : RdIn (fun k => w.heap.size ≤ k) A (i64s s) w) (hl : s.length ≤ maxLen) (hc : s.length ≤ cap) (hT : Tb w) :
    Calls Tryd.prog 3 #[.slice A s.length cap, .agg #[.int .i64 q0, .int .i64 q1, .int .i64 q2], .agg #[.int .i64 r0, .int .i64 r1, .int .i64 r2]] w fun e w' => e = .returned (.bool true) ∧ Below w.heap.size w w' := by
  have hm : 200000 ≤ maxLen := by unfold maxLen; omega
  obtain ⟨z, hz, hz0⟩ := min_nat s.length
  have hX : ∃ F : Nat → Prop, (∀ k, F k → k < w.heap.size ∧ ¬ False) ∧ Foot F (RdIn (fun k => w.heap.size ≤ k) A (i64s s)) w := by
    obtain ⟨F, h2, h3⟩ := hA.foot'
    exact ⟨F, fun k hk => ⟨(h2 k hk).1, id⟩, h3⟩
  refine calls_wc (args := [.slice A s.length cap, .agg #[.int .i64 q0, .int .i64 q1, .int .i64 q2], .agg #[.int .i64 r0, .int .i64 r1, .int .i64 r2]]) Tryd.func3 rfl 66 rfl (Nat.le_of_ble_eq_true rfl) ?_
  refine wc_weak (.cons (i := 0) rfl <| .cons (i := 1) rfl <| .cons (i := 2) rfl <| .nil) ?_
  refine wc_conseq (H' := Hp (fun _ => False) w [] [] (RdIn (fun k => w.heap.size ≤ k) A (i64s s))) (fun u hu => ?_) ?_
  · subst hu; exact Hp.start hX
  refine wc_seq ?_
  refine wc_region ?_
  refine wl_new .none rfl (nf_box rfl rfl) (fun b4 => ?_)
  refine wl_new .none rfl (nf_box rfl rfl) (fun b5 => ?_)
  refine wl_free .none rfl (yf_assign rfl) ?_
  refine wl_nil ?_
  refine wq_then ?_
  refine wc_seq ?_
  refine wc_region ?_
  refine wl_pure .none rfl (by kernel_rfl) rfl (fun w hw => sanity_any w) ?_
  refine wl_free .none rfl (yf_assign rfl) ?_
  refine wl_nil ?_
  refine wq_then ?_
  refine wc_seq ?_
  refine wc_weak (.cons (i := 0) rfl <| .cons (i := 1) rfl <| .cons (i := 2) rfl <| .cons (i := 4) rfl <| .cons (i := 5) rfl <| .cons (i := 6) rfl <| .cons (i := 7) rfl <| .nil) ?_
  refine wc_region ?_
  refine wl_free .none rfl (yf_move rfl) ?_
  refine wl_free .none rfl (yf_move rfl) ?_
  refine wl_free .none rfl (yf_lenS rfl Tryd.underlying22) ?_
  refine wl_free .none rfl (yf_min rfl rfl) ?_
  (refine wl_free .none rfl (yf_sliceHi (size := 1) rfl rfl Tryd.underlying22 (by kernel_rfl) hz ?_) ?_; (· omega); skip)
  refine wl_callR .none rfl (by kernel_rfl) rfl (fun w hw => made_call (HpG.x hw) z hz0 hl) (fun i hi => ?_)
  obtain ⟨hi, hv⟩ := hi
  have pi := pgOk_valid hv
  have hi2 := hi.n.up (show 100000 ≤ 200000 by decide)
  refine wl_new .none rfl (nf_alloc (z := .agg #[.slice none 0 0, .slice none 0 0, .slice none 0 0]) (cs := [.slice none 0 0, .slice none 0 0, .slice none 0 0]) (by kernel_rfl) rfl) (fun b8 => ?_)
  refine wl_chain0 .none (cf_storeRow 0 rfl rfl rfl rfl rfl (by kernel_rfl)) (fun _ => ?_)
  refine wl_nil ?_
  refine wq_then ?_
  refine wc_seq ?_
  refine wc_weak (.cons (i := 0) rfl <| .cons (i := 1) rfl <| .cons (i := 2) rfl <| .cons (i := 4) rfl <| .cons (i := 5) rfl <| .cons (i := 6) rfl <| .cons (i := 7) rfl <| .cons (i := 8) rfl <| .nil) ?_
  refine wc_region ?_
  refine wl_free .none rfl (yf_loadAllL 0 rfl rfl Tryd.underlying28 rfl (by kernel_rfl)) ?_
  refine wl_free .none rfl (yf_loadAllL 2 rfl rfl Tryd.underlying23 rfl (by kernel_rfl)) ?_
  refine wl_callR .none rfl (by kernel_rfl) rfl (fun w hw => turnedP_any q0 q1 q2 i 100000 w (BRd.of hw fun r hr => List.mem_append_left _ hr) hi.n (by decide)) (fun j hj => ?_)
  obtain ⟨hj, hjp⟩ := hj
  have pj := pgOk_turn pi hjp
  have hj2 := hj.up (show 100000 + 1 ≤ 200000 by decide)
  refine wl_new .none rfl (nf_alloc (z := .agg #[.slice none 0 0, .slice none 0 0, .slice none 0 0]) (cs := [.slice none 0 0, .slice none 0 0, .slice none 0 0]) (by kernel_rfl) rfl) (fun b9 => ?_)
  refine wl_chain0 .none (cf_storeRow 0 rfl rfl rfl rfl rfl (by kernel_rfl)) (fun _ => ?_)
  refine wl_nil ?_
  refine wq_then ?_
  refine wc_seq ?_
  refine wc_weak (.cons (i := 0) rfl <| .cons (i := 1) rfl <| .cons (i := 2) rfl <| .cons (i := 4) rfl <| .cons (i := 5) rfl <| .cons (i := 6) rfl <| .cons (i := 7) rfl <| .cons (i := 8) rfl <| .cons (i := 9) rfl <| .nil) ?_
  refine wc_region ?_
  refine wl_free .none rfl (yf_loadAllL 0 rfl rfl Tryd.underlying28 rfl (by kernel_rfl)) ?_
  refine wl_free .none rfl (yf_loadAllL 2 rfl rfl Tryd.underlying23 rfl (by kernel_rfl)) ?_
  refine wl_callR .none rfl (by kernel_rfl) rfl (fun w hw => turnedP_any r0 r1 r2 j 100001 w (BRd.of hw fun r hr => List.mem_append_left _ hr) hj (by decide)) (fun k hk => ?_)
  obtain ⟨hk, hkp⟩ := hk
  have pk := pgOk_turn pj hkp
  have hk2 := hk.up (show 100001 + 1 ≤ 200000 by decide)
  refine wl_new .none rfl (nf_alloc (z := .agg #[.slice none 0 0, .slice none 0 0, .slice none 0 0]) (cs := [.slice none 0 0, .slice none 0 0, .slice none 0 0]) (by kernel_rfl) rfl) (fun b10 => ?_)
  refine wl_chain0 .none (cf_storeRow 0 rfl rfl rfl rfl rfl (by kernel_rfl)) (fun _ => ?_)
  refine wl_nil ?_
  refine wq_then ?_
  refine wc_seq ?_
  refine wc_weak (.cons (i := 0) rfl <| .cons (i := 1) rfl <| .cons (i := 2) rfl <| .cons (i := 4) rfl <| .cons (i := 5) rfl <| .cons (i := 6) rfl <| .cons (i := 7) rfl <| .cons (i := 8) rfl <| .cons (i := 9) rfl <| .cons (i := 10) rfl <| .nil) ?_
  refine wc_region ?_
  refine wl_free .none rfl (yf_loadAllL 2 rfl rfl Tryd.underlying28 rfl (by kernel_rfl)) ?_
  refine wl_pure .none rfl (by kernel_rfl) rfl (fun w hw => print_any i w (BRd.of hw fun r hr => List.mem_append_right _ (List.mem_append_right _ (List.mem_append_left _ hr))) hi2 pi (hT.ext (HpG.keep hw).ext)) ?_
  refine wl_free .none rfl (yf_assign rfl) ?_
  refine wl_nil ?_
  refine wq_then ?_
  refine wc_seq ?_
  refine wc_weak (.cons (i := 0) rfl <| .cons (i := 1) rfl <| .cons (i := 2) rfl <| .cons (i := 4) rfl <| .cons (i := 5) rfl <| .cons (i := 6) rfl <| .cons (i := 7) rfl <| .cons (i := 8) rfl <| .cons (i := 9) rfl <| .cons (i := 10) rfl <| .cons (i := 11) rfl <| .nil) ?_
  refine wc_region ?_
  refine wl_free .none rfl (yf_loadAllL 1 rfl rfl Tryd.underlying28 rfl (by kernel_rfl)) ?_
  refine wl_pure .none rfl (by kernel_rfl) rfl (fun w hw => print_any j w (BRd.of hw fun r hr => List.mem_append_right _ (List.mem_append_left _ hr)) hj2 pj (hT.ext (HpG.keep hw).ext)) ?_
  refine wl_free .none rfl (yf_assign rfl) ?_
  refine wl_nil ?_
  refine wq_then ?_
  refine wc_seq ?_
  refine wc_weak (.cons (i := 0) rfl <| .cons (i := 1) rfl <| .cons (i := 2) rfl <| .cons (i := 4) rfl <| .cons (i := 5) rfl <| .cons (i := 6) rfl <| .cons (i := 7) rfl <| .cons (i := 8) rfl <| .cons (i := 9) rfl <| .cons (i := 10) rfl <| .cons (i := 11) rfl <| .cons (i := 12) rfl <| .nil) ?_
  refine wc_region ?_
  refine wl_free .none rfl (yf_loadAllL 1 rfl rfl Tryd.underlying28 rfl (by kernel_rfl)) ?_
  refine wl_pure .none rfl (by kernel_rfl) rfl (fun w hw => valid_call (BRd.of hw fun r hr => List.mem_append_right _ (List.mem_append_left _ hr)) hj (by omega)) ?_
  refine wl_free .none rfl (yf_not rfl) ?_
  refine wl_free .none rfl (yf_move rfl) ?_
  refine wl_split 34 rfl (fun hb => ?_) (fun hb => ?_)
  · skip
    refine wl_pass (.some rfl rfl rfl) rfl ?_
    refine wl_pass (.some rfl rfl rfl) rfl ?_
    refine wl_pass (.some rfl rfl rfl) rfl ?_
    refine wl_pass (.some rfl rfl rfl) rfl ?_
    refine wl_pass (.some rfl rfl rfl) rfl ?_
    refine wl_pass (.some rfl rfl rfl) rfl ?_
    refine wl_pass (.some rfl rfl rfl) rfl ?_
    refine wl_free .none rfl (yf_pickT rfl rfl) ?_
    refine wl_free .none rfl (yf_assign rfl) ?_
    refine wl_nil ?_
    refine wq_then ?_
    refine wc_seq ?_
    refine wc_weak (.cons (i := 0) rfl <| .cons (i := 1) rfl <| .cons (i := 2) rfl <| .cons (i := 4) rfl <| .cons (i := 5) rfl <| .cons (i := 6) rfl <| .cons (i := 7) rfl <| .cons (i := 8) rfl <| .cons (i := 9) rfl <| .cons (i := 10) rfl <| .cons (i := 11) rfl <| .cons (i := 12) rfl <| .cons (i := 13) rfl <| .nil) ?_
    refine wc_drawN [0, 1, 2, 3, 4, 5, 6, 7, 8, 9, 10, 11, 12, 13, 14, 15, 16, 17, 18, 19, 20, 21, 22, 23] (J3 b8 b9 b10 (bk 28 [.slice i.aA i.b.at_.length i.cA, .slice i.aP i.b.pages.length i.cP, .slice i.aO i.b.ops.length i.cO]) (bk 28 [.slice j.aA j.b.at_.length j.cA, .slice j.aP j.b.pages.length j.cP, .slice j.aO j.b.ops.length j.cO]) (bk 28 [.slice k.aA k.b.at_.length k.cA, .slice k.aP k.b.pages.length k.cP, .slice k.aO k.b.ops.length k.cO])) (by kernel_rfl) (by kernel_rfl) J3.stab (fun _ h => ⟨HpG.blk h (k := 2) rfl, HpG.blk h (k := 1) rfl, HpG.blk h (k := 0) rfl⟩) (fun n0 hn0 => ?_)
    refine wd_at rfl ?_
    (refine wd_free ?_ .none rfl (yf_move rfl) ?_; (· rfl);  skip)
    refine wd_at rfl ?_
    (refine wd_free ?_ .none rfl (yf_move rfl) ?_; (· rfl);  skip)
    refine wd_split 44 rfl (fun hb => ?_) (fun hb => ?_)
    · skip
      refine wd_at rfl ?_
      (refine wd_free ?_ (.some rfl rfl) rfl (yf_move rfl) ?_; (· rfl);  skip)
      refine wd_at rfl ?_
      (refine wd_free ?_ .none rfl (yf_pickT rfl rfl) ?_; (· rfl);  skip)
      refine wd_at rfl ?_
      (refine wd_free ?_ .none rfl (yf_move rfl) ?_; (· rfl);  skip)
      refine wd_at rfl ?_
      (refine wd_free ?_ (.some rfl rfl) rfl (yf_move rfl) ?_; (· rfl);  skip)
      refine wd_at rfl ?_
      (refine wd_free ?_ (.some rfl rfl) rfl (yf_conseq (yf_loadRowJ rfl Tryd.underlying28 rfl (by kernel_rfl)) (fun _ h => h.1)) ?_; (· rfl);  skip)
      refine wd_at rfl ?_
      refine wd_pure (.some rfl rfl) rfl (by kernel_rfl) rfl J3.ext (fun w hw => refPrint_any i w (BRd.of hw fun r hr => List.mem_append_right _ (List.mem_append_right _ (List.mem_append_left _ hr))) hi2 pi) ?_
      refine wd_at rfl ?_
      (refine wd_free ?_ (.some rfl rfl) rfl (yf_strs_eqlC rfl rfl Tryd.underlying9 (decide_eq_true rfl)) ?_; (· rfl);  skip)
      refine wd_at rfl ?_
      (refine wd_free ?_ .none rfl (yf_pickT rfl rfl) ?_; (· rfl);  skip)
      refine wd_at rfl ?_
      (refine wd_free ?_ .none rfl (yf_move rfl) ?_; (· rfl);  skip)
      refine wd_split 53 rfl (fun hb => ?_) (fun hb => ?_)
      · skip
        refine wd_at rfl ?_
        (refine wd_free ?_ (.some rfl rfl) rfl (yf_move rfl) ?_; (· rfl);  skip)
        refine wd_at rfl ?_
        (refine wd_free ?_ (.some rfl rfl) rfl (yf_conseq (yf_loadRowJ rfl Tryd.underlying28 rfl (by kernel_rfl)) (fun _ h => h.2.1)) ?_; (· rfl);  skip)
        refine wd_at rfl ?_
        refine wd_pure (.some rfl rfl) rfl (by kernel_rfl) rfl J3.ext (fun w hw => refPrint_any j w (BRd.of hw fun r hr => List.mem_append_right _ (List.mem_append_left _ hr)) hj2 pj) ?_
        refine wd_at rfl ?_
        (refine wd_free ?_ (.some rfl rfl) rfl (yf_strs_eqlC rfl rfl Tryd.underlying9 (decide_eq_true rfl)) ?_; (· rfl);  skip)
        refine wd_at rfl ?_
        (refine wd_free ?_ .none rfl (yf_pickT rfl rfl) ?_; (· rfl);  skip)
        refine wd_at rfl ?_
        (refine wd_free ?_ .none rfl (yf_move rfl) ?_; (· rfl);  skip)
        refine wd_split 59 rfl (fun hb => ?_) (fun hb => ?_)
        · skip
          refine wd_at rfl ?_
          (refine wd_free ?_ (.some rfl rfl) rfl (yf_conseq (yf_loadRowJ rfl Tryd.underlying28 rfl (by kernel_rfl)) (fun _ h => h.2.2)) ?_; (· rfl);  skip)
          refine wd_at rfl ?_
          refine wd_pure (.some rfl rfl) rfl (by kernel_rfl) rfl J3.ext (fun w hw => print_any k w (BRd.of hw fun r hr => List.mem_append_left _ hr) hk2 pk (hT.ext (HpG.keep hw).ext)) ?_
          refine wd_at rfl ?_
          (refine wd_free ?_ (.some rfl rfl) rfl (yf_conseq (yf_loadRowJ rfl Tryd.underlying28 rfl (by kernel_rfl)) (fun _ h => h.2.2)) ?_; (· rfl);  skip)
          refine wd_at rfl ?_
          refine wd_pure (.some rfl rfl) rfl (by kernel_rfl) rfl J3.ext (fun w hw => refPrint_any k w (BRd.of hw fun r hr => List.mem_append_left _ hr) hk2 pk) ?_
          refine wd_at rfl ?_
          (refine wd_free ?_ (.some rfl rfl) rfl (yf_strs_eqlC rfl rfl Tryd.underlying9 (decide_eq_true rfl)) ?_; (· rfl);  skip)
          refine wd_at rfl ?_
          (refine wd_free ?_ .none rfl (yf_pickT rfl rfl) ?_; (· rfl);  skip)
          refine wd_at rfl ?_
          (refine wd_free ?_ .none rfl (yf_assign rfl) ?_; (· rfl);  skip)
          refine wd_endH ?_
          refine wq_then ?_
          refine wc_ret ?_
          refine wq_ret1 rfl rfl (fun w hw => ?_)
          exact ⟨rfl, (HpG.keep hw).ext⟩
        · skip
          cases hb
      · skip
        cases hb
    · skip
      cases hb
  · skip
    have hvj : validL j.b = true := by simpa using hb
    have hlaw := prints_law hv hvj hi.uA hi.uO hj.uA hj.uO
    refine wl_free (.some rfl rfl) rfl (yf_move rfl) ?_
    refine wl_free (.some rfl rfl) rfl (yf_move rfl) ?_
    refine wl_free (.some rfl rfl) rfl (yf_strs_eql rfl rfl Tryd.underlying9) ?_
    refine wl_free (.some rfl rfl) rfl (yf_loadAllL 2 rfl rfl Tryd.underlying28 rfl (by kernel_rfl)) ?_
    refine wl_free (.some rfl rfl) rfl (yf_loadAllL 1 rfl rfl Tryd.underlying28 rfl (by kernel_rfl)) ?_
    refine wl_pure (.some rfl rfl) rfl (by kernel_rfl) rfl (fun w hw => blkSame_any i j w (BRd.of hw fun r hr => List.mem_append_right _ (List.mem_append_right _ (List.mem_append_left _ hr))) (BRd.of hw fun r hr => List.mem_append_right _ (List.mem_append_left _ hr)) hi2 hj2) ?_
    refine wl_free (.some rfl rfl) rfl (yf_bool_eqlC rfl rfl Tryd.underlying4 hlaw) ?_
    refine wl_free .none rfl (yf_pickF rfl rfl) ?_
    refine wl_free .none rfl (yf_assign rfl) ?_
    refine wl_nil ?_
    refine wq_then ?_
    refine wc_seq ?_
    refine wc_weak (.cons (i := 0) rfl <| .cons (i := 1) rfl <| .cons (i := 2) rfl <| .cons (i := 4) rfl <| .cons (i := 5) rfl <| .cons (i := 6) rfl <| .cons (i := 7) rfl <| .cons (i := 8) rfl <| .cons (i := 9) rfl <| .cons (i := 10) rfl <| .cons (i := 11) rfl <| .cons (i := 12) rfl <| .cons (i := 13) rfl <| .nil) ?_
    refine wc_drawN [0, 1, 2, 3, 4, 5, 6, 7, 8, 9, 10, 11, 12, 13, 14, 15, 16, 17, 18, 19, 20, 21, 22, 23] (J3 b8 b9 b10 (bk 28 [.slice i.aA i.b.at_.length i.cA, .slice i.aP i.b.pages.length i.cP, .slice i.aO i.b.ops.length i.cO]) (bk 28 [.slice j.aA j.b.at_.length j.cA, .slice j.aP j.b.pages.length j.cP, .slice j.aO j.b.ops.length j.cO]) (bk 28 [.slice k.aA k.b.at_.length k.cA, .slice k.aP k.b.pages.length k.cP, .slice k.aO k.b.ops.length k.cO])) (by kernel_rfl) (by kernel_rfl) J3.stab (fun _ h => ⟨HpG.blk h (k := 2) rfl, HpG.blk h (k := 1) rfl, HpG.blk h (k := 0) rfl⟩) (fun n0 hn0 => ?_)
    refine wd_at rfl ?_
    (refine wd_free ?_ .none rfl (yf_move rfl) ?_; (· rfl);  skip)
    refine wd_at rfl ?_
    (refine wd_free ?_ .none rfl (yf_move rfl) ?_; (· rfl);  skip)
    refine wd_split 44 rfl (fun hb => ?_) (fun hb => ?_)
    · skip
      refine wd_at rfl ?_
      (refine wd_free ?_ (.some rfl rfl) rfl (yf_move rfl) ?_; (· rfl);  skip)
      refine wd_at rfl ?_
      (refine wd_free ?_ .none rfl (yf_pickT rfl rfl) ?_; (· rfl);  skip)
      refine wd_at rfl ?_
      (refine wd_free ?_ .none rfl (yf_move rfl) ?_; (· rfl);  skip)
      refine wd_split 47 rfl (fun hb => ?_) (fun hb => ?_)
      · skip
        refine wd_at rfl ?_
        (refine wd_free ?_ (.some rfl rfl) rfl (yf_move rfl) ?_; (· rfl);  skip)
        refine wd_at rfl ?_
        (refine wd_free ?_ (.some rfl rfl) rfl (yf_conseq (yf_loadRowJ rfl Tryd.underlying28 rfl (by kernel_rfl)) (fun _ h => h.1)) ?_; (· rfl);  skip)
        refine wd_at rfl ?_
        refine wd_pure (.some rfl rfl) rfl (by kernel_rfl) rfl J3.ext (fun w hw => refPrint_any i w (BRd.of hw fun r hr => List.mem_append_right _ (List.mem_append_right _ (List.mem_append_left _ hr))) hi2 pi) ?_
        refine wd_at rfl ?_
        (refine wd_free ?_ (.some rfl rfl) rfl (yf_strs_eqlC rfl rfl Tryd.underlying9 (decide_eq_true rfl)) ?_; (· rfl);  skip)
        refine wd_at rfl ?_
        (refine wd_free ?_ .none rfl (yf_pickT rfl rfl) ?_; (· rfl);  skip)
        refine wd_at rfl ?_
        (refine wd_free ?_ .none rfl (yf_move rfl) ?_; (· rfl);  skip)
        refine wd_split 53 rfl (fun hb => ?_) (fun hb => ?_)
        · skip
          refine wd_at rfl ?_
          (refine wd_free ?_ (.some rfl rfl) rfl (yf_move rfl) ?_; (· rfl);  skip)
          refine wd_at rfl ?_
          (refine wd_free ?_ (.some rfl rfl) rfl (yf_conseq (yf_loadRowJ rfl Tryd.underlying28 rfl (by kernel_rfl)) (fun _ h => h.2.1)) ?_; (· rfl);  skip)
          refine wd_at rfl ?_
          refine wd_pure (.some rfl rfl) rfl (by kernel_rfl) rfl J3.ext (fun w hw => refPrint_any j w (BRd.of hw fun r hr => List.mem_append_right _ (List.mem_append_left _ hr)) hj2 pj) ?_
          refine wd_at rfl ?_
          (refine wd_free ?_ (.some rfl rfl) rfl (yf_strs_eqlC rfl rfl Tryd.underlying9 (decide_eq_true rfl)) ?_; (· rfl);  skip)
          refine wd_at rfl ?_
          (refine wd_free ?_ .none rfl (yf_pickT rfl rfl) ?_; (· rfl);  skip)
          refine wd_at rfl ?_
          (refine wd_free ?_ .none rfl (yf_move rfl) ?_; (· rfl);  skip)
          refine wd_split 59 rfl (fun hb => ?_) (fun hb => ?_)
          · skip
            refine wd_at rfl ?_
            (refine wd_free ?_ (.some rfl rfl) rfl (yf_conseq (yf_loadRowJ rfl Tryd.underlying28 rfl (by kernel_rfl)) (fun _ h => h.2.2)) ?_; (· rfl);  skip)
            refine wd_at rfl ?_
            refine wd_pure (.some rfl rfl) rfl (by kernel_rfl) rfl J3.ext (fun w hw => print_any k w (BRd.of hw fun r hr => List.mem_append_left _ hr) hk2 pk (hT.ext (HpG.keep hw).ext)) ?_
            refine wd_at rfl ?_
            (refine wd_free ?_ (.some rfl rfl) rfl (yf_conseq (yf_loadRowJ rfl Tryd.underlying28 rfl (by kernel_rfl)) (fun _ h => h.2.2)) ?_; (· rfl);  skip)
            refine wd_at rfl ?_
            refine wd_pure (.some rfl rfl) rfl (by kernel_rfl) rfl J3.ext (fun w hw => refPrint_any k w (BRd.of hw fun r hr => List.mem_append_left _ hr) hk2 pk) ?_
            refine wd_at rfl ?_
            (refine wd_free ?_ (.some rfl rfl) rfl (yf_strs_eqlC rfl rfl Tryd.underlying9 (decide_eq_true rfl)) ?_; (· rfl);  skip)
            refine wd_at rfl ?_
            (refine wd_free ?_ .none rfl (yf_pickT rfl rfl) ?_; (· rfl);  skip)
            refine wd_at rfl ?_
            (refine wd_free ?_ .none rfl (yf_assign rfl) ?_; (· rfl);  skip)
            refine wd_endH ?_
            refine wq_then ?_
            refine wc_ret ?_
            refine wq_ret1 rfl rfl (fun w hw => ?_)
            exact ⟨rfl, (HpG.keep hw).ext⟩
          · skip
            cases hb
        · skip
          cases hb
      · skip
        cases hb
    · skip
      cases hb
end Go.Proofs.YtojofinofpgopaaDoor
