/- The law IrSpoilt. -/
import Derived.Test.YtojofinofpgopaaTurn
import Derived.Test.YtojofinofpgopaaIrE
import Derived.Test.YtojofinofpgopaaIrH
import Derived.Test.YtojofinofpgopaaRefD
namespace Go.Proofs.Ytojofinofpgopaa
open Go.RowKit
theorem RdIn.arr {Bad : Nat → Prop} {A : Option Addr} {xs : List Value} {w : World} (h : RdIn Bad A xs w) : Arr w w.heap.size A xs := fun h0 => by
  obtain ⟨b, off, e, h1, _, hc⟩ := h h0
  exact ⟨b, off, e, h1, hc⟩
theorem RdIn.ops {Bad : Nat → Prop} {A : Option Addr} {l : List IOp} {w : World} (h : RdIn Bad A (opsCells l) w) : OpsArr w w.heap.size A l := fun h0 => by
  have hl := opsCells_len l
  obtain ⟨b, off, e, h1, _, hc⟩ := h (by omega)
  refine ⟨b, off, e, h1, fun i hi => ?_⟩
  have key : ∀ j u, j < 5 → (opC (l.getD i noOp))[j]? = some u → w.cell? ⟨b, off + i * 5 + j, none⟩ = some u := fun j u hj hu => by
    have h2 := ops_cell hi hu hj
    rw [Nat.zero_add] at h2
    rw [Nat.add_assoc, hc (i * 5 + j) (by omega), List.getD_eq_getElem?_getD, h2]; rfl
  exact ⟨key 0 _ (by omega) rfl, key 1 _ (by omega) rfl, key 2 _ (by omega) rfl, key 3 _ (by omega) rfl, key 4 _ (by omega) rfl⟩
theorem BRd.blk {Bad : Nat → Prop} {i : BR} {w : World} {m : Nat} (h : BRd Bad i w) (hi : i.OkN m) (hm : m ≤ maxLen) : BlkAt w w.heap.size i.aA i.aP i.aO i.b :=
  ⟨h.a.arr, h.p.arr, h.o.ops, Nat.le_trans hi.lA hm, Nat.le_trans hi.lP hm, Nat.le_trans hi.lO hm⟩
theorem OkN.un {i : BR} {m : Nat} (hi : i.OkN m) : ∀ k, k < i.b.ops.length → U32 (i.b.ops.getD k noOp).n := fun _ hk => hi.uO _ (opD_mem hk)
theorem valid_call {Bad : Nat → Prop} {i : BR} {m : Nat} {w : World} (h : BRd Bad i w) (hi : i.OkN m) (hm : m ≤ maxLen) : Calls Try.prog 17 #[i.v] w fun e w' => e = .returned (.bool (validL i.b)) ∧ Ext w w' :=
  valid_any i.aA i.aP i.aO i.cA i.cP i.cO i.b w w.heap.size (Nat.le_refl _) (h.blk hi hm)
theorem refValid_call {Bad : Nat → Prop} {i : BR} {m : Nat} {w : World} (h : BRd Bad i w) (hi : i.OkN m) (hm : m ≤ maxLen) : Calls Try.prog 18 #[i.v] w fun e w' => e = .returned (.bool (validL i.b)) ∧ Ext w w' := by
  rw [valid_eq]
  exact refValid_any i.aA i.aP i.aO i.cA i.cP i.cO i.b w w.heap.size (Nat.le_refl _) (h.blk hi hm) (OkN.un hi)
theorem RdIn.take {Bad : Nat → Prop} {A : Option Addr} {xs : List Value} {w : World} (h : RdIn Bad A xs w) (k : Nat) : RdIn Bad A (xs.take k) w := fun h0 => by
  rw [List.length_take] at h0
  obtain ⟨b, off, e, h1, h2, hc⟩ := h (by omega)
  refine ⟨b, off, e, h1, h2, fun i hi => ?_⟩
  rw [List.length_take] at hi
  rw [hc i (by omega)]
  simp only [List.getD_eq_getElem?_getD]
  rw [List.getElem?_take_of_lt (by omega)]
theorem made_call {Bad : Nat → Prop} {A : Option Addr} {cap : Nat} {s : List Int} {w : World} (h : RdIn Bad A (i64s s) w) (k : Nat) (hk : k ≤ s.length) (hl : s.length ≤ maxLen) :
    Calls Try.prog 19 #[.slice A k cap] w fun e w' => ∃ i : BR, (i.Ok ∧ validL i.b = true) ∧ e = .returned i.v ∧ Hp (fun _ => False) w [] i.rows (fun _ => True) w' := by
  have h1 : (s.take k).length = k := by rw [List.length_take]; omega
  have := made_any A cap (s.take k) w (by
    have := (h.take k).weak (Bad' := fun _ => False) (fun _ hk => hk.elim)
    rwa [i64s, ← List.map_take] at this) (by omega)
  rwa [h1] at this
theorem yf_conseq {P : Program} {op : Op} {ty : TypeId} {n : Nat} {m : List (Nat × Value)} {J J' : World → Prop} {v : Value} (h : YF P op ty n m J' v) (hJ : ∀ w, J w → J' w) : YF P op ty n m J v := fun a w d pos af g hs hw => h a w d pos af g hs (hJ w hw)
def J3 (b8 b9 b10 : Nat) (o8 o9 o10 : Obj) (w : World) : Prop := Blk b8 o8 w ∧ Blk b9 o9 w ∧ Blk b10 o10 w
theorem J3.stab {b8 b9 b10 : Nat} {o8 o9 o10 : Obj} : AStab (J3 b8 b9 b10 o8 o9 o10) := fun w ob ⟨h1, h2, h3⟩ => ⟨Blk.stab w ob h1, Blk.stab w ob h2, Blk.stab w ob h3⟩
theorem Blk.ext {b : Nat} {o : Obj} {w w' : World} (h : Blk b o w) (hx : Ext w w') : Blk b o w' := h.keep (K := fun _ => False) (Keep.of_ext hx) id
theorem J3.ext {b8 b9 b10 : Nat} {o8 o9 o10 : Obj} : ∀ w w', J3 b8 b9 b10 o8 o9 o10 w → Ext w w' → J3 b8 b9 b10 o8 o9 o10 w' := fun _ _ ⟨h1, h2, h3⟩ hx => ⟨h1.ext hx, h2.ext hx, h3.ext hx⟩
theorem min_nat (a : Nat) : ∃ k : Nat, (if (150 : Int) < (a : Int) then (150 : Int) else (a : Int)) = k ∧ k ≤ a := by
  by_cases h : (150 : Int) < (a : Int)
  · exact ⟨150, by rw [if_pos h]; rfl, by omega⟩
  · exact ⟨a, by rw [if_neg h], Nat.le_refl _⟩
theorem arr_rdIn {A : Option Addr} {xs : List Value} {w : World} (h : Arr w w.heap.size A xs) : RdIn (fun k => w.heap.size ≤ k) A xs w := fun h0 => by
  obtain ⟨b, off, e, h1, hc⟩ := h h0
  exact ⟨b, off, e, h1, by omega, hc⟩
set_option maxRecDepth 100000 in
set_option maxHeartbeats 4000000 in
theorem irSpoilt_any (A : Option Addr) (cap : Nat) (s : List Int) (q0 q1 q2 r0 r1 r2 : Int) (w : World) (hA : RdIn (fun k => w.heap.size ≤ k) A (i64s s) w) (hl : s.length ≤ maxLen) (hc : s.length ≤ cap) :
    Calls Try.prog 4 #[.slice A s.length cap, .agg #[.int .i64 q0, .int .i64 q1, .int .i64 q2], .agg #[.int .i64 r0, .int .i64 r1, .int .i64 r2]] w fun e w' => e = .returned (.bool true) ∧ Below w.heap.size w w' := by
  have hm : 200000 ≤ maxLen := by unfold maxLen; omega
  obtain ⟨z, hz, hz0⟩ := min_nat s.length
  have hX : ∃ F : Nat → Prop, (∀ k, F k → k < w.heap.size ∧ ¬ False) ∧ Foot F (RdIn (fun k => w.heap.size ≤ k) A (i64s s)) w := by
    obtain ⟨F, h2, h3⟩ := hA.foot'
    exact ⟨F, fun k hk => ⟨(h2 k hk).1, id⟩, h3⟩
  refine calls_wc (args := [.slice A s.length cap, .agg #[.int .i64 q0, .int .i64 q1, .int .i64 q2], .agg #[.int .i64 r0, .int .i64 r1, .int .i64 r2]]) Try.func4 rfl 43 rfl (Nat.le_of_ble_eq_true rfl) ?_
  refine wc_weak (.cons (i := 0) rfl <| .cons (i := 1) rfl <| .cons (i := 2) rfl <| .nil) ?_
  refine wc_conseq (H' := Hp (fun _ => False) w [] [] (RdIn (fun k => w.heap.size ≤ k) A (i64s s))) (fun u hu => ?_) ?_
  · subst hu; exact Hp.start hX
  refine wc_seq ?_
  refine wc_region ?_
  refine wl_new .none rfl (nf_box rfl rfl) (fun b4 => ?_)
  refine wl_new .none rfl (nf_box rfl rfl) (fun b5 => ?_)
  refine wl_free .none rfl (yf_assign rfl) ?_
  refine wl_nil ?_
  refine wq_then ?_
  refine wc_seq ?_
  refine wc_region ?_
  refine wl_pure .none rfl (by kernel_rfl) rfl (fun w hw => sanity_any w) ?_
  refine wl_free .none rfl (yf_assign rfl) ?_
  refine wl_nil ?_
  refine wq_then ?_
  refine wc_seq ?_
  refine wc_weak (.cons (i := 0) rfl <| .cons (i := 1) rfl <| .cons (i := 2) rfl <| .cons (i := 4) rfl <| .cons (i := 5) rfl <| .cons (i := 6) rfl <| .cons (i := 7) rfl <| .nil) ?_
  refine wc_region ?_
  refine wl_free .none rfl (yf_move rfl) ?_
  refine wl_free .none rfl (yf_move rfl) ?_
  refine wl_free .none rfl (yf_lenS rfl Try.underlying23) ?_
  refine wl_free .none rfl (yf_min rfl rfl) ?_
  (refine wl_free .none rfl (yf_sliceHi (size := 1) rfl rfl Try.underlying23 (by kernel_rfl) hz ?_) ?_; (· omega); skip)
  refine wl_callR .none rfl (by kernel_rfl) rfl (fun w hw => made_call (HpG.x hw) z hz0 hl) (fun i hi => ?_)
  obtain ⟨hi, hv⟩ := hi
  refine wl_new .none rfl (nf_alloc (z := .agg #[.slice none 0 0, .slice none 0 0, .slice none 0 0]) (cs := [.slice none 0 0, .slice none 0 0, .slice none 0 0]) (by kernel_rfl) rfl) (fun b8 => ?_)
  first | refine wl_chain0 .none (cf_storeRow 0 rfl rfl rfl rfl rfl (by kernel_rfl)) (fun _ => ?_) | refine wl_chain0 .none (cf_storeRow 1 rfl rfl rfl rfl rfl (by kernel_rfl)) (fun _ => ?_) | refine wl_chain0 .none (cf_storeRow 2 rfl rfl rfl rfl rfl (by kernel_rfl)) (fun _ => ?_) | refine wl_chain0 .none (cf_storeRow 3 rfl rfl rfl rfl rfl (by kernel_rfl)) (fun _ => ?_) | refine wl_chain0 .none (cf_storeRow 4 rfl rfl rfl rfl rfl (by kernel_rfl)) (fun _ => ?_) | refine wl_chain0 .none (cf_storeRow 5 rfl rfl rfl rfl rfl (by kernel_rfl)) (fun _ => ?_)
  refine wl_nil ?_
  refine wq_then ?_
  refine wc_seq ?_
  refine wc_weak (.cons (i := 0) rfl <| .cons (i := 1) rfl <| .cons (i := 2) rfl <| .cons (i := 4) rfl <| .cons (i := 5) rfl <| .cons (i := 6) rfl <| .cons (i := 7) rfl <| .cons (i := 8) rfl <| .nil) ?_
  refine wc_region ?_
  first | refine wl_free .none rfl (yf_loadAllL 0 rfl rfl Try.underlying26 rfl (by kernel_rfl)) ?_ | refine wl_free .none rfl (yf_loadAllL 1 rfl rfl Try.underlying26 rfl (by kernel_rfl)) ?_ | refine wl_free .none rfl (yf_loadAllL 2 rfl rfl Try.underlying26 rfl (by kernel_rfl)) ?_ | refine wl_free .none rfl (yf_loadAllL 3 rfl rfl Try.underlying26 rfl (by kernel_rfl)) ?_ | refine wl_free .none rfl (yf_loadAllL 4 rfl rfl Try.underlying26 rfl (by kernel_rfl)) ?_ | refine wl_free .none rfl (yf_loadAllL 5 rfl rfl Try.underlying26 rfl (by kernel_rfl)) ?_
  first | refine wl_free .none rfl (yf_loadAllL 0 rfl rfl Try.underlying30 rfl (by kernel_rfl)) ?_ | refine wl_free .none rfl (yf_loadAllL 1 rfl rfl Try.underlying30 rfl (by kernel_rfl)) ?_ | refine wl_free .none rfl (yf_loadAllL 2 rfl rfl Try.underlying30 rfl (by kernel_rfl)) ?_ | refine wl_free .none rfl (yf_loadAllL 3 rfl rfl Try.underlying30 rfl (by kernel_rfl)) ?_ | refine wl_free .none rfl (yf_loadAllL 4 rfl rfl Try.underlying30 rfl (by kernel_rfl)) ?_ | refine wl_free .none rfl (yf_loadAllL 5 rfl rfl Try.underlying30 rfl (by kernel_rfl)) ?_
  refine wl_callR .none rfl (by kernel_rfl) rfl (fun w hw => turned_any q0 q1 q2 i 100000 w (BRd.of hw fun r hr => List.mem_append_left _ hr) hi.n (by decide)) (fun j hj => ?_)
  refine wl_new .none rfl (nf_alloc (z := .agg #[.slice none 0 0, .slice none 0 0, .slice none 0 0]) (cs := [.slice none 0 0, .slice none 0 0, .slice none 0 0]) (by kernel_rfl) rfl) (fun b9 => ?_)
  first | refine wl_chain0 .none (cf_storeRow 0 rfl rfl rfl rfl rfl (by kernel_rfl)) (fun _ => ?_) | refine wl_chain0 .none (cf_storeRow 1 rfl rfl rfl rfl rfl (by kernel_rfl)) (fun _ => ?_) | refine wl_chain0 .none (cf_storeRow 2 rfl rfl rfl rfl rfl (by kernel_rfl)) (fun _ => ?_) | refine wl_chain0 .none (cf_storeRow 3 rfl rfl rfl rfl rfl (by kernel_rfl)) (fun _ => ?_) | refine wl_chain0 .none (cf_storeRow 4 rfl rfl rfl rfl rfl (by kernel_rfl)) (fun _ => ?_) | refine wl_chain0 .none (cf_storeRow 5 rfl rfl rfl rfl rfl (by kernel_rfl)) (fun _ => ?_)
  refine wl_nil ?_
  refine wq_then ?_
  refine wc_seq ?_
  refine wc_weak (.cons (i := 0) rfl <| .cons (i := 1) rfl <| .cons (i := 2) rfl <| .cons (i := 4) rfl <| .cons (i := 5) rfl <| .cons (i := 6) rfl <| .cons (i := 7) rfl <| .cons (i := 8) rfl <| .cons (i := 9) rfl <| .nil) ?_
  refine wc_region ?_
  first | refine wl_free .none rfl (yf_loadAllL 0 rfl rfl Try.underlying26 rfl (by kernel_rfl)) ?_ | refine wl_free .none rfl (yf_loadAllL 1 rfl rfl Try.underlying26 rfl (by kernel_rfl)) ?_ | refine wl_free .none rfl (yf_loadAllL 2 rfl rfl Try.underlying26 rfl (by kernel_rfl)) ?_ | refine wl_free .none rfl (yf_loadAllL 3 rfl rfl Try.underlying26 rfl (by kernel_rfl)) ?_ | refine wl_free .none rfl (yf_loadAllL 4 rfl rfl Try.underlying26 rfl (by kernel_rfl)) ?_ | refine wl_free .none rfl (yf_loadAllL 5 rfl rfl Try.underlying26 rfl (by kernel_rfl)) ?_
  first | refine wl_free .none rfl (yf_loadAllL 0 rfl rfl Try.underlying30 rfl (by kernel_rfl)) ?_ | refine wl_free .none rfl (yf_loadAllL 1 rfl rfl Try.underlying30 rfl (by kernel_rfl)) ?_ | refine wl_free .none rfl (yf_loadAllL 2 rfl rfl Try.underlying30 rfl (by kernel_rfl)) ?_ | refine wl_free .none rfl (yf_loadAllL 3 rfl rfl Try.underlying30 rfl (by kernel_rfl)) ?_ | refine wl_free .none rfl (yf_loadAllL 4 rfl rfl Try.underlying30 rfl (by kernel_rfl)) ?_ | refine wl_free .none rfl (yf_loadAllL 5 rfl rfl Try.underlying30 rfl (by kernel_rfl)) ?_
  refine wl_callR .none rfl (by kernel_rfl) rfl (fun w hw => turned_any r0 r1 r2 j 100001 w (BRd.of hw fun r hr => List.mem_append_left _ hr) hj (by decide)) (fun k hk => ?_)
  refine wl_new .none rfl (nf_alloc (z := .agg #[.slice none 0 0, .slice none 0 0, .slice none 0 0]) (cs := [.slice none 0 0, .slice none 0 0, .slice none 0 0]) (by kernel_rfl) rfl) (fun b10 => ?_)
  first | refine wl_chain0 .none (cf_storeRow 0 rfl rfl rfl rfl rfl (by kernel_rfl)) (fun _ => ?_) | refine wl_chain0 .none (cf_storeRow 1 rfl rfl rfl rfl rfl (by kernel_rfl)) (fun _ => ?_) | refine wl_chain0 .none (cf_storeRow 2 rfl rfl rfl rfl rfl (by kernel_rfl)) (fun _ => ?_) | refine wl_chain0 .none (cf_storeRow 3 rfl rfl rfl rfl rfl (by kernel_rfl)) (fun _ => ?_) | refine wl_chain0 .none (cf_storeRow 4 rfl rfl rfl rfl rfl (by kernel_rfl)) (fun _ => ?_) | refine wl_chain0 .none (cf_storeRow 5 rfl rfl rfl rfl rfl (by kernel_rfl)) (fun _ => ?_)
  refine wl_nil ?_
  refine wq_then ?_
  refine wc_seq ?_
  refine wc_weak (.cons (i := 0) rfl <| .cons (i := 1) rfl <| .cons (i := 2) rfl <| .cons (i := 4) rfl <| .cons (i := 5) rfl <| .cons (i := 6) rfl <| .cons (i := 7) rfl <| .cons (i := 8) rfl <| .cons (i := 9) rfl <| .cons (i := 10) rfl <| .nil) ?_
  refine wc_drawN [0, 1, 2, 3, 4, 5, 6, 7, 8, 9, 10, 11, 12, 13, 14, 15, 16, 17, 18, 19] (J3 b8 b9 b10 (bk 26 [.slice i.aA i.b.at_.length i.cA, .slice i.aP i.b.pages.length i.cP, .slice i.aO i.b.ops.length i.cO]) (bk 26 [.slice j.aA j.b.at_.length j.cA, .slice j.aP j.b.pages.length j.cP, .slice j.aO j.b.ops.length j.cO]) (bk 26 [.slice k.aA k.b.at_.length k.cA, .slice k.aP k.b.pages.length k.cP, .slice k.aO k.b.ops.length k.cO])) (by kernel_rfl) (by kernel_rfl) J3.stab (fun _ h => ⟨HpG.blk h (k := 2) rfl, HpG.blk h (k := 1) rfl, HpG.blk h (k := 0) rfl⟩) (fun n0 hn0 => ?_)
  refine wd_at rfl ?_
  (refine wd_free ?_ .none rfl (yf_move rfl) ?_; (· rfl);  skip)
  refine wd_at rfl ?_
  (refine wd_free ?_ .none rfl (yf_move rfl) ?_; (· rfl);  skip)
  refine wd_split 25 rfl (fun hb => ?_) (fun hb => ?_)
  · skip
    refine wd_at rfl ?_
    (refine wd_free ?_ (.some rfl rfl) rfl (yf_conseq (yf_loadRowJ rfl Try.underlying26 rfl (by kernel_rfl)) (fun _ h => h.1)) ?_; (· rfl);  skip)
    refine wd_at rfl ?_
    refine wd_pure (.some rfl rfl) rfl (by kernel_rfl) rfl J3.ext (fun w hw => valid_call (BRd.of hw fun r hr => List.mem_append_right _ (List.mem_append_right _ (List.mem_append_left _ hr))) hi.n (by omega)) ?_
    refine wd_at rfl ?_
    (refine wd_free ?_ .none rfl (yf_pickT rfl rfl) ?_; (· rfl);  skip)
    refine wd_at rfl ?_
    (refine wd_free ?_ .none rfl (yf_move rfl) ?_; (· rfl);  skip)
    refine wd_split 29 rfl (fun hb => ?_) (fun hb => ?_)
    · skip
      refine wd_at rfl ?_
      (refine wd_free ?_ (.some rfl rfl) rfl (yf_conseq (yf_loadRowJ rfl Try.underlying26 rfl (by kernel_rfl)) (fun _ h => h.2.1)) ?_; (· rfl);  skip)
      refine wd_at rfl ?_
      refine wd_pure (.some rfl rfl) rfl (by kernel_rfl) rfl J3.ext (fun w hw => valid_call (BRd.of hw fun r hr => List.mem_append_right _ (List.mem_append_left _ hr)) hj (by omega)) ?_
      refine wd_at rfl ?_
      (refine wd_free ?_ (.some rfl rfl) rfl (yf_conseq (yf_loadRowJ rfl Try.underlying26 rfl (by kernel_rfl)) (fun _ h => h.2.1)) ?_; (· rfl);  skip)
      refine wd_at rfl ?_
      refine wd_pure (.some rfl rfl) rfl (by kernel_rfl) rfl J3.ext (fun w hw => refValid_call (BRd.of hw fun r hr => List.mem_append_right _ (List.mem_append_left _ hr)) hj (by omega)) ?_
      refine wd_at rfl ?_
      (refine wd_free ?_ (.some rfl rfl) rfl (yf_bool_eql rfl rfl Try.underlying4) ?_; (· rfl);  skip)
      refine wd_at rfl ?_
      (refine wd_free ?_ .none rfl (yf_pickT rfl rfl) ?_; (· rfl);  skip)
      refine wd_at rfl ?_
      (refine wd_free ?_ .none rfl (yf_move rfl) ?_; (· rfl);  skip)
      refine wd_split 36 rfl (fun hb => ?_) (fun hb => ?_)
      · skip
        refine wd_at rfl ?_
        (refine wd_free ?_ (.some rfl rfl) rfl (yf_conseq (yf_loadRowJ rfl Try.underlying26 rfl (by kernel_rfl)) (fun _ h => h.2.2)) ?_; (· rfl);  skip)
        refine wd_at rfl ?_
        refine wd_pure (.some rfl rfl) rfl (by kernel_rfl) rfl J3.ext (fun w hw => valid_call (BRd.of hw fun r hr => List.mem_append_left _ hr) hk (by omega)) ?_
        refine wd_at rfl ?_
        (refine wd_free ?_ (.some rfl rfl) rfl (yf_conseq (yf_loadRowJ rfl Try.underlying26 rfl (by kernel_rfl)) (fun _ h => h.2.2)) ?_; (· rfl);  skip)
        refine wd_at rfl ?_
        refine wd_pure (.some rfl rfl) rfl (by kernel_rfl) rfl J3.ext (fun w hw => refValid_call (BRd.of hw fun r hr => List.mem_append_left _ hr) hk (by omega)) ?_
        refine wd_at rfl ?_
        (refine wd_free ?_ (.some rfl rfl) rfl (yf_bool_eql rfl rfl Try.underlying4) ?_; (· rfl);  skip)
        refine wd_at rfl ?_
        (refine wd_free ?_ .none rfl (yf_pickT rfl rfl) ?_; (· rfl);  skip)
        refine wd_at rfl ?_
        (refine wd_free ?_ .none rfl (yf_assign rfl) ?_; (· rfl);  skip)
        refine wd_endH ?_
        refine wq_then ?_
        refine wc_ret ?_
        refine wq_ret1 rfl rfl (fun w hw => ?_)
        exact ⟨by simp, (HpG.keep hw).ext⟩
      · skip
        simp at hb
    · skip
      rw [hv] at hb; cases hb
  · skip
    cases hb
end Go.Proofs.Ytojofinofpgopaa
