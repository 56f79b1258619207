/- The law IrKeeps. -/
import Derived.Test.YtojofinofpgopaaDoorLwPrints
import Derived.Test.YtojofinofpgopaaDoorMgV
namespace Go.Proofs.YtojofinofpgopaaDoor
open Go.RowKit
section
variable {P : Program} {n : Nat} {m : List (Nat × Value)} {ty : TypeId} {G B : Nat → Prop} {w0 w w' : World} {L : List (Nat × Obj)} {R : List Rw} {X J S : World → Prop} {Q : Exit → Act → World → Prop} {ops : Array Oper} {σ : List Nat}
/-- A call, in a region that draws its order, that makes blocks which operations behind it may turn. -/
theorem wd_callGN {ι : Type} {C : ι → Prop} {N : ι → Nat → Prop} {S' : ι → World → Prop} {d : Nat} {pos : String} {af : Array Edge} {gd : Option (Nat × Bool)} {f : FuncId} {args : List Operand} {ats : Array TypeId} {vs : List Value} {val : ι → Value} (hg : Gd ops m gd) (hd : Nat.blt d n = true) (hf : goes P f = true) (ha : evl m args = some vs) (hst : ∀ i, C i → AStab (S' i))
    (hC : ∀ w, S w → J w → Calls P f vs.toArray w fun e w' => ∃ i, C i ∧ e = .returned (val i) ∧ Keep G w w' ∧ J w' ∧ S' i w' ∧ ∀ k, N i k → w.heap.size ≤ k ∧ k < w'.heap.size)
    (h : ∀ i, C i → WD P ops J Q σ (fun k => N i k ∨ G k) n ((d, val i) :: m) (S' i)) : WDo P ops J Q ⟨some d, .call { callee := .value (.func f), args := args.toArray, argTypes := ats }, ty, pos, af, gd⟩ σ G n m S :=
  wd_chainN (ι := {i // C i}) (val := fun i => val i.1) (H' := fun i => S' i.1) (N := fun i => N i.1) rfl (fun _ _ e => by cases e) hg hd (fun i => hst i.1 i.2)
    (fun _ w _ _ _ hs hw hj => (ch_call hs hf ha ((hC w hw hj).mono fun _ _ ⟨i, c, e1, e2, e3, e4, e5⟩ => ⟨_, e1, ⟨⟨i, c⟩, rfl, e2, e3, e4, e5⟩⟩)).mono
      (R := fun v' w' => ∃ i : {i // C i}, v' = val i.1 ∧ Keep G w w' ∧ J w' ∧ S' i.1 w' ∧ ∀ k, N i.1 k → w.heap.size ≤ k ∧ k < w'.heap.size) fun _ _ ⟨i, e1, e2, e3, e4, e5⟩ => ⟨e2, e3, i, e1, e4, e5⟩) fun i => h i.1 i.2
theorem HpF.up {G' : Nat → Prop} (h : HpF G B w0 L R X w) (hG : ∀ k, G k → G' k) : HpF G' B w0 L R X w := by
  obtain ⟨F, hF, hX⟩ := h.ft
  exact ⟨h.hp, F, fun k hk => ⟨(hF k hk).1, (hF k hk).2.1, (hF k hk).2.2.1, hG k (hF k hk).2.2.2⟩, hX⟩
end
/-- What memory makes, beside what is known. -/
theorem memN {w w' : World} {μ : Mm} {X : World → Prop} (h : Hp (fun _ => False) w (memL μ) [] X w') : ∀ k, k ∈ (memL μ).map (·.1) → w.heap.size ≤ k ∧ k < w'.heap.size := fun k hk => by
  obtain ⟨p, hp, rfl⟩ := List.mem_map.1 hk
  refine ⟨?_, (Array.getElem?_eq_some_iff.1 (HpG.own h p hp)).1⟩
  rcases HpG.mine h p hp with h1 | h1
  · exact h1
  · exact h1.elim
def J4 (b8 b9 b10 b5 : Nat) (o8 o9 o10 o5 : Obj) (w : World) : Prop := (Blk b8 o8 w ∧ Blk b9 o9 w) ∧ Blk b10 o10 w ∧ Blk b5 o5 w
theorem J4.stab {b8 b9 b10 b5 : Nat} {o8 o9 o10 o5 : Obj} : AStab (J4 b8 b9 b10 b5 o8 o9 o10 o5) := fun w ob ⟨⟨h1, h2⟩, h3, h4⟩ => ⟨⟨Blk.stab w ob h1, Blk.stab w ob h2⟩, Blk.stab w ob h3, Blk.stab w ob h4⟩
theorem J4.ext {b8 b9 b10 b5 : Nat} {o8 o9 o10 o5 : Obj} : ∀ w w', J4 b8 b9 b10 b5 o8 o9 o10 o5 w → Ext w w' → J4 b8 b9 b10 b5 o8 o9 o10 o5 w' := fun _ _ ⟨⟨h1, h2⟩, h3, h4⟩ hx => ⟨⟨h1.ext hx, h2.ext hx⟩, h3.ext hx, h4.ext hx⟩
theorem J4.keep {b8 b9 b10 b5 : Nat} {o8 o9 o10 o5 : Obj} {K : Nat → Prop} {w w' : World} (h : J4 b8 b9 b10 b5 o8 o9 o10 o5 w) (hk : Keep K w w') (h8 : ¬ K b8) (h9 : ¬ K b9) (h10 : ¬ K b10) (h5 : ¬ K b5) : J4 b8 b9 b10 b5 o8 o9 o10 o5 w' := ⟨⟨Blk.keep h.1.1 hk h8, Blk.keep h.1.2 hk h9⟩, Blk.keep h.2.1 hk h10, Blk.keep h.2.2 hk h5⟩
set_option maxRecDepth 100000 in
set_option maxHeartbeats 4000000 in
theorem irKeeps_any (A : Option Addr) (cap : Nat) (s : List Int) (q0 q1 q2 : Int) (x : Su) (hu : ∀ v ∈ x.v, U32 v) (w_0 : World) (hA : X2 A s x w_0.heap.size w_0) (hl : s.length ≤ maxLen) (hc : s.length ≤ cap) (hT : Tb w_0) :
    Calls Tryd.prog 4 #[.slice A s.length cap, .agg #[.int .i64 q0, .int .i64 q1, .int .i64 q2], .agg (suC x).toArray] w_0 fun e w' => e = .returned (.bool true) ∧ Below w_0.heap.size w_0 w' := by
  have hm : 200000 ≤ maxLen := by unfold maxLen; omega
  have hvo := suV_ok hu
  obtain ⟨z, hz, hz0⟩ := min_nat s.length
  refine calls_wc (args := [.slice A s.length cap, .agg #[.int .i64 q0, .int .i64 q1, .int .i64 q2], .agg (suC x).toArray]) Tryd.func4 rfl 64 rfl (Nat.le_of_ble_eq_true rfl) ?_
  refine wc_weak (.cons (i := 0) rfl <| .cons (i := 1) rfl <| .cons (i := 2) rfl <| .nil) ?_
  refine wc_conseq (H' := Hp (fun _ => False) w_0 [] [] (X2 A s x w_0.heap.size)) (fun u hu => ?_) ?_
  · subst hu; exact Hp.start hA.foot
  refine wc_seq ?_
  refine wc_region ?_
  refine wl_new .none rfl (nf_box rfl rfl) (fun b4 => ?_)
  refine wl_new .none rfl (nf_box rfl rfl) (fun b5 => ?_)
  refine wl_free .none rfl (yf_assign rfl) ?_
  refine wl_nil ?_
  refine wq_then ?_
  refine wc_seq ?_
  refine wc_region ?_
  refine wl_pure .none rfl (by kernel_rfl) rfl (fun w hw => sanity_any w) ?_
  refine wl_free .none rfl (yf_assign rfl) ?_
  refine wl_nil ?_
  refine wq_then ?_
  refine wc_seq ?_
  refine wc_weak (.cons (i := 0) rfl <| .cons (i := 1) rfl <| .cons (i := 2) rfl <| .cons (i := 4) rfl <| .cons (i := 5) rfl <| .cons (i := 6) rfl <| .cons (i := 7) rfl <| .nil) ?_
  refine wc_drawTN 9 [0, 1, 2, 3, 4, 5, 6, 7, 8] (Blk b4 (bk 23 [.int .i64 q0, .int .i64 q1, .int .i64 q2])) (by kernel_rfl) (by kernel_rfl) Blk.stab (fun w h => HpG.blk h (k := 1) rfl) (fun n0 hn0 => ?_)
  refine wd_at rfl ?_
  (refine wd_free ?_ .none rfl (yf_move rfl) ?_; (· rfl);  skip)
  refine wd_at rfl ?_
  (refine wd_free ?_ .none rfl (yf_move rfl) ?_; (· rfl);  skip)
  refine wd_at rfl ?_
  (refine wd_free ?_ .none rfl (yf_lenS rfl Tryd.underlying22) ?_; (· rfl);  skip)
  refine wd_at rfl ?_
  (refine wd_free ?_ .none rfl (yf_min rfl rfl) ?_; (· rfl);  skip)
  refine wd_at rfl ?_
  (refine wd_free ?_ .none rfl (yf_sliceHi (size := 1) rfl rfl Tryd.underlying22 (by kernel_rfl) hz ?_) ?_; (· rfl); (· omega); skip)
  refine wd_at rfl ?_
  refine wd_callG (C := fun i : BR => i.Ok ∧ validL i.b = true) (val := fun i => i.v) (S' := fun i => HpF (fun k => k < n0) (fun _ => False) w_0 [(b5, bk 37 (suC x)), (b4, bk 23 [.int .i64 q0, .int .i64 q1, .int .i64 q2])] (i.rows ++ []) (X2 A s x w_0.heap.size)) .none rfl (by kernel_rfl) rfl (fun _ _ => HpF.stab) (fun w hw hj => (made_call (HpG.x hw).1 z hz0 hl).mono fun e w' ⟨i, h1, h2, h3⟩ => ⟨i, h1, h2, Keep.of_ext (HpG.ext h3), Blk.onE hj (HpG.ext h3), HpF.callR (HpF.of hw) h3⟩) (fun i hi => ?_)
  obtain ⟨hi, hv⟩ := hi
  refine wd_at rfl ?_
  (refine wd_free ?_ .none rfl (yf_loadRowJ rfl Tryd.underlying23 rfl (by kernel_rfl)) ?_; (· rfl);  skip)
  refine wd_at rfl ?_
  refine wd_callG (C := fun j : BR => j.OkN 100001 ∧ PgT i.b j.b) (val := fun j => j.v) (S' := fun j => HpF (fun k => k < n0) (fun _ => False) w_0 [(b5, bk 37 (suC x)), (b4, bk 23 [.int .i64 q0, .int .i64 q1, .int .i64 q2])] (j.rows ++ (i.rows ++ [])) (X2 A s x w_0.heap.size)) .none rfl (by kernel_rfl) rfl (fun _ _ => HpF.stab) (fun w hw hj => (turnedP_any q0 q1 q2 i 100000 w (BRd.of hw.hp fun r hr => List.mem_append_left _ hr) hi.n (by decide)).mono fun e w' ⟨j, h1, h2, h3⟩ => ⟨j, h1, h2, Keep.of_ext (HpG.ext h3), Blk.onE hj (HpG.ext h3), HpF.callR hw h3⟩) (fun j hj => ?_)
  obtain ⟨hj, hjp⟩ := hj
  have pj := pgOk_turn (pgOk_valid hv) hjp
  have hj2 := hj.up (show 100001 ≤ 200000 by decide)
  refine wd_at rfl ?_
  refine wd_newF rfl .none rfl (fun k hk => Nat.lt_of_lt_of_le hk hn0) (nf_alloc (z := .agg #[.slice none 0 0, .slice none 0 0, .slice none 0 0]) (cs := [.slice none 0 0, .slice none 0 0, .slice none 0 0]) (by kernel_rfl) rfl) (no_cons rfl (no_cons rfl (fun p hp => by cases hp))) (no_appR (rows_no ⟨rfl, rfl, rfl⟩) (no_appR (rows_no ⟨rfl, rfl, rfl⟩) no_nilR)) (fun b8 _ => ?_)
  refine wd_endTF ?_
  simp only [List.drop_succ_cons, List.drop_zero]
  refine wl_chain0 .none (cf_storeRow 0 rfl rfl rfl rfl rfl (by kernel_rfl)) (fun _ => ?_)
  refine wl_nil ?_
  refine wq_then ?_
  refine wc_seq ?_
  refine wc_weak (.cons (i := 0) rfl <| .cons (i := 1) rfl <| .cons (i := 2) rfl <| .cons (i := 4) rfl <| .cons (i := 5) rfl <| .cons (i := 6) rfl <| .cons (i := 7) rfl <| .cons (i := 8) rfl <| .nil) ?_
  refine wc_region ?_
  refine wl_free .none rfl (yf_loadAllL 0 rfl rfl Tryd.underlying28 rfl (by kernel_rfl)) ?_
  refine wl_callR .none rfl (by kernel_rfl) rfl (fun w hw => own_any j 100001 w (BRd.of hw fun r hr => List.mem_append_left _ hr) hj (by decide)) (fun c hcc => ?_)
  obtain ⟨hcb, hcn, _⟩ := hcc
  have hc2 := hcn.up (show 100001 ≤ 200000 by decide)
  have pc : PgOk c.b := by rw [hcb]; exact pj
  refine wl_new .none rfl (nf_alloc (z := .agg #[.slice none 0 0, .slice none 0 0, .slice none 0 0]) (cs := [.slice none 0 0, .slice none 0 0, .slice none 0 0]) (by kernel_rfl) rfl) (fun b9 => ?_)
  refine wl_chain0 .none (cf_storeRow 0 rfl rfl rfl rfl rfl (by kernel_rfl)) (fun _ => ?_)
  refine wl_nil ?_
  refine wq_then ?_
  refine wc_seq ?_
  refine wc_weak (.cons (i := 0) rfl <| .cons (i := 1) rfl <| .cons (i := 2) rfl <| .cons (i := 4) rfl <| .cons (i := 5) rfl <| .cons (i := 6) rfl <| .cons (i := 7) rfl <| .cons (i := 8) rfl <| .cons (i := 9) rfl <| .nil) ?_
  obtain ⟨out, hout⟩ : ∃ out, (evalM j.b (suV x) (suM x)).1 = out := ⟨_, rfl⟩
  have h28 : out.vars.length = 28 := by rw [← hout]; exact evalM_len hvo.1 _ _
  refine wc_drawTN 8 [0, 1, 2, 3, 4, 5, 6, 7] (J2 b8 b5 (bk 28 (blkC j)) (bk 37 (suC x))) (by kernel_rfl) (by kernel_rfl) J2.stab (fun _ h => ⟨HpG.blk h (k := 1) rfl, HpG.blk h (k := 2) rfl⟩) (fun n0 hn0 => ?_)
  refine wd_at rfl ?_
  (refine wd_free ?_ .none rfl (YF.anti (yf_loadRowJ rfl Tryd.underlying28 rfl (by kernel_rfl)) (fun _ h => h.1)) ?_; (· rfl);  skip)
  refine wd_at rfl ?_
  (refine wd_free ?_ .none rfl (YF.anti (yf_loadRowJ rfl Tryd.underlying37 rfl (by kernel_rfl)) (fun _ h => h.2)) ?_; (· rfl);  skip)
  refine wd_at rfl ?_
  refine wd_pure .none rfl (by kernel_rfl) rfl J2.ext (fun w hw => vars_any x w (HpG.x hw).2) ?_
  refine wd_at rfl ?_
  (refine wd_free ?_ .none rfl (YF.anti (yf_loadRowJ rfl Tryd.underlying37 rfl (by kernel_rfl)) (fun _ h => h.2)) ?_; (· rfl);  skip)
  refine wd_at rfl ?_
  refine wd_callGN (C := fun μ : Mm => μ.Ok ∧ μ.bytes = suBytes x ∧ μ.p.map (·.r) = rlL x 3) (N := fun μ k => k ∈ (memL μ).map (·.1)) (val := fun μ => ptrV μ.M) (S' := fun μ => HpF (fun k => k ∈ (memL μ).map (·.1) ∨ k < n0) (fun _ => False) w_0 ([(b9, bk 28 (blkC c)), (b8, bk 28 (blkC j)), (b5, bk 37 (suC x)), (b4, bk 23 [.int .i64 q0, .int .i64 q1, .int .i64 q2])] ++ memL μ) (c.rows ++ (j.rows ++ (i.rows ++ []))) (X2 A s x w_0.heap.size)) .none rfl (by kernel_rfl) rfl (fun _ _ => HpF.stab) (fun w hw hj' => (memory_any x w).mono fun e w' ⟨μ, h1, h2, h3⟩ => ⟨μ, h1, h2, Keep.of_ext (HpG.ext h3), J2.ext _ _ hj' (HpG.ext h3), HpF.up (HpF.callM (L1 := []) (by rw [List.append_nil]; exact HpF.of hw) (Hp.nob h3)) (fun k hk => .inr hk), memN h3⟩) (fun μ hμ => ?_)
  obtain ⟨ok, hby, hr⟩ := hμ
  have hpm := su_pm hby hr
  refine wd_at rfl ?_
  (refine wd_free ?_ .none rfl (yf_makeIface rfl Tryd.underlying44 rfl) ?_; (· rfl);  skip)
  refine wd_at rfl ?_
  refine wd_callG (C := fun μ' : Mm => μ'.Ok ∧ μ.Same μ' ∧ μ'.pm = (evalM j.b (suV x) (suM x)).2) (val := fun _ => .agg (ouL out).toArray) (S' := fun μ' => HpF (fun k => k ∈ (memL μ).map (·.1) ∨ k < n0) (fun _ => False) w_0 ([(b9, bk 28 (blkC c)), (b8, bk 28 (blkC j)), (b5, bk 37 (suC x)), (b4, bk 23 [.int .i64 q0, .int .i64 q1, .int .i64 q2])] ++ memL μ') (c.rows ++ (j.rows ++ (i.rows ++ []))) (X2 A s x w_0.heap.size)) .none rfl (by kernel_rfl) rfl (fun _ _ => HpF.stab) (fun w hw hj' => by
    have := irEval_call j hj (by omega) hvo ok (fun p hp => HpG.own hw.hp p (List.mem_append_right _ hp)) (BRd.ofR hw.hp fun r hr => List.mem_append_right _ (List.mem_append_left _ hr))
    rw [hpm, hout] at this
    exact this.mono fun e w' ⟨μ', h1, h2, h3⟩ => ⟨μ', h1, h2, (HpG.keep h3).mono fun q _ hq => .inl hq, ⟨Blk.keep hj'.1 (HpG.keep h3) (HpG.notin hw.hp (p := (b8, _)) (List.mem_cons_of_mem _ (List.mem_cons_self ..))), Blk.keep hj'.2 (HpG.keep h3) (HpG.notin hw.hp (p := (b5, _)) (List.mem_cons_of_mem _ (List.mem_cons_of_mem _ (List.mem_cons_self ..))))⟩, HpF.callM hw h3⟩) (fun μ' hμ' => ?_)
  refine wd_at rfl ?_
  refine wd_newF rfl .none rfl (fun k hk => .inr (Nat.lt_of_lt_of_le hk hn0)) (nf_alloc (z := .agg (ouL zeroOut).toArray) (cs := ouL zeroOut) (by kernel_rfl) rfl) (no_append (no_cons rfl (no_cons rfl (no_cons rfl (no_cons rfl (fun p hp => by cases hp))))) (memL_no ⟨rfl, rfl, rfl⟩)) (no_appR (rows_no ⟨rfl, rfl, rfl⟩) (no_appR (rows_no ⟨rfl, rfl, rfl⟩) (no_appR (rows_no ⟨rfl, rfl, rfl⟩) no_nilR))) (fun b10 _ => ?_)
  refine wd_endTF ?_
  simp only [List.drop_succ_cons, List.drop_zero]
  refine wl_chain0 .none (cf_storeAll (seg := ouL out) 0 rfl rfl rfl (fun v hv => List.all_eq_true.1 (ouL_all _) v hv) (by rw [ouL_len, h28]; rfl) (ou32 h28)) (fun _ => ?_)
  refine wl_nil ?_
  refine wq_then ?_
  refine wc_seq ?_
  refine wc_weak (.cons (i := 0) rfl <| .cons (i := 1) rfl <| .cons (i := 2) rfl <| .cons (i := 4) rfl <| .cons (i := 5) rfl <| .cons (i := 6) rfl <| .cons (i := 7) rfl <| .cons (i := 8) rfl <| .cons (i := 9) rfl <| .cons (i := 10) rfl <| .nil) ?_
  refine wc_region ?_
  refine wl_free .none rfl (yf_loadAllL 2 rfl rfl Tryd.underlying28 rfl (by kernel_rfl)) ?_
  refine wl_pure .none rfl (by kernel_rfl) rfl (fun w hw => valid_call (BRd.of hw fun r hr => List.mem_append_right _ (List.mem_append_left _ hr)) hj (by omega)) ?_
  refine wl_free .none rfl (yf_assign rfl) ?_
  refine wl_nil ?_
  refine wq_then ?_
  refine wc_seq ?_
  refine wc_weak (.cons (i := 0) rfl <| .cons (i := 1) rfl <| .cons (i := 2) rfl <| .cons (i := 4) rfl <| .cons (i := 5) rfl <| .cons (i := 6) rfl <| .cons (i := 7) rfl <| .cons (i := 8) rfl <| .cons (i := 9) rfl <| .cons (i := 10) rfl <| .cons (i := 11) rfl <| .nil) ?_
  refine wc_region ?_
  refine wl_free .none rfl (yf_loadAllL 2 rfl rfl Tryd.underlying28 rfl (by kernel_rfl)) ?_
  refine wl_pure .none rfl (by kernel_rfl) rfl (fun w hw => print_any j w (BRd.of hw fun r hr => List.mem_append_right _ (List.mem_append_left _ hr)) hj2 pj (hT.ext (HpG.keep hw).ext)) ?_
  refine wl_free .none rfl (yf_assign rfl) ?_
  refine wl_nil ?_
  refine wq_then ?_
  refine wc_seq ?_
  refine wc_weak (.cons (i := 0) rfl <| .cons (i := 1) rfl <| .cons (i := 2) rfl <| .cons (i := 4) rfl <| .cons (i := 5) rfl <| .cons (i := 6) rfl <| .cons (i := 7) rfl <| .cons (i := 8) rfl <| .cons (i := 9) rfl <| .cons (i := 10) rfl <| .cons (i := 11) rfl <| .cons (i := 12) rfl <| .nil) ?_
  refine wc_drawN [0, 1, 2, 3, 4, 5, 6, 7, 8, 9, 10, 11, 12, 13, 14, 15, 16, 17, 18, 19, 20, 21, 22, 23, 24, 25, 26, 27, 28, 29] (J4 b8 b9 b10 b5 (bk 28 (blkC j)) (bk 28 (blkC c)) (bk 41 (ouL out)) (bk 37 (suC x))) (by kernel_rfl) (by kernel_rfl) J4.stab (fun _ h => ⟨⟨HpG.blk h (k := 2) rfl, HpG.blk h (k := 1) rfl⟩, HpG.blk h (k := 0) rfl, HpG.blk h (k := 3) rfl⟩) (fun n0 hn0 => ?_)
  refine wd_at rfl ?_
  (refine wd_free ?_ .none rfl (yf_move rfl) ?_; (· rfl);  skip)
  refine wd_at rfl ?_
  (refine wd_free ?_ .none rfl (yf_move rfl) ?_; (· rfl);  skip)
  refine wd_split 36 rfl (fun hb => ?_) (fun hb => ?_)
  · skip
    refine wd_at rfl ?_
    (refine wd_free ?_ (.some rfl rfl) rfl (YF.anti (yf_loadRowJ rfl Tryd.underlying28 rfl (by kernel_rfl)) (fun _ h => h.1.1)) ?_; (· rfl);  skip)
    refine wd_at rfl ?_
    (refine wd_free ?_ (.some rfl rfl) rfl (YF.anti (yf_loadRowJ rfl Tryd.underlying37 rfl (by kernel_rfl)) (fun _ h => h.2.2)) ?_; (· rfl);  skip)
    refine wd_at rfl ?_
    refine wd_pure (.some rfl rfl) rfl (by kernel_rfl) rfl J4.ext (fun w hw => vars_any x w (HpG.x hw).2) ?_
    refine wd_at rfl ?_
    (refine wd_free ?_ (.some rfl rfl) rfl (YF.anti (yf_loadRowJ rfl Tryd.underlying37 rfl (by kernel_rfl)) (fun _ h => h.2.2)) ?_; (· rfl);  skip)
    refine wd_at rfl ?_
    refine wd_callGN (C := fun μ2 : Mm => μ2.Ok ∧ μ2.bytes = suBytes x ∧ μ2.p.map (·.r) = rlL x 3) (N := fun μ2 k => k ∈ (memL μ2).map (·.1)) (val := fun μ2 => ptrV μ2.M) (S' := fun μ2 => HpF (fun k => k ∈ (memL μ2).map (·.1) ∨ k < n0) (fun _ => False) w_0 ((((b10, bk 41 (ouL out)) :: ([(b9, bk 28 (blkC c)), (b8, bk 28 (blkC j)), (b5, bk 37 (suC x)), (b4, bk 23 [.int .i64 q0, .int .i64 q1, .int .i64 q2])] ++ memL μ'))) ++ memL μ2) (c.rows ++ (j.rows ++ (i.rows ++ []))) (X2 A s x w_0.heap.size)) (.some rfl rfl) rfl (by kernel_rfl) rfl (fun _ _ => HpF.stab) (fun w hw hj' => (memory_any x w).mono fun e w' ⟨μ2, h1, h2, h3⟩ => ⟨μ2, h1, h2, Keep.of_ext (HpG.ext h3), J4.ext _ _ hj' (HpG.ext h3), HpF.up (HpF.callM (L1 := []) (by rw [List.append_nil]; exact HpF.of hw) (Hp.nob h3)) (fun k hk => .inr hk), memN h3⟩) (fun μ2 hμ2 => ?_)
    obtain ⟨ok2, hby2, hr2⟩ := hμ2
    have hpm2 := su_pm hby2 hr2
    refine wd_at rfl ?_
    (refine wd_free ?_ (.some rfl rfl) rfl (yf_makeIface rfl Tryd.underlying44 rfl) ?_; (· rfl);  skip)
    refine wd_at rfl ?_
    refine wd_callG (C := fun μ3 : Mm => μ3.Ok ∧ μ2.Same μ3 ∧ μ3.pm = (evalM j.b (suV x) (suM x)).2) (val := fun _ => .agg (ouL out).toArray) (S' := fun μ3 => Hp (fun _ => False) w_0 ((((b10, bk 41 (ouL out)) :: ([(b9, bk 28 (blkC c)), (b8, bk 28 (blkC j)), (b5, bk 37 (suC x)), (b4, bk 23 [.int .i64 q0, .int .i64 q1, .int .i64 q2])] ++ memL μ'))) ++ memL μ3) (c.rows ++ (j.rows ++ (i.rows ++ []))) (X2 A s x w_0.heap.size)) (.some rfl rfl) rfl (by kernel_rfl) rfl (fun _ _ => Hp.stab) (fun w hw hj' => by
      have := irEval_call j hj (by omega) hvo ok2 (fun p hp => HpG.own hw.hp p (List.mem_append_right _ hp)) (BRd.ofR hw.hp fun r hr => List.mem_append_right _ (List.mem_append_left _ hr))
      rw [hpm2, hout] at this
      exact this.mono fun e w' ⟨μ3, h1, h2, h3⟩ => ⟨μ3, h1, h2, (HpG.keep h3).mono fun q _ hq => .inl hq, J4.keep hj' (HpG.keep h3) (HpG.notin hw.hp (p := (b8, bk 28 (blkC j))) (by simp)) (HpG.notin hw.hp (p := (b9, bk 28 (blkC c))) (by simp)) (HpG.notin hw.hp (p := (b10, bk 41 (ouL out))) (by simp)) (HpG.notin hw.hp (p := (b5, bk 37 (suC x))) (by simp)), Hp.callM hw.hp h3⟩) (fun μ3 hμ3 => ?_)
    have hsame : sameD j.b c.b = true := by rw [hcb, sameD, decide_eq_true ⟨rfl, rfl, rfl⟩]
    refine wd_at rfl ?_
    (refine wd_free ?_ (.some rfl rfl) rfl (YF.anti (yf_loadRowJ rfl Tryd.underlying41 rfl (ou32 h28)) (fun _ h => h.2.1)) ?_; (· rfl);  skip)
    refine wd_at rfl ?_
    (refine wd_free ?_ (.some rfl rfl) rfl (yf_eqlAgg (r := true) rfl rfl (by kernel_rfl) (fun W => eqOut h28 W)) ?_; (· rfl);  skip)
    refine wd_at rfl ?_
    (refine wd_free ?_ .none rfl (yf_pickT rfl rfl) ?_; (· rfl);  skip)
    refine wd_at rfl ?_
    (refine wd_free ?_ .none rfl (yf_move rfl) ?_; (· rfl);  skip)
    refine wd_split 47 rfl (fun hb => ?_) (fun hb => ?_)
    · skip
      refine wd_at rfl ?_
      (refine wd_free ?_ (.some rfl rfl) rfl (YF.anti (yf_loadRowJ rfl Tryd.underlying28 rfl (by kernel_rfl)) (fun _ h => h.1.1)) ?_; (· rfl);  skip)
      refine wd_at rfl ?_
      (refine wd_free ?_ (.some rfl rfl) rfl (YF.anti (yf_loadRowJ rfl Tryd.underlying28 rfl (by kernel_rfl)) (fun _ h => h.1.2)) ?_; (· rfl);  skip)
      refine wd_at rfl ?_
      refine wd_pureG (.some rfl rfl) rfl (by kernel_rfl) rfl (fun _ _ h hx => HpG.onE h hx) J4.ext (fun w hw => by
        have := blkSame_any j c w (BRd.of hw fun r hr => List.mem_append_right _ (List.mem_append_left _ hr)) (BRd.of hw fun r hr => List.mem_append_left _ hr) hj2 hc2
        rw [hsame] at this
        exact this) ?_
      refine wd_at rfl ?_
      (refine wd_free ?_ .none rfl (yf_pickT rfl rfl) ?_; (· rfl);  skip)
      refine wd_at rfl ?_
      (refine wd_free ?_ .none rfl (yf_move rfl) ?_; (· rfl);  skip)
      refine wd_split 52 rfl (fun hb => ?_) (fun hb => ?_)
      · skip
        refine wd_at rfl ?_
        (refine wd_free ?_ (.some rfl rfl) rfl (YF.anti (yf_loadRowJ rfl Tryd.underlying28 rfl (by kernel_rfl)) (fun _ h => h.1.2)) ?_; (· rfl);  skip)
        refine wd_at rfl ?_
        refine wd_pureG (.some rfl rfl) rfl (by kernel_rfl) rfl (fun _ _ h hx => HpG.onE h hx) J4.ext (fun w hw => by
          have := valid_call (BRd.of hw fun r hr => List.mem_append_left _ hr) hcn (by omega)
          rw [hcb] at this
          exact this) ?_
        refine wd_at rfl ?_
        (refine wd_free ?_ (.some rfl rfl) rfl (yf_move rfl) ?_; (· rfl);  skip)
        refine wd_at rfl ?_
        (refine wd_free ?_ (.some rfl rfl) rfl (yf_bool_eqlC rfl rfl Tryd.underlying4 (beq_self_eq_true _)) ?_; (· rfl);  skip)
        refine wd_at rfl ?_
        (refine wd_free ?_ .none rfl (yf_pickT rfl rfl) ?_; (· rfl);  skip)
        refine wd_at rfl ?_
        (refine wd_free ?_ .none rfl (yf_move rfl) ?_; (· rfl);  skip)
        refine wd_split 58 rfl (fun hb => ?_) (fun hb => ?_)
        · skip
          refine wd_at rfl ?_
          (refine wd_free ?_ (.some rfl rfl) rfl (YF.anti (yf_loadRowJ rfl Tryd.underlying28 rfl (by kernel_rfl)) (fun _ h => h.1.2)) ?_; (· rfl);  skip)
          refine wd_at rfl ?_
          refine wd_pureG (.some rfl rfl) rfl (by kernel_rfl) rfl (fun _ _ h hx => HpG.onE h hx) J4.ext (fun w hw => by
            have := print_any c w (BRd.of hw fun r hr => List.mem_append_left _ hr) hc2 pc (hT.ext (HpG.keep hw).ext)
            rw [hcb] at this
            exact this) ?_
          refine wd_at rfl ?_
          (refine wd_free ?_ (.some rfl rfl) rfl (yf_move rfl) ?_; (· rfl);  skip)
          refine wd_at rfl ?_
          (refine wd_free ?_ (.some rfl rfl) rfl (yf_strs_eqlC rfl rfl Tryd.underlying9 (decide_eq_true rfl)) ?_; (· rfl);  skip)
          refine wd_at rfl ?_
          (refine wd_free ?_ .none rfl (yf_pickT rfl rfl) ?_; (· rfl);  skip)
          refine wd_at rfl ?_
          (refine wd_free ?_ .none rfl (yf_assign rfl) ?_; (· rfl);  skip)
          refine wd_endH ?_
          refine wq_then ?_
          refine wc_ret ?_
          refine wq_ret1 rfl rfl (fun w hw => ?_)
          exact ⟨rfl, (HpG.keep hw).ext⟩
        · skip
          cases hb
      · skip
        cases hb
    · skip
      cases hb
  · skip
    cases hb
end Go.Proofs.YtojofinofpgopaaDoor
