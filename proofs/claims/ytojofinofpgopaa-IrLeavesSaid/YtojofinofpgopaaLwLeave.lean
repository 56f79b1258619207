/- The walk of IrLeaves. -/
import Derived.Test.YtojofinofpgopaaCut
namespace Go.Proofs.Ytojofinofpgopaa
open Go.RowKit
theorem wc_fact {P : Program} {c : Code} {Q : Exit → Act → World → Prop} {n : Nat} {m : List (Nat × Value)} {H : World → Prop} {p : Prop} (hp : ∀ w, H w → p) (h : p → WC P c Q n m H) : WC P c Q n m H := fun a w hs hw => h (hp w hw) a w hs hw
def gzL (v : List Int) : List Int := v.take 19 ++ List.replicate 9 0
theorem gzL_len {v : List Int} (h : v.length = 28) : (gzL v).length = 28 := by simp [gzL, h]
theorem clr_row {v : List Int} (hv : v.length = 28) : (u32s v).take 19 ++ List.replicate 9 (.int .u32 0) ++ (u32s v).drop (19 + 9) = u32s (gzL v) := by
  rw [List.drop_of_length_le (by rw [us_len, hv]; omega), List.append_nil]
  simp [u32s, gzL]
theorem pm_eq {μ μ' : Mm} (h : μ.pm = μ'.pm) : μ.rs = μ'.rs ∧ μ.bytes = μ'.bytes := by
  injection h with h
  injection h with h1 h2
  exact ⟨h1, h2⟩
section
variable {P : Program} {n : Nat} {m : List (Nat × Value)} {ty : TypeId} {G B : Nat → Prop} {w0 w : World} {L : List (Nat × Obj)} {R : List Rw} {X J : World → Prop} {Q : Exit → Act → World → Prop} {ops : Array Oper} {σ : List Nat}
/-- A drawn region; the blocks known ahead are old. -/
theorem wc_drawTNb {id : Nat} {l : List Oper} (k : Nat) (σ : List Nat) (J : World → Prop) (hm : P.follows .mixedOrders = true) (hB : okT l.toArray k σ = true) (hJ : AStab J) (hj : ∀ w, Hp B w0 L R X w → J w)
    (h : ∀ n0, w0.heap.size ≤ n0 → (∀ j ∈ blks L R, j < n0) → WD P l.toArray J (fun _ a w => wpList P l.toArray Q (l.drop k) a w) σ (fun j => j < n0) n m (HpG (fun j => j < n0) B w0 L R X)) : WC P (.region id l.toArray true) Q n m (Hp B w0 L R X) := fun a w hs hw =>
  region_ST (J := J) hm hB (fun k => k < w.heap.size) (HpG (fun k => k < w.heap.size) B w0 L R X) HpG.stab hJ (HpG.drew hw.inn) (hj _ (Hp.drew hw)) (fun _ h => h) (h w.heap.size (HpG.size hw) (HpG.lt hw) a hs)
theorem HpF.joinG (h : HpF G B w0 L R X w) {g T : Nat} {cs : List Value} (hg : w.heap[g]? = some (bk T cs)) (hG : ¬ G g) (hm : w0.heap.size ≤ g) (hL : ∀ p ∈ L, G p.1 ∨ p.2 ≠ bk T cs) (hR : ∀ r ∈ R, r.E ≠ T) : HpF (fun k => k = g ∨ G k) B w0 ((g, bk T cs) :: L) R X w := by
  have h1 : g ∉ L.map (·.1) := fun hm => by
    obtain ⟨p, hp, e⟩ := List.mem_map.1 hm
    rcases hL p hp with h2 | h2
    · rw [e] at h2; exact hG h2
    · have := HpG.own h.hp p hp
      rw [e, hg] at this
      injection this with this
      exact h2 this.symm
  have h2 : g ∉ R.filterMap (·.v.ownBlock) := fun hm => by
    obtain ⟨r, hr, e⟩ := List.mem_filterMap.1 hm
    obtain ⟨_, hrow⟩ := HpG.rows h.hp r hr
    rcases hrow with ⟨hv, _⟩ | ⟨g', cap, cur, hv, _, hh, _⟩
    · rw [hv] at e; simp [Value.ownBlock] at e
    · rw [hv] at e
      simp [Value.ownBlock] at e
      subst e
      rw [hg] at hh
      injection hh with hh
      injection hh with _ hE _
      exact hR r hr hE.symm
  obtain ⟨F, hF, hX⟩ := h.ft
  have hF' : ∀ k, F k → k < w.heap.size ∧ ¬ B k ∧ k ∉ blks ((g, bk T cs) :: L) R ∧ (k = g ∨ G k) := fun k hk => by
    obtain ⟨a1, a2, a3, a4⟩ := hF k hk
    refine ⟨a1, a2, fun hm => ?_, .inr a4⟩
    rcases List.mem_cons.1 hm with rfl | hm
    · exact hG a4
    · exact a3 hm
  refine ⟨⟨HpG.keep h.hp, fun p hp => ?_, fun p hp => ?_, HpG.rows h.hp, ?_, fun _ _ => trivial, F, fun k hk => ⟨(hF' k hk).1, (hF' k hk).2.1, (hF' k hk).2.2.1, trivial⟩, hX⟩, F, hF', hX⟩
  · rcases List.mem_cons.1 hp with rfl | hp
    · exact hg
    · exact HpG.own h.hp p hp
  · rcases List.mem_cons.1 hp with rfl | hp
    · exact .inl hm
    · exact HpG.mine h.hp p hp
  · refine List.nodup_cons.2 ⟨fun hm => ?_, HpG.nd h.hp⟩
    rcases List.mem_append.1 hm with hm | hm
    · exact h1 hm
    · exact h2 hm
theorem wd_newFG {op : Op} {d : Nat} {pos : String} {af : Array Edge} {g : Option (Nat × Bool)} {T : Nat} {cs : List Value} {f : Nat → Value} (hk : kd ⟨some d, op, ty, pos, af, g⟩ = .new) (hg : Gd ops m g) (hd : Nat.blt d n = true) (hG : ∀ k, k < w0.heap.size → G k)
    (hn : NF P op ty n m (bk T cs) f) (hL : ∀ p ∈ L, G p.1 ∨ p.2 ≠ bk T cs) (hR : ∀ r ∈ R, r.E ≠ T) (h : ∀ b, ¬ G b → WD P ops J Q σ (fun k => k = b ∨ G k) n ((d, f b) :: m) (HpF (fun k => k = b ∨ G k) B w0 ((b, bk T cs) :: L) R X)) : WDo P ops J Q ⟨some d, op, ty, pos, af, g⟩ σ G n m (HpF G B w0 L R X) :=
  wd_new hk hg hd hn fun b hb => wd_weak (fun w ⟨h1, h2⟩ => h1.joinG h2 hb (Nat.le_of_not_lt fun hlt => hb (hG b hlt)) hL hR) (h b hb)
end
theorem rows2_no {A A' : Option Addr} {c c' : Nat} {l : List Int} {l' : List IOp} {T : Nat} (h : Nat.beq 34 T = false ∧ Nat.beq 36 T = false) : ∀ r ∈ [u32Row A c l, opRow A' c' l'], r.E ≠ T := fun r hr => by
  obtain ⟨h1, h2⟩ := h
  simp only [List.mem_cons, List.not_mem_nil, or_false] at hr
  rcases hr with rfl | rfl <;> intro e <;> subst e
  · simp [u32Row] at h1
  · simp [opRow] at h2
set_option maxRecDepth 100000 in
set_option maxHeartbeats 4000000 in
theorem irLeaves_any (A : Option Addr) (cap : Nat) (s : List Int) (x : Su) (hu : ∀ v ∈ x.v, U32 v) (w_0 : World) (hA : X2 A s x w_0.heap.size w_0) (hl : s.length ≤ maxLen) (hc : s.length ≤ cap) :
    Calls Try.prog 10 #[.slice A s.length cap, .agg (suC x).toArray] w_0 fun e w' => e = .returned (.bool true) ∧ Below w_0.heap.size w_0 w' := by
  have hm : 200000 ≤ maxLen := by unfold maxLen; omega
  have hvo := suV_ok hu
  obtain ⟨z, hz, hz0⟩ := min_nat s.length
  refine calls_wc (args := [.slice A s.length cap, .agg (suC x).toArray]) Try.func10 rfl 133 rfl (Nat.le_of_ble_eq_true rfl) ?_
  refine wc_weak (.cons (i := 0) rfl <| .cons (i := 1) rfl <| .nil) ?_
  refine wc_conseq (H' := Hp (fun _ => False) w_0 [] [] (X2 A s x w_0.heap.size)) (fun u hu => ?_) ?_
  · subst hu; exact Hp.start hA.foot
  refine wc_seq ?_
  refine wc_region ?_
  refine wl_new .none rfl (nf_box rfl rfl) (fun b3 => ?_)
  refine wl_free .none rfl (yf_assign rfl) ?_
  refine wl_nil ?_
  refine wq_then ?_
  refine wc_seq ?_
  refine wc_region ?_
  refine wl_pure .none rfl (by kernel_rfl) rfl (fun w hw => sanity_any w) ?_
  refine wl_free .none rfl (yf_assign rfl) ?_
  refine wl_nil ?_
  refine wq_then ?_
  refine wc_seq ?_
  refine wc_weak (.cons (i := 0) rfl <| .cons (i := 1) rfl <| .cons (i := 3) rfl <| .cons (i := 4) rfl <| .cons (i := 5) rfl <| .nil) ?_
  refine wc_region ?_
  refine wl_free .none rfl (yf_move rfl) ?_
  refine wl_free .none rfl (yf_move rfl) ?_
  refine wl_free .none rfl (yf_lenS rfl Try.underlying23) ?_
  refine wl_free .none rfl (yf_min rfl rfl) ?_
  (refine wl_free .none rfl (yf_sliceHi (size := 1) rfl rfl Try.underlying23 (by kernel_rfl) hz ?_) ?_; (· omega); skip)
  refine wl_callR .none rfl (by kernel_rfl) rfl (fun w hw => made_call (HpG.x hw).1 z hz0 hl) (fun i hi => ?_)
  obtain ⟨hi, hv⟩ := hi
  refine wl_new .none rfl (nf_alloc (z := .agg #[.slice none 0 0, .slice none 0 0, .slice none 0 0]) (cs := [.slice none 0 0, .slice none 0 0, .slice none 0 0]) (by kernel_rfl) rfl) (fun b6 => ?_)
  first | refine wl_chain0 .none (cf_storeRow 0 rfl rfl rfl rfl rfl (by kernel_rfl)) (fun _ => ?_) | refine wl_chain0 .none (cf_storeRow 1 rfl rfl rfl rfl rfl (by kernel_rfl)) (fun _ => ?_) | refine wl_chain0 .none (cf_storeRow 2 rfl rfl rfl rfl rfl (by kernel_rfl)) (fun _ => ?_) | refine wl_chain0 .none (cf_storeRow 3 rfl rfl rfl rfl rfl (by kernel_rfl)) (fun _ => ?_) | refine wl_chain0 .none (cf_storeRow 4 rfl rfl rfl rfl rfl (by kernel_rfl)) (fun _ => ?_) | refine wl_chain0 .none (cf_storeRow 5 rfl rfl rfl rfl rfl (by kernel_rfl)) (fun _ => ?_)
  refine wl_nil ?_
  refine wq_then ?_
  refine wc_seq ?_
  refine wc_weak (.cons (i := 0) rfl <| .cons (i := 1) rfl <| .cons (i := 3) rfl <| .cons (i := 4) rfl <| .cons (i := 5) rfl <| .cons (i := 6) rfl <| .nil) ?_
  refine wc_region ?_
  first | refine wl_free .none rfl (yf_loadAllL 0 rfl rfl Try.underlying50 rfl (by kernel_rfl)) ?_ | refine wl_free .none rfl (yf_loadAllL 1 rfl rfl Try.underlying50 rfl (by kernel_rfl)) ?_ | refine wl_free .none rfl (yf_loadAllL 2 rfl rfl Try.underlying50 rfl (by kernel_rfl)) ?_ | refine wl_free .none rfl (yf_loadAllL 3 rfl rfl Try.underlying50 rfl (by kernel_rfl)) ?_ | refine wl_free .none rfl (yf_loadAllL 4 rfl rfl Try.underlying50 rfl (by kernel_rfl)) ?_ | refine wl_free .none rfl (yf_loadAllL 5 rfl rfl Try.underlying50 rfl (by kernel_rfl)) ?_
  refine wl_callN .none rfl (by kernel_rfl) rfl (fun w hw => memory_any x w) (fun μ hμ => ?_)
  obtain ⟨ok, hby, hr⟩ := hμ
  have hpm := su_pm hby hr
  have hE28 : (evalM i.b (suV x) μ.pm).1.vars.length = 28 := evalM_len hvo.1 _ _
  refine wl_free .none rfl (yf_assign rfl) ?_
  refine wl_nil ?_
  refine wq_then ?_
  refine wc_seq ?_
  refine wc_weak (.cons (i := 0) rfl <| .cons (i := 1) rfl <| .cons (i := 3) rfl <| .cons (i := 4) rfl <| .cons (i := 5) rfl <| .cons (i := 6) rfl <| .cons (i := 7) rfl <| .nil) ?_
  refine wc_drawTN 7 [0, 1, 2, 3, 4, 5, 6] (J2 b6 b3 (bk 26 (blkC i)) (bk 50 (suC x))) (by kernel_rfl) (by kernel_rfl) J2.stab (fun _ h => ⟨HpG.blk h (k := 0) rfl, HpG.blk h (k := 1) rfl⟩) (fun n0 hn0 => ?_)
  refine wd_at rfl ?_
  (refine wd_free ?_ .none rfl (YF.anti (yf_loadRowJ rfl Try.underlying26 rfl (by kernel_rfl)) (fun _ h => h.1)) ?_; (· rfl);  skip)
  refine wd_at rfl ?_
  (refine wd_free ?_ .none rfl (YF.anti (yf_loadRowJ rfl Try.underlying50 rfl (by kernel_rfl)) (fun _ h => h.2)) ?_; (· rfl);  skip)
  refine wd_at rfl ?_
  refine wd_pure .none rfl (by kernel_rfl) rfl J2.ext (fun w hw => vars_any x w (HpG.x hw).2) ?_
  refine wd_at rfl ?_
  (refine wd_free ?_ .none rfl (yf_move rfl) ?_; (· rfl);  skip)
  refine wd_at rfl ?_
  (refine wd_free ?_ .none rfl (yf_makeIface rfl Try.underlying51 rfl) ?_; (· rfl);  skip)
  refine wd_at rfl ?_
  refine wd_callG (C := fun μ' : Mm => μ'.Ok ∧ μ.Same μ' ∧ μ'.pm = (evalM i.b (suV x) μ.pm).2) (val := fun _ => .agg (ouL (evalM i.b (suV x) μ.pm).1).toArray) (S' := fun μ' => HpF (fun k => k < n0) (fun _ => False) w_0 ([(b6, bk 26 (blkC i)), (b3, bk 50 (suC x))] ++ memL μ') (i.rows ++ []) (X2 A s x w_0.heap.size)) .none rfl (by kernel_rfl) rfl (fun _ _ => HpF.stab) (fun w hw hj' => by
    have hw : HpG (fun k => k < n0) (fun _ => False) w_0 ([(b6, bk 26 (blkC i)), (b3, bk 50 (suC x))] ++ memL μ) (i.rows ++ []) (X2 A s x w_0.heap.size) w := hw
    exact (irEval_call i hi.n (by omega) hvo ok (fun p hp => HpG.own hw p (List.mem_append_right _ hp)) (BRd.ofR hw fun r hr => List.mem_append_left _ hr)).mono fun e w' ⟨μ', h1, h2, h3⟩ => ⟨μ', h1, h2, (HpG.keep h3).mono fun q _ hq => hw.inG q (List.mem_append_left _ (by rw [List.map_append]; exact List.mem_append_right _ hq)), ⟨Blk.keep hj'.1 (HpG.keep h3) (HpG.notin hw (p := (b6, _)) (List.mem_cons_self ..)), Blk.keep hj'.2 (HpG.keep h3) (HpG.notin hw (p := (b3, _)) (List.mem_cons_of_mem _ (List.mem_cons_self ..)))⟩, HpF.callM (HpF.of hw) h3⟩) (fun μ' hμ' => ?_)
  obtain ⟨ok', same', hpm'⟩ := hμ'
  refine wd_at rfl ?_
  refine wd_newF rfl .none rfl (fun k hk => Nat.lt_of_lt_of_le hk hn0) (nf_alloc (z := .agg (ouL zeroOut).toArray) (cs := ouL zeroOut) (by kernel_rfl) rfl) (no_append (no_cons rfl (no_cons rfl (fun p hp => by cases hp))) (memL_no ⟨rfl, rfl, rfl⟩)) (no_appR (rows_no ⟨rfl, rfl, rfl⟩) no_nilR) (fun b8 _ => ?_)
  refine wd_endTF ?_
  simp only [List.drop_succ_cons, List.drop_zero]
  refine wl_chain0 .none (cf_storeAll (seg := ouL (evalM i.b (suV x) μ.pm).1) 0 rfl rfl rfl (fun v hv => List.all_eq_true.1 (ouL_all _) v hv) (by rw [ouL_len, hE28]; rfl) (ou32 hE28)) (fun _ => ?_)
  refine wl_nil ?_
  refine wq_then ?_
  refine wc_seq ?_
  refine wc_seq ?_
  refine wc_weak (.cons (i := 0) rfl <| .cons (i := 1) rfl <| .cons (i := 3) rfl <| .cons (i := 4) rfl <| .cons (i := 5) rfl <| .cons (i := 6) rfl <| .cons (i := 7) rfl <| .cons (i := 8) rfl <| .nil) ?_
  refine wc_region ?_
  refine wl_free .none rfl (yf_fieldAddr (off := 0) (sz := 0) rfl Try.underlying39 (by kernel_rfl) rfl) ?_
  refine wl_free .none rfl (yf_loadL (v := .bool (evalM i.b (suV x) μ.pm).1.lv) 0 rfl rfl rfl Try.underlying4 rfl) ?_
  refine wl_free .none rfl (yf_not rfl) ?_
  refine wl_nil ?_
  refine wq_then ?_
  refine wc_cond rfl (fun hc => ?_) (fun hc => ?_)
  · skip
    have hlv : (evalM i.b (suV x) μ.pm).1.lv = false := by simpa using hc
    obtain ⟨hidx, hdone⟩ := stays_law hv (v := suV x) μ.pm hlv
    refine wc_seq ?_
    refine wc_weak (.cons (i := 0) rfl <| .cons (i := 1) rfl <| .cons (i := 3) rfl <| .cons (i := 4) rfl <| .cons (i := 5) rfl <| .cons (i := 6) rfl <| .cons (i := 7) rfl <| .cons (i := 8) rfl <| .cons (i := 30) rfl <| .nil) ?_
    refine wc_region ?_
    refine wl_free .none rfl (yf_move rfl) ?_
    refine wl_free .none rfl (yf_move rfl) ?_
    refine wl_split 32 rfl (fun hb => ?_) (fun hb => ?_)
    · skip
      refine wl_free (.some rfl rfl) rfl (yf_fieldAddr (off := 1) (sz := 0) rfl Try.underlying39 (by kernel_rfl) rfl) ?_
      refine wl_free (.some rfl rfl) rfl (yf_loadL (v := .int .i64 (evalM i.b (suV x) μ.pm).1.idx) 0 rfl rfl rfl Try.underlying3 rfl) ?_
      refine wl_free (.some rfl rfl) rfl (yf_eql rfl rfl) ?_
      refine wl_free .none rfl (yf_pickT rfl rfl) ?_
      refine wl_free .none rfl (yf_move rfl) ?_
      refine wl_split 37 rfl (fun hb => ?_) (fun hb => ?_)
      · replace hb := eq_of_beq hb
        refine wl_free (.some rfl rfl) rfl (yf_fieldAddr (off := 2) (sz := 0) rfl Try.underlying39 (by kernel_rfl) rfl) ?_
        refine wl_free (.some rfl rfl) rfl (yf_loadL (v := .int .i64 (evalM i.b (suV x) μ.pm).1.done) 0 rfl rfl rfl Try.underlying3 rfl) ?_
        refine wl_free (.some rfl rfl) rfl (yf_fieldAddr (off := 0) (sz := 0) rfl Try.underlying26 (by kernel_rfl) rfl) ?_
        refine wl_free (.some rfl rfl) rfl (yf_loadL 1 rfl rfl rfl Try.underlying22 rfl) ?_
        refine wl_free (.some rfl rfl) rfl (yf_lenS rfl Try.underlying22) ?_
        refine wl_free (.some rfl rfl) rfl (yf_eql rfl rfl) ?_
        refine wl_free .none rfl (yf_pickT rfl rfl) ?_
        refine wl_free .none rfl (yf_assign rfl) ?_
        refine wl_nil ?_
        refine wq_then ?_
        refine wc_ret ?_
        refine wq_then_ret ?_
        refine wq_ret1 rfl rfl (fun w hw => ?_)
        exact ⟨by rw [hdone]; simp, (HpG.keep hw).ext⟩
      · replace hb := beq_no hb
        exact absurd hidx hb
    · skip
      cases hb
  · skip
    have hlv : (evalM i.b (suV x) μ.pm).1.lv = true := by simpa using hc
    obtain ⟨ii, hidx, hii, hdone, hpc, hL0, hL1⟩ := leaves_law hv hvo.1 μ.pm hlv
    refine wc_skip ?_
    refine wq_then ?_
    refine wc_seq ?_
    refine wc_seq ?_
    refine wc_weak (.cons (i := 0) rfl <| .cons (i := 1) rfl <| .cons (i := 3) rfl <| .cons (i := 4) rfl <| .cons (i := 5) rfl <| .cons (i := 6) rfl <| .cons (i := 7) rfl <| .cons (i := 8) rfl <| .cons (i := 30) rfl <| .nil) ?_
    refine wc_fact (p := ∃ g o, i.aA = some ⟨g, o, none⟩) (fun w hw => by
      obtain ⟨g, o, e, _⟩ := (BRd.of hw fun r hr => List.mem_append_left _ hr).a (by show 0 < (i.b.at_.map _).length; rw [List.length_map]; omega)
      exact ⟨g, o, e⟩) (fun hAA => ?_)
    obtain ⟨gA, oA, hAA⟩ := hAA
    refine wc_draw0 [0, 1, 2, 3, 4, 5, 6, 7, 8, 9, 10, 11, 12, 13, 14, 15, 16, 17, 18, 19, 20, 21, 22, 23, 24, 25, 26, 27, 28] _ (by kernel_rfl) (by kernel_rfl) HpG.stab HpG.stab (fun _ h => HpG.drew h) (fun _ h => h) ?_
    refine wd_at rfl ?_
    (refine wd_free ?_ .none rfl (yf_fieldAddr (off := 1) (sz := 0) rfl Try.underlying39 (by kernel_rfl) rfl) ?_; (· rfl);  skip)
    refine wd_at rfl ?_
    (refine wd_free ?_ .none rfl (yf_loadL (v := .int .i64 (evalM i.b (suV x) μ.pm).1.idx) 0 rfl rfl rfl Try.underlying3 rfl) ?_; (· rfl);  skip)
    refine wd_at rfl ?_
    (refine wd_free ?_ .none rfl (yf_lss rfl rfl) ?_; (· rfl);  skip)
    refine wd_at rfl ?_
    (refine wd_free ?_ .none rfl (yf_move rfl) ?_; (· rfl);  skip)
    refine wd_split 48 rfl (fun hb => ?_) (fun hb => ?_)
    · replace hb := of_decide_eq_true hb
      omega
    · replace hb := of_decide_eq_false hb
      refine wd_at rfl ?_
      (refine wd_free ?_ (.some rfl rfl) rfl (yf_fieldAddr (off := 1) (sz := 0) rfl Try.underlying39 (by kernel_rfl) rfl) ?_; (· rfl);  skip)
      refine wd_at rfl ?_
      (refine wd_free ?_ (.some rfl rfl) rfl (yf_loadL (v := .int .i64 (evalM i.b (suV x) μ.pm).1.idx) 0 rfl rfl rfl Try.underlying3 rfl) ?_; (· rfl);  skip)
      refine wd_at rfl ?_
      (refine wd_free ?_ (.some rfl rfl) rfl (yf_fieldAddr (off := 0) (sz := 0) rfl Try.underlying26 (by kernel_rfl) rfl) ?_; (· rfl);  skip)
      refine wd_at rfl ?_
      (refine wd_free ?_ (.some rfl rfl) rfl (yf_loadL 1 rfl rfl rfl Try.underlying22 rfl) ?_; (· rfl);  skip)
      refine wd_at rfl ?_
      (refine wd_free ?_ (.some rfl rfl) rfl (yf_lenS rfl Try.underlying22) ?_; (· rfl);  skip)
      refine wd_at rfl ?_
      (refine wd_free ?_ (.some rfl rfl) rfl (yf_geq rfl rfl) ?_; (· rfl);  skip)
      refine wd_at rfl ?_
      (refine wd_free ?_ .none rfl (yf_pickF rfl rfl) ?_; (· rfl);  skip)
      refine wd_at rfl ?_
      (refine wd_free ?_ .none rfl (yf_move rfl) ?_; (· rfl);  skip)
      refine wd_split 56 rfl (fun hb => ?_) (fun hb => ?_)
      · replace hb := of_decide_eq_true hb
        omega
      · replace hb := of_decide_eq_false hb
        refine wd_at rfl ?_
        (refine wd_free ?_ (.some rfl rfl) rfl (yf_fieldAddr (off := 2) (sz := 0) rfl Try.underlying39 (by kernel_rfl) rfl) ?_; (· rfl);  skip)
        refine wd_at rfl ?_
        (refine wd_free ?_ (.some rfl rfl) rfl (yf_loadL (v := .int .i64 (evalM i.b (suV x) μ.pm).1.done) 0 rfl rfl rfl Try.underlying3 rfl) ?_; (· rfl);  skip)
        refine wd_at rfl ?_
        (refine wd_free ?_ (.some rfl rfl) rfl (yf_fieldAddr (off := 1) (sz := 0) rfl Try.underlying39 (by kernel_rfl) rfl) ?_; (· rfl);  skip)
        refine wd_at rfl ?_
        (refine wd_free ?_ (.some rfl rfl) rfl (yf_loadL (v := .int .i64 (evalM i.b (suV x) μ.pm).1.idx) 0 rfl rfl rfl Try.underlying3 rfl) ?_; (· rfl);  skip)
        refine wd_at rfl ?_
        (refine wd_free ?_ (.some rfl rfl) rfl (yf_neq rfl rfl) ?_; (· rfl);  skip)
        refine wd_at rfl ?_
        (refine wd_free ?_ .none rfl (yf_pickF rfl rfl) ?_; (· rfl);  skip)
        refine wd_at rfl ?_
        (refine wd_free ?_ .none rfl (yf_move rfl) ?_; (· rfl);  skip)
        refine wd_split 63 rfl (fun hb => ?_) (fun hb => ?_)
        · replace hb := bne_yes hb
          exact absurd (hdone.trans hidx.symm) hb
        · replace hb := bne_no hb
          refine wd_at rfl ?_
          (refine wd_free ?_ (.some rfl rfl) rfl (yf_fieldAddr (off := 3) (sz := 0) rfl Try.underlying39 (by kernel_rfl) rfl) ?_; (· rfl);  skip)
          refine wd_at rfl ?_
          (refine wd_free ?_ (.some rfl rfl) rfl (yf_loadL (v := .int .u32 (evalM i.b (suV x) μ.pm).1.pc) 0 rfl rfl rfl Try.underlying34 rfl) ?_; (· rfl);  skip)
          refine wd_at rfl ?_
          (refine wd_free ?_ (.some rfl rfl) rfl (yf_fieldAddr (off := 0) (sz := 0) rfl Try.underlying26 (by kernel_rfl) rfl) ?_; (· rfl);  skip)
          refine wd_at rfl ?_
          (refine wd_free ?_ (.some rfl rfl) rfl (yf_loadL 1 rfl rfl rfl Try.underlying22 rfl) ?_; (· rfl);  skip)
          refine wd_at rfl ?_
          (refine wd_free ?_ (.some rfl rfl) rfl (yf_fieldAddr (off := 1) (sz := 0) rfl Try.underlying39 (by kernel_rfl) rfl) ?_; (· rfl);  skip)
          refine wd_at rfl ?_
          (refine wd_free ?_ (.some rfl rfl) rfl (yf_loadL (v := .int .i64 (evalM i.b (suV x) μ.pm).1.idx) 0 rfl rfl rfl Try.underlying3 rfl) ?_; (· rfl);  skip)
          refine wd_at rfl ?_
          (refine wd_free ?_ (.some rfl rfl) rfl (yf_indexAddrS (g := gA) (o := oA) (j := ii) (es := 1) (by rw [← hAA]; rfl) rfl Try.underlying22 (by kernel_rfl) hidx hii rfl) ?_; (· rfl);  skip)
          refine wd_at rfl ?_
          (refine wd_free ?_ (.some rfl rfl) rfl (yf_load (v := .int .u32 (i.b.at_.getD ii 0)) rfl Try.underlying34 rfl (fun w h => by
            have := (BRd.of h fun r hr => List.mem_append_left _ hr).a.rd
            rw [hAA] at this
            exact this.at (i := ii) (by rw [List.length_map]; exact hii) (by omega) (us_at hii rfl))) ?_; (· rfl);  skip)
          refine wd_at rfl ?_
          (refine wd_free ?_ (.some rfl rfl) rfl (yf_neq rfl rfl) ?_; (· rfl);  skip)
          refine wd_at rfl ?_
          (refine wd_free ?_ .none rfl (yf_pickF rfl rfl) ?_; (· rfl);  skip)
          refine wd_end ?_
          refine wq_then ?_
          refine wc_cond rfl (fun hc => ?_) (fun hc => ?_)
          · replace hc := bne_yes hc
            exact absurd hpc hc
          · replace hc := bne_no hc
            refine wc_skip ?_
            refine wq_then ?_
            refine wc_seq ?_
            refine wc_weak (.cons (i := 0) rfl <| .cons (i := 1) rfl <| .cons (i := 3) rfl <| .cons (i := 4) rfl <| .cons (i := 5) rfl <| .cons (i := 6) rfl <| .cons (i := 7) rfl <| .cons (i := 8) rfl <| .cons (i := 30) rfl <| .cons (i := 73) rfl <| .nil) ?_
            refine wc_region ?_
            first | refine wl_free .none rfl (yf_loadAllL 0 rfl rfl Try.underlying50 rfl (by kernel_rfl)) ?_ | refine wl_free .none rfl (yf_loadAllL 1 rfl rfl Try.underlying50 rfl (by kernel_rfl)) ?_ | refine wl_free .none rfl (yf_loadAllL 2 rfl rfl Try.underlying50 rfl (by kernel_rfl)) ?_ | refine wl_free .none rfl (yf_loadAllL 3 rfl rfl Try.underlying50 rfl (by kernel_rfl)) ?_ | refine wl_free .none rfl (yf_loadAllL 4 rfl rfl Try.underlying50 rfl (by kernel_rfl)) ?_ | refine wl_free .none rfl (yf_loadAllL 5 rfl rfl Try.underlying50 rfl (by kernel_rfl)) ?_
            refine wl_callN .none rfl (by kernel_rfl) rfl (fun w hw => memory_any x w) (fun μ2 hμ2 => ?_)
            obtain ⟨ok2, hby2, hr2⟩ := hμ2
            have hpm2 := su_pm hby2 hr2
            refine wl_free .none rfl (yf_assign rfl) ?_
            refine wl_nil ?_
            refine wq_then ?_
            refine wc_seq ?_
            refine wc_seq ?_
            refine wc_weak (.cons (i := 0) rfl <| .cons (i := 1) rfl <| .cons (i := 3) rfl <| .cons (i := 4) rfl <| .cons (i := 5) rfl <| .cons (i := 6) rfl <| .cons (i := 7) rfl <| .cons (i := 8) rfl <| .cons (i := 9) rfl <| .cons (i := 30) rfl <| .cons (i := 73) rfl <| .nil) ?_
            refine wc_region ?_
            refine wl_free .none rfl (yf_fieldAddr (off := 1) (sz := 0) rfl Try.underlying39 (by kernel_rfl) rfl) ?_
            refine wl_free .none rfl (yf_loadL (v := .int .i64 (evalM i.b (suV x) μ.pm).1.idx) 0 rfl rfl rfl Try.underlying3 rfl) ?_
            refine wl_free .none rfl (yf_eql rfl rfl) ?_
            refine wl_nil ?_
            refine wq_then ?_
            refine wc_cond rfl (fun hc => ?_) (fun hc => ?_)
            · replace hc := eq_of_beq hc
              have hii0 : ii = 0 := by omega
              obtain ⟨hV, hM⟩ := hL0 hii0
              refine wc_seq ?_
              refine wc_weak (.cons (i := 0) rfl <| .cons (i := 1) rfl <| .cons (i := 3) rfl <| .cons (i := 4) rfl <| .cons (i := 5) rfl <| .cons (i := 6) rfl <| .cons (i := 7) rfl <| .cons (i := 8) rfl <| .cons (i := 9) rfl <| .cons (i := 30) rfl <| .cons (i := 73) rfl <| .cons (i := 78) rfl <| .nil) ?_
              refine wc_region ?_
              first | refine wl_free .none rfl (yf_loadAllL 0 rfl rfl Try.underlying50 rfl (by kernel_rfl)) ?_ | refine wl_free .none rfl (yf_loadAllL 1 rfl rfl Try.underlying50 rfl (by kernel_rfl)) ?_ | refine wl_free .none rfl (yf_loadAllL 2 rfl rfl Try.underlying50 rfl (by kernel_rfl)) ?_ | refine wl_free .none rfl (yf_loadAllL 3 rfl rfl Try.underlying50 rfl (by kernel_rfl)) ?_ | refine wl_free .none rfl (yf_loadAllL 4 rfl rfl Try.underlying50 rfl (by kernel_rfl)) ?_ | refine wl_free .none rfl (yf_loadAllL 5 rfl rfl Try.underlying50 rfl (by kernel_rfl)) ?_
              refine wl_pure .none rfl (by kernel_rfl) rfl (fun w hw => vars_any x w (HpG.x hw).2) ?_
              refine wl_new .none rfl (nf_alloc (z := .agg #[.int .u32 0, .int .u32 0, .int .u32 0, .int .u32 0, .int .u32 0, .int .u32 0, .int .u32 0, .int .u32 0, .int .u32 0, .int .u32 0, .int .u32 0, .int .u32 0, .int .u32 0, .int .u32 0, .int .u32 0, .int .u32 0, .int .u32 0, .int .u32 0, .int .u32 0, .int .u32 0, .int .u32 0, .int .u32 0, .int .u32 0, .int .u32 0, .int .u32 0, .int .u32 0, .int .u32 0, .int .u32 0]) (cs := [.int .u32 0, .int .u32 0, .int .u32 0, .int .u32 0, .int .u32 0, .int .u32 0, .int .u32 0, .int .u32 0, .int .u32 0, .int .u32 0, .int .u32 0, .int .u32 0, .int .u32 0, .int .u32 0, .int .u32 0, .int .u32 0, .int .u32 0, .int .u32 0, .int .u32 0, .int .u32 0, .int .u32 0, .int .u32 0, .int .u32 0, .int .u32 0, .int .u32 0, .int .u32 0, .int .u32 0, .int .u32 0]) (by kernel_rfl) rfl) (fun b10 => ?_)
              refine wl_chain0 .none (cf_storeAll (seg := u32s (suV x)) 0 rfl rfl rfl (ints_one' _) (by rw [us_len, hvo.1]; rfl) (u28l hvo.1)) (fun _ => ?_)
              refine wl_nil ?_
              refine wq_then ?_
              refine wc_seq ?_
              refine wc_weak (.cons (i := 0) rfl <| .cons (i := 1) rfl <| .cons (i := 3) rfl <| .cons (i := 4) rfl <| .cons (i := 5) rfl <| .cons (i := 6) rfl <| .cons (i := 7) rfl <| .cons (i := 8) rfl <| .cons (i := 9) rfl <| .cons (i := 10) rfl <| .cons (i := 30) rfl <| .cons (i := 73) rfl <| .cons (i := 78) rfl <| .nil) ?_
              refine wc_region ?_
              refine wl_free .none rfl (yf_sliceArrLo (i := 19) (size := 1) rfl rfl Try.underlying37 (by kernel_rfl) rfl (by decide) rfl rfl) ?_
              refine wl_chain0 .none (cf_clear (z := .int .u32 0) 0 rfl rfl Try.underlying22 zero32 rfl rfl (by decide) (by rw [us_len, hvo.1]; decide)) (fun _ => ?_)
              refine wl_conseq (H' := Hp (fun _ => False) w_0 ((b10, bk 37 (u32s (gzL (suV x)))) :: (((b8, bk 39 (ouL (evalM i.b (suV x) μ.pm).1)) :: ([(b6, bk 26 (blkC i)), (b3, bk 50 (suC x))] ++ memL μ')) ++ memL μ2)) (i.rows ++ []) (X2 A s x w_0.heap.size)) (fun u hu => ?_) ?_
              · rw [← clr_row hvo.1]; exact hu
              refine wl_nil ?_
              refine wq_then ?_
              refine wc_seq ?_
              refine wc_weak (.cons (i := 0) rfl <| .cons (i := 1) rfl <| .cons (i := 3) rfl <| .cons (i := 4) rfl <| .cons (i := 5) rfl <| .cons (i := 6) rfl <| .cons (i := 7) rfl <| .cons (i := 8) rfl <| .cons (i := 9) rfl <| .cons (i := 10) rfl <| .cons (i := 30) rfl <| .cons (i := 73) rfl <| .cons (i := 78) rfl <| .nil) ?_
              refine wc_region ?_
              refine wl_free .none rfl (yf_move rfl) ?_
              refine wl_free .none rfl (yf_move rfl) ?_
              refine wl_split 83 rfl (fun hb => ?_) (fun hb => ?_)
              · skip
                refine wl_free (.some rfl rfl) rfl (yf_fieldAddr (off := 4) (sz := 27) rfl Try.underlying39 (by kernel_rfl) rfl) ?_
                refine wl_free (.some rfl rfl) rfl (yf_loadRowL (seg := u32s (evalM i.b (suV x) μ.pm).1.vars) 1 rfl rfl (ouL_vars _) Try.underlying37 rfl (u28l hE28)) ?_
                refine wl_free (.some rfl rfl) rfl (yf_loadAllL 0 rfl rfl Try.underlying37 rfl (u28l (gzL_len hvo.1))) ?_
                refine wl_free (.some rfl rfl) rfl (yf_eqlAgg (r := true) rfl rfl (by kernel_rfl) (fun W => by rw [hV]; exact eq28 (gzL_len hvo.1) W)) ?_
                refine wl_free .none rfl (yf_pickT rfl rfl) ?_
                refine wl_free .none rfl (yf_move rfl) ?_
                refine wl_split 89 rfl (fun hb => ?_) (fun hb => ?_)
                · skip
                  refine wl_free (.some rfl rfl) rfl (yf_move rfl) ?_
                  refine wl_free (.some rfl rfl) rfl (yf_move rfl) ?_
                  refine wl_pure (.some rfl rfl) rfl (by kernel_rfl) rfl (fun w hw => by
                    have hpq := pm_eq ((hpm'.trans hM).trans (hpm.trans hpm2.symm))
                    rw [← same'.M]
                    exact memEqual_any μ' μ2 ok'.toWf ok2.toWf hpq.1 hpq.2 w ⟨fun p hp => HpG.own hw p (List.mem_cons_of_mem _ (List.mem_append_left _ (List.mem_cons_of_mem _ (List.mem_append_right _ hp)))), fun p hp => HpG.own hw p (List.mem_cons_of_mem _ (List.mem_append_right _ hp))⟩) ?_
                  refine wl_free .none rfl (yf_pickT rfl rfl) ?_
                  refine wl_free .none rfl (yf_assign rfl) ?_
                  refine wl_nil ?_
                  refine wq_then ?_
                  refine wc_ret ?_
                  refine wq_then_ret ?_
                  refine wq_ret1 rfl rfl (fun w hw => ?_)
                  exact ⟨rfl, (HpG.keep hw).ext⟩
                · skip
                  cases hb
              · skip
                cases hb
            · replace hc := beq_no hc
              have hii0 : 0 < ii := by omega
              obtain ⟨cv, cl, cp, cvs, cm⟩ := hL1 hii0
              refine wc_skip ?_
              refine wq_then ?_
              refine wc_seq ?_
              refine wc_weak (.cons (i := 0) rfl <| .cons (i := 1) rfl <| .cons (i := 3) rfl <| .cons (i := 4) rfl <| .cons (i := 5) rfl <| .cons (i := 6) rfl <| .cons (i := 7) rfl <| .cons (i := 8) rfl <| .cons (i := 9) rfl <| .cons (i := 30) rfl <| .cons (i := 73) rfl <| .cons (i := 78) rfl <| .nil) ?_
              refine wc_region ?_
              first | refine wl_free .none rfl (yf_loadAllL 0 rfl rfl Try.underlying26 rfl (by kernel_rfl)) ?_ | refine wl_free .none rfl (yf_loadAllL 1 rfl rfl Try.underlying26 rfl (by kernel_rfl)) ?_ | refine wl_free .none rfl (yf_loadAllL 2 rfl rfl Try.underlying26 rfl (by kernel_rfl)) ?_ | refine wl_free .none rfl (yf_loadAllL 3 rfl rfl Try.underlying26 rfl (by kernel_rfl)) ?_ | refine wl_free .none rfl (yf_loadAllL 4 rfl rfl Try.underlying26 rfl (by kernel_rfl)) ?_ | refine wl_free .none rfl (yf_loadAllL 5 rfl rfl Try.underlying26 rfl (by kernel_rfl)) ?_
              refine wl_free .none rfl (yf_fieldAddr (off := 1) (sz := 0) rfl Try.underlying39 (by kernel_rfl) rfl) ?_
              refine wl_free .none rfl (yf_loadL (v := .int .i64 (evalM i.b (suV x) μ.pm).1.idx) 0 rfl rfl rfl Try.underlying3 rfl) ?_
              refine wl_callR .none rfl (by kernel_rfl) rfl (fun w hw => by rw [hidx]; exact cut_any i ii w (BRd.of hw fun r hr => List.mem_append_left _ hr) hi.n hii) (fun j hj => ?_)
              obtain ⟨jb, jaA, jaP, jaO, jcA, jcP, jcO⟩ := j
              obtain ⟨e1, hjok, e2, e3⟩ := hj
              dsimp only at e1 e2 e3 hjok ⊢
              subst e1 e2 e3
              have hrows : ∀ r ∈ (⟨cutL i.b ii, jaA, i.aP, jaO, jcA, i.cP, jcO⟩ : BR).rows, r ∈ [u32Row jaA jcA (cutL i.b ii).at_, opRow jaO jcO (cutL i.b ii).ops] ++ (i.rows ++ []) := fun r hr => by
                simp only [BR.rows, List.mem_cons, List.not_mem_nil, or_false] at hr
                rcases hr with rfl | rfl | rfl
                · exact List.mem_cons_self ..
                · exact List.mem_cons_of_mem _ (List.mem_cons_self ..)
                · exact List.mem_append_right _ (List.mem_append_left _ (List.mem_cons_of_mem _ (List.mem_cons_of_mem _ (List.mem_cons_self ..))))
              have hC28 : (evalM (cutL i.b ii) (suV x) μ2.pm).1.vars.length = 28 := evalM_len hvo.1 _ _
              have hpp : μ2.pm = μ.pm := hpm2.trans hpm.symm
              rw [← hpp] at cl cp cvs cm
              refine wl_new .none rfl (nf_alloc (z := .agg #[.slice none 0 0, .slice none 0 0, .slice none 0 0]) (cs := [.slice none 0 0, .slice none 0 0, .slice none 0 0]) (by kernel_rfl) rfl) (fun b11 => ?_)
              first | refine wl_chain0 .none (cf_storeRow 0 rfl rfl rfl rfl rfl (by kernel_rfl)) (fun _ => ?_) | refine wl_chain0 .none (cf_storeRow 1 rfl rfl rfl rfl rfl (by kernel_rfl)) (fun _ => ?_) | refine wl_chain0 .none (cf_storeRow 2 rfl rfl rfl rfl rfl (by kernel_rfl)) (fun _ => ?_) | refine wl_chain0 .none (cf_storeRow 3 rfl rfl rfl rfl rfl (by kernel_rfl)) (fun _ => ?_) | refine wl_chain0 .none (cf_storeRow 4 rfl rfl rfl rfl rfl (by kernel_rfl)) (fun _ => ?_) | refine wl_chain0 .none (cf_storeRow 5 rfl rfl rfl rfl rfl (by kernel_rfl)) (fun _ => ?_)
              refine wl_nil ?_
              refine wq_then ?_
              refine wc_seq ?_
              refine wc_weak (.cons (i := 0) rfl <| .cons (i := 1) rfl <| .cons (i := 3) rfl <| .cons (i := 4) rfl <| .cons (i := 5) rfl <| .cons (i := 6) rfl <| .cons (i := 7) rfl <| .cons (i := 8) rfl <| .cons (i := 9) rfl <| .cons (i := 11) rfl <| .cons (i := 30) rfl <| .cons (i := 73) rfl <| .cons (i := 78) rfl <| .nil) ?_
              refine wc_drawTNb 7 [0, 1, 2, 3, 4, 5, 6] (J2 b11 b3 (bk 26 (blkC ⟨cutL i.b ii, jaA, i.aP, jaO, jcA, i.cP, jcO⟩)) (bk 50 (suC x))) (by kernel_rfl) (by kernel_rfl) J2.stab (fun _ h => ⟨HpG.blk h (k := 0) rfl, HpG.blk h (k := 3) rfl⟩) (fun n0 hn0 hold => ?_)
              refine wd_at rfl ?_
              (refine wd_free ?_ .none rfl (YF.anti (yf_loadRowJ rfl Try.underlying26 rfl (by kernel_rfl)) (fun _ h => h.1)) ?_; (· rfl);  skip)
              refine wd_at rfl ?_
              (refine wd_free ?_ .none rfl (YF.anti (yf_loadRowJ rfl Try.underlying50 rfl (by kernel_rfl)) (fun _ h => h.2)) ?_; (· rfl);  skip)
              refine wd_at rfl ?_
              refine wd_pure .none rfl (by kernel_rfl) rfl J2.ext (fun w hw => vars_any x w (HpG.x hw).2) ?_
              refine wd_at rfl ?_
              (refine wd_free ?_ .none rfl (yf_move rfl) ?_; (· rfl);  skip)
              refine wd_at rfl ?_
              (refine wd_free ?_ .none rfl (yf_makeIface rfl Try.underlying51 rfl) ?_; (· rfl);  skip)
              refine wd_at rfl ?_
              refine wd_callG (C := fun μ3 : Mm => μ3.Ok ∧ μ2.Same μ3 ∧ μ3.pm = (evalM (cutL i.b ii) (suV x) μ2.pm).2) (val := fun _ => .agg (ouL (evalM (cutL i.b ii) (suV x) μ2.pm).1).toArray) (S' := fun μ3 => HpF (fun k => k < n0) (fun _ => False) w_0 (((b11, bk 26 (blkC ⟨cutL i.b ii, jaA, i.aP, jaO, jcA, i.cP, jcO⟩)) :: (b8, bk 39 (ouL (evalM i.b (suV x) μ.pm).1)) :: ([(b6, bk 26 (blkC i)), (b3, bk 50 (suC x))] ++ memL μ')) ++ memL μ3) ([u32Row jaA jcA (cutL i.b ii).at_, opRow jaO jcO (cutL i.b ii).ops] ++ (i.rows ++ [])) (X2 A s x w_0.heap.size)) .none rfl (by kernel_rfl) rfl (fun _ _ => HpF.stab) (fun w hw hj' => by
                have hw : HpG (fun k => k < n0) (fun _ => False) w_0 (((b11, bk 26 (blkC ⟨cutL i.b ii, jaA, i.aP, jaO, jcA, i.cP, jcO⟩)) :: (b8, bk 39 (ouL (evalM i.b (suV x) μ.pm).1)) :: ([(b6, bk 26 (blkC i)), (b3, bk 50 (suC x))] ++ memL μ')) ++ memL μ2) ([u32Row jaA jcA (cutL i.b ii).at_, opRow jaO jcO (cutL i.b ii).ops] ++ (i.rows ++ [])) (X2 A s x w_0.heap.size) w := hw
                exact (irEval_call ⟨cutL i.b ii, jaA, i.aP, jaO, jcA, i.cP, jcO⟩ hjok (by omega) hvo ok2 (fun p hp => HpG.own hw p (List.mem_append_right _ hp)) (BRd.ofR hw hrows)).mono fun e w' ⟨μ', h1, h2, h3⟩ => ⟨μ', h1, h2, (HpG.keep h3).mono fun q _ hq => hw.inG q (List.mem_append_left _ (by rw [List.map_append]; exact List.mem_append_right _ hq)), ⟨Blk.keep hj'.1 (HpG.keep h3) (HpG.notin hw (p := (b11, _)) (List.mem_cons_self ..)), Blk.keep hj'.2 (HpG.keep h3) (HpG.notin hw (p := (b3, _)) (List.mem_cons_of_mem _ (List.mem_cons_of_mem _ (List.mem_append_left _ (List.mem_cons_of_mem _ (List.mem_cons_self ..))))))⟩, HpF.callM (HpF.of hw) h3⟩) (fun μ3 hμ3 => ?_)
              obtain ⟨ok3, same3, hpm3⟩ := hμ3
              refine wd_at rfl ?_
              refine wd_newFG rfl .none rfl (fun k hk => Nat.lt_of_lt_of_le hk hn0) (nf_alloc (z := .agg (ouL zeroOut).toArray) (cs := ouL zeroOut) (by kernel_rfl) rfl) (fun p hp => by
                rcases List.mem_append.1 hp with hp | hp
                · rcases List.mem_cons.1 hp with rfl | hp
                  · exact .inr (oty_ne (fun h => absurd (show (26 : Nat) = 39 from h) (by decide)))
                  rcases List.mem_cons.1 hp with rfl | hp
                  · exact .inl (hold b8 (List.mem_append_left _ (List.mem_cons_of_mem _ (List.mem_cons_self ..))))
                  · exact .inr (no_append (no_cons rfl (no_cons rfl (fun p hp => by cases hp))) (memL_no ⟨rfl, rfl, rfl⟩) p hp)
                · exact .inr (memL_no ⟨rfl, rfl, rfl⟩ p hp)) (no_appR (rows2_no ⟨rfl, rfl⟩) (no_appR (rows_no ⟨rfl, rfl, rfl⟩) no_nilR)) (fun b12 _ => ?_)
              refine wd_endTF ?_
              simp only [List.drop_succ_cons, List.drop_zero]
              refine wl_chain0 .none (cf_storeAll (seg := ouL (evalM (cutL i.b ii) (suV x) μ2.pm).1) 0 rfl rfl rfl (fun v hv => List.all_eq_true.1 (ouL_all _) v hv) (by rw [ouL_len, hC28]; rfl) (ou32 hC28)) (fun _ => ?_)
              refine wl_nil ?_
              refine wq_then ?_
              refine wc_seq ?_
              refine wc_weak (.cons (i := 0) rfl <| .cons (i := 1) rfl <| .cons (i := 3) rfl <| .cons (i := 4) rfl <| .cons (i := 5) rfl <| .cons (i := 6) rfl <| .cons (i := 7) rfl <| .cons (i := 8) rfl <| .cons (i := 9) rfl <| .cons (i := 11) rfl <| .cons (i := 12) rfl <| .cons (i := 30) rfl <| .cons (i := 73) rfl <| .cons (i := 78) rfl <| .nil) ?_
              refine wc_region ?_
              refine wl_free .none rfl (yf_move rfl) ?_
              refine wl_free .none rfl (yf_move rfl) ?_
              refine wl_split 105 rfl (fun hb => ?_) (fun hb => ?_)
              · skip
                first | refine wl_free (.some rfl rfl) rfl (yf_loadAllL 0 rfl rfl Try.underlying26 rfl (by kernel_rfl)) ?_ | refine wl_free (.some rfl rfl) rfl (yf_loadAllL 1 rfl rfl Try.underlying26 rfl (by kernel_rfl)) ?_ | refine wl_free (.some rfl rfl) rfl (yf_loadAllL 2 rfl rfl Try.underlying26 rfl (by kernel_rfl)) ?_ | refine wl_free (.some rfl rfl) rfl (yf_loadAllL 3 rfl rfl Try.underlying26 rfl (by kernel_rfl)) ?_ | refine wl_free (.some rfl rfl) rfl (yf_loadAllL 4 rfl rfl Try.underlying26 rfl (by kernel_rfl)) ?_ | refine wl_free (.some rfl rfl) rfl (yf_loadAllL 5 rfl rfl Try.underlying26 rfl (by kernel_rfl)) ?_
                refine wl_pure (v := .bool true) (.some rfl rfl) rfl (by kernel_rfl) rfl (fun w hw => (valid_call (i := ⟨cutL i.b ii, jaA, i.aP, jaO, jcA, i.cP, jcO⟩) (BRd.of hw hrows) hjok (by omega)).mono fun e w' h => ⟨h.1.trans (by show Ending.returned (.bool (validL (cutL i.b ii))) = _; rw [cv]), h.2⟩) ?_
                refine wl_free .none rfl (yf_pickT rfl rfl) ?_
                refine wl_free .none rfl (yf_move rfl) ?_
                refine wl_split 109 rfl (fun hb => ?_) (fun hb => ?_)
                · skip
                  refine wl_free (.some rfl rfl) rfl (yf_fieldAddr (off := 0) (sz := 0) rfl Try.underlying39 (by kernel_rfl) rfl) ?_
                  refine wl_free (.some rfl rfl) rfl (yf_loadL (v := .bool (evalM (cutL i.b ii) (suV x) μ2.pm).1.lv) 0 rfl rfl rfl Try.underlying4 rfl) ?_
                  refine wl_free (.some rfl rfl) rfl (yf_not rfl) ?_
                  refine wl_free .none rfl (yf_pickT rfl rfl) ?_
                  refine wl_free .none rfl (yf_move rfl) ?_
                  refine wl_split 114 rfl (fun hb => ?_) (fun hb => ?_)
                  · skip
                    refine wl_free (.some rfl rfl) rfl (yf_fieldAddr (off := 3) (sz := 0) rfl Try.underlying39 (by kernel_rfl) rfl) ?_
                    refine wl_free (.some rfl rfl) rfl (yf_loadL (v := .int .u32 (evalM (cutL i.b ii) (suV x) μ2.pm).1.pc) 0 rfl rfl rfl Try.underlying34 rfl) ?_
                    refine wl_free (.some rfl rfl) rfl (yf_fieldAddr (off := 3) (sz := 0) rfl Try.underlying39 (by kernel_rfl) rfl) ?_
                    refine wl_free (.some rfl rfl) rfl (yf_loadL (v := .int .u32 (evalM i.b (suV x) μ.pm).1.pc) 2 rfl rfl rfl Try.underlying34 rfl) ?_
                    refine wl_free (.some rfl rfl) rfl (yf_eql rfl rfl) ?_
                    refine wl_free .none rfl (yf_pickT rfl rfl) ?_
                    refine wl_free .none rfl (yf_move rfl) ?_
                    refine wl_split 121 rfl (fun hb => ?_) (fun hb => ?_)
                    · replace hb := eq_of_beq hb
                      refine wl_free (.some rfl rfl) rfl (yf_fieldAddr (off := 4) (sz := 27) rfl Try.underlying39 (by kernel_rfl) rfl) ?_
                      refine wl_free (.some rfl rfl) rfl (yf_loadRowL (seg := u32s (evalM (cutL i.b ii) (suV x) μ2.pm).1.vars) 0 rfl rfl (ouL_vars _) Try.underlying37 rfl (u28l hC28)) ?_
                      refine wl_free (.some rfl rfl) rfl (yf_fieldAddr (off := 4) (sz := 27) rfl Try.underlying39 (by kernel_rfl) rfl) ?_
                      refine wl_free (.some rfl rfl) rfl (yf_loadRowL (seg := u32s (evalM i.b (suV x) μ.pm).1.vars) 2 rfl rfl (ouL_vars _) Try.underlying37 rfl (u28l hE28)) ?_
                      refine wl_free (.some rfl rfl) rfl (yf_eqlAgg (r := true) rfl rfl (by kernel_rfl) (fun W => by rw [cvs, hpp]; exact eq28 hE28 W)) ?_
                      refine wl_free .none rfl (yf_pickT rfl rfl) ?_
                      refine wl_free .none rfl (yf_move rfl) ?_
                      refine wl_split 128 rfl (fun hb => ?_) (fun hb => ?_)
                      · skip
                        refine wl_free (.some rfl rfl) rfl (yf_move rfl) ?_
                        refine wl_free (.some rfl rfl) rfl (yf_move rfl) ?_
                        refine wl_pure (.some rfl rfl) rfl (by kernel_rfl) rfl (fun w hw => by
                          have hpq := pm_eq (hpm'.trans ((hpm3.trans cm).trans (by rw [hpp])).symm)
                          rw [← same'.M, ← same3.M]
                          exact memEqual_any μ' μ3 ok'.toWf ok3.toWf hpq.1 hpq.2 w ⟨fun p hp => HpG.own hw p (List.mem_cons_of_mem _ (List.mem_append_left _ (List.mem_cons_of_mem _ (List.mem_cons_of_mem _ (List.mem_append_right _ hp))))), fun p hp => HpG.own hw p (List.mem_cons_of_mem _ (List.mem_append_right _ hp))⟩) ?_
                        refine wl_free .none rfl (yf_pickT rfl rfl) ?_
                        refine wl_free .none rfl (yf_assign rfl) ?_
                        refine wl_nil ?_
                        refine wq_then ?_
                        refine wc_ret ?_
                        refine wq_ret1 rfl rfl (fun w hw => ?_)
                        exact ⟨rfl, (HpG.keep hw).ext⟩
                      · skip
                        cases hb
                    · replace hb := beq_no hb
                      exact absurd (cp.trans hpc.symm) hb
                  · skip
                    rw [cl] at hb; cases hb
                · skip
                  cases hb
              · skip
                cases hb
end Go.Proofs.Ytojofinofpgopaa
