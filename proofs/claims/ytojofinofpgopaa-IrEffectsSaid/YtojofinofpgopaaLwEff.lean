/- The walk of IrEffects. -/
import Derived.Test.YtojofinofpgopaaEffA
namespace Go.Proofs.Ytojofinofpgopaa
open Go.RowKit
theorem two_of : ∀ {l : List Int}, l.length = 2 → ∃ p q, l = [p, q]
  | [p, q], _ => ⟨p, q, rfl⟩
/-- The operation with its variables brought into range. -/
def normO (o : IOp) : IOp := ⟨o.code, if shD o.code then o.d % 19 else 0, if shA o.code then o.a % 19 else 0, if shB o.code then o.b % 19 else 0, if shN o.code then o.n else 0⟩
theorem norm_valid {o : IOp} (h : validL (oneL (normO o)) = false) : shI o.code = false ∨ o.code = 20 := by
  cases hI : shI o.code
  · exact .inl rfl
  · by_cases h20 : o.code = 20
    · exact .inr h20
    · exfalso
      have hI' : 1 ≤ o.code ∧ o.code ≤ 25 := by simpa [shI] using hI
      have rng : ∀ (c : Bool) (v : Int), 0 ≤ (if c then v % 19 else 0) ∧ (if c then v % 19 else 0) < 19 := fun c v => by
        cases c
        · rw [if_neg (by decide)]; exact ⟨by decide, by decide⟩
        · exact ⟨Int.emod_nonneg _ (by decide), Int.emod_lt_of_pos _ (by decide)⟩
      have := one_valid (o := normO o) hI'.1 hI'.2 h20 (rng _ _) (rng _ _) (rng _ _) (fun h => if_neg (by rw [show shD o.code = false from h]; decide)) (fun h => if_neg (by rw [show shA o.code = false from h]; decide)) (fun h => if_neg (by rw [show shB o.code = false from h]; decide)) (fun h => if_neg (by rw [show shN o.code = false from h]; decide))
      rw [h] at this; cases this
theorem valid_form {o : IOp} (h : validL (oneL o) = true) : okForm o = true := by
  have := (valid_facts h).form 1 (by show 1 < (⟨20, 0, 0, 0, 0⟩ :: o :: tailL o : List IOp).length; simp)
  exact this
theorem gzL_ok {v : List Int} (h : VarsOk v) : VarsOk (gzL v) := by
  refine ⟨gzL_len h.1, fun n hn => ?_⟩
  rcases List.mem_append.1 hn with hn | hn
  · exact h.2 n (List.mem_of_mem_take hn)
  · rw [List.eq_of_mem_replicate hn]; exact ⟨by decide, by decide⟩
theorem set_okV {v : List Int} (h : VarsOk v) {k : Nat} {x : Int} (hx : U32 x) : VarsOk (v.set k x) := by
  refine ⟨by rw [List.length_set]; exact h.1, fun n hn => ?_⟩
  rcases List.mem_or_eq_of_mem_set hn with hn | rfl
  · exact h.2 n hn
  · exact hx
set_option maxRecDepth 100000 in
set_option maxHeartbeats 8000000 in
theorem irEffects_any (o : IOp) (hun : U32 o.n) (x : Su) (hu : ∀ v ∈ x.v, U32 v) (p q : Int) (hp : U32 p) (hq : U32 q) (w_0 : World) (hA : RdIn (fun k => w_0.heap.size ≤ k) x.vA (u32s x.v) w_0) :
    Calls Try.prog 12 #[.agg (opC o).toArray, .agg (suC x).toArray, .agg (u32s [p, q]).toArray] w_0 fun e w' => e = .returned (.bool true) ∧ Below w_0.heap.size w_0 w' := by
  have hm : 200000 ≤ maxLen := by unfold maxLen; omega
  have hvo := suV_ok hu
  have hgz := gzL_ok hvo
  have hp0 := hp.1
  have hp1 := hp.2
  obtain ⟨kk, hkk, hk19⟩ : ∃ kk : Nat, p.tmod 19 = kk ∧ kk < 19 := ⟨(p % 19).toNat, by rw [Int.tmod_eq_emod_of_nonneg hp0]; omega, by omega⟩
  obtain ⟨o1, ho1⟩ : ∃ o1, normO o = o1 := ⟨_, rfl⟩
  have c1 : o.code = o1.code := by rw [← ho1]; rfl
  have un1 : U32 o1.n := by
    rw [← ho1]; show U32 (if shN o.code then o.n else 0)
    split
    · exact hun
    · exact ⟨by decide, by decide⟩
  have eD : o1.d = if shD o.code then o.d % 19 else 0 := by rw [← ho1]; rfl
  have eA : o1.a = if shA o.code then o.a % 19 else 0 := by rw [← ho1]; rfl
  have eB : o1.b = if shB o.code then o.b % 19 else 0 := by rw [← ho1]; rfl
  have eN : o1.n = if shN o.code then o.n else 0 := by rw [← ho1]; rfl
  have hinv : validL (oneL o1) = false → shI o1.code = false ∨ o1.code = 20 := fun h => by rw [← c1]; rw [← ho1] at h; exact norm_valid h
  have hX : ∃ F : Nat → Prop, (∀ k, F k → k < w_0.heap.size ∧ ¬ False) ∧ Foot F (RdIn (fun k => w_0.heap.size ≤ k) x.vA (u32s x.v)) w_0 := by
    obtain ⟨F, h2, h3⟩ := hA.foot'
    exact ⟨F, fun k hk => ⟨(h2 k hk).1, id⟩, h3⟩
  refine calls_wc (args := [.agg (opC o).toArray, .agg (suC x).toArray, .agg (u32s [p, q]).toArray]) Try.func12 rfl 206 rfl (Nat.le_of_ble_eq_true rfl) ?_
  refine wc_weak (.cons (i := 0) rfl <| .cons (i := 1) rfl <| .cons (i := 2) rfl <| .nil) ?_
  refine wc_conseq (H' := Hp (fun _ => False) w_0 [] [] (RdIn (fun k => w_0.heap.size ≤ k) x.vA (u32s x.v))) (fun u hu => ?_) ?_
  · subst hu; exact Hp.start hX
  refine wc_seq ?_
  refine wc_region ?_
  refine wl_new .none rfl (nf_box rfl rfl) (fun b3 => ?_)
  refine wl_new .none rfl (nf_box rfl rfl) (fun b4 => ?_)
  refine wl_new .none rfl (nf_box rfl rfl) (fun b5 => ?_)
  refine wl_free .none rfl (yf_assign rfl) ?_
  refine wl_nil ?_
  refine wq_then ?_
  refine wc_seq ?_
  refine wc_region ?_
  refine wl_pure .none rfl (by kernel_rfl) rfl (fun w hw => sanity_any w) ?_
  refine wl_free .none rfl (yf_assign rfl) ?_
  refine wl_nil ?_
  refine wq_then ?_
  refine wc_seq ?_
  refine wc_weak (.cons (i := 0) rfl <| .cons (i := 1) rfl <| .cons (i := 2) rfl <| .cons (i := 3) rfl <| .cons (i := 4) rfl <| .cons (i := 5) rfl <| .cons (i := 6) rfl <| .cons (i := 7) rfl <| .nil) ?_
  refine wc_region ?_
  refine wl_free .none rfl (yf_assign rfl) ?_
  refine wl_nil ?_
  refine wq_then ?_
  refine wc_seq ?_
  refine wc_drawTN 13 [0, 1, 2, 3, 4, 5, 6, 7, 8, 9, 10, 11, 12] _ (by kernel_rfl) (by kernel_rfl) HpG.stab (fun _ h => h) (fun n0 hn0 => ?_)
  refine wd_at rfl ?_
  (refine wd_free ?_ .none rfl (yf_move rfl) ?_; (· rfl);  skip)
  refine wd_at rfl ?_
  (refine wd_free ?_ .none rfl (yf_fieldAddr (off := 1) (sz := 0) rfl Try.underlying36 (by kernel_rfl) rfl) ?_; (· rfl);  skip)
  refine wd_at rfl ?_
  first | (refine wd_free ?_ .none rfl (yf_loadL 0 rfl rfl rfl Try.underlying3 rfl) ?_; (· rfl);  skip) | (refine wd_free ?_ .none rfl (yf_loadL 1 rfl rfl rfl Try.underlying3 rfl) ?_; (· rfl);  skip) | (refine wd_free ?_ .none rfl (yf_loadL 2 rfl rfl rfl Try.underlying3 rfl) ?_; (· rfl);  skip) | (refine wd_free ?_ .none rfl (yf_loadL 3 rfl rfl rfl Try.underlying3 rfl) ?_; (· rfl);  skip) | (refine wd_free ?_ .none rfl (yf_loadL 4 rfl rfl rfl Try.underlying3 rfl) ?_; (· rfl);  skip) | (refine wd_free ?_ .none rfl (yf_loadL 5 rfl rfl rfl Try.underlying3 rfl) ?_; (· rfl);  skip)
  refine wd_at rfl ?_
  refine wd_callVP (us := []) (cs := []) .none rfl rfl (by kernel_rfl) rfl (fun _ _ hj hx => HpG.onE hj hx) (fun w hw => mod_any o.d w) ?_
  refine wd_at rfl ?_
  (refine wd_free ?_ .none rfl (yf_move rfl) ?_; (· rfl);  skip)
  refine wd_at rfl ?_
  (refine wd_free ?_ .none rfl (yf_fieldAddr (off := 2) (sz := 0) rfl Try.underlying36 (by kernel_rfl) rfl) ?_; (· rfl);  skip)
  refine wd_at rfl ?_
  first | (refine wd_free ?_ .none rfl (yf_loadL 0 rfl rfl rfl Try.underlying3 rfl) ?_; (· rfl);  skip) | (refine wd_free ?_ .none rfl (yf_loadL 1 rfl rfl rfl Try.underlying3 rfl) ?_; (· rfl);  skip) | (refine wd_free ?_ .none rfl (yf_loadL 2 rfl rfl rfl Try.underlying3 rfl) ?_; (· rfl);  skip) | (refine wd_free ?_ .none rfl (yf_loadL 3 rfl rfl rfl Try.underlying3 rfl) ?_; (· rfl);  skip) | (refine wd_free ?_ .none rfl (yf_loadL 4 rfl rfl rfl Try.underlying3 rfl) ?_; (· rfl);  skip) | (refine wd_free ?_ .none rfl (yf_loadL 5 rfl rfl rfl Try.underlying3 rfl) ?_; (· rfl);  skip)
  refine wd_at rfl ?_
  refine wd_callVP (us := []) (cs := []) .none rfl rfl (by kernel_rfl) rfl (fun _ _ hj hx => HpG.onE hj hx) (fun w hw => mod_any o.a w) ?_
  refine wd_at rfl ?_
  (refine wd_free ?_ .none rfl (yf_move rfl) ?_; (· rfl);  skip)
  refine wd_at rfl ?_
  (refine wd_free ?_ .none rfl (yf_fieldAddr (off := 3) (sz := 0) rfl Try.underlying36 (by kernel_rfl) rfl) ?_; (· rfl);  skip)
  refine wd_at rfl ?_
  first | (refine wd_free ?_ .none rfl (yf_loadL 0 rfl rfl rfl Try.underlying3 rfl) ?_; (· rfl);  skip) | (refine wd_free ?_ .none rfl (yf_loadL 1 rfl rfl rfl Try.underlying3 rfl) ?_; (· rfl);  skip) | (refine wd_free ?_ .none rfl (yf_loadL 2 rfl rfl rfl Try.underlying3 rfl) ?_; (· rfl);  skip) | (refine wd_free ?_ .none rfl (yf_loadL 3 rfl rfl rfl Try.underlying3 rfl) ?_; (· rfl);  skip) | (refine wd_free ?_ .none rfl (yf_loadL 4 rfl rfl rfl Try.underlying3 rfl) ?_; (· rfl);  skip) | (refine wd_free ?_ .none rfl (yf_loadL 5 rfl rfl rfl Try.underlying3 rfl) ?_; (· rfl);  skip)
  refine wd_at rfl ?_
  refine wd_callVP (us := []) (cs := []) .none rfl rfl (by kernel_rfl) rfl (fun _ _ hj hx => HpG.onE hj hx) (fun w hw => mod_any o.b w) ?_
  refine wd_at rfl ?_
  (refine wd_free ?_ .none rfl (yf_fieldAddr (off := 1) (sz := 0) rfl Try.underlying36 (by kernel_rfl) rfl) ?_; (· rfl);  skip)
  refine wd_endTH ?_
  simp only [List.drop_succ_cons, List.drop_zero]
  first | refine wl_chain0 .none (cf_store 0 rfl rfl rfl rfl rfl (by kernel_rfl)) (fun _ => ?_) | refine wl_chain0 .none (cf_store 1 rfl rfl rfl rfl rfl (by kernel_rfl)) (fun _ => ?_) | refine wl_chain0 .none (cf_store 2 rfl rfl rfl rfl rfl (by kernel_rfl)) (fun _ => ?_) | refine wl_chain0 .none (cf_store 3 rfl rfl rfl rfl rfl (by kernel_rfl)) (fun _ => ?_) | refine wl_chain0 .none (cf_store 4 rfl rfl rfl rfl rfl (by kernel_rfl)) (fun _ => ?_) | refine wl_chain0 .none (cf_store 5 rfl rfl rfl rfl rfl (by kernel_rfl)) (fun _ => ?_)
  refine wl_free .none rfl (yf_fieldAddr (off := 2) (sz := 0) rfl Try.underlying36 (by kernel_rfl) rfl) ?_
  first | refine wl_chain0 .none (cf_store 0 rfl rfl rfl rfl rfl (by kernel_rfl)) (fun _ => ?_) | refine wl_chain0 .none (cf_store 1 rfl rfl rfl rfl rfl (by kernel_rfl)) (fun _ => ?_) | refine wl_chain0 .none (cf_store 2 rfl rfl rfl rfl rfl (by kernel_rfl)) (fun _ => ?_) | refine wl_chain0 .none (cf_store 3 rfl rfl rfl rfl rfl (by kernel_rfl)) (fun _ => ?_) | refine wl_chain0 .none (cf_store 4 rfl rfl rfl rfl rfl (by kernel_rfl)) (fun _ => ?_) | refine wl_chain0 .none (cf_store 5 rfl rfl rfl rfl rfl (by kernel_rfl)) (fun _ => ?_)
  refine wl_free .none rfl (yf_fieldAddr (off := 3) (sz := 0) rfl Try.underlying36 (by kernel_rfl) rfl) ?_
  first | refine wl_chain0 .none (cf_store 0 rfl rfl rfl rfl rfl (by kernel_rfl)) (fun _ => ?_) | refine wl_chain0 .none (cf_store 1 rfl rfl rfl rfl rfl (by kernel_rfl)) (fun _ => ?_) | refine wl_chain0 .none (cf_store 2 rfl rfl rfl rfl rfl (by kernel_rfl)) (fun _ => ?_) | refine wl_chain0 .none (cf_store 3 rfl rfl rfl rfl rfl (by kernel_rfl)) (fun _ => ?_) | refine wl_chain0 .none (cf_store 4 rfl rfl rfl rfl rfl (by kernel_rfl)) (fun _ => ?_) | refine wl_chain0 .none (cf_store 5 rfl rfl rfl rfl rfl (by kernel_rfl)) (fun _ => ?_)
  refine wl_nil ?_
  refine wq_then ?_
  refine wc_seq ?_
  refine wc_weak (.cons (i := 0) rfl <| .cons (i := 1) rfl <| .cons (i := 2) rfl <| .cons (i := 3) rfl <| .cons (i := 4) rfl <| .cons (i := 5) rfl <| .cons (i := 6) rfl <| .cons (i := 7) rfl <| .cons (i := 8) rfl <| .nil) ?_
  refine wc_region ?_
  refine wl_free .none rfl (yf_fieldAddr (off := 0) (sz := 0) rfl Try.underlying36 (by kernel_rfl) rfl) ?_
  first | refine wl_free .none rfl (yf_loadL 0 rfl rfl rfl Try.underlying3 rfl) ?_ | refine wl_free .none rfl (yf_loadL 1 rfl rfl rfl Try.underlying3 rfl) ?_ | refine wl_free .none rfl (yf_loadL 2 rfl rfl rfl Try.underlying3 rfl) ?_ | refine wl_free .none rfl (yf_loadL 3 rfl rfl rfl Try.underlying3 rfl) ?_ | refine wl_free .none rfl (yf_loadL 4 rfl rfl rfl Try.underlying3 rfl) ?_ | refine wl_free .none rfl (yf_loadL 5 rfl rfl rfl Try.underlying3 rfl) ?_
  refine wl_pure .none rfl (by kernel_rfl) rfl (fun w hw => (refShape_any o.code w).mono fun e w' ⟨h1, h2⟩ => ⟨h1, by subst h2; exact Ext.alloc (Ext.refl w) _⟩) ?_
  refine wl_new .none rfl (nf_alloc (z := .agg #[.bool false, .bool false, .bool false, .bool false, .bool false, .bool false]) (cs := [.bool false, .bool false, .bool false, .bool false, .bool false, .bool false]) (by kernel_rfl) rfl) (fun b9 => ?_)
  first | refine wl_chain0 .none (cf_storeRow 0 rfl rfl rfl rfl rfl (by kernel_rfl)) (fun _ => ?_) | refine wl_chain0 .none (cf_storeRow 1 rfl rfl rfl rfl rfl (by kernel_rfl)) (fun _ => ?_) | refine wl_chain0 .none (cf_storeRow 2 rfl rfl rfl rfl rfl (by kernel_rfl)) (fun _ => ?_) | refine wl_chain0 .none (cf_storeRow 3 rfl rfl rfl rfl rfl (by kernel_rfl)) (fun _ => ?_) | refine wl_chain0 .none (cf_storeRow 4 rfl rfl rfl rfl rfl (by kernel_rfl)) (fun _ => ?_) | refine wl_chain0 .none (cf_storeRow 5 rfl rfl rfl rfl rfl (by kernel_rfl)) (fun _ => ?_)
  refine wl_nil ?_
  refine wq_then ?_
  refine wc_cut (ι := Unit) (fun _ => [(3, ptrV b3), (4, ptrV b4), (5, ptrV b5), (7, .bool true), (9, ptrV b9)]) (fun _ => Hp (fun _ => False) w_0 [(b9, bk 68 (rfW o.code).toList), (b5, bk 43 (u32s [p, q])), (b4, bk 50 (suC x)), (b3, bk 36 [.int .i64 o.code, .int .i64 o1.d, .int .i64 (o.a % 19), .int .i64 (o.b % 19), .int .u32 o.n])] [] (RdIn (fun k => w_0.heap.size ≤ k) x.vA (u32s x.v))) ?_ (fun _ => ?_)
  · skip
    refine wc_seq ?_
    refine wc_weak (.cons (i := 0) rfl <| .cons (i := 1) rfl <| .cons (i := 2) rfl <| .cons (i := 3) rfl <| .cons (i := 4) rfl <| .cons (i := 5) rfl <| .cons (i := 6) rfl <| .cons (i := 7) rfl <| .cons (i := 8) rfl <| .cons (i := 9) rfl <| .nil) ?_
    refine wc_region ?_
    refine wl_free .none rfl (yf_fieldAddr (off := 1) (sz := 0) rfl Try.underlying68 (by kernel_rfl) rfl) ?_
    first | refine wl_free .none rfl (yf_loadL 0 rfl rfl rfl Try.underlying4 rfl) ?_ | refine wl_free .none rfl (yf_loadL 1 rfl rfl rfl Try.underlying4 rfl) ?_ | refine wl_free .none rfl (yf_loadL 2 rfl rfl rfl Try.underlying4 rfl) ?_ | refine wl_free .none rfl (yf_loadL 3 rfl rfl rfl Try.underlying4 rfl) ?_ | refine wl_free .none rfl (yf_loadL 4 rfl rfl rfl Try.underlying4 rfl) ?_ | refine wl_free .none rfl (yf_loadL 5 rfl rfl rfl Try.underlying4 rfl) ?_
    refine wl_free .none rfl (yf_not rfl) ?_
    refine wl_nil ?_
    refine wq_then ?_
    refine wc_cond rfl (fun hc => ?_) (fun hc => ?_)
    · skip
      have eX : o1.d = 0 := by rw [eD, if_neg (by simpa using hc)]
      refine wc_weak (.cons (i := 0) rfl <| .cons (i := 1) rfl <| .cons (i := 2) rfl <| .cons (i := 3) rfl <| .cons (i := 4) rfl <| .cons (i := 5) rfl <| .cons (i := 6) rfl <| .cons (i := 7) rfl <| .cons (i := 8) rfl <| .cons (i := 9) rfl <| .cons (i := 43) rfl <| .nil) ?_
      refine wc_region ?_
      refine wl_free .none rfl (yf_fieldAddr (off := 1) (sz := 0) rfl Try.underlying36 (by kernel_rfl) rfl) ?_
      first | refine wl_chain0 .none (cf_store 0 rfl rfl rfl rfl rfl (by kernel_rfl)) (fun _ => ?_) | refine wl_chain0 .none (cf_store 1 rfl rfl rfl rfl rfl (by kernel_rfl)) (fun _ => ?_) | refine wl_chain0 .none (cf_store 2 rfl rfl rfl rfl rfl (by kernel_rfl)) (fun _ => ?_) | refine wl_chain0 .none (cf_store 3 rfl rfl rfl rfl rfl (by kernel_rfl)) (fun _ => ?_) | refine wl_chain0 .none (cf_store 4 rfl rfl rfl rfl rfl (by kernel_rfl)) (fun _ => ?_) | refine wl_chain0 .none (cf_store 5 rfl rfl rfl rfl rfl (by kernel_rfl)) (fun _ => ?_)
      refine wl_nil ?_
      refine wq_meet () (.cons rfl <| .cons rfl <| .cons rfl <| .cons rfl <| .cons rfl <| .nil) (fun w h => by rw [eX]; exact h)
    · skip
      have eX : o1.d = o.d % 19 := by rw [eD, if_pos (by simpa using hc)]
      refine wc_skip ?_
      refine wq_meet () (.cons rfl <| .cons rfl <| .cons rfl <| .cons rfl <| .cons rfl <| .nil) (fun w h => by rw [eX]; exact h)
  · skip
    refine wc_cut (ι := Unit) (fun _ => [(3, ptrV b3), (4, ptrV b4), (5, ptrV b5), (7, .bool true), (9, ptrV b9)]) (fun _ => Hp (fun _ => False) w_0 [(b9, bk 68 (rfW o.code).toList), (b5, bk 43 (u32s [p, q])), (b4, bk 50 (suC x)), (b3, bk 36 [.int .i64 o.code, .int .i64 o1.d, .int .i64 o1.a, .int .i64 (o.b % 19), .int .u32 o.n])] [] (RdIn (fun k => w_0.heap.size ≤ k) x.vA (u32s x.v))) ?_ (fun _ => ?_)
    · skip
      refine wc_seq ?_
      refine wc_region ?_
      refine wl_free .none rfl (yf_fieldAddr (off := 2) (sz := 0) rfl Try.underlying68 (by kernel_rfl) rfl) ?_
      first | refine wl_free .none rfl (yf_loadL 0 rfl rfl rfl Try.underlying4 rfl) ?_ | refine wl_free .none rfl (yf_loadL 1 rfl rfl rfl Try.underlying4 rfl) ?_ | refine wl_free .none rfl (yf_loadL 2 rfl rfl rfl Try.underlying4 rfl) ?_ | refine wl_free .none rfl (yf_loadL 3 rfl rfl rfl Try.underlying4 rfl) ?_ | refine wl_free .none rfl (yf_loadL 4 rfl rfl rfl Try.underlying4 rfl) ?_ | refine wl_free .none rfl (yf_loadL 5 rfl rfl rfl Try.underlying4 rfl) ?_
      refine wl_free .none rfl (yf_not rfl) ?_
      refine wl_nil ?_
      refine wq_then ?_
      refine wc_cond rfl (fun hc => ?_) (fun hc => ?_)
      · skip
        have eX : o1.a = 0 := by rw [eA, if_neg (by simpa using hc)]
        refine wc_weak (.cons (i := 3) rfl <| .cons (i := 4) rfl <| .cons (i := 5) rfl <| .cons (i := 7) rfl <| .cons (i := 9) rfl <| .cons (i := 47) rfl <| .nil) ?_
        refine wc_region ?_
        refine wl_free .none rfl (yf_fieldAddr (off := 2) (sz := 0) rfl Try.underlying36 (by kernel_rfl) rfl) ?_
        first | refine wl_chain0 .none (cf_store 0 rfl rfl rfl rfl rfl (by kernel_rfl)) (fun _ => ?_) | refine wl_chain0 .none (cf_store 1 rfl rfl rfl rfl rfl (by kernel_rfl)) (fun _ => ?_) | refine wl_chain0 .none (cf_store 2 rfl rfl rfl rfl rfl (by kernel_rfl)) (fun _ => ?_) | refine wl_chain0 .none (cf_store 3 rfl rfl rfl rfl rfl (by kernel_rfl)) (fun _ => ?_) | refine wl_chain0 .none (cf_store 4 rfl rfl rfl rfl rfl (by kernel_rfl)) (fun _ => ?_) | refine wl_chain0 .none (cf_store 5 rfl rfl rfl rfl rfl (by kernel_rfl)) (fun _ => ?_)
        refine wl_nil ?_
        refine wq_meet () (.cons rfl <| .cons rfl <| .cons rfl <| .cons rfl <| .cons rfl <| .nil) (fun w h => by rw [eX]; exact h)
      · skip
        have eX : o1.a = o.a % 19 := by rw [eA, if_pos (by simpa using hc)]
        refine wc_skip ?_
        refine wq_meet () (.cons rfl <| .cons rfl <| .cons rfl <| .cons rfl <| .cons rfl <| .nil) (fun w h => by rw [eX]; exact h)
    · skip
      refine wc_cut (ι := Unit) (fun _ => [(3, ptrV b3), (4, ptrV b4), (5, ptrV b5), (7, .bool true), (9, ptrV b9)]) (fun _ => Hp (fun _ => False) w_0 [(b9, bk 68 (rfW o.code).toList), (b5, bk 43 (u32s [p, q])), (b4, bk 50 (suC x)), (b3, bk 36 [.int .i64 o.code, .int .i64 o1.d, .int .i64 o1.a, .int .i64 o1.b, .int .u32 o.n])] [] (RdIn (fun k => w_0.heap.size ≤ k) x.vA (u32s x.v))) ?_ (fun _ => ?_)
      · skip
        refine wc_seq ?_
        refine wc_region ?_
        refine wl_free .none rfl (yf_fieldAddr (off := 3) (sz := 0) rfl Try.underlying68 (by kernel_rfl) rfl) ?_
        first | refine wl_free .none rfl (yf_loadL 0 rfl rfl rfl Try.underlying4 rfl) ?_ | refine wl_free .none rfl (yf_loadL 1 rfl rfl rfl Try.underlying4 rfl) ?_ | refine wl_free .none rfl (yf_loadL 2 rfl rfl rfl Try.underlying4 rfl) ?_ | refine wl_free .none rfl (yf_loadL 3 rfl rfl rfl Try.underlying4 rfl) ?_ | refine wl_free .none rfl (yf_loadL 4 rfl rfl rfl Try.underlying4 rfl) ?_ | refine wl_free .none rfl (yf_loadL 5 rfl rfl rfl Try.underlying4 rfl) ?_
        refine wl_free .none rfl (yf_not rfl) ?_
        refine wl_nil ?_
        refine wq_then ?_
        refine wc_cond rfl (fun hc => ?_) (fun hc => ?_)
        · skip
          have eX : o1.b = 0 := by rw [eB, if_neg (by simpa using hc)]
          refine wc_weak (.cons (i := 3) rfl <| .cons (i := 4) rfl <| .cons (i := 5) rfl <| .cons (i := 7) rfl <| .cons (i := 9) rfl <| .cons (i := 51) rfl <| .nil) ?_
          refine wc_region ?_
          refine wl_free .none rfl (yf_fieldAddr (off := 3) (sz := 0) rfl Try.underlying36 (by kernel_rfl) rfl) ?_
          first | refine wl_chain0 .none (cf_store 0 rfl rfl rfl rfl rfl (by kernel_rfl)) (fun _ => ?_) | refine wl_chain0 .none (cf_store 1 rfl rfl rfl rfl rfl (by kernel_rfl)) (fun _ => ?_) | refine wl_chain0 .none (cf_store 2 rfl rfl rfl rfl rfl (by kernel_rfl)) (fun _ => ?_) | refine wl_chain0 .none (cf_store 3 rfl rfl rfl rfl rfl (by kernel_rfl)) (fun _ => ?_) | refine wl_chain0 .none (cf_store 4 rfl rfl rfl rfl rfl (by kernel_rfl)) (fun _ => ?_) | refine wl_chain0 .none (cf_store 5 rfl rfl rfl rfl rfl (by kernel_rfl)) (fun _ => ?_)
          refine wl_nil ?_
          refine wq_meet () (.cons rfl <| .cons rfl <| .cons rfl <| .cons rfl <| .cons rfl <| .nil) (fun w h => by rw [eX]; exact h)
        · skip
          have eX : o1.b = o.b % 19 := by rw [eB, if_pos (by simpa using hc)]
          refine wc_skip ?_
          refine wq_meet () (.cons rfl <| .cons rfl <| .cons rfl <| .cons rfl <| .cons rfl <| .nil) (fun w h => by rw [eX]; exact h)
      · skip
        refine wc_cut (ι := Unit) (fun _ => [(3, ptrV b3), (4, ptrV b4), (5, ptrV b5), (7, .bool true), (9, ptrV b9)]) (fun _ => Hp (fun _ => False) w_0 [(b9, bk 68 (rfW o.code).toList), (b5, bk 43 (u32s [p, q])), (b4, bk 50 (suC x)), (b3, bk 36 [.int .i64 o.code, .int .i64 o1.d, .int .i64 o1.a, .int .i64 o1.b, .int .u32 o1.n])] [] (RdIn (fun k => w_0.heap.size ≤ k) x.vA (u32s x.v))) ?_ (fun _ => ?_)
        · skip
          refine wc_seq ?_
          refine wc_region ?_
          refine wl_free .none rfl (yf_fieldAddr (off := 4) (sz := 0) rfl Try.underlying68 (by kernel_rfl) rfl) ?_
          first | refine wl_free .none rfl (yf_loadL 0 rfl rfl rfl Try.underlying4 rfl) ?_ | refine wl_free .none rfl (yf_loadL 1 rfl rfl rfl Try.underlying4 rfl) ?_ | refine wl_free .none rfl (yf_loadL 2 rfl rfl rfl Try.underlying4 rfl) ?_ | refine wl_free .none rfl (yf_loadL 3 rfl rfl rfl Try.underlying4 rfl) ?_ | refine wl_free .none rfl (yf_loadL 4 rfl rfl rfl Try.underlying4 rfl) ?_ | refine wl_free .none rfl (yf_loadL 5 rfl rfl rfl Try.underlying4 rfl) ?_
          refine wl_free .none rfl (yf_not rfl) ?_
          refine wl_nil ?_
          refine wq_then ?_
          refine wc_cond rfl (fun hc => ?_) (fun hc => ?_)
          · skip
            have eX : o1.n = 0 := by rw [eN, if_neg (by simpa using hc)]
            refine wc_weak (.cons (i := 3) rfl <| .cons (i := 4) rfl <| .cons (i := 5) rfl <| .cons (i := 7) rfl <| .cons (i := 9) rfl <| .cons (i := 55) rfl <| .nil) ?_
            refine wc_region ?_
            refine wl_free .none rfl (yf_fieldAddr (off := 4) (sz := 0) rfl Try.underlying36 (by kernel_rfl) rfl) ?_
            first | refine wl_chain0 .none (cf_store 0 rfl rfl rfl rfl rfl (by kernel_rfl)) (fun _ => ?_) | refine wl_chain0 .none (cf_store 1 rfl rfl rfl rfl rfl (by kernel_rfl)) (fun _ => ?_) | refine wl_chain0 .none (cf_store 2 rfl rfl rfl rfl rfl (by kernel_rfl)) (fun _ => ?_) | refine wl_chain0 .none (cf_store 3 rfl rfl rfl rfl rfl (by kernel_rfl)) (fun _ => ?_) | refine wl_chain0 .none (cf_store 4 rfl rfl rfl rfl rfl (by kernel_rfl)) (fun _ => ?_) | refine wl_chain0 .none (cf_store 5 rfl rfl rfl rfl rfl (by kernel_rfl)) (fun _ => ?_)
            refine wl_nil ?_
            refine wq_meet () (.cons rfl <| .cons rfl <| .cons rfl <| .cons rfl <| .cons rfl <| .nil) (fun w h => by rw [eX]; exact h)
          · skip
            have eX : o1.n = o.n := by rw [eN, if_pos (by simpa using hc)]
            refine wc_skip ?_
            refine wq_meet () (.cons rfl <| .cons rfl <| .cons rfl <| .cons rfl <| .cons rfl <| .nil) (fun w h => by rw [eX]; exact h)
        · rw [c1]
          refine wc_seq ?_
          refine wc_region ?_
          refine wl_free .none rfl (yf_loadAllL 3 rfl rfl Try.underlying36 rfl (by kernel_rfl)) ?_
          refine wl_callR .none rfl (by kernel_rfl) rfl (fun w hw => one_any o1 un1 w) (fun i hi => ?_)
          obtain ⟨hib, hi⟩ := hi
          refine wl_new .none rfl (nf_alloc (z := .agg #[.slice none 0 0, .slice none 0 0, .slice none 0 0]) (cs := [.slice none 0 0, .slice none 0 0, .slice none 0 0]) (by kernel_rfl) rfl) (fun b10 => ?_)
          first | refine wl_chain0 .none (cf_storeRow 0 rfl rfl rfl rfl rfl (by kernel_rfl)) (fun _ => ?_) | refine wl_chain0 .none (cf_storeRow 1 rfl rfl rfl rfl rfl (by kernel_rfl)) (fun _ => ?_) | refine wl_chain0 .none (cf_storeRow 2 rfl rfl rfl rfl rfl (by kernel_rfl)) (fun _ => ?_) | refine wl_chain0 .none (cf_storeRow 3 rfl rfl rfl rfl rfl (by kernel_rfl)) (fun _ => ?_) | refine wl_chain0 .none (cf_storeRow 4 rfl rfl rfl rfl rfl (by kernel_rfl)) (fun _ => ?_) | refine wl_chain0 .none (cf_storeRow 5 rfl rfl rfl rfl rfl (by kernel_rfl)) (fun _ => ?_)
          refine wl_nil ?_
          refine wq_then ?_
          refine wc_seq ?_
          refine wc_seq ?_
          refine wc_weak (.cons (i := 3) rfl <| .cons (i := 4) rfl <| .cons (i := 5) rfl <| .cons (i := 7) rfl <| .cons (i := 9) rfl <| .cons (i := 10) rfl <| .nil) ?_
          refine wc_region ?_
          first | refine wl_free .none rfl (yf_loadAllL 0 rfl rfl Try.underlying26 rfl (by kernel_rfl)) ?_ | refine wl_free .none rfl (yf_loadAllL 1 rfl rfl Try.underlying26 rfl (by kernel_rfl)) ?_ | refine wl_free .none rfl (yf_loadAllL 2 rfl rfl Try.underlying26 rfl (by kernel_rfl)) ?_ | refine wl_free .none rfl (yf_loadAllL 3 rfl rfl Try.underlying26 rfl (by kernel_rfl)) ?_ | refine wl_free .none rfl (yf_loadAllL 4 rfl rfl Try.underlying26 rfl (by kernel_rfl)) ?_ | refine wl_free .none rfl (yf_loadAllL 5 rfl rfl Try.underlying26 rfl (by kernel_rfl)) ?_
          refine wl_pure .none rfl (by kernel_rfl) rfl (fun w hw => valid_call (BRd.of hw fun r hr => List.mem_append_left _ hr) hi (by omega)) ?_
          refine wl_free .none rfl (yf_not rfl) ?_
          refine wl_nil ?_
          refine wq_then ?_
          refine wc_cond rfl (fun hc => ?_) (fun hc => ?_)
          · skip
            have hval : validL (oneL o1) = false := by rw [← hib]; simpa using hc
            have hor := hinv hval
            refine wc_seq ?_
            refine wc_weak (.cons (i := 3) rfl <| .cons (i := 4) rfl <| .cons (i := 5) rfl <| .cons (i := 7) rfl <| .cons (i := 9) rfl <| .cons (i := 10) rfl <| .cons (i := 61) rfl <| .nil) ?_
            refine wc_region ?_
            refine wl_free .none rfl (yf_move rfl) ?_
            refine wl_free .none rfl (yf_move rfl) ?_
            refine wl_split 63 rfl (fun hb => ?_) (fun hb => ?_)
            · skip
              refine wl_free (.some rfl rfl) rfl (yf_fieldAddr (off := 0) (sz := 0) rfl Try.underlying68 (by kernel_rfl) rfl) ?_
              first | refine wl_free (.some rfl rfl) rfl (yf_loadL 0 rfl rfl rfl Try.underlying4 rfl) ?_ | refine wl_free (.some rfl rfl) rfl (yf_loadL 1 rfl rfl rfl Try.underlying4 rfl) ?_ | refine wl_free (.some rfl rfl) rfl (yf_loadL 2 rfl rfl rfl Try.underlying4 rfl) ?_ | refine wl_free (.some rfl rfl) rfl (yf_loadL 3 rfl rfl rfl Try.underlying4 rfl) ?_ | refine wl_free (.some rfl rfl) rfl (yf_loadL 4 rfl rfl rfl Try.underlying4 rfl) ?_ | refine wl_free (.some rfl rfl) rfl (yf_loadL 5 rfl rfl rfl Try.underlying4 rfl) ?_
              refine wl_free (.some rfl rfl) rfl (yf_not rfl) ?_
              refine wl_free (.some rfl rfl) rfl (yf_move rfl) ?_
              refine wl_split 67 rfl (fun hg6 => ?_) (fun hg6 => ?_)
              · skip
                refine wl_pass (.some rfl rfl rfl) rfl ?_
                refine wl_pass (.some rfl rfl rfl) rfl ?_
                refine wl_pass (.some rfl rfl rfl) rfl ?_
                refine wl_free (.some rfl rfl) rfl (yf_pickT rfl rfl) ?_
                refine wl_free .none rfl (yf_pickT rfl rfl) ?_
                refine wl_free .none rfl (yf_assign rfl) ?_
                refine wl_nil ?_
                refine wq_then ?_
                refine wc_ret ?_
                refine wq_then_ret ?_
                refine wq_ret1 rfl rfl (fun w hw => ?_)
                exact ⟨rfl, (HpG.keep hw).ext⟩
              · skip
                refine wl_free (.some rfl rfl) rfl (yf_fieldAddr (off := 0) (sz := 0) rfl Try.underlying36 (by kernel_rfl) rfl) ?_
                first | refine wl_free (.some rfl rfl) rfl (yf_loadL 0 rfl rfl rfl Try.underlying3 rfl) ?_ | refine wl_free (.some rfl rfl) rfl (yf_loadL 1 rfl rfl rfl Try.underlying3 rfl) ?_ | refine wl_free (.some rfl rfl) rfl (yf_loadL 2 rfl rfl rfl Try.underlying3 rfl) ?_ | refine wl_free (.some rfl rfl) rfl (yf_loadL 3 rfl rfl rfl Try.underlying3 rfl) ?_ | refine wl_free (.some rfl rfl) rfl (yf_loadL 4 rfl rfl rfl Try.underlying3 rfl) ?_ | refine wl_free (.some rfl rfl) rfl (yf_loadL 5 rfl rfl rfl Try.underlying3 rfl) ?_
                refine wl_free (.some rfl rfl) rfl (yf_eql rfl rfl) ?_
                refine wl_free (.some rfl rfl) rfl (yf_pickF rfl rfl) ?_
                refine wl_free .none rfl (yf_pickT rfl rfl) ?_
                refine wl_free .none rfl (yf_assign rfl) ?_
                refine wl_nil ?_
                refine wq_then ?_
                refine wc_ret ?_
                refine wq_then_ret ?_
                refine wq_ret1 rfl rfl (fun w hw => ?_)
                refine ⟨?_, (HpG.keep hw).ext⟩
                have h20 : o1.code = 20 := by
                  rcases hor with h | h
                  · rw [h] at hg6; simp at hg6
                  · exact h
                rw [h20]; rfl
            · skip
              cases hb
          · skip
            have hval : validL (oneL o1) = true := by rw [← hib]; simpa using hc
            have hEff := fun m => eff_law hval (valid_form hval) hgz.1 kk hk19 q m
            refine wc_skip ?_
            refine wq_then ?_
            refine wc_seq ?_
            refine wc_weak (.cons (i := 3) rfl <| .cons (i := 4) rfl <| .cons (i := 5) rfl <| .cons (i := 7) rfl <| .cons (i := 9) rfl <| .cons (i := 10) rfl <| .cons (i := 61) rfl <| .nil) ?_
            refine wc_region ?_
            first | refine wl_free .none rfl (yf_loadAllL 0 rfl rfl Try.underlying50 rfl (by kernel_rfl)) ?_ | refine wl_free .none rfl (yf_loadAllL 1 rfl rfl Try.underlying50 rfl (by kernel_rfl)) ?_ | refine wl_free .none rfl (yf_loadAllL 2 rfl rfl Try.underlying50 rfl (by kernel_rfl)) ?_ | refine wl_free .none rfl (yf_loadAllL 3 rfl rfl Try.underlying50 rfl (by kernel_rfl)) ?_ | refine wl_free .none rfl (yf_loadAllL 4 rfl rfl Try.underlying50 rfl (by kernel_rfl)) ?_ | refine wl_free .none rfl (yf_loadAllL 5 rfl rfl Try.underlying50 rfl (by kernel_rfl)) ?_
            refine wl_pure .none rfl (by kernel_rfl) rfl (fun w hw => vars_any x w (HpG.x hw)) ?_
            refine wl_new .none rfl (nf_alloc (z := .agg #[.int .u32 0, .int .u32 0, .int .u32 0, .int .u32 0, .int .u32 0, .int .u32 0, .int .u32 0, .int .u32 0, .int .u32 0, .int .u32 0, .int .u32 0, .int .u32 0, .int .u32 0, .int .u32 0, .int .u32 0, .int .u32 0, .int .u32 0, .int .u32 0, .int .u32 0, .int .u32 0, .int .u32 0, .int .u32 0, .int .u32 0, .int .u32 0, .int .u32 0, .int .u32 0, .int .u32 0, .int .u32 0]) (cs := [.int .u32 0, .int .u32 0, .int .u32 0, .int .u32 0, .int .u32 0, .int .u32 0, .int .u32 0, .int .u32 0, .int .u32 0, .int .u32 0, .int .u32 0, .int .u32 0, .int .u32 0, .int .u32 0, .int .u32 0, .int .u32 0, .int .u32 0, .int .u32 0, .int .u32 0, .int .u32 0, .int .u32 0, .int .u32 0, .int .u32 0, .int .u32 0, .int .u32 0, .int .u32 0, .int .u32 0, .int .u32 0]) (by kernel_rfl) rfl) (fun b11 => ?_)
            refine wl_chain0 .none (cf_storeAll (seg := u32s (suV x)) 0 rfl rfl rfl (ints_one' _) (by rw [us_len, hvo.1]; rfl) (u28l hvo.1)) (fun _ => ?_)
            refine wl_nil ?_
            refine wq_then ?_
            refine wc_seq ?_
            refine wc_weak (.cons (i := 3) rfl <| .cons (i := 4) rfl <| .cons (i := 5) rfl <| .cons (i := 7) rfl <| .cons (i := 9) rfl <| .cons (i := 10) rfl <| .cons (i := 11) rfl <| .cons (i := 61) rfl <| .nil) ?_
            refine wc_region ?_
            refine wl_free .none rfl (yf_sliceArrLo (i := 19) (size := 1) rfl rfl Try.underlying37 (by kernel_rfl) rfl (by decide) rfl rfl) ?_
            refine wl_chain0 .none (cf_clear (z := .int .u32 0) 0 rfl rfl Try.underlying22 zero32 rfl rfl (by decide) (by rw [us_len, hvo.1]; decide)) (fun _ => ?_)
            refine wl_conseq (H' := Hp (fun _ => False) w_0 ([(b11, bk 37 (u32s (gzL (suV x)))), (b10, bk 26 (blkC i)), (b9, bk 68 (rfW o1.code).toList), (b5, bk 43 (u32s [p, q])), (b4, bk 50 (suC x)), (b3, bk 36 (opC o1))]) (i.rows ++ []) (RdIn (fun k => w_0.heap.size ≤ k) x.vA (u32s x.v))) (fun u hu => ?_) ?_
            · rw [← clr_row hvo.1]; exact hu
            refine wl_nil ?_
            refine wq_then ?_
            refine wc_seq ?_
            refine wc_weak (.cons (i := 3) rfl <| .cons (i := 4) rfl <| .cons (i := 5) rfl <| .cons (i := 7) rfl <| .cons (i := 9) rfl <| .cons (i := 10) rfl <| .cons (i := 11) rfl <| .cons (i := 61) rfl <| .nil) ?_
            refine wc_region ?_
            first | refine wl_free .none rfl (yf_loadAllL 0 rfl rfl Try.underlying50 rfl (by kernel_rfl)) ?_ | refine wl_free .none rfl (yf_loadAllL 1 rfl rfl Try.underlying50 rfl (by kernel_rfl)) ?_ | refine wl_free .none rfl (yf_loadAllL 2 rfl rfl Try.underlying50 rfl (by kernel_rfl)) ?_ | refine wl_free .none rfl (yf_loadAllL 3 rfl rfl Try.underlying50 rfl (by kernel_rfl)) ?_ | refine wl_free .none rfl (yf_loadAllL 4 rfl rfl Try.underlying50 rfl (by kernel_rfl)) ?_ | refine wl_free .none rfl (yf_loadAllL 5 rfl rfl Try.underlying50 rfl (by kernel_rfl)) ?_
            refine wl_callN .none rfl (by kernel_rfl) rfl (fun w hw => memory_any x w) (fun μ hμ => ?_)
            obtain ⟨ok, hby, hr⟩ := hμ
            have hpm := su_pm hby hr
            have hE28 : (evalM (oneL o1) (gzL (suV x)) μ.pm).1.vars.length = 28 := evalM_len hgz.1 _ _
            refine wl_free .none rfl (yf_assign rfl) ?_
            refine wl_nil ?_
            refine wq_then ?_
            refine wc_seq ?_
            refine wc_weak (.cons (i := 3) rfl <| .cons (i := 4) rfl <| .cons (i := 5) rfl <| .cons (i := 7) rfl <| .cons (i := 9) rfl <| .cons (i := 10) rfl <| .cons (i := 11) rfl <| .cons (i := 12) rfl <| .cons (i := 61) rfl <| .nil) ?_
            refine wc_region ?_
            first | refine wl_free .none rfl (yf_loadAllL 0 rfl rfl Try.underlying26 rfl (by kernel_rfl)) ?_ | refine wl_free .none rfl (yf_loadAllL 1 rfl rfl Try.underlying26 rfl (by kernel_rfl)) ?_ | refine wl_free .none rfl (yf_loadAllL 2 rfl rfl Try.underlying26 rfl (by kernel_rfl)) ?_ | refine wl_free .none rfl (yf_loadAllL 3 rfl rfl Try.underlying26 rfl (by kernel_rfl)) ?_ | refine wl_free .none rfl (yf_loadAllL 4 rfl rfl Try.underlying26 rfl (by kernel_rfl)) ?_ | refine wl_free .none rfl (yf_loadAllL 5 rfl rfl Try.underlying26 rfl (by kernel_rfl)) ?_
            refine wl_free .none rfl (yf_loadAllL 0 rfl rfl Try.underlying37 rfl (u28l hgz.1)) ?_
            refine wl_free .none rfl (yf_move rfl) ?_
            refine wl_free .none rfl (yf_makeIface rfl Try.underlying51 rfl) ?_
            refine wl_callM ([(b11, bk 37 (u32s (gzL (suV x)))), (b10, bk 26 (blkC i)), (b9, bk 68 (rfW o1.code).toList), (b5, bk 43 (u32s [p, q])), (b4, bk 50 (suC x)), (b3, bk 36 (opC o1))]) (memL μ) .none rfl (by kernel_rfl) rfl (fun w hm hw => by
              have := irEval_call i hi (by omega) hgz ok hm (BRd.ofR hw fun r hr => List.mem_append_left _ hr)
              rw [hib] at this
              exact this) (fun μ' hμ' => ?_)
            obtain ⟨ok', same', hpm'⟩ := hμ'
            refine wl_new .none rfl (nf_alloc (z := .agg #[.bool false, .int .i64 0, .int .i64 0, .int .u32 0, .int .u32 0, .int .u32 0, .int .u32 0, .int .u32 0, .int .u32 0, .int .u32 0, .int .u32 0, .int .u32 0, .int .u32 0, .int .u32 0, .int .u32 0, .int .u32 0, .int .u32 0, .int .u32 0, .int .u32 0, .int .u32 0, .int .u32 0, .int .u32 0, .int .u32 0, .int .u32 0, .int .u32 0, .int .u32 0, .int .u32 0, .int .u32 0, .int .u32 0, .int .u32 0, .int .u32 0, .int .u32 0]) (cs := [.bool false, .int .i64 0, .int .i64 0, .int .u32 0, .int .u32 0, .int .u32 0, .int .u32 0, .int .u32 0, .int .u32 0, .int .u32 0, .int .u32 0, .int .u32 0, .int .u32 0, .int .u32 0, .int .u32 0, .int .u32 0, .int .u32 0, .int .u32 0, .int .u32 0, .int .u32 0, .int .u32 0, .int .u32 0, .int .u32 0, .int .u32 0, .int .u32 0, .int .u32 0, .int .u32 0, .int .u32 0, .int .u32 0, .int .u32 0, .int .u32 0, .int .u32 0]) (by kernel_rfl) rfl) (fun b13 => ?_)
            refine wl_chain0 .none (cf_storeAll (seg := ouL ((evalM (oneL o1) (gzL (suV x)) μ.pm).1)) 0 rfl rfl rfl (fun v hv => List.all_eq_true.1 (ouL_all _) v hv) (by rw [ouL_len, hE28]; rfl) (ou32 hE28)) (fun _ => ?_)
            refine wl_nil ?_
            refine wq_then ?_
            refine wc_seq ?_
            refine wc_seq ?_
            refine wc_weak (.cons (i := 3) rfl <| .cons (i := 4) rfl <| .cons (i := 5) rfl <| .cons (i := 7) rfl <| .cons (i := 9) rfl <| .cons (i := 10) rfl <| .cons (i := 11) rfl <| .cons (i := 12) rfl <| .cons (i := 13) rfl <| .cons (i := 61) rfl <| .nil) ?_
            refine wc_region ?_
            refine wl_free .none rfl (yf_assign rfl) ?_
            refine wl_nil ?_
            refine wq_then ?_
            refine wc_block ?_
            refine wc_loop (ι := {j : Nat // j ≤ 19}) (fun j => [(3, ptrV b3), (4, ptrV b4), (5, ptrV b5), (7, .bool true), (10, ptrV b10), (11, ptrV b11), (12, ptrV μ.M), (13, ptrV b13), (14, .int .i64 j.1)]) (fun _ => Hp (fun _ => False) w_0 ((b13, bk 39 (ouL ((evalM (oneL o1) (gzL (suV x)) μ.pm).1))) :: ([(b11, bk 37 (u32s (gzL (suV x)))), (b10, bk 26 (blkC i)), (b9, bk 68 (rfW o1.code).toList), (b5, bk 43 (u32s [p, q])), (b4, bk 50 (suC x)), (b3, bk 36 (opC o1))] ++ memL μ')) (i.rows ++ []) (RdIn (fun k => w_0.heap.size ≤ k) x.vA (u32s x.v))) (fun j => 19 - j.1) ⟨0, by omega⟩ ?_ ?_ (fun j => ?_)
            · exact .cons rfl <| .cons rfl <| .cons rfl <| .cons rfl <| .cons rfl <| .cons rfl <| .cons rfl <| .cons rfl <| .consE rfl rfl <| .nil
            · exact fun w h => h
            obtain ⟨j, hj⟩ := j
            dsimp only at hj ⊢
            refine wc_seq ?_
            refine wc_seq ?_
            refine wc_region ?_
            refine wl_free .none rfl (yf_move rfl) ?_
            refine wl_free .none rfl (yf_lss rfl rfl) ?_
            refine wl_nil ?_
            refine wq_then ?_
            refine wc_cond rfl (fun hc => ?_) (fun hc => ?_)
            · replace hc := of_decide_eq_true hc
              refine wc_skip ?_
              refine wq_then ?_
              refine wc_seq ?_
              refine wc_block ?_
              refine wc_seq ?_
              refine wc_weak (.cons (i := 3) rfl <| .cons (i := 4) rfl <| .cons (i := 5) rfl <| .cons (i := 7) rfl <| .cons (i := 10) rfl <| .cons (i := 11) rfl <| .cons (i := 12) rfl <| .cons (i := 13) rfl <| .cons (i := 14) rfl <| .cons (i := 84) rfl <| .nil) ?_
              refine wc_drawN [0, 1, 2, 3, 4, 5, 6, 7, 8, 9, 10, 11, 12, 13] _ (by kernel_rfl) (by kernel_rfl) HpG.stab (fun _ h => h) (fun n0 hn0 => ?_)
              refine wd_at rfl ?_
              (refine wd_free ?_ .none rfl (yf_move rfl) ?_; (· rfl);  skip)
              refine wd_at rfl ?_
              (refine wd_free ?_ .none rfl (yf_loadAllL 6 rfl rfl Try.underlying36 rfl (by kernel_rfl)) ?_; (· rfl);  skip)
              refine wd_at rfl ?_
              refine wd_pure .none rfl (by kernel_rfl) rfl (fun _ _ hj hx => HpG.onE hj hx) (fun w hw => writes_any o1 w) ?_
              refine wd_at rfl ?_
              (refine wd_free ?_ .none rfl (yf_neq rfl rfl) ?_; (· rfl);  skip)
              refine wd_at rfl ?_
              (refine wd_free ?_ .none rfl (yf_move rfl) ?_; (· rfl);  skip)
              refine wd_split 91 rfl (fun hjw => ?_) (fun hjw => ?_)
              · replace hjw := bne_yes hjw
                refine wd_at rfl ?_
                (refine wd_free ?_ (.some rfl rfl) rfl (yf_move rfl) ?_; (· rfl);  skip)
                refine wd_at rfl ?_
                (refine wd_free ?_ (.some rfl rfl) rfl (yf_fieldAddr (off := 4) (sz := 27) rfl Try.underlying39 (by kernel_rfl) rfl) ?_; (· rfl);  skip)
                refine wd_at rfl ?_
                first | (refine wd_free ?_ (.some rfl rfl) rfl (yf_indexAddrA (es := 1) rfl rfl Try.underlying37 (by kernel_rfl) rfl ?_ rfl) ?_; (· rfl); (· first | decide | omega | (simp; omega)); skip) | (refine wd_free ?_ (.some rfl rfl) rfl (yf_indexAddrA (es := 1) rfl rfl Try.underlying37 (by kernel_rfl) (Int.toNat_of_nonneg ?_).symm ?_ rfl) ?_; (· rfl); (· omega); (· first | decide | omega | (simp; omega)); skip)
                refine wd_at rfl ?_
                (refine wd_free ?_ (.some rfl rfl) rfl (yf_loadL (v := .int .u32 ((evalM (oneL o1) (gzL (suV x)) μ.pm).1.vars.getD j 0)) 0 rfl rfl (ouL_at hE28 (i := j) (by omega) (by omega)) Try.underlying34 rfl) ?_; (· rfl);  skip)
                refine wd_at rfl ?_
                (refine wd_free ?_ (.some rfl rfl) rfl (yf_move rfl) ?_; (· rfl);  skip)
                refine wd_at rfl ?_
                first | (refine wd_free ?_ (.some rfl rfl) rfl (yf_indexAddrA (es := 1) rfl rfl Try.underlying37 (by kernel_rfl) rfl ?_ rfl) ?_; (· rfl); (· first | decide | omega | (simp; omega)); skip) | (refine wd_free ?_ (.some rfl rfl) rfl (yf_indexAddrA (es := 1) rfl rfl Try.underlying37 (by kernel_rfl) (Int.toNat_of_nonneg ?_).symm ?_ rfl) ?_; (· rfl); (· omega); (· first | decide | omega | (simp; omega)); skip)
                refine wd_at rfl ?_
                (refine wd_free ?_ (.some rfl rfl) rfl (yf_loadL (v := .int .u32 ((gzL (suV x)).getD j 0)) 1 rfl rfl (us_at (i := j) (by rw [hgz.1]; omega) (by omega)) Try.underlying34 rfl) ?_; (· rfl);  skip)
                refine wd_at rfl ?_
                (refine wd_free ?_ (.some rfl rfl) rfl (yf_neq rfl rfl) ?_; (· rfl);  skip)
                refine wd_at rfl ?_
                (refine wd_free ?_ .none rfl (yf_pickT rfl rfl) ?_; (· rfl);  skip)
                refine wd_endH ?_
                refine wq_then ?_
                refine wc_cond rfl (fun hc => ?_) (fun hc => ?_)
                · replace hc := bne_yes hc
                  exact absurd ((hEff μ.pm).keep j (by omega) hjw) hc
                · replace hc := bne_no hc
                  refine wc_skip ?_
                  refine wq_block ?_
                  refine wq_then ?_
                  refine wc_weak (.cons (i := 3) rfl <| .cons (i := 4) rfl <| .cons (i := 5) rfl <| .cons (i := 7) rfl <| .cons (i := 10) rfl <| .cons (i := 11) rfl <| .cons (i := 12) rfl <| .cons (i := 13) rfl <| .cons (i := 14) rfl <| .cons (i := 84) rfl <| .cons (i := 100) rfl <| .nil) ?_
                  refine wc_region ?_
                  refine wl_free .none rfl (yf_move rfl) ?_
                  first | (refine wl_free .none rfl (yf_add rfl rfl (i64_in _ ?_ ?_)) ?_; (· omega); (· omega); skip) | refine wl_free .none rfl (yf_add rfl rfl rfl) ?_
                  refine wl_free .none rfl (yf_assign rfl) ?_
                  refine wl_nil ?_
                  refine wq_round (ι := {j : Nat // j ≤ 19}) ⟨j + 1, by omega⟩ ?_ ?_ (fun u h => h)
                  · show 19 - (j + 1) < 19 - j; omega
                  · exact .cons rfl <| .cons rfl <| .cons rfl <| .cons rfl <| .cons rfl <| .cons rfl <| .cons rfl <| .cons rfl <| .consE rfl rfl <| .nil
              · replace hjw := bne_no hjw
                refine wd_at rfl ?_
                refine wd_pass (fun _ _ h => by cases h) (.some rfl rfl rfl) rfl ?_
                refine wd_at rfl ?_
                refine wd_pass (fun _ _ h => by cases h) (.some rfl rfl rfl) rfl ?_
                refine wd_at rfl ?_
                refine wd_pass (fun _ _ h => by cases h) (.some rfl rfl rfl) rfl ?_
                refine wd_at rfl ?_
                refine wd_pass (fun _ _ h => by cases h) (.some rfl rfl rfl) rfl ?_
                refine wd_at rfl ?_
                refine wd_pass (fun _ _ h => by cases h) (.some rfl rfl rfl) rfl ?_
                refine wd_at rfl ?_
                refine wd_pass (fun _ _ h => by cases h) (.some rfl rfl rfl) rfl ?_
                refine wd_at rfl ?_
                refine wd_pass (fun _ _ h => by cases h) (.some rfl rfl rfl) rfl ?_
                refine wd_at rfl ?_
                refine wd_pass (fun _ _ h => by cases h) (.some rfl rfl rfl) rfl ?_
                refine wd_at rfl ?_
                (refine wd_free ?_ .none rfl (yf_pickF rfl rfl) ?_; (· rfl);  skip)
                refine wd_endH ?_
                refine wq_then ?_
                refine wc_false rfl ?_
                refine wc_skip ?_
                refine wq_block ?_
                refine wq_then ?_
                refine wc_weak (.cons (i := 3) rfl <| .cons (i := 4) rfl <| .cons (i := 5) rfl <| .cons (i := 7) rfl <| .cons (i := 10) rfl <| .cons (i := 11) rfl <| .cons (i := 12) rfl <| .cons (i := 13) rfl <| .cons (i := 14) rfl <| .cons (i := 84) rfl <| .cons (i := 100) rfl <| .nil) ?_
                refine wc_region ?_
                refine wl_free .none rfl (yf_move rfl) ?_
                first | (refine wl_free .none rfl (yf_add rfl rfl (i64_in _ ?_ ?_)) ?_; (· omega); (· omega); skip) | refine wl_free .none rfl (yf_add rfl rfl rfl) ?_
                refine wl_free .none rfl (yf_assign rfl) ?_
                refine wl_nil ?_
                refine wq_round (ι := {j : Nat // j ≤ 19}) ⟨j + 1, by omega⟩ ?_ ?_ (fun u h => h)
                · show 19 - (j + 1) < 19 - j; omega
                · exact .cons rfl <| .cons rfl <| .cons rfl <| .cons rfl <| .cons rfl <| .cons rfl <| .cons rfl <| .cons rfl <| .consE rfl rfl <| .nil
            · replace hc := of_decide_eq_false hc
              refine wc_exit ?_
              refine wq_then_exit ?_
              refine wq_then_exit ?_
              refine wq_here ?_
              refine wq_then ?_
              refine wc_seq ?_
              refine wc_cut (ι := Unit) (fun _ => [(3, ptrV b3), (4, ptrV b4), (5, ptrV b5), (7, .bool true), (10, ptrV b10), (11, ptrV b11), (12, ptrV μ.M), (13, ptrV b13), (115, .bool false)]) (fun _ => Hp (fun _ => False) w_0 ((b13, bk 39 (ouL ((evalM (oneL o1) (gzL (suV x)) μ.pm).1))) :: ([(b11, bk 37 (u32s (gzL (suV x)))), (b10, bk 26 (blkC i)), (b9, bk 68 (rfW o1.code).toList), (b5, bk 43 (u32s [p, q])), (b4, bk 50 (suC x)), (b3, bk 36 (opC o1))] ++ memL μ')) (i.rows ++ []) (RdIn (fun k => w_0.heap.size ≤ k) x.vA (u32s x.v))) ?_ (fun _ => ?_)
              · skip
                refine wc_weak (.cons (i := 3) rfl <| .cons (i := 4) rfl <| .cons (i := 5) rfl <| .cons (i := 7) rfl <| .cons (i := 10) rfl <| .cons (i := 11) rfl <| .cons (i := 12) rfl <| .cons (i := 13) rfl <| .cons (i := 14) rfl <| .cons (i := 84) rfl <| .nil) ?_
                refine wc_region ?_
                refine wl_free .none rfl (yf_fieldAddr (off := 0) (sz := 0) rfl Try.underlying36 (by kernel_rfl) rfl) ?_
                refine wl_free .none rfl (yf_loadL 6 rfl rfl rfl Try.underlying3 rfl) ?_
                refine wl_free .none rfl (yf_neq rfl rfl) ?_
                refine wl_free .none rfl (yf_move rfl) ?_
                refine wl_split 104 rfl (fun h18 => ?_) (fun h18 => ?_)
                · replace h18 := bne_yes h18
                  refine wl_free (.some rfl rfl) rfl (yf_fieldAddr (off := 0) (sz := 0) rfl Try.underlying36 (by kernel_rfl) rfl) ?_
                  refine wl_free (.some rfl rfl) rfl (yf_loadL 6 rfl rfl rfl Try.underlying3 rfl) ?_
                  refine wl_free (.some rfl rfl) rfl (yf_neq rfl rfl) ?_
                  refine wl_free .none rfl (yf_pickT rfl rfl) ?_
                  refine wl_free .none rfl (yf_move rfl) ?_
                  refine wl_split 109 rfl (fun h19 => ?_) (fun h19 => ?_)
                  · replace h19 := bne_yes h19
                    refine wl_free (.some rfl rfl) rfl (yf_move rfl) ?_
                    first | refine wl_free (.some rfl rfl) rfl (yf_loadAllL 0 rfl rfl Try.underlying50 rfl (by kernel_rfl)) ?_ | refine wl_free (.some rfl rfl) rfl (yf_loadAllL 1 rfl rfl Try.underlying50 rfl (by kernel_rfl)) ?_ | refine wl_free (.some rfl rfl) rfl (yf_loadAllL 2 rfl rfl Try.underlying50 rfl (by kernel_rfl)) ?_ | refine wl_free (.some rfl rfl) rfl (yf_loadAllL 3 rfl rfl Try.underlying50 rfl (by kernel_rfl)) ?_ | refine wl_free (.some rfl rfl) rfl (yf_loadAllL 4 rfl rfl Try.underlying50 rfl (by kernel_rfl)) ?_ | refine wl_free (.some rfl rfl) rfl (yf_loadAllL 5 rfl rfl Try.underlying50 rfl (by kernel_rfl)) ?_
                    refine wl_callN (.some rfl rfl) rfl (by kernel_rfl) rfl (fun w hw => memory_any x w) (fun μx hμx => ?_)
                    obtain ⟨okx, hbyx, hrx⟩ := hμx
                    refine wl_pure (.some rfl rfl) rfl (by kernel_rfl) rfl (fun w hw => by
                      have hpq := pm_eq ((hpm'.trans ((hEff μ.pm).mem ⟨h18, h19⟩)).trans (hpm.trans (su_pm hbyx hrx).symm))
                      rw [← same'.M]
                      exact memEqual_any μ' μx ok'.toWf okx.toWf hpq.1 hpq.2 w ⟨fun p hp => HpG.own hw p (List.mem_append_left _ (List.mem_cons_of_mem _ (List.mem_append_right _ hp))), fun p hp => HpG.own hw p (List.mem_append_right _ hp)⟩) ?_
                    refine wl_free (.some rfl rfl) rfl (yf_not rfl) ?_
                    refine wl_free .none rfl (yf_pickT rfl rfl) ?_
                    refine wl_nil ?_
                    refine wq_meet () ?_ (fun w h => Hp.drop h (List.sublist_append_left _ _) (.refl _))
                    (repeat (refine .cons rfl ?_)); exact .nil
                  · replace h19 := bne_no h19
                    refine wl_pass (.some rfl rfl rfl) rfl ?_
                    refine wl_pass (.some rfl rfl rfl) rfl ?_
                    refine wl_pass (.some rfl rfl rfl) rfl ?_
                    refine wl_pass (.some rfl rfl rfl) rfl ?_
                    refine wl_pass (.some rfl rfl rfl) rfl ?_
                    refine wl_free .none rfl (yf_pickF rfl rfl) ?_
                    refine wl_nil ?_
                    refine wq_meet () ?_ (fun w h => h)
                    (repeat (refine .cons rfl ?_)); exact .nil
                · replace h18 := bne_no h18
                  refine wl_pass (.some rfl rfl rfl) rfl ?_
                  refine wl_pass (.some rfl rfl rfl) rfl ?_
                  refine wl_pass (.some rfl rfl rfl) rfl ?_
                  refine wl_free .none rfl (yf_pickF rfl rfl) ?_
                  refine wl_free .none rfl (yf_move rfl) ?_
                  refine wl_pass (.some rfl rfl rfl) rfl ?_
                  refine wl_pass (.some rfl rfl rfl) rfl ?_
                  refine wl_pass (.some rfl rfl rfl) rfl ?_
                  refine wl_pass (.some rfl rfl rfl) rfl ?_
                  refine wl_pass (.some rfl rfl rfl) rfl ?_
                  refine wl_free .none rfl (yf_pickF rfl rfl) ?_
                  refine wl_nil ?_
                  refine wq_meet () ?_ (fun w h => h)
                  (repeat (refine .cons rfl ?_)); exact .nil
              · skip
                refine wc_cond rfl (fun hc => ?_) (fun hc => ?_)
                · skip
                  cases hc
                · skip
                  refine wc_skip ?_
                  refine wq_then ?_
                  refine wc_seq ?_
                  refine wc_region ?_
                  first | (refine wl_free .none rfl (yf_indexAddrA (j := 0) (es := 1) rfl rfl Try.underlying43 (by kernel_rfl) rfl ?_ rfl) ?_; (· first | decide | omega | (simp; omega)); skip) | (refine wl_free .none rfl (yf_indexAddrA (es := 1) rfl rfl Try.underlying43 (by kernel_rfl) (Int.toNat_of_nonneg ?_).symm ?_ rfl) ?_; (· omega); (· first | decide | omega | (simp; omega)); skip)
                  refine wl_free .none rfl (yf_loadL (v := .int .u32 p) 4 rfl rfl rfl Try.underlying34 rfl) ?_
                  (refine wl_free .none rfl (yf_rem rfl rfl ?_ hkk) ?_; (· first | decide | omega); skip)
                  first | (refine wl_free .none rfl (yf_conv rfl (by kernel_rfl) Try.underlying3 (i64_in _ ?_ ?_)) ?_; (· omega); (· omega); skip) | refine wl_free .none rfl (yf_conv rfl (by kernel_rfl) Try.underlying3 rfl) ?_
                  refine wl_free .none rfl (yf_assign rfl) ?_
                  refine wl_nil ?_
                  refine wq_then ?_
                  refine wc_seq ?_
                  refine wc_weak (.cons (i := 3) rfl <| .cons (i := 4) rfl <| .cons (i := 5) rfl <| .cons (i := 7) rfl <| .cons (i := 10) rfl <| .cons (i := 11) rfl <| .cons (i := 12) rfl <| .cons (i := 13) rfl <| .cons (i := 15) rfl <| .cons (i := 115) rfl <| .nil) ?_
                  refine wc_region ?_
                  refine wl_free .none rfl (yf_loadAllL 6 rfl rfl Try.underlying36 rfl (by kernel_rfl)) ?_
                  refine wl_callR .none rfl (by kernel_rfl) rfl (fun w hw => reads_call o1 w) (fun rA _ => ?_)
                  obtain ⟨rA, rc⟩ := rA
                  dsimp only
                  refine wl_free .none rfl (yf_assign rfl) ?_
                  refine wl_nil ?_
                  refine wq_then ?_
                  refine wc_seq ?_
                  refine wc_seq ?_
                  refine wc_weak (.cons (i := 3) rfl <| .cons (i := 4) rfl <| .cons (i := 5) rfl <| .cons (i := 7) rfl <| .cons (i := 10) rfl <| .cons (i := 11) rfl <| .cons (i := 12) rfl <| .cons (i := 13) rfl <| .cons (i := 15) rfl <| .cons (i := 16) rfl <| .cons (i := 115) rfl <| .nil) ?_
                  refine wc_region ?_
                  refine wl_free .none rfl (yf_assign rfl) ?_
                  refine wl_nil ?_
                  refine wq_then ?_
                  refine wc_block ?_
                  refine wc_loop (ι := {r : Nat // r ≤ (readsL o1).length ∧ ∀ t, t < r → (readsL o1).getD t 0 ≠ kk}) (fun r => [(3, ptrV b3), (4, ptrV b4), (5, ptrV b5), (7, .bool true), (10, ptrV b10), (11, ptrV b11), (12, ptrV μ.M), (13, ptrV b13), (15, .int .i64 kk), (16, .slice rA (readsL o1).length rc), (17, .int .i64 r.1)]) (fun _ => Hp (fun _ => False) w_0 ((b13, bk 39 (ouL ((evalM (oneL o1) (gzL (suV x)) μ.pm).1))) :: ([(b11, bk 37 (u32s (gzL (suV x)))), (b10, bk 26 (blkC i)), (b9, bk 68 (rfW o1.code).toList), (b5, bk 43 (u32s [p, q])), (b4, bk 50 (suC x)), (b3, bk 36 (opC o1))] ++ memL μ')) ([intRow rA rc (readsL o1)] ++ (i.rows ++ [])) (RdIn (fun k => w_0.heap.size ≤ k) x.vA (u32s x.v))) (fun r => (readsL o1).length - r.1) ⟨0, Nat.zero_le _, fun t ht => absurd ht (Nat.not_lt_zero _)⟩ ?_ ?_ (fun r => ?_)
                  · exact .cons rfl <| .cons rfl <| .cons rfl <| .cons rfl <| .cons rfl <| .cons rfl <| .cons rfl <| .cons rfl <| .cons rfl <| .cons rfl <| .consE rfl rfl <| .nil
                  · exact fun w h => h
                  obtain ⟨r, hr1, hr2⟩ := r
                  dsimp only at hr1 hr2 ⊢
                  refine wc_seq ?_
                  refine wc_seq ?_
                  refine wc_region ?_
                  refine wl_free .none rfl (yf_move rfl) ?_
                  refine wl_free .none rfl (yf_move rfl) ?_
                  refine wl_free .none rfl (yf_lenS rfl Try.underlying23) ?_
                  refine wl_free .none rfl (yf_lss rfl rfl) ?_
                  refine wl_nil ?_
                  refine wq_then ?_
                  refine wc_cond rfl (fun hc => ?_) (fun hc => ?_)
                  · replace hc := of_decide_eq_true hc
                    have hrl : r < (readsL o1).length := by omega
                    have hrll : (readsL o1).length ≤ 2 := by unfold readsL; rw [List.length_append]; split <;> split <;> simp
                    refine wc_fact (p := ∃ g off, rA = some ⟨g, off, none⟩) (fun w hw => by
                      obtain ⟨g, off, e, _⟩ := row_rd (HpG.rows hw _ (List.mem_cons_self ..)) (by show 0 < ((readsL o1).map _).length; rw [List.length_map]; omega)
                      exact ⟨g, off, e⟩) (fun hRA => ?_)
                    obtain ⟨gR, oR, hRA⟩ := hRA
                    refine wc_skip ?_
                    refine wq_then ?_
                    refine wc_seq ?_
                    refine wc_block ?_
                    refine wc_seq ?_
                    refine wc_weak (.cons (i := 3) rfl <| .cons (i := 4) rfl <| .cons (i := 5) rfl <| .cons (i := 7) rfl <| .cons (i := 10) rfl <| .cons (i := 11) rfl <| .cons (i := 12) rfl <| .cons (i := 13) rfl <| .cons (i := 15) rfl <| .cons (i := 16) rfl <| .cons (i := 17) rfl <| .cons (i := 125) rfl <| .nil) ?_
                    refine wc_region ?_
                    refine wl_free .none rfl (yf_move rfl) ?_
                    refine wl_free .none rfl (yf_move rfl) ?_
                    refine wl_free .none rfl (yf_indexAddrS (g := gR) (o := oR) (j := r) (es := 1) (by rw [← hRA]; rfl) rfl Try.underlying23 (by kernel_rfl) rfl hrl rfl) ?_
                    refine wl_free .none rfl (yf_load (v := .int .i64 ((readsL o1).getD r 0)) rfl Try.underlying3 rfl (fun w h => by
                      have := row_rd (HpG.rows h _ (List.mem_cons_self ..))
                      rw [hRA] at this
                      exact this.at (i := r) (by rw [List.length_map]; exact hrl) (by omega) (i64s_at hrl rfl))) ?_
                    refine wl_free .none rfl (yf_move rfl) ?_
                    refine wl_free .none rfl (yf_eql rfl rfl) ?_
                    refine wl_nil ?_
                    refine wq_then ?_
                    refine wc_cond rfl (fun hc => ?_) (fun hc => ?_)
                    · replace hc := eq_of_beq hc
                      refine wc_seq ?_
                      refine wc_weak (.cons (i := 3) rfl <| .cons (i := 4) rfl <| .cons (i := 5) rfl <| .cons (i := 7) rfl <| .cons (i := 10) rfl <| .cons (i := 11) rfl <| .cons (i := 12) rfl <| .cons (i := 13) rfl <| .cons (i := 15) rfl <| .cons (i := 16) rfl <| .cons (i := 17) rfl <| .cons (i := 125) rfl <| .cons (i := 133) rfl <| .nil) ?_
                      refine wc_region ?_
                      refine wl_free .none rfl (yf_move rfl) ?_
                      refine wl_free .none rfl (yf_assign rfl) ?_
                      refine wl_nil ?_
                      refine wq_then ?_
                      refine wc_ret ?_
                      refine wq_block_ret ?_
                      refine wq_then_ret ?_
                      refine wq_then_ret ?_
                      refine wq_block_ret ?_
                      refine wq_then_ret ?_
                      refine wq_ret1 rfl rfl (fun w hw => ?_)
                      exact ⟨rfl, (HpG.keep hw).ext⟩
                    · replace hc := beq_no hc
                      refine wc_skip ?_
                      refine wq_block ?_
                      refine wq_then ?_
                      refine wc_weak (.cons (i := 3) rfl <| .cons (i := 4) rfl <| .cons (i := 5) rfl <| .cons (i := 7) rfl <| .cons (i := 10) rfl <| .cons (i := 11) rfl <| .cons (i := 12) rfl <| .cons (i := 13) rfl <| .cons (i := 15) rfl <| .cons (i := 16) rfl <| .cons (i := 17) rfl <| .cons (i := 125) rfl <| .cons (i := 133) rfl <| .nil) ?_
                      refine wc_region ?_
                      refine wl_free .none rfl (yf_move rfl) ?_
                      first | (refine wl_free .none rfl (yf_add rfl rfl (i64_in _ ?_ ?_)) ?_; (· omega); (· omega); skip) | refine wl_free .none rfl (yf_add rfl rfl rfl) ?_
                      refine wl_free .none rfl (yf_assign rfl) ?_
                      refine wl_nil ?_
                      refine wq_round (ι := {r : Nat // r ≤ (readsL o1).length ∧ ∀ t, t < r → (readsL o1).getD t 0 ≠ kk}) ⟨r + 1, by omega, fun t ht => ?_⟩ ?_ ?_ (fun u h => h)
                      · rcases Nat.lt_or_ge t r with h | h
                        · exact hr2 t h
                        · obtain rfl : t = r := by omega
                          exact hc
                      · show (readsL o1).length - (r + 1) < (readsL o1).length - r; omega
                      · exact .cons rfl <| .cons rfl <| .cons rfl <| .cons rfl <| .cons rfl <| .cons rfl <| .cons rfl <| .cons rfl <| .cons rfl <| .cons rfl <| .consE rfl rfl <| .nil
                  · replace hc := of_decide_eq_false hc
                    have hre : r = (readsL o1).length := by omega
                    have hR : (kk : Int) ∉ readsL o1 := fun hmem => by
                      obtain ⟨t, ht, he⟩ := List.getElem_of_mem hmem
                      refine hr2 t (by omega) ?_
                      rw [List.getD_eq_getElem?_getD, List.getElem?_eq_getElem ht, he]; rfl
                    obtain ⟨s1, s2, s3, s4, s5⟩ := (hEff μ.pm).same hR
                    refine wc_exit ?_
                    refine wq_then_exit ?_
                    refine wq_then_exit ?_
                    refine wq_here ?_
                    refine wq_then ?_
                    refine wc_seq ?_
                    refine wc_weak (.cons (i := 3) rfl <| .cons (i := 4) rfl <| .cons (i := 5) rfl <| .cons (i := 7) rfl <| .cons (i := 10) rfl <| .cons (i := 11) rfl <| .cons (i := 12) rfl <| .cons (i := 13) rfl <| .cons (i := 15) rfl <| .cons (i := 16) rfl <| .cons (i := 17) rfl <| .cons (i := 125) rfl <| .nil) ?_
                    refine wc_region ?_
                    refine wl_free .none rfl (yf_loadAllL 1 rfl rfl Try.underlying37 rfl (u28l hgz.1)) ?_
                    refine wl_new .none rfl (nf_alloc (z := .agg #[.int .u32 0, .int .u32 0, .int .u32 0, .int .u32 0, .int .u32 0, .int .u32 0, .int .u32 0, .int .u32 0, .int .u32 0, .int .u32 0, .int .u32 0, .int .u32 0, .int .u32 0, .int .u32 0, .int .u32 0, .int .u32 0, .int .u32 0, .int .u32 0, .int .u32 0, .int .u32 0, .int .u32 0, .int .u32 0, .int .u32 0, .int .u32 0, .int .u32 0, .int .u32 0, .int .u32 0, .int .u32 0]) (cs := [.int .u32 0, .int .u32 0, .int .u32 0, .int .u32 0, .int .u32 0, .int .u32 0, .int .u32 0, .int .u32 0, .int .u32 0, .int .u32 0, .int .u32 0, .int .u32 0, .int .u32 0, .int .u32 0, .int .u32 0, .int .u32 0, .int .u32 0, .int .u32 0, .int .u32 0, .int .u32 0, .int .u32 0, .int .u32 0, .int .u32 0, .int .u32 0, .int .u32 0, .int .u32 0, .int .u32 0, .int .u32 0]) (by kernel_rfl) rfl) (fun b18 => ?_)
                    refine wl_chain0 .none (cf_storeAll (seg := u32s (gzL (suV x))) 0 rfl rfl rfl (ints_one' _) (by rw [us_len, hgz.1]; rfl) (u28l hgz.1)) (fun _ => ?_)
                    refine wl_nil ?_
                    refine wq_then ?_
                    refine wc_seq ?_
                    refine wc_weak (.cons (i := 3) rfl <| .cons (i := 4) rfl <| .cons (i := 5) rfl <| .cons (i := 7) rfl <| .cons (i := 10) rfl <| .cons (i := 11) rfl <| .cons (i := 12) rfl <| .cons (i := 13) rfl <| .cons (i := 15) rfl <| .cons (i := 16) rfl <| .cons (i := 17) rfl <| .cons (i := 18) rfl <| .cons (i := 125) rfl <| .nil) ?_
                    refine wc_region ?_
                    refine wl_free .none rfl (yf_move rfl) ?_
                    first | (refine wl_free .none rfl (yf_indexAddrA (j := 1) (es := 1) rfl rfl Try.underlying43 (by kernel_rfl) rfl ?_ rfl) ?_; (· first | decide | omega | (simp; omega)); skip) | (refine wl_free .none rfl (yf_indexAddrA (es := 1) rfl rfl Try.underlying43 (by kernel_rfl) (Int.toNat_of_nonneg ?_).symm ?_ rfl) ?_; (· omega); (· first | decide | omega | (simp; omega)); skip)
                    refine wl_free .none rfl (yf_loadL (v := .int .u32 q) 5 rfl rfl rfl Try.underlying34 rfl) ?_
                    first | (refine wl_free .none rfl (yf_indexAddrA (es := 1) rfl rfl Try.underlying37 (by kernel_rfl) rfl ?_ rfl) ?_; (· first | decide | omega | (simp; omega)); skip) | (refine wl_free .none rfl (yf_indexAddrA (es := 1) rfl rfl Try.underlying37 (by kernel_rfl) (Int.toNat_of_nonneg ?_).symm ?_ rfl) ?_; (· omega); (· first | decide | omega | (simp; omega)); skip)
                    refine wl_chain0 .none (cf_storeU (l := gzL (suV x)) 0 rfl rfl rfl (by rw [hgz.1]; omega) (by kernel_rfl)) (fun _ => ?_)
                    refine wl_conseq (H' := Hp (fun _ => False) w_0 ((b18, bk 37 (u32s ((gzL (suV x)).set kk q))) :: (b13, bk 39 (ouL ((evalM (oneL o1) (gzL (suV x)) μ.pm).1))) :: ([(b11, bk 37 (u32s (gzL (suV x)))), (b10, bk 26 (blkC i)), (b9, bk 68 (rfW o1.code).toList), (b5, bk 43 (u32s [p, q])), (b4, bk 50 (suC x)), (b3, bk 36 (opC o1))] ++ memL μ')) ([intRow rA rc (readsL o1)] ++ (i.rows ++ [])) (RdIn (fun k => w_0.heap.size ≤ k) x.vA (u32s x.v))) (fun u hu => ?_) ?_
                    · simp only [Nat.zero_add, Nat.mul_one] at hu; exact hu
                    refine wl_nil ?_
                    refine wq_then ?_
                    refine wc_seq ?_
                    refine wc_weak (.cons (i := 3) rfl <| .cons (i := 4) rfl <| .cons (i := 5) rfl <| .cons (i := 7) rfl <| .cons (i := 10) rfl <| .cons (i := 11) rfl <| .cons (i := 12) rfl <| .cons (i := 13) rfl <| .cons (i := 15) rfl <| .cons (i := 16) rfl <| .cons (i := 17) rfl <| .cons (i := 18) rfl <| .cons (i := 125) rfl <| .nil) ?_
                    refine wc_region ?_
                    refine wl_free .none rfl (yf_loadAllL 6 rfl rfl Try.underlying50 rfl (by kernel_rfl)) ?_
                    refine wl_callN .none rfl (by kernel_rfl) rfl (fun w hw => memory_any x w) (fun μ2 hμ2 => ?_)
                    obtain ⟨ok2, hby2, hr2'⟩ := hμ2
                    have hpp : μ2.pm = μ.pm := (su_pm hby2 hr2').trans hpm.symm
                    have hsv : VarsOk ((gzL (suV x)).set kk q) := set_okV hgz hq
                    have hF28 : (evalM (oneL o1) ((gzL (suV x)).set kk q) μ.pm).1.vars.length = 28 := evalM_len hsv.1 _ _
                    refine wl_free .none rfl (yf_assign rfl) ?_
                    refine wl_nil ?_
                    refine wq_then ?_
                    refine wc_seq ?_
                    refine wc_weak (.cons (i := 3) rfl <| .cons (i := 4) rfl <| .cons (i := 5) rfl <| .cons (i := 7) rfl <| .cons (i := 10) rfl <| .cons (i := 11) rfl <| .cons (i := 12) rfl <| .cons (i := 13) rfl <| .cons (i := 15) rfl <| .cons (i := 16) rfl <| .cons (i := 17) rfl <| .cons (i := 18) rfl <| .cons (i := 19) rfl <| .cons (i := 125) rfl <| .nil) ?_
                    refine wc_region ?_
                    first | refine wl_free .none rfl (yf_loadAllL 0 rfl rfl Try.underlying26 rfl (by kernel_rfl)) ?_ | refine wl_free .none rfl (yf_loadAllL 1 rfl rfl Try.underlying26 rfl (by kernel_rfl)) ?_ | refine wl_free .none rfl (yf_loadAllL 2 rfl rfl Try.underlying26 rfl (by kernel_rfl)) ?_ | refine wl_free .none rfl (yf_loadAllL 3 rfl rfl Try.underlying26 rfl (by kernel_rfl)) ?_ | refine wl_free .none rfl (yf_loadAllL 4 rfl rfl Try.underlying26 rfl (by kernel_rfl)) ?_ | refine wl_free .none rfl (yf_loadAllL 5 rfl rfl Try.underlying26 rfl (by kernel_rfl)) ?_
                    refine wl_free .none rfl (yf_loadAllL 0 rfl rfl Try.underlying37 rfl (u28l hsv.1)) ?_
                    refine wl_free .none rfl (yf_move rfl) ?_
                    refine wl_free .none rfl (yf_makeIface rfl Try.underlying51 rfl) ?_
                    refine wl_callM ((b18, bk 37 (u32s ((gzL (suV x)).set kk q))) :: (b13, bk 39 (ouL ((evalM (oneL o1) (gzL (suV x)) μ.pm).1))) :: ([(b11, bk 37 (u32s (gzL (suV x)))), (b10, bk 26 (blkC i)), (b9, bk 68 (rfW o1.code).toList), (b5, bk 43 (u32s [p, q])), (b4, bk 50 (suC x)), (b3, bk 36 (opC o1))] ++ memL μ')) (memL μ2) .none rfl (by kernel_rfl) rfl (fun w hm hw => by
                      have := irEval_call i hi (by omega) hsv ok2 hm (BRd.ofR hw fun r hr => List.mem_append_right _ (List.mem_append_left _ hr))
                      rw [hib, hpp] at this
                      exact this) (fun μ3 hμ3 => ?_)
                    obtain ⟨ok3, same3, hpm3⟩ := hμ3
                    refine wl_new .none rfl (nf_alloc (z := .agg #[.bool false, .int .i64 0, .int .i64 0, .int .u32 0, .int .u32 0, .int .u32 0, .int .u32 0, .int .u32 0, .int .u32 0, .int .u32 0, .int .u32 0, .int .u32 0, .int .u32 0, .int .u32 0, .int .u32 0, .int .u32 0, .int .u32 0, .int .u32 0, .int .u32 0, .int .u32 0, .int .u32 0, .int .u32 0, .int .u32 0, .int .u32 0, .int .u32 0, .int .u32 0, .int .u32 0, .int .u32 0, .int .u32 0, .int .u32 0, .int .u32 0, .int .u32 0]) (cs := [.bool false, .int .i64 0, .int .i64 0, .int .u32 0, .int .u32 0, .int .u32 0, .int .u32 0, .int .u32 0, .int .u32 0, .int .u32 0, .int .u32 0, .int .u32 0, .int .u32 0, .int .u32 0, .int .u32 0, .int .u32 0, .int .u32 0, .int .u32 0, .int .u32 0, .int .u32 0, .int .u32 0, .int .u32 0, .int .u32 0, .int .u32 0, .int .u32 0, .int .u32 0, .int .u32 0, .int .u32 0, .int .u32 0, .int .u32 0, .int .u32 0, .int .u32 0]) (by kernel_rfl) rfl) (fun b20 => ?_)
                    refine wl_chain0 .none (cf_storeAll (seg := ouL ((evalM (oneL o1) ((gzL (suV x)).set kk q) μ.pm).1)) 0 rfl rfl rfl (fun v hv => List.all_eq_true.1 (ouL_all _) v hv) (by rw [ouL_len, hF28]; rfl) (ou32 hF28)) (fun _ => ?_)
                    refine wl_nil ?_
                    refine wq_then ?_
                    refine wc_seq ?_
                    refine wc_seq ?_
                    refine wc_weak (.cons (i := 3) rfl <| .cons (i := 4) rfl <| .cons (i := 5) rfl <| .cons (i := 7) rfl <| .cons (i := 10) rfl <| .cons (i := 11) rfl <| .cons (i := 12) rfl <| .cons (i := 13) rfl <| .cons (i := 15) rfl <| .cons (i := 16) rfl <| .cons (i := 17) rfl <| .cons (i := 18) rfl <| .cons (i := 19) rfl <| .cons (i := 20) rfl <| .cons (i := 125) rfl <| .nil) ?_
                    refine wc_region ?_
                    refine wl_free .none rfl (yf_assign rfl) ?_
                    refine wl_nil ?_
                    refine wq_then ?_
                    refine wc_block ?_
                    refine wc_loop (ι := {j : Nat // j ≤ 19}) (fun j => [(3, ptrV b3), (7, .bool true), (12, ptrV μ.M), (13, ptrV b13), (15, .int .i64 kk), (19, ptrV μ2.M), (20, ptrV b20), (21, .int .i64 j.1)]) (fun _ => Hp (fun _ => False) w_0 ((b20, bk 39 (ouL ((evalM (oneL o1) ((gzL (suV x)).set kk q) μ.pm).1))) :: (((b18, bk 37 (u32s ((gzL (suV x)).set kk q))) :: (b13, bk 39 (ouL ((evalM (oneL o1) (gzL (suV x)) μ.pm).1))) :: ([(b11, bk 37 (u32s (gzL (suV x)))), (b10, bk 26 (blkC i)), (b9, bk 68 (rfW o1.code).toList), (b5, bk 43 (u32s [p, q])), (b4, bk 50 (suC x)), (b3, bk 36 (opC o1))] ++ memL μ')) ++ memL μ3)) ([intRow rA rc (readsL o1)] ++ (i.rows ++ [])) (RdIn (fun k => w_0.heap.size ≤ k) x.vA (u32s x.v))) (fun j => 19 - j.1) ⟨0, by omega⟩ ?_ ?_ (fun j => ?_)
                    · exact .cons rfl <| .cons rfl <| .cons rfl <| .cons rfl <| .cons rfl <| .cons rfl <| .cons rfl <| .consE rfl rfl <| .nil
                    · exact fun w h => h
                    obtain ⟨j2, hj2⟩ := j
                    dsimp only at hj2 ⊢
                    refine wc_seq ?_
                    refine wc_seq ?_
                    refine wc_region ?_
                    refine wl_free .none rfl (yf_move rfl) ?_
                    refine wl_free .none rfl (yf_lss rfl rfl) ?_
                    refine wl_nil ?_
                    refine wq_then ?_
                    refine wc_cond rfl (fun hc => ?_) (fun hc => ?_)
                    · replace hc := of_decide_eq_true hc
                      refine wc_skip ?_
                      refine wq_then ?_
                      refine wc_seq ?_
                      refine wc_block ?_
                      refine wc_seq ?_
                      refine wc_weak (.cons (i := 3) rfl <| .cons (i := 7) rfl <| .cons (i := 12) rfl <| .cons (i := 13) rfl <| .cons (i := 15) rfl <| .cons (i := 19) rfl <| .cons (i := 20) rfl <| .cons (i := 21) rfl <| .cons (i := 148) rfl <| .nil) ?_
                      refine wc_draw0 [0, 1, 2, 3, 4, 5, 6, 7, 8, 9, 10, 11, 12, 13] _ (by kernel_rfl) (by kernel_rfl) HpG.stab HpG.stab (fun _ h => HpG.drew h) (fun _ h => h) ?_
                      refine wd_at rfl ?_
                      (refine wd_free ?_ .none rfl (yf_move rfl) ?_; (· rfl);  skip)
                      refine wd_at rfl ?_
                      (refine wd_free ?_ .none rfl (yf_move rfl) ?_; (· rfl);  skip)
                      refine wd_at rfl ?_
                      (refine wd_free ?_ .none rfl (yf_neq rfl rfl) ?_; (· rfl);  skip)
                      refine wd_at rfl ?_
                      (refine wd_free ?_ .none rfl (yf_move rfl) ?_; (· rfl);  skip)
                      refine wd_split 154 rfl (fun hjk => ?_) (fun hjk => ?_)
                      · replace hjk := bne_yes hjk
                        refine wd_at rfl ?_
                        (refine wd_free ?_ (.some rfl rfl) rfl (yf_move rfl) ?_; (· rfl);  skip)
                        refine wd_at rfl ?_
                        (refine wd_free ?_ (.some rfl rfl) rfl (yf_fieldAddr (off := 4) (sz := 27) rfl Try.underlying39 (by kernel_rfl) rfl) ?_; (· rfl);  skip)
                        refine wd_at rfl ?_
                        first | (refine wd_free ?_ (.some rfl rfl) rfl (yf_indexAddrA (es := 1) rfl rfl Try.underlying37 (by kernel_rfl) rfl ?_ rfl) ?_; (· rfl); (· first | decide | omega | (simp; omega)); skip) | (refine wd_free ?_ (.some rfl rfl) rfl (yf_indexAddrA (es := 1) rfl rfl Try.underlying37 (by kernel_rfl) (Int.toNat_of_nonneg ?_).symm ?_ rfl) ?_; (· rfl); (· omega); (· first | decide | omega | (simp; omega)); skip)
                        refine wd_at rfl ?_
                        (refine wd_free ?_ (.some rfl rfl) rfl (yf_loadL (v := .int .u32 ((evalM (oneL o1) ((gzL (suV x)).set kk q) μ.pm).1.vars.getD j2 0)) 0 rfl rfl (ouL_at hF28 (i := j2) (by omega) (by omega)) Try.underlying34 rfl) ?_; (· rfl);  skip)
                        refine wd_at rfl ?_
                        (refine wd_free ?_ (.some rfl rfl) rfl (yf_move rfl) ?_; (· rfl);  skip)
                        refine wd_at rfl ?_
                        (refine wd_free ?_ (.some rfl rfl) rfl (yf_fieldAddr (off := 4) (sz := 27) rfl Try.underlying39 (by kernel_rfl) rfl) ?_; (· rfl);  skip)
                        refine wd_at rfl ?_
                        first | (refine wd_free ?_ (.some rfl rfl) rfl (yf_indexAddrA (es := 1) rfl rfl Try.underlying37 (by kernel_rfl) rfl ?_ rfl) ?_; (· rfl); (· first | decide | omega | (simp; omega)); skip) | (refine wd_free ?_ (.some rfl rfl) rfl (yf_indexAddrA (es := 1) rfl rfl Try.underlying37 (by kernel_rfl) (Int.toNat_of_nonneg ?_).symm ?_ rfl) ?_; (· rfl); (· omega); (· first | decide | omega | (simp; omega)); skip)
                        refine wd_at rfl ?_
                        (refine wd_free ?_ (.some rfl rfl) rfl (yf_loadL (v := .int .u32 ((evalM (oneL o1) (gzL (suV x)) μ.pm).1.vars.getD j2 0)) 2 rfl rfl (ouL_at hE28 (i := j2) (by omega) (by omega)) Try.underlying34 rfl) ?_; (· rfl);  skip)
                        refine wd_at rfl ?_
                        (refine wd_free ?_ (.some rfl rfl) rfl (yf_neq rfl rfl) ?_; (· rfl);  skip)
                        refine wd_at rfl ?_
                        (refine wd_free ?_ .none rfl (yf_pickT rfl rfl) ?_; (· rfl);  skip)
                        refine wd_end ?_
                        refine wq_then ?_
                        refine wc_cond rfl (fun hc => ?_) (fun hc => ?_)
                        · replace hc := bne_yes hc
                          exact absurd (s1 j2 (by omega) (by omega)) hc
                        · replace hc := bne_no hc
                          refine wc_skip ?_
                          refine wq_block ?_
                          refine wq_then ?_
                          refine wc_weak (.cons (i := 3) rfl <| .cons (i := 7) rfl <| .cons (i := 12) rfl <| .cons (i := 13) rfl <| .cons (i := 15) rfl <| .cons (i := 19) rfl <| .cons (i := 20) rfl <| .cons (i := 21) rfl <| .cons (i := 148) rfl <| .cons (i := 164) rfl <| .nil) ?_
                          refine wc_region ?_
                          refine wl_free .none rfl (yf_move rfl) ?_
                          first | (refine wl_free .none rfl (yf_add rfl rfl (i64_in _ ?_ ?_)) ?_; (· omega); (· omega); skip) | refine wl_free .none rfl (yf_add rfl rfl rfl) ?_
                          refine wl_free .none rfl (yf_assign rfl) ?_
                          refine wl_nil ?_
                          refine wq_round (ι := {j : Nat // j ≤ 19}) ⟨j2 + 1, by omega⟩ ?_ ?_ (fun u h => h)
                          · show 19 - (j2 + 1) < 19 - j2; omega
                          · exact .cons rfl <| .cons rfl <| .cons rfl <| .cons rfl <| .cons rfl <| .cons rfl <| .cons rfl <| .consE rfl rfl <| .nil
                      · replace hjk := bne_no hjk
                        refine wd_at rfl ?_
                        refine wd_pass (fun _ _ h => by cases h) (.some rfl rfl rfl) rfl ?_
                        refine wd_at rfl ?_
                        refine wd_pass (fun _ _ h => by cases h) (.some rfl rfl rfl) rfl ?_
                        refine wd_at rfl ?_
                        refine wd_pass (fun _ _ h => by cases h) (.some rfl rfl rfl) rfl ?_
                        refine wd_at rfl ?_
                        refine wd_pass (fun _ _ h => by cases h) (.some rfl rfl rfl) rfl ?_
                        refine wd_at rfl ?_
                        refine wd_pass (fun _ _ h => by cases h) (.some rfl rfl rfl) rfl ?_
                        refine wd_at rfl ?_
                        refine wd_pass (fun _ _ h => by cases h) (.some rfl rfl rfl) rfl ?_
                        refine wd_at rfl ?_
                        refine wd_pass (fun _ _ h => by cases h) (.some rfl rfl rfl) rfl ?_
                        refine wd_at rfl ?_
                        refine wd_pass (fun _ _ h => by cases h) (.some rfl rfl rfl) rfl ?_
                        refine wd_at rfl ?_
                        refine wd_pass (fun _ _ h => by cases h) (.some rfl rfl rfl) rfl ?_
                        refine wd_at rfl ?_
                        (refine wd_free ?_ .none rfl (yf_pickF rfl rfl) ?_; (· rfl);  skip)
                        refine wd_end ?_
                        refine wq_then ?_
                        refine wc_false rfl ?_
                        refine wc_skip ?_
                        refine wq_block ?_
                        refine wq_then ?_
                        refine wc_weak (.cons (i := 3) rfl <| .cons (i := 7) rfl <| .cons (i := 12) rfl <| .cons (i := 13) rfl <| .cons (i := 15) rfl <| .cons (i := 19) rfl <| .cons (i := 20) rfl <| .cons (i := 21) rfl <| .cons (i := 148) rfl <| .cons (i := 164) rfl <| .nil) ?_
                        refine wc_region ?_
                        refine wl_free .none rfl (yf_move rfl) ?_
                        first | (refine wl_free .none rfl (yf_add rfl rfl (i64_in _ ?_ ?_)) ?_; (· omega); (· omega); skip) | refine wl_free .none rfl (yf_add rfl rfl rfl) ?_
                        refine wl_free .none rfl (yf_assign rfl) ?_
                        refine wl_nil ?_
                        refine wq_round (ι := {j : Nat // j ≤ 19}) ⟨j2 + 1, by omega⟩ ?_ ?_ (fun u h => h)
                        · show 19 - (j2 + 1) < 19 - j2; omega
                        · exact .cons rfl <| .cons rfl <| .cons rfl <| .cons rfl <| .cons rfl <| .cons rfl <| .cons rfl <| .consE rfl rfl <| .nil
                    · replace hc := of_decide_eq_false hc
                      refine wc_exit ?_
                      refine wq_then_exit ?_
                      refine wq_then_exit ?_
                      refine wq_here ?_
                      refine wq_then ?_
                      refine wc_seq ?_
                      refine wc_weak (.cons (i := 3) rfl <| .cons (i := 7) rfl <| .cons (i := 12) rfl <| .cons (i := 13) rfl <| .cons (i := 15) rfl <| .cons (i := 19) rfl <| .cons (i := 20) rfl <| .cons (i := 21) rfl <| .cons (i := 148) rfl <| .nil) ?_
                      refine wc_drawN [0, 1, 2, 3, 4, 5, 6, 7, 8, 9, 10, 11, 12, 13, 14, 15, 16, 17, 18, 19, 20, 21, 22, 23, 24, 25, 26, 27, 28, 29, 30, 31, 32, 33, 34, 35, 36, 37, 38, 39, 40, 41] _ (by kernel_rfl) (by kernel_rfl) HpG.stab (fun _ h => h) (fun n0 hn0 => ?_)
                      refine wd_at rfl ?_
                      (refine wd_free ?_ .none rfl (yf_move rfl) ?_; (· rfl);  skip)
                      refine wd_at rfl ?_
                      (refine wd_free ?_ .none rfl (yf_move rfl) ?_; (· rfl);  skip)
                      refine wd_split 166 rfl (fun hb => ?_) (fun hb => ?_)
                      · skip
                        refine wd_at rfl ?_
                        (refine wd_free ?_ (.some rfl rfl) rfl (yf_fieldAddr (off := 0) (sz := 0) rfl Try.underlying39 (by kernel_rfl) rfl) ?_; (· rfl);  skip)
                        refine wd_at rfl ?_
                        (refine wd_free ?_ (.some rfl rfl) rfl (yf_loadL (v := .bool (evalM (oneL o1) (gzL (suV x)) μ.pm).1.lv) 2 rfl rfl rfl Try.underlying4 rfl) ?_; (· rfl);  skip)
                        refine wd_at rfl ?_
                        (refine wd_free ?_ (.some rfl rfl) rfl (yf_fieldAddr (off := 0) (sz := 0) rfl Try.underlying39 (by kernel_rfl) rfl) ?_; (· rfl);  skip)
                        refine wd_at rfl ?_
                        (refine wd_free ?_ (.some rfl rfl) rfl (yf_loadL (v := .bool (evalM (oneL o1) (gzL (suV x)) μ.pm).1.lv) 0 rfl rfl (by rw [← s2]; rfl) Try.underlying4 rfl) ?_; (· rfl);  skip)
                        refine wd_at rfl ?_
                        (refine wd_free ?_ (.some rfl rfl) rfl (yf_bool_eql rfl rfl Try.underlying4) ?_; (· rfl);  skip)
                        refine wd_at rfl ?_
                        (refine wd_free ?_ .none rfl (yf_pickT rfl rfl) ?_; (· rfl);  skip)
                        refine wd_at rfl ?_
                        (refine wd_free ?_ .none rfl (yf_move rfl) ?_; (· rfl);  skip)
                        refine wd_split 173 rfl (fun hb => ?_) (fun hb => ?_)
                        · skip
                          refine wd_at rfl ?_
                          (refine wd_free ?_ (.some rfl rfl) rfl (yf_fieldAddr (off := 3) (sz := 0) rfl Try.underlying39 (by kernel_rfl) rfl) ?_; (· rfl);  skip)
                          refine wd_at rfl ?_
                          (refine wd_free ?_ (.some rfl rfl) rfl (yf_loadL (v := .int .u32 (evalM (oneL o1) (gzL (suV x)) μ.pm).1.pc) 2 rfl rfl rfl Try.underlying34 rfl) ?_; (· rfl);  skip)
                          refine wd_at rfl ?_
                          (refine wd_free ?_ (.some rfl rfl) rfl (yf_fieldAddr (off := 3) (sz := 0) rfl Try.underlying39 (by kernel_rfl) rfl) ?_; (· rfl);  skip)
                          refine wd_at rfl ?_
                          (refine wd_free ?_ (.some rfl rfl) rfl (yf_loadL (v := .int .u32 (evalM (oneL o1) (gzL (suV x)) μ.pm).1.pc) 0 rfl rfl (by rw [← s3]; rfl) Try.underlying34 rfl) ?_; (· rfl);  skip)
                          refine wd_at rfl ?_
                          (refine wd_free ?_ (.some rfl rfl) rfl (yf_eql rfl rfl) ?_; (· rfl);  skip)
                          refine wd_at rfl ?_
                          (refine wd_free ?_ .none rfl (yf_pickT rfl rfl) ?_; (· rfl);  skip)
                          refine wd_at rfl ?_
                          (refine wd_free ?_ .none rfl (yf_move rfl) ?_; (· rfl);  skip)
                          refine wd_split 180 rfl (fun hb => ?_) (fun hb => ?_)
                          · replace hb := eq_of_beq hb
                            refine wd_at rfl ?_
                            (refine wd_free ?_ (.some rfl rfl) rfl (yf_move rfl) ?_; (· rfl);  skip)
                            refine wd_at rfl ?_
                            (refine wd_free ?_ (.some rfl rfl) rfl (yf_loadAllL 8 rfl rfl Try.underlying36 rfl (by kernel_rfl)) ?_; (· rfl);  skip)
                            refine wd_at rfl ?_
                            refine wd_pure (.some rfl rfl) rfl (by kernel_rfl) rfl (fun _ _ hj hx => HpG.onE hj hx) (fun w hw => writes_any o1 w) ?_
                            refine wd_at rfl ?_
                            (refine wd_free ?_ (.some rfl rfl) rfl (yf_neq rfl rfl) ?_; (· rfl);  skip)
                            refine wd_at rfl ?_
                            (refine wd_free ?_ (.some rfl rfl) rfl (yf_move rfl) ?_; (· rfl);  skip)
                            refine wd_split 185 rfl (fun hkw => ?_) (fun hkw => ?_)
                            · replace hkw := bne_yes hkw
                              refine wd_at rfl ?_
                              refine wd_pass (fun _ _ h => by cases h) (.some rfl rfl rfl) rfl ?_
                              refine wd_at rfl ?_
                              refine wd_pass (fun _ _ h => by cases h) (.some rfl rfl rfl) rfl ?_
                              refine wd_at rfl ?_
                              (refine wd_free ?_ (.some rfl rfl) rfl (yf_pickT rfl rfl) ?_; (· rfl);  skip)
                              refine wd_at rfl ?_
                              (refine wd_free ?_ (.some rfl rfl) rfl (yf_move rfl) ?_; (· rfl);  skip)
                              refine wd_at rfl ?_
                              refine wd_pass (fun _ _ h => by cases h) (.some rfl rfl rfl) rfl ?_
                              refine wd_at rfl ?_
                              refine wd_pass (fun _ _ h => by cases h) (.some rfl rfl rfl) rfl ?_
                              refine wd_at rfl ?_
                              refine wd_pass (fun _ _ h => by cases h) (.some rfl rfl rfl) rfl ?_
                              refine wd_at rfl ?_
                              refine wd_pass (fun _ _ h => by cases h) (.some rfl rfl rfl) rfl ?_
                              refine wd_at rfl ?_
                              refine wd_pass (fun _ _ h => by cases h) (.some rfl rfl rfl) rfl ?_
                              refine wd_at rfl ?_
                              refine wd_pass (fun _ _ h => by cases h) (.some rfl rfl rfl) rfl ?_
                              refine wd_at rfl ?_
                              refine wd_pass (fun _ _ h => by cases h) (.some rfl rfl rfl) rfl ?_
                              refine wd_at rfl ?_
                              refine wd_pass (fun _ _ h => by cases h) (.some rfl rfl rfl) rfl ?_
                              refine wd_at rfl ?_
                              refine wd_pass (fun _ _ h => by cases h) (.some rfl rfl rfl) rfl ?_
                              refine wd_at rfl ?_
                              (refine wd_free ?_ (.some rfl rfl) rfl (yf_pickT rfl rfl) ?_; (· rfl);  skip)
                              refine wd_at rfl ?_
                              (refine wd_free ?_ .none rfl (yf_pickT rfl rfl) ?_; (· rfl);  skip)
                              refine wd_at rfl ?_
                              (refine wd_free ?_ .none rfl (yf_move rfl) ?_; (· rfl);  skip)
                              refine wd_at rfl ?_
                              (refine wd_free ?_ (.some rfl rfl) rfl (yf_move rfl) ?_; (· rfl);  skip)
                              refine wd_at rfl ?_
                              (refine wd_free ?_ (.some rfl rfl) rfl (yf_move rfl) ?_; (· rfl);  skip)
                              refine wd_at rfl ?_
                              refine wd_pure (.some rfl rfl) rfl (by kernel_rfl) rfl (fun _ _ hj hx => HpG.onE hj hx) (fun w hw => by
                                have hpq := pm_eq (hpm'.trans ((hpm3.trans s5).symm))
                                rw [← same'.M, ← same3.M]
                                exact memEqual_any μ' μ3 ok'.toWf ok3.toWf hpq.1 hpq.2 w ⟨fun p hp => HpG.own hw p (List.mem_cons_of_mem _ (List.mem_append_left _ (List.mem_cons_of_mem _ (List.mem_cons_of_mem _ (List.mem_append_right _ hp))))), fun p hp => HpG.own hw p (List.mem_cons_of_mem _ (List.mem_append_right _ hp))⟩) ?_
                              refine wd_at rfl ?_
                              (refine wd_free ?_ .none rfl (yf_pickT rfl rfl) ?_; (· rfl);  skip)
                              refine wd_at rfl ?_
                              (refine wd_free ?_ .none rfl (yf_assign rfl) ?_; (· rfl);  skip)
                              refine wd_endH ?_
                              refine wq_then ?_
                              refine wc_ret ?_
                              refine wq_ret1 rfl rfl (fun w hw => ?_)
                              exact ⟨rfl, (HpG.keep hw).ext⟩
                            · replace hkw := bne_no hkw
                              refine wd_at rfl ?_
                              (refine wd_free ?_ (.some rfl rfl) rfl (yf_fieldAddr (off := 0) (sz := 0) rfl Try.underlying39 (by kernel_rfl) rfl) ?_; (· rfl);  skip)
                              refine wd_at rfl ?_
                              (refine wd_free ?_ (.some rfl rfl) rfl (yf_loadL (v := .bool (evalM (oneL o1) (gzL (suV x)) μ.pm).1.lv) 2 rfl rfl rfl Try.underlying4 rfl) ?_; (· rfl);  skip)
                              refine wd_at rfl ?_
                              (refine wd_free ?_ (.some rfl rfl) rfl (yf_pickF rfl rfl) ?_; (· rfl);  skip)
                              refine wd_at rfl ?_
                              (refine wd_free ?_ (.some rfl rfl) rfl (yf_move rfl) ?_; (· rfl);  skip)
                              refine wd_split 189 rfl (fun hlv0 => ?_) (fun hlv0 => ?_)
                              · skip
                                refine wd_at rfl ?_
                                refine wd_pass (fun _ _ h => by cases h) (.some rfl rfl rfl) rfl ?_
                                refine wd_at rfl ?_
                                refine wd_pass (fun _ _ h => by cases h) (.some rfl rfl rfl) rfl ?_
                                refine wd_at rfl ?_
                                refine wd_pass (fun _ _ h => by cases h) (.some rfl rfl rfl) rfl ?_
                                refine wd_at rfl ?_
                                refine wd_pass (fun _ _ h => by cases h) (.some rfl rfl rfl) rfl ?_
                                refine wd_at rfl ?_
                                refine wd_pass (fun _ _ h => by cases h) (.some rfl rfl rfl) rfl ?_
                                refine wd_at rfl ?_
                                refine wd_pass (fun _ _ h => by cases h) (.some rfl rfl rfl) rfl ?_
                                refine wd_at rfl ?_
                                refine wd_pass (fun _ _ h => by cases h) (.some rfl rfl rfl) rfl ?_
                                refine wd_at rfl ?_
                                refine wd_pass (fun _ _ h => by cases h) (.some rfl rfl rfl) rfl ?_
                                refine wd_at rfl ?_
                                refine wd_pass (fun _ _ h => by cases h) (.some rfl rfl rfl) rfl ?_
                                refine wd_at rfl ?_
                                (refine wd_free ?_ (.some rfl rfl) rfl (yf_pickT rfl rfl) ?_; (· rfl);  skip)
                                refine wd_at rfl ?_
                                (refine wd_free ?_ .none rfl (yf_pickT rfl rfl) ?_; (· rfl);  skip)
                                refine wd_at rfl ?_
                                (refine wd_free ?_ .none rfl (yf_move rfl) ?_; (· rfl);  skip)
                                refine wd_at rfl ?_
                                (refine wd_free ?_ (.some rfl rfl) rfl (yf_move rfl) ?_; (· rfl);  skip)
                                refine wd_at rfl ?_
                                (refine wd_free ?_ (.some rfl rfl) rfl (yf_move rfl) ?_; (· rfl);  skip)
                                refine wd_at rfl ?_
                                refine wd_pure (.some rfl rfl) rfl (by kernel_rfl) rfl (fun _ _ hj hx => HpG.onE hj hx) (fun w hw => by
                                  have hpq := pm_eq (hpm'.trans ((hpm3.trans s5).symm))
                                  rw [← same'.M, ← same3.M]
                                  exact memEqual_any μ' μ3 ok'.toWf ok3.toWf hpq.1 hpq.2 w ⟨fun p hp => HpG.own hw p (List.mem_cons_of_mem _ (List.mem_append_left _ (List.mem_cons_of_mem _ (List.mem_cons_of_mem _ (List.mem_append_right _ hp))))), fun p hp => HpG.own hw p (List.mem_cons_of_mem _ (List.mem_append_right _ hp))⟩) ?_
                                refine wd_at rfl ?_
                                (refine wd_free ?_ .none rfl (yf_pickT rfl rfl) ?_; (· rfl);  skip)
                                refine wd_at rfl ?_
                                (refine wd_free ?_ .none rfl (yf_assign rfl) ?_; (· rfl);  skip)
                                refine wd_endH ?_
                                refine wq_then ?_
                                refine wc_ret ?_
                                refine wq_ret1 rfl rfl (fun w hw => ?_)
                                exact ⟨rfl, (HpG.keep hw).ext⟩
                              · skip
                                refine wd_at rfl ?_
                                (refine wd_free ?_ (.some rfl rfl) rfl (yf_move rfl) ?_; (· rfl);  skip)
                                refine wd_at rfl ?_
                                (refine wd_free ?_ (.some rfl rfl) rfl (yf_fieldAddr (off := 4) (sz := 27) rfl Try.underlying39 (by kernel_rfl) rfl) ?_; (· rfl);  skip)
                                refine wd_at rfl ?_
                                first | (refine wd_free ?_ (.some rfl rfl) rfl (yf_indexAddrA (es := 1) rfl rfl Try.underlying37 (by kernel_rfl) rfl ?_ rfl) ?_; (· rfl); (· first | decide | omega | (simp; omega)); skip) | (refine wd_free ?_ (.some rfl rfl) rfl (yf_indexAddrA (es := 1) rfl rfl Try.underlying37 (by kernel_rfl) (Int.toNat_of_nonneg ?_).symm ?_ rfl) ?_; (· rfl); (· omega); (· first | decide | omega | (simp; omega)); skip)
                                refine wd_at rfl ?_
                                (refine wd_free ?_ (.some rfl rfl) rfl (yf_loadL (v := .int .u32 ((evalM (oneL o1) (gzL (suV x)) μ.pm).1.vars.getD kk 0)) 2 rfl rfl (ouL_at hE28 (i := kk) (by omega) (by omega)) Try.underlying34 rfl) ?_; (· rfl);  skip)
                                refine wd_at rfl ?_
                                (refine wd_free ?_ (.some rfl rfl) rfl (yf_move rfl) ?_; (· rfl);  skip)
                                refine wd_at rfl ?_
                                (refine wd_free ?_ (.some rfl rfl) rfl (yf_fieldAddr (off := 4) (sz := 27) rfl Try.underlying39 (by kernel_rfl) rfl) ?_; (· rfl);  skip)
                                refine wd_at rfl ?_
                                first | (refine wd_free ?_ (.some rfl rfl) rfl (yf_indexAddrA (es := 1) rfl rfl Try.underlying37 (by kernel_rfl) rfl ?_ rfl) ?_; (· rfl); (· first | decide | omega | (simp; omega)); skip) | (refine wd_free ?_ (.some rfl rfl) rfl (yf_indexAddrA (es := 1) rfl rfl Try.underlying37 (by kernel_rfl) (Int.toNat_of_nonneg ?_).symm ?_ rfl) ?_; (· rfl); (· omega); (· first | decide | omega | (simp; omega)); skip)
                                refine wd_at rfl ?_
                                (refine wd_free ?_ (.some rfl rfl) rfl (yf_loadL (v := .int .u32 ((evalM (oneL o1) ((gzL (suV x)).set kk q) μ.pm).1.vars.getD kk 0)) 0 rfl rfl (ouL_at hF28 (i := kk) (by omega) (by omega)) Try.underlying34 rfl) ?_; (· rfl);  skip)
                                refine wd_at rfl ?_
                                (refine wd_free ?_ (.some rfl rfl) rfl (yf_eql rfl rfl) ?_; (· rfl);  skip)
                                refine wd_at rfl ?_
                                (refine wd_free ?_ (.some rfl rfl) rfl (yf_pickF rfl rfl) ?_; (· rfl);  skip)
                                refine wd_at rfl ?_
                                (refine wd_free ?_ .none rfl (yf_pickT rfl rfl) ?_; (· rfl);  skip)
                                refine wd_at rfl ?_
                                (refine wd_free ?_ .none rfl (yf_move rfl) ?_; (· rfl);  skip)
                                refine wd_split 201 rfl (fun hb => ?_) (fun hb => ?_)
                                · replace hb := eq_of_beq hb
                                  refine wd_at rfl ?_
                                  (refine wd_free ?_ (.some rfl rfl) rfl (yf_move rfl) ?_; (· rfl);  skip)
                                  refine wd_at rfl ?_
                                  (refine wd_free ?_ (.some rfl rfl) rfl (yf_move rfl) ?_; (· rfl);  skip)
                                  refine wd_at rfl ?_
                                  refine wd_pure (.some rfl rfl) rfl (by kernel_rfl) rfl (fun _ _ hj hx => HpG.onE hj hx) (fun w hw => by
                                    have hpq := pm_eq (hpm'.trans ((hpm3.trans s5).symm))
                                    rw [← same'.M, ← same3.M]
                                    exact memEqual_any μ' μ3 ok'.toWf ok3.toWf hpq.1 hpq.2 w ⟨fun p hp => HpG.own hw p (List.mem_cons_of_mem _ (List.mem_append_left _ (List.mem_cons_of_mem _ (List.mem_cons_of_mem _ (List.mem_append_right _ hp))))), fun p hp => HpG.own hw p (List.mem_cons_of_mem _ (List.mem_append_right _ hp))⟩) ?_
                                  refine wd_at rfl ?_
                                  (refine wd_free ?_ .none rfl (yf_pickT rfl rfl) ?_; (· rfl);  skip)
                                  refine wd_at rfl ?_
                                  (refine wd_free ?_ .none rfl (yf_assign rfl) ?_; (· rfl);  skip)
                                  refine wd_endH ?_
                                  refine wq_then ?_
                                  refine wc_ret ?_
                                  refine wq_ret1 rfl rfl (fun w hw => ?_)
                                  exact ⟨rfl, (HpG.keep hw).ext⟩
                                · replace hb := beq_no hb
                                  exact absurd (s4 hkw hlv0) hb
                          · replace hb := beq_no hb
                            exact absurd rfl hb
                        · skip
                          simp at hb
                      · skip
                        cases hb
end Go.Proofs.Ytojofinofpgopaa
