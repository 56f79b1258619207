/- babelref12.Same. -/
import Derived.Test.YtojofinofpgopaaDoorMgDi
import Derived.Test.YtojofinofpgopaaDoorMgDr
import Derived.Test.YtojofinofpgopaaDoorMgS
namespace Go.Proofs.YtojofinofpgopaaDoor
open Go.RowKit
section
variable {P : Program} {n : Nat} {m : List (Nat × Value)} {ty : TypeId} {H : World → Prop}
theorem yf_neqAgg {x y : Operand} {t t' : TypeId} {xs ys : Array Value} {r : Bool} (hx : ev m x = some (.agg xs)) (hy : ev m y = some (.agg ys)) (hm : P.eqGuardType P.depth t = false) (h : ∀ w, (Op.equalIn 10000 t (.agg xs) (.agg ys)).run P w = .ok r w) : YF P (.binOp .neq t x y t') ty n m H (.bool (!r)) := fun _ w d pos af g hs hw => by
  have h2 := run_neq_struct (P := P) w t xs ys
  rw [h w] at h2
  simp only [Result.andThen_ok] at h2
  simp [Yl, execOp, hs.ev hx, hs.ev hy, run_eqGuard_agg w .neq t x y xs ys hm, h2]
theorem eqFields_ints {xs ys : Array Value} (d : Nat) : ∀ (fs : List Field), (∀ f ∈ fs, f.name ≠ "_" ∧ ∃ k a b, P.underlying f.type = some (.int k) ∧ xs[f.offset]? = some (.int k a) ∧ ys[f.offset]? = some (.int k b)) → ∃ r : Bool, (∀ w, (Op.eqFields (d + 1) xs ys fs).run P w = .ok r w) ∧ (r = true ↔ ∀ f ∈ fs, xs[f.offset]? = ys[f.offset]?)
  | [], _ => ⟨true, fun w => by simp [Op.eqFields], by simp⟩
  | f :: fs, h => by
    obtain ⟨hn, k, a, b, ht, hx, hy⟩ := h f (List.mem_cons_self ..)
    obtain ⟨r, h1, h2⟩ := eqFields_ints d fs fun g hg => h g (List.mem_cons_of_mem _ hg)
    refine ⟨a == b && r, fun w => ?_, ?_⟩
    · have p1 := run_part1 (P := P) ht rfl hx w
      have p2 := run_part1 (P := P) ht rfl hy w
      have p3 := run_equalIn_int (P := P) w d f.type k k a b ht
      simp only [Op.eqFields, Sem.run_bind, Sem.run_ite, if_pos hn, p1, p2, p3, Result.andThen_ok, Sem.run_pure]
      by_cases hab : a = b
      · simp [hab, h1 w]
      · simp [hab]
    · rw [Bool.and_eq_true, h2]
      constructor
      · rintro ⟨e1, e2⟩ g hg
        rcases List.mem_cons.1 hg with rfl | hg
        · rw [hx, hy, eq_of_beq e1]
        · exact e2 g hg
      · intro e
        refine ⟨?_, fun g hg => e g (List.mem_cons_of_mem _ hg)⟩
        have := e f (List.mem_cons_self ..)
        rw [hx, hy] at this
        simp only [Option.some.injEq, Value.int.injEq] at this
        simp [this.2]
end
set_option maxRecDepth 100000 in
theorem eqOp (o o' : IOp) (w : World) : (Op.equalIn 10000 53 (.agg o.v) (.agg o'.v)).run Tryd.prog w = .ok (decide (o = o')) w := by
  have hf : Tryd.prog.underlying 53 = some (.struct (Tryd.prog.fieldsOf 53)) := by kernel_rfl
  rw [show (10000 : Nat) = 9999 + 1 from rfl, run_equalIn_struct (P := Tryd.prog) w 9999 53 _ _ hf (by kernel_rfl)]
  have hfs := hf.symm.trans Tryd.underlying53
  injection hfs with hfs
  injection hfs with hfs
  obtain ⟨r, h1, h2⟩ := eqFields_ints (P := Tryd.prog) (xs := o.v) (ys := o'.v) 9998 (Tryd.prog.fieldsOf 53).toList (by
    rw [hfs]
    intro f hf
    simp only [List.mem_cons, List.not_mem_nil, or_false] at hf
    rcases hf with rfl | rfl | rfl | rfl | rfl
    · exact ⟨by decide, _, _, _, Tryd.underlying3, rfl, rfl⟩
    · exact ⟨by decide, _, _, _, Tryd.underlying3, rfl, rfl⟩
    · exact ⟨by decide, _, _, _, Tryd.underlying3, rfl, rfl⟩
    · exact ⟨by decide, _, _, _, Tryd.underlying3, rfl, rfl⟩
    · exact ⟨by decide, _, _, _, Tryd.underlying35, rfl, rfl⟩)
  rw [hfs] at h2
  have e : r = decide (o = o') := by
    rw [Bool.eq_iff_iff, h2, decide_eq_true_iff]
    constructor
    · intro h
      have a0 := h _ (List.mem_cons_self ..)
      have a1 := h _ (List.mem_cons_of_mem _ (List.mem_cons_self ..))
      have a2 := h _ (List.mem_cons_of_mem _ (List.mem_cons_of_mem _ (List.mem_cons_self ..)))
      have a3 := h _ (List.mem_cons_of_mem _ (List.mem_cons_of_mem _ (List.mem_cons_of_mem _ (List.mem_cons_self ..))))
      have a4 := h _ (List.mem_cons_of_mem _ (List.mem_cons_of_mem _ (List.mem_cons_of_mem _ (List.mem_cons_of_mem _ (List.mem_cons_self ..)))))
      cases o; cases o'
      injection a0 with a0; injection a0 with _ a0
      injection a1 with a1; injection a1 with _ a1
      injection a2 with a2; injection a2 with _ a2
      injection a3 with a3; injection a3 with _ a3
      injection a4 with a4; injection a4 with _ a4
      simp_all
    · rintro rfl f _; rfl
  rw [← e]
  exact h1 w
theorem getD_u32 {t : List Int} {A : Option Addr} {g o k : Nat} {w : World} (h : Rd A (u32s t) w) (hA : A = some ⟨g, o, none⟩) (hk : k < t.length) : w.cell? ⟨g, o + k * 1, none⟩ = some (.int .u32 (t.getD k 0)) := by
  subst hA
  exact Rd.at h (i := k) (by rw [show (u32s t).length = t.length from List.length_map ..]; exact hk) (by rw [Nat.mul_one]) (by rw [u32s, List.getElem?_map, List.getElem?_eq_getElem hk, getD_at hk]; rfl)
def sameD (a b : IBlk) : Bool := decide (a.at_ = b.at_ ∧ a.pages = b.pages ∧ a.ops = b.ops)
theorem sameD_no {a b : IBlk} (h : ¬ (a.at_ = b.at_ ∧ a.pages = b.pages ∧ a.ops = b.ops)) : Ending.returned (.bool false) = .returned (.bool (sameD a b)) := by rw [sameD, decide_eq_false h]
theorem getD_ne {α : Type} {l l' : List α} {d : α} {k : Nat} (h : l.getD k d ≠ l'.getD k d) : l ≠ l' := fun e => h (by rw [e])
theorem ext_D {α : Type} {l l' : List α} {d : α} (hl : l.length = l'.length) (h : ∀ k, k < l.length → l.getD k d = l'.getD k d) : l = l' := by
  apply List.ext_getElem hl
  intro k h1 h2
  have := h k h1
  rwa [getD_at h1, getD_at h2] at this
set_option maxRecDepth 100000 in
set_option maxHeartbeats 4000000 in
theorem blkSame_any (i j : BR) (w_0 : World) (hb : BRd (fun k => w_0.heap.size ≤ k) i w_0) (hd : BRd (fun k => w_0.heap.size ≤ k) j w_0) (hi : i.OkN 200000) (hj : j.OkN 200000) : Calls Tryd.prog 10 #[i.v, j.v] w_0 fun e w' => e = .returned (.bool (sameD i.b j.b)) ∧ Ext w_0 w' := by
  obtain ⟨b, aA, aP, aO, cA, cP, cO⟩ := i
  obtain ⟨d, dA, dP, dO, eA, eP, eO⟩ := j
  obtain ⟨_, _, lA, lP, lO, _, _, _⟩ := hi
  obtain ⟨_, _, mA, mP, mO, _, _, _⟩ := hj
  dsimp only at lA lP lO mA mP mO
  obtain ⟨hbA, hbO, hbP⟩ := hb
  obtain ⟨hdA, hdO, hdP⟩ := hd
  dsimp only at hbA hbO hbP hdA hdO hdP
  refine calls_wc (args := [blkV aA aP aO cA cP cO b, blkV dA dP dO eA eP eO d]) Tryd.func10 rfl 87 rfl (Nat.le_of_ble_eq_true rfl) ?_
  refine wc_weak (.cons (i := 0) rfl <| .cons (i := 1) rfl <| .nil) ?_
  refine wc_conseq (H' := Hp (fun _ => False) w_0 [] [] (fun _ => True)) (fun u hu => ?_) ?_
  · subst hu; exact Hp.start0
  refine wc_seq ?_
  refine wc_region ?_
  refine wl_new .none rfl (nf_box rfl rfl) (fun b2 => ?_)
  refine wl_new .none rfl (nf_box rfl rfl) (fun b3 => ?_)
  refine wl_free .none rfl (yf_assign rfl) ?_
  refine wl_nil ?_
  refine wq_then ?_
  refine wc_seq ?_
  refine wc_seq ?_
  refine wc_region ?_
  refine wl_free .none rfl (yf_fieldAddr (off := 0) (sz := 0) rfl Tryd.underlying28 (by kernel_rfl) rfl) ?_
  refine wl_free .none rfl (yf_loadL 1 rfl rfl rfl Tryd.underlying25 rfl) ?_
  refine wl_free .none rfl (yf_lenS rfl Tryd.underlying25) ?_
  refine wl_free .none rfl (yf_fieldAddr (off := 0) (sz := 0) rfl Tryd.underlying28 (by kernel_rfl) rfl) ?_
  refine wl_free .none rfl (yf_loadL 0 rfl rfl rfl Tryd.underlying25 rfl) ?_
  refine wl_free .none rfl (yf_lenS rfl Tryd.underlying25) ?_
  refine wl_free .none rfl (yf_neq rfl rfl) ?_
  refine wl_free .none rfl (yf_move rfl) ?_
  refine wl_split 15 rfl (fun hq1 => ?_) (fun hq1 => ?_)
  · replace hq1 := bne_yes hq1
    refine wl_pass (.some rfl rfl rfl) rfl ?_
    refine wl_pass (.some rfl rfl rfl) rfl ?_
    refine wl_pass (.some rfl rfl rfl) rfl ?_
    refine wl_pass (.some rfl rfl rfl) rfl ?_
    refine wl_pass (.some rfl rfl rfl) rfl ?_
    refine wl_pass (.some rfl rfl rfl) rfl ?_
    refine wl_pass (.some rfl rfl rfl) rfl ?_
    refine wl_free .none rfl (yf_pickT rfl rfl) ?_
    refine wl_free .none rfl (yf_move rfl) ?_
    refine wl_pass (.some rfl rfl rfl) rfl ?_
    refine wl_pass (.some rfl rfl rfl) rfl ?_
    refine wl_pass (.some rfl rfl rfl) rfl ?_
    refine wl_pass (.some rfl rfl rfl) rfl ?_
    refine wl_pass (.some rfl rfl rfl) rfl ?_
    refine wl_pass (.some rfl rfl rfl) rfl ?_
    refine wl_pass (.some rfl rfl rfl) rfl ?_
    refine wl_free .none rfl (yf_pickT rfl rfl) ?_
    refine wl_nil ?_
    refine wq_then ?_
    refine wc_true rfl ?_
    refine wc_seq ?_
    refine wc_weak (.cons (i := 0) rfl <| .cons (i := 1) rfl <| .cons (i := 2) rfl <| .cons (i := 3) rfl <| .cons (i := 4) rfl <| .cons (i := 32) rfl <| .nil) ?_
    refine wc_region ?_
    refine wl_free .none rfl (yf_assign rfl) ?_
    refine wl_nil ?_
    refine wq_then ?_
    refine wc_ret ?_
    refine wq_then_ret ?_
    refine wq_ret1 rfl rfl (fun w hw => ?_)
    exact ⟨sameD_no (fun ⟨e1, _, _⟩ => hq1 (by rw [e1])), (HpG.keep hw).ext⟩
  · replace hq1 := bne_no hq1
    refine wl_free (.some rfl rfl) rfl (yf_fieldAddr (off := 1) (sz := 0) rfl Tryd.underlying28 (by kernel_rfl) rfl) ?_
    refine wl_free (.some rfl rfl) rfl (yf_loadL 1 rfl rfl rfl Tryd.underlying22 rfl) ?_
    refine wl_free (.some rfl rfl) rfl (yf_lenS rfl Tryd.underlying22) ?_
    refine wl_free (.some rfl rfl) rfl (yf_fieldAddr (off := 1) (sz := 0) rfl Tryd.underlying28 (by kernel_rfl) rfl) ?_
    refine wl_free (.some rfl rfl) rfl (yf_loadL 0 rfl rfl rfl Tryd.underlying22 rfl) ?_
    refine wl_free (.some rfl rfl) rfl (yf_lenS rfl Tryd.underlying22) ?_
    refine wl_free (.some rfl rfl) rfl (yf_neq rfl rfl) ?_
    refine wl_free .none rfl (yf_pickF rfl rfl) ?_
    refine wl_free .none rfl (yf_move rfl) ?_
    refine wl_split 24 rfl (fun hq2 => ?_) (fun hq2 => ?_)
    · replace hq2 := bne_yes hq2
      refine wl_pass (.some rfl rfl rfl) rfl ?_
      refine wl_pass (.some rfl rfl rfl) rfl ?_
      refine wl_pass (.some rfl rfl rfl) rfl ?_
      refine wl_pass (.some rfl rfl rfl) rfl ?_
      refine wl_pass (.some rfl rfl rfl) rfl ?_
      refine wl_pass (.some rfl rfl rfl) rfl ?_
      refine wl_pass (.some rfl rfl rfl) rfl ?_
      refine wl_free .none rfl (yf_pickT rfl rfl) ?_
      refine wl_nil ?_
      refine wq_then ?_
      refine wc_true rfl ?_
      refine wc_seq ?_
      refine wc_weak (.cons (i := 0) rfl <| .cons (i := 1) rfl <| .cons (i := 2) rfl <| .cons (i := 3) rfl <| .cons (i := 4) rfl <| .cons (i := 32) rfl <| .nil) ?_
      refine wc_region ?_
      refine wl_free .none rfl (yf_assign rfl) ?_
      refine wl_nil ?_
      refine wq_then ?_
      refine wc_ret ?_
      refine wq_then_ret ?_
      refine wq_ret1 rfl rfl (fun w hw => ?_)
      exact ⟨sameD_no (fun ⟨_, e1, _⟩ => hq2 (by rw [e1])), (HpG.keep hw).ext⟩
    · replace hq2 := bne_no hq2
      refine wl_free (.some rfl rfl) rfl (yf_fieldAddr (off := 2) (sz := 0) rfl Tryd.underlying28 (by kernel_rfl) rfl) ?_
      refine wl_free (.some rfl rfl) rfl (yf_loadL 1 rfl rfl rfl Tryd.underlying26 rfl) ?_
      refine wl_free (.some rfl rfl) rfl (yf_lenS rfl Tryd.underlying26) ?_
      refine wl_free (.some rfl rfl) rfl (yf_fieldAddr (off := 2) (sz := 0) rfl Tryd.underlying28 (by kernel_rfl) rfl) ?_
      refine wl_free (.some rfl rfl) rfl (yf_loadL 0 rfl rfl rfl Tryd.underlying26 rfl) ?_
      refine wl_free (.some rfl rfl) rfl (yf_lenS rfl Tryd.underlying26) ?_
      refine wl_free (.some rfl rfl) rfl (yf_neq rfl rfl) ?_
      refine wl_free .none rfl (yf_pickF rfl rfl) ?_
      refine wl_nil ?_
      refine wq_then ?_
      refine wc_cond rfl (fun hc => ?_) (fun hc => ?_)
      · replace hc := bne_yes hc
        refine wc_seq ?_
        refine wc_weak (.cons (i := 0) rfl <| .cons (i := 1) rfl <| .cons (i := 2) rfl <| .cons (i := 3) rfl <| .cons (i := 4) rfl <| .cons (i := 32) rfl <| .nil) ?_
        refine wc_region ?_
        refine wl_free .none rfl (yf_assign rfl) ?_
        refine wl_nil ?_
        refine wq_then ?_
        refine wc_ret ?_
        refine wq_then_ret ?_
        refine wq_ret1 rfl rfl (fun w hw => ?_)
        exact ⟨sameD_no (fun ⟨_, _, e1⟩ => hc (by rw [e1])), (HpG.keep hw).ext⟩
      · replace hc := bne_no hc
        have hl1 : b.at_.length = d.at_.length := by omega
        have hl2 : b.pages.length = d.pages.length := by omega
        have hl3 : b.ops.length = d.ops.length := by omega
        refine wc_skip ?_
        refine wq_then ?_
        refine wc_seq ?_
        refine wc_seq ?_
        refine wc_weak (.cons (i := 0) rfl <| .cons (i := 1) rfl <| .cons (i := 2) rfl <| .cons (i := 3) rfl <| .cons (i := 4) rfl <| .cons (i := 32) rfl <| .nil) ?_
        refine wc_region ?_
        refine wl_free .none rfl (yf_assign rfl) ?_
        refine wl_nil ?_
        refine wq_then ?_
        refine wc_block ?_
        refine wc_loop (ι := {k : Nat // k ≤ b.at_.length ∧ ∀ q, q < k → b.at_.getD q 0 = d.at_.getD q 0}) (fun k => [(2, ptrV b2), (3, ptrV b3), (5, .int .i64 k.1)]) (fun _ => Hp (fun _ => False) w_0 [(b3, bk 28 (hdB dA dP dO eA eP eO d)), (b2, bk 28 (hdB aA aP aO cA cP cO b))] [] (fun _ => True)) (fun k => b.at_.length - k.1) ⟨0, Nat.zero_le _, fun q hq => absurd hq (Nat.not_lt_zero _)⟩ ?_ ?_ (fun k => ?_)
        · exact .cons rfl <| .cons rfl <| .cons rfl <| .nil
        · exact fun w h => h
        obtain ⟨k, hk, hall⟩ := k
        dsimp only at hk hall ⊢
        refine wc_seq ?_
        refine wc_seq ?_
        refine wc_region ?_
        refine wl_free .none rfl (yf_move rfl) ?_
        refine wl_free .none rfl (yf_fieldAddr (off := 0) (sz := 0) rfl Tryd.underlying28 (by kernel_rfl) rfl) ?_
        refine wl_free .none rfl (yf_loadL 1 rfl rfl rfl Tryd.underlying25 rfl) ?_
        refine wl_free .none rfl (yf_lenS rfl Tryd.underlying25) ?_
        refine wl_free .none rfl (yf_lss rfl rfl) ?_
        refine wl_nil ?_
        refine wq_then ?_
        refine wc_cond rfl (fun hc => ?_) (fun hc => ?_)
        · replace hc := of_decide_eq_true hc
          refine wc_skip ?_
          refine wq_then ?_
          refine wc_seq ?_
          refine wc_block ?_
          refine wc_seq ?_
          refine wc_weak (.cons (i := 2) rfl <| .cons (i := 3) rfl <| .cons (i := 5) rfl <| .cons (i := 37) rfl <| .nil) ?_
          have hkl : k < b.at_.length := by omega
          have hkm : k < d.at_.length := by omega
          obtain ⟨g1, o1, hg1, _⟩ := hbA (by rw [List.length_map]; omega)
          obtain ⟨g2, o2, hg2, _⟩ := hdA (by rw [List.length_map]; omega)
          refine wc_draw0 [0, 1, 2, 3, 4, 5, 6, 7, 8, 9, 10] _ (by kernel_rfl) (by kernel_rfl) HpG.stab HpG.stab (fun _ h => HpG.drew h) (fun _ h => h) ?_
          refine wd_at rfl ?_
          (refine wd_free ?_ .none rfl (yf_fieldAddr (off := 0) (sz := 0) rfl Tryd.underlying28 (by kernel_rfl) rfl) ?_; (· rfl);  skip)
          refine wd_at rfl ?_
          (refine wd_free ?_ .none rfl (yf_loadL 1 rfl rfl rfl Tryd.underlying25 rfl) ?_; (· rfl);  skip)
          refine wd_at rfl ?_
          (refine wd_free ?_ .none rfl (yf_move rfl) ?_; (· rfl);  skip)
          refine wd_at rfl ?_
          (refine wd_free ?_ .none rfl (yf_indexAddrS (g := g1) (o := o1) (j := k) (es := 1) (by rw [← hg1]; rfl) rfl Tryd.underlying25 (by kernel_rfl) rfl hkl rfl) ?_; (· rfl);  skip)
          refine wd_at rfl ?_
          (refine wd_free ?_ .none rfl (yf_load (v := .int .u32 (b.at_.getD k 0)) rfl Tryd.underlying35 rfl (fun w h => getD_u32 (hbA.ext (HpG.keep h).ext) hg1 hkl)) ?_; (· rfl);  skip)
          refine wd_at rfl ?_
          (refine wd_free ?_ .none rfl (yf_fieldAddr (off := 0) (sz := 0) rfl Tryd.underlying28 (by kernel_rfl) rfl) ?_; (· rfl);  skip)
          refine wd_at rfl ?_
          (refine wd_free ?_ .none rfl (yf_loadL 0 rfl rfl rfl Tryd.underlying25 rfl) ?_; (· rfl);  skip)
          refine wd_at rfl ?_
          (refine wd_free ?_ .none rfl (yf_move rfl) ?_; (· rfl);  skip)
          refine wd_at rfl ?_
          (refine wd_free ?_ .none rfl (yf_indexAddrS (g := g2) (o := o2) (j := k) (es := 1) (by rw [← hg2]; rfl) rfl Tryd.underlying25 (by kernel_rfl) rfl hkm rfl) ?_; (· rfl);  skip)
          refine wd_at rfl ?_
          (refine wd_free ?_ .none rfl (yf_load (v := .int .u32 (d.at_.getD k 0)) rfl Tryd.underlying35 rfl (fun w h => getD_u32 (hdA.ext (HpG.keep h).ext) hg2 hkm)) ?_; (· rfl);  skip)
          refine wd_at rfl ?_
          (refine wd_free ?_ .none rfl (yf_neq rfl rfl) ?_; (· rfl);  skip)
          refine wd_end ?_
          refine wq_then ?_
          refine wc_cond rfl (fun hc => ?_) (fun hc => ?_)
          · replace hc := bne_yes hc
            refine wc_seq ?_
            refine wc_weak (.cons (i := 2) rfl <| .cons (i := 3) rfl <| .cons (i := 5) rfl <| .cons (i := 37) rfl <| .cons (i := 50) rfl <| .nil) ?_
            refine wc_region ?_
            refine wl_free .none rfl (yf_assign rfl) ?_
            refine wl_nil ?_
            refine wq_then ?_
            refine wc_ret ?_
            refine wq_block_ret ?_
            refine wq_then_ret ?_
            refine wq_then_ret ?_
            refine wq_block_ret ?_
            refine wq_then_ret ?_
            refine wq_ret1 rfl rfl (fun w hw => ?_)
            exact ⟨sameD_no (fun ⟨e1, _, _⟩ => hc (by rw [e1])), (HpG.keep hw).ext⟩
          · replace hc := bne_no hc
            refine wc_skip ?_
            refine wq_block ?_
            refine wq_then ?_
            refine wc_weak (.cons (i := 2) rfl <| .cons (i := 3) rfl <| .cons (i := 5) rfl <| .cons (i := 37) rfl <| .cons (i := 50) rfl <| .nil) ?_
            refine wc_region ?_
            refine wl_free .none rfl (yf_move rfl) ?_
            (refine wl_free .none rfl (yf_add rfl rfl (i64_in _ ?_ ?_)) ?_; (· omega); (· omega); skip)
            refine wl_free .none rfl (yf_assign rfl) ?_
            refine wl_nil ?_
            refine wq_round (ι := {k : Nat // k ≤ b.at_.length ∧ ∀ q, q < k → b.at_.getD q 0 = d.at_.getD q 0}) ⟨k + 1, hkl, fun q hq => by
              rcases Nat.lt_or_ge q k with h1 | h1
              · exact hall q h1
              · rw [show q = k by omega]; exact hc⟩ (by show b.at_.length - (k + 1) < b.at_.length - k; omega) (.cons rfl <| .cons rfl <| .cons rfl <| .nil) (fun w h => h)
        · replace hc := of_decide_eq_false hc
          refine wc_exit ?_
          refine wq_then_exit ?_
          refine wq_then_exit ?_
          refine wq_here ?_
          refine wq_then ?_
          refine wc_seq ?_
          refine wc_seq ?_
          refine wc_weak (.cons (i := 2) rfl <| .cons (i := 3) rfl <| .cons (i := 5) rfl <| .cons (i := 37) rfl <| .nil) ?_
          have eqA : b.at_ = d.at_ := ext_D hl1 fun q hq => hall q (by omega)
          refine wc_region ?_
          refine wl_free .none rfl (yf_assign rfl) ?_
          refine wl_nil ?_
          refine wq_then ?_
          refine wc_block ?_
          refine wc_loop (ι := {k : Nat // k ≤ b.pages.length ∧ ∀ q, q < k → b.pages.getD q 0 = d.pages.getD q 0}) (fun k => [(2, ptrV b2), (3, ptrV b3), (6, .int .i64 k.1)]) (fun _ => Hp (fun _ => False) w_0 [(b3, bk 28 (hdB dA dP dO eA eP eO d)), (b2, bk 28 (hdB aA aP aO cA cP cO b))] [] (fun _ => True)) (fun k => b.pages.length - k.1) ⟨0, Nat.zero_le _, fun q hq => absurd hq (Nat.not_lt_zero _)⟩ ?_ ?_ (fun k => ?_)
          · exact .cons rfl <| .cons rfl <| .cons rfl <| .nil
          · exact fun w h => h
          obtain ⟨k, hk, hall⟩ := k
          dsimp only at hk hall ⊢
          refine wc_seq ?_
          refine wc_seq ?_
          refine wc_region ?_
          refine wl_free .none rfl (yf_move rfl) ?_
          refine wl_free .none rfl (yf_fieldAddr (off := 1) (sz := 0) rfl Tryd.underlying28 (by kernel_rfl) rfl) ?_
          refine wl_free .none rfl (yf_loadL 1 rfl rfl rfl Tryd.underlying22 rfl) ?_
          refine wl_free .none rfl (yf_lenS rfl Tryd.underlying22) ?_
          refine wl_free .none rfl (yf_lss rfl rfl) ?_
          refine wl_nil ?_
          refine wq_then ?_
          refine wc_cond rfl (fun hc => ?_) (fun hc => ?_)
          · replace hc := of_decide_eq_true hc
            refine wc_skip ?_
            refine wq_then ?_
            refine wc_seq ?_
            refine wc_block ?_
            refine wc_seq ?_
            refine wc_weak (.cons (i := 2) rfl <| .cons (i := 3) rfl <| .cons (i := 6) rfl <| .cons (i := 55) rfl <| .nil) ?_
            have hkl : k < b.pages.length := by omega
            have hkm : k < d.pages.length := by omega
            obtain ⟨g1, o1, hg1, _⟩ := hbP (by rw [List.length_map]; omega)
            obtain ⟨g2, o2, hg2, _⟩ := hdP (by rw [List.length_map]; omega)
            refine wc_draw0 [0, 1, 2, 3, 4, 5, 6, 7, 8, 9, 10] _ (by kernel_rfl) (by kernel_rfl) HpG.stab HpG.stab (fun _ h => HpG.drew h) (fun _ h => h) ?_
            refine wd_at rfl ?_
            (refine wd_free ?_ .none rfl (yf_fieldAddr (off := 1) (sz := 0) rfl Tryd.underlying28 (by kernel_rfl) rfl) ?_; (· rfl);  skip)
            refine wd_at rfl ?_
            (refine wd_free ?_ .none rfl (yf_loadL 1 rfl rfl rfl Tryd.underlying22 rfl) ?_; (· rfl);  skip)
            refine wd_at rfl ?_
            (refine wd_free ?_ .none rfl (yf_move rfl) ?_; (· rfl);  skip)
            refine wd_at rfl ?_
            (refine wd_free ?_ .none rfl (yf_indexAddrS (g := g1) (o := o1) (j := k) (es := 1) (by rw [← hg1]; rfl) rfl Tryd.underlying22 (by kernel_rfl) rfl hkl rfl) ?_; (· rfl);  skip)
            refine wd_at rfl ?_
            (refine wd_free ?_ .none rfl (yf_load (v := .int .i64 (b.pages.getD k 0)) rfl Tryd.underlying3 rfl (fun w h => by have := hbP.ext (HpG.keep h).ext; rw [hg1] at this; exact Rd.pg this hkl)) ?_; (· rfl);  skip)
            refine wd_at rfl ?_
            (refine wd_free ?_ .none rfl (yf_fieldAddr (off := 1) (sz := 0) rfl Tryd.underlying28 (by kernel_rfl) rfl) ?_; (· rfl);  skip)
            refine wd_at rfl ?_
            (refine wd_free ?_ .none rfl (yf_loadL 0 rfl rfl rfl Tryd.underlying22 rfl) ?_; (· rfl);  skip)
            refine wd_at rfl ?_
            (refine wd_free ?_ .none rfl (yf_move rfl) ?_; (· rfl);  skip)
            refine wd_at rfl ?_
            (refine wd_free ?_ .none rfl (yf_indexAddrS (g := g2) (o := o2) (j := k) (es := 1) (by rw [← hg2]; rfl) rfl Tryd.underlying22 (by kernel_rfl) rfl hkm rfl) ?_; (· rfl);  skip)
            refine wd_at rfl ?_
            (refine wd_free ?_ .none rfl (yf_load (v := .int .i64 (d.pages.getD k 0)) rfl Tryd.underlying3 rfl (fun w h => by have := hdP.ext (HpG.keep h).ext; rw [hg2] at this; exact Rd.pg this hkm)) ?_; (· rfl);  skip)
            refine wd_at rfl ?_
            (refine wd_free ?_ .none rfl (yf_neq rfl rfl) ?_; (· rfl);  skip)
            refine wd_end ?_
            refine wq_then ?_
            refine wc_cond rfl (fun hc => ?_) (fun hc => ?_)
            · replace hc := bne_yes hc
              refine wc_seq ?_
              refine wc_weak (.cons (i := 2) rfl <| .cons (i := 3) rfl <| .cons (i := 6) rfl <| .cons (i := 55) rfl <| .cons (i := 68) rfl <| .nil) ?_
              refine wc_region ?_
              refine wl_free .none rfl (yf_assign rfl) ?_
              refine wl_nil ?_
              refine wq_then ?_
              refine wc_ret ?_
              refine wq_block_ret ?_
              refine wq_then_ret ?_
              refine wq_then_ret ?_
              refine wq_block_ret ?_
              refine wq_then_ret ?_
              refine wq_ret1 rfl rfl (fun w hw => ?_)
              exact ⟨sameD_no (fun ⟨_, e1, _⟩ => hc (by rw [e1])), (HpG.keep hw).ext⟩
            · replace hc := bne_no hc
              refine wc_skip ?_
              refine wq_block ?_
              refine wq_then ?_
              refine wc_weak (.cons (i := 2) rfl <| .cons (i := 3) rfl <| .cons (i := 6) rfl <| .cons (i := 55) rfl <| .cons (i := 68) rfl <| .nil) ?_
              refine wc_region ?_
              refine wl_free .none rfl (yf_move rfl) ?_
              (refine wl_free .none rfl (yf_add rfl rfl (i64_in _ ?_ ?_)) ?_; (· omega); (· omega); skip)
              refine wl_free .none rfl (yf_assign rfl) ?_
              refine wl_nil ?_
              refine wq_round (ι := {k : Nat // k ≤ b.pages.length ∧ ∀ q, q < k → b.pages.getD q 0 = d.pages.getD q 0}) ⟨k + 1, hkl, fun q hq => by
                rcases Nat.lt_or_ge q k with h1 | h1
                · exact hall q h1
                · rw [show q = k by omega]; exact hc⟩ (by show b.pages.length - (k + 1) < b.pages.length - k; omega) (.cons rfl <| .cons rfl <| .cons rfl <| .nil) (fun w h => h)
          · replace hc := of_decide_eq_false hc
            refine wc_exit ?_
            refine wq_then_exit ?_
            refine wq_then_exit ?_
            refine wq_here ?_
            refine wq_then ?_
            refine wc_seq ?_
            refine wc_seq ?_
            refine wc_weak (.cons (i := 2) rfl <| .cons (i := 3) rfl <| .cons (i := 6) rfl <| .cons (i := 55) rfl <| .nil) ?_
            have eqP : b.pages = d.pages := ext_D hl2 fun q hq => hall q (by omega)
            refine wc_region ?_
            refine wl_free .none rfl (yf_assign rfl) ?_
            refine wl_nil ?_
            refine wq_then ?_
            refine wc_block ?_
            refine wc_loop (ι := {k : Nat // k ≤ b.ops.length ∧ ∀ q, q < k → b.ops.getD q noOp = d.ops.getD q noOp}) (fun k => [(2, ptrV b2), (3, ptrV b3), (7, .int .i64 k.1)]) (fun _ => Hp (fun _ => False) w_0 [(b3, bk 28 (hdB dA dP dO eA eP eO d)), (b2, bk 28 (hdB aA aP aO cA cP cO b))] [] (fun _ => True)) (fun k => b.ops.length - k.1) ⟨0, Nat.zero_le _, fun q hq => absurd hq (Nat.not_lt_zero _)⟩ ?_ ?_ (fun k => ?_)
            · exact .cons rfl <| .cons rfl <| .cons rfl <| .nil
            · exact fun w h => h
            obtain ⟨k, hk, hall⟩ := k
            dsimp only at hk hall ⊢
            refine wc_seq ?_
            refine wc_seq ?_
            refine wc_region ?_
            refine wl_free .none rfl (yf_move rfl) ?_
            refine wl_free .none rfl (yf_fieldAddr (off := 2) (sz := 0) rfl Tryd.underlying28 (by kernel_rfl) rfl) ?_
            refine wl_free .none rfl (yf_loadL 1 rfl rfl rfl Tryd.underlying26 rfl) ?_
            refine wl_free .none rfl (yf_lenS rfl Tryd.underlying26) ?_
            refine wl_free .none rfl (yf_lss rfl rfl) ?_
            refine wl_nil ?_
            refine wq_then ?_
            refine wc_cond rfl (fun hc => ?_) (fun hc => ?_)
            · replace hc := of_decide_eq_true hc
              refine wc_skip ?_
              refine wq_then ?_
              refine wc_seq ?_
              refine wc_block ?_
              refine wc_seq ?_
              refine wc_weak (.cons (i := 2) rfl <| .cons (i := 3) rfl <| .cons (i := 7) rfl <| .cons (i := 73) rfl <| .nil) ?_
              have hkl : k < b.ops.length := by omega
              have hkm : k < d.ops.length := by omega
              obtain ⟨g1, o1, hg1, _⟩ := hbO (by have := opsCells_len b.ops; omega)
              obtain ⟨g2, o2, hg2, _⟩ := hdO (by have := opsCells_len d.ops; omega)
              refine wc_draw0 [0, 1, 2, 3, 4, 5, 6, 7, 8, 9, 10] _ (by kernel_rfl) (by kernel_rfl) HpG.stab HpG.stab (fun _ h => HpG.drew h) (fun _ h => h) ?_
              refine wd_at rfl ?_
              (refine wd_free ?_ .none rfl (yf_fieldAddr (off := 2) (sz := 0) rfl Tryd.underlying28 (by kernel_rfl) rfl) ?_; (· rfl);  skip)
              refine wd_at rfl ?_
              (refine wd_free ?_ .none rfl (yf_loadL 1 rfl rfl rfl Tryd.underlying26 rfl) ?_; (· rfl);  skip)
              refine wd_at rfl ?_
              (refine wd_free ?_ .none rfl (yf_move rfl) ?_; (· rfl);  skip)
              refine wd_at rfl ?_
              (refine wd_free ?_ .none rfl (yf_indexAddrS (g := g1) (o := o1) (j := k) (es := 5) (by rw [← hg1]; rfl) rfl Tryd.underlying26 (by kernel_rfl) rfl hkl rfl) ?_; (· rfl);  skip)
              refine wd_at rfl ?_
              (refine wd_free ?_ .none rfl (yf_loadRow (cs := opC (b.ops.getD k noOp)) rfl Tryd.underlying53 rfl (by kernel_rfl) (fun w h => by have := hbO.on (Keep.of_ext (HpG.keep h).ext) (G := fun _ => False) (fun _ _ h => h.elim); rw [hg1] at this; exact RdIn.opR this hkl rfl)) ?_; (· rfl);  skip)
              refine wd_at rfl ?_
              (refine wd_free ?_ .none rfl (yf_fieldAddr (off := 2) (sz := 0) rfl Tryd.underlying28 (by kernel_rfl) rfl) ?_; (· rfl);  skip)
              refine wd_at rfl ?_
              (refine wd_free ?_ .none rfl (yf_loadL 0 rfl rfl rfl Tryd.underlying26 rfl) ?_; (· rfl);  skip)
              refine wd_at rfl ?_
              (refine wd_free ?_ .none rfl (yf_move rfl) ?_; (· rfl);  skip)
              refine wd_at rfl ?_
              (refine wd_free ?_ .none rfl (yf_indexAddrS (g := g2) (o := o2) (j := k) (es := 5) (by rw [← hg2]; rfl) rfl Tryd.underlying26 (by kernel_rfl) rfl hkm rfl) ?_; (· rfl);  skip)
              refine wd_at rfl ?_
              (refine wd_free ?_ .none rfl (yf_loadRow (cs := opC (d.ops.getD k noOp)) rfl Tryd.underlying53 rfl (by kernel_rfl) (fun w h => by have := hdO.on (Keep.of_ext (HpG.keep h).ext) (G := fun _ => False) (fun _ _ h => h.elim); rw [hg2] at this; exact RdIn.opR this hkm rfl)) ?_; (· rfl);  skip)
              refine wd_at rfl ?_
              (refine wd_free ?_ .none rfl (yf_neqAgg (r := decide (b.ops.getD k noOp = d.ops.getD k noOp)) rfl rfl (by kernel_rfl) (fun w => eqOp _ _ w)) ?_; (· rfl);  skip)
              refine wd_end ?_
              refine wq_then ?_
              refine wc_cond rfl (fun hc => ?_) (fun hc => ?_)
              · skip
                refine wc_seq ?_
                refine wc_weak (.cons (i := 2) rfl <| .cons (i := 3) rfl <| .cons (i := 7) rfl <| .cons (i := 73) rfl <| .cons (i := 86) rfl <| .nil) ?_
                refine wc_region ?_
                refine wl_free .none rfl (yf_assign rfl) ?_
                refine wl_nil ?_
                refine wq_then ?_
                refine wc_ret ?_
                refine wq_block_ret ?_
                refine wq_then_ret ?_
                refine wq_then_ret ?_
                refine wq_block_ret ?_
                refine wq_then_ret ?_
                refine wq_ret1 rfl rfl (fun w hw => ?_)
                exact ⟨sameD_no (fun ⟨_, _, e1⟩ => by rw [e1] at hc; simp at hc), (HpG.keep hw).ext⟩
              · skip
                refine wc_skip ?_
                refine wq_block ?_
                refine wq_then ?_
                refine wc_weak (.cons (i := 2) rfl <| .cons (i := 3) rfl <| .cons (i := 7) rfl <| .cons (i := 73) rfl <| .cons (i := 86) rfl <| .nil) ?_
                refine wc_region ?_
                refine wl_free .none rfl (yf_move rfl) ?_
                (refine wl_free .none rfl (yf_add rfl rfl (i64_in _ ?_ ?_)) ?_; (· omega); (· omega); skip)
                refine wl_free .none rfl (yf_assign rfl) ?_
                refine wl_nil ?_
                refine wq_round (ι := {k : Nat // k ≤ b.ops.length ∧ ∀ q, q < k → b.ops.getD q noOp = d.ops.getD q noOp}) ⟨k + 1, hkl, fun q hq => by
                  rcases Nat.lt_or_ge q k with h1 | h1
                  · exact hall q h1
                  · rw [show q = k by omega]
                    rw [Bool.not_eq_false'] at hc
                    exact of_decide_eq_true hc⟩ (by show b.ops.length - (k + 1) < b.ops.length - k; omega) (.cons rfl <| .cons rfl <| .cons rfl <| .nil) (fun w h => h)
            · replace hc := of_decide_eq_false hc
              refine wc_exit ?_
              refine wq_then_exit ?_
              refine wq_then_exit ?_
              refine wq_here ?_
              refine wq_then ?_
              refine wc_seq ?_
              refine wc_weak (.cons (i := 2) rfl <| .cons (i := 3) rfl <| .cons (i := 7) rfl <| .cons (i := 73) rfl <| .nil) ?_
              have eqO : b.ops = d.ops := ext_D hl3 fun q hq => hall q (by omega)
              refine wc_region ?_
              refine wl_free .none rfl (yf_assign rfl) ?_
              refine wl_nil ?_
              refine wq_then ?_
              refine wc_ret ?_
              refine wq_ret1 rfl rfl (fun w hw => ?_)
              exact ⟨by rw [sameD, decide_eq_true ⟨eqA, eqP, eqO⟩], (HpG.keep hw).ext⟩
end Go.Proofs.YtojofinofpgopaaDoor
