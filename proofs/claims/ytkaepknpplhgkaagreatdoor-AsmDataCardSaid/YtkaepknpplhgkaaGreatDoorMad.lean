/- The table of the forms of K. -/
import Derived.Test.YtkaepknpplhgkaaGreatDoorMac
import Derived.Maps.RangeRun
namespace Go.Proofs.YtkaepknpplhgkaaGreatDoor
open Go.RowKit
theorem always_mk (op : Int) (w_0 : World) : Calls Tryz.prog 97 #[.int .i64 op] w_0 fun e w' => ∃ b : Nat, True ∧ e = .returned (pfV 98 b) ∧ Ext w_0 w' ∧ Bl7 b (bxJ op) (fun k => w_0.heap.size ≤ k) w' := by
  refine calls_wc (args := [.int .i64 op]) Tryz.func97 rfl 4 rfl (Nat.le_of_ble_eq_true rfl) ?_
  refine wc_weak (.cons (i := 0) rfl <| .nil) ?_
  refine wc_conseq (H' := Hp (fun _ => False) w_0 [] [] (fun _ => True)) (fun u hu => ?_) ?_
  · subst hu; exact Hp.start0
  refine wc_seq ?_
  refine wc_region ?_
  refine wl_new .none rfl (nf_box rfl rfl) (fun b1 => ?_)
  refine wl_free .none rfl (yf_assign rfl) ?_
  refine wl_nil ?_
  refine wq_then ?_
  refine wc_seq ?_
  refine wc_region ?_
  refine wl_free .none rfl (yf_makeFunc rfl rfl) ?_
  refine wl_free .none rfl (yf_assign rfl) ?_
  refine wl_nil ?_
  refine wq_then ?_
  refine wc_ret ?_
  refine wq_ret1 rfl rfl (fun w hw => ?_)
  exact ⟨b1, trivial, rfl, (HpG.keep hw).ext, ⟨HpG.mineL (j := 0) hw rfl id, HpG.blkL (j := 0) hw rfl⟩⟩
theorem lies2 {T U : (Nat → Prop) → World → Prop} (hT : Lies T) (hU : Lies U) : Lies fun F w => T F w ∧ U F w := ⟨fun hk h => ⟨hT.foot hk h.1, hU.foot hk h.2⟩, fun h => ⟨hT.lt h.1, hU.lt h.2⟩, fun hF h => ⟨hT.mono hF h.1, hU.mono hF h.2⟩⟩
section
variable {B : Nat → Prop} {w_0 w : World} {L : List (Nat × Obj)} {R : List Rw} {Y : World → Prop}
theorem tb_join {j : Nat} {p : Bs × AFm} (hp : fmsK[j]? = some p) {op : Int} {fil : KFil} (hk : p.2 = .k (.always op) fil) (hop : 0 ≤ op ∧ op < 256) {vs : List (Value × Value)} {x i1 i2 : Nat} {F1 F2 : Nat → Prop} (hF1 : ∀ k, F1 k → w_0.heap.size ≤ k) (hF2 : ∀ k, F2 k → w_0.heap.size ≤ k)
    (h : Hp B w_0 L R (fun u => (Bl7 i1 (opO (pfV 98 x)) F2 u ∧ Bl7 i2 (flO (fnV (filFid fil))) F2 u) ∧ (Bl7 x (bxJ op) F1 u ∧ (TabX (fmsK.take j) vs (fun k => w_0.heap.size ≤ k) u ∧ Y u))) w) : Hp B w_0 L R (fun u => TabX (fmsK.take (j + 1)) (vs ++ [(pfV 165 i1, pf2V 167 i1 i2)]) (fun k => w_0.heap.size ≤ k) u ∧ Y u) w :=
  Hp.weakX h fun u ⟨⟨a, b⟩, c, d, e⟩ => ⟨by rw [take_snoc hp]; exact d.snoc (by rw [hk]; exact ⟨i1, i2, _, rfl, rfl, hop, Bl7.lies.mono hF2 a, Bl7.lies.mono hF2 b, ⟨x, rfl, Bl7.lies.mono hF1 c⟩⟩), e⟩
theorem tb_joinS {j : Nat} {p : Bs × AFm} (hp : fmsK[j]? = some p) {sel : KSel} {fil : KFil} (hk : p.2 = .k sel fil) (hop : selB sel) {vs : List (Value × Value)} {i1 i2 : Nat} {v : Value} {F2 : Nat → Prop} (hF2 : ∀ k, F2 k → w_0.heap.size ≤ k) (hs : ∀ u, Y u → SelV sel v (fun k => w_0.heap.size ≤ k) u)
    (h : Hp B w_0 L R (fun u => (Bl7 i1 (opO v) F2 u ∧ Bl7 i2 (flO (fnV (filFid fil))) F2 u) ∧ (TabX (fmsK.take j) vs (fun k => w_0.heap.size ≤ k) u ∧ Y u)) w) : Hp B w_0 L R (fun u => TabX (fmsK.take (j + 1)) (vs ++ [(pfV 165 i1, pf2V 167 i1 i2)]) (fun k => w_0.heap.size ≤ k) u ∧ Y u) w :=
  Hp.weakX h fun u ⟨⟨a, b⟩, d, e⟩ => ⟨by rw [take_snoc hp]; exact d.snoc (by rw [hk]; exact ⟨i1, i2, v, rfl, rfl, hop, Bl7.lies.mono hF2 a, Bl7.lies.mono hF2 b, hs u e⟩), e⟩
end
theorem tb_eq {j : Nat} {p : Bs × AFm} (hp : fmsK[j]? = some p) {vs : List (Value × Value)} (hl : vs.length = j) (v : Value × Value) : tabV (fmsK.take (j + 1)) (vs ++ [v]) = tabV (fmsK.take j) vs ++ [(p.1, fmG v)] := by
  rw [take_snoc hp]
  exact tabV_snoc (by rw [List.length_take, hl]; have := (List.getElem?_eq_some_iff.1 hp).1; omega)
theorem tb_new {j : Nat} {p : Bs × AFm} (hp : fmsK[j]? = some p) (vs : List (Value × Value)) : lookV p.1 (tabV (fmsK.take j) vs) = none := tabV_none fun q hq => nodup_next fmsK_nodup hp q hq
theorem fm_none : ∀ k, k < 5 → fmsK[0 + k]? = some (noneL.getD k [] ++ [32], .k (.always (k : Nat)) .nothing) := by
  have h : (List.range 5).all (fun k => decide (fmsK[0 + k]? = some (noneL.getD k [] ++ [32], .k (.always (k : Nat)) .nothing))) = true := by kernel_rfl
  exact fun k hk => of_decide_eq_true (all_lt h k hk)
theorem fm_sing : ∀ k, k < 6 → fmsK[5 + k]? = some (singL.getD k [] ++ [32, 114], .k (.always (16 + k : Nat)) .nothing) := by
  have h : (List.range 6).all (fun k => decide (fmsK[5 + k]? = some (singL.getD k [] ++ [32, 114], .k (.always (16 + k : Nat)) .nothing))) = true := by kernel_rfl
  exact fun k hk => of_decide_eq_true (all_lt h k hk)
theorem fm_ari : ∀ k, k < 15 → fmsK[11 + 4 * k]? = some (ariL.getD k [] ++ [32, 114, 114], .k (.always (32 + k : Nat)) .second) ∧ fmsK[11 + 4 * k + 1]? = some (ariL.getD k [] ++ [46, 98, 32, 114, 118], .k (.always (48 + k : Nat)) .value) ∧ fmsK[11 + 4 * k + 2]? = some (ariL.getD k [] ++ [46, 119, 32, 114, 118], .k (.always (64 + k : Nat)) .value) ∧ fmsK[11 + 4 * k + 3]? = some (ariL.getD k [] ++ [32, 114, 118], .k (.arith k) .value) := by
  have h : (List.range 15).all (fun k => decide (fmsK[11 + 4 * k]? = some (ariL.getD k [] ++ [32, 114, 114], .k (.always (32 + k : Nat)) .second) ∧ fmsK[11 + 4 * k + 1]? = some (ariL.getD k [] ++ [46, 98, 32, 114, 118], .k (.always (48 + k : Nat)) .value) ∧ fmsK[11 + 4 * k + 2]? = some (ariL.getD k [] ++ [46, 119, 32, 114, 118], .k (.always (64 + k : Nat)) .value) ∧ fmsK[11 + 4 * k + 3]? = some (ariL.getD k [] ++ [32, 114, 118], .k (.arith k) .value))) = true := by kernel_rfl
  exact fun k hk => of_decide_eq_true (all_lt h k hk)
theorem fm_acc : ∀ k, k < 7 → fmsK[71 + 2 * k]? = some (accL.getD k [] ++ [46, 120, 32, 114, 109], .k (.always (88 + k : Nat)) .memory) ∧ fmsK[71 + 2 * k + 1]? = some (accL.getD k [] ++ [32, 114, 109], .k (.access k) .memory) := by
  have h : (List.range 7).all (fun k => decide (fmsK[71 + 2 * k]? = some (accL.getD k [] ++ [46, 120, 32, 114, 109], .k (.always (88 + k : Nat)) .memory) ∧ fmsK[71 + 2 * k + 1]? = some (accL.getD k [] ++ [32, 114, 109], .k (.access k) .memory))) = true := by kernel_rfl
  exact fun k hk => of_decide_eq_true (all_lt h k hk)
theorem fm_cond : ∀ k, k < 14 → fmsK[85 + k]? = some ([106] ++ condL.getD k [] ++ [32, 118], .k (.always (96 + k : Nat)) .target) := by
  have h : (List.range 14).all (fun k => decide (fmsK[85 + k]? = some ([106] ++ condL.getD k [] ++ [32, 118], .k (.always (96 + k : Nat)) .target))) = true := by kernel_rfl
  exact fun k hk => of_decide_eq_true (all_lt h k hk)
/-- A table of forms in memory. -/
def FmsX (l : List (Bs × AFm)) (b : Nat) (vs : List (Value × Value)) (F : Nat → Prop) (w : World) : Prop := MapF F b (tabV l vs) w ∧ TabX l vs F w
theorem FmsX.lies {l : List (Bs × AFm)} {b : Nat} {vs : List (Value × Value)} : Lies (FmsX l b vs) := lies2 MapF.lies TabX.lies
theorem strO_at {l : List Bs} {k : Nat} {x : Bs} (h : l[k]? = some x) : (l.map fun x => Value.string ⟨x.toArray⟩)[0 + k * 1]? = some (.string ⟨x.toArray⟩) := by
  rw [List.getElem?_map, Nat.zero_add, Nat.mul_one, h]; rfl
theorem small_names : ∀ l ∈ [noneL, singL, ariL, accL, condL], ∀ x ∈ l, x.length ≤ 10 := by decide
end Go.Proofs.YtkaepknpplhgkaaGreatDoor
/- The table of the forms of K, walked. -/
namespace Go.Proofs.YtkaepknpplhgkaaGreatDoor
open Go.RowKit
def FmPost (l : List (Bs × AFm)) (w : World) (e : Ending) (w' : World) : Prop := ∃ b vs, e = .returned (.map (some b)) ∧ Ext w w' ∧ FmsX l b vs (fun k => w.heap.size ≤ k) w'
set_option maxRecDepth 100000 in
theorem formsK_any (w_0 : World) (ht : AsT w_0) : Calls Tryz.prog 39 #[] w_0 (FmPost fmsK w_0) := by
  refine calls_wc (args := []) Tryz.func39 rfl 158 rfl (Nat.le_of_ble_eq_true rfl) ?_
  refine wc_weak (.nil) ?_
  refine wc_conseq (H' := Hp (fun _ => False) w_0 [] [] AsT) (fun u hu => ?_) ?_
  · subst hu; exact asStart ht
  refine wc_seq ?_
  refine wc_region ?_
  refine wl_free .none rfl (yf_assign rfl) ?_
  refine wl_nil ?_
  refine wq_then ?_
  refine wc_seq ?_
  refine wc_region ?_
  refine wl_new .none rfl (nf_makeMap) (fun b18 => ?_)
  refine wl_free .none rfl (yf_assign rfl) ?_
  refine wl_nil ?_
  refine wq_then ?_
  refine wc_seq ?_
  refine wc_weak (.cons (i := 0) rfl <| .cons (i := 1) rfl <| .nil) ?_
  refine wc_conseq (H' := Hp (fun _ => False) w_0 [(b18, mapO (tabV (fmsK.take (0)) []))] [] (fun u => TabX (fmsK.take (0)) [] (fun k => w_0.heap.size ≤ k) u ∧ AsT u)) (fun w h => Hp.weakX h fun u hu => ⟨TabX.nil, hu⟩) ?_
  obtain ⟨vs0, hvs0⟩ : ∃ y : List (Value × Value), y = [] := ⟨_, rfl⟩
  rw [← hvs0]
  refine wc_region ?_
  refine wl_free .none rfl (yf_assign rfl) ?_
  refine wl_nil ?_
  refine wq_then ?_
  refine wc_seq ?_
  refine wc_region ?_
  refine wl_free .none rfl (yf_assign rfl) ?_
  refine wl_nil ?_
  refine wq_then ?_
  refine wc_seq ?_
  refine wc_region ?_
  refine wl_free .none rfl (yf_assign rfl) ?_
  refine wl_nil ?_
  refine wq_then ?_
  refine wc_seq ?_
  refine wc_region ?_
  refine wl_free .none rfl (yf_assign rfl) ?_
  refine wl_nil ?_
  refine wq_then ?_
  refine wc_seq ?_
  refine wc_region ?_
  refine wl_free .none rfl (yf_assign rfl) ?_
  refine wl_nil ?_
  refine wq_then ?_
  refine wc_seq ?_
  refine wc_region ?_
  refine wl_free .none rfl (yf_assign rfl) ?_
  refine wl_nil ?_
  refine wq_then ?_
  refine wc_seq ?_
  refine wc_region ?_
  refine wl_free .none rfl (yf_assign rfl) ?_
  refine wl_nil ?_
  refine wq_then ?_
  refine wc_seq ?_
  refine wc_seq ?_
  refine wc_region ?_
  refine wl_callX (ι := Nat) (C := fun _ => True) (val := fun b => .slice (some ⟨b, 0, none⟩) (noneL : List Bs).length (noneL : List Bs).length) (TT := fun b => Bl7 b (strO noneL)) .none rfl  (by kernel_rfl) rfl (fun _ h => h.elim) (fun _ => Bl7.lies) (fun w hw => none_nm w (HpG.x hw).2) (fun nb0 N0 _ hN0 => ?_)
  refine wl_free .none rfl (yf_lenS rfl Tryz.underlying59) ?_
  refine wl_free .none rfl (yf_move rfl) ?_
  refine wl_nil ?_
  refine wq_then ?_
  refine wc_block ?_
  refine wc_loop (ι := {p : Nat × List (Value × Value) // p.1 ≤ 5 ∧ p.2.length = 0 + p.1}) (fun p => [(1, .map (some b18)), (2, fnV 97), (3, fnV 99), (4, fnV 100), (5, fnV 101), (6, fnV 102), (7, fnV 103), (8, fnV 104), (19, .slice (some ⟨nb0, 0, none⟩) (noneL : List Bs).length (noneL : List Bs).length), (20, .int .i64 (noneL : List Bs).length), (21, .int .i64 (p.1.1 : Nat))]) (fun p => Hp (fun _ => False) w_0 [(b18, mapO (tabV (fmsK.take (0 + p.1.1)) p.1.2))] [] (fun u => TabX (fmsK.take (0 + p.1.1)) p.1.2 (fun k => w_0.heap.size ≤ k) u ∧ (Bl7 nb0 (strO noneL) N0 u ∧ AsT u))) (fun p => 5 - p.1.1) ⟨(0, vs0), Nat.zero_le _, (by rw [hvs0]; rfl)⟩ ?_ ?_ (fun p => ?_)
  · exact .cons rfl <| .cons rfl <| .cons rfl <| .cons rfl <| .cons rfl <| .cons rfl <| .cons rfl <| .cons rfl <| .cons rfl <| .cons rfl <| .cons rfl <| .nil
  · exact fun w h => Hp.weakX h fun u ⟨a, b, c⟩ => ⟨b, a, c⟩
  obtain ⟨⟨k, vs⟩, hk, hvs⟩ := p
  dsimp only at hk hvs ⊢
  have hln : (noneL : List Bs).length = 5 := rfl
  refine wc_seq ?_
  refine wc_region ?_
  refine wl_free .none rfl (yf_lss rfl rfl) ?_
  refine wl_nil ?_
  refine wq_then ?_
  refine wc_seq ?_
  refine wc_cond rfl (fun ht0 => ?_) (fun ht0 => ?_)
  · replace ht0 := of_decide_eq_true ht0
    skip
    have hk5 : k < 5 := by omega
    obtain ⟨x, hx⟩ : ∃ x, (noneL : List Bs)[k]? = some x := ⟨_, List.getElem?_eq_getElem (by omega)⟩
    have hxl : x.length ≤ 10 := small_names _ (by simp) x (List.mem_of_getElem? hx)
    have hfm := fm_none k hk5
    rw [getD_of hx] at hfm
    refine wc_skip ?_
    refine wq_then ?_
    refine wc_seq ?_
    refine wc_block ?_
    refine wc_seq ?_
    refine wc_region ?_
    refine wl_free .none rfl (yf_move rfl) ?_
    (refine wl_free .none rfl (yf_indexAddrS (es := 1) rfl rfl Tryz.underlying59 (by kernel_rfl) rfl ?_ rfl) ?_; (· first | decide | omega | (simp; done) | (simp; omega)); skip)
    refine wl_free .none rfl (yf_load rfl Tryz.underlying9 rfl (fun w hw => Blk.cell (HpG.x hw).2.1.2 (strO_at hx))) ?_
    refine wl_free .none rfl (yf_assign rfl) ?_
    refine wl_free .none rfl (yf_assign rfl) ?_
    refine wl_nil ?_
    refine wq_then ?_
    refine wc_weak (.cons (i := 1) rfl <| .cons (i := 2) rfl <| .cons (i := 3) rfl <| .cons (i := 4) rfl <| .cons (i := 5) rfl <| .cons (i := 6) rfl <| .cons (i := 7) rfl <| .cons (i := 8) rfl <| .cons (i := 9) rfl <| .cons (i := 10) rfl <| .cons (i := 19) rfl <| .cons (i := 20) rfl <| .cons (i := 21) rfl <| .cons (i := 22) rfl <| .nil) ?_
    refine wc_region ?_
    refine wl_free .none rfl (yf_move rfl) ?_
    refine wl_free .none rfl (yf_move rfl) ?_
    (refine wl_free .none rfl (yf_str_add rfl rfl ?_) ?_; (· (first | omega | (simp only [List.length_append, List.length_cons, List.length_nil]; omega) | (simp <;> omega))); skip)
    refine wl_free .none rfl (yf_move rfl) ?_
    refine wl_free .none rfl (yf_move rfl) ?_
    refine wl_free .none rfl (yf_add rfl rfl (show IntKind.i64.wrap (0 + (k : Int)) = ((k : Nat) : Int) by rw [Int.zero_add]; exact i64_in _ (by omega) (by omega))) ?_
    refine wl_callVX (ι := Nat) (C := fun _ => True) (us := []) (cs := []) (vs := [.int .i64 ((k : Nat) : Int)]) (val := fun b => pfV 98 b) (TT := fun b => Bl7 b (bxJ ((k : Nat) : Int))) .none rfl  (f := 97) (by kernel_rfl) rfl rfl (fun _ h => h.elim) (fun _ => Bl7.lies) (fun w hw => always_mk ((k : Nat) : Int) w) (fun x0 F0 _ hF0 => ?_)
    refine wl_free .none rfl (yf_move rfl) ?_
    refine wl_callX (ι := Nat × Nat) (C := fun _ => True) (val := fun i => .agg #[pfV 165 i.1, pf2V 167 i.1 i.2]) (TT := fun i F u => Bl7 i.1 (opO (pfV 98 x0)) F u ∧ Bl7 i.2 (flO (fnV (filFid .nothing))) F u) .none rfl  (by kernel_rfl) rfl (fun _ h => h.elim) (fun _ => lies2 Bl7.lies Bl7.lies) (fun w hw => insK_mk 98 99 [.pointer (some ⟨x0, 0, none⟩)] [] w) (fun i0 G0 _ hG0 => ?_)
    refine wl_chain0 .none (cf_updS (key := (x ++ [32])) 0 rfl rfl rfl rfl Tryz.underlying83 Tryz.underlying9 (tb_new hfm vs)) (fun _ => ?_)
    refine wl_conseq (H' := Hp (fun _ => False) w_0 [(b18, mapO (tabV (fmsK.take (0 + k + 1)) (vs ++ [(pfV 165 i0.1, pf2V 167 i0.1 i0.2)])))] [] (fun u => TabX (fmsK.take (0 + k + 1)) (vs ++ [(pfV 165 i0.1, pf2V 167 i0.1 i0.2)]) (fun k => w_0.heap.size ≤ k) u ∧ (Bl7 nb0 (strO noneL) N0 u ∧ AsT u))) (fun w h => by rw [tb_eq hfm hvs]; exact tb_join hfm rfl (by omega) hF0 hG0 h) ?_
    refine wl_nil ?_
    refine wq_block ?_
    refine wq_then ?_
    refine wc_weak (.cons (i := 1) rfl <| .cons (i := 2) rfl <| .cons (i := 3) rfl <| .cons (i := 4) rfl <| .cons (i := 5) rfl <| .cons (i := 6) rfl <| .cons (i := 7) rfl <| .cons (i := 8) rfl <| .cons (i := 9) rfl <| .cons (i := 10) rfl <| .cons (i := 19) rfl <| .cons (i := 20) rfl <| .cons (i := 21) rfl <| .cons (i := 22) rfl <| .nil) ?_
    refine wc_region ?_
    (refine wl_free .none rfl (yf_add rfl rfl (i64_in _ ?_ ?_)) ?_; (· omega); (· omega); skip)
    refine wl_free .none rfl (yf_move rfl) ?_
    refine wl_nil ?_
    refine wq_round (ι := {p : Nat × List (Value × Value) // p.1 ≤ 5 ∧ p.2.length = 0 + p.1}) ⟨(k + 1, (vs ++ [(pfV 165 i0.1, pf2V 167 i0.1 i0.2)])), by show k + 1 ≤ _; omega, by show ((vs ++ [(pfV 165 i0.1, pf2V 167 i0.1 i0.2)])).length = _; simp only [List.length_append, List.length_cons, List.length_nil, hvs]; omega⟩ (by show 5 - (k + 1) < 5 - k; omega) (.cons rfl <| .cons rfl <| .cons rfl <| .cons rfl <| .cons rfl <| .cons rfl <| .cons rfl <| .cons rfl <| .cons rfl <| .cons rfl <| .cons rfl <| .nil) (fun w h => h)
  · replace ht0 := of_decide_eq_false ht0
    skip
    obtain rfl : k = 5 := by omega
    obtain ⟨vs1, rfl⟩ : ∃ y, y = vs := ⟨_, rfl⟩
    have hl1 := hvs
    refine wc_exit ?_
    refine wq_then_exit ?_
    refine wq_then_exit ?_
    refine wq_here ?_
    refine wq_then ?_
    refine wc_seq ?_
    refine wc_seq ?_
    refine wc_region ?_
    refine wl_callX (ι := Nat) (C := fun _ => True) (val := fun b => .slice (some ⟨b, 0, none⟩) (singL : List Bs).length (singL : List Bs).length) (TT := fun b => Bl7 b (strO singL)) .none rfl  (by kernel_rfl) rfl (fun _ h => h.elim) (fun _ => Bl7.lies) (fun w hw => single_nm w (HpG.x hw).2.2) (fun nb1 N1 _ hN1 => ?_)
    refine wl_free .none rfl (yf_lenS rfl Tryz.underlying59) ?_
    refine wl_free .none rfl (yf_move rfl) ?_
    refine wl_nil ?_
    refine wq_then ?_
    refine wc_block ?_
    refine wc_loop (ι := {p : Nat × List (Value × Value) // p.1 ≤ 6 ∧ p.2.length = 5 + p.1}) (fun p => [(1, .map (some b18)), (2, fnV 97), (3, fnV 99), (4, fnV 100), (5, fnV 101), (6, fnV 102), (7, fnV 103), (8, fnV 104), (36, .slice (some ⟨nb1, 0, none⟩) (singL : List Bs).length (singL : List Bs).length), (37, .int .i64 (singL : List Bs).length), (38, .int .i64 (p.1.1 : Nat))]) (fun p => Hp (fun _ => False) w_0 [(b18, mapO (tabV (fmsK.take (5 + p.1.1)) p.1.2))] [] (fun u => TabX (fmsK.take (5 + p.1.1)) p.1.2 (fun k => w_0.heap.size ≤ k) u ∧ (Bl7 nb1 (strO singL) N1 u ∧ AsT u))) (fun p => 6 - p.1.1) ⟨(0, vs1), Nat.zero_le _, hl1⟩ ?_ ?_ (fun p => ?_)
    · exact .cons rfl <| .cons rfl <| .cons rfl <| .cons rfl <| .cons rfl <| .cons rfl <| .cons rfl <| .cons rfl <| .cons rfl <| .cons rfl <| .cons rfl <| .nil
    · exact fun w h => Hp.weakX h fun u ⟨a, b, c⟩ => ⟨b, a, c.2⟩
    obtain ⟨⟨k, vs⟩, hk, hvs⟩ := p
    dsimp only at hk hvs ⊢
    have hln : (singL : List Bs).length = 6 := rfl
    refine wc_seq ?_
    refine wc_region ?_
    refine wl_free .none rfl (yf_lss rfl rfl) ?_
    refine wl_nil ?_
    refine wq_then ?_
    refine wc_seq ?_
    refine wc_cond rfl (fun ht1 => ?_) (fun ht1 => ?_)
    · replace ht1 := of_decide_eq_true ht1
      skip
      have hk5 : k < 6 := by omega
      obtain ⟨x, hx⟩ : ∃ x, (singL : List Bs)[k]? = some x := ⟨_, List.getElem?_eq_getElem (by omega)⟩
      have hxl : x.length ≤ 10 := small_names _ (by simp) x (List.mem_of_getElem? hx)
      have hfm := fm_sing k hk5
      rw [getD_of hx] at hfm
      refine wc_skip ?_
      refine wq_then ?_
      refine wc_seq ?_
      refine wc_block ?_
      refine wc_seq ?_
      refine wc_region ?_
      refine wl_free .none rfl (yf_move rfl) ?_
      (refine wl_free .none rfl (yf_indexAddrS (es := 1) rfl rfl Tryz.underlying59 (by kernel_rfl) rfl ?_ rfl) ?_; (· first | decide | omega | (simp; done) | (simp; omega)); skip)
      refine wl_free .none rfl (yf_load rfl Tryz.underlying9 rfl (fun w hw => Blk.cell (HpG.x hw).2.1.2 (strO_at hx))) ?_
      refine wl_free .none rfl (yf_assign rfl) ?_
      refine wl_free .none rfl (yf_assign rfl) ?_
      refine wl_nil ?_
      refine wq_then ?_
      refine wc_weak (.cons (i := 1) rfl <| .cons (i := 2) rfl <| .cons (i := 3) rfl <| .cons (i := 4) rfl <| .cons (i := 5) rfl <| .cons (i := 6) rfl <| .cons (i := 7) rfl <| .cons (i := 8) rfl <| .cons (i := 11) rfl <| .cons (i := 12) rfl <| .cons (i := 36) rfl <| .cons (i := 37) rfl <| .cons (i := 38) rfl <| .cons (i := 39) rfl <| .nil) ?_
      refine wc_region ?_
      refine wl_free .none rfl (yf_move rfl) ?_
      refine wl_free .none rfl (yf_move rfl) ?_
      (refine wl_free .none rfl (yf_str_add rfl rfl ?_) ?_; (· (first | omega | (simp only [List.length_append, List.length_cons, List.length_nil]; omega) | (simp <;> omega))); skip)
      refine wl_free .none rfl (yf_move rfl) ?_
      refine wl_free .none rfl (yf_move rfl) ?_
      refine wl_free .none rfl (yf_add rfl rfl (show IntKind.i64.wrap (16 + (k : Int)) = ((16 + k : Nat) : Int) from i64_in ((16 + k : Nat) : Int) (by omega) (by omega))) ?_
      refine wl_callVX (ι := Nat) (C := fun _ => True) (us := []) (cs := []) (vs := [.int .i64 ((16 + k : Nat) : Int)]) (val := fun b => pfV 98 b) (TT := fun b => Bl7 b (bxJ ((16 + k : Nat) : Int))) .none rfl  (f := 97) (by kernel_rfl) rfl rfl (fun _ h => h.elim) (fun _ => Bl7.lies) (fun w hw => always_mk ((16 + k : Nat) : Int) w) (fun x1 F1 _ hF1 => ?_)
      refine wl_free .none rfl (yf_move rfl) ?_
      refine wl_callX (ι := Nat × Nat) (C := fun _ => True) (val := fun i => .agg #[pfV 165 i.1, pf2V 167 i.1 i.2]) (TT := fun i F u => Bl7 i.1 (opO (pfV 98 x1)) F u ∧ Bl7 i.2 (flO (fnV (filFid .nothing))) F u) .none rfl  (by kernel_rfl) rfl (fun _ h => h.elim) (fun _ => lies2 Bl7.lies Bl7.lies) (fun w hw => insK_mk 98 99 [.pointer (some ⟨x1, 0, none⟩)] [] w) (fun i1 G1 _ hG1 => ?_)
      refine wl_chain0 .none (cf_updS (key := (x ++ [32, 114])) 0 rfl rfl rfl rfl Tryz.underlying83 Tryz.underlying9 (tb_new hfm vs)) (fun _ => ?_)
      refine wl_conseq (H' := Hp (fun _ => False) w_0 [(b18, mapO (tabV (fmsK.take (5 + k + 1)) (vs ++ [(pfV 165 i1.1, pf2V 167 i1.1 i1.2)])))] [] (fun u => TabX (fmsK.take (5 + k + 1)) (vs ++ [(pfV 165 i1.1, pf2V 167 i1.1 i1.2)]) (fun k => w_0.heap.size ≤ k) u ∧ (Bl7 nb1 (strO singL) N1 u ∧ AsT u))) (fun w h => by rw [tb_eq hfm hvs]; exact tb_join hfm rfl (by omega) hF1 hG1 h) ?_
      refine wl_nil ?_
      refine wq_block ?_
      refine wq_then ?_
      refine wc_weak (.cons (i := 1) rfl <| .cons (i := 2) rfl <| .cons (i := 3) rfl <| .cons (i := 4) rfl <| .cons (i := 5) rfl <| .cons (i := 6) rfl <| .cons (i := 7) rfl <| .cons (i := 8) rfl <| .cons (i := 11) rfl <| .cons (i := 12) rfl <| .cons (i := 36) rfl <| .cons (i := 37) rfl <| .cons (i := 38) rfl <| .cons (i := 39) rfl <| .nil) ?_
      refine wc_region ?_
      (refine wl_free .none rfl (yf_add rfl rfl (i64_in _ ?_ ?_)) ?_; (· omega); (· omega); skip)
      refine wl_free .none rfl (yf_move rfl) ?_
      refine wl_nil ?_
      refine wq_round (ι := {p : Nat × List (Value × Value) // p.1 ≤ 6 ∧ p.2.length = 5 + p.1}) ⟨(k + 1, (vs ++ [(pfV 165 i1.1, pf2V 167 i1.1 i1.2)])), by show k + 1 ≤ _; omega, by show ((vs ++ [(pfV 165 i1.1, pf2V 167 i1.1 i1.2)])).length = _; simp only [List.length_append, List.length_cons, List.length_nil, hvs]; omega⟩ (by show 6 - (k + 1) < 6 - k; omega) (.cons rfl <| .cons rfl <| .cons rfl <| .cons rfl <| .cons rfl <| .cons rfl <| .cons rfl <| .cons rfl <| .cons rfl <| .cons rfl <| .cons rfl <| .nil) (fun w h => h)
    · replace ht1 := of_decide_eq_false ht1
      skip
      obtain rfl : k = 6 := by omega
      obtain ⟨vs2, rfl⟩ : ∃ y, y = vs := ⟨_, rfl⟩
      have hl2 := hvs
      refine wc_exit ?_
      refine wq_then_exit ?_
      refine wq_then_exit ?_
      refine wq_here ?_
      refine wq_then ?_
      refine wc_seq ?_
      refine wc_seq ?_
      refine wc_region ?_
      refine wl_callX (ι := Nat) (C := fun _ => True) (val := fun b => .slice (some ⟨b, 0, none⟩) (ariL : List Bs).length (ariL : List Bs).length) (TT := fun b => Bl7 b (strO ariL)) .none rfl  (by kernel_rfl) rfl (fun _ h => h.elim) (fun _ => Bl7.lies) (fun w hw => arith_nm w (HpG.x hw).2.2) (fun nb2 N2 _ hN2 => ?_)
      refine wl_free .none rfl (yf_lenS rfl Tryz.underlying59) ?_
      refine wl_free .none rfl (yf_move rfl) ?_
      refine wl_nil ?_
      refine wq_then ?_
      refine wc_block ?_
      refine wc_loop (ι := {p : Nat × List (Value × Value) // p.1 ≤ 15 ∧ p.2.length = 11 + 4 * p.1}) (fun p => [(1, .map (some b18)), (2, fnV 97), (3, fnV 99), (4, fnV 100), (5, fnV 101), (6, fnV 102), (7, fnV 103), (8, fnV 104), (53, .slice (some ⟨nb2, 0, none⟩) (ariL : List Bs).length (ariL : List Bs).length), (54, .int .i64 (ariL : List Bs).length), (55, .int .i64 (p.1.1 : Nat))]) (fun p => Hp (fun _ => False) w_0 [(b18, mapO (tabV (fmsK.take (11 + 4 * p.1.1)) p.1.2))] [] (fun u => TabX (fmsK.take (11 + 4 * p.1.1)) p.1.2 (fun k => w_0.heap.size ≤ k) u ∧ (Bl7 nb2 (strO ariL) N2 u ∧ AsT u))) (fun p => 15 - p.1.1) ⟨(0, vs2), Nat.zero_le _, hl2⟩ ?_ ?_ (fun p => ?_)
      · exact .cons rfl <| .cons rfl <| .cons rfl <| .cons rfl <| .cons rfl <| .cons rfl <| .cons rfl <| .cons rfl <| .cons rfl <| .cons rfl <| .cons rfl <| .nil
      · exact fun w h => Hp.weakX h fun u ⟨a, b, c⟩ => ⟨b, a, c.2⟩
      obtain ⟨⟨k, vs⟩, hk, hvs⟩ := p
      dsimp only at hk hvs ⊢
      have hln : (ariL : List Bs).length = 15 := rfl
      refine wc_seq ?_
      refine wc_region ?_
      refine wl_free .none rfl (yf_lss rfl rfl) ?_
      refine wl_nil ?_
      refine wq_then ?_
      refine wc_seq ?_
      refine wc_cond rfl (fun ht2 => ?_) (fun ht2 => ?_)
      · replace ht2 := of_decide_eq_true ht2
        skip
        have hk5 : k < 15 := by omega
        obtain ⟨x, hx⟩ : ∃ x, (ariL : List Bs)[k]? = some x := ⟨_, List.getElem?_eq_getElem (by omega)⟩
        have hxl : x.length ≤ 10 := small_names _ (by simp) x (List.mem_of_getElem? hx)
        have hfm := fm_ari k hk5
        rw [getD_of hx] at hfm
        obtain ⟨hf0, hf1, hf2, hf3⟩ := hfm
        refine wc_skip ?_
        refine wq_then ?_
        refine wc_seq ?_
        refine wc_block ?_
        refine wc_seq ?_
        refine wc_region ?_
        refine wl_free .none rfl (yf_move rfl) ?_
        (refine wl_free .none rfl (yf_indexAddrS (es := 1) rfl rfl Tryz.underlying59 (by kernel_rfl) rfl ?_ rfl) ?_; (· first | decide | omega | (simp; done) | (simp; omega)); skip)
        refine wl_free .none rfl (yf_load rfl Tryz.underlying9 rfl (fun w hw => Blk.cell (HpG.x hw).2.1.2 (strO_at hx))) ?_
        refine wl_new .none rfl (nf_alloc (z := .int .i64 0) (cs := [.int .i64 0]) (by kernel_rfl) rfl) (fun b13 => ?_)
        refine wl_chain0 .none (cf_store 0 rfl rfl rfl rfl rfl (by kernel_rfl)) (fun _ => ?_)
        refine wl_free .none rfl (yf_assign rfl) ?_
        refine wl_nil ?_
        refine wq_then ?_
        refine wc_seq ?_
        refine wc_weak (.cons (i := 1) rfl <| .cons (i := 2) rfl <| .cons (i := 3) rfl <| .cons (i := 4) rfl <| .cons (i := 5) rfl <| .cons (i := 6) rfl <| .cons (i := 7) rfl <| .cons (i := 8) rfl <| .cons (i := 13) rfl <| .cons (i := 14) rfl <| .cons (i := 53) rfl <| .cons (i := 54) rfl <| .cons (i := 55) rfl <| .cons (i := 56) rfl <| .nil) ?_
        refine wc_region ?_
        refine wl_free .none rfl (yf_move rfl) ?_
        refine wl_free .none rfl (yf_move rfl) ?_
        (refine wl_free .none rfl (yf_str_add rfl rfl ?_) ?_; (· (first | omega | (simp only [List.length_append, List.length_cons, List.length_nil]; omega) | (simp <;> omega))); skip)
        refine wl_free .none rfl (yf_move rfl) ?_
        refine wl_free .none rfl (yf_loadL 0 rfl rfl rfl Tryz.underlying3 rfl) ?_
        refine wl_free .none rfl (yf_add rfl rfl (show IntKind.i64.wrap (32 + (k : Int)) = ((32 + k : Nat) : Int) from i64_in ((32 + k : Nat) : Int) (by omega) (by omega))) ?_
        refine wl_callVX (ι := Nat) (C := fun _ => True) (us := []) (cs := []) (vs := [.int .i64 ((32 + k : Nat) : Int)]) (val := fun b => pfV 98 b) (TT := fun b => Bl7 b (bxJ ((32 + k : Nat) : Int))) .none rfl  (f := 97) (by kernel_rfl) rfl rfl (fun _ h => h.elim) (fun _ => Bl7.lies) (fun w hw => always_mk ((32 + k : Nat) : Int) w) (fun x2 F2 _ hF2 => ?_)
        refine wl_free .none rfl (yf_move rfl) ?_
        refine wl_callX (ι := Nat × Nat) (C := fun _ => True) (val := fun i => .agg #[pfV 165 i.1, pf2V 167 i.1 i.2]) (TT := fun i F u => Bl7 i.1 (opO (pfV 98 x2)) F u ∧ Bl7 i.2 (flO (fnV (filFid .second))) F u) .none rfl  (by kernel_rfl) rfl (fun _ h => h.elim) (fun _ => lies2 Bl7.lies Bl7.lies) (fun w hw => insK_mk 98 100 [.pointer (some ⟨x2, 0, none⟩)] [] w) (fun i2 G2 _ hG2 => ?_)
        refine wl_chain0 .none (cf_updS (key := (x ++ [32, 114, 114])) 1 rfl rfl rfl rfl Tryz.underlying83 Tryz.underlying9 (tb_new hf0 vs)) (fun _ => ?_)
        refine wl_conseq (H' := Hp (fun _ => False) w_0 [(b13, bxI k), (b18, mapO (tabV (fmsK.take (11 + 4 * k + 1)) (vs ++ [(pfV 165 i2.1, pf2V 167 i2.1 i2.2)])))] [] (fun u => TabX (fmsK.take (11 + 4 * k + 1)) (vs ++ [(pfV 165 i2.1, pf2V 167 i2.1 i2.2)]) (fun k => w_0.heap.size ≤ k) u ∧ (Bl7 nb2 (strO ariL) N2 u ∧ AsT u))) (fun w h => by rw [tb_eq hf0 hvs]; exact tb_join hf0 rfl (by omega) hF2 hG2 h) ?_
        refine wl_nil ?_
        refine wq_then ?_
        refine wc_seq ?_
        refine wc_weak (.cons (i := 1) rfl <| .cons (i := 2) rfl <| .cons (i := 3) rfl <| .cons (i := 4) rfl <| .cons (i := 5) rfl <| .cons (i := 6) rfl <| .cons (i := 7) rfl <| .cons (i := 8) rfl <| .cons (i := 13) rfl <| .cons (i := 14) rfl <| .cons (i := 53) rfl <| .cons (i := 54) rfl <| .cons (i := 55) rfl <| .cons (i := 56) rfl <| .nil) ?_
        refine wc_region ?_
        refine wl_free .none rfl (yf_move rfl) ?_
        refine wl_free .none rfl (yf_move rfl) ?_
        (refine wl_free .none rfl (yf_str_add rfl rfl ?_) ?_; (· (first | omega | (simp only [List.length_append, List.length_cons, List.length_nil]; omega) | (simp <;> omega))); skip)
        refine wl_free .none rfl (yf_move rfl) ?_
        refine wl_free .none rfl (yf_loadL 0 rfl rfl rfl Tryz.underlying3 rfl) ?_
        refine wl_free .none rfl (yf_add rfl rfl (show IntKind.i64.wrap (48 + (k : Int)) = ((48 + k : Nat) : Int) from i64_in ((48 + k : Nat) : Int) (by omega) (by omega))) ?_
        refine wl_callVX (ι := Nat) (C := fun _ => True) (us := []) (cs := []) (vs := [.int .i64 ((48 + k : Nat) : Int)]) (val := fun b => pfV 98 b) (TT := fun b => Bl7 b (bxJ ((48 + k : Nat) : Int))) .none rfl  (f := 97) (by kernel_rfl) rfl rfl (fun _ h => h.elim) (fun _ => Bl7.lies) (fun w hw => always_mk ((48 + k : Nat) : Int) w) (fun x3 F3 _ hF3 => ?_)
        refine wl_free .none rfl (yf_move rfl) ?_
        refine wl_callX (ι := Nat × Nat) (C := fun _ => True) (val := fun i => .agg #[pfV 165 i.1, pf2V 167 i.1 i.2]) (TT := fun i F u => Bl7 i.1 (opO (pfV 98 x3)) F u ∧ Bl7 i.2 (flO (fnV (filFid .value))) F u) .none rfl  (by kernel_rfl) rfl (fun _ h => h.elim) (fun _ => lies2 Bl7.lies Bl7.lies) (fun w hw => insK_mk 98 101 [.pointer (some ⟨x3, 0, none⟩)] [] w) (fun i3 G3 _ hG3 => ?_)
        refine wl_chain0 .none (cf_updS (key := (x ++ [46, 98, 32, 114, 118])) 1 rfl rfl rfl rfl Tryz.underlying83 Tryz.underlying9 (tb_new hf1 (vs ++ [(pfV 165 i2.1, pf2V 167 i2.1 i2.2)]))) (fun _ => ?_)
        refine wl_conseq (H' := Hp (fun _ => False) w_0 [(b13, bxI k), (b18, mapO (tabV (fmsK.take (11 + 4 * k + 1 + 1)) ((vs ++ [(pfV 165 i2.1, pf2V 167 i2.1 i2.2)]) ++ [(pfV 165 i3.1, pf2V 167 i3.1 i3.2)])))] [] (fun u => TabX (fmsK.take (11 + 4 * k + 1 + 1)) ((vs ++ [(pfV 165 i2.1, pf2V 167 i2.1 i2.2)]) ++ [(pfV 165 i3.1, pf2V 167 i3.1 i3.2)]) (fun k => w_0.heap.size ≤ k) u ∧ (Bl7 nb2 (strO ariL) N2 u ∧ AsT u))) (fun w h => by rw [tb_eq hf1 (by simp only [List.length_append, List.length_cons, List.length_nil, hvs])]; exact tb_join hf1 rfl (by omega) hF3 hG3 h) ?_
        refine wl_nil ?_
        refine wq_then ?_
        refine wc_seq ?_
        refine wc_weak (.cons (i := 1) rfl <| .cons (i := 2) rfl <| .cons (i := 3) rfl <| .cons (i := 4) rfl <| .cons (i := 5) rfl <| .cons (i := 6) rfl <| .cons (i := 7) rfl <| .cons (i := 8) rfl <| .cons (i := 13) rfl <| .cons (i := 14) rfl <| .cons (i := 53) rfl <| .cons (i := 54) rfl <| .cons (i := 55) rfl <| .cons (i := 56) rfl <| .nil) ?_
        refine wc_region ?_
        refine wl_free .none rfl (yf_move rfl) ?_
        refine wl_free .none rfl (yf_move rfl) ?_
        (refine wl_free .none rfl (yf_str_add rfl rfl ?_) ?_; (· (first | omega | (simp only [List.length_append, List.length_cons, List.length_nil]; omega) | (simp <;> omega))); skip)
        refine wl_free .none rfl (yf_move rfl) ?_
        refine wl_free .none rfl (yf_loadL 0 rfl rfl rfl Tryz.underlying3 rfl) ?_
        refine wl_free .none rfl (yf_add rfl rfl (show IntKind.i64.wrap (64 + (k : Int)) = ((64 + k : Nat) : Int) from i64_in ((64 + k : Nat) : Int) (by omega) (by omega))) ?_
        refine wl_callVX (ι := Nat) (C := fun _ => True) (us := []) (cs := []) (vs := [.int .i64 ((64 + k : Nat) : Int)]) (val := fun b => pfV 98 b) (TT := fun b => Bl7 b (bxJ ((64 + k : Nat) : Int))) .none rfl  (f := 97) (by kernel_rfl) rfl rfl (fun _ h => h.elim) (fun _ => Bl7.lies) (fun w hw => always_mk ((64 + k : Nat) : Int) w) (fun x4 F4 _ hF4 => ?_)
        refine wl_free .none rfl (yf_move rfl) ?_
        refine wl_callX (ι := Nat × Nat) (C := fun _ => True) (val := fun i => .agg #[pfV 165 i.1, pf2V 167 i.1 i.2]) (TT := fun i F u => Bl7 i.1 (opO (pfV 98 x4)) F u ∧ Bl7 i.2 (flO (fnV (filFid .value))) F u) .none rfl  (by kernel_rfl) rfl (fun _ h => h.elim) (fun _ => lies2 Bl7.lies Bl7.lies) (fun w hw => insK_mk 98 101 [.pointer (some ⟨x4, 0, none⟩)] [] w) (fun i4 G4 _ hG4 => ?_)
        refine wl_chain0 .none (cf_updS (key := (x ++ [46, 119, 32, 114, 118])) 1 rfl rfl rfl rfl Tryz.underlying83 Tryz.underlying9 (tb_new hf2 ((vs ++ [(pfV 165 i2.1, pf2V 167 i2.1 i2.2)]) ++ [(pfV 165 i3.1, pf2V 167 i3.1 i3.2)]))) (fun _ => ?_)
        refine wl_conseq (H' := Hp (fun _ => False) w_0 [(b13, bxI k), (b18, mapO (tabV (fmsK.take (11 + 4 * k + 2 + 1)) (((vs ++ [(pfV 165 i2.1, pf2V 167 i2.1 i2.2)]) ++ [(pfV 165 i3.1, pf2V 167 i3.1 i3.2)]) ++ [(pfV 165 i4.1, pf2V 167 i4.1 i4.2)])))] [] (fun u => TabX (fmsK.take (11 + 4 * k + 2 + 1)) (((vs ++ [(pfV 165 i2.1, pf2V 167 i2.1 i2.2)]) ++ [(pfV 165 i3.1, pf2V 167 i3.1 i3.2)]) ++ [(pfV 165 i4.1, pf2V 167 i4.1 i4.2)]) (fun k => w_0.heap.size ≤ k) u ∧ (Bl7 nb2 (strO ariL) N2 u ∧ AsT u))) (fun w h => by rw [tb_eq hf2 (by simp only [List.length_append, List.length_cons, List.length_nil, hvs])]; exact tb_join hf2 rfl (by omega) hF4 hG4 h) ?_
        refine wl_nil ?_
        refine wq_then ?_
        refine wc_weak (.cons (i := 1) rfl <| .cons (i := 2) rfl <| .cons (i := 3) rfl <| .cons (i := 4) rfl <| .cons (i := 5) rfl <| .cons (i := 6) rfl <| .cons (i := 7) rfl <| .cons (i := 8) rfl <| .cons (i := 13) rfl <| .cons (i := 14) rfl <| .cons (i := 53) rfl <| .cons (i := 54) rfl <| .cons (i := 55) rfl <| .cons (i := 56) rfl <| .nil) ?_
        refine wc_region ?_
        refine wl_free .none rfl (yf_move rfl) ?_
        refine wl_free .none rfl (yf_move rfl) ?_
        (refine wl_free .none rfl (yf_str_add rfl rfl ?_) ?_; (· (first | omega | (simp only [List.length_append, List.length_cons, List.length_nil]; omega) | (simp <;> omega))); skip)
        refine wl_free .none rfl (yf_makeFunc rfl rfl) ?_
        refine wl_free .none rfl (yf_move rfl) ?_
        refine wl_callX (ι := Nat × Nat) (C := fun _ => True) (val := fun i => .agg #[pfV 165 i.1, pf2V 167 i.1 i.2]) (TT := fun i F u => Bl7 i.1 (opO (pfV 106 b13)) F u ∧ Bl7 i.2 (flO (fnV (filFid .value))) F u) .none rfl  (by kernel_rfl) rfl (fun _ h => h.elim) (fun _ => lies2 Bl7.lies Bl7.lies) (fun w hw => insK_mk 106 101 [.pointer (some ⟨b13, 0, none⟩)] [] w) (fun i5 G5 _ hG5 => ?_)
        refine wl_chain0 .none (cf_updS (key := (x ++ [32, 114, 118])) 1 rfl rfl rfl rfl Tryz.underlying83 Tryz.underlying9 (tb_new hf3 (((vs ++ [(pfV 165 i2.1, pf2V 167 i2.1 i2.2)]) ++ [(pfV 165 i3.1, pf2V 167 i3.1 i3.2)]) ++ [(pfV 165 i4.1, pf2V 167 i4.1 i4.2)]))) (fun _ => ?_)
        refine wl_fact (φ := w_0.heap.size ≤ b13) (fun w hw => HpG.mineL (j := 0) hw rfl id) (fun hmb13 => ?_)
        refine wl_conseq (H' := Hp (fun _ => False) w_0 [(b18, mapO (tabV (fmsK.take (11 + 4 * k + 3 + 1)) ((((vs ++ [(pfV 165 i2.1, pf2V 167 i2.1 i2.2)]) ++ [(pfV 165 i3.1, pf2V 167 i3.1 i3.2)]) ++ [(pfV 165 i4.1, pf2V 167 i4.1 i4.2)]) ++ [(pfV 165 i5.1, pf2V 167 i5.1 i5.2)])))] [] (fun u => TabX (fmsK.take (11 + 4 * k + 3 + 1)) ((((vs ++ [(pfV 165 i2.1, pf2V 167 i2.1 i2.2)]) ++ [(pfV 165 i3.1, pf2V 167 i3.1 i3.2)]) ++ [(pfV 165 i4.1, pf2V 167 i4.1 i4.2)]) ++ [(pfV 165 i5.1, pf2V 167 i5.1 i5.2)]) (fun k => w_0.heap.size ≤ k) u ∧ (Bl7 nb2 (strO ariL) N2 u ∧ AsT u))) (fun w h => by
          rw [tb_eq hf3 (by simp only [List.length_append, List.length_cons, List.length_nil, hvs])]
          refine Hp.weakX (tb_joinS (sel := .arith k) (v := pfV 106 b13) (Y := fun u => Blk b13 (bxI k) u ∧ ((Bl7 nb2 (strO ariL) N2 u ∧ AsT u))) hf3 rfl (by show k < _; omega) hG5 (fun u hu => ⟨b13, rfl, hmb13, hu.1⟩) (Hp.weakX (Hp.toX h id) fun u ⟨a, b, c, d⟩ => ⟨b, c, a, d⟩)) fun u ⟨a, b, c⟩ => ⟨a, c⟩) ?_
        refine wl_nil ?_
        refine wq_block ?_
        refine wq_then ?_
        refine wc_weak (.cons (i := 1) rfl <| .cons (i := 2) rfl <| .cons (i := 3) rfl <| .cons (i := 4) rfl <| .cons (i := 5) rfl <| .cons (i := 6) rfl <| .cons (i := 7) rfl <| .cons (i := 8) rfl <| .cons (i := 13) rfl <| .cons (i := 14) rfl <| .cons (i := 53) rfl <| .cons (i := 54) rfl <| .cons (i := 55) rfl <| .cons (i := 56) rfl <| .nil) ?_
        refine wc_region ?_
        (refine wl_free .none rfl (yf_add rfl rfl (i64_in _ ?_ ?_)) ?_; (· omega); (· omega); skip)
        refine wl_free .none rfl (yf_move rfl) ?_
        refine wl_nil ?_
        refine wq_round (ι := {p : Nat × List (Value × Value) // p.1 ≤ 15 ∧ p.2.length = 11 + 4 * p.1}) ⟨(k + 1, ((((vs ++ [(pfV 165 i2.1, pf2V 167 i2.1 i2.2)]) ++ [(pfV 165 i3.1, pf2V 167 i3.1 i3.2)]) ++ [(pfV 165 i4.1, pf2V 167 i4.1 i4.2)]) ++ [(pfV 165 i5.1, pf2V 167 i5.1 i5.2)])), by show k + 1 ≤ _; omega, by show (((((vs ++ [(pfV 165 i2.1, pf2V 167 i2.1 i2.2)]) ++ [(pfV 165 i3.1, pf2V 167 i3.1 i3.2)]) ++ [(pfV 165 i4.1, pf2V 167 i4.1 i4.2)]) ++ [(pfV 165 i5.1, pf2V 167 i5.1 i5.2)])).length = _; simp only [List.length_append, List.length_cons, List.length_nil, hvs]; omega⟩ (by show 15 - (k + 1) < 15 - k; omega) (.cons rfl <| .cons rfl <| .cons rfl <| .cons rfl <| .cons rfl <| .cons rfl <| .cons rfl <| .cons rfl <| .cons rfl <| .cons rfl <| .cons rfl <| .nil) (fun w h => h)
      · replace ht2 := of_decide_eq_false ht2
        skip
        obtain rfl : k = 15 := by omega
        obtain ⟨vs3, rfl⟩ : ∃ y, y = vs := ⟨_, rfl⟩
        have hl3 := hvs
        refine wc_exit ?_
        refine wq_then_exit ?_
        refine wq_then_exit ?_
        refine wq_here ?_
        refine wq_then ?_
        refine wc_seq ?_
        refine wc_seq ?_
        refine wc_region ?_
        refine wl_callX (ι := Nat) (C := fun _ => True) (val := fun b => .slice (some ⟨b, 0, none⟩) (accL : List Bs).length (accL : List Bs).length) (TT := fun b => Bl7 b (strO accL)) .none rfl  (by kernel_rfl) rfl (fun _ h => h.elim) (fun _ => Bl7.lies) (fun w hw => access_nm w (HpG.x hw).2.2) (fun nb3 N3 _ hN3 => ?_)
        refine wl_free .none rfl (yf_lenS rfl Tryz.underlying59) ?_
        refine wl_free .none rfl (yf_move rfl) ?_
        refine wl_nil ?_
        refine wq_then ?_
        refine wc_block ?_
        refine wc_loop (ι := {p : Nat × List (Value × Value) // p.1 ≤ 7 ∧ p.2.length = 71 + 2 * p.1}) (fun p => [(1, .map (some b18)), (2, fnV 97), (3, fnV 99), (4, fnV 100), (5, fnV 101), (6, fnV 102), (7, fnV 103), (8, fnV 104), (94, .slice (some ⟨nb3, 0, none⟩) (accL : List Bs).length (accL : List Bs).length), (95, .int .i64 (accL : List Bs).length), (96, .int .i64 (p.1.1 : Nat))]) (fun p => Hp (fun _ => False) w_0 [(b18, mapO (tabV (fmsK.take (71 + 2 * p.1.1)) p.1.2))] [] (fun u => TabX (fmsK.take (71 + 2 * p.1.1)) p.1.2 (fun k => w_0.heap.size ≤ k) u ∧ (Bl7 nb3 (strO accL) N3 u ∧ AsT u))) (fun p => 7 - p.1.1) ⟨(0, vs3), Nat.zero_le _, hl3⟩ ?_ ?_ (fun p => ?_)
        · exact .cons rfl <| .cons rfl <| .cons rfl <| .cons rfl <| .cons rfl <| .cons rfl <| .cons rfl <| .cons rfl <| .cons rfl <| .cons rfl <| .cons rfl <| .nil
        · exact fun w h => Hp.weakX h fun u ⟨a, b, c⟩ => ⟨b, a, c.2⟩
        obtain ⟨⟨k, vs⟩, hk, hvs⟩ := p
        dsimp only at hk hvs ⊢
        have hln : (accL : List Bs).length = 7 := rfl
        refine wc_seq ?_
        refine wc_region ?_
        refine wl_free .none rfl (yf_lss rfl rfl) ?_
        refine wl_nil ?_
        refine wq_then ?_
        refine wc_seq ?_
        refine wc_cond rfl (fun ht3 => ?_) (fun ht3 => ?_)
        · replace ht3 := of_decide_eq_true ht3
          skip
          have hk5 : k < 7 := by omega
          obtain ⟨x, hx⟩ : ∃ x, (accL : List Bs)[k]? = some x := ⟨_, List.getElem?_eq_getElem (by omega)⟩
          have hxl : x.length ≤ 10 := small_names _ (by simp) x (List.mem_of_getElem? hx)
          have hfm := fm_acc k hk5
          rw [getD_of hx] at hfm
          obtain ⟨hf0, hf1⟩ := hfm
          refine wc_skip ?_
          refine wq_then ?_
          refine wc_seq ?_
          refine wc_block ?_
          refine wc_seq ?_
          refine wc_region ?_
          refine wl_free .none rfl (yf_move rfl) ?_
          (refine wl_free .none rfl (yf_indexAddrS (es := 1) rfl rfl Tryz.underlying59 (by kernel_rfl) rfl ?_ rfl) ?_; (· first | decide | omega | (simp; done) | (simp; omega)); skip)
          refine wl_free .none rfl (yf_load rfl Tryz.underlying9 rfl (fun w hw => Blk.cell (HpG.x hw).2.1.2 (strO_at hx))) ?_
          refine wl_new .none rfl (nf_alloc (z := .int .i64 0) (cs := [.int .i64 0]) (by kernel_rfl) rfl) (fun b15 => ?_)
          refine wl_chain0 .none (cf_store 0 rfl rfl rfl rfl rfl (by kernel_rfl)) (fun _ => ?_)
          refine wl_free .none rfl (yf_assign rfl) ?_
          refine wl_nil ?_
          refine wq_then ?_
          refine wc_seq ?_
          refine wc_weak (.cons (i := 1) rfl <| .cons (i := 2) rfl <| .cons (i := 3) rfl <| .cons (i := 4) rfl <| .cons (i := 5) rfl <| .cons (i := 6) rfl <| .cons (i := 7) rfl <| .cons (i := 8) rfl <| .cons (i := 15) rfl <| .cons (i := 16) rfl <| .cons (i := 94) rfl <| .cons (i := 95) rfl <| .cons (i := 96) rfl <| .cons (i := 97) rfl <| .nil) ?_
          refine wc_region ?_
          refine wl_free .none rfl (yf_move rfl) ?_
          refine wl_free .none rfl (yf_move rfl) ?_
          (refine wl_free .none rfl (yf_str_add rfl rfl ?_) ?_; (· (first | omega | (simp only [List.length_append, List.length_cons, List.length_nil]; omega) | (simp <;> omega))); skip)
          refine wl_free .none rfl (yf_move rfl) ?_
          refine wl_free .none rfl (yf_loadL 0 rfl rfl rfl Tryz.underlying3 rfl) ?_
          refine wl_free .none rfl (yf_add rfl rfl (show IntKind.i64.wrap (88 + (k : Int)) = ((88 + k : Nat) : Int) from i64_in ((88 + k : Nat) : Int) (by omega) (by omega))) ?_
          refine wl_callVX (ι := Nat) (C := fun _ => True) (us := []) (cs := []) (vs := [.int .i64 ((88 + k : Nat) : Int)]) (val := fun b => pfV 98 b) (TT := fun b => Bl7 b (bxJ ((88 + k : Nat) : Int))) .none rfl  (f := 97) (by kernel_rfl) rfl rfl (fun _ h => h.elim) (fun _ => Bl7.lies) (fun w hw => always_mk ((88 + k : Nat) : Int) w) (fun x6 F6 _ hF6 => ?_)
          refine wl_free .none rfl (yf_move rfl) ?_
          refine wl_callX (ι := Nat × Nat) (C := fun _ => True) (val := fun i => .agg #[pfV 165 i.1, pf2V 167 i.1 i.2]) (TT := fun i F u => Bl7 i.1 (opO (pfV 98 x6)) F u ∧ Bl7 i.2 (flO (fnV (filFid .memory))) F u) .none rfl  (by kernel_rfl) rfl (fun _ h => h.elim) (fun _ => lies2 Bl7.lies Bl7.lies) (fun w hw => insK_mk 98 104 [.pointer (some ⟨x6, 0, none⟩)] [] w) (fun i6 G6 _ hG6 => ?_)
          refine wl_chain0 .none (cf_updS (key := (x ++ [46, 120, 32, 114, 109])) 1 rfl rfl rfl rfl Tryz.underlying83 Tryz.underlying9 (tb_new hf0 vs)) (fun _ => ?_)
          refine wl_conseq (H' := Hp (fun _ => False) w_0 [(b15, bxI k), (b18, mapO (tabV (fmsK.take (71 + 2 * k + 1)) (vs ++ [(pfV 165 i6.1, pf2V 167 i6.1 i6.2)])))] [] (fun u => TabX (fmsK.take (71 + 2 * k + 1)) (vs ++ [(pfV 165 i6.1, pf2V 167 i6.1 i6.2)]) (fun k => w_0.heap.size ≤ k) u ∧ (Bl7 nb3 (strO accL) N3 u ∧ AsT u))) (fun w h => by rw [tb_eq hf0 hvs]; exact tb_join hf0 rfl (by omega) hF6 hG6 h) ?_
          refine wl_nil ?_
          refine wq_then ?_
          refine wc_weak (.cons (i := 1) rfl <| .cons (i := 2) rfl <| .cons (i := 3) rfl <| .cons (i := 4) rfl <| .cons (i := 5) rfl <| .cons (i := 6) rfl <| .cons (i := 7) rfl <| .cons (i := 8) rfl <| .cons (i := 15) rfl <| .cons (i := 16) rfl <| .cons (i := 94) rfl <| .cons (i := 95) rfl <| .cons (i := 96) rfl <| .cons (i := 97) rfl <| .nil) ?_
          refine wc_region ?_
          refine wl_free .none rfl (yf_move rfl) ?_
          refine wl_free .none rfl (yf_move rfl) ?_
          (refine wl_free .none rfl (yf_str_add rfl rfl ?_) ?_; (· (first | omega | (simp only [List.length_append, List.length_cons, List.length_nil]; omega) | (simp <;> omega))); skip)
          refine wl_free .none rfl (yf_makeFunc rfl rfl) ?_
          refine wl_free .none rfl (yf_move rfl) ?_
          refine wl_callX (ι := Nat × Nat) (C := fun _ => True) (val := fun i => .agg #[pfV 165 i.1, pf2V 167 i.1 i.2]) (TT := fun i F u => Bl7 i.1 (opO (pfV 108 b15)) F u ∧ Bl7 i.2 (flO (fnV (filFid .memory))) F u) .none rfl  (by kernel_rfl) rfl (fun _ h => h.elim) (fun _ => lies2 Bl7.lies Bl7.lies) (fun w hw => insK_mk 108 104 [.pointer (some ⟨b15, 0, none⟩)] [] w) (fun i7 G7 _ hG7 => ?_)
          refine wl_chain0 .none (cf_updS (key := (x ++ [32, 114, 109])) 1 rfl rfl rfl rfl Tryz.underlying83 Tryz.underlying9 (tb_new hf1 (vs ++ [(pfV 165 i6.1, pf2V 167 i6.1 i6.2)]))) (fun _ => ?_)
          refine wl_fact (φ := w_0.heap.size ≤ b15) (fun w hw => HpG.mineL (j := 0) hw rfl id) (fun hmb15 => ?_)
          refine wl_conseq (H' := Hp (fun _ => False) w_0 [(b18, mapO (tabV (fmsK.take (71 + 2 * k + 1 + 1)) ((vs ++ [(pfV 165 i6.1, pf2V 167 i6.1 i6.2)]) ++ [(pfV 165 i7.1, pf2V 167 i7.1 i7.2)])))] [] (fun u => TabX (fmsK.take (71 + 2 * k + 1 + 1)) ((vs ++ [(pfV 165 i6.1, pf2V 167 i6.1 i6.2)]) ++ [(pfV 165 i7.1, pf2V 167 i7.1 i7.2)]) (fun k => w_0.heap.size ≤ k) u ∧ (Bl7 nb3 (strO accL) N3 u ∧ AsT u))) (fun w h => by
            rw [tb_eq hf1 (by simp only [List.length_append, List.length_cons, List.length_nil, hvs])]
            refine Hp.weakX (tb_joinS (sel := .access k) (v := pfV 108 b15) (Y := fun u => Blk b15 (bxI k) u ∧ ((Bl7 nb3 (strO accL) N3 u ∧ AsT u))) hf1 rfl (by show k < _; omega) hG7 (fun u hu => ⟨b15, rfl, hmb15, hu.1⟩) (Hp.weakX (Hp.toX h id) fun u ⟨a, b, c, d⟩ => ⟨b, c, a, d⟩)) fun u ⟨a, b, c⟩ => ⟨a, c⟩) ?_
          refine wl_nil ?_
          refine wq_block ?_
          refine wq_then ?_
          refine wc_weak (.cons (i := 1) rfl <| .cons (i := 2) rfl <| .cons (i := 3) rfl <| .cons (i := 4) rfl <| .cons (i := 5) rfl <| .cons (i := 6) rfl <| .cons (i := 7) rfl <| .cons (i := 8) rfl <| .cons (i := 15) rfl <| .cons (i := 16) rfl <| .cons (i := 94) rfl <| .cons (i := 95) rfl <| .cons (i := 96) rfl <| .cons (i := 97) rfl <| .nil) ?_
          refine wc_region ?_
          (refine wl_free .none rfl (yf_add rfl rfl (i64_in _ ?_ ?_)) ?_; (· omega); (· omega); skip)
          refine wl_free .none rfl (yf_move rfl) ?_
          refine wl_nil ?_
          refine wq_round (ι := {p : Nat × List (Value × Value) // p.1 ≤ 7 ∧ p.2.length = 71 + 2 * p.1}) ⟨(k + 1, ((vs ++ [(pfV 165 i6.1, pf2V 167 i6.1 i6.2)]) ++ [(pfV 165 i7.1, pf2V 167 i7.1 i7.2)])), by show k + 1 ≤ _; omega, by show (((vs ++ [(pfV 165 i6.1, pf2V 167 i6.1 i6.2)]) ++ [(pfV 165 i7.1, pf2V 167 i7.1 i7.2)])).length = _; simp only [List.length_append, List.length_cons, List.length_nil, hvs]; omega⟩ (by show 7 - (k + 1) < 7 - k; omega) (.cons rfl <| .cons rfl <| .cons rfl <| .cons rfl <| .cons rfl <| .cons rfl <| .cons rfl <| .cons rfl <| .cons rfl <| .cons rfl <| .cons rfl <| .nil) (fun w h => h)
        · replace ht3 := of_decide_eq_false ht3
          skip
          obtain rfl : k = 7 := by omega
          obtain ⟨vs4, rfl⟩ : ∃ y, y = vs := ⟨_, rfl⟩
          have hl4 := hvs
          refine wc_exit ?_
          refine wq_then_exit ?_
          refine wq_then_exit ?_
          refine wq_here ?_
          refine wq_then ?_
          refine wc_seq ?_
          refine wc_seq ?_
          refine wc_region ?_
          refine wl_free .none rfl (yf_move rfl) ?_
          refine wl_nil ?_
          refine wq_then ?_
          refine wc_block ?_
          refine wc_loop (ι := {p : Nat × List (Value × Value) // p.1 ≤ 14 ∧ p.2.length = 85 + p.1}) (fun p => [(1, .map (some b18)), (2, fnV 97), (3, fnV 99), (4, fnV 100), (5, fnV 101), (6, fnV 102), (7, fnV 103), (8, fnV 104), (117, .int .i64 (p.1.1 : Nat))]) (fun p => Hp (fun _ => False) w_0 [(b18, mapO (tabV (fmsK.take (85 + p.1.1)) p.1.2))] [] (fun u => TabX (fmsK.take (85 + p.1.1)) p.1.2 (fun k => w_0.heap.size ≤ k) u ∧ AsT u)) (fun p => 14 - p.1.1) ⟨(0, vs4), Nat.zero_le _, hl4⟩ ?_ ?_ (fun p => ?_)
          · exact .cons rfl <| .cons rfl <| .cons rfl <| .cons rfl <| .cons rfl <| .cons rfl <| .cons rfl <| .cons rfl <| .cons rfl <| .nil
          · exact fun w h => Hp.weakX h fun u ⟨a, b⟩ => ⟨a, b.2⟩
          obtain ⟨⟨k, vs⟩, hk, hvs⟩ := p
          dsimp only at hk hvs ⊢
          refine wc_seq ?_
          refine wc_region ?_
          refine wl_free .none rfl (yf_lss rfl rfl) ?_
          refine wl_nil ?_
          refine wq_then ?_
          refine wc_seq ?_
          refine wc_cond rfl (fun ht4 => ?_) (fun ht4 => ?_)
          · replace ht4 := of_decide_eq_true ht4
            skip
            have hk5 : k < 14 := by omega
            have hfm := fm_cond k hk5
            obtain ⟨x, hx⟩ : ∃ x, condL[k]? = some x := ⟨_, List.getElem?_eq_getElem (by have : condL.length = 14 := rfl; omega)⟩
            have hxl : x.length ≤ 10 := small_names _ (by simp) x (List.mem_of_getElem? hx)
            rw [getD_of hx] at hfm
            refine wc_skip ?_
            refine wq_then ?_
            refine wc_seq ?_
            refine wc_block ?_
            refine wc_seq ?_
            refine wc_region ?_
            refine wl_free .none rfl (yf_move rfl) ?_
            refine wl_free .none rfl (yf_assign rfl) ?_
            refine wl_nil ?_
            refine wq_then ?_
            refine wc_weak (.cons (i := 1) rfl <| .cons (i := 2) rfl <| .cons (i := 3) rfl <| .cons (i := 4) rfl <| .cons (i := 5) rfl <| .cons (i := 6) rfl <| .cons (i := 7) rfl <| .cons (i := 8) rfl <| .cons (i := 17) rfl <| .cons (i := 117) rfl <| .cons (i := 118) rfl <| .nil) ?_
            refine wc_region ?_
            refine wl_free .none rfl (yf_move rfl) ?_
            refine wl_free .none rfl (yf_move rfl) ?_
            refine wl_pure .none rfl  (v := .string ⟨x.toArray⟩) (by kernel_rfl) rfl (fun w hw => by have := cname_any k hk5 w; rw [getD_of hx] at this; exact this) ?_
            (refine wl_free .none rfl (yf_str_add rfl rfl ?_) ?_; (· (first | omega | (simp only [List.length_append, List.length_cons, List.length_nil]; omega) | (simp <;> omega))); skip)
            (refine wl_free .none rfl (yf_str_add rfl rfl ?_) ?_; (· (first | omega | (simp only [List.length_append, List.length_cons, List.length_nil]; omega) | (simp <;> omega))); skip)
            refine wl_free .none rfl (yf_move rfl) ?_
            refine wl_free .none rfl (yf_move rfl) ?_
            refine wl_free .none rfl (yf_add rfl rfl (show IntKind.i64.wrap (96 + (k : Int)) = ((96 + k : Nat) : Int) from i64_in ((96 + k : Nat) : Int) (by omega) (by omega))) ?_
            refine wl_callVX (ι := Nat) (C := fun _ => True) (us := []) (cs := []) (vs := [.int .i64 ((96 + k : Nat) : Int)]) (val := fun b => pfV 98 b) (TT := fun b => Bl7 b (bxJ ((96 + k : Nat) : Int))) .none rfl  (f := 97) (by kernel_rfl) rfl rfl (fun _ h => h.elim) (fun _ => Bl7.lies) (fun w hw => always_mk ((96 + k : Nat) : Int) w) (fun x8 F8 _ hF8 => ?_)
            refine wl_free .none rfl (yf_move rfl) ?_
            refine wl_callX (ι := Nat × Nat) (C := fun _ => True) (val := fun i => .agg #[pfV 165 i.1, pf2V 167 i.1 i.2]) (TT := fun i F u => Bl7 i.1 (opO (pfV 98 x8)) F u ∧ Bl7 i.2 (flO (fnV (filFid .target))) F u) .none rfl  (by kernel_rfl) rfl (fun _ h => h.elim) (fun _ => lies2 Bl7.lies Bl7.lies) (fun w hw => insK_mk 98 103 [.pointer (some ⟨x8, 0, none⟩)] [] w) (fun i8 G8 _ hG8 => ?_)
            refine wl_chain0 .none (cf_updS (key := ([106] ++ x ++ [32, 118])) 0 rfl rfl rfl rfl Tryz.underlying83 Tryz.underlying9 (tb_new hfm vs)) (fun _ => ?_)
            refine wl_conseq (H' := Hp (fun _ => False) w_0 [(b18, mapO (tabV (fmsK.take (85 + k + 1)) (vs ++ [(pfV 165 i8.1, pf2V 167 i8.1 i8.2)])))] [] (fun u => TabX (fmsK.take (85 + k + 1)) (vs ++ [(pfV 165 i8.1, pf2V 167 i8.1 i8.2)]) (fun k => w_0.heap.size ≤ k) u ∧ AsT u)) (fun w h => by rw [tb_eq hfm hvs]; exact tb_join hfm rfl (by omega) hF8 hG8 h) ?_
            refine wl_nil ?_
            refine wq_block ?_
            refine wq_then ?_
            refine wc_weak (.cons (i := 1) rfl <| .cons (i := 2) rfl <| .cons (i := 3) rfl <| .cons (i := 4) rfl <| .cons (i := 5) rfl <| .cons (i := 6) rfl <| .cons (i := 7) rfl <| .cons (i := 8) rfl <| .cons (i := 17) rfl <| .cons (i := 117) rfl <| .cons (i := 118) rfl <| .nil) ?_
            refine wc_region ?_
            (refine wl_free .none rfl (yf_add rfl rfl (i64_in _ ?_ ?_)) ?_; (· omega); (· omega); skip)
            refine wl_free .none rfl (yf_move rfl) ?_
            refine wl_nil ?_
            refine wq_round (ι := {p : Nat × List (Value × Value) // p.1 ≤ 14 ∧ p.2.length = 85 + p.1}) ⟨(k + 1, (vs ++ [(pfV 165 i8.1, pf2V 167 i8.1 i8.2)])), by show k + 1 ≤ _; omega, by show ((vs ++ [(pfV 165 i8.1, pf2V 167 i8.1 i8.2)])).length = _; simp only [List.length_append, List.length_cons, List.length_nil, hvs]; omega⟩ (by show 14 - (k + 1) < 14 - k; omega) (.cons rfl <| .cons rfl <| .cons rfl <| .cons rfl <| .cons rfl <| .cons rfl <| .cons rfl <| .cons rfl <| .cons rfl <| .nil) (fun w h => h)
          · replace ht4 := of_decide_eq_false ht4
            skip
            obtain rfl : k = 14 := by omega
            refine wc_exit ?_
            refine wq_then_exit ?_
            refine wq_then_exit ?_
            refine wq_here ?_
            refine wq_then ?_
            refine wc_seq ?_
            refine wc_region ?_
            refine wl_free .none rfl (yf_move rfl) ?_
            refine wl_free .none rfl (yf_move rfl) ?_
            refine wl_callVX (ι := Nat) (C := fun _ => True) (us := []) (cs := []) (vs := [.int .i64 (112 : Int)]) (val := fun b => pfV 98 b) (TT := fun b => Bl7 b (bxJ (112 : Int))) .none rfl  (f := 97) (by kernel_rfl) rfl rfl (fun _ h => h.elim) (fun _ => Bl7.lies) (fun w hw => always_mk (112 : Int) w) (fun x9 F9 _ hF9 => ?_)
            refine wl_free .none rfl (yf_move rfl) ?_
            refine wl_callX (ι := Nat × Nat) (C := fun _ => True) (val := fun i => .agg #[pfV 165 i.1, pf2V 167 i.1 i.2]) (TT := fun i F u => Bl7 i.1 (opO (pfV 98 x9)) F u ∧ Bl7 i.2 (flO (fnV (filFid .target))) F u) .none rfl  (by kernel_rfl) rfl (fun _ h => h.elim) (fun _ => lies2 Bl7.lies Bl7.lies) (fun w hw => insK_mk 98 103 [.pointer (some ⟨x9, 0, none⟩)] [] w) (fun i9 G9 _ hG9 => ?_)
            refine wl_chain0 .none (cf_updS (key := [106, 109, 112, 32, 118]) 0 rfl rfl rfl rfl Tryz.underlying83 Tryz.underlying9 (tb_new (show fmsK[99]? = some ([106, 109, 112, 32, 118], .k (.always 112) .target) by kernel_rfl) vs)) (fun _ => ?_)
            refine wl_conseq (H' := Hp (fun _ => False) w_0 [(b18, mapO (tabV (fmsK.take (99 + 1)) (vs ++ [(pfV 165 i9.1, pf2V 167 i9.1 i9.2)])))] [] (fun u => TabX (fmsK.take (99 + 1)) (vs ++ [(pfV 165 i9.1, pf2V 167 i9.1 i9.2)]) (fun k => w_0.heap.size ≤ k) u ∧ AsT u)) (fun w h => by rw [tb_eq (show fmsK[99]? = some ([106, 109, 112, 32, 118], .k (.always 112) .target) by kernel_rfl) hvs]; exact tb_join (show fmsK[99]? = some ([106, 109, 112, 32, 118], .k (.always 112) .target) by kernel_rfl) rfl (by omega) hF9 hG9 h) ?_
            refine wl_nil ?_
            refine wq_then ?_
            refine wc_seq ?_
            refine wc_weak (.cons (i := 1) rfl <| .cons (i := 2) rfl <| .cons (i := 3) rfl <| .cons (i := 4) rfl <| .cons (i := 5) rfl <| .cons (i := 6) rfl <| .cons (i := 7) rfl <| .cons (i := 8) rfl <| .cons (i := 117) rfl <| .cons (i := 118) rfl <| .nil) ?_
            refine wc_region ?_
            refine wl_free .none rfl (yf_move rfl) ?_
            refine wl_free .none rfl (yf_move rfl) ?_
            refine wl_callVX (ι := Nat) (C := fun _ => True) (us := []) (cs := []) (vs := [.int .i64 (113 : Int)]) (val := fun b => pfV 98 b) (TT := fun b => Bl7 b (bxJ (113 : Int))) .none rfl  (f := 97) (by kernel_rfl) rfl rfl (fun _ h => h.elim) (fun _ => Bl7.lies) (fun w hw => always_mk (113 : Int) w) (fun x10 F10 _ hF10 => ?_)
            refine wl_free .none rfl (yf_move rfl) ?_
            refine wl_callX (ι := Nat × Nat) (C := fun _ => True) (val := fun i => .agg #[pfV 165 i.1, pf2V 167 i.1 i.2]) (TT := fun i F u => Bl7 i.1 (opO (pfV 98 x10)) F u ∧ Bl7 i.2 (flO (fnV (filFid .target))) F u) .none rfl  (by kernel_rfl) rfl (fun _ h => h.elim) (fun _ => lies2 Bl7.lies Bl7.lies) (fun w hw => insK_mk 98 103 [.pointer (some ⟨x10, 0, none⟩)] [] w) (fun i10 G10 _ hG10 => ?_)
            refine wl_chain0 .none (cf_updS (key := [99, 97, 108, 108, 32, 118]) 0 rfl rfl rfl rfl Tryz.underlying83 Tryz.underlying9 (tb_new (show fmsK[100]? = some ([99, 97, 108, 108, 32, 118], .k (.always 113) .target) by kernel_rfl) (vs ++ [(pfV 165 i9.1, pf2V 167 i9.1 i9.2)]))) (fun _ => ?_)
            refine wl_conseq (H' := Hp (fun _ => False) w_0 [(b18, mapO (tabV (fmsK.take (100 + 1)) ((vs ++ [(pfV 165 i9.1, pf2V 167 i9.1 i9.2)]) ++ [(pfV 165 i10.1, pf2V 167 i10.1 i10.2)])))] [] (fun u => TabX (fmsK.take (100 + 1)) ((vs ++ [(pfV 165 i9.1, pf2V 167 i9.1 i9.2)]) ++ [(pfV 165 i10.1, pf2V 167 i10.1 i10.2)]) (fun k => w_0.heap.size ≤ k) u ∧ AsT u)) (fun w h => by rw [tb_eq (show fmsK[100]? = some ([99, 97, 108, 108, 32, 118], .k (.always 113) .target) by kernel_rfl) (by simp only [List.length_append, List.length_cons, List.length_nil, hvs])]; exact tb_join (show fmsK[100]? = some ([99, 97, 108, 108, 32, 118], .k (.always 113) .target) by kernel_rfl) rfl (by omega) hF10 hG10 h) ?_
            refine wl_nil ?_
            refine wq_then ?_
            refine wc_seq ?_
            refine wc_weak (.cons (i := 1) rfl <| .cons (i := 2) rfl <| .cons (i := 3) rfl <| .cons (i := 4) rfl <| .cons (i := 5) rfl <| .cons (i := 6) rfl <| .cons (i := 7) rfl <| .cons (i := 8) rfl <| .cons (i := 117) rfl <| .cons (i := 118) rfl <| .nil) ?_
            refine wc_region ?_
            refine wl_free .none rfl (yf_move rfl) ?_
            refine wl_free .none rfl (yf_move rfl) ?_
            refine wl_callVX (ι := Nat) (C := fun _ => True) (us := []) (cs := []) (vs := [.int .i64 (128 : Int)]) (val := fun b => pfV 98 b) (TT := fun b => Bl7 b (bxJ (128 : Int))) .none rfl  (f := 97) (by kernel_rfl) rfl rfl (fun _ h => h.elim) (fun _ => Bl7.lies) (fun w hw => always_mk (128 : Int) w) (fun x11 F11 _ hF11 => ?_)
            refine wl_free .none rfl (yf_move rfl) ?_
            refine wl_callX (ι := Nat × Nat) (C := fun _ => True) (val := fun i => .agg #[pfV 165 i.1, pf2V 167 i.1 i.2]) (TT := fun i F u => Bl7 i.1 (opO (pfV 98 x11)) F u ∧ Bl7 i.2 (flO (fnV (filFid .value))) F u) .none rfl  (by kernel_rfl) rfl (fun _ h => h.elim) (fun _ => lies2 Bl7.lies Bl7.lies) (fun w hw => insK_mk 98 101 [.pointer (some ⟨x11, 0, none⟩)] [] w) (fun i11 G11 _ hG11 => ?_)
            refine wl_chain0 .none (cf_updS (key := [115, 121, 115, 32, 118]) 0 rfl rfl rfl rfl Tryz.underlying83 Tryz.underlying9 (tb_new (show fmsK[101]? = some ([115, 121, 115, 32, 118], .k (.always 128) .value) by kernel_rfl) ((vs ++ [(pfV 165 i9.1, pf2V 167 i9.1 i9.2)]) ++ [(pfV 165 i10.1, pf2V 167 i10.1 i10.2)]))) (fun _ => ?_)
            refine wl_conseq (H' := Hp (fun _ => False) w_0 [(b18, mapO (tabV (fmsK.take (101 + 1)) (((vs ++ [(pfV 165 i9.1, pf2V 167 i9.1 i9.2)]) ++ [(pfV 165 i10.1, pf2V 167 i10.1 i10.2)]) ++ [(pfV 165 i11.1, pf2V 167 i11.1 i11.2)])))] [] (fun u => TabX (fmsK.take (101 + 1)) (((vs ++ [(pfV 165 i9.1, pf2V 167 i9.1 i9.2)]) ++ [(pfV 165 i10.1, pf2V 167 i10.1 i10.2)]) ++ [(pfV 165 i11.1, pf2V 167 i11.1 i11.2)]) (fun k => w_0.heap.size ≤ k) u ∧ AsT u)) (fun w h => by rw [tb_eq (show fmsK[101]? = some ([115, 121, 115, 32, 118], .k (.always 128) .value) by kernel_rfl) (by simp only [List.length_append, List.length_cons, List.length_nil, hvs])]; exact tb_join (show fmsK[101]? = some ([115, 121, 115, 32, 118], .k (.always 128) .value) by kernel_rfl) rfl (by omega) hF11 hG11 h) ?_
            refine wl_nil ?_
            refine wq_then ?_
            refine wc_seq ?_
            refine wc_weak (.cons (i := 1) rfl <| .cons (i := 2) rfl <| .cons (i := 3) rfl <| .cons (i := 4) rfl <| .cons (i := 5) rfl <| .cons (i := 6) rfl <| .cons (i := 7) rfl <| .cons (i := 8) rfl <| .cons (i := 117) rfl <| .cons (i := 118) rfl <| .nil) ?_
            refine wc_region ?_
            refine wl_free .none rfl (yf_move rfl) ?_
            refine wl_free .none rfl (yf_move rfl) ?_
            refine wl_callVX (ι := Nat) (C := fun _ => True) (us := []) (cs := []) (vs := [.int .i64 (129 : Int)]) (val := fun b => pfV 98 b) (TT := fun b => Bl7 b (bxJ (129 : Int))) .none rfl  (f := 97) (by kernel_rfl) rfl rfl (fun _ h => h.elim) (fun _ => Bl7.lies) (fun w hw => always_mk (129 : Int) w) (fun x12 F12 _ hF12 => ?_)
            refine wl_free .none rfl (yf_move rfl) ?_
            refine wl_callX (ι := Nat × Nat) (C := fun _ => True) (val := fun i => .agg #[pfV 165 i.1, pf2V 167 i.1 i.2]) (TT := fun i F u => Bl7 i.1 (opO (pfV 98 x12)) F u ∧ Bl7 i.2 (flO (fnV (filFid .control))) F u) .none rfl  (by kernel_rfl) rfl (fun _ h => h.elim) (fun _ => lies2 Bl7.lies Bl7.lies) (fun w hw => insK_mk 98 102 [.pointer (some ⟨x12, 0, none⟩)] [] w) (fun i12 G12 _ hG12 => ?_)
            refine wl_chain0 .none (cf_updS (key := [103, 101, 116, 99, 32, 114, 118]) 0 rfl rfl rfl rfl Tryz.underlying83 Tryz.underlying9 (tb_new (show fmsK[102]? = some ([103, 101, 116, 99, 32, 114, 118], .k (.always 129) .control) by kernel_rfl) (((vs ++ [(pfV 165 i9.1, pf2V 167 i9.1 i9.2)]) ++ [(pfV 165 i10.1, pf2V 167 i10.1 i10.2)]) ++ [(pfV 165 i11.1, pf2V 167 i11.1 i11.2)]))) (fun _ => ?_)
            refine wl_conseq (H' := Hp (fun _ => False) w_0 [(b18, mapO (tabV (fmsK.take (102 + 1)) ((((vs ++ [(pfV 165 i9.1, pf2V 167 i9.1 i9.2)]) ++ [(pfV 165 i10.1, pf2V 167 i10.1 i10.2)]) ++ [(pfV 165 i11.1, pf2V 167 i11.1 i11.2)]) ++ [(pfV 165 i12.1, pf2V 167 i12.1 i12.2)])))] [] (fun u => TabX (fmsK.take (102 + 1)) ((((vs ++ [(pfV 165 i9.1, pf2V 167 i9.1 i9.2)]) ++ [(pfV 165 i10.1, pf2V 167 i10.1 i10.2)]) ++ [(pfV 165 i11.1, pf2V 167 i11.1 i11.2)]) ++ [(pfV 165 i12.1, pf2V 167 i12.1 i12.2)]) (fun k => w_0.heap.size ≤ k) u ∧ AsT u)) (fun w h => by rw [tb_eq (show fmsK[102]? = some ([103, 101, 116, 99, 32, 114, 118], .k (.always 129) .control) by kernel_rfl) (by simp only [List.length_append, List.length_cons, List.length_nil, hvs])]; exact tb_join (show fmsK[102]? = some ([103, 101, 116, 99, 32, 114, 118], .k (.always 129) .control) by kernel_rfl) rfl (by omega) hF12 hG12 h) ?_
            refine wl_nil ?_
            refine wq_then ?_
            refine wc_seq ?_
            refine wc_weak (.cons (i := 1) rfl <| .cons (i := 2) rfl <| .cons (i := 3) rfl <| .cons (i := 4) rfl <| .cons (i := 5) rfl <| .cons (i := 6) rfl <| .cons (i := 7) rfl <| .cons (i := 8) rfl <| .cons (i := 117) rfl <| .cons (i := 118) rfl <| .nil) ?_
            refine wc_region ?_
            refine wl_free .none rfl (yf_move rfl) ?_
            refine wl_free .none rfl (yf_move rfl) ?_
            refine wl_callVX (ι := Nat) (C := fun _ => True) (us := []) (cs := []) (vs := [.int .i64 (130 : Int)]) (val := fun b => pfV 98 b) (TT := fun b => Bl7 b (bxJ (130 : Int))) .none rfl  (f := 97) (by kernel_rfl) rfl rfl (fun _ h => h.elim) (fun _ => Bl7.lies) (fun w hw => always_mk (130 : Int) w) (fun x13 F13 _ hF13 => ?_)
            refine wl_free .none rfl (yf_move rfl) ?_
            refine wl_callX (ι := Nat × Nat) (C := fun _ => True) (val := fun i => .agg #[pfV 165 i.1, pf2V 167 i.1 i.2]) (TT := fun i F u => Bl7 i.1 (opO (pfV 98 x13)) F u ∧ Bl7 i.2 (flO (fnV (filFid .control))) F u) .none rfl  (by kernel_rfl) rfl (fun _ h => h.elim) (fun _ => lies2 Bl7.lies Bl7.lies) (fun w hw => insK_mk 98 102 [.pointer (some ⟨x13, 0, none⟩)] [] w) (fun i13 G13 _ hG13 => ?_)
            refine wl_chain0 .none (cf_updS (key := [115, 101, 116, 99, 32, 114, 118]) 0 rfl rfl rfl rfl Tryz.underlying83 Tryz.underlying9 (tb_new (show fmsK[103]? = some ([115, 101, 116, 99, 32, 114, 118], .k (.always 130) .control) by kernel_rfl) ((((vs ++ [(pfV 165 i9.1, pf2V 167 i9.1 i9.2)]) ++ [(pfV 165 i10.1, pf2V 167 i10.1 i10.2)]) ++ [(pfV 165 i11.1, pf2V 167 i11.1 i11.2)]) ++ [(pfV 165 i12.1, pf2V 167 i12.1 i12.2)]))) (fun _ => ?_)
            refine wl_conseq (H' := Hp (fun _ => False) w_0 [(b18, mapO (tabV (fmsK.take (103 + 1)) (((((vs ++ [(pfV 165 i9.1, pf2V 167 i9.1 i9.2)]) ++ [(pfV 165 i10.1, pf2V 167 i10.1 i10.2)]) ++ [(pfV 165 i11.1, pf2V 167 i11.1 i11.2)]) ++ [(pfV 165 i12.1, pf2V 167 i12.1 i12.2)]) ++ [(pfV 165 i13.1, pf2V 167 i13.1 i13.2)])))] [] (fun u => TabX (fmsK.take (103 + 1)) (((((vs ++ [(pfV 165 i9.1, pf2V 167 i9.1 i9.2)]) ++ [(pfV 165 i10.1, pf2V 167 i10.1 i10.2)]) ++ [(pfV 165 i11.1, pf2V 167 i11.1 i11.2)]) ++ [(pfV 165 i12.1, pf2V 167 i12.1 i12.2)]) ++ [(pfV 165 i13.1, pf2V 167 i13.1 i13.2)]) (fun k => w_0.heap.size ≤ k) u ∧ AsT u)) (fun w h => by rw [tb_eq (show fmsK[103]? = some ([115, 101, 116, 99, 32, 114, 118], .k (.always 130) .control) by kernel_rfl) (by simp only [List.length_append, List.length_cons, List.length_nil, hvs])]; exact tb_join (show fmsK[103]? = some ([115, 101, 116, 99, 32, 114, 118], .k (.always 130) .control) by kernel_rfl) rfl (by omega) hF13 hG13 h) ?_
            refine wl_nil ?_
            refine wq_then ?_
            refine wc_seq ?_
            refine wc_weak (.cons (i := 1) rfl <| .cons (i := 2) rfl <| .cons (i := 3) rfl <| .cons (i := 4) rfl <| .cons (i := 5) rfl <| .cons (i := 6) rfl <| .cons (i := 7) rfl <| .cons (i := 8) rfl <| .cons (i := 117) rfl <| .cons (i := 118) rfl <| .nil) ?_
            refine wc_region ?_
            refine wl_free .none rfl (yf_move rfl) ?_
            refine wl_free .none rfl (yf_assign rfl) ?_
            refine wl_nil ?_
            refine wq_then ?_
            refine wc_ret ?_
            refine wq_ret1 rfl rfl (fun w hw => ?_)
            exact ⟨b18, (((((vs ++ [(pfV 165 i9.1, pf2V 167 i9.1 i9.2)]) ++ [(pfV 165 i10.1, pf2V 167 i10.1 i10.2)]) ++ [(pfV 165 i11.1, pf2V 167 i11.1 i11.2)]) ++ [(pfV 165 i12.1, pf2V 167 i12.1 i12.2)]) ++ [(pfV 165 i13.1, pf2V 167 i13.1 i13.2)]), rfl, (HpG.keep hw).ext, ⟨HpG.mineL (j := 0) hw rfl id, (Array.getElem?_eq_some_iff.1 (HpG.blkL (j := 0) hw rfl)).1, HpG.blkL (j := 0) hw rfl⟩, (HpG.x hw).1⟩
end Go.Proofs.YtkaepknpplhgkaaGreatDoor
/- Ranges over maps; names of Q. -/
namespace Go.Proofs.YtkaepknpplhgkaaGreatDoor
open Go.RowKit
section
variable {P : Program} {ops : Array Oper} {Q : Exit → Act → World → Prop} {n : Fr} {m : List (Nat × Value)} {ty : TypeId} {G B : Nat → Prop} {w0 : World} {L : List (Nat × Obj)} {R : List Rw} {X : World → Prop} {rest : List Oper} {d : Nat} {pos : String} {af : Array Edge} {gd : Option (Nat × Bool)}
theorem cf_updK {ik : IntKind} {x y z : Operand} {T K E : TypeId} {g c : Nat} {es : Array MapEntry} {key : Int} {v : Value} (k : Nat) (hx : ev m x = some (.map (some g))) (hy : ev m y = some (.int ik key)) (hz : ev m z = some v) (hk : L[k]? = some (g, .map es c)) (hT : P.underlying T = some (.map K E)) (hK : P.underlying K = some (.int ik)) (hf : Instr.findNow (.int ik) (.int ik key) es.toList 0 = some none) :
    CF P (.mapUpdate T x y z) ty n m (HpG G B w0 L R X) (fun _ : Unit => undef) (fun _ => HpG G B w0 (L.set k (g, .map (es.push { key := .int ik key, val := v, born := c }) (c + 1))) R X) := fun a w d pos af gd hs hw => by
  have hr := hw.own _ (List.mem_of_getElem? hk)
  dsimp only at hr
  have hc : (Instr.checkKey false 10000 K (.int ik key)).run P w = .ok () w := MapKept.run_checkKey (k := .int ik key) hK (by simp [MapKept.IsKey]) false 9999
  have hrun : (Instr.mapUpdate T (.map (some g)) (.int ik key) v).run P w = .ok () { w with heap := w.heap.setIfInBounds g (.map (es.push { key := .int ik key, val := v, born := c }) (c + 1)) } := by
    simp [Instr.mapUpdate, run_underlying hT, MapKept.run_getObj_map hr, hc, MapKept.run_findKey hK hf, MapKept.run_setObj_map _ hr, Result.andThen]
  have h2 := MapKept.heap_set (o' := .map (es.push { key := .int ik key, val := v, born := c }) (c + 1)) hr
  have hex : (execOp a.eval ⟨d, .mapUpdate T x y z, ty, pos, af, gd⟩).run P w = .ok .skip { w with heap := w.heap.setIfInBounds g (.map (es.push { key := .int ik key, val := v, born := c }) (c + 1)) } := by
    simp [execOp, hs.ev hx, hs.ev hy, hs.ev hz, hrun, Result.andThen]
  show Ch _ _ _ _ _
  unfold Ch
  rw [hex]
  exact ⟨(), rfl, hw.turn hk ⟨rfl, rfl, rfl, by simp, fun j _ hne => h2.2 j hne⟩ h2.1⟩
/-- A range over a map begins. -/
theorem wl_rangeM {x : Operand} {t K E : TypeId} {bm c : Nat} {es : Array MapEntry} (hg : Gd ops m gd) (hd : Nat.blt d n = true) (hx : ev m x = some (.map (some bm))) (ht : P.underlying t = some (.map K E)) (hr : ∀ w, Hp B w0 L R X w → w.heap[bm]? = some (.map es c))
    (h : ∀ b, WL P ops Q rest n ((d, .pointer (some ⟨b, 0, none⟩)) :: m) (Hp B w0 ((b, .mapIter (some bm) c #[] c) :: L) R X)) : WL P ops Q (⟨some d, .range t x, ty, pos, af, gd⟩ :: rest) n m (Hp B w0 L R X) := fun a w hs hw =>
  wl_of_ch (R := fun v w' => v = .pointer (some ⟨w.heap.size, 0, none⟩) ∧ w' = w.alloc (.mapIter (some bm) c #[] c)) (hg.wanted hs) (by
    have := run_range_map (P := P) w t K E bm es c ht (hr w hw)
    unfold Ch
    simp [execOp, hs.ev hx, this]) fun v w' ⟨e1, e2⟩ => by
    subst e1; subst e2
    exact h w.heap.size _ _ (hs.put hd) (Hp.new hw _)
/-- The next entry, whichever. -/
theorem cf_next {x : Operand} {r bm since c0 clock : Nat} {seen : Array Nat} {es : Array MapEntry} (k : Nat) (hx : ev m x = some (.pointer (some ⟨r, 0, none⟩))) (hk : L[k]? = some (r, .mapIter (some bm) since seen c0)) (hr : ∀ w, HpG G B w0 L R X w → w.heap[bm]? = some (.map es clock)) (hold : ∀ x ∈ es.toList, x.born < since) (hsc : since ≤ c0) :
    CF P (.next x false) ty n m (HpG G B w0 L R X) (fun o : {o : Option MapEntry // match o with | none => (leftOf es seen).size = 0 | some e => e ∈ (leftOf es seen).toList} => .tuple (match o.1 with | none => #[.bool false] | some e => #[.bool true, e.key, e.val])) (fun o => HpG G B w0 (L.set k (r, match o.1 with | none => .mapIter (some bm) since seen c0 | some e => .mapIter (some bm) since (seen.push e.born) clock)) R X) := fun a w d pos af gd hs hw => by
  have h1 := hw.own _ (List.mem_of_getElem? hk)
  dsimp only at h1
  show Ch _ _ _ _ _
  unfold Ch
  rcases run_next_at (P := P) w ty r bm since c0 seen es clock h1 (hr w hw) hold hsc with ⟨e1, e2⟩ | ⟨e, he, w1, hw1, e2⟩
  · have hex : (execOp a.eval ⟨d, .next x false, ty, pos, af, gd⟩).run P w = .ok (.value (.tuple #[.bool false])) w := by simp [execOp, hs.ev hx, e2]
    rw [hex]
    refine ⟨⟨none, e1⟩, rfl, ?_⟩
    have : L.set k (r, .mapIter (some bm) since seen c0) = L := by
      apply List.ext_getElem?
      intro i
      rw [List.getElem?_set]
      split
      · next hi => subst hi; rw [hk]; split
                   · rfl
                   · next hn => rw [List.getElem?_eq_none (by omega)] at hk; cases hk
      · rfl
    show HpG G B w0 (L.set k (r, .mapIter (some bm) since seen c0)) R X w
    rw [this]; exact hw
  · have hex : (execOp a.eval ⟨d, .next x false, ty, pos, af, gd⟩).run P w = .ok (.value (.tuple #[.bool true, e.key, e.val])) (ChangeMaps.setBlock w1 r (.mapIter (some bm) since (seen.push e.born) clock)) := by simp [execOp, hs.ev hx, e2]
    rw [hex]
    have hw2 : HpG G B w0 L R X w1 := by rcases hw1 with rfl | rfl; exact hw; exact hw.drew
    have h3 := hw2.own _ (List.mem_of_getElem? hk)
    dsimp only at h3
    have h4 := MapKept.heap_set (o' := .mapIter (some bm) since (seen.push e.born) clock) h3
    exact ⟨⟨some e, he⟩, rfl, hw2.turn hk ⟨rfl, rfl, rfl, by simp [ChangeMaps.setBlock], fun j _ hne => h4.2 j hne⟩ h4.1⟩
theorem yf_entry {H : World → Prop} {x : Operand} {r bm since clock : Nat} {seen : Array Nat} {es : Array MapEntry} {e : MapEntry} (hx : ev m x = some (.pointer (some ⟨r, 0, none⟩))) (h1 : ∀ w, H w → w.heap[r]? = some (.mapIter (some bm) since (seen.push e.born) clock)) (h2 : ∀ w, H w → w.heap[bm]? = some (.map es clock)) (he : e ∈ es.toList) (hn : (es.toList.map (·.born)).Nodup) :
    YF P (.entry x) ty n m H (.tuple #[e.key, e.val]) := fun a w d pos af gd hs hw => by
  have := run_entry_at (P := P) w r bm since seen es clock e (h1 w hw) (h2 w hw) he hn
  simp [Yl, execOp, hs.ev hx, this]
end
end Go.Proofs.YtkaepknpplhgkaaGreatDoor
/- The names of Q. -/
namespace Go.Proofs.YtkaepknpplhgkaaGreatDoor
open Go.RowKit
def mapNE (l : List (Nat × Bs)) : List MapEntry := l.zipIdx.map fun p => { key := .int .i64 p.1.1, val := .string ⟨p.1.2.toArray⟩, born := p.2 }
abbrev mapN (l : List (Nat × Bs)) : Obj := .map (mapNE l).toArray l.length
theorem mapNE_push (l : List (Nat × Bs)) (k : Nat) (x : Bs) : (mapNE l).toArray.push { key := .int .i64 k, val := .string ⟨x.toArray⟩, born := l.length } = (mapNE (l ++ [(k, x)])).toArray := by
  simp [mapNE, List.zipIdx_append]
theorem findN (key : Nat) : ∀ (l : List (Nat × Bs)) (i j : Nat), (∀ p ∈ l, p.1 ≠ key) → Instr.findNow (.int .i64) (.int .i64 (key : Int)) ((l.zipIdx i).map fun p => { key := .int .i64 p.1.1, val := .string ⟨p.1.2.toArray⟩, born := p.2 }) j = some none
  | [], _, _, _ => rfl
  | (k, x) :: l, i, j, h => by
    have h1 : k ≠ key := h _ (List.mem_cons_self ..)
    simp only [List.zipIdx_cons, List.map_cons, Instr.findNow, same_int]
    rw [decide_eq_false (by omega)]
    exact findN key l (i + 1) (j + 1) fun p hp => h p (List.mem_cons_of_mem _ hp)
def numL : Nat → List Bs → List (Nat × Bs)
  | _, [] => []
  | n, x :: l => (n, x) :: numL (n + 1) l
theorem numL_app (a b : List Bs) : ∀ n, numL n (a ++ b) = numL n a ++ numL (n + a.length) b := by
  induction a with
  | nil => intro n; rfl
  | cons x a ih =>
    intro n
    show (n, x) :: numL (n + 1) (a ++ b) = (n, x) :: (numL (n + 1) a ++ numL (n + (x :: a).length) b)
    rw [ih, show n + 1 + a.length = n + (x :: a).length by simp; omega]
theorem numL_mem {n : Nat} {l : List Bs} {p : Nat × Bs} (h : p ∈ numL n l) : n ≤ p.1 ∧ p.1 < n + l.length := by
  induction l generalizing n with
  | nil => cases h
  | cons x l ih =>
    rcases List.mem_cons.1 h with rfl | h
    · simp
    · have := ih h; simp; omega
set_option maxRecDepth 100000 in
theorem namesQ1_any (first : Nat) (s : Bs) (l : List Bs) (hf : Lib.fields s = l) (hs : s.length ≤ 10000) (ha : s.all (fun c => decide (c.toNat < 128)) = true) (hl : l.length ≤ 1000) (hfi : first ≤ 1000) (tab : List (Nat × Bs)) (hnew : ∀ p ∈ tab, p.1 < first ∨ first + l.length ≤ p.1) (b1 bm : Nat) (w_0 : World) (h1 : Blk b1 (bk 153 [.map (some bm)]) w_0) (hm : w_0.heap[bm]? = some (mapN tab)) (ht : AsT w_0) :
    Calls Tryz.prog 159 #[.int .i64 first, .string ⟨s.toArray⟩, .pointer (some ⟨b1, 0, none⟩)] w_0 fun e w' => e = .returned (.tuple #[]) ∧ Keep (fun j => j = bm) w_0 w' ∧ w'.heap[bm]? = some (mapN (tab ++ numL first l)) := by
  have hne : b1 ≠ bm := fun e => by subst e; rw [h1] at hm; cases hm
  have hne2 : asG ≠ bm := fun e => by
    have h2 := ht
    unfold AsT Lib.TabIs World.var? at h2
    rw [asG_is, e] at h2
    simp only [Option.bind_some, hm] at h2
    cases h2
  refine calls_wc (args := [.int .i64 first, .string ⟨s.toArray⟩, .pointer (some ⟨b1, 0, none⟩)]) Tryz.func159 rfl 21 rfl (Nat.le_of_ble_eq_true rfl) ?_
  refine wc_weak (.cons (i := 0) rfl <| .cons (i := 1) rfl <| .cons (i := 2) rfl <| .nil) ?_
  refine wc_conseq (H' := Hp (fun j => j = bm) w_0 [(bm, mapN tab)] [] (fun u => Blk b1 (bk 153 [.map (some bm)]) u ∧ AsT u)) (fun u hu => ?_) ?_
  · subst hu; exact Hp.startB hm ⟨fun k => k = b1 ∨ k = asG, fun k hk => (by rcases hk with rfl | rfl; exact ⟨h1.lt, hne⟩; exact ⟨ht.lt, hne2⟩), fun u' hu' => ⟨(hu' _ (.inl rfl)).trans h1, ht.foot (hu' _ (.inr rfl))⟩⟩
  refine wc_seq ?_
  refine wc_region ?_
  refine wl_free .none rfl (yf_move rfl) ?_
  refine wl_callX (ι := Nat) (C := fun _ => True) (val := fun b => .slice (some ⟨b, 0, none⟩) l.length l.length) (TT := fun b => Bl7 b (strO l)) .none rfl  goesF rfl (fun k hk => by subst hk; exact (Array.getElem?_eq_some_iff.1 hm).1) (fun _ => Bl7.lies) (fun w hw => flds_any s l hf hs ha w (HpG.x hw).2) (fun nb F _ hF => ?_)
  refine wl_free .none rfl (yf_lenS rfl Tryz.underlying59) ?_
  refine wl_free .none rfl (yf_move rfl) ?_
  refine wl_nil ?_
  refine wq_then ?_
  refine wc_block ?_
  refine wc_loop (ι := {k : Nat // k ≤ l.length}) (fun k => [(0, .int .i64 first), (2, .pointer (some ⟨b1, 0, none⟩)), (8, .slice (some ⟨nb, 0, none⟩) l.length l.length), (9, .int .i64 l.length), (10, .int .i64 (k.1 : Nat))]) (fun k => Hp (fun j => j = bm) w_0 [(bm, mapN (tab ++ numL first (l.take k.1)))] [] (fun u => Bl7 nb (strO l) F u ∧ (Blk b1 (bk 153 [.map (some bm)]) u ∧ AsT u))) (fun k => l.length - k.1) ⟨0, Nat.zero_le _⟩ ?_ ?_ (fun k => ?_)
  · exact .cons rfl <| .cons rfl <| .cons rfl <| .cons rfl <| .cons rfl <| .nil
  · exact fun w h => by rw [List.take_zero, numL, List.append_nil]; exact h
  obtain ⟨k, hk⟩ := k
  dsimp only
  refine wc_seq ?_
  refine wc_region ?_
  refine wl_free .none rfl (yf_lss rfl rfl) ?_
  refine wl_nil ?_
  refine wq_then ?_
  refine wc_seq ?_
  refine wc_cond rfl (fun h11 => ?_) (fun h11 => ?_)
  · replace h11 := of_decide_eq_true h11
    skip
    obtain ⟨x, hx⟩ : ∃ x, l[k]? = some x := ⟨l[k]'(by omega), List.getElem?_eq_getElem _⟩
    have htk := take_snoc hx
    have hnf : ∀ p ∈ tab ++ numL first (l.take k), p.1 ≠ first + k := fun p hp => by
      rcases List.mem_append.1 hp with hp | hp
      · have := hnew p hp; omega
      · have := numL_mem hp; rw [List.length_take] at this; omega
    refine wc_skip ?_
    refine wq_then ?_
    refine wc_seq ?_
    refine wc_block ?_
    refine wc_seq ?_
    refine wc_region ?_
    refine wl_free .none rfl (yf_move rfl) ?_
    (refine wl_free .none rfl (yf_indexAddrS (es := 1) rfl rfl Tryz.underlying59 (by kernel_rfl) rfl ?_ rfl) ?_; (· first | decide | omega | (simp; done) | (simp; omega)); skip)
    refine wl_free .none rfl (yf_load rfl Tryz.underlying9 rfl (fun w hw => Blk.cell (HpG.x hw).1.2 (strO_at hx))) ?_
    refine wl_free .none rfl (yf_assign rfl) ?_
    refine wl_free .none rfl (yf_assign rfl) ?_
    refine wl_nil ?_
    refine wq_then ?_
    refine wc_weak (.cons (i := 0) rfl <| .cons (i := 2) rfl <| .cons (i := 5) rfl <| .cons (i := 6) rfl <| .cons (i := 8) rfl <| .cons (i := 9) rfl <| .cons (i := 10) rfl <| .cons (i := 11) rfl <| .nil) ?_
    refine wc_region ?_
    refine wl_free .none rfl (yf_load rfl Tryz.underlying153 rfl (fun w hw => Blk.cell (HpG.x hw).2.1 rfl)) ?_
    refine wl_free .none rfl (yf_move rfl) ?_
    refine wl_free .none rfl (yf_move rfl) ?_
    refine wl_free .none rfl (yf_add rfl rfl (show IntKind.i64.wrap ((first : Int) + (k : Int)) = ((first + k : Nat) : Int) from i64_in ((first + k : Nat) : Int) (by omega) (by omega))) ?_
    refine wl_free .none rfl (yf_move rfl) ?_
    refine wl_chain0 .none (cf_updK (key := ((first + k : Nat) : Int)) 0 rfl rfl rfl rfl Tryz.underlying153 Tryz.underlying3 (findN _ _ 0 0 hnf)) (fun _ => ?_)
    refine wl_nil ?_
    refine wq_block ?_
    refine wq_then ?_
    refine wc_weak (.cons (i := 0) rfl <| .cons (i := 2) rfl <| .cons (i := 5) rfl <| .cons (i := 6) rfl <| .cons (i := 8) rfl <| .cons (i := 9) rfl <| .cons (i := 10) rfl <| .cons (i := 11) rfl <| .nil) ?_
    refine wc_region ?_
    (refine wl_free .none rfl (yf_add rfl rfl (i64_in _ ?_ ?_)) ?_; (· omega); (· omega); skip)
    refine wl_free .none rfl (yf_move rfl) ?_
    refine wl_nil ?_
    refine wq_round (ι := {k : Nat // k ≤ l.length}) ⟨k + 1, by omega⟩ (by show l.length - (k + 1) < l.length - k; omega) (.cons rfl <| .cons rfl <| .cons rfl <| .cons rfl <| .cons rfl <| .nil) (fun w h => by
      have e1 : tab ++ numL first (l.take (k + 1)) = (tab ++ numL first (l.take k)) ++ [(first + k, x)] := by
        rw [htk, numL_app, List.append_assoc, List.length_take, Nat.min_eq_left (by omega)]; rfl
      rw [e1]
      have h2 : Hp (fun j => j = bm) w_0 [(bm, .map ((mapNE (tab ++ numL first (l.take k))).toArray.push { key := .int .i64 ((first + k : Nat) : Int), val := .string ⟨x.toArray⟩, born := (tab ++ numL first (l.take k)).length }) ((tab ++ numL first (l.take k)).length + 1))] [] (fun u => Bl7 nb (strO l) F u ∧ (Blk b1 (bk 153 [.map (some bm)]) u ∧ AsT u)) w := h
      rw [mapNE_push] at h2
      rw [show (tab ++ numL first (l.take k)).length + 1 = ((tab ++ numL first (l.take k)) ++ [(first + k, x)]).length by simp; omega] at h2
      exact h2)
  · replace h11 := of_decide_eq_false h11
    skip
    obtain rfl : k = l.length := by omega
    refine wc_exit ?_
    refine wq_then_exit ?_
    refine wq_then_exit ?_
    refine wq_here ?_
    refine wq_end0 rfl (fun w hw => ?_)
    exact ⟨rfl, HpG.keep hw, by rw [HpG.blkL (j := 0) hw rfl, List.take_length]⟩
end Go.Proofs.YtkaepknpplhgkaaGreatDoor
/- The names of Q: the whole map. -/
namespace Go.Proofs.YtkaepknpplhgkaaGreatDoor
open Go.RowKit
def q0L : List Bs := [[97, 100, 100], [115, 117, 98], [97, 110, 100], [111, 114], [120, 111, 114], [115, 104, 108], [115, 104, 114], [115, 97, 114], [109, 117, 108], [100, 105, 118, 117], [115, 108, 116, 117], [115, 108, 116]]
def q1L : List Bs := [[97, 100, 100, 105], [97, 110, 100, 105], [111, 114, 105], [120, 111, 114, 105], [115, 104, 108, 105], [115, 104, 114, 105], [115, 97, 114, 105], [108, 100, 119], [108, 100, 98], [115, 116, 119], [115, 116, 98], [106, 97, 108, 114]]
def q2L : List Bs := [[98, 101, 113], [98, 110, 101], [98, 108, 116, 117], [98, 103, 101, 117], [98, 108, 116], [98, 103, 101]]
def q3L : List Bs := [[115, 121, 115], [98, 114, 101, 97, 107], [104, 97, 108, 116], [114, 101, 116, 116], [115, 121, 110, 99], [103, 101, 116, 99], [115, 101, 116, 99]]
theorem qna_is : ([(40, [106, 97, 108]), (41, [108, 117, 105])] : List (Nat × Bs)) ++ numL 1 q0L ++ numL 16 q1L ++ numL 32 q2L ++ numL 48 q3L = qnaL := by kernel_rfl
def NmQ (b : Nat) (F : Nat → Prop) (w : World) : Prop := F b ∧ Blk b (mapN qnaL) w
theorem NmQ.lies {b : Nat} : Lies (NmQ b) := Bl7.lies
set_option maxRecDepth 100000 in
theorem namesQ_any (w_0 : World) (ht : AsT w_0) : Calls Tryz.prog 85 #[] w_0 fun e w' => ∃ b : Nat, True ∧ e = .returned (.map (some b)) ∧ Ext w_0 w' ∧ NmQ b (fun k => w_0.heap.size ≤ k) w' := by
  refine calls_wc (args := []) Tryz.func85 rfl 15 rfl (Nat.le_of_ble_eq_true rfl) ?_
  refine wc_weak (.nil) ?_
  refine wc_conseq (H' := Hp (fun _ => False) w_0 [] [] AsT) (fun u hu => ?_) ?_
  · subst hu; exact asStart ht
  refine wc_seq ?_
  refine wc_region ?_
  refine wl_free .none rfl (yf_assign rfl) ?_
  refine wl_nil ?_
  refine wq_then ?_
  refine wc_seq ?_
  refine wc_region ?_
  refine wl_new .none rfl (nf_makeMap) (fun b3 => ?_)
  refine wl_chain0 .none (cf_insertK (key := 40) 0 rfl rfl rfl rfl Tryz.underlying153 Tryz.underlying3 rfl) (fun _ => ?_)
  refine wl_chain0 .none (cf_insertK (key := 41) 0 rfl rfl rfl rfl Tryz.underlying153 Tryz.underlying3 (by kernel_rfl)) (fun _ => ?_)
  refine wl_conseq (H' := Hp (fun _ => False) w_0 [(b3, mapN [(40, [106, 97, 108]), (41, [108, 117, 105])])] [] AsT) (fun w h => h) ?_
  refine wl_free .none rfl (yf_move rfl) ?_
  refine wl_new .none rfl (nf_alloc (z := .map none) (cs := [.map none]) (by kernel_rfl) rfl) (fun b1 => ?_)
  refine wl_chain0 .none (cf_store 0 rfl rfl rfl rfl rfl (by kernel_rfl)) (fun _ => ?_)
  refine wl_nil ?_
  refine wq_then ?_
  refine wc_seq ?_
  refine wc_weak (.cons (i := 0) rfl <| .cons (i := 1) rfl <| .nil) ?_
  refine wc_region ?_
  refine wl_free .none rfl (yf_makeFunc rfl rfl) ?_
  refine wl_free .none rfl (yf_assign rfl) ?_
  refine wl_nil ?_
  refine wq_then ?_
  refine wc_seq ?_
  refine wc_weak (.cons (i := 0) rfl <| .cons (i := 1) rfl <| .cons (i := 2) rfl <| .nil) ?_
  refine wc_region ?_
  refine wl_free .none rfl (yf_move rfl) ?_
  refine wl_callVT (us := []) (vs := [.int .i64 ((1 : Nat) : Int), .string ⟨_⟩]) (cs := [.pointer (some ⟨b1, 0, none⟩)]) (v := .tuple #[]) (ob' := mapN (([(40, [106, 97, 108]), (41, [108, 117, 105])] : List (Nat × Bs)) ++ numL 1 q0L)) 1 .none rfl  (f := 159) (by kernel_rfl) rfl rfl rfl (fun w hw => namesQ1_any 1 _ q0L (by kernel_rfl) (by decide) (by decide) (by decide) (by decide) ([(40, [106, 97, 108]), (41, [108, 117, 105])] : List (Nat × Bs)) (by decide) b1 b3 w (HpG.blk hw (k := 0) rfl) (HpG.blkL (j := 1) hw rfl) (HpG.x hw)) ?_
  refine wl_nil ?_
  refine wq_then ?_
  refine wc_seq ?_
  refine wc_weak (.cons (i := 0) rfl <| .cons (i := 1) rfl <| .cons (i := 2) rfl <| .nil) ?_
  refine wc_region ?_
  refine wl_free .none rfl (yf_move rfl) ?_
  refine wl_callVT (us := []) (vs := [.int .i64 ((16 : Nat) : Int), .string ⟨_⟩]) (cs := [.pointer (some ⟨b1, 0, none⟩)]) (v := .tuple #[]) (ob' := mapN ((([(40, [106, 97, 108]), (41, [108, 117, 105])] : List (Nat × Bs)) ++ numL 1 q0L) ++ numL 16 q1L)) 1 .none rfl  (f := 159) (by kernel_rfl) rfl rfl rfl (fun w hw => namesQ1_any 16 _ q1L (by kernel_rfl) (by decide) (by decide) (by decide) (by decide) (([(40, [106, 97, 108]), (41, [108, 117, 105])] : List (Nat × Bs)) ++ numL 1 q0L) (by decide) b1 b3 w (HpG.blk hw (k := 0) rfl) (HpG.blkL (j := 1) hw rfl) (HpG.x hw)) ?_
  refine wl_nil ?_
  refine wq_then ?_
  refine wc_seq ?_
  refine wc_weak (.cons (i := 0) rfl <| .cons (i := 1) rfl <| .cons (i := 2) rfl <| .nil) ?_
  refine wc_region ?_
  refine wl_free .none rfl (yf_move rfl) ?_
  refine wl_callVT (us := []) (vs := [.int .i64 ((32 : Nat) : Int), .string ⟨_⟩]) (cs := [.pointer (some ⟨b1, 0, none⟩)]) (v := .tuple #[]) (ob' := mapN (((([(40, [106, 97, 108]), (41, [108, 117, 105])] : List (Nat × Bs)) ++ numL 1 q0L) ++ numL 16 q1L) ++ numL 32 q2L)) 1 .none rfl  (f := 159) (by kernel_rfl) rfl rfl rfl (fun w hw => namesQ1_any 32 _ q2L (by kernel_rfl) (by decide) (by decide) (by decide) (by decide) ((([(40, [106, 97, 108]), (41, [108, 117, 105])] : List (Nat × Bs)) ++ numL 1 q0L) ++ numL 16 q1L) (by decide) b1 b3 w (HpG.blk hw (k := 0) rfl) (HpG.blkL (j := 1) hw rfl) (HpG.x hw)) ?_
  refine wl_nil ?_
  refine wq_then ?_
  refine wc_seq ?_
  refine wc_weak (.cons (i := 0) rfl <| .cons (i := 1) rfl <| .cons (i := 2) rfl <| .nil) ?_
  refine wc_region ?_
  refine wl_free .none rfl (yf_move rfl) ?_
  refine wl_callVT (us := []) (vs := [.int .i64 ((48 : Nat) : Int), .string ⟨_⟩]) (cs := [.pointer (some ⟨b1, 0, none⟩)]) (v := .tuple #[]) (ob' := mapN ((((([(40, [106, 97, 108]), (41, [108, 117, 105])] : List (Nat × Bs)) ++ numL 1 q0L) ++ numL 16 q1L) ++ numL 32 q2L) ++ numL 48 q3L)) 1 .none rfl  (f := 159) (by kernel_rfl) rfl rfl rfl (fun w hw => namesQ1_any 48 _ q3L (by kernel_rfl) (by decide) (by decide) (by decide) (by decide) (((([(40, [106, 97, 108]), (41, [108, 117, 105])] : List (Nat × Bs)) ++ numL 1 q0L) ++ numL 16 q1L) ++ numL 32 q2L) (by decide) b1 b3 w (HpG.blk hw (k := 0) rfl) (HpG.blkL (j := 1) hw rfl) (HpG.x hw)) ?_
  refine wl_nil ?_
  refine wq_then ?_
  refine wc_seq ?_
  refine wc_weak (.cons (i := 0) rfl <| .cons (i := 1) rfl <| .cons (i := 2) rfl <| .nil) ?_
  refine wc_region ?_
  refine wl_free .none rfl (yf_loadL 0 rfl rfl rfl Tryz.underlying153 rfl) ?_
  refine wl_free .none rfl (yf_assign rfl) ?_
  refine wl_nil ?_
  refine wq_then ?_
  refine wc_ret ?_
  refine wq_ret1 rfl rfl (fun w hw => ?_)
  exact ⟨b3, trivial, rfl, (HpG.keep hw).ext, HpG.mineL (j := 1) hw rfl id, by have := HpG.blk hw (k := 1) rfl; rw [qna_is] at this; exact this⟩
end Go.Proofs.YtkaepknpplhgkaaGreatDoor
/- The table of the forms of Q. -/
namespace Go.Proofs.YtkaepknpplhgkaaGreatDoor
open Go.RowKit
theorem shapeQ_any (op : Nat) (hop : op < 64) (w_0 : World) : Calls Tryz.prog 83 #[.int .i64 op] w_0 fun e w' => e = .returned (.string ⟨(shqL op).toArray⟩) ∧ Ext w_0 w' := by
  generalize hs : shqL op = s
  unfold shqL at hs
  refine calls_wc (args := [.int .i64 op]) Tryz.func83 rfl 29 rfl (Nat.le_of_ble_eq_true rfl) ?_
  refine wc_weak (.cons (i := 0) rfl <| .nil) ?_
  refine wc_conseq (H' := Hp (fun _ => False) w_0 [] [] (fun _ => True)) (fun u hu => ?_) ?_
  · subst hu; exact Hp.start0
  refine wc_seq ?_
  refine wc_region ?_
  refine wl_free .none rfl (yf_assign rfl) ?_
  refine wl_nil ?_
  refine wq_then ?_
  refine wc_seq ?_
  refine wc_block ?_
  refine wc_seq ?_
  refine wc_region ?_
  refine wl_free .none rfl (yf_move rfl) ?_
  refine wl_free .none rfl (yf_leq rfl rfl) ?_
  refine wl_free .none rfl (yf_assign rfl) ?_
  refine wl_nil ?_
  refine wq_then ?_
  refine wc_cond rfl (fun h3 => ?_) (fun h3 => ?_)
  · replace h3 := of_decide_eq_true h3
    refine wc_seq ?_
    refine wc_weak (.cons (i := 0) rfl <| .cons (i := 2) rfl <| .cons (i := 3) rfl <| .nil) ?_
    refine wc_region ?_
    refine wl_free .none rfl (yf_assign rfl) ?_
    refine wl_nil ?_
    refine wq_then ?_
    refine wc_ret ?_
    refine wq_block_ret ?_
    refine wq_then_ret ?_
    refine wq_ret1 rfl rfl (fun w hw => ?_)
    exact ⟨by subst hs; first | (exfalso; omega) | (repeat' (first | rw [if_pos (by omega)] | rw [if_neg (by omega)] | rfl)), (HpG.keep hw).ext⟩
  · replace h3 := of_decide_eq_false h3
    refine wc_seq ?_
    refine wc_weak (.cons (i := 0) rfl <| .cons (i := 2) rfl <| .cons (i := 3) rfl <| .nil) ?_
    refine wc_region ?_
    refine wl_free .none rfl (yf_move rfl) ?_
    refine wl_free .none rfl (yf_geq rfl rfl) ?_
    refine wl_free .none rfl (yf_move rfl) ?_
    refine wl_split 9 rfl (fun g3 => ?_) (fun g3 => ?_)
    · replace g3 := of_decide_eq_true g3
      refine wl_free (.some rfl rfl) rfl (yf_move rfl) ?_
      refine wl_free (.some rfl rfl) rfl (yf_leq rfl rfl) ?_
      refine wl_free .none rfl (yf_pickT rfl rfl) ?_
      refine wl_free .none rfl (yf_assign rfl) ?_
      refine wl_nil ?_
      refine wq_then ?_
      refine wc_cond rfl (fun h6 => ?_) (fun h6 => ?_)
      · replace h6 := of_decide_eq_true h6
        refine wc_seq ?_
        refine wc_weak (.cons (i := 0) rfl <| .cons (i := 2) rfl <| .cons (i := 3) rfl <| .cons (i := 6) rfl <| .nil) ?_
        refine wc_region ?_
        refine wl_free .none rfl (yf_assign rfl) ?_
        refine wl_nil ?_
        refine wq_then ?_
        refine wc_ret ?_
        refine wq_block_ret ?_
        refine wq_then_ret ?_
        refine wq_ret1 rfl rfl (fun w hw => ?_)
        exact ⟨by subst hs; first | (exfalso; omega) | (repeat' (first | rw [if_pos (by omega)] | rw [if_neg (by omega)] | rfl)), (HpG.keep hw).ext⟩
      · replace h6 := of_decide_eq_false h6
        refine wc_seq ?_
        refine wc_weak (.cons (i := 0) rfl <| .cons (i := 2) rfl <| .cons (i := 3) rfl <| .cons (i := 6) rfl <| .nil) ?_
        refine wc_region ?_
        refine wl_free .none rfl (yf_move rfl) ?_
        refine wl_free .none rfl (yf_lss rfl rfl) ?_
        refine wl_free .none rfl (yf_assign rfl) ?_
        refine wl_nil ?_
        refine wq_then ?_
        refine wc_cond rfl (fun h13 => ?_) (fun h13 => ?_)
        · replace h13 := of_decide_eq_true h13
          refine wc_seq ?_
          refine wc_weak (.cons (i := 0) rfl <| .cons (i := 2) rfl <| .cons (i := 3) rfl <| .cons (i := 6) rfl <| .cons (i := 13) rfl <| .nil) ?_
          refine wc_region ?_
          refine wl_free .none rfl (yf_assign rfl) ?_
          refine wl_nil ?_
          refine wq_then ?_
          refine wc_ret ?_
          refine wq_block_ret ?_
          refine wq_then_ret ?_
          refine wq_ret1 rfl rfl (fun w hw => ?_)
          exact ⟨by subst hs; first | (exfalso; omega) | (repeat' (first | rw [if_pos (by omega)] | rw [if_neg (by omega)] | rfl)), (HpG.keep hw).ext⟩
        · replace h13 := of_decide_eq_false h13
          refine wc_seq ?_
          refine wc_weak (.cons (i := 0) rfl <| .cons (i := 2) rfl <| .cons (i := 3) rfl <| .cons (i := 6) rfl <| .cons (i := 13) rfl <| .nil) ?_
          refine wc_region ?_
          refine wl_free .none rfl (yf_move rfl) ?_
          refine wl_free .none rfl (yf_eql rfl rfl) ?_
          refine wl_free .none rfl (yf_assign rfl) ?_
          refine wl_nil ?_
          refine wq_then ?_
          refine wc_cond rfl (fun h16 => ?_) (fun h16 => ?_)
          · replace h16 := eq_of_beq h16
            refine wc_seq ?_
            refine wc_weak (.cons (i := 0) rfl <| .cons (i := 2) rfl <| .cons (i := 3) rfl <| .cons (i := 6) rfl <| .cons (i := 13) rfl <| .cons (i := 16) rfl <| .nil) ?_
            refine wc_region ?_
            refine wl_free .none rfl (yf_assign rfl) ?_
            refine wl_nil ?_
            refine wq_then ?_
            refine wc_ret ?_
            refine wq_block_ret ?_
            refine wq_then_ret ?_
            refine wq_ret1 rfl rfl (fun w hw => ?_)
            exact ⟨by subst hs; first | (exfalso; omega) | (repeat' (first | rw [if_pos (by omega)] | rw [if_neg (by omega)] | rfl)), (HpG.keep hw).ext⟩
          · replace h16 := beq_no h16
            refine wc_seq ?_
            refine wc_weak (.cons (i := 0) rfl <| .cons (i := 2) rfl <| .cons (i := 3) rfl <| .cons (i := 6) rfl <| .cons (i := 13) rfl <| .cons (i := 16) rfl <| .nil) ?_
            refine wc_region ?_
            refine wl_free .none rfl (yf_move rfl) ?_
            refine wl_free .none rfl (yf_eql rfl rfl) ?_
            refine wl_free .none rfl (yf_assign rfl) ?_
            refine wl_nil ?_
            refine wq_then ?_
            refine wc_cond rfl (fun h19 => ?_) (fun h19 => ?_)
            · replace h19 := eq_of_beq h19
              refine wc_seq ?_
              refine wc_weak (.cons (i := 0) rfl <| .cons (i := 2) rfl <| .cons (i := 3) rfl <| .cons (i := 6) rfl <| .cons (i := 13) rfl <| .cons (i := 16) rfl <| .cons (i := 19) rfl <| .nil) ?_
              refine wc_region ?_
              refine wl_free .none rfl (yf_assign rfl) ?_
              refine wl_nil ?_
              refine wq_then ?_
              refine wc_ret ?_
              refine wq_block_ret ?_
              refine wq_then_ret ?_
              refine wq_ret1 rfl rfl (fun w hw => ?_)
              exact ⟨by subst hs; first | (exfalso; omega) | (repeat' (first | rw [if_pos (by omega)] | rw [if_neg (by omega)] | rfl)), (HpG.keep hw).ext⟩
            · replace h19 := beq_no h19
              refine wc_seq ?_
              refine wc_weak (.cons (i := 0) rfl <| .cons (i := 2) rfl <| .cons (i := 3) rfl <| .cons (i := 6) rfl <| .cons (i := 13) rfl <| .cons (i := 16) rfl <| .cons (i := 19) rfl <| .nil) ?_
              refine wc_region ?_
              refine wl_free .none rfl (yf_move rfl) ?_
              refine wl_free .none rfl (yf_geq rfl rfl) ?_
              refine wl_free .none rfl (yf_move rfl) ?_
              refine wl_split 25 rfl (fun g11 => ?_) (fun g11 => ?_)
              · replace g11 := of_decide_eq_true g11
                refine wl_free (.some rfl rfl) rfl (yf_move rfl) ?_
                refine wl_free (.some rfl rfl) rfl (yf_leq rfl rfl) ?_
                refine wl_free .none rfl (yf_pickT rfl rfl) ?_
                refine wl_free .none rfl (yf_assign rfl) ?_
                refine wl_nil ?_
                refine wq_then ?_
                refine wc_cond rfl (fun h22 => ?_) (fun h22 => ?_)
                · replace h22 := of_decide_eq_true h22
                  refine wc_seq ?_
                  refine wc_weak (.cons (i := 0) rfl <| .cons (i := 2) rfl <| .cons (i := 3) rfl <| .cons (i := 6) rfl <| .cons (i := 13) rfl <| .cons (i := 16) rfl <| .cons (i := 19) rfl <| .cons (i := 22) rfl <| .nil) ?_
                  refine wc_region ?_
                  refine wl_free .none rfl (yf_assign rfl) ?_
                  refine wl_nil ?_
                  refine wq_then ?_
                  refine wc_ret ?_
                  refine wq_block_ret ?_
                  refine wq_then_ret ?_
                  refine wq_ret1 rfl rfl (fun w hw => ?_)
                  exact ⟨by subst hs; first | (exfalso; omega) | (repeat' (first | rw [if_pos (by omega)] | rw [if_neg (by omega)] | rfl)), (HpG.keep hw).ext⟩
                · replace h22 := of_decide_eq_false h22
                  refine wc_skip ?_
                  refine wq_block ?_
                  refine wq_then ?_
                  refine wc_seq ?_
                  refine wc_weak (.cons (i := 0) rfl <| .cons (i := 2) rfl <| .cons (i := 3) rfl <| .cons (i := 6) rfl <| .cons (i := 13) rfl <| .cons (i := 16) rfl <| .cons (i := 19) rfl <| .cons (i := 22) rfl <| .nil) ?_
                  refine wc_region ?_
                  refine wl_free .none rfl (yf_assign rfl) ?_
                  refine wl_nil ?_
                  refine wq_then ?_
                  refine wc_ret ?_
                  refine wq_ret1 rfl rfl (fun w hw => ?_)
                  exact ⟨by subst hs; first | (exfalso; omega) | (repeat' (first | rw [if_pos (by omega)] | rw [if_neg (by omega)] | rfl)), (HpG.keep hw).ext⟩
              · replace g11 := of_decide_eq_false g11
                refine wl_pass (.some rfl rfl rfl) rfl ?_
                refine wl_pass (.some rfl rfl rfl) rfl ?_
                refine wl_free .none rfl (yf_pickF rfl rfl) ?_
                refine wl_free .none rfl (yf_assign rfl) ?_
                refine wl_nil ?_
                refine wq_then ?_
                refine wc_false rfl ?_
                refine wc_skip ?_
                refine wq_block ?_
                refine wq_then ?_
                refine wc_seq ?_
                refine wc_weak (.cons (i := 0) rfl <| .cons (i := 2) rfl <| .cons (i := 3) rfl <| .cons (i := 6) rfl <| .cons (i := 13) rfl <| .cons (i := 16) rfl <| .cons (i := 19) rfl <| .cons (i := 22) rfl <| .nil) ?_
                refine wc_region ?_
                refine wl_free .none rfl (yf_assign rfl) ?_
                refine wl_nil ?_
                refine wq_then ?_
                refine wc_ret ?_
                refine wq_ret1 rfl rfl (fun w hw => ?_)
                exact ⟨by subst hs; first | (exfalso; omega) | (repeat' (first | rw [if_pos (by omega)] | rw [if_neg (by omega)] | rfl)), (HpG.keep hw).ext⟩
    · replace g3 := of_decide_eq_false g3
      refine wl_pass (.some rfl rfl rfl) rfl ?_
      refine wl_pass (.some rfl rfl rfl) rfl ?_
      refine wl_free .none rfl (yf_pickF rfl rfl) ?_
      refine wl_free .none rfl (yf_assign rfl) ?_
      refine wl_nil ?_
      refine wq_then ?_
      refine wc_false rfl ?_
      refine wc_seq ?_
      refine wc_weak (.cons (i := 0) rfl <| .cons (i := 2) rfl <| .cons (i := 3) rfl <| .cons (i := 6) rfl <| .nil) ?_
      refine wc_region ?_
      refine wl_free .none rfl (yf_move rfl) ?_
      refine wl_free .none rfl (yf_lss rfl rfl) ?_
      refine wl_free .none rfl (yf_assign rfl) ?_
      refine wl_nil ?_
      refine wq_then ?_
      refine wc_cond rfl (fun h13 => ?_) (fun h13 => ?_)
      · replace h13 := of_decide_eq_true h13
        refine wc_seq ?_
        refine wc_weak (.cons (i := 0) rfl <| .cons (i := 2) rfl <| .cons (i := 3) rfl <| .cons (i := 6) rfl <| .cons (i := 13) rfl <| .nil) ?_
        refine wc_region ?_
        refine wl_free .none rfl (yf_assign rfl) ?_
        refine wl_nil ?_
        refine wq_then ?_
        refine wc_ret ?_
        refine wq_block_ret ?_
        refine wq_then_ret ?_
        refine wq_ret1 rfl rfl (fun w hw => ?_)
        exact ⟨by subst hs; first | (exfalso; omega) | (repeat' (first | rw [if_pos (by omega)] | rw [if_neg (by omega)] | rfl)), (HpG.keep hw).ext⟩
      · replace h13 := of_decide_eq_false h13
        refine wc_seq ?_
        refine wc_weak (.cons (i := 0) rfl <| .cons (i := 2) rfl <| .cons (i := 3) rfl <| .cons (i := 6) rfl <| .cons (i := 13) rfl <| .nil) ?_
        refine wc_region ?_
        refine wl_free .none rfl (yf_move rfl) ?_
        refine wl_free .none rfl (yf_eql rfl rfl) ?_
        refine wl_free .none rfl (yf_assign rfl) ?_
        refine wl_nil ?_
        refine wq_then ?_
        refine wc_cond rfl (fun h16 => ?_) (fun h16 => ?_)
        · replace h16 := eq_of_beq h16
          refine wc_seq ?_
          refine wc_weak (.cons (i := 0) rfl <| .cons (i := 2) rfl <| .cons (i := 3) rfl <| .cons (i := 6) rfl <| .cons (i := 13) rfl <| .cons (i := 16) rfl <| .nil) ?_
          refine wc_region ?_
          refine wl_free .none rfl (yf_assign rfl) ?_
          refine wl_nil ?_
          refine wq_then ?_
          refine wc_ret ?_
          refine wq_block_ret ?_
          refine wq_then_ret ?_
          refine wq_ret1 rfl rfl (fun w hw => ?_)
          exact ⟨by subst hs; first | (exfalso; omega) | (repeat' (first | rw [if_pos (by omega)] | rw [if_neg (by omega)] | rfl)), (HpG.keep hw).ext⟩
        · replace h16 := beq_no h16
          refine wc_seq ?_
          refine wc_weak (.cons (i := 0) rfl <| .cons (i := 2) rfl <| .cons (i := 3) rfl <| .cons (i := 6) rfl <| .cons (i := 13) rfl <| .cons (i := 16) rfl <| .nil) ?_
          refine wc_region ?_
          refine wl_free .none rfl (yf_move rfl) ?_
          refine wl_free .none rfl (yf_eql rfl rfl) ?_
          refine wl_free .none rfl (yf_assign rfl) ?_
          refine wl_nil ?_
          refine wq_then ?_
          refine wc_cond rfl (fun h19 => ?_) (fun h19 => ?_)
          · replace h19 := eq_of_beq h19
            refine wc_seq ?_
            refine wc_weak (.cons (i := 0) rfl <| .cons (i := 2) rfl <| .cons (i := 3) rfl <| .cons (i := 6) rfl <| .cons (i := 13) rfl <| .cons (i := 16) rfl <| .cons (i := 19) rfl <| .nil) ?_
            refine wc_region ?_
            refine wl_free .none rfl (yf_assign rfl) ?_
            refine wl_nil ?_
            refine wq_then ?_
            refine wc_ret ?_
            refine wq_block_ret ?_
            refine wq_then_ret ?_
            refine wq_ret1 rfl rfl (fun w hw => ?_)
            exact ⟨by subst hs; first | (exfalso; omega) | (repeat' (first | rw [if_pos (by omega)] | rw [if_neg (by omega)] | rfl)), (HpG.keep hw).ext⟩
          · replace h19 := beq_no h19
            refine wc_seq ?_
            refine wc_weak (.cons (i := 0) rfl <| .cons (i := 2) rfl <| .cons (i := 3) rfl <| .cons (i := 6) rfl <| .cons (i := 13) rfl <| .cons (i := 16) rfl <| .cons (i := 19) rfl <| .nil) ?_
            refine wc_region ?_
            refine wl_free .none rfl (yf_move rfl) ?_
            refine wl_free .none rfl (yf_geq rfl rfl) ?_
            refine wl_free .none rfl (yf_move rfl) ?_
            refine wl_split 25 rfl (fun g11 => ?_) (fun g11 => ?_)
            · replace g11 := of_decide_eq_true g11
              refine wl_free (.some rfl rfl) rfl (yf_move rfl) ?_
              refine wl_free (.some rfl rfl) rfl (yf_leq rfl rfl) ?_
              refine wl_free .none rfl (yf_pickT rfl rfl) ?_
              refine wl_free .none rfl (yf_assign rfl) ?_
              refine wl_nil ?_
              refine wq_then ?_
              refine wc_cond rfl (fun h22 => ?_) (fun h22 => ?_)
              · replace h22 := of_decide_eq_true h22
                refine wc_seq ?_
                refine wc_weak (.cons (i := 0) rfl <| .cons (i := 2) rfl <| .cons (i := 3) rfl <| .cons (i := 6) rfl <| .cons (i := 13) rfl <| .cons (i := 16) rfl <| .cons (i := 19) rfl <| .cons (i := 22) rfl <| .nil) ?_
                refine wc_region ?_
                refine wl_free .none rfl (yf_assign rfl) ?_
                refine wl_nil ?_
                refine wq_then ?_
                refine wc_ret ?_
                refine wq_block_ret ?_
                refine wq_then_ret ?_
                refine wq_ret1 rfl rfl (fun w hw => ?_)
                exact ⟨by subst hs; first | (exfalso; omega) | (repeat' (first | rw [if_pos (by omega)] | rw [if_neg (by omega)] | rfl)), (HpG.keep hw).ext⟩
              · replace h22 := of_decide_eq_false h22
                refine wc_skip ?_
                refine wq_block ?_
                refine wq_then ?_
                refine wc_seq ?_
                refine wc_weak (.cons (i := 0) rfl <| .cons (i := 2) rfl <| .cons (i := 3) rfl <| .cons (i := 6) rfl <| .cons (i := 13) rfl <| .cons (i := 16) rfl <| .cons (i := 19) rfl <| .cons (i := 22) rfl <| .nil) ?_
                refine wc_region ?_
                refine wl_free .none rfl (yf_assign rfl) ?_
                refine wl_nil ?_
                refine wq_then ?_
                refine wc_ret ?_
                refine wq_ret1 rfl rfl (fun w hw => ?_)
                exact ⟨by subst hs; first | (exfalso; omega) | (repeat' (first | rw [if_pos (by omega)] | rw [if_neg (by omega)] | rfl)), (HpG.keep hw).ext⟩
            · replace g11 := of_decide_eq_false g11
              refine wl_pass (.some rfl rfl rfl) rfl ?_
              refine wl_pass (.some rfl rfl rfl) rfl ?_
              refine wl_free .none rfl (yf_pickF rfl rfl) ?_
              refine wl_free .none rfl (yf_assign rfl) ?_
              refine wl_nil ?_
              refine wq_then ?_
              refine wc_false rfl ?_
              refine wc_skip ?_
              refine wq_block ?_
              refine wq_then ?_
              refine wc_seq ?_
              refine wc_weak (.cons (i := 0) rfl <| .cons (i := 2) rfl <| .cons (i := 3) rfl <| .cons (i := 6) rfl <| .cons (i := 13) rfl <| .cons (i := 16) rfl <| .cons (i := 19) rfl <| .cons (i := 22) rfl <| .nil) ?_
              refine wc_region ?_
              refine wl_free .none rfl (yf_assign rfl) ?_
              refine wl_nil ?_
              refine wq_then ?_
              refine wc_ret ?_
              refine wq_ret1 rfl rfl (fun w hw => ?_)
              exact ⟨by subst hs; first | (exfalso; omega) | (repeat' (first | rw [if_pos (by omega)] | rw [if_neg (by omega)] | rfl)), (HpG.keep hw).ext⟩
def fmQ1 (p : Nat × Bs) : Bs × AFm := (p.2 ++ 32 :: shqL p.1, .q p.1)
theorem fmsQ_map : fmsQ = qnaL.map fmQ1 := rfl
theorem qna_key {p q : Nat × Bs} (hp : p ∈ qnaL) (hq : q ∈ qnaL) (h : (fmQ1 p).1 = (fmQ1 q).1) : p = q := by
  have hh : (qnaL.all fun p => qnaL.all fun q => !decide ((fmQ1 p).1 = (fmQ1 q).1) || decide (p = q)) = true := by kernel_rfl
  have := List.all_eq_true.1 (List.all_eq_true.1 hh p hp) q hq
  rw [decide_eq_true h] at this
  simpa using this
theorem lookA_in {l : List (Bs × AFm)} (hf : ∀ p ∈ l, ∀ q ∈ l, p.1 = q.1 → p = q) {k : Bs} {f : AFm} (h : (k, f) ∈ l) : lookA k l = some f := by
  cases hl : lookA k l with
  | none =>
    exfalso
    induction l with
    | nil => cases h
    | cons p l ih =>
      obtain ⟨x, v⟩ := p
      rw [lookA] at hl
      split at hl
      · cases hl
      · next hx =>
        rcases List.mem_cons.1 h with e | h
        · cases e; exact hx rfl
        · exact ih (fun p hp q hq => hf p (List.mem_cons_of_mem _ hp) q (List.mem_cons_of_mem _ hq)) h hl
  | some g =>
    have := hf _ h _ (lookA_mem hl) rfl
    cases this; rfl
theorem lookQ_same {l : List (Nat × Bs)} (h1 : ∀ p ∈ l, p ∈ qnaL) (h2 : ∀ p ∈ qnaL, p ∈ l) (k : Bs) : lookA k (l.map fmQ1) = lookA k fmsQ := by
  have hf1 : ∀ p ∈ l.map fmQ1, ∀ q ∈ l.map fmQ1, p.1 = q.1 → p = q := fun p hp q hq e => by
    obtain ⟨a, ha, rfl⟩ := List.mem_map.1 hp
    obtain ⟨b, hb, rfl⟩ := List.mem_map.1 hq
    rw [qna_key (h1 a ha) (h1 b hb) e]
  cases hk : lookA k fmsQ with
  | some f =>
    have hm := lookA_mem hk
    rw [fmsQ_map] at hm
    obtain ⟨a, ha, e⟩ := List.mem_map.1 hm
    exact lookA_in hf1 (List.mem_map.2 ⟨a, h2 a ha, e⟩)
  | none =>
    cases hl : lookA k (l.map fmQ1) with
    | none => rfl
    | some f =>
      exfalso
      obtain ⟨a, ha, e⟩ := List.mem_map.1 (lookA_mem hl)
      have hf2 : ∀ p ∈ fmsQ, ∀ q ∈ fmsQ, p.1 = q.1 → p = q := fun p hp q hq e => by
        rw [fmsQ_map] at hp hq
        obtain ⟨a, ha, rfl⟩ := List.mem_map.1 hp
        obtain ⟨b, hb, rfl⟩ := List.mem_map.1 hq
        rw [qna_key ha hb e]
      have := lookA_in hf2 (k := k) (f := f) (by rw [fmsQ_map]; exact List.mem_map.2 ⟨a, h1 a ha, e⟩)
      rw [hk] at this; cases this
abbrev esQ : Array MapEntry := (mapNE qnaL).toArray
theorem esQ_hold : ∀ x ∈ esQ.toList, x.born < 39 := fun x hx => of_decide_eq_true (List.all_eq_true.1 (show (mapNE qnaL).all (fun e => decide (e.born < 39)) = true by kernel_rfl) x hx)
theorem esQ_nodup : (esQ.toList.map (·.born)).Nodup := by
  have : esQ.toList.map (·.born) = List.range 39 := by kernel_rfl
  rw [this]; exact List.nodup_range
theorem esQ_at {e : MapEntry} (h : e ∈ esQ.toList) : ∃ i p, qnaL[i]? = some p ∧ e = { key := .int .i64 (p.1 : Nat), val := .string ⟨p.2.toArray⟩, born := i } := by
  have h : e ∈ mapNE qnaL := h
  unfold mapNE at h
  obtain ⟨⟨p, i⟩, h1, rfl⟩ := List.mem_map.1 h
  exact ⟨i, p, List.mem_zipIdx_iff_getElem?.1 h1, rfl⟩
theorem esQ_mem {i : Nat} {p : Nat × Bs} (h : qnaL[i]? = some p) : ({ key := .int .i64 (p.1 : Nat), val := .string ⟨p.2.toArray⟩, born := i } : MapEntry) ∈ esQ.toList :=
  List.mem_map.2 ⟨(p, i), List.mem_zipIdx_iff_getElem?.2 h, rfl⟩
theorem qna_small : ∀ p ∈ qnaL, p.1 < 64 ∧ p.2.length ≤ 10 := by decide
theorem shqL_le (op : Nat) : (shqL op).length ≤ 3 := (shqL_len op).1
/-- Rounds over the names. -/
structure RqI (seen : Array Nat) (l : List (Nat × Bs)) (vs : List (Value × Value)) : Prop where
  s : ∀ i p, qnaL[i]? = some p → (seen.contains i = true ↔ p ∈ l)
  m : ∀ p ∈ l, p ∈ qnaL
  n : vs.length = l.length
end Go.Proofs.YtkaepknpplhgkaaGreatDoor
/- The table of the forms of Q, walked. -/
namespace Go.Proofs.YtkaepknpplhgkaaGreatDoor
open Go.RowKit
/-- A table with the forms of a list, in whatever order. -/
def FmPostS (l0 : List (Bs × AFm)) (w : World) (e : Ending) (w' : World) : Prop := ∃ l b vs, (∀ k, lookA k l = lookA k l0) ∧ e = .returned (.map (some b)) ∧ Ext w w' ∧ FmsX l b vs (fun k => w.heap.size ≤ k) w'
set_option maxRecDepth 100000 in
theorem formsQ_any (w_0 : World) (ht : AsT w_0) : Calls Tryz.prog 40 #[] w_0 (FmPostS fmsQ w_0) := by
  refine calls_wc (args := []) Tryz.func40 rfl 21 rfl (Nat.le_of_ble_eq_true rfl) ?_
  refine wc_weak (.nil) ?_
  refine wc_conseq (H' := Hp (fun _ => False) w_0 [] [] AsT) (fun u hu => ?_) ?_
  · subst hu; exact asStart ht
  refine wc_seq ?_
  refine wc_region ?_
  refine wl_free .none rfl (yf_assign rfl) ?_
  refine wl_nil ?_
  refine wq_then ?_
  refine wc_seq ?_
  refine wc_region ?_
  refine wl_new .none rfl (nf_makeMap) (fun b4 => ?_)
  refine wl_free .none rfl (yf_assign rfl) ?_
  refine wl_nil ?_
  refine wq_then ?_
  refine wc_seq ?_
  refine wc_seq ?_
  refine wc_weak (.cons (i := 0) rfl <| .cons (i := 1) rfl <| .nil) ?_
  refine wc_region ?_
  refine wl_callX (ι := Nat) (C := fun _ => True) (val := fun b => .map (some b)) (TT := fun b => NmQ b) .none rfl  (by kernel_rfl) rfl (fun _ h => h.elim) (fun _ => NmQ.lies) (fun w hw => namesQ_any w (HpG.x hw)) (fun bm F _ hF => ?_)
  refine wl_rangeM (c := 39) (es := esQ) .none rfl  rfl Tryz.underlying153 (fun w hw => (HpG.x hw).1.2) (fun b6 => ?_)
  refine wl_nil ?_
  refine wq_then ?_
  refine wc_block ?_
  refine wc_loop (ι := {p : Array Nat × List (Nat × Bs) × List (Value × Value) // RqI p.1 p.2.1 p.2.2}) (fun _ => [(1, .map (some b4)), (6, .pointer (some ⟨b6, 0, none⟩))]) (fun p => Hp (fun _ => False) w_0 [(b6, .mapIter (some bm) 39 p.1.1 39), (b4, mapO (tabV (p.1.2.1.map fmQ1) p.1.2.2))] [] (fun u => TabX (p.1.2.1.map fmQ1) p.1.2.2 (fun k => w_0.heap.size ≤ k) u ∧ NmQ bm F u)) (fun p => (leftOf esQ p.1.1).size) ⟨(#[], [], []), ⟨fun i p _ => by simp, fun p h => (by cases h), rfl⟩⟩ ?_ ?_ (fun p => ?_)
  · exact .cons rfl <| .cons rfl <| .nil
  · exact fun w h => Hp.weakX h fun u hu => ⟨TabX.nil, hu.1⟩
  obtain ⟨⟨seen, l, vs⟩, hI⟩ := p
  dsimp only at hI ⊢
  refine wc_seq ?_
  refine wc_region ?_
  refine wl_chain .none rfl  (cf_next (clock := 39) (es := esQ) 0 rfl rfl (fun w hw => (HpG.x hw).2.2) esQ_hold (Nat.le_refl _)) (fun o => ?_)
  obtain ⟨o, ho⟩ := o
  dsimp only
  refine wl_free .none rfl (yf_extract (v := .bool o.isSome) rfl (by cases o <;> rfl)) ?_
  refine wl_nil ?_
  refine wq_then ?_
  refine wc_seq ?_
  refine wc_cond rfl (fun h8 => ?_) (fun h8 => ?_)
  · skip
    obtain ⟨e, rfl⟩ := Option.isSome_iff_exists.1 h8
    dsimp only at ho ⊢
    have hml := mem_left ho
    have hshr := left_shrinks esQ seen e ho
    obtain ⟨i, ⟨k, x⟩, hqi, rfl⟩ := esQ_at hml.1
    dsimp only at hml hshr ⊢
    have hmq := List.mem_of_getElem? hqi
    have hsm := qna_small _ hmq
    dsimp only at hsm
    have hnl : (k, x) ∉ l := fun hh => by have := (hI.s i _ hqi).2 hh; rw [hml.2] at this; cases this
    have hnew : ∀ q ∈ l.map fmQ1, x ++ 32 :: shqL k ≠ q.1 := fun q hq e => by
      obtain ⟨a, ha, rfl⟩ := List.mem_map.1 hq
      have := qna_key hmq (hI.m a ha) e
      rw [← this] at ha; exact hnl ha
    have hsl := shqL_le k
    refine wc_skip ?_
    refine wq_then ?_
    refine wc_block ?_
    refine wc_seq ?_
    refine wc_weak (.cons (i := 1) rfl <| .cons (i := 6) rfl <| .cons (i := 8) rfl <| .nil) ?_
    refine wc_region ?_
    refine wl_free .none rfl  (yf_entry (seen := seen) (e := { key := .int .i64 (k : Nat), val := .string ⟨x.toArray⟩, born := i }) rfl (fun w hw => HpG.blkL (j := 0) hw rfl) (fun w hw => (HpG.x hw).2.2) hml.1 esQ_nodup) ?_
    refine wl_free .none rfl (yf_extract rfl rfl) ?_
    refine wl_free .none rfl (yf_extract rfl rfl) ?_
    refine wl_new .none rfl (nf_alloc (z := .int .i64 0) (cs := [.int .i64 0]) (by kernel_rfl) rfl) (fun b2 => ?_)
    refine wl_chain0 .none (cf_store 0 rfl rfl rfl rfl rfl (by kernel_rfl)) (fun _ => ?_)
    refine wl_free .none rfl (yf_assign rfl) ?_
    refine wl_nil ?_
    refine wq_then ?_
    refine wc_weak (.cons (i := 1) rfl <| .cons (i := 2) rfl <| .cons (i := 3) rfl <| .cons (i := 6) rfl <| .cons (i := 8) rfl <| .nil) ?_
    refine wc_region ?_
    refine wl_free .none rfl (yf_move rfl) ?_
    refine wl_free .none rfl (yf_move rfl) ?_
    (refine wl_free .none rfl (yf_str_add rfl rfl ?_) ?_; (· (first | omega | (simp only [List.length_append, List.length_cons, List.length_nil]; omega) | (simp <;> omega))); skip)
    refine wl_free .none rfl (yf_loadL 0 rfl rfl rfl Tryz.underlying3 rfl) ?_
    refine wl_pure .none rfl  (v := .string ⟨(shqL k).toArray⟩) (by kernel_rfl) rfl (fun w hw => shapeQ_any k hsm.1 w) ?_
    (refine wl_free .none rfl (yf_str_add rfl rfl ?_) ?_; (· (first | omega | (simp only [List.length_append, List.length_cons, List.length_nil]; omega) | (simp <;> omega))); skip)
    refine wl_free .none rfl (yf_makeFunc rfl rfl) ?_
    refine wl_free .none rfl (yf_buildS [.nilFunc, .nilFunc] [(0, 1), (1, 1)] rfl (by kernel_rfl) (by kernel_rfl) rfl) ?_
    refine wl_chain0 .none (cf_updS (key := x ++ 32 :: shqL k) 2 rfl (by rw [show x ++ 32 :: shqL k = x ++ [32] ++ shqL k by simp]; rfl) rfl rfl Tryz.underlying83 Tryz.underlying9 (tabV_none hnew)) (fun _ => ?_)
    refine wl_fact (φ := w_0.heap.size ≤ b2) (fun w hw => HpG.mineL (j := 0) hw rfl id) (fun hb2 => ?_)
    refine wl_conseq (H' := Hp (fun _ => False) w_0 [(b6, .mapIter (some bm) 39 (seen.push i) 39), (b4, mapO (tabV ((l ++ [(k, x)]).map fmQ1) (vs ++ [(fnV 109, pfV 110 b2)])))] [] (fun u => TabX ((l ++ [(k, x)]).map fmQ1) (vs ++ [(fnV 109, pfV 110 b2)]) (fun k => w_0.heap.size ≤ k) u ∧ NmQ bm F u)) (fun w h => by
      rw [List.map_append, List.map_cons, List.map_nil, tabV_snoc (by rw [List.length_map]; exact hI.n)]
      exact Hp.weakX (Hp.toX h id) fun u ⟨a, b, c⟩ => ⟨b.snoc ⟨b2, rfl, rfl, hb2, a⟩, c⟩) ?_
    refine wl_nil ?_
    refine wq_block ?_
    refine wq_round (ι := {p : Array Nat × List (Nat × Bs) × List (Value × Value) // RqI p.1 p.2.1 p.2.2}) ⟨(seen.push i, l ++ [(k, x)], vs ++ [(fnV 109, pfV 110 b2)]), ⟨fun j p hj => by
      rw [contains_push, Bool.or_eq_true, hI.s j p hj, List.mem_append, List.mem_singleton, beq_iff_eq]
      constructor
      · rintro (h | h)
        · exact .inl h
        · subst h; rw [hqi] at hj; cases hj; exact .inr rfl
      · rintro (h | h)
        · exact .inl h
        · subst h
          refine .inr ?_
          have hnd : qnaL.Nodup := by decide
          exact (List.getElem?_inj (List.getElem?_eq_some_iff.1 hj).1 hnd).1 (hj.trans hqi.symm), fun p hp => by
        rcases List.mem_append.1 hp with h | h
        · exact hI.m p h
        · rw [List.mem_singleton.1 h]; exact hmq, by simp [hI.n]⟩⟩ hshr (.cons rfl <| .cons rfl <| .nil) (fun w h => h)
  · skip
    obtain rfl : o = none := by cases o; rfl; cases h8
    dsimp only at ho ⊢
    refine wc_exit ?_
    refine wq_then_exit ?_
    refine wq_then_exit ?_
    refine wq_here ?_
    refine wq_then ?_
    refine wc_seq ?_
    refine wc_weak (.cons (i := 1) rfl <| .cons (i := 6) rfl <| .cons (i := 8) rfl <| .nil) ?_
    refine wc_region ?_
    refine wl_free .none rfl (yf_move rfl) ?_
    refine wl_free .none rfl (yf_assign rfl) ?_
    refine wl_nil ?_
    refine wq_then ?_
    refine wc_ret ?_
    refine wq_ret1 rfl rfl (fun w hw => ?_)
    exact ⟨l.map fmQ1, b4, vs, fun key => lookQ_same hI.m (fun p hp => by
      obtain ⟨i, hi⟩ := List.getElem?_of_mem hp
      exact (hI.s i p hi).1 (all_seen esQ seen ho _ (esQ_mem hi))) key, rfl, (HpG.keep hw).ext, ⟨HpG.mineL (j := 1) hw rfl id, (Array.getElem?_eq_some_iff.1 (HpG.blkL (j := 1) hw rfl)).1, HpG.blkL (j := 1) hw rfl⟩, (HpG.x hw).1⟩
end Go.Proofs.YtkaepknpplhgkaaGreatDoor
