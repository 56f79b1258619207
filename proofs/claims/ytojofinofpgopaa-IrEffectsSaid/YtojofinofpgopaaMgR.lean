/- The reference's memory: what it holds; New, In, right. -/
import Derived.Test.YtojofinofpgopaaMgM
import Derived.Test.YtojofinofpgopaaIrG0
import Derived.Laws.BitsAllLaws
namespace Go.Proofs.Ytojofinofpgopaa
open Go.RowKit
structure Rm where
  M : Nat
  D : Nat
  E : Nat
  I : Nat
  O : Nat
  Q : Nat
  b : List Int
  r : List Int
abbrev sl (g l : Nat) : Value := .slice (some ⟨g, 0, none⟩) l l
def refL (ν : Rm) : List (Nat × Obj) := [(ν.M, bk 142 [sl ν.D 768, sl ν.I 768, sl ν.O 768, sl ν.Q 768, sl ν.E 3, .bool false]), (ν.D, bk 5 (u8s ν.b)), (ν.E, bk 3 (i64s ν.r))]
structure Rm.Ok (ν : Rm) : Prop where
  lb : ν.b.length = 768
  lr : ν.r.length = 3
  u8 : ∀ v ∈ ν.b, U8 v
  nd : [ν.M, ν.D, ν.E].Nodup
theorem Rm.Ok.nodup {ν : Rm} (h : ν.Ok) : ((refL ν).map (·.1)).Nodup := h.nd
section
variable {ν : Rm} {w : World}
theorem OnL.RM (h : OnL (refL ν) w) : w.heap[ν.M]? = some (bk 142 [sl ν.D 768, sl ν.I 768, sl ν.O 768, sl ν.Q 768, sl ν.E 3, .bool false]) := h (ν.M, _) (List.mem_cons_self ..)
theorem OnL.RD (h : OnL (refL ν) w) : w.heap[ν.D]? = some (bk 5 (u8s ν.b)) := h (ν.D, _) (List.mem_cons_of_mem _ (List.mem_cons_self ..))
theorem OnL.RE (h : OnL (refL ν) w) : w.heap[ν.E]? = some (bk 3 (i64s ν.r)) := h (ν.E, _) (List.mem_cons_of_mem _ (List.mem_cons_of_mem _ (List.mem_cons_self ..)))
end
theorem in_any (ν : Rm) (a : Int) (ha : U32 a) (w : World) (h : OnL (refL ν) w) : Calls Try.prog 89 #[ptrV ν.M, .int .u32 a] w fun e w' => e = .returned (.bool (decide (a < 768))) ∧ Ext w w' := by
  have h1 := ha.1
  have h2 := ha.2
  refine calls_wc (args := [ptrV ν.M, .int .u32 a]) Try.func89 rfl 13 rfl (Nat.le_of_ble_eq_true rfl) ?_
  refine wc_weak (.cons (i := 0) rfl <| .cons (i := 1) rfl <| .nil) ?_
  refine wc_conseq (H' := Hp (fun _ => False) w [] [] (OnL (refL ν))) (fun u hu => ?_) ?_
  · subst hu; exact Hp.start h.foot
  refine wc_seq ?_
  refine wc_region ?_
  refine wl_free .none rfl (yf_assign rfl) ?_
  refine wl_nil ?_
  refine wq_then ?_
  refine wc_seq ?_
  refine wc_region ?_
  refine wl_free .none rfl (yf_move rfl) ?_
  first | (refine wl_free .none rfl (yf_conv rfl (by kernel_rfl) Try.underlying3 (i64_in _ ?_ ?_)) ?_; (· omega); (· omega); skip) | refine wl_free .none rfl (yf_conv rfl (by kernel_rfl) Try.underlying3 rfl) ?_
  refine wl_free .none rfl (yf_move rfl) ?_
  refine wl_free .none rfl (yf_nilCheck rfl) ?_
  refine wl_free .none rfl (yf_fieldAddr (off := 0) (sz := 0) rfl Try.underlying142 (by kernel_rfl) rfl) ?_
  refine wl_free .none rfl (yf_loadG rfl (fun w h => OnL.RM (HpG.x h)) rfl Try.underlying139 rfl) ?_
  refine wl_free .none rfl (yf_lenS rfl Try.underlying139) ?_
  refine wl_free .none rfl (yf_lss rfl rfl) ?_
  refine wl_free .none rfl (yf_assign rfl) ?_
  refine wl_nil ?_
  refine wq_then ?_
  refine wc_ret ?_
  refine wq_ret1 rfl rfl (fun w hw => ?_)
  exact ⟨rfl, (HpG.keep hw).ext⟩
theorem i64s_at {l : List Int} {i : Nat} (hi : i < l.length) {o : Nat} (ho : o = i) : (i64s l)[o]? = some (.int .i64 (l.getD i 0)) := by
  subst ho
  rw [i64s, List.getElem?_map, List.getElem?_eq_getElem hi, List.getD_eq_getElem?_getD, List.getElem?_eq_getElem hi]; rfl
/-- Has the page of an address the right r (1 or 2)? -/
def rightR (rs : List Int) (a r : Int) : Bool := decide (a < 768) && ((IntKind.i64.wrap ((rs.getD (a / 256).toNat 0).tdiv r)).tmod 2 == 1)
theorem right_any (ν : Rm) (ok : ν.Ok) (a : Int) (ha : U32 a) (r : Int) (hr : r = 1 ∨ r = 2) (w : World) (h : OnL (refL ν) w) : Calls Try.prog 113 #[ptrV ν.M, .int .u32 a, .int .i64 r] w fun e w' => e = .returned (.bool (rightR ν.r a r)) ∧ Ext w w' := by
  have h1 := ha.1
  have h2 := ha.2
  refine calls_wc (args := [ptrV ν.M, .int .u32 a, .int .i64 r]) Try.func113 rfl 26 rfl (Nat.le_of_ble_eq_true rfl) ?_
  refine wc_weak (.cons (i := 0) rfl <| .cons (i := 1) rfl <| .cons (i := 2) rfl <| .nil) ?_
  refine wc_conseq (H' := Hp (fun _ => False) w [] [] (OnL (refL ν))) (fun u hu => ?_) ?_
  · subst hu; exact Hp.start h.foot
  refine wc_seq ?_
  refine wc_region ?_
  refine wl_free .none rfl (yf_assign rfl) ?_
  refine wl_nil ?_
  refine wq_then ?_
  refine wc_seq ?_
  refine wc_region ?_
  refine wl_free .none rfl (yf_move rfl) ?_
  refine wl_free .none rfl (yf_move rfl) ?_
  refine wl_pure .none rfl (by kernel_rfl) rfl (fun w hw => in_any ν a ⟨h1, h2⟩ w (HpG.x hw)) ?_
  refine wl_free .none rfl (yf_assign rfl) ?_
  refine wl_nil ?_
  refine wq_then ?_
  refine wc_seq ?_
  refine wc_weak (.cons (i := 0) rfl <| .cons (i := 1) rfl <| .cons (i := 2) rfl <| .cons (i := 6) rfl <| .cons (i := 7) rfl <| .nil) ?_
  refine wc_region ?_
  refine wl_free .none rfl (yf_move rfl) ?_
  refine wl_free .none rfl (yf_move rfl) ?_
  refine wl_split 12 rfl (fun hb => ?_) (fun hb => ?_)
  · skip
    have hlt : a < 768 := of_decide_eq_true hb
    obtain ⟨q, hq⟩ : ∃ q : Nat, a / 256 = q := ⟨(a / 256).toNat, by omega⟩
    refine wl_free (.some rfl rfl) rfl (yf_move rfl) ?_
    refine wl_free (.some rfl rfl) rfl (yf_nilCheck rfl) ?_
    refine wl_free (.some rfl rfl) rfl (yf_fieldAddr (off := 4) (sz := 0) rfl Try.underlying142 (by kernel_rfl) rfl) ?_
    refine wl_free (.some rfl rfl) rfl (yf_loadG rfl (fun w h => OnL.RM (HpG.x h)) rfl Try.underlying23 rfl) ?_
    refine wl_free (.some rfl rfl) rfl (yf_move rfl) ?_
    (refine wl_free (.some rfl rfl) rfl (yf_quo rfl rfl ?_ ((by rw [Int.tdiv_eq_ediv_of_nonneg h1]; exact u32_in _ (by omega) (by omega)) : IntKind.u32.wrap (a.tdiv 256) = a / 256)) ?_; (· first | decide | omega); skip)
    (refine wl_free (.some rfl rfl) rfl (yf_indexAddrS (es := 1) rfl rfl Try.underlying23 (by kernel_rfl) hq ?_ rfl) ?_; (· first | decide | omega | (simp; omega)); skip)
    refine wl_free (.some rfl rfl) rfl (yf_loadG (v := .int .i64 (ν.r.getD q 0)) rfl (fun w h => OnL.RE (HpG.x h)) (i64s_at (by rw [ok.lr]; omega) (by omega)) Try.underlying3 rfl) ?_
    refine wl_free (.some rfl rfl) rfl (yf_move rfl) ?_
    (refine wl_free (.some rfl rfl) rfl (yf_quo rfl rfl ?_ rfl) ?_; (· first | decide | omega); skip)
    (refine wl_free (.some rfl rfl) rfl (yf_rem rfl rfl ?_ rfl) ?_; (· first | decide | omega); skip)
    refine wl_free (.some rfl rfl) rfl (yf_eql rfl rfl) ?_
    refine wl_free .none rfl (yf_pickT rfl rfl) ?_
    refine wl_free .none rfl (yf_assign rfl) ?_
    refine wl_nil ?_
    refine wq_then ?_
    refine wc_ret ?_
    refine wq_ret1 rfl rfl (fun w hw => ?_)
    exact ⟨by unfold rightR; rw [hq, Int.toNat_natCast, decide_eq_true hlt]; rfl, (HpG.keep hw).ext⟩
  · skip
    have hge : ¬ a < 768 := of_decide_eq_false hb
    refine wl_pass (.some rfl rfl rfl) rfl ?_
    refine wl_pass (.some rfl rfl rfl) rfl ?_
    refine wl_pass (.some rfl rfl rfl) rfl ?_
    refine wl_pass (.some rfl rfl rfl) rfl ?_
    refine wl_pass (.some rfl rfl rfl) rfl ?_
    refine wl_pass (.some rfl rfl rfl) rfl ?_
    refine wl_pass (.some rfl rfl rfl) rfl ?_
    refine wl_pass (.some rfl rfl rfl) rfl ?_
    refine wl_pass (.some rfl rfl rfl) rfl ?_
    refine wl_pass (.some rfl rfl rfl) rfl ?_
    refine wl_pass (.some rfl rfl rfl) rfl ?_
    refine wl_pass (.some rfl rfl rfl) rfl ?_
    refine wl_free .none rfl (yf_pickF rfl rfl) ?_
    refine wl_free .none rfl (yf_assign rfl) ?_
    refine wl_nil ?_
    refine wq_then ?_
    refine wc_ret ?_
    refine wq_ret1 rfl rfl (fun w hw => ?_)
    exact ⟨by unfold rightR; rw [decide_eq_false hge]; rfl, (HpG.keep hw).ext⟩
end Go.Proofs.Ytojofinofpgopaa
/- The reference's memory: New, Poke, Protect. -/
namespace Go.Proofs.Ytojofinofpgopaa
open Go.RowKit
theorem made_i64 (n : Nat) : madeCells (Value.int .i64 0).cells (n * 1) = (i64s (List.replicate n 0)).toArray := by
  show madeCells #[Value.int .i64 0] (n * 1) = _
  rw [made_one, Nat.mul_one, i64s, List.map_replicate]
abbrev z768 : List Int := List.replicate 768 0
abbrev z3 : List Int := List.replicate 3 0
set_option maxRecDepth 100000 in
theorem refNew_any (w_0 : World) : Calls Try.prog 65 #[.int .i64 3, .bool false] w_0 fun e w' => ∃ ν : Rm, (ν.Ok ∧ ν.b = List.replicate 768 0 ∧ ν.r = [0, 0, 0]) ∧ e = .returned (ptrV ν.M) ∧ Hp (fun _ => False) w_0 (refL ν) [] (fun _ => True) w' := by
  refine calls_wc (args := [.int .i64 3, .bool false]) Try.func65 rfl 36 rfl (Nat.le_of_ble_eq_true rfl) ?_
  refine wc_weak (.cons (i := 0) rfl <| .cons (i := 1) rfl <| .nil) ?_
  refine wc_conseq (H' := Hp (fun _ => False) w_0 [] [] (fun _ => True)) (fun u hu => ?_) ?_
  · subst hu; exact Hp.start0
  refine wc_seq ?_
  refine wc_region ?_
  refine wl_free .none rfl (yf_assign rfl) ?_
  refine wl_nil ?_
  refine wq_then ?_
  refine wc_seq ?_
  refine wc_region ?_
  refine wl_free .none rfl (yf_move rfl) ?_
  refine wl_free .none rfl (yf_minC (c := 3) rfl rfl (by decide)) ?_
  refine wl_free .none rfl (yf_maxC (c := ((3 : Nat) : Int)) rfl rfl (by decide)) ?_
  refine wl_free .none rfl (yf_assign rfl) ?_
  refine wl_nil ?_
  refine wq_then ?_
  refine wc_seq ?_
  refine wc_weak (.cons (i := 0) rfl <| .cons (i := 1) rfl <| .cons (i := 4) rfl <| .cons (i := 5) rfl <| .nil) ?_
  refine wc_drawN [0, 1, 2, 3, 4, 5, 6, 7, 8, 9, 10, 11] (fun _ => True) (by kernel_rfl) (by kernel_rfl) (fun _ _ _ => trivial) (fun _ _ => trivial) (fun n0 hn0 => ?_)
  refine wd_at rfl ?_
  (refine wd_free ?_ .none rfl (yf_move rfl) ?_; (· rfl);  skip)
  refine wd_at rfl ?_
  first | (refine wd_free ?_ .none rfl (yf_mul rfl rfl (i64_in _ ?_ ?_)) ?_; (· rfl); (· omega); (· omega); skip) | (refine wd_free ?_ .none rfl (yf_mul rfl rfl rfl) ?_; (· rfl);  skip)
  refine wd_at rfl ?_
  refine wd_newH ?_ .none rfl (fun k hk => Nat.lt_of_lt_of_le hk hn0) (nf_makeSlice (l := 768) (z := .int .u8 0) (size := 1) (bytes := 1) (cs := u8s z768) rfl Try.underlying139 (by kernel_rfl) (made_u8 768) (by decide) (by decide) (by decide)) (fun b12 hb12 => ?_)
  · rfl
  refine wd_at rfl ?_
  (refine wd_free ?_ .none rfl (yf_move rfl) ?_; (· rfl);  skip)
  refine wd_at rfl ?_
  first | (refine wd_free ?_ .none rfl (yf_mul rfl rfl (i64_in _ ?_ ?_)) ?_; (· rfl); (· omega); (· omega); skip) | (refine wd_free ?_ .none rfl (yf_mul rfl rfl rfl) ?_; (· rfl);  skip)
  refine wd_at rfl ?_
  refine wd_newH ?_ .none rfl (fun k hk => .inr (Nat.lt_of_lt_of_le hk hn0)) (nf_makeSlice (l := 768) (z := .int .u8 0) (size := 1) (bytes := 1) (cs := u8s z768) rfl Try.underlying139 (by kernel_rfl) (made_u8 768) (by decide) (by decide) (by decide)) (fun b15 hb15 => ?_)
  · rfl
  refine wd_at rfl ?_
  (refine wd_free ?_ .none rfl (yf_move rfl) ?_; (· rfl);  skip)
  refine wd_at rfl ?_
  refine wd_newH ?_ .none rfl (fun k hk => .inr (.inr (Nat.lt_of_lt_of_le hk hn0))) (nf_makeSlice (l := 3) (z := .int .i64 0) (size := 1) (bytes := 8) (cs := i64s z3) rfl Try.underlying23 (by kernel_rfl) (made_i64 3) (by decide) (by decide) (by decide)) (fun b17 hb17 => ?_)
  · rfl
  refine wd_at rfl ?_
  (refine wd_free ?_ .none rfl (yf_move rfl) ?_; (· rfl);  skip)
  refine wd_at rfl ?_
  (refine wd_free ?_ .none rfl (yf_buildS [.slice none 0 0, .slice none 0 0, .slice none 0 0, .slice none 0 0, .slice none 0 0, .bool false] [(0, 1), (1, 1), (2, 1), (3, 1), (4, 1), (5, 1)] rfl (by kernel_rfl) (by kernel_rfl) rfl) ?_; (· rfl);  skip)
  refine wd_at rfl ?_
  refine wd_newH ?_ .none rfl (fun k hk => .inr (.inr (.inr (Nat.lt_of_lt_of_le hk hn0)))) (nf_box rfl rfl) (fun b20 hb20 => ?_)
  · rfl
  refine wd_at rfl ?_
  (refine wd_free ?_ .none rfl (yf_assign rfl) ?_; (· rfl);  skip)
  refine wd_endH ?_
  refine wq_then ?_
  refine wc_seq ?_
  refine wc_seq ?_
  refine wc_weak (.cons (i := 0) rfl <| .cons (i := 1) rfl <| .cons (i := 4) rfl <| .cons (i := 5) rfl <| .cons (i := 6) rfl <| .nil) ?_
  refine wc_region ?_
  refine wl_free .none rfl (yf_move rfl) ?_
  refine wl_free .none rfl (yf_not rfl) ?_
  refine wl_nil ?_
  refine wq_then ?_
  refine wc_cond rfl (fun hc => ?_) (fun hc => ?_)
  · skip
    refine wc_seq ?_
    refine wc_weak (.cons (i := 0) rfl <| .cons (i := 1) rfl <| .cons (i := 4) rfl <| .cons (i := 5) rfl <| .cons (i := 6) rfl <| .cons (i := 22) rfl <| .nil) ?_
    refine wc_region ?_
    refine wl_free .none rfl (yf_move rfl) ?_
    refine wl_free .none rfl (yf_move rfl) ?_
    first | (refine wl_free .none rfl (yf_mul rfl rfl (i64_in _ ?_ ?_)) ?_; (· omega); (· omega); skip) | refine wl_free .none rfl (yf_mul rfl rfl rfl) ?_
    refine wl_new .none rfl (nf_makeSlice (l := 768) (z := .int .u8 0) (size := 1) (bytes := 1) (cs := u8s z768) rfl Try.underlying139 (by kernel_rfl) (made_u8 768) (by decide) (by decide) (by decide)) (fun b26 => ?_)
    refine wl_free .none rfl (yf_nilCheck rfl) ?_
    refine wl_free .none rfl (yf_fieldAddr (off := 1) (sz := 0) rfl Try.underlying142 (by kernel_rfl) rfl) ?_
    first | refine wl_chain0 .none (cf_store 0 rfl rfl rfl rfl rfl (by kernel_rfl)) (fun _ => ?_) | refine wl_chain0 .none (cf_store 1 rfl rfl rfl rfl rfl (by kernel_rfl)) (fun _ => ?_) | refine wl_chain0 .none (cf_store 2 rfl rfl rfl rfl rfl (by kernel_rfl)) (fun _ => ?_) | refine wl_chain0 .none (cf_store 3 rfl rfl rfl rfl rfl (by kernel_rfl)) (fun _ => ?_) | refine wl_chain0 .none (cf_store 4 rfl rfl rfl rfl rfl (by kernel_rfl)) (fun _ => ?_) | refine wl_chain0 .none (cf_store 5 rfl rfl rfl rfl rfl (by kernel_rfl)) (fun _ => ?_)
    refine wl_nil ?_
    refine wq_then ?_
    refine wc_weak (.cons (i := 0) rfl <| .cons (i := 1) rfl <| .cons (i := 4) rfl <| .cons (i := 5) rfl <| .cons (i := 6) rfl <| .cons (i := 22) rfl <| .nil) ?_
    refine wc_region ?_
    refine wl_free .none rfl (yf_move rfl) ?_
    refine wl_free .none rfl (yf_move rfl) ?_
    first | (refine wl_free .none rfl (yf_mul rfl rfl (i64_in _ ?_ ?_)) ?_; (· omega); (· omega); skip) | refine wl_free .none rfl (yf_mul rfl rfl rfl) ?_
    refine wl_new .none rfl (nf_makeSlice (l := 768) (z := .int .u8 0) (size := 1) (bytes := 1) (cs := u8s z768) rfl Try.underlying139 (by kernel_rfl) (made_u8 768) (by decide) (by decide) (by decide)) (fun b32 => ?_)
    refine wl_free .none rfl (yf_nilCheck rfl) ?_
    refine wl_free .none rfl (yf_fieldAddr (off := 3) (sz := 0) rfl Try.underlying142 (by kernel_rfl) rfl) ?_
    first | refine wl_chain0 .none (cf_store 0 rfl rfl rfl rfl rfl (by kernel_rfl)) (fun _ => ?_) | refine wl_chain0 .none (cf_store 1 rfl rfl rfl rfl rfl (by kernel_rfl)) (fun _ => ?_) | refine wl_chain0 .none (cf_store 2 rfl rfl rfl rfl rfl (by kernel_rfl)) (fun _ => ?_) | refine wl_chain0 .none (cf_store 3 rfl rfl rfl rfl rfl (by kernel_rfl)) (fun _ => ?_) | refine wl_chain0 .none (cf_store 4 rfl rfl rfl rfl rfl (by kernel_rfl)) (fun _ => ?_) | refine wl_chain0 .none (cf_store 5 rfl rfl rfl rfl rfl (by kernel_rfl)) (fun _ => ?_)
    refine wl_nil ?_
    refine wq_then ?_
    refine wc_seq ?_
    refine wc_weak (.cons (i := 0) rfl <| .cons (i := 1) rfl <| .cons (i := 4) rfl <| .cons (i := 5) rfl <| .cons (i := 6) rfl <| .cons (i := 22) rfl <| .nil) ?_
    refine wc_region ?_
    refine wl_free .none rfl (yf_move rfl) ?_
    refine wl_free .none rfl (yf_assign rfl) ?_
    refine wl_nil ?_
    refine wq_then ?_
    refine wc_ret ?_
    refine wq_ret1 rfl rfl (fun w hw => ?_)
    have hnd := (List.nodup_append.1 (HpG.nd hw)).1
    have e3 : [b32, b26, b20, b17, b15, b12].Nodup := hnd
    have h2 : [b20, b12, b17].Nodup := by
      simp at e3 ⊢
      omega
    refine ⟨⟨b20, b12, b17, b26, b15, b32, z768, z3⟩, ⟨⟨List.length_replicate, rfl, fun v hv => by rw [List.eq_of_mem_replicate hv]; exact ⟨by decide, by decide⟩, h2⟩, rfl, rfl⟩, rfl, Hp.sub hw (fun q hq => ?_) h2⟩
    have hq' : q = (b20, bk 142 [sl b12 768, sl b26 768, sl b15 768, sl b32 768, sl b17 3, .bool false]) ∨ q = (b12, bk 5 (u8s z768)) ∨ q = (b17, bk 3 (i64s z3)) := by
      simpa [refL] using hq
    rcases hq' with rfl | rfl | rfl
    · exact List.mem_of_getElem? (i := 2) rfl
    · exact List.mem_of_getElem? (i := 5) rfl
    · exact List.mem_of_getElem? (i := 3) rfl
  · skip
    exact absurd hc (by decide)
end Go.Proofs.Ytojofinofpgopaa
/- The reference's memory: Poke, Protect; Setup.model. -/
namespace Go.Proofs.Ytojofinofpgopaa
open Go.RowKit
theorem pokeL_len (b : List Int) (s : ByteArray) : ∀ i, (pokeL b s i).length = b.length
  | 0 => rfl
  | i + 1 => by show (List.set _ _ _).length = _; rw [List.length_set]; exact pokeL_len b s i
theorem pokeL_u8 {b : List Int} (h : ∀ v ∈ b, U8 v) (s : ByteArray) : ∀ i, ∀ v ∈ pokeL b s i, U8 v
  | 0 => h
  | i + 1 => mem_set (pokeL_u8 h s i) (sByte_u8 s i)
abbrev Rm.pk (ν : Rm) (s : ByteArray) (i : Nat) : Rm := { ν with b := pokeL ν.b s i }
theorem Rm.Ok.pk {ν : Rm} (h : ν.Ok) (s : ByteArray) (i : Nat) : (ν.pk s i).Ok := ⟨by show (pokeL ν.b s i).length = 768; rw [pokeL_len, h.lb], h.lr, pokeL_u8 h.u8 s i, h.nd⟩
set_option maxRecDepth 100000 in
theorem refPoke_any (ν : Rm) (ok : ν.Ok) (s : ByteArray) (hs : s.size ≤ 768) (w_0 : World) (h : OnL (refL ν) w_0) : Calls Try.prog 66 #[ptrV ν.M, .int .u32 0, .string s] w_0 fun e w' =>
    ∃ ν' : Rm, ν' = ν.pk s s.size ∧ e = .returned (.tuple #[]) ∧ Hp (fun k => k ∈ (refL ν).map (·.1)) w_0 (refL ν') [] (fun _ => True) w' := by
  refine calls_wc (args := [ptrV ν.M, .int .u32 0, .string s]) Try.func66 rfl 33 rfl (Nat.le_of_ble_eq_true rfl) ?_
  refine wc_weak (.cons (i := 0) rfl <| .cons (i := 1) rfl <| .cons (i := 2) rfl <| .nil) ?_
  refine wc_conseq (H' := Hp (fun k => k ∈ (refL ν).map (·.1)) w_0 (refL ν) [] (fun _ => True)) (fun u hu => ?_) ?_
  · subst hu; exact Hp.startL h ok.nodup
  refine wc_seq ?_
  refine wc_region ?_
  refine wl_free .none rfl (yf_assign rfl) ?_
  refine wl_nil ?_
  refine wq_then ?_
  refine wc_block ?_
  refine wc_loop (ι := {i : Nat // i ≤ s.size}) (fun i => [(0, ptrV ν.M), (1, .int .u32 0), (2, .string s), (6, .int .i64 i.1)]) (fun i => Hp (fun k => k ∈ (refL ν).map (·.1)) w_0 (refL (ν.pk s i.1)) [] (fun _ => True)) (fun i => s.size - i.1) ⟨0, by omega⟩ ?_ ?_ (fun i => ?_)
  · exact .cons rfl <| .cons rfl <| .cons rfl <| .cons rfl <| .nil
  · exact fun w h => h
  obtain ⟨i, hi⟩ := i
  dsimp only
  refine wc_seq ?_
  refine wc_seq ?_
  refine wc_region ?_
  refine wl_free .none rfl (yf_move rfl) ?_
  refine wl_free .none rfl (yf_move rfl) ?_
  refine wl_free .none rfl (yf_lenStr rfl Try.underlying9) ?_
  refine wl_free .none rfl (yf_lss rfl rfl) ?_
  refine wl_nil ?_
  refine wq_then ?_
  refine wc_cond rfl (fun hc => ?_) (fun hc => ?_)
  · replace hc := of_decide_eq_true hc
    refine wc_skip ?_
    refine wq_then ?_
    refine wc_seq ?_
    refine wc_block ?_
    refine wc_seq ?_
    refine wc_weak (.cons (i := 0) rfl <| .cons (i := 1) rfl <| .cons (i := 2) rfl <| .cons (i := 6) rfl <| .cons (i := 11) rfl <| .nil) ?_
    refine wc_region ?_
    refine wl_free .none rfl (yf_move rfl) ?_
    refine wl_free .none rfl (yf_move rfl) ?_
    refine wl_free .none rfl (yf_move rfl) ?_
    first | (refine wl_free .none rfl (yf_conv rfl (by kernel_rfl) Try.underlying34 (u32_in _ ?_ ?_)) ?_; (· omega); (· omega); skip) | refine wl_free .none rfl (yf_conv rfl (by kernel_rfl) Try.underlying34 rfl) ?_
    refine wl_free .none rfl (yf_add rfl rfl ((by rw [Int.zero_add]; exact u32_in _ (by omega) (by omega)) : IntKind.u32.wrap (0 + (i : Int)) = i)) ?_
    refine wl_pure .none rfl (by kernel_rfl) rfl (fun w hw => in_any (ν.pk s i) i ⟨by omega, by omega⟩ w (HpG.own hw)) ?_
    refine wl_free .none rfl (yf_assign rfl) ?_
    refine wl_nil ?_
    refine wq_then ?_
    refine wc_seq ?_
    refine wc_weak (.cons (i := 0) rfl <| .cons (i := 1) rfl <| .cons (i := 2) rfl <| .cons (i := 6) rfl <| .cons (i := 7) rfl <| .cons (i := 11) rfl <| .nil) ?_
    refine wc_region ?_
    refine wl_free .none rfl (yf_move rfl) ?_
    refine wl_nil ?_
    refine wq_then ?_
    refine wc_cond rfl (fun hc => ?_) (fun hc => ?_)
    · skip
      refine wc_still 11 (by kernel_rfl) (by kernel_rfl) (fun _ h => HpG.drew h) ?_
      refine wt_free .none rfl (yf_move rfl) ?_
      refine wt_free .none rfl (yf_nilCheck rfl) ?_
      refine wt_free .none rfl (yf_fieldAddr (off := 0) (sz := 0) rfl Try.underlying142 (by kernel_rfl) rfl) ?_
      refine wt_free .none rfl (yf_loadG rfl (fun w h => OnL.RM (ν := ν.pk s i) (HpG.own h)) rfl Try.underlying139 rfl) ?_
      refine wt_free .none rfl (yf_move rfl) ?_
      refine wt_free .none rfl (yf_move rfl) ?_
      first | (refine wt_free .none rfl (yf_conv rfl (by kernel_rfl) Try.underlying34 (u32_in _ ?_ ?_)) ?_; (· omega); (· omega); skip) | refine wt_free .none rfl (yf_conv rfl (by kernel_rfl) Try.underlying34 rfl) ?_
      refine wt_free .none rfl (yf_add rfl rfl ((by rw [Int.zero_add]; exact u32_in _ (by omega) (by omega)) : IntKind.u32.wrap (0 + (i : Int)) = i)) ?_
      refine wt_free .none rfl (yf_move rfl) ?_
      refine wt_free .none rfl (yf_move rfl) ?_
      refine wt_free .none rfl (yf_index rfl rfl (fun W => index_str Try.underlying9 (by omega) W)) ?_
      refine wt_tail ?_
      first | (refine wl_free .none rfl (yf_indexAddrS (es := 1) rfl rfl Try.underlying139 (by kernel_rfl) rfl ?_ rfl) ?_; (· first | decide | omega | (simp; omega)); skip) | (refine wl_free .none rfl (yf_indexAddrS (es := 1) rfl rfl Try.underlying139 (by kernel_rfl) (Int.toNat_of_nonneg ?_).symm ?_ rfl) ?_; (· omega); (· first | decide | omega | (simp; omega)); skip)
      refine wl_chain0 .none (cf_store 1 rfl rfl rfl rfl (blt_of (by rw [u8s_len]; show _ < (pokeL ν.b s i).length; rw [pokeL_len, ok.lb]; omega)) (by kernel_rfl)) (fun _ => ?_)
      refine wl_nil ?_
      refine wq_block ?_
      refine wq_then ?_
      refine wc_weak (.cons (i := 0) rfl <| .cons (i := 1) rfl <| .cons (i := 2) rfl <| .cons (i := 6) rfl <| .cons (i := 7) rfl <| .cons (i := 11) rfl <| .cons (i := 20) rfl <| .nil) ?_
      refine wc_region ?_
      refine wl_free .none rfl (yf_move rfl) ?_
      first | (refine wl_free .none rfl (yf_add rfl rfl (i64_in _ ?_ ?_)) ?_; (· omega); (· omega); skip) | refine wl_free .none rfl (yf_add rfl rfl rfl) ?_
      refine wl_free .none rfl (yf_assign rfl) ?_
      refine wl_nil ?_
      refine wq_round (ι := {i : Nat // i ≤ s.size}) ⟨i + 1, by omega⟩ (by show s.size - (i + 1) < s.size - i; omega) (.cons rfl <| .cons rfl <| .cons rfl <| .consE rfl rfl <| .nil) (fun u h => ?_)
      have e : (u8s (pokeL ν.b s i)).set (0 + i * 1) (.int .u8 (sByte s i)) = u8s (pokeL ν.b s (i + 1)) := by
        rw [Nat.zero_add, Nat.mul_one, u8s, u8s, ← List.map_set]; rfl
      show Hp _ _ [_, (ν.D, bk 5 (u8s (pokeL ν.b s (i + 1)))), _] _ _ _
      rw [← e]; exact h
    · skip
      exact absurd (of_decide_eq_false hc) (by omega)
  · replace hc := of_decide_eq_false hc
    refine wc_exit ?_
    refine wq_then_exit ?_
    refine wq_then_exit ?_
    refine wq_here ?_
    refine wq_end0 rfl (fun w hw => ?_)
    have e : i = s.size := by omega
    subst e
    exact ⟨_, rfl, rfl, hw⟩
abbrev Rm.pr (ν : Rm) (n : Nat) (r : Int) : Rm := { ν with r := ν.r.set n r }
theorem Rm.Ok.pr {ν : Rm} (h : ν.Ok) (n : Nat) (r : Int) : (ν.pr n r).Ok := ⟨h.lb, by show (ν.r.set n r).length = 3; rw [List.length_set]; exact h.lr, h.u8, h.nd⟩
theorem refProtect_any (ν : Rm) (ok : ν.Ok) (n : Nat) (hn : n < 3) (r : Int) (w_0 : World) (h : OnL (refL ν) w_0) : Calls Try.prog 67 #[ptrV ν.M, .int .i64 n, .int .i64 r] w_0 fun e w' =>
    ∃ ν' : Rm, ν' = ν.pr n (bits .and .i64 r 7) ∧ e = .returned (.tuple #[]) ∧ Hp (fun k => k ∈ (refL ν).map (·.1)) w_0 (refL ν') [] (fun _ => True) w' := by
  have hlr := ok.lr
  refine calls_wc (args := [ptrV ν.M, .int .i64 n, .int .i64 r]) Try.func67 rfl 25 rfl (Nat.le_of_ble_eq_true rfl) ?_
  refine wc_weak (.cons (i := 0) rfl <| .cons (i := 1) rfl <| .cons (i := 2) rfl <| .nil) ?_
  refine wc_conseq (H' := Hp (fun k => k ∈ (refL ν).map (·.1)) w_0 (refL ν) [] (fun _ => True)) (fun u hu => ?_) ?_
  · subst hu; exact Hp.startL h ok.nodup
  refine wc_seq ?_
  refine wc_region ?_
  refine wl_free .none rfl (yf_move rfl) ?_
  refine wl_free .none rfl (yf_geq rfl rfl) ?_
  refine wl_free .none rfl (yf_move rfl) ?_
  refine wl_split 8 rfl (fun hb => ?_) (fun hb => ?_)
  · replace hb := of_decide_eq_true hb
    refine wl_free (.some rfl rfl) rfl (yf_move rfl) ?_
    refine wl_free (.some rfl rfl) rfl (yf_move rfl) ?_
    refine wl_free (.some rfl rfl) rfl (yf_nilCheck rfl) ?_
    refine wl_free (.some rfl rfl) rfl (yf_fieldAddr (off := 4) (sz := 0) rfl Try.underlying142 (by kernel_rfl) rfl) ?_
    refine wl_free (.some rfl rfl) rfl (yf_loadG rfl (fun w h => OnL.RM (HpG.own h)) rfl Try.underlying23 rfl) ?_
    refine wl_free (.some rfl rfl) rfl (yf_lenS rfl Try.underlying23) ?_
    refine wl_free (.some rfl rfl) rfl (yf_lss rfl rfl) ?_
    refine wl_free .none rfl (yf_pickT rfl rfl) ?_
    refine wl_nil ?_
    refine wq_then ?_
    refine wc_cond rfl (fun hc => ?_) (fun hc => ?_)
    · replace hc := of_decide_eq_true hc
      refine wc_weak (.cons (i := 0) rfl <| .cons (i := 1) rfl <| .cons (i := 2) rfl <| .cons (i := 16) rfl <| .nil) ?_
      refine wc_region ?_
      refine wl_free .none rfl (yf_move rfl) ?_
      refine wl_free .none rfl (yf_nilCheck rfl) ?_
      refine wl_free .none rfl (yf_fieldAddr (off := 4) (sz := 0) rfl Try.underlying142 (by kernel_rfl) rfl) ?_
      refine wl_free .none rfl (yf_loadG rfl (fun w h => OnL.RM (HpG.own h)) rfl Try.underlying23 rfl) ?_
      refine wl_free .none rfl (yf_move rfl) ?_
      refine wl_free .none rfl (yf_move rfl) ?_
      refine wl_free .none rfl (yf_and rfl rfl rfl) ?_
      first | (refine wl_free .none rfl (yf_indexAddrS (es := 1) rfl rfl Try.underlying23 (by kernel_rfl) rfl ?_ rfl) ?_; (· first | decide | omega | (simp; omega)); skip) | (refine wl_free .none rfl (yf_indexAddrS (es := 1) rfl rfl Try.underlying23 (by kernel_rfl) (Int.toNat_of_nonneg ?_).symm ?_ rfl) ?_; (· omega); (· first | decide | omega | (simp; omega)); skip)
      refine wl_chain0 .none (cf_store 2 rfl rfl rfl rfl (blt_of (by rw [i64s, List.length_map]; omega)) (by kernel_rfl)) (fun _ => ?_)
      refine wl_nil ?_
      refine wq_end0 rfl (fun w hw => ?_)
      refine ⟨_, rfl, rfl, ?_⟩
      have e : (i64s ν.r).set (0 + n * 1) (.int .i64 (bits .and .i64 r 7)) = i64s (ν.r.set n (bits .and .i64 r 7)) := by
        rw [Nat.zero_add, Nat.mul_one, i64s, i64s, ← List.map_set]
      show Hp _ _ [_, _, (ν.E, bk 3 (i64s (ν.r.set n (bits .and .i64 r 7))))] _ _ _
      rw [← e]; exact hw
    · replace hc := of_decide_eq_false hc
      omega
  · replace hb := of_decide_eq_false hb
    omega
end Go.Proofs.Ytojofinofpgopaa
/- Setup.model: the reference's memory that a setup describes. -/
namespace Go.Proofs.Ytojofinofpgopaa
open Go.RowKit
structure SrI (x : Su) (M : Nat) (j : Rm × Nat) : Prop where
  ok : j.1.Ok
  M : j.1.M = M
  by_ : j.1.b = suBytes x
  le : j.2 ≤ 3
  r : j.1.r = rlL x j.2
set_option maxRecDepth 100000 in
theorem model_any (x : Su) (w_0 : World) : Calls Try.prog 30 #[.agg (suC x).toArray] w_0 fun e w' => ∃ ν : Rm, (ν.Ok ∧ ν.b = suBytes x ∧ ν.r = rlL x 3) ∧ e = .returned (ptrV ν.M) ∧ Hp (fun _ => False) w_0 (refL ν) [] (fun _ => True) w' := by
  refine calls_wc (args := [.agg (suC x).toArray]) Try.func30 rfl 24 rfl (Nat.le_of_ble_eq_true rfl) ?_
  refine wc_weak (.cons (i := 0) rfl <| .nil) ?_
  refine wc_conseq (H' := Hp (fun _ => False) w_0 [] [] (fun _ => True)) (fun u hu => ?_) ?_
  · subst hu; exact Hp.start0
  refine wc_seq ?_
  refine wc_region ?_
  refine wl_new .none rfl (nf_box rfl rfl) (fun b1 => ?_)
  refine wl_free .none rfl (yf_assign rfl) ?_
  refine wl_nil ?_
  refine wq_then ?_
  refine wc_seq ?_
  refine wc_region ?_
  refine wl_callM [(b1, bk 50 (suC x))] [] .none rfl (by kernel_rfl) rfl (fun w _ _ => (refNew_any w).mono fun e w' ⟨ν, h1, h2, h3⟩ => ⟨ν, h1, h2, Hp.nob h3⟩) (fun ν hν => ?_)
  obtain ⟨ok, hby, hr⟩ := hν
  refine wl_free .none rfl (yf_assign rfl) ?_
  refine wl_nil ?_
  refine wq_then ?_
  refine wc_seq ?_
  refine wc_weak (.cons (i := 0) rfl <| .cons (i := 1) rfl <| .cons (i := 2) rfl <| .cons (i := 3) rfl <| .nil) ?_
  refine wc_region ?_
  refine wl_free .none rfl (yf_move rfl) ?_
  refine wl_free .none rfl (yf_fieldAddr (off := 3) (sz := 0) rfl Try.underlying50 (by kernel_rfl) rfl) ?_
  refine wl_free .none rfl (yf_loadL 0 rfl rfl rfl Try.underlying34 rfl) ?_
  refine wl_pure .none rfl (by kernel_rfl) rfl (fun w hw => fill_any x.fill w) ?_
  refine wl_callM [(b1, bk 50 (suC x))] (refL ν) .none rfl (by kernel_rfl) rfl (fun w hm _ => refPoke_any ν ok (fillS x.fill) (by rw [fillS_size]; decide) w hm) (fun ν1 hν1 => ?_)
  have ok1 : ν1.Ok := by rw [hν1]; exact ok.pk _ _
  have M1 : ν1.M = ν.M := by rw [hν1]
  have b1e : ν1.b = suBytes x := by
    have e1 : ν1.b = pokeL ν.b (fillS x.fill) (fillS x.fill).size := by rw [hν1]
    rw [e1, hby, fillS_size, suBytes]
  have r1 : ν1.r = [0, 0, 0] := by rw [hν1]; exact hr
  refine wl_nil ?_
  refine wq_then ?_
  refine wc_seq ?_
  refine wc_seq ?_
  refine wc_weak (.cons (i := 0) rfl <| .cons (i := 1) rfl <| .cons (i := 2) rfl <| .cons (i := 3) rfl <| .nil) ?_
  refine wc_region ?_
  refine wl_free .none rfl (yf_assign rfl) ?_
  refine wl_nil ?_
  refine wq_then ?_
  refine wc_block ?_
  refine wc_loop (ι := {j : Rm × Nat // SrI x ν.M j}) (fun j => [(1, ptrV b1), (3, ptrV ν.M), (4, .int .i64 j.1.2)]) (fun j => Hp (fun _ => False) w_0 ([(b1, bk 50 (suC x))] ++ refL j.1.1) [] (fun _ => True)) (fun j => 3 - j.1.2) ⟨(ν1, 0), ok1, M1, b1e, Nat.zero_le 3, by rw [r1]; rfl⟩ ?_ ?_ (fun j => ?_)
  · exact .cons rfl <| .cons rfl <| .cons rfl <| .nil
  · exact fun w h => h
  obtain ⟨⟨νi, i⟩, oki, Mi, byi, lei, ri⟩ := j
  dsimp only at oki Mi byi lei ri ⊢
  refine wc_seq ?_
  refine wc_seq ?_
  refine wc_region ?_
  refine wl_free .none rfl (yf_move rfl) ?_
  refine wl_free .none rfl (yf_lss rfl rfl) ?_
  refine wl_nil ?_
  refine wq_then ?_
  refine wc_cond rfl (fun hc => ?_) (fun hc => ?_)
  · replace hc := of_decide_eq_true hc
    refine wc_skip ?_
    refine wq_then ?_
    refine wc_seq ?_
    refine wc_block ?_
    refine wc_weak (.cons (i := 1) rfl <| .cons (i := 3) rfl <| .cons (i := 4) rfl <| .cons (i := 12) rfl <| .nil) ?_
    refine wc_region ?_
    refine wl_free .none rfl (yf_move rfl) ?_
    refine wl_free .none rfl (yf_move rfl) ?_
    refine wl_free .none rfl (yf_move rfl) ?_
    refine wl_free .none rfl (yf_fieldAddr (off := 0) (sz := 2) rfl Try.underlying50 (by kernel_rfl) rfl) ?_
    first | (refine wl_free .none rfl (yf_indexAddrA (es := 1) rfl rfl Try.underlying30 (by kernel_rfl) rfl ?_ rfl) ?_; (· first | decide | omega | (simp; omega)); skip) | (refine wl_free .none rfl (yf_indexAddrA (es := 1) rfl rfl Try.underlying30 (by kernel_rfl) (Int.toNat_of_nonneg ?_).symm ?_ rfl) ?_; (· omega); (· first | decide | omega | (simp; omega)); skip)
    refine wl_free .none rfl (yf_loadL 0 rfl rfl (su_at x (i := i) (by omega) (by omega)) Try.underlying3 rfl) ?_
    refine wl_pure .none rfl (by kernel_rfl) rfl (fun w hw => rights_any _ w) ?_
    refine wl_callM [(b1, bk 50 (suC x))] (refL νi) .none rfl (by kernel_rfl) rfl (fun w hm _ => by rw [← Mi]; exact refProtect_any νi oki i (by omega) _ w hm) (fun ν' hν' => ?_)
    refine wl_nil ?_
    refine wq_block ?_
    refine wq_then ?_
    refine wc_weak (.cons (i := 1) rfl <| .cons (i := 3) rfl <| .cons (i := 4) rfl <| .cons (i := 12) rfl <| .nil) ?_
    refine wc_region ?_
    refine wl_free .none rfl (yf_move rfl) ?_
    first | (refine wl_free .none rfl (yf_add rfl rfl (i64_in _ ?_ ?_)) ?_; (· omega); (· omega); skip) | refine wl_free .none rfl (yf_add rfl rfl rfl) ?_
    refine wl_free .none rfl (yf_assign rfl) ?_
    refine wl_nil ?_
    refine wq_round (ι := {j : Rm × Nat // SrI x ν.M j}) ⟨(ν', i + 1), by rw [hν']; exact oki.pr _ _, by show ν'.M = _; rw [hν']; exact Mi, by show ν'.b = _; rw [hν']; exact byi, by show i + 1 ≤ 3; omega, ?_⟩ ?_ ?_ (fun u h => ?_)
    · show ν'.r = rlL x (i + 1)
      rw [hν']
      show νi.r.set i _ = _
      rw [ri]; exact rlL_step x (by omega)
    · show 3 - (i + 1) < 3 - i; omega
    · exact .cons rfl <| .cons rfl <| .consE rfl rfl <| .nil
    · exact h
  · replace hc := of_decide_eq_false hc
    refine wc_exit ?_
    refine wq_then_exit ?_
    refine wq_then_exit ?_
    refine wq_here ?_
    refine wq_then ?_
    refine wc_seq ?_
    refine wc_weak (.cons (i := 1) rfl <| .cons (i := 3) rfl <| .cons (i := 4) rfl <| .cons (i := 12) rfl <| .nil) ?_
    refine wc_region ?_
    refine wl_free .none rfl (yf_move rfl) ?_
    refine wl_free .none rfl (yf_assign rfl) ?_
    refine wl_nil ?_
    refine wq_then ?_
    refine wc_ret ?_
    refine wq_ret1 rfl rfl (fun w hw => ?_)
    have e : i = 3 := by omega
    subst e
    exact ⟨νi, ⟨oki, byi, ri⟩, by rw [Mi], Hp.drop hw (.cons _ (.refl _)) (.refl _)⟩
end Go.Proofs.Ytojofinofpgopaa
/- The reference's memory: check. -/
namespace Go.Proofs.Ytojofinofpgopaa
open Go.RowKit
/-- The first address that lacks a right, as the reference finds it. -/
def rchk (rs : List Int) (a r : Int) (i : Nat) : Nat → Option Int
  | 0 => none
  | c + 1 => if rightR rs (adr a i) r then rchk rs a r (i + 1) c else some (adr a i)
def rchkV : Option Int → List Value
  | none => [.int .u32 0, .int .u32 0, .bool true]
  | some x => [.int .u32 0, .int .u32 x, .bool false]
theorem rchk_ok {rs : List Int} {a r : Int} {i c : Nat} (hc : 0 < c) (h : rightR rs (adr a i) r = true) : rchk rs a r i c = rchk rs a r (i + 1) (c - 1) := by
  obtain ⟨c, rfl⟩ : ∃ d, c = d + 1 := ⟨c - 1, by omega⟩
  rw [rchk, if_pos h, Nat.add_sub_cancel]
theorem rchk_bad {rs : List Int} {a r : Int} {i c : Nat} (hc : 0 < c) (h : rightR rs (adr a i) r = false) : rchk rs a r i c = some (adr a i) := by
  obtain ⟨c, rfl⟩ : ∃ d, c = d + 1 := ⟨c - 1, by omega⟩
  rw [rchk, if_neg (by rw [h]; exact Bool.false_ne_true)]
set_option maxRecDepth 100000 in
theorem refCheck_any (ν : Rm) (ok : ν.Ok) (a : Int) (n : Nat) (hn1 : 1 ≤ n) (hn4 : n ≤ 4) (r : Int) (hr : r = 1 ∨ r = 2) (w : World) (h : OnL (refL ν) w) : Calls Try.prog 111 #[ptrV ν.M, .int .u32 a, .int .i64 n, .int .i64 r] w fun e w' => e = .returned (.agg (rchkV (rchk ν.r a r 0 n)).toArray) ∧ Ext w w' := by
  refine calls_wc (args := [ptrV ν.M, .int .u32 a, .int .i64 n, .int .i64 r]) Try.func111 rfl 39 rfl (Nat.le_of_ble_eq_true rfl) ?_
  refine wc_weak (.cons (i := 0) rfl <| .cons (i := 1) rfl <| .cons (i := 2) rfl <| .cons (i := 3) rfl <| .nil) ?_
  refine wc_conseq (H' := Hp (fun _ => False) w [] [] (OnL (refL ν))) (fun u hu => ?_) ?_
  · subst hu; exact Hp.start h.foot
  refine wc_seq ?_
  refine wc_region ?_
  refine wl_new .none rfl (nf_alloc (z := .agg #[.int .u32 0, .int .u32 0, .bool false]) (cs := [.int .u32 0, .int .u32 0, .bool false]) (by kernel_rfl) rfl) (fun b8 => ?_)
  refine wl_nil ?_
  refine wq_then ?_
  refine wc_seq ?_
  refine wc_seq ?_
  refine wc_region ?_
  refine wl_free .none rfl (yf_move rfl) ?_
  refine wl_free .none rfl (yf_lss rfl rfl) ?_
  refine wl_free .none rfl (yf_move rfl) ?_
  refine wl_split 13 rfl (fun hb => ?_) (fun hb => ?_)
  · replace hb := of_decide_eq_true hb
    omega
  · replace hb := of_decide_eq_false hb
    refine wl_free (.some rfl rfl) rfl (yf_move rfl) ?_
    refine wl_free (.some rfl rfl) rfl (yf_gtr rfl rfl) ?_
    refine wl_free .none rfl (yf_pickF rfl rfl) ?_
    refine wl_nil ?_
    refine wq_then ?_
    refine wc_cond rfl (fun hc => ?_) (fun hc => ?_)
    · replace hc := of_decide_eq_true hc
      omega
    · replace hc := of_decide_eq_false hc
      refine wc_skip ?_
      refine wq_then ?_
      refine wc_seq ?_
      refine wc_seq ?_
      refine wc_weak (.cons (i := 0) rfl <| .cons (i := 1) rfl <| .cons (i := 2) rfl <| .cons (i := 3) rfl <| .cons (i := 8) rfl <| .cons (i := 16) rfl <| .nil) ?_
      refine wc_region ?_
      refine wl_free .none rfl (yf_assign rfl) ?_
      refine wl_nil ?_
      refine wq_then ?_
      refine wc_block ?_
      refine wc_loop (ι := {i : Nat // i ≤ n ∧ rchk ν.r a r 0 n = rchk ν.r a r i (n - i)}) (fun i => [(0, ptrV ν.M), (1, .int .u32 a), (2, .int .i64 n), (3, .int .i64 r), (8, ptrV b8), (9, .int .i64 i.1)]) (fun _ => Hp (fun _ => False) w [(b8, bk 145 [.int .u32 0, .int .u32 0, .bool false])] [] (OnL (refL ν))) (fun i => n - i.1) ⟨0, Nat.zero_le _, rfl⟩ ?_ ?_ (fun i => ?_)
      · exact .cons rfl <| .cons rfl <| .cons rfl <| .cons rfl <| .cons rfl <| .cons rfl <| .nil
      · exact fun w h => h
      obtain ⟨i, hi, hck⟩ := i
      dsimp only at hi hck ⊢
      refine wc_seq ?_
      refine wc_seq ?_
      refine wc_region ?_
      refine wl_free .none rfl (yf_move rfl) ?_
      refine wl_free .none rfl (yf_move rfl) ?_
      refine wl_free .none rfl (yf_lss rfl rfl) ?_
      refine wl_nil ?_
      refine wq_then ?_
      refine wc_cond rfl (fun hc => ?_) (fun hc => ?_)
      · replace hc := of_decide_eq_true hc
        refine wc_skip ?_
        refine wq_then ?_
        refine wc_seq ?_
        refine wc_block ?_
        refine wc_seq ?_
        refine wc_weak (.cons (i := 0) rfl <| .cons (i := 1) rfl <| .cons (i := 2) rfl <| .cons (i := 3) rfl <| .cons (i := 8) rfl <| .cons (i := 9) rfl <| .cons (i := 21) rfl <| .nil) ?_
        refine wc_region ?_
        refine wl_free .none rfl (yf_move rfl) ?_
        refine wl_free .none rfl (yf_move rfl) ?_
        refine wl_free .none rfl (yf_move rfl) ?_
        refine wl_free .none rfl (yf_conv rfl (by kernel_rfl) Try.underlying34 (u32_in _ (by omega) (by omega))) ?_
        refine wl_free .none rfl (yf_add rfl rfl rfl) ?_
        refine wl_free .none rfl (yf_move rfl) ?_
        refine wl_pure .none rfl (by kernel_rfl) rfl (fun w hw => right_any ν ok (adr a i) (adr_u32 a i) r hr w (HpG.x hw)) ?_
        refine wl_free .none rfl (yf_assign rfl) ?_
        refine wl_nil ?_
        refine wq_then ?_
        refine wc_seq ?_
        refine wc_weak (.cons (i := 0) rfl <| .cons (i := 1) rfl <| .cons (i := 2) rfl <| .cons (i := 3) rfl <| .cons (i := 8) rfl <| .cons (i := 9) rfl <| .cons (i := 10) rfl <| .cons (i := 21) rfl <| .nil) ?_
        refine wc_region ?_
        refine wl_free .none rfl (yf_move rfl) ?_
        refine wl_free .none rfl (yf_not rfl) ?_
        refine wl_nil ?_
        refine wq_then ?_
        refine wc_cond rfl (fun hc => ?_) (fun hc => ?_)
        · skip
          refine wc_seq ?_
          refine wc_weak (.cons (i := 0) rfl <| .cons (i := 1) rfl <| .cons (i := 2) rfl <| .cons (i := 3) rfl <| .cons (i := 8) rfl <| .cons (i := 9) rfl <| .cons (i := 10) rfl <| .cons (i := 21) rfl <| .cons (i := 32) rfl <| .nil) ?_
          refine wc_region ?_
          refine wl_free .none rfl (yf_move rfl) ?_
          refine wl_free .none rfl (yf_move rfl) ?_
          refine wl_free .none rfl (yf_conv rfl (by kernel_rfl) Try.underlying34 (u32_in _ (by omega) (by omega))) ?_
          refine wl_free .none rfl (yf_add rfl rfl rfl) ?_
          refine wl_free .none rfl (yf_buildS [.int .u32 0, .int .u32 0, .bool false] [(0, 1), (1, 1), (2, 1)] rfl (by kernel_rfl) (by kernel_rfl) rfl) ?_
          first | refine wl_chain0 .none (cf_storeRow 0 rfl rfl rfl rfl rfl (by kernel_rfl)) (fun _ => ?_) | refine wl_chain0 .none (cf_storeRow 1 rfl rfl rfl rfl rfl (by kernel_rfl)) (fun _ => ?_) | refine wl_chain0 .none (cf_storeRow 2 rfl rfl rfl rfl rfl (by kernel_rfl)) (fun _ => ?_) | refine wl_chain0 .none (cf_storeRow 3 rfl rfl rfl rfl rfl (by kernel_rfl)) (fun _ => ?_) | refine wl_chain0 .none (cf_storeRow 4 rfl rfl rfl rfl rfl (by kernel_rfl)) (fun _ => ?_) | refine wl_chain0 .none (cf_storeRow 5 rfl rfl rfl rfl rfl (by kernel_rfl)) (fun _ => ?_)
          refine wl_nil ?_
          refine wq_then ?_
          refine wc_ret ?_
          refine wq_block_ret ?_
          refine wq_then_ret ?_
          refine wq_then_ret ?_
          refine wq_block_ret ?_
          refine wq_then_ret ?_
          first | refine wq_retC rfl rfl 0 rfl Try.underlying145 rfl (by kernel_rfl) (fun w hw => ?_) | refine wq_retC rfl rfl 1 rfl Try.underlying145 rfl (by kernel_rfl) (fun w hw => ?_) | refine wq_retC rfl rfl 2 rfl Try.underlying145 rfl (by kernel_rfl) (fun w hw => ?_) | refine wq_retC rfl rfl 3 rfl Try.underlying145 rfl (by kernel_rfl) (fun w hw => ?_) | refine wq_retC rfl rfl 4 rfl Try.underlying145 rfl (by kernel_rfl) (fun w hw => ?_) | refine wq_retC rfl rfl 5 rfl Try.underlying145 rfl (by kernel_rfl) (fun w hw => ?_) | refine wq_retC rfl rfl 6 rfl Try.underlying145 rfl (by kernel_rfl) (fun w hw => ?_)
          exact ⟨by rw [hck, rchk_bad (by omega) (by simpa using hc)]; rfl, (HpG.keep hw).ext⟩
        · skip
          refine wc_skip ?_
          refine wq_block ?_
          refine wq_then ?_
          refine wc_weak (.cons (i := 0) rfl <| .cons (i := 1) rfl <| .cons (i := 2) rfl <| .cons (i := 3) rfl <| .cons (i := 8) rfl <| .cons (i := 9) rfl <| .cons (i := 10) rfl <| .cons (i := 21) rfl <| .cons (i := 32) rfl <| .nil) ?_
          refine wc_region ?_
          refine wl_free .none rfl (yf_move rfl) ?_
          first | (refine wl_free .none rfl (yf_add rfl rfl (i64_in _ ?_ ?_)) ?_; (· omega); (· omega); skip) | refine wl_free .none rfl (yf_add rfl rfl rfl) ?_
          refine wl_free .none rfl (yf_assign rfl) ?_
          refine wl_nil ?_
          refine wq_round (ι := {i : Nat // i ≤ n ∧ rchk ν.r a r 0 n = rchk ν.r a r i (n - i)}) ⟨i + 1, by omega, ?_⟩ ?_ ?_ (fun u h => h)
          · rw [hck, rchk_ok (by omega) (by simpa using hc), show n - i - 1 = n - (i + 1) by omega]
          · show n - (i + 1) < n - i; omega
          · exact .cons rfl <| .cons rfl <| .cons rfl <| .cons rfl <| .cons rfl <| .consE rfl rfl <| .nil
      · replace hc := of_decide_eq_false hc
        refine wc_exit ?_
        refine wq_then_exit ?_
        refine wq_then_exit ?_
        refine wq_here ?_
        refine wq_then ?_
        refine wc_seq ?_
        refine wc_weak (.cons (i := 0) rfl <| .cons (i := 1) rfl <| .cons (i := 2) rfl <| .cons (i := 3) rfl <| .cons (i := 8) rfl <| .cons (i := 9) rfl <| .cons (i := 21) rfl <| .nil) ?_
        refine wc_region ?_
        refine wl_free .none rfl (yf_buildS [.int .u32 0, .int .u32 0, .bool false] [(0, 1), (1, 1), (2, 1)] rfl (by kernel_rfl) (by kernel_rfl) rfl) ?_
        first | refine wl_chain0 .none (cf_storeRow 0 rfl rfl rfl rfl rfl (by kernel_rfl)) (fun _ => ?_) | refine wl_chain0 .none (cf_storeRow 1 rfl rfl rfl rfl rfl (by kernel_rfl)) (fun _ => ?_) | refine wl_chain0 .none (cf_storeRow 2 rfl rfl rfl rfl rfl (by kernel_rfl)) (fun _ => ?_) | refine wl_chain0 .none (cf_storeRow 3 rfl rfl rfl rfl rfl (by kernel_rfl)) (fun _ => ?_) | refine wl_chain0 .none (cf_storeRow 4 rfl rfl rfl rfl rfl (by kernel_rfl)) (fun _ => ?_) | refine wl_chain0 .none (cf_storeRow 5 rfl rfl rfl rfl rfl (by kernel_rfl)) (fun _ => ?_)
        refine wl_nil ?_
        refine wq_then ?_
        refine wc_ret ?_
        first | refine wq_retC rfl rfl 0 rfl Try.underlying145 rfl (by kernel_rfl) (fun w hw => ?_) | refine wq_retC rfl rfl 1 rfl Try.underlying145 rfl (by kernel_rfl) (fun w hw => ?_) | refine wq_retC rfl rfl 2 rfl Try.underlying145 rfl (by kernel_rfl) (fun w hw => ?_) | refine wq_retC rfl rfl 3 rfl Try.underlying145 rfl (by kernel_rfl) (fun w hw => ?_) | refine wq_retC rfl rfl 4 rfl Try.underlying145 rfl (by kernel_rfl) (fun w hw => ?_) | refine wq_retC rfl rfl 5 rfl Try.underlying145 rfl (by kernel_rfl) (fun w hw => ?_) | refine wq_retC rfl rfl 6 rfl Try.underlying145 rfl (by kernel_rfl) (fun w hw => ?_)
        have e : n - i = 0 := by omega
        exact ⟨by rw [hck, e]; rfl, (HpG.keep hw).ext⟩
end Go.Proofs.Ytojofinofpgopaa
/- The reference's memory: Load. -/
namespace Go.Proofs.Ytojofinofpgopaa
open Go.RowKit
theorem rchk_all {rs : List Int} {a r : Int} : ∀ {c i : Nat}, rchk rs a r i c = none → ∀ j, i ≤ j → j < i + c → rightR rs (adr a j) r = true
  | 0, _, _, j, h1, h2 => by omega
  | c + 1, i, h, j, h1, h2 => by
    rw [rchk] at h
    split at h
    · rename_i hg
      by_cases e : i = j
      · subst e; exact hg
      · exact rchk_all h j (by omega) (by omega)
    · cases h
theorem right_lt {rs : List Int} {a r : Int} (h : rightR rs a r = true) : a < 768 := by
  unfold rightR at h
  simp only [Bool.and_eq_true, decide_eq_true_eq] at h
  exact h.1
def rloadGo (b : List Int) (a : Int) : Nat → Int → Int
  | 0, v => v
  | k + 1, v => rloadGo b a k (IntKind.u32.wrap (IntKind.u32.wrap (v * 256) + byteAt b (adr a k)))
def rloadV (rs b : List Int) (a : Int) (n : Nat) : List Value := match rchk rs a 1 0 n with
  | none => [.int .u32 (rloadGo b a n 0), .int .u32 0, .bool true]
  | some x => [.int .u32 0, .int .u32 x, .bool false]
theorem rbyte_u8 {ν : Rm} (ok : ν.Ok) (a : Int) : U8 (byteAt ν.b a) := by
  unfold byteAt
  rw [List.getD_eq_getElem?_getD]
  cases h : ν.b[a.toNat]? with
  | none => exact ⟨by decide, by decide⟩
  | some v => exact ok.u8 v (List.mem_of_getElem? h)
set_option maxRecDepth 100000 in
theorem refLoad_any (ν : Rm) (ok : ν.Ok) (a : Int) (n : Nat) (hn1 : 1 ≤ n) (hn4 : n ≤ 4) (w : World) (h : OnL (refL ν) w) : Calls Try.prog 90 #[ptrV ν.M, .int .u32 a, .int .i64 n] w fun e w' => e = .returned (.agg (rloadV ν.r ν.b a n).toArray) ∧ Ext w w' := by
  obtain ⟨cx, cb, hcv⟩ : ∃ cx cb, rchkV (rchk ν.r a 1 0 n) = [.int .u32 0, .int .u32 cx, .bool cb] := by
    cases rchk ν.r a 1 0 n <;> exact ⟨_, _, rfl⟩
  have hC : ∀ W, OnL (refL ν) W → Calls Try.prog 111 #[ptrV ν.M, .int .u32 a, .int .i64 n, .int .i64 1] W fun e w' => e = .returned (.agg #[.int .u32 0, .int .u32 cx, .bool cb]) ∧ Ext W w' := fun W hW => by
    have := refCheck_any ν ok a n hn1 hn4 1 (.inl rfl) W hW
    rw [hcv] at this; exact this
  refine calls_wc (args := [ptrV ν.M, .int .u32 a, .int .i64 n]) Try.func90 rfl 38 rfl (Nat.le_of_ble_eq_true rfl) ?_
  refine wc_weak (.cons (i := 0) rfl <| .cons (i := 1) rfl <| .cons (i := 2) rfl <| .nil) ?_
  refine wc_conseq (H' := Hp (fun _ => False) w [] [] (OnL (refL ν))) (fun u hu => ?_) ?_
  · subst hu; exact Hp.start h.foot
  refine wc_seq ?_
  refine wc_region ?_
  refine wl_new .none rfl (nf_alloc (z := .agg #[.int .u32 0, .int .u32 0, .bool false]) (cs := [.int .u32 0, .int .u32 0, .bool false]) (by kernel_rfl) rfl) (fun b6 => ?_)
  refine wl_nil ?_
  refine wq_then ?_
  refine wc_seq ?_
  refine wc_region ?_
  refine wl_free .none rfl (yf_move rfl) ?_
  refine wl_free .none rfl (yf_move rfl) ?_
  refine wl_free .none rfl (yf_move rfl) ?_
  refine wl_pure .none rfl (by kernel_rfl) rfl (fun w hw => hC w (HpG.x hw)) ?_
  refine wl_new .none rfl (nf_alloc (z := .agg #[.int .u32 0, .int .u32 0, .bool false]) (cs := [.int .u32 0, .int .u32 0, .bool false]) (by kernel_rfl) rfl) (fun b7 => ?_)
  first | refine wl_chain0 .none (cf_storeRow 0 rfl rfl rfl rfl rfl (by kernel_rfl)) (fun _ => ?_) | refine wl_chain0 .none (cf_storeRow 1 rfl rfl rfl rfl rfl (by kernel_rfl)) (fun _ => ?_) | refine wl_chain0 .none (cf_storeRow 2 rfl rfl rfl rfl rfl (by kernel_rfl)) (fun _ => ?_) | refine wl_chain0 .none (cf_storeRow 3 rfl rfl rfl rfl rfl (by kernel_rfl)) (fun _ => ?_) | refine wl_chain0 .none (cf_storeRow 4 rfl rfl rfl rfl rfl (by kernel_rfl)) (fun _ => ?_) | refine wl_chain0 .none (cf_storeRow 5 rfl rfl rfl rfl rfl (by kernel_rfl)) (fun _ => ?_)
  refine wl_nil ?_
  refine wq_then ?_
  refine wc_seq ?_
  refine wc_seq ?_
  refine wc_weak (.cons (i := 0) rfl <| .cons (i := 1) rfl <| .cons (i := 2) rfl <| .cons (i := 6) rfl <| .cons (i := 7) rfl <| .nil) ?_
  refine wc_region ?_
  refine wl_free .none rfl (yf_fieldAddr (off := 2) (sz := 0) rfl Try.underlying145 (by kernel_rfl) rfl) ?_
  first | refine wl_free .none rfl (yf_loadL 0 rfl rfl rfl Try.underlying4 rfl) ?_ | refine wl_free .none rfl (yf_loadL 1 rfl rfl rfl Try.underlying4 rfl) ?_ | refine wl_free .none rfl (yf_loadL 2 rfl rfl rfl Try.underlying4 rfl) ?_ | refine wl_free .none rfl (yf_loadL 3 rfl rfl rfl Try.underlying4 rfl) ?_ | refine wl_free .none rfl (yf_loadL 4 rfl rfl rfl Try.underlying4 rfl) ?_ | refine wl_free .none rfl (yf_loadL 5 rfl rfl rfl Try.underlying4 rfl) ?_
  refine wl_nil ?_
  refine wq_then ?_
  refine wc_cond rfl (fun hc_1 => ?_) (fun hc_1 => ?_)
  · skip
    have hno : rchk ν.r a 1 0 n = none := by
      cases hq : rchk ν.r a 1 0 n with
      | none => rfl
      | some x => rw [hq] at hcv; simp [rchkV] at hcv; rw [hcv.2] at hc_1; cases hc_1
    have hall := rchk_all hno
    refine wc_seq ?_
    refine wc_weak (.cons (i := 0) rfl <| .cons (i := 1) rfl <| .cons (i := 2) rfl <| .cons (i := 6) rfl <| .cons (i := 7) rfl <| .cons (i := 14) rfl <| .nil) ?_
    refine wc_region ?_
    refine wl_free .none rfl (yf_move rfl) ?_
    first | (refine wl_free .none rfl (yf_sub rfl rfl (i64_in _ ?_ ?_)) ?_; (· omega); (· omega); skip) | refine wl_free .none rfl (yf_sub rfl rfl rfl) ?_
    refine wl_free .none rfl (yf_assign rfl) ?_
    refine wl_nil ?_
    refine wq_then ?_
    refine wc_block ?_
    refine wc_loop (ι := {k : Nat × Int // k.1 ≤ n ∧ rloadGo ν.b a n 0 = rloadGo ν.b a k.1 k.2}) (fun k => [(0, ptrV ν.M), (1, .int .u32 a), (6, ptrV b6), (7, ptrV b7), (8, .int .i64 ((k.1.1 : Int) - 1))]) (fun k => Hp (fun _ => False) w [(b7, bk 145 [.int .u32 k.1.2, .int .u32 cx, .bool cb]), (b6, bk 145 [.int .u32 0, .int .u32 0, .bool false])] [] (OnL (refL ν))) (fun k => k.1.1) ⟨(n, 0), Nat.le_refl _, rfl⟩ ?_ ?_ (fun k => ?_)
    · exact .cons rfl <| .cons rfl <| .cons rfl <| .cons rfl <| .cons rfl <| .nil
    · exact fun w h => h
    obtain ⟨⟨k, v⟩, hk, hld⟩ := k
    dsimp only at hk hld ⊢
    refine wc_seq ?_
    refine wc_seq ?_
    refine wc_region ?_
    refine wl_free .none rfl (yf_move rfl) ?_
    refine wl_free .none rfl (yf_geq rfl rfl) ?_
    refine wl_nil ?_
    refine wq_then ?_
    refine wc_cond rfl (fun hc => ?_) (fun hc => ?_)
    · replace hc := of_decide_eq_true hc
      obtain ⟨j, rfl⟩ : ∃ j, k = j + 1 := ⟨k - 1, by omega⟩
      have hx := right_lt (hall j (Nat.zero_le _) (by omega))
      have hx0 := (adr_u32 a j).1
      obtain ⟨q, hq⟩ : ∃ q : Nat, adr a j = q := ⟨(adr a j).toNat, by omega⟩
      have hq2 : q < 768 := by omega
      refine wc_skip ?_
      refine wq_then ?_
      refine wc_seq ?_
      refine wc_block ?_
      refine wc_weak (.cons (i := 0) rfl <| .cons (i := 1) rfl <| .cons (i := 6) rfl <| .cons (i := 7) rfl <| .cons (i := 8) rfl <| .cons (i := 18) rfl <| .nil) ?_
      refine wc_still 15 (by kernel_rfl) (by kernel_rfl) (fun _ h => HpG.drew h) ?_
      refine wt_free .none rfl (yf_fieldAddr (off := 0) (sz := 0) rfl Try.underlying145 (by kernel_rfl) rfl) ?_
      first | refine wt_free .none rfl (yf_loadL 0 rfl rfl rfl Try.underlying34 rfl) ?_ | refine wt_free .none rfl (yf_loadL 1 rfl rfl rfl Try.underlying34 rfl) ?_ | refine wt_free .none rfl (yf_loadL 2 rfl rfl rfl Try.underlying34 rfl) ?_ | refine wt_free .none rfl (yf_loadL 3 rfl rfl rfl Try.underlying34 rfl) ?_ | refine wt_free .none rfl (yf_loadL 4 rfl rfl rfl Try.underlying34 rfl) ?_ | refine wt_free .none rfl (yf_loadL 5 rfl rfl rfl Try.underlying34 rfl) ?_
      refine wt_free .none rfl (yf_mul rfl rfl rfl) ?_
      refine wt_free .none rfl (yf_move rfl) ?_
      refine wt_free .none rfl (yf_nilCheck rfl) ?_
      refine wt_free .none rfl (yf_fieldAddr (off := 0) (sz := 0) rfl Try.underlying142 (by kernel_rfl) rfl) ?_
      refine wt_free .none rfl (yf_loadG rfl (fun w h => OnL.RM (HpG.x h)) rfl Try.underlying139 rfl) ?_
      refine wt_free .none rfl (yf_move rfl) ?_
      refine wt_free .none rfl (yf_move rfl) ?_
      first | (refine wt_free .none rfl (yf_conv rfl (by kernel_rfl) Try.underlying34 (u32_in _ ?_ ?_)) ?_; (· omega); (· omega); skip) | refine wt_free .none rfl (yf_conv rfl (by kernel_rfl) Try.underlying34 rfl) ?_
      refine wt_free .none rfl (yf_add rfl rfl ((by rw [show ((j + 1 : Nat) : Int) - 1 = j by omega]; exact hq) : IntKind.u32.wrap (a + (((j + 1 : Nat) : Int) - 1)) = q)) ?_
      first | (refine wt_free .none rfl (yf_indexAddrS (es := 1) rfl rfl Try.underlying139 (by kernel_rfl) rfl ?_ rfl) ?_; (· first | decide | omega | (simp; omega)); skip) | (refine wt_free .none rfl (yf_indexAddrS (es := 1) rfl rfl Try.underlying139 (by kernel_rfl) (Int.toNat_of_nonneg ?_).symm ?_ rfl) ?_; (· omega); (· first | decide | omega | (simp; omega)); skip)
      refine wt_free .none rfl (yf_loadG (v := .int .u8 (byteAt ν.b (adr a j))) rfl (fun w h => OnL.RD (HpG.x h)) (by rw [byteAt, hq, Int.toNat_natCast]; exact u8s_at (by rw [ok.lb]; exact hq2) (by omega)) Try.underlying5 rfl) ?_
      refine wt_free .none rfl (yf_conv rfl (by kernel_rfl) Try.underlying34 (u32_in _ (rbyte_u8 ok _).1 (by have := (rbyte_u8 ok (adr a j)).2; omega))) ?_
      refine wt_free .none rfl (yf_add rfl rfl rfl) ?_
      refine wt_tail ?_
      refine wl_free .none rfl (yf_fieldAddr (off := 0) (sz := 0) rfl Try.underlying145 (by kernel_rfl) rfl) ?_
      first | refine wl_chain0 .none (cf_store 0 rfl rfl rfl rfl rfl (by kernel_rfl)) (fun _ => ?_) | refine wl_chain0 .none (cf_store 1 rfl rfl rfl rfl rfl (by kernel_rfl)) (fun _ => ?_) | refine wl_chain0 .none (cf_store 2 rfl rfl rfl rfl rfl (by kernel_rfl)) (fun _ => ?_) | refine wl_chain0 .none (cf_store 3 rfl rfl rfl rfl rfl (by kernel_rfl)) (fun _ => ?_) | refine wl_chain0 .none (cf_store 4 rfl rfl rfl rfl rfl (by kernel_rfl)) (fun _ => ?_) | refine wl_chain0 .none (cf_store 5 rfl rfl rfl rfl rfl (by kernel_rfl)) (fun _ => ?_)
      refine wl_nil ?_
      refine wq_block ?_
      refine wq_then ?_
      refine wc_weak (.cons (i := 0) rfl <| .cons (i := 1) rfl <| .cons (i := 6) rfl <| .cons (i := 7) rfl <| .cons (i := 8) rfl <| .cons (i := 18) rfl <| .nil) ?_
      refine wc_region ?_
      refine wl_free .none rfl (yf_move rfl) ?_
      first | (refine wl_free .none rfl (yf_sub rfl rfl (i64_in _ ?_ ?_)) ?_; (· omega); (· omega); skip) | refine wl_free .none rfl (yf_sub rfl rfl rfl) ?_
      refine wl_free .none rfl (yf_assign rfl) ?_
      refine wl_nil ?_
      refine wq_round (ι := {k : Nat × Int // k.1 ≤ n ∧ rloadGo ν.b a n 0 = rloadGo ν.b a k.1 k.2}) ⟨(j, IntKind.u32.wrap (IntKind.u32.wrap (v * 256) + byteAt ν.b (adr a j))), by show j ≤ n; omega, by rw [hld]; rfl⟩ ?_ ?_ (fun u h => h)
      · show j < j + 1; omega
      · exact .cons rfl <| .cons rfl <| .cons rfl <| .cons rfl <| .consE rfl (congrArg (Value.int .i64) (show ((j + 1 : Nat) : Int) - 1 - 1 = (j : Int) - 1 by omega)) <| .nil
    · replace hc := of_decide_eq_false hc
      refine wc_exit ?_
      refine wq_then_exit ?_
      refine wq_then_exit ?_
      refine wq_here ?_
      refine wq_then ?_
      refine wc_seq ?_
      refine wc_weak (.cons (i := 0) rfl <| .cons (i := 1) rfl <| .cons (i := 6) rfl <| .cons (i := 7) rfl <| .cons (i := 8) rfl <| .cons (i := 18) rfl <| .nil) ?_
      refine wc_region ?_
      first | refine wl_free .none rfl (yf_loadAllL 0 rfl rfl Try.underlying145 rfl (by kernel_rfl)) ?_ | refine wl_free .none rfl (yf_loadAllL 1 rfl rfl Try.underlying145 rfl (by kernel_rfl)) ?_ | refine wl_free .none rfl (yf_loadAllL 2 rfl rfl Try.underlying145 rfl (by kernel_rfl)) ?_ | refine wl_free .none rfl (yf_loadAllL 3 rfl rfl Try.underlying145 rfl (by kernel_rfl)) ?_ | refine wl_free .none rfl (yf_loadAllL 4 rfl rfl Try.underlying145 rfl (by kernel_rfl)) ?_ | refine wl_free .none rfl (yf_loadAllL 5 rfl rfl Try.underlying145 rfl (by kernel_rfl)) ?_
      first | refine wl_chain0 .none (cf_storeRow 0 rfl rfl rfl rfl rfl (by kernel_rfl)) (fun _ => ?_) | refine wl_chain0 .none (cf_storeRow 1 rfl rfl rfl rfl rfl (by kernel_rfl)) (fun _ => ?_) | refine wl_chain0 .none (cf_storeRow 2 rfl rfl rfl rfl rfl (by kernel_rfl)) (fun _ => ?_) | refine wl_chain0 .none (cf_storeRow 3 rfl rfl rfl rfl rfl (by kernel_rfl)) (fun _ => ?_) | refine wl_chain0 .none (cf_storeRow 4 rfl rfl rfl rfl rfl (by kernel_rfl)) (fun _ => ?_) | refine wl_chain0 .none (cf_storeRow 5 rfl rfl rfl rfl rfl (by kernel_rfl)) (fun _ => ?_)
      refine wl_nil ?_
      refine wq_then ?_
      refine wc_ret ?_
      first | refine wq_retC rfl rfl 0 rfl Try.underlying145 rfl (by kernel_rfl) (fun w hw => ?_) | refine wq_retC rfl rfl 1 rfl Try.underlying145 rfl (by kernel_rfl) (fun w hw => ?_) | refine wq_retC rfl rfl 2 rfl Try.underlying145 rfl (by kernel_rfl) (fun w hw => ?_) | refine wq_retC rfl rfl 3 rfl Try.underlying145 rfl (by kernel_rfl) (fun w hw => ?_) | refine wq_retC rfl rfl 4 rfl Try.underlying145 rfl (by kernel_rfl) (fun w hw => ?_) | refine wq_retC rfl rfl 5 rfl Try.underlying145 rfl (by kernel_rfl) (fun w hw => ?_) | refine wq_retC rfl rfl 6 rfl Try.underlying145 rfl (by kernel_rfl) (fun w hw => ?_)
      refine ⟨?_, (HpG.keep hw).ext⟩
      have hk0 : k = 0 := by omega
      subst hk0
      rw [rloadV, hno, hld]
      rw [hno] at hcv; simp [rchkV] at hcv
      rw [hcv.1, hcv.2]; rfl
  · skip
    have hso : rchk ν.r a 1 0 n = some cx := by
      cases hq : rchk ν.r a 1 0 n with
      | none => rw [hq] at hcv; simp [rchkV] at hcv; rw [hcv.2] at hc_1; cases hc_1
      | some x => rw [hq] at hcv; simp [rchkV] at hcv; rw [hcv.1]
    refine wc_skip ?_
    refine wq_then ?_
    refine wc_seq ?_
    refine wc_weak (.cons (i := 0) rfl <| .cons (i := 1) rfl <| .cons (i := 2) rfl <| .cons (i := 6) rfl <| .cons (i := 7) rfl <| .cons (i := 14) rfl <| .nil) ?_
    refine wc_region ?_
    first | refine wl_free .none rfl (yf_loadAllL 0 rfl rfl Try.underlying145 rfl (by kernel_rfl)) ?_ | refine wl_free .none rfl (yf_loadAllL 1 rfl rfl Try.underlying145 rfl (by kernel_rfl)) ?_ | refine wl_free .none rfl (yf_loadAllL 2 rfl rfl Try.underlying145 rfl (by kernel_rfl)) ?_ | refine wl_free .none rfl (yf_loadAllL 3 rfl rfl Try.underlying145 rfl (by kernel_rfl)) ?_ | refine wl_free .none rfl (yf_loadAllL 4 rfl rfl Try.underlying145 rfl (by kernel_rfl)) ?_ | refine wl_free .none rfl (yf_loadAllL 5 rfl rfl Try.underlying145 rfl (by kernel_rfl)) ?_
    first | refine wl_chain0 .none (cf_storeRow 0 rfl rfl rfl rfl rfl (by kernel_rfl)) (fun _ => ?_) | refine wl_chain0 .none (cf_storeRow 1 rfl rfl rfl rfl rfl (by kernel_rfl)) (fun _ => ?_) | refine wl_chain0 .none (cf_storeRow 2 rfl rfl rfl rfl rfl (by kernel_rfl)) (fun _ => ?_) | refine wl_chain0 .none (cf_storeRow 3 rfl rfl rfl rfl rfl (by kernel_rfl)) (fun _ => ?_) | refine wl_chain0 .none (cf_storeRow 4 rfl rfl rfl rfl rfl (by kernel_rfl)) (fun _ => ?_) | refine wl_chain0 .none (cf_storeRow 5 rfl rfl rfl rfl rfl (by kernel_rfl)) (fun _ => ?_)
    refine wl_nil ?_
    refine wq_then ?_
    refine wc_ret ?_
    first | refine wq_retC rfl rfl 0 rfl Try.underlying145 rfl (by kernel_rfl) (fun w hw => ?_) | refine wq_retC rfl rfl 1 rfl Try.underlying145 rfl (by kernel_rfl) (fun w hw => ?_) | refine wq_retC rfl rfl 2 rfl Try.underlying145 rfl (by kernel_rfl) (fun w hw => ?_) | refine wq_retC rfl rfl 3 rfl Try.underlying145 rfl (by kernel_rfl) (fun w hw => ?_) | refine wq_retC rfl rfl 4 rfl Try.underlying145 rfl (by kernel_rfl) (fun w hw => ?_) | refine wq_retC rfl rfl 5 rfl Try.underlying145 rfl (by kernel_rfl) (fun w hw => ?_) | refine wq_retC rfl rfl 6 rfl Try.underlying145 rfl (by kernel_rfl) (fun w hw => ?_)
    refine ⟨?_, (HpG.keep hw).ext⟩
    rw [rloadV, hso]
    rw [hso] at hcv; simp [rchkV] at hcv
    rw [hcv]; rfl
end Go.Proofs.Ytojofinofpgopaa
/- The reference's memory: Store. -/
namespace Go.Proofs.Ytojofinofpgopaa
open Go.RowKit
/-- What is left of x after i bytes. -/
def rx (x : Int) : Nat → Int
  | 0 => x
  | i + 1 => rx x i / 256
def rstoreGo (b : List Int) (a x : Int) : Nat → List Int
  | 0 => b
  | i + 1 => (rstoreGo b a x i).set (adr a i).toNat (IntKind.u8.wrap (rx x i))
def rstoreB (rs b : List Int) (a : Int) (n : Nat) (x : Int) : List Int := match rchk rs a 2 0 n with
  | none => rstoreGo b a x n
  | some _ => b
theorem rx_u32 {x : Int} (h : U32 x) : ∀ i, U32 (rx x i)
  | 0 => h
  | i + 1 => by
    have := rx_u32 h i
    show 0 ≤ rx x i / 256 ∧ rx x i / 256 < 4294967296
    have h1 := this.1
    have h2 := this.2
    omega
theorem rstoreGo_len (b : List Int) (a x : Int) : ∀ i, (rstoreGo b a x i).length = b.length
  | 0 => rfl
  | i + 1 => by show (List.set _ _ _).length = _; rw [List.length_set]; exact rstoreGo_len b a x i
theorem rstoreGo_u8 {b : List Int} (h : ∀ v ∈ b, U8 v) (a x : Int) : ∀ i, ∀ v ∈ rstoreGo b a x i, U8 v
  | 0 => h
  | i + 1 => mem_set (rstoreGo_u8 h a x i) (u8_wrap _)
abbrev Rm.st (ν : Rm) (b : List Int) : Rm := { ν with b := b }
theorem Rm.Ok.st {ν : Rm} (h : ν.Ok) {b : List Int} (h1 : b.length = 768) (h2 : ∀ v ∈ b, U8 v) : (ν.st b).Ok := ⟨h1, h.lr, h2, h.nd⟩
set_option maxRecDepth 100000 in
theorem refStore_any (ν : Rm) (ok : ν.Ok) (a : Int) (n : Nat) (hn1 : 1 ≤ n) (hn4 : n ≤ 4) (x : Int) (hxu : U32 x) (w_0 : World) (h : OnL (refL ν) w_0) : Calls Try.prog 92 #[ptrV ν.M, .int .u32 a, .int .i64 n, .int .u32 x] w_0 fun e w' =>
    ∃ ν' : Rm, ν' = ν.st (rstoreB ν.r ν.b a n x) ∧ e = .returned (.agg (rchkV (rchk ν.r a 2 0 n)).toArray) ∧ Hp (fun k => k ∈ (refL ν).map (·.1)) w_0 (refL ν') [] (fun _ => True) w' := by
  obtain ⟨cx, cb, hcv⟩ : ∃ cx cb, rchkV (rchk ν.r a 2 0 n) = [.int .u32 0, .int .u32 cx, .bool cb] := by
    cases rchk ν.r a 2 0 n <;> exact ⟨_, _, rfl⟩
  have hC : ∀ W, OnL (refL ν) W → Calls Try.prog 111 #[ptrV ν.M, .int .u32 a, .int .i64 n, .int .i64 2] W fun e w' => e = .returned (.agg #[.int .u32 0, .int .u32 cx, .bool cb]) ∧ Ext W w' := fun W hW => by
    have := refCheck_any ν ok a n hn1 hn4 2 (.inr rfl) W hW
    rw [hcv] at this; exact this
  refine calls_wc (args := [ptrV ν.M, .int .u32 a, .int .i64 n, .int .u32 x]) Try.func92 rfl 36 rfl (Nat.le_of_ble_eq_true rfl) ?_
  refine wc_weak (.cons (i := 0) rfl <| .cons (i := 1) rfl <| .cons (i := 2) rfl <| .cons (i := 3) rfl <| .nil) ?_
  refine wc_conseq (H' := Hp (fun k => k ∈ (refL ν).map (·.1)) w_0 (refL ν) [] (fun _ => True)) (fun u hu => ?_) ?_
  · subst hu; exact Hp.startL h ok.nodup
  refine wc_seq ?_
  refine wc_region ?_
  refine wl_new .none rfl (nf_alloc (z := .agg #[.int .u32 0, .int .u32 0, .bool false]) (cs := [.int .u32 0, .int .u32 0, .bool false]) (by kernel_rfl) rfl) (fun b8 => ?_)
  refine wl_nil ?_
  refine wq_then ?_
  refine wc_seq ?_
  refine wc_region ?_
  refine wl_free .none rfl (yf_move rfl) ?_
  refine wl_free .none rfl (yf_move rfl) ?_
  refine wl_free .none rfl (yf_move rfl) ?_
  refine wl_pure .none rfl (by kernel_rfl) rfl (fun w hw => hC w (fun p hp => HpG.own hw p (List.mem_cons_of_mem _ hp))) ?_
  refine wl_new .none rfl (nf_alloc (z := .agg #[.int .u32 0, .int .u32 0, .bool false]) (cs := [.int .u32 0, .int .u32 0, .bool false]) (by kernel_rfl) rfl) (fun b9 => ?_)
  first | refine wl_chain0 .none (cf_storeRow 0 rfl rfl rfl rfl rfl (by kernel_rfl)) (fun _ => ?_) | refine wl_chain0 .none (cf_storeRow 1 rfl rfl rfl rfl rfl (by kernel_rfl)) (fun _ => ?_) | refine wl_chain0 .none (cf_storeRow 2 rfl rfl rfl rfl rfl (by kernel_rfl)) (fun _ => ?_) | refine wl_chain0 .none (cf_storeRow 3 rfl rfl rfl rfl rfl (by kernel_rfl)) (fun _ => ?_) | refine wl_chain0 .none (cf_storeRow 4 rfl rfl rfl rfl rfl (by kernel_rfl)) (fun _ => ?_) | refine wl_chain0 .none (cf_storeRow 5 rfl rfl rfl rfl rfl (by kernel_rfl)) (fun _ => ?_)
  refine wl_nil ?_
  refine wq_then ?_
  refine wc_seq ?_
  refine wc_seq ?_
  refine wc_weak (.cons (i := 0) rfl <| .cons (i := 1) rfl <| .cons (i := 2) rfl <| .cons (i := 3) rfl <| .cons (i := 8) rfl <| .cons (i := 9) rfl <| .nil) ?_
  refine wc_region ?_
  refine wl_free .none rfl (yf_fieldAddr (off := 2) (sz := 0) rfl Try.underlying145 (by kernel_rfl) rfl) ?_
  first | refine wl_free .none rfl (yf_loadL 0 rfl rfl rfl Try.underlying4 rfl) ?_ | refine wl_free .none rfl (yf_loadL 1 rfl rfl rfl Try.underlying4 rfl) ?_ | refine wl_free .none rfl (yf_loadL 2 rfl rfl rfl Try.underlying4 rfl) ?_ | refine wl_free .none rfl (yf_loadL 3 rfl rfl rfl Try.underlying4 rfl) ?_ | refine wl_free .none rfl (yf_loadL 4 rfl rfl rfl Try.underlying4 rfl) ?_ | refine wl_free .none rfl (yf_loadL 5 rfl rfl rfl Try.underlying4 rfl) ?_
  refine wl_nil ?_
  refine wq_then ?_
  refine wc_cond rfl (fun hc_1 => ?_) (fun hc_1 => ?_)
  · skip
    have hno : rchk ν.r a 2 0 n = none := by
      cases hq : rchk ν.r a 2 0 n with
      | none => rfl
      | some x => rw [hq] at hcv; simp [rchkV] at hcv; rw [hcv.2] at hc_1; cases hc_1
    have hall := rchk_all hno
    refine wc_seq ?_
    refine wc_weak (.cons (i := 0) rfl <| .cons (i := 1) rfl <| .cons (i := 2) rfl <| .cons (i := 3) rfl <| .cons (i := 8) rfl <| .cons (i := 9) rfl <| .cons (i := 16) rfl <| .nil) ?_
    refine wc_region ?_
    refine wl_free .none rfl (yf_assign rfl) ?_
    refine wl_nil ?_
    refine wq_then ?_
    refine wc_block ?_
    refine wc_loop (ι := {i : Nat // i ≤ n}) (fun i => [(0, ptrV ν.M), (1, .int .u32 a), (2, .int .i64 n), (3, .int .u32 (rx x i.1)), (8, ptrV b8), (9, ptrV b9), (10, .int .i64 i.1)]) (fun i => Hp (fun k => k ∈ (refL ν).map (·.1)) w_0 ((b9, bk 145 [.int .u32 0, .int .u32 cx, .bool cb]) :: (b8, bk 145 [.int .u32 0, .int .u32 0, .bool false]) :: refL (ν.st (rstoreGo ν.b a x i.1))) [] (fun _ => True)) (fun i => n - i.1) ⟨0, Nat.zero_le _⟩ ?_ ?_ (fun i => ?_)
    · exact .cons rfl <| .cons rfl <| .cons rfl <| .cons rfl <| .cons rfl <| .cons rfl <| .cons rfl <| .nil
    · exact fun w h => h
    obtain ⟨i, hi⟩ := i
    dsimp only
    refine wc_seq ?_
    refine wc_seq ?_
    refine wc_region ?_
    refine wl_free .none rfl (yf_move rfl) ?_
    refine wl_free .none rfl (yf_move rfl) ?_
    refine wl_free .none rfl (yf_lss rfl rfl) ?_
    refine wl_nil ?_
    refine wq_then ?_
    refine wc_cond rfl (fun hc => ?_) (fun hc => ?_)
    · replace hc := of_decide_eq_true hc
      have hx := right_lt (hall i (Nat.zero_le _) (by omega))
      have hx0 := (adr_u32 a i).1
      obtain ⟨q, hq⟩ : ∃ q : Nat, adr a i = q := ⟨(adr a i).toNat, by omega⟩
      have hq2 : q < 768 := by omega
      have hr1 := (rx_u32 hxu i).1
      have hr2 := (rx_u32 hxu i).2
      refine wc_skip ?_
      refine wq_then ?_
      refine wc_seq ?_
      refine wc_block ?_
      refine wc_seq ?_
      refine wc_weak (.cons (i := 0) rfl <| .cons (i := 1) rfl <| .cons (i := 2) rfl <| .cons (i := 3) rfl <| .cons (i := 8) rfl <| .cons (i := 9) rfl <| .cons (i := 10) rfl <| .cons (i := 19) rfl <| .nil) ?_
      refine wc_region ?_
      refine wl_free .none rfl (yf_move rfl) ?_
      refine wl_free .none rfl (yf_nilCheck rfl) ?_
      refine wl_free .none rfl (yf_fieldAddr (off := 0) (sz := 0) rfl Try.underlying142 (by kernel_rfl) rfl) ?_
      refine wl_free .none rfl (yf_loadG rfl (fun w h => OnL.RM (ν := ν.st (rstoreGo ν.b a x i)) (fun p hp => HpG.own h p (List.mem_cons_of_mem _ (List.mem_cons_of_mem _ hp)))) rfl Try.underlying139 rfl) ?_
      refine wl_free .none rfl (yf_move rfl) ?_
      refine wl_free .none rfl (yf_move rfl) ?_
      refine wl_free .none rfl (yf_conv rfl (by kernel_rfl) Try.underlying34 (u32_in _ (by omega) (by omega))) ?_
      refine wl_free .none rfl (yf_add rfl rfl hq) ?_
      refine wl_free .none rfl (yf_move rfl) ?_
      refine wl_free .none rfl (yf_conv rfl (by kernel_rfl) Try.underlying5 rfl) ?_
      first | (refine wl_free .none rfl (yf_indexAddrS (es := 1) rfl rfl Try.underlying139 (by kernel_rfl) rfl ?_ rfl) ?_; (· first | decide | omega | (simp; omega)); skip) | (refine wl_free .none rfl (yf_indexAddrS (es := 1) rfl rfl Try.underlying139 (by kernel_rfl) (Int.toNat_of_nonneg ?_).symm ?_ rfl) ?_; (· omega); (· first | decide | omega | (simp; omega)); skip)
      refine wl_chain0 .none (cf_store 3 rfl rfl rfl rfl (blt_of (by rw [u8s_len]; show _ < (rstoreGo ν.b a x i).length; rw [rstoreGo_len, ok.lb]; omega)) (by kernel_rfl)) (fun _ => ?_)
      refine wl_nil ?_
      refine wq_then ?_
      refine wc_weak (.cons (i := 0) rfl <| .cons (i := 1) rfl <| .cons (i := 2) rfl <| .cons (i := 3) rfl <| .cons (i := 8) rfl <| .cons (i := 9) rfl <| .cons (i := 10) rfl <| .cons (i := 19) rfl <| .nil) ?_
      refine wc_region ?_
      refine wl_free .none rfl (yf_move rfl) ?_
      (refine wl_free .none rfl (yf_quo rfl rfl ?_ ((by rw [Int.tdiv_eq_ediv_of_nonneg hr1]; exact u32_in _ (by omega) (by omega)) : IntKind.u32.wrap ((rx x i).tdiv 256) = rx x i / 256)) ?_; (· first | decide | omega); skip)
      refine wl_free .none rfl (yf_assign rfl) ?_
      refine wl_nil ?_
      refine wq_block ?_
      refine wq_then ?_
      refine wc_weak (.cons (i := 0) rfl <| .cons (i := 1) rfl <| .cons (i := 2) rfl <| .cons (i := 3) rfl <| .cons (i := 8) rfl <| .cons (i := 9) rfl <| .cons (i := 10) rfl <| .cons (i := 19) rfl <| .nil) ?_
      refine wc_region ?_
      refine wl_free .none rfl (yf_move rfl) ?_
      first | (refine wl_free .none rfl (yf_add rfl rfl (i64_in _ ?_ ?_)) ?_; (· omega); (· omega); skip) | refine wl_free .none rfl (yf_add rfl rfl rfl) ?_
      refine wl_free .none rfl (yf_assign rfl) ?_
      refine wl_nil ?_
      refine wq_round (ι := {i : Nat // i ≤ n}) ⟨i + 1, by omega⟩ (by show n - (i + 1) < n - i; omega) (.cons rfl <| .cons rfl <| .cons rfl <| .consE rfl rfl <| .cons rfl <| .cons rfl <| .consE rfl rfl <| .nil) (fun u h => ?_)
      have e : (u8s (rstoreGo ν.b a x i)).set (0 + q * 1) (.int .u8 (IntKind.u8.wrap (rx x i))) = u8s (rstoreGo ν.b a x (i + 1)) := by
        rw [Nat.zero_add, Nat.mul_one, u8s, u8s, ← List.map_set]
        show _ = ((rstoreGo ν.b a x i).set (adr a i).toNat (IntKind.u8.wrap (rx x i))).map _
        rw [hq, Int.toNat_natCast]
      show Hp _ _ [_, _, _, (ν.D, bk 5 (u8s (rstoreGo ν.b a x (i + 1)))), _] _ _ _
      rw [← e]; exact h
    · replace hc := of_decide_eq_false hc
      refine wc_exit ?_
      refine wq_then_exit ?_
      refine wq_then_exit ?_
      refine wq_here ?_
      refine wq_then ?_
      refine wc_seq ?_
      refine wc_weak (.cons (i := 0) rfl <| .cons (i := 1) rfl <| .cons (i := 2) rfl <| .cons (i := 3) rfl <| .cons (i := 8) rfl <| .cons (i := 9) rfl <| .cons (i := 10) rfl <| .cons (i := 19) rfl <| .nil) ?_
      refine wc_region ?_
      first | refine wl_free .none rfl (yf_loadAllL 0 rfl rfl Try.underlying145 rfl (by kernel_rfl)) ?_ | refine wl_free .none rfl (yf_loadAllL 1 rfl rfl Try.underlying145 rfl (by kernel_rfl)) ?_ | refine wl_free .none rfl (yf_loadAllL 2 rfl rfl Try.underlying145 rfl (by kernel_rfl)) ?_ | refine wl_free .none rfl (yf_loadAllL 3 rfl rfl Try.underlying145 rfl (by kernel_rfl)) ?_ | refine wl_free .none rfl (yf_loadAllL 4 rfl rfl Try.underlying145 rfl (by kernel_rfl)) ?_ | refine wl_free .none rfl (yf_loadAllL 5 rfl rfl Try.underlying145 rfl (by kernel_rfl)) ?_
      first | refine wl_chain0 .none (cf_storeRow 0 rfl rfl rfl rfl rfl (by kernel_rfl)) (fun _ => ?_) | refine wl_chain0 .none (cf_storeRow 1 rfl rfl rfl rfl rfl (by kernel_rfl)) (fun _ => ?_) | refine wl_chain0 .none (cf_storeRow 2 rfl rfl rfl rfl rfl (by kernel_rfl)) (fun _ => ?_) | refine wl_chain0 .none (cf_storeRow 3 rfl rfl rfl rfl rfl (by kernel_rfl)) (fun _ => ?_) | refine wl_chain0 .none (cf_storeRow 4 rfl rfl rfl rfl rfl (by kernel_rfl)) (fun _ => ?_) | refine wl_chain0 .none (cf_storeRow 5 rfl rfl rfl rfl rfl (by kernel_rfl)) (fun _ => ?_)
      refine wl_nil ?_
      refine wq_then ?_
      refine wc_ret ?_
      first | refine wq_retC rfl rfl 0 rfl Try.underlying145 rfl (by kernel_rfl) (fun w hw => ?_) | refine wq_retC rfl rfl 1 rfl Try.underlying145 rfl (by kernel_rfl) (fun w hw => ?_) | refine wq_retC rfl rfl 2 rfl Try.underlying145 rfl (by kernel_rfl) (fun w hw => ?_) | refine wq_retC rfl rfl 3 rfl Try.underlying145 rfl (by kernel_rfl) (fun w hw => ?_) | refine wq_retC rfl rfl 4 rfl Try.underlying145 rfl (by kernel_rfl) (fun w hw => ?_) | refine wq_retC rfl rfl 5 rfl Try.underlying145 rfl (by kernel_rfl) (fun w hw => ?_) | refine wq_retC rfl rfl 6 rfl Try.underlying145 rfl (by kernel_rfl) (fun w hw => ?_)
      have e : i = n := by omega
      subst e
      refine ⟨_, rfl, ?_, ?_⟩
      · rw [hcv]; rfl
      · rw [rstoreB, hno]; exact Hp.drop hw (.cons _ (.cons _ (.refl _))) (.refl _)
  · skip
    have hso : rchk ν.r a 2 0 n = some cx := by
      cases hq : rchk ν.r a 2 0 n with
      | none => rw [hq] at hcv; simp [rchkV] at hcv; rw [hcv.2] at hc_1; cases hc_1
      | some x => rw [hq] at hcv; simp [rchkV] at hcv; rw [hcv.1]
    refine wc_skip ?_
    refine wq_then ?_
    refine wc_seq ?_
    refine wc_weak (.cons (i := 0) rfl <| .cons (i := 1) rfl <| .cons (i := 2) rfl <| .cons (i := 3) rfl <| .cons (i := 8) rfl <| .cons (i := 9) rfl <| .cons (i := 16) rfl <| .nil) ?_
    refine wc_region ?_
    first | refine wl_free .none rfl (yf_loadAllL 0 rfl rfl Try.underlying145 rfl (by kernel_rfl)) ?_ | refine wl_free .none rfl (yf_loadAllL 1 rfl rfl Try.underlying145 rfl (by kernel_rfl)) ?_ | refine wl_free .none rfl (yf_loadAllL 2 rfl rfl Try.underlying145 rfl (by kernel_rfl)) ?_ | refine wl_free .none rfl (yf_loadAllL 3 rfl rfl Try.underlying145 rfl (by kernel_rfl)) ?_ | refine wl_free .none rfl (yf_loadAllL 4 rfl rfl Try.underlying145 rfl (by kernel_rfl)) ?_ | refine wl_free .none rfl (yf_loadAllL 5 rfl rfl Try.underlying145 rfl (by kernel_rfl)) ?_
    first | refine wl_chain0 .none (cf_storeRow 0 rfl rfl rfl rfl rfl (by kernel_rfl)) (fun _ => ?_) | refine wl_chain0 .none (cf_storeRow 1 rfl rfl rfl rfl rfl (by kernel_rfl)) (fun _ => ?_) | refine wl_chain0 .none (cf_storeRow 2 rfl rfl rfl rfl rfl (by kernel_rfl)) (fun _ => ?_) | refine wl_chain0 .none (cf_storeRow 3 rfl rfl rfl rfl rfl (by kernel_rfl)) (fun _ => ?_) | refine wl_chain0 .none (cf_storeRow 4 rfl rfl rfl rfl rfl (by kernel_rfl)) (fun _ => ?_) | refine wl_chain0 .none (cf_storeRow 5 rfl rfl rfl rfl rfl (by kernel_rfl)) (fun _ => ?_)
    refine wl_nil ?_
    refine wq_then ?_
    refine wc_ret ?_
    first | refine wq_retC rfl rfl 0 rfl Try.underlying145 rfl (by kernel_rfl) (fun w hw => ?_) | refine wq_retC rfl rfl 1 rfl Try.underlying145 rfl (by kernel_rfl) (fun w hw => ?_) | refine wq_retC rfl rfl 2 rfl Try.underlying145 rfl (by kernel_rfl) (fun w hw => ?_) | refine wq_retC rfl rfl 3 rfl Try.underlying145 rfl (by kernel_rfl) (fun w hw => ?_) | refine wq_retC rfl rfl 4 rfl Try.underlying145 rfl (by kernel_rfl) (fun w hw => ?_) | refine wq_retC rfl rfl 5 rfl Try.underlying145 rfl (by kernel_rfl) (fun w hw => ?_) | refine wq_retC rfl rfl 6 rfl Try.underlying145 rfl (by kernel_rfl) (fun w hw => ?_)
    refine ⟨_, rfl, ?_, ?_⟩
    · rw [hcv]; rfl
    · rw [rstoreB, hso]; exact Hp.drop hw (.cons _ (.cons _ (.refl _))) (.refl _)
end Go.Proofs.Ytojofinofpgopaa
/- The two memories agree: plain laws. -/
namespace Go.Proofs.Ytojofinofpgopaa
theorem right_bad7 : ∀ x : Fin 8, ∀ r : Fin 2, ((IntKind.i64.wrap (((x.val : Nat) : Int).tdiv ((r.val : Nat) + 1 : Int))).tmod 2 == 1) = !(bits .and .i64 ((x.val : Nat) : Int) ((r.val : Nat) + 1 : Int) == 0) := by decide
theorem right_bad {rs : List Int} (h : ∀ v ∈ rs, 0 ≤ v ∧ v ≤ 7) (a r : Int) (hr : r = 1 ∨ r = 2) : rightR rs a r = !badR rs a r := by
  have hv : 0 ≤ rs.getD (a / 256).toNat 0 ∧ rs.getD (a / 256).toNat 0 ≤ 7 := by
    rw [List.getD_eq_getElem?_getD]
    cases hq : rs[(a / 256).toNat]? with
    | none => exact ⟨by decide, by decide⟩
    | some v => exact h v (List.mem_of_getElem? hq)
  unfold rightR badR
  obtain ⟨v, hve⟩ : ∃ v, rs.getD (a / 256).toNat 0 = v := ⟨_, rfl⟩
  rw [hve] at hv ⊢
  obtain ⟨m, rfl⟩ := Int.eq_ofNat_of_zero_le hv.1
  have hm : m < 8 := by omega
  have key := right_bad7 ⟨m, hm⟩
  rcases hr with rfl | rfl
  · have k0 := key 0
    simp only [Fin.val_zero] at k0
    by_cases ha : a < 768
    · simp [ha]; simpa using k0
    · simp [ha]
  · have k1 := key 1
    by_cases ha : a < 768
    · simp [ha]; simpa using k1
    · simp [ha]
theorem chk_eq {rs : List Int} (h : ∀ v ∈ rs, 0 ≤ v ∧ v ≤ 7) (a r : Int) (hr : r = 1 ∨ r = 2) : ∀ c i, rchk rs a r i c = chkL rs a r i c
  | 0, _ => rfl
  | c + 1, i => by
    rw [rchk, chkL, right_bad h (adr a i) r hr, chk_eq h a r hr c (i + 1)]
    cases badR rs (adr a i) r <;> rfl
theorem u8_nat {m : Nat} : IntKind.u8.wrap (m : Int) = ((m % 256 : Nat) : Int) := by
  simp only [IntKind.wrap, IntKind.bits, IntKind.signed]
  simp
theorem rx_nat (m : Nat) : ∀ i, rx (m : Int) i = ((m / 256 ^ i : Nat) : Int)
  | 0 => by simp [rx]
  | i + 1 => by
    show rx (m : Int) i / 256 = _
    rw [rx_nat m i, Nat.pow_succ, ← Nat.div_div_eq_div_mul]
    rfl
theorem byte_eq {m : Nat} (hm : m < 4294967296) {i : Nat} (hi : i < 4) : byteOf (m : Int) i = IntKind.u8.wrap (rx (m : Int) i) := by
  rw [rx_nat, byteOf]
  congr 1
  have h8 : (8 * (i : Int)).toNat = 8 * i := by omega
  have hmin : min (8 * (i : Int)).toNat IntKind.u32.bits = 8 * i := by
    rw [h8]
    show min (8 * i) 32 = 8 * i
    omega
  rw [hmin]
  have e : (2 : Int) ^ (8 * i) = ((256 ^ i : Nat) : Int) := by
    rw [show (256 : Nat) = 2 ^ 8 by decide, ← Nat.pow_mul]; simp
  rw [e, Int.fdiv_eq_ediv_of_nonneg _ (Int.natCast_nonneg _)]
  rfl
theorem store_eq {b : List Int} {a x : Int} (hx : U32 x) : ∀ n, n ≤ 4 → rstoreGo b a x n = storeGo b a x n
  | 0, _ => rfl
  | i + 1, h => by
    obtain ⟨m, rfl⟩ := Int.eq_ofNat_of_zero_le hx.1
    have hm := hx.2
    show (rstoreGo b a m i).set _ _ = (storeGo b a m i).set _ _
    rw [store_eq hx i (by omega), byte_eq (by omega) (by omega)]
end Go.Proofs.Ytojofinofpgopaa
/- Loads agree. -/
namespace Go.Proofs.Ytojofinofpgopaa
theorem wrap_u32 (x : Int) : IntKind.u32.wrap x = x % 4294967296 := by
  simp only [IntKind.wrap, IntKind.bits, IntKind.signed]
  simp
theorem or_add {k b : Nat} (hb : b < 256) : (k * 256) ||| b = k * 256 + b := by
  have := Nat.two_pow_add_eq_or_of_lt (i := 8) (b := b) hb k
  rw [Nat.mul_comm] at this
  exact this.symm
theorem load_step {v b : Int} (hv : 0 ≤ v) (hb : U8 b) : bits .or .u32 (IntKind.u32.wrap (v * 2 ^ (min (8 : Int).toNat IntKind.u32.bits))) b = IntKind.u32.wrap (IntKind.u32.wrap (v * 256) + b) := by
  obtain ⟨m, rfl⟩ := Int.eq_ofNat_of_zero_le hv
  obtain ⟨c, rfl⟩ := Int.eq_ofNat_of_zero_le hb.1
  have hc := hb.2
  have e : (2 : Int) ^ (min (8 : Int).toNat IntKind.u32.bits) = 256 := by decide
  rw [e]
  have e2 : IntKind.u32.wrap ((m : Int) * 256) = ((m % 16777216 * 256 : Nat) : Int) := by rw [wrap_u32]; omega
  rw [e2, u32_or_nat _ _ (by omega) (by omega), or_add (by omega), wrap_u32]
  omega
theorem load_eq {b : List Int} (hb : ∀ a, U8 (byteAt b a)) (a : Int) : ∀ n v, 0 ≤ v → rloadGo b a n v = loadGo b a n v
  | 0, _, _ => rfl
  | k + 1, v, hv => by
    show rloadGo b a k _ = loadGo b a k _
    rw [load_step hv (hb _)]
    exact load_eq hb a k _ (u32_wrap _).1
end Go.Proofs.Ytojofinofpgopaa
/- Plain: the evaluation of a block with a memory. -/
namespace Go.Proofs.Ytojofinofpgopaa
open Go.RowKit
/-- A memory: the rights of its pages and its bytes; none: no memory. -/
abbrev PM := Option (List Int × List Int)
structure MemOk (r : List Int × List Int) : Prop where
  len : r.2.length = 768
  u8 : ∀ v ∈ r.2, U8 v
  lr : r.1.length = 3
def PMok (m : PM) : Prop := ∀ r, m = some r → MemOk r
theorem MemOk.at_ {r : List Int × List Int} (h : MemOk r) (a : Int) : U8 (byteAt r.2 a) := by
  unfold byteAt
  rw [List.getD_eq_getElem?_getD]
  cases hq : r.2[a.toNat]? with
  | none => exact ⟨by decide, by decide⟩
  | some v => exact h.u8 v (List.mem_of_getElem? hq)
theorem mm_ok {μ : Mm} (h : μ.Ok) : PMok (some (μ.rs, μ.bytes)) := fun r e => by
  cases e
  refine ⟨h.toWf.bytes_len, fun v hv => ?_, by show (μ.p.map (·.r)).length = 3; rw [List.length_map, h.toWf.len]⟩
  obtain ⟨p, hp, hv⟩ := List.mem_flatMap.1 hv
  exact (h.toWf.c p hp).2.1 v hv
theorem rm_ok {ν : Rm} (h : ν.Ok) : PMok (some (ν.r, ν.b)) := fun r e => by
  cases e
  exact ⟨h.lb, h.u8, h.lr⟩
def szL (c : Int) : Nat := if c = 16 ∨ c = 18 then 4 else 1
theorem szL_in (c : Int) : 1 ≤ szL c ∧ szL c ≤ 4 := by unfold szL; split <;> omega
def ldP : PM → Int → Nat → Option Int
  | none, _, _ => none
  | some r, a, n => match chkL r.1 a 1 0 n with
    | none => some (loadGo r.2 a n 0)
    | some _ => none
def stP : PM → Int → Int → Nat → Option PM
  | none, _, _, _ => none
  | some r, a, v, n => match chkL r.1 a 2 0 n with
    | none => some (some (r.1, storeGo r.2 a v n))
    | some _ => none
theorem storeGo_len (b : List Int) (a x : Int) : ∀ i, (storeGo b a x i).length = b.length
  | 0 => rfl
  | i + 1 => by show (List.set _ _ _).length = _; rw [List.length_set]; exact storeGo_len b a x i
theorem storeGo_u8 {b : List Int} (h : ∀ v ∈ b, U8 v) (a x : Int) : ∀ i, ∀ v ∈ storeGo b a x i, U8 v
  | 0 => h
  | i + 1 => mem_set (storeGo_u8 h a x i) (u8_wrap _)
theorem stP_ok {m m' : PM} {a v : Int} {n : Nat} (h : PMok m) (hs : stP m a v n = some m') : PMok m' := by
  cases m with
  | none => cases hs
  | some r =>
    unfold stP at hs
    dsimp only at hs
    split at hs
    · cases hs
      intro r' e
      cases e
      have h0 := h r rfl
      exact ⟨by show (storeGo _ _ _ _).length = 768; rw [storeGo_len]; exact h0.len, storeGo_u8 h0.u8 a v n, h0.lr⟩
    · cases hs
theorem ldP_u32 {m : PM} {a v : Int} {n : Nat} (h : PMok m) (hn : 1 ≤ n) (hs : ldP m a n = some v) : U32 v := by
  cases m with
  | none => cases hs
  | some r =>
    unfold ldP at hs
    dsimp only at hs
    split at hs
    · cases hs
      have h0 := h r rfl
      rw [← load_eq h0.at_ a n 0 (by decide)]
      obtain ⟨k, rfl⟩ : ∃ k, n = k + 1 := ⟨n - 1, by omega⟩
      clear hn
      have : ∀ k v, U32 (rloadGo r.2 a (k + 1) v) := fun k => by
        induction k with
        | zero => intro v; exact u32_wrap _
        | succ k ih => intro v; exact ih _
      exact this k 0
    · cases hs
/-- One operation: whether the evaluation stops, the outcome so far, the number of the instruction, the memory. -/
def evStepM (at_ : List Int) (o : IOp) (s : EvOut) (cur : Int) (m : PM) : Bool × EvOut × Int × PM :=
  if o.code = 16 ∨ o.code = 17 then
    match ldP m (IntKind.u32.wrap (s.get o.a + o.n)) (szL o.code) with
    | some v => (false, s.set o.d v, cur, m)
    | none => (true, s.leave at_ cur, cur, m)
  else if o.code = 18 ∨ o.code = 19 then
    match stP m (IntKind.u32.wrap (s.get o.a + o.n)) (s.get o.b) (szL o.code) with
    | some m' => (false, s, cur, m')
    | none => (true, s.leave at_ cur, cur, m)
  else ((evStep at_ o s cur).1, (evStep at_ o s cur).2.1, (evStep at_ o s cur).2.2, m)
def evGoM (at_ : List Int) : List IOp → EvOut → Int → PM → EvOut × PM
  | [], s, _, m => (s, m)
  | o :: rest, s, cur, m =>
    match evStepM at_ o s cur m with
    | (true, s', _, m') => (s', m')
    | (false, s', cur', m') => evGoM at_ rest s' cur' m'
theorem evGoM_cont {at_ : List Int} {ops : List IOp} {k : Nat} {s s' : EvOut} {cur cur' : Int} {m m' : PM} (hk : k < ops.length) (h : evStepM at_ (ops.getD k noOp) s cur m = (false, s', cur', m')) :
    evGoM at_ (ops.drop k) s cur m = evGoM at_ (ops.drop (k + 1)) s' cur' m' := by
  rw [List.drop_eq_getElem_cons hk, evGoM, ← getD_at (d := noOp) hk, h]
theorem evGoM_stop {at_ : List Int} {ops : List IOp} {k : Nat} {s s' : EvOut} {cur cur' : Int} {m m' : PM} (hk : k < ops.length) (h : evStepM at_ (ops.getD k noOp) s cur m = (true, s', cur', m')) :
    evGoM at_ (ops.drop k) s cur m = (s', m') := by
  rw [List.drop_eq_getElem_cons hk, evGoM, ← getD_at (d := noOp) hk, h]
def evalM (b : IBlk) (vars : List Int) (m : PM) : EvOut × PM :=
  if validL b then ((evGoM b.at_ b.ops ⟨false, 0, b.at_.length, 0, vars⟩ 0 m).1.guests, (evGoM b.at_ b.ops ⟨false, 0, b.at_.length, 0, vars⟩ 0 m).2) else (zeroOut, m)
theorem evStepM_nil (at_ : List Int) (o : IOp) (s : EvOut) (cur : Int) : evStepM at_ o s cur none = ((evStep at_ o s cur).1, (evStep at_ o s cur).2.1, (evStep at_ o s cur).2.2, none) := by
  unfold evStepM ldP stP
  by_cases h1 : o.code = 16 ∨ o.code = 17
  · rw [if_pos h1]
    have : evStep at_ o s cur = (true, s.leave at_ cur, cur) := by
      unfold evStep; rcases h1 with h | h <;> rw [h] <;> simp
    rw [this]
  · rw [if_neg h1]
    by_cases h2 : o.code = 18 ∨ o.code = 19
    · rw [if_pos h2]
      have : evStep at_ o s cur = (true, s.leave at_ cur, cur) := by
        unfold evStep; rcases h2 with h | h <;> rw [h] <;> simp
      rw [this]
    · rw [if_neg h2]
theorem evGoM_nil (at_ : List Int) : ∀ (ops : List IOp) (s : EvOut) (cur : Int), evGoM at_ ops s cur none = (evGo at_ ops s cur, none)
  | [], _, _ => rfl
  | o :: rest, s, cur => by
    rw [evGoM, evStepM_nil, evGo]
    rcases h : evStep at_ o s cur with ⟨b, s', c'⟩
    cases b
    · exact evGoM_nil at_ rest s' c'
    · rfl
theorem evalM_nil (b : IBlk) (vars : List Int) : evalM b vars none = (evalNil b vars, none) := by
  unfold evalM evalNil
  split
  · rw [evGoM_nil]
  · rfl
/-- A load. -/
theorem evStepM_ld {at_ : List Int} {o : IOp} {s : EvOut} {cur : Int} {m : PM} (h : o.code = 16 ∨ o.code = 17) : evStepM at_ o s cur m = match ldP m (IntKind.u32.wrap (s.get o.a + o.n)) (szL o.code) with
    | some v => (false, s.set o.d v, cur, m)
    | none => (true, s.leave at_ cur, cur, m) := by rw [evStepM, if_pos h]
theorem evStepM_st {at_ : List Int} {o : IOp} {s : EvOut} {cur : Int} {m : PM} (h : o.code = 18 ∨ o.code = 19) : evStepM at_ o s cur m = match stP m (IntKind.u32.wrap (s.get o.a + o.n)) (s.get o.b) (szL o.code) with
    | some m' => (false, s, cur, m')
    | none => (true, s.leave at_ cur, cur, m) := by rw [evStepM, if_neg (by omega), if_pos h]
theorem evStepM_other {at_ : List Int} {o : IOp} {s : EvOut} {cur : Int} {m : PM} (h : o.code < 16 ∨ 19 < o.code) : evStepM at_ o s cur m = ((evStep at_ o s cur).1, (evStep at_ o s cur).2.1, (evStep at_ o s cur).2.2, m) := by rw [evStepM, if_neg (by omega), if_neg (by omega)]
end Go.Proofs.Ytojofinofpgopaa
/- The reference's memory: Page. -/
namespace Go.Proofs.Ytojofinofpgopaa
open Go.RowKit
theorem yf_sliceLoHi {P : Program} {n : Nat} {m : List (Nat × Value)} {ty : TypeId} {H : World → Prop} {x lo hi : Operand} {t e : TypeId} {k k' : IntKind} {g o len cap i j size c : Nat} {a b : Int} (hx : ev m x = some (.slice (some ⟨g, o, none⟩) len cap)) (hl : ev m lo = some (.int k a)) (hh : ev m hi = some (.int k' b)) (ht : P.underlying t = some (.slice e)) (hs' : (P.info? e).map (·.size) = some size) (ha : a = i) (hb : b = j) (hij : i ≤ j) (hj : j ≤ cap) (hi' : i < cap) (hc : o + i * size = c) :
    YF P (.slice t x (some lo) (some hi) none) ty n m H (.slice (some ⟨g, c, none⟩) (j - i) (cap - i)) := fun _ w d pos af gd hs hw => by
  subst ha; subst hb; subst hc
  have h1 : ¬ (cap < j) := by omega
  have h2 : ¬ (cap = i) := by omega
  have h3 : ¬ (j < i) := by omega
  have h4 : (i : Int) ≤ j := by omega
  have h5 : i ≤ cap := by omega
  simp [Yl, execOp, hs.ev hx, hs.ev hl, hs.ev hh, Instr.sliceAt, run_underlying ht, Instr.slice, Instr.sliceBounds, Instr.sliceBound, asIntOf, run_sizeOf hs', hj, h2, hij, Addr.add, Result.andThen]
set_option maxRecDepth 100000 in
theorem refPage_any (ν : Rm) (ok : ν.Ok) (i : Nat) (hi : i < 3) (w : World) (h : OnL (refL ν) w) : Calls Try.prog 71 #[ptrV ν.M, .int .i64 i] w fun e w' => e = .returned (.string (strOfNums ((ν.b.drop (256 * i)).take 256))) ∧ Ext w w' := by
  have hlb := ok.lb
  refine calls_wc (args := [ptrV ν.M, .int .i64 i]) Try.func71 rfl 27 rfl (Nat.le_of_ble_eq_true rfl) ?_
  refine wc_weak (.cons (i := 0) rfl <| .cons (i := 1) rfl <| .nil) ?_
  refine wc_conseq (H' := Hp (fun _ => False) w [] [] (OnL (refL ν))) (fun u hu => ?_) ?_
  · subst hu; exact Hp.start h.foot
  refine wc_seq ?_
  refine wc_region ?_
  refine wl_free .none rfl (yf_assign rfl) ?_
  refine wl_nil ?_
  refine wq_then ?_
  refine wc_seq ?_
  refine wc_seq ?_
  refine wc_region ?_
  refine wl_free .none rfl (yf_move rfl) ?_
  refine wl_free .none rfl (yf_lss rfl rfl) ?_
  refine wl_free .none rfl (yf_move rfl) ?_
  refine wl_split 7 rfl (fun hb => ?_) (fun hb => ?_)
  · replace hb := of_decide_eq_true hb
    omega
  · replace hb := of_decide_eq_false hb
    refine wl_free (.some rfl rfl) rfl (yf_move rfl) ?_
    refine wl_free (.some rfl rfl) rfl (yf_move rfl) ?_
    refine wl_free (.some rfl rfl) rfl (yf_nilCheck rfl) ?_
    refine wl_free (.some rfl rfl) rfl (yf_fieldAddr (off := 4) (sz := 0) rfl Try.underlying142 (by kernel_rfl) rfl) ?_
    refine wl_free (.some rfl rfl) rfl (yf_loadG rfl (fun w h => OnL.RM (HpG.x h)) rfl Try.underlying23 rfl) ?_
    refine wl_free (.some rfl rfl) rfl (yf_lenS rfl Try.underlying23) ?_
    refine wl_free (.some rfl rfl) rfl (yf_geq rfl rfl) ?_
    refine wl_free .none rfl (yf_pickF rfl rfl) ?_
    refine wl_nil ?_
    refine wq_then ?_
    refine wc_cond rfl (fun hc => ?_) (fun hc => ?_)
    · replace hc := of_decide_eq_true hc
      omega
    · replace hc := of_decide_eq_false hc
      refine wc_skip ?_
      refine wq_then ?_
      refine wc_seq ?_
      refine wc_weak (.cons (i := 0) rfl <| .cons (i := 1) rfl <| .cons (i := 4) rfl <| .cons (i := 15) rfl <| .nil) ?_
      refine wc_region ?_
      refine wl_free .none rfl (yf_move rfl) ?_
      refine wl_free .none rfl (yf_nilCheck rfl) ?_
      refine wl_free .none rfl (yf_fieldAddr (off := 0) (sz := 0) rfl Try.underlying142 (by kernel_rfl) rfl) ?_
      refine wl_free .none rfl (yf_loadG rfl (fun w h => OnL.RM (HpG.x h)) rfl Try.underlying139 rfl) ?_
      refine wl_free .none rfl (yf_move rfl) ?_
      first | (refine wl_free .none rfl (yf_mul rfl rfl (i64_in _ ?_ ?_)) ?_; (· omega); (· omega); skip) | refine wl_free .none rfl (yf_mul rfl rfl rfl) ?_
      refine wl_free .none rfl (yf_move rfl) ?_
      first | (refine wl_free .none rfl (yf_mul rfl rfl (i64_in _ ?_ ?_)) ?_; (· omega); (· omega); skip) | refine wl_free .none rfl (yf_mul rfl rfl rfl) ?_
      first | (refine wl_free .none rfl (yf_add rfl rfl (i64_in _ ?_ ?_)) ?_; (· omega); (· omega); skip) | refine wl_free .none rfl (yf_add rfl rfl rfl) ?_
      refine wl_free .none rfl (yf_sliceLoHi (size := 1) (i := 256 * i) (j := 256 * i + 256) rfl rfl rfl Try.underlying139 (by kernel_rfl) (by omega) (by omega) (by omega) (by omega) (by omega) rfl) ?_
      refine wl_free .none rfl (yf_convBytes ((ν.b.drop (256 * i)).take 256) rfl Try.underlying139 Try.underlying5 Try.underlying9 (by rw [List.length_take, List.length_drop, hlb]; omega) (fun w h j hj => by
        have := OnL.RD (HpG.x h)
        rw [Nat.zero_add, Nat.mul_one, cell_of_row w _ _ _ _ _ this, List.getElem?_toArray]
        have hj2 : j < 256 := by omega
        rw [u8s_at (i := 256 * i + j) (by omega) rfl]
        congr 2
        rw [List.getD_eq_getElem?_getD, List.getD_eq_getElem?_getD, List.getElem?_take_of_lt hj2, List.getElem?_drop])) ?_
      refine wl_free .none rfl (yf_assign rfl) ?_
      refine wl_nil ?_
      refine wq_then ?_
      refine wc_ret ?_
      refine wq_ret1 rfl rfl (fun w hw => ?_)
      exact ⟨rfl, (HpG.keep hw).ext⟩
end Go.Proofs.Ytojofinofpgopaa
/- Plain: what a step of the evaluation keeps. -/
namespace Go.Proofs.Ytojofinofpgopaa
theorem evStep_keep {at_ : List Int} {o : IOp} {s s' : EvOut} {cur c' : Int} (h : evStep at_ o s cur = (false, s', c')) : s'.lv = s.lv ∧ s'.idx = s.idx ∧ s'.done = s.done ∧ c' = if o.code = 20 then o.n else cur := by
  unfold evStep at h
  repeat' split at h
  all_goals first
    | (simp only [Prod.mk.injEq, Bool.true_eq_false, false_and] at h; done)
    | (simp only [Prod.mk.injEq, true_and] at h; obtain ⟨rfl, rfl⟩ := h; refine ⟨rfl, rfl, rfl, ?_⟩; first | (rw [if_pos (by assumption)]; done) | (rw [if_neg (by omega)]; done))
theorem evStepM_keep {at_ : List Int} {o : IOp} {s s' : EvOut} {cur c' : Int} {m m' : PM} (h : evStepM at_ o s cur m = (false, s', c', m')) : s'.lv = s.lv ∧ s'.idx = s.idx ∧ s'.done = s.done ∧ c' = if o.code = 20 then o.n else cur := by
  by_cases h1 : o.code = 16 ∨ o.code = 17
  · rw [evStepM_ld h1] at h
    split at h
    · simp only [Prod.mk.injEq, true_and] at h
      obtain ⟨rfl, rfl, _⟩ := h
      exact ⟨rfl, rfl, rfl, by rw [if_neg (by omega)]⟩
    · simp at h
  · by_cases h2 : o.code = 18 ∨ o.code = 19
    · rw [evStepM_st h2] at h
      split at h
      · simp only [Prod.mk.injEq, true_and] at h
        obtain ⟨rfl, rfl, _⟩ := h
        exact ⟨rfl, rfl, rfl, by rw [if_neg (by omega)]⟩
      · simp at h
    · rw [evStepM_other (by omega)] at h
      simp only [Prod.mk.injEq] at h
      obtain ⟨h3, h4, h5, _⟩ := h
      exact evStep_keep (Prod.ext h3 (Prod.ext h4 h5))
/-- A step that stops leaves, or is an exit that is taken. -/
theorem evStep_stop {at_ : List Int} {o : IOp} {s s' : EvOut} {cur c' : Int} (h : evStep at_ o s cur = (true, s', c')) : (shL o.code = true ∧ s' = s.leave at_ cur) ∨ (o.code = 23 ∧ s.get o.a ≠ 0 ∧ s' = { s with pc := o.n }) := by
  unfold evStep at h
  repeat' split at h
  all_goals first
    | (simp only [Prod.mk.injEq, Bool.false_eq_true, false_and] at h; done)
    | (simp only [Prod.mk.injEq, true_and] at h; obtain ⟨rfl, rfl⟩ := h; first | (left; refine ⟨?_, rfl⟩; simp [shL]; omega) | (right; exact ⟨by assumption, by assumption, rfl⟩))
theorem evStepM_stop {at_ : List Int} {o : IOp} {s s' : EvOut} {cur c' : Int} {m m' : PM} (h : evStepM at_ o s cur m = (true, s', c', m')) : m' = m ∧ ((shL o.code = true ∧ s' = s.leave at_ cur) ∨ (o.code = 23 ∧ s.get o.a ≠ 0 ∧ s' = { s with pc := o.n })) := by
  by_cases h1 : o.code = 16 ∨ o.code = 17
  · rw [evStepM_ld h1] at h
    split at h
    · simp at h
    · simp only [Prod.mk.injEq, true_and] at h
      obtain ⟨rfl, _, rfl⟩ := h
      exact ⟨rfl, .inl ⟨by rcases h1 with h | h <;> rw [h] <;> rfl, rfl⟩⟩
  · by_cases h2 : o.code = 18 ∨ o.code = 19
    · rw [evStepM_st h2] at h
      split at h
      · simp at h
      · simp only [Prod.mk.injEq, true_and] at h
        obtain ⟨rfl, _, rfl⟩ := h
        exact ⟨rfl, .inl ⟨by rcases h2 with h | h <;> rw [h] <;> rfl, rfl⟩⟩
    · rw [evStepM_other (by omega)] at h
      simp only [Prod.mk.injEq] at h
      obtain ⟨h3, h4, h5, h6⟩ := h
      exact ⟨h6.symm, evStep_stop (Prod.ext h3 (Prod.ext h4 h5))⟩
theorem evStepM_slow {at_ : List Int} {o : IOp} {s : EvOut} {cur : Int} {m : PM} (h : o.code = 22) : (evStepM at_ o s cur m).1 = true := by
  rw [evStepM_other (by omega)]; simp [evStep, h]
theorem evStep_vlen (at_ : List Int) (o : IOp) (s : EvOut) (cur : Int) : (evStep at_ o s cur).2.1.vars.length = s.vars.length := by
  unfold evStep
  repeat' split
  all_goals simp [EvOut.set, EvOut.leave]
theorem evStepM_len (at_ : List Int) (o : IOp) (s : EvOut) (cur : Int) (m : PM) : (evStepM at_ o s cur m).2.1.vars.length = s.vars.length := by
  by_cases h1 : o.code = 16 ∨ o.code = 17
  · rw [evStepM_ld h1]; split <;> simp [EvOut.set, EvOut.leave]
  · by_cases h2 : o.code = 18 ∨ o.code = 19
    · rw [evStepM_st h2]; split <;> simp [EvOut.leave]
    · rw [evStepM_other (by omega)]; exact evStep_vlen at_ o s cur
theorem evGoM_len (at_ : List Int) : ∀ (ops : List IOp) (s : EvOut) (cur : Int) (m : PM), (evGoM at_ ops s cur m).1.vars.length = s.vars.length
  | [], _, _, _ => rfl
  | o :: rest, s, cur, m => by
    have hl := evStepM_len at_ o s cur m
    rw [evGoM]
    rcases h : evStepM at_ o s cur m with ⟨b, s', c', m'⟩
    rw [h] at hl
    cases b
    · exact (evGoM_len at_ rest s' c' m').trans hl
    · exact hl
theorem evalM_len {vars : List Int} (h : vars.length = 28) (b : IBlk) (m : PM) : (evalM b vars m).1.vars.length = 28 := by
  unfold evalM
  split
  · show ((evGoM _ _ _ _ _).1.guests).vars.length = 28
    simp [EvOut.guests, evGoM_len, h]
  · rfl
end Go.Proofs.Ytojofinofpgopaa
