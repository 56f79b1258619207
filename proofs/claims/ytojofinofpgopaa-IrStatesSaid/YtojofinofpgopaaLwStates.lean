/- The walk of IrStates. -/
import Derived.Test.YtojofinofpgopaaSxK
import Derived.Test.YtojofinofpgopaaEq
import Derived.Test.YtojofinofpgopaaRfLv
import Derived.Test.YtojofinofpgopaaIrH
namespace Go.Proofs.Ytojofinofpgopaa
open Go.RowKit
/-- The part of a state that survives. -/
def normL (k : Int) (s : MSt) : MSt := if k = 1 then { s with r := s.r.take 8 ++ z16.drop 8, f := bits .and .u32 s.f 15 } else { s with r := s.r.set 0 0, f := 0 }
theorem norm_len (k : Int) {s : MSt} (h16 : s.r.length = 16) : (normL k s).r.length = 16 ∧ (normL k s).c = s.c := by
  unfold normL
  split
  · exact ⟨by simp [h16, z16], rfl⟩
  · exact ⟨by simp [h16], rfl⟩
theorem and15_u {f : Int} (h : U32 f) : U32 (bits .and .u32 f 15) := by
  have := and15 h
  rw [this]
  exact ⟨by omega, by omega⟩
theorem norm_ok (k : Int) {s : MSt} (h : StOk s) : StOk (normL k s) := by
  refine ⟨(norm_len k h.r16).1, by rw [(norm_len k h.r16).2]; exact h.c4, ?_, ?_⟩
  · intro v hv
    unfold normL at hv
    split at hv
    · rcases List.mem_append.1 hv with hv | hv
      · exact h.ru v (List.mem_of_mem_take hv)
      · have : v = 0 := List.eq_of_mem_replicate (List.mem_of_mem_drop hv)
        rw [this]; exact ⟨by decide, by decide⟩
    · rcases List.mem_or_eq_of_mem_set hv with hv | rfl
      · exact h.ru v hv
      · exact ⟨by decide, by decide⟩
  · unfold normL
    split
    · exact and15_u h.fu
    · exact (⟨by decide, by decide⟩ : U32 0)
theorem enter_u (k : Int) {s : MSt} (h : StOk s) : ∀ v ∈ enterL k s, U32 v := by
  have z : ∀ v ∈ z28, U32 v := fun v hv => by
    rw [List.eq_of_mem_replicate hv]; exact ⟨by decide, by decide⟩
  intro v hv
  unfold enterL at hv
  split at hv
  · rcases List.mem_or_eq_of_mem_set hv with hv | rfl
    · rcases List.mem_append.1 hv with hv | hv
      · exact h.ru v (List.mem_of_mem_take hv)
      · exact z v (List.mem_of_mem_drop hv)
    · exact and15_u h.fu
  · split at hv
    · rcases List.mem_append.1 hv with hv | hv
      · exact z v (List.mem_of_mem_take hv)
      · rcases List.mem_append.1 hv with hv | hv
        · exact h.ru v (List.mem_of_mem_drop (List.mem_of_mem_take hv))
        · exact z v (List.mem_of_mem_drop hv)
    · exact z v hv
theorem refF0 (a : Int) : refFlagsL 0 a 0 = bits .and .u32 a 15 := rfl
theorem and15_15 {f : Int} (h : U32 f) : bits .and .u32 (bits .and .u32 f 15) 15 = bits .and .u32 f 15 := by
  have e := and15 h
  have e2 := and15 (and15_u h)
  rw [e2, e]; omega
theorem back (k : Int) {s : MSt} (h : StOk s) : leaveL k (normL k s) (enterL k (normL k s)) = normL k s := by
  by_cases h1 : k = 1
  · subst h1
    have hf := h.fu
    obtain ⟨pc, r, f, c, st, du⟩ := s
    match r, h.r16 with
    | [a0, a1, a2, a3, a4, a5, a6, a7, a8, a9, a10, a11, a12, a13, a14, a15], _ =>
      show (⟨pc, _, refFlagsL 0 (bits .and .u32 (bits .and .u32 f 15) 15) 0, c, st, du⟩ : MSt) = ⟨pc, _, bits .and .u32 f 15, c, st, du⟩
      rw [refF0, and15_15 hf, and15_15 hf]; rfl
  · by_cases h2 : k = 2
    · subst h2
      obtain ⟨pc, r, f, c, st, du⟩ := s
      match r, h.r16 with
      | [a0, a1, a2, a3, a4, a5, a6, a7, a8, a9, a10, a11, a12, a13, a14, a15], _ => rfl
    · rw [leaveL, if_neg h1, if_neg h2]
theorem norm1 {s : MSt} (h16 : s.r.length = 16) : ((stL s).take 9 ++ List.replicate 8 (Value.int .u32 0) ++ (stL s).drop 17).set 17 (.int .u32 (bits .and .u32 s.f 15)) = stL (normL 1 s) := by
  obtain ⟨pc, r, f, c, st, du⟩ := s
  match r, h16 with
  | [a0, a1, a2, a3, a4, a5, a6, a7, a8, a9, a10, a11, a12, a13, a14, a15], _ => rfl
theorem norm2 {k : Int} {s : MSt} (h16 : s.r.length = 16) (hk : ¬ k = 1) : ((stL s).set 1 (.int .u32 0)).set 17 (.int .u32 0) = stL (normL k s) := by
  rw [normL, if_neg hk]
  obtain ⟨pc, r, f, c, st, du⟩ := s
  match r, h16 with
  | [a0, a1, a2, a3, a4, a5, a6, a7, a8, a9, a10, a11, a12, a13, a14, a15], _ => rfl
theorem norm_f {s : MSt} (h16 : s.r.length = 16) : ((stL s).take 9 ++ List.replicate 8 (Value.int .u32 0) ++ (stL s).drop 17)[17]? = some (.int .u32 s.f) := by
  obtain ⟨pc, r, f, c, st, du⟩ := s
  match r, h16 with
  | [a0, a1, a2, a3, a4, a5, a6, a7, a8, a9, a10, a11, a12, a13, a14, a15], _ => rfl
theorem back_call (k : Int) {s : MSt} (h : StOk s) (w : World) : Calls Try.prog 41 #[.int .i64 k, .agg (stL (normL k s)).toArray, .agg (u32s (enterL k (normL k s))).toArray] w fun e w' => e = .returned (.agg (stL (normL k s)).toArray) ∧ Ext w w' :=
  (irLeave_any k (normL k s) (enterL k (normL k s)) w (norm_ok k h) (enterL_len k (norm_ok k h)) (enter_u k (norm_ok k h))).mono fun e w' h2 => ⟨by rw [h2.1, back k h]; rfl, h2.2⟩
def J5 (b4 b5 b8 b9 b10 : Nat) (o4 o5 o8 o9 o10 : Obj) (w : World) : Prop := Blk b4 o4 w ∧ Blk b5 o5 w ∧ Blk b8 o8 w ∧ Blk b9 o9 w ∧ Blk b10 o10 w
theorem J5.stab {b4 b5 b8 b9 b10 : Nat} {o4 o5 o8 o9 o10 : Obj} : AStab (J5 b4 b5 b8 b9 b10 o4 o5 o8 o9 o10) := fun w ob ⟨h1, h2, h3, h4, h5⟩ => ⟨Blk.stab w ob h1, Blk.stab w ob h2, Blk.stab w ob h3, Blk.stab w ob h4, Blk.stab w ob h5⟩
theorem J5.ext {b4 b5 b8 b9 b10 : Nat} {o4 o5 o8 o9 o10 : Obj} : ∀ w w', J5 b4 b5 b8 b9 b10 o4 o5 o8 o9 o10 w → Ext w w' → J5 b4 b5 b8 b9 b10 o4 o5 o8 o9 o10 w' := fun _ _ ⟨h1, h2, h3, h4, h5⟩ hx => ⟨h1.onE hx, h2.onE hx, h3.onE hx, h4.onE hx, h5.onE hx⟩
theorem u32_zero (w : World) : (zeroValue 34).run Try.prog w = .ok (.int .u32 0) w := by kernel_rfl
set_option maxRecDepth 100000 in
set_option maxHeartbeats 4000000 in
theorem irStates_any (k : Int) (s : MSt) (x : List Int) (w : World) (h : StOk s) (hx : x.length = 28) (hu : ∀ v ∈ x, U32 v) :
    Calls Try.prog 13 #[.int .i64 k, stV s, .agg (u32s x).toArray] w fun e w' => e = .returned (.bool true) ∧ Below w.heap.size w w' := by
  have h16 := h.r16
  have h4 := h.c4
  have hl := stL24 h16 h4
  have hok := norm_ok k h
  have hln := stL24 hok.r16 hok.c4
  have hlv : (stL (leaveL k s x)).length = 24 := stL24 (leaveL_len k h hx).1 (leaveL_len k h hx).2
  have hen := enterL_len k h
  have henu := enter_u k hok
  have henl := enterL_len k hok
  have hbk := back k h
  refine calls_wc (args := [.int .i64 k, stV s, .agg (u32s x).toArray]) Try.func13 rfl 57 rfl (Nat.le_of_ble_eq_true rfl) ?_
  refine wc_weak (.cons (i := 0) rfl <| .cons (i := 1) rfl <| .cons (i := 2) rfl <| .nil) ?_
  refine wc_conseq (H' := Hp (fun _ => False) w [] [] (fun _ => True)) (fun u hu => ?_) ?_
  · subst hu; exact Hp.start0
  refine wc_seq ?_
  refine wc_region ?_
  refine wl_new .none rfl (nf_box rfl rfl) (fun b4 => ?_)
  refine wl_new .none rfl (nf_box rfl rfl) (fun b5 => ?_)
  refine wl_free .none rfl (yf_assign rfl) ?_
  refine wl_nil ?_
  refine wq_then ?_
  refine wc_seq ?_
  refine wc_region ?_
  refine wl_pure .none rfl (by kernel_rfl) rfl (fun w hw => sanity_any w) ?_
  refine wl_free .none rfl (yf_assign rfl) ?_
  refine wl_nil ?_
  refine wq_then ?_
  refine wc_seq ?_
  refine wc_weak (.cons (i := 0) rfl <| .cons (i := 1) rfl <| .cons (i := 2) rfl <| .cons (i := 4) rfl <| .cons (i := 5) rfl <| .cons (i := 6) rfl <| .cons (i := 7) rfl <| .nil) ?_
  refine wc_region ?_
  refine wl_free .none rfl (yf_loadAllL 1 rfl rfl Try.underlying75 rfl (st24 hl)) ?_
  refine wl_new .none rfl (nf_alloc (z := .agg #[.int .u32 0, .int .u32 0, .int .u32 0, .int .u32 0, .int .u32 0, .int .u32 0, .int .u32 0, .int .u32 0, .int .u32 0, .int .u32 0, .int .u32 0, .int .u32 0, .int .u32 0, .int .u32 0, .int .u32 0, .int .u32 0, .int .u32 0, .int .u32 0, .int .u32 0, .int .u32 0, .int .u32 0, .int .u32 0, .int .i64 0, .int .i64 0]) (cs := [.int .u32 0, .int .u32 0, .int .u32 0, .int .u32 0, .int .u32 0, .int .u32 0, .int .u32 0, .int .u32 0, .int .u32 0, .int .u32 0, .int .u32 0, .int .u32 0, .int .u32 0, .int .u32 0, .int .u32 0, .int .u32 0, .int .u32 0, .int .u32 0, .int .u32 0, .int .u32 0, .int .u32 0, .int .u32 0, .int .i64 0, .int .i64 0]) (by kernel_rfl) rfl) (fun b8 => ?_)
  refine wl_chain0 .none (cf_storeRow 0 rfl rfl rfl (stL_all _) (ble_of (by rw [hl]; exact Nat.le_refl _)) (st24 hl)) (fun _ => ?_)
  refine wl_conseq (H' := Hp (fun _ => False) w [(b8, bk 75 (stL s)), (b5, bk 37 (u32s x)), (b4, bk 75 (stL s))] [] (fun _ => True)) (fun u hu => ?_) ?_
  · have e := row_all (cs := stL st0) (seg := stL s) (by rw [hl]; rfl)
    have hu2 : Hp (fun _ => False) w [(b8, bk 75 ((stL st0).take 0 ++ stL s ++ (stL st0).drop (0 + (stL s).length))), (b5, bk 37 (u32s x)), (b4, bk 75 (stL s))] [] (fun _ => True) u := hu
    rw [e] at hu2
    exact hu2
  refine wl_nil ?_
  refine wq_then ?_
  refine wc_cut (ι := Unit) (fun _ => [(0, .int .i64 k), (4, .pointer (some ⟨b4, 0, none⟩)), (5, .pointer (some ⟨b5, 0, none⟩)), (7, .bool true), (8, .pointer (some ⟨b8, 0, none⟩))]) (fun _ => Hp (fun _ => False) w [(b8, bk 75 (stL (normL k s))), (b5, bk 37 (u32s x)), (b4, bk 75 (stL s))] [] (fun _ => True)) ?_ (fun i => ?_)
  · skip
    refine wc_seq ?_
    refine wc_weak (.cons (i := 0) rfl <| .cons (i := 1) rfl <| .cons (i := 2) rfl <| .cons (i := 4) rfl <| .cons (i := 5) rfl <| .cons (i := 6) rfl <| .cons (i := 7) rfl <| .cons (i := 8) rfl <| .nil) ?_
    refine wc_region ?_
    refine wl_free .none rfl (yf_move rfl) ?_
    refine wl_free .none rfl (yf_eql rfl rfl) ?_
    refine wl_nil ?_
    refine wq_then ?_
    refine wc_cond rfl (fun hc => ?_) (fun hc => ?_)
    · replace hc := eq_of_beq hc
      refine wc_seq ?_
      refine wc_weak (.cons (i := 0) rfl <| .cons (i := 1) rfl <| .cons (i := 2) rfl <| .cons (i := 4) rfl <| .cons (i := 5) rfl <| .cons (i := 6) rfl <| .cons (i := 7) rfl <| .cons (i := 8) rfl <| .cons (i := 14) rfl <| .nil) ?_
      refine wc_region ?_
      refine wl_free .none rfl (yf_fieldAddr (off := 1) (sz := 15) rfl Try.underlying75 (by kernel_rfl) rfl) ?_
      refine wl_free .none rfl (yf_sliceArrLo (i := 8) (size := 1) rfl rfl Try.underlying72 (by kernel_rfl) rfl (by decide) rfl rfl) ?_
      refine wl_chain0 .none (cf_clear (z := .int .u32 0) 0 rfl rfl Try.underlying22 u32_zero rfl rfl (by decide) (by rw [hl]; decide)) (fun _ => ?_)
      refine wl_nil ?_
      refine wq_then ?_
      refine wc_weak (.cons (i := 0) rfl <| .cons (i := 1) rfl <| .cons (i := 2) rfl <| .cons (i := 4) rfl <| .cons (i := 5) rfl <| .cons (i := 6) rfl <| .cons (i := 7) rfl <| .cons (i := 8) rfl <| .cons (i := 14) rfl <| .nil) ?_
      refine wc_region ?_
      refine wl_free .none rfl (yf_fieldAddr (off := 17) (sz := 0) rfl Try.underlying75 (by kernel_rfl) rfl) ?_
      refine wl_free .none rfl (yf_loadL (v := .int .u32 s.f) 0 rfl rfl (norm_f h16) Try.underlying34 rfl) ?_
      refine wl_free .none rfl (yf_and rfl rfl rfl) ?_
      refine wl_free .none rfl (yf_fieldAddr (off := 17) (sz := 0) rfl Try.underlying75 (by kernel_rfl) rfl) ?_
      refine wl_chain0 .none (cf_store 0 rfl rfl rfl rfl (blt_of (by simp only [List.length_append, List.length_take, List.length_drop, List.length_replicate, hl]; decide)) (by kernel_rfl)) (fun _ => ?_)
      refine wl_conseq (H' := Hp (fun _ => False) w [(b8, bk 75 (stL (normL k s))), (b5, bk 37 (u32s x)), (b4, bk 75 (stL s))] [] (fun _ => True)) (fun u hu => ?_) ?_
      · subst hc; rw [← norm1 h16]; exact hu
      refine wl_nil ?_
      exact wq_meet (ι := Unit) () (.cons rfl <| .cons rfl <| .cons rfl <| .cons rfl <| .cons rfl <| .nil) (fun w h => h)
    · replace hc := beq_no hc
      refine wc_seq ?_
      refine wc_weak (.cons (i := 0) rfl <| .cons (i := 1) rfl <| .cons (i := 2) rfl <| .cons (i := 4) rfl <| .cons (i := 5) rfl <| .cons (i := 6) rfl <| .cons (i := 7) rfl <| .cons (i := 8) rfl <| .cons (i := 14) rfl <| .nil) ?_
      refine wc_region ?_
      refine wl_free .none rfl (yf_fieldAddr (off := 1) (sz := 15) rfl Try.underlying75 (by kernel_rfl) rfl) ?_
      first | (refine wl_free .none rfl (yf_indexAddrA (j := 0) (es := 1) rfl rfl Try.underlying72 (by kernel_rfl) rfl ?_ rfl) ?_; (· first | decide | omega | (simp; omega)); skip) | (refine wl_free .none rfl (yf_indexAddrA (es := 1) rfl rfl Try.underlying72 (by kernel_rfl) (Int.toNat_of_nonneg ?_).symm ?_ rfl) ?_; (· omega); (· first | decide | omega | (simp; omega)); skip)
      refine wl_chain0 .none (cf_store 0 rfl rfl rfl rfl (blt_of (by rw [hl]; decide)) (by kernel_rfl)) (fun _ => ?_)
      refine wl_nil ?_
      refine wq_then ?_
      refine wc_weak (.cons (i := 0) rfl <| .cons (i := 1) rfl <| .cons (i := 2) rfl <| .cons (i := 4) rfl <| .cons (i := 5) rfl <| .cons (i := 6) rfl <| .cons (i := 7) rfl <| .cons (i := 8) rfl <| .cons (i := 14) rfl <| .nil) ?_
      refine wc_region ?_
      refine wl_free .none rfl (yf_fieldAddr (off := 17) (sz := 0) rfl Try.underlying75 (by kernel_rfl) rfl) ?_
      refine wl_chain0 .none (cf_store 0 rfl rfl rfl rfl (blt_of (by rw [List.length_set, hl]; decide)) (by kernel_rfl)) (fun _ => ?_)
      refine wl_conseq (H' := Hp (fun _ => False) w [(b8, bk 75 (stL (normL k s))), (b5, bk 37 (u32s x)), (b4, bk 75 (stL s))] [] (fun _ => True)) (fun u hu => ?_) ?_
      · rw [← norm2 h16 hc]; exact hu
      refine wl_nil ?_
      exact wq_meet (ι := Unit) () (.cons rfl <| .cons rfl <| .cons rfl <| .cons rfl <| .cons rfl <| .nil) (fun w h => h)
  · skip
    refine wc_seq ?_
    refine wc_region ?_
    refine wl_free .none rfl (yf_move rfl) ?_
    refine wl_free .none rfl (yf_loadAllL 2 rfl rfl Try.underlying75 rfl (st24 hl)) ?_
    refine wl_pure .none rfl (by kernel_rfl) rfl (fun w hw => enter_any k s w h) ?_
    refine wl_new .none rfl (nf_alloc (z := .agg #[.int .u32 0, .int .u32 0, .int .u32 0, .int .u32 0, .int .u32 0, .int .u32 0, .int .u32 0, .int .u32 0, .int .u32 0, .int .u32 0, .int .u32 0, .int .u32 0, .int .u32 0, .int .u32 0, .int .u32 0, .int .u32 0, .int .u32 0, .int .u32 0, .int .u32 0, .int .u32 0, .int .u32 0, .int .u32 0, .int .u32 0, .int .u32 0, .int .u32 0, .int .u32 0, .int .u32 0, .int .u32 0]) (cs := [.int .u32 0, .int .u32 0, .int .u32 0, .int .u32 0, .int .u32 0, .int .u32 0, .int .u32 0, .int .u32 0, .int .u32 0, .int .u32 0, .int .u32 0, .int .u32 0, .int .u32 0, .int .u32 0, .int .u32 0, .int .u32 0, .int .u32 0, .int .u32 0, .int .u32 0, .int .u32 0, .int .u32 0, .int .u32 0, .int .u32 0, .int .u32 0, .int .u32 0, .int .u32 0, .int .u32 0, .int .u32 0]) (by kernel_rfl) rfl) (fun b9 => ?_)
    refine wl_chain0 .none (cf_storeRow 0 rfl rfl rfl (u32s_all _) (ble_of (by rw [u32s_len, hen]; exact Nat.le_refl _)) (u28s (by rw [u32s_len, hen]))) (fun _ => ?_)
    refine wl_conseq (H' := Hp (fun _ => False) w [(b9, bk 37 (u32s (enterL k s))), (b8, bk 75 (stL (normL k s))), (b5, bk 37 (u32s x)), (b4, bk 75 (stL s))] [] (fun _ => True)) (fun u hu => ?_) ?_
    · have e := row_all (cs := u32s z28) (seg := u32s (enterL k s)) (by rw [u32s_len, hen]; rfl)
      have hu2 : Hp (fun _ => False) w [(b9, bk 37 ((u32s z28).take 0 ++ u32s (enterL k s) ++ (u32s z28).drop (0 + (u32s (enterL k s)).length))), (b8, bk 75 (stL (normL k s))), (b5, bk 37 (u32s x)), (b4, bk 75 (stL s))] [] (fun _ => True) u := hu
      rw [e] at hu2
      exact hu2
    refine wl_nil ?_
    refine wq_then ?_
    refine wc_seq ?_
    refine wc_weak (.cons (i := 0) rfl <| .cons (i := 4) rfl <| .cons (i := 5) rfl <| .cons (i := 7) rfl <| .cons (i := 8) rfl <| .cons (i := 9) rfl <| .nil) ?_
    refine wc_drawTN 7 [0, 1, 2, 3, 4, 5, 6] (Blk b8 (bk 75 (stL (normL k s)))) (by kernel_rfl) (by kernel_rfl) Blk.stab (fun w h => HpG.blk h (k := 1) rfl) (fun n0 hn0 => ?_)
    refine wd_at rfl ?_
    (refine wd_free ?_ .none rfl (yf_move rfl) ?_; (· rfl);  skip)
    refine wd_at rfl ?_
    (refine wd_free ?_ .none rfl (yf_loadRowJ rfl Try.underlying75 rfl (st24 hln)) ?_; (· rfl);  skip)
    refine wd_at rfl ?_
    (refine wd_free ?_ .none rfl (yf_move rfl) ?_; (· rfl);  skip)
    refine wd_at rfl ?_
    (refine wd_free ?_ .none rfl (yf_loadRowJ rfl Try.underlying75 rfl (st24 hln)) ?_; (· rfl);  skip)
    refine wd_at rfl ?_
    refine wd_pure .none rfl (by kernel_rfl) rfl (fun _ _ hj hx => Blk.onE hj hx) (fun w hw => enter_any k (normL k s) w hok) ?_
    refine wd_at rfl ?_
    refine wd_pure .none rfl (by kernel_rfl) rfl (fun _ _ hj hx => Blk.onE hj hx) (fun w hw => back_call k h w) ?_
    refine wd_at rfl ?_
    refine wd_newH ?_ .none rfl (fun k hk => Nat.lt_of_lt_of_le hk hn0) (nf_alloc (z := .agg #[.int .u32 0, .int .u32 0, .int .u32 0, .int .u32 0, .int .u32 0, .int .u32 0, .int .u32 0, .int .u32 0, .int .u32 0, .int .u32 0, .int .u32 0, .int .u32 0, .int .u32 0, .int .u32 0, .int .u32 0, .int .u32 0, .int .u32 0, .int .u32 0, .int .u32 0, .int .u32 0, .int .u32 0, .int .u32 0, .int .i64 0, .int .i64 0]) (cs := [.int .u32 0, .int .u32 0, .int .u32 0, .int .u32 0, .int .u32 0, .int .u32 0, .int .u32 0, .int .u32 0, .int .u32 0, .int .u32 0, .int .u32 0, .int .u32 0, .int .u32 0, .int .u32 0, .int .u32 0, .int .u32 0, .int .u32 0, .int .u32 0, .int .u32 0, .int .u32 0, .int .u32 0, .int .u32 0, .int .i64 0, .int .i64 0]) (by kernel_rfl) rfl) (fun b10 hb10 => ?_)
    · rfl
    refine wd_endTH ?_
    simp only [List.drop_succ_cons, List.drop_zero]
    refine wl_chain0 .none (cf_storeRow 0 rfl rfl rfl (stL_all _) (ble_of (by rw [hln]; exact Nat.le_refl _)) (st24 hln)) (fun _ => ?_)
    refine wl_conseq (H' := Hp (fun _ => False) w [(b10, bk 75 (stL (normL k s))), (b9, bk 37 (u32s (enterL k s))), (b8, bk 75 (stL (normL k s))), (b5, bk 37 (u32s x)), (b4, bk 75 (stL s))] [] (fun _ => True)) (fun u hu => ?_) ?_
    · have e := row_all (cs := stL st0) (seg := stL (normL k s)) (by rw [hln]; rfl)
      have hu2 : Hp (fun _ => False) w [(b10, bk 75 ((stL st0).take 0 ++ stL (normL k s) ++ (stL st0).drop (0 + (stL (normL k s)).length))), (b9, bk 37 (u32s (enterL k s))), (b8, bk 75 (stL (normL k s))), (b5, bk 37 (u32s x)), (b4, bk 75 (stL s))] [] (fun _ => True) u := hu
      rw [e] at hu2
      exact hu2
    refine wl_nil ?_
    refine wq_then ?_
    refine wc_seq ?_
    refine wc_weak (.cons (i := 0) rfl <| .cons (i := 4) rfl <| .cons (i := 5) rfl <| .cons (i := 7) rfl <| .cons (i := 8) rfl <| .cons (i := 9) rfl <| .cons (i := 10) rfl <| .nil) ?_
    refine wc_drawN [0, 1, 2, 3, 4, 5, 6, 7, 8, 9, 10, 11, 12, 13, 14, 15, 16, 17, 18, 19, 20, 21, 22, 23, 24] (J5 b4 b5 b8 b9 b10 (bk 75 (stL s)) (bk 37 (u32s x)) (bk 75 (stL (normL k s))) (bk 37 (u32s (enterL k s))) (bk 75 (stL (normL k s)))) (by kernel_rfl) (by kernel_rfl) J5.stab (fun _ h => ⟨HpG.blk h (k := 4) rfl, HpG.blk h (k := 3) rfl, HpG.blk h (k := 2) rfl, HpG.blk h (k := 1) rfl, HpG.blk h (k := 0) rfl⟩) (fun n0 hn0 => ?_)
    refine wd_at rfl ?_
    (refine wd_free ?_ .none rfl (yf_move rfl) ?_; (· rfl);  skip)
    refine wd_at rfl ?_
    (refine wd_free ?_ .none rfl (yf_move rfl) ?_; (· rfl);  skip)
    refine wd_split 34 rfl (fun hb => ?_) (fun hb => ?_)
    · skip
      refine wd_at rfl ?_
      (refine wd_free ?_ (.some rfl rfl) rfl (YF.anti (yf_loadRowJ rfl Try.underlying37 rfl (u28s (by rw [u32s_len, hen]))) (fun _ h => h.2.2.2.1)) ?_; (· rfl);  skip)
      refine wd_at rfl ?_
      (refine wd_free ?_ (.some rfl rfl) rfl (yf_move rfl) ?_; (· rfl);  skip)
      refine wd_at rfl ?_
      (refine wd_free ?_ (.some rfl rfl) rfl (YF.anti (yf_loadRowJ rfl Try.underlying75 rfl (st24 hl)) (fun _ h => h.1)) ?_; (· rfl);  skip)
      refine wd_at rfl ?_
      refine wd_pure (.some rfl rfl) rfl (by kernel_rfl) rfl J5.ext (fun w hw => refEnter_any k s w h) ?_
      refine wd_at rfl ?_
      (refine wd_free ?_ (.some rfl rfl) rfl (yf_eqlAgg (r := true) rfl rfl (by kernel_rfl) (fun W => eq28 hen W)) ?_; (· rfl);  skip)
      refine wd_at rfl ?_
      (refine wd_free ?_ .none rfl (yf_pickT rfl rfl) ?_; (· rfl);  skip)
      refine wd_at rfl ?_
      (refine wd_free ?_ .none rfl (yf_move rfl) ?_; (· rfl);  skip)
      refine wd_split 41 rfl (fun hb => ?_) (fun hb => ?_)
      · skip
        refine wd_at rfl ?_
        (refine wd_free ?_ (.some rfl rfl) rfl (yf_move rfl) ?_; (· rfl);  skip)
        refine wd_at rfl ?_
        (refine wd_free ?_ (.some rfl rfl) rfl (YF.anti (yf_loadRowJ rfl Try.underlying75 rfl (st24 hl)) (fun _ h => h.1)) ?_; (· rfl);  skip)
        refine wd_at rfl ?_
        (refine wd_free ?_ (.some rfl rfl) rfl (YF.anti (yf_loadRowJ rfl Try.underlying37 rfl (u28s (by rw [u32s_len, hx]))) (fun _ h => h.2.1)) ?_; (· rfl);  skip)
        refine wd_at rfl ?_
        refine wd_pure (.some rfl rfl) rfl (by kernel_rfl) rfl J5.ext (fun w hw => irLeave_any k s x w h hx hu) ?_
        refine wd_at rfl ?_
        (refine wd_free ?_ (.some rfl rfl) rfl (yf_move rfl) ?_; (· rfl);  skip)
        refine wd_at rfl ?_
        (refine wd_free ?_ (.some rfl rfl) rfl (YF.anti (yf_loadRowJ rfl Try.underlying75 rfl (st24 hl)) (fun _ h => h.1)) ?_; (· rfl);  skip)
        refine wd_at rfl ?_
        (refine wd_free ?_ (.some rfl rfl) rfl (YF.anti (yf_loadRowJ rfl Try.underlying37 rfl (u28s (by rw [u32s_len, hx]))) (fun _ h => h.2.1)) ?_; (· rfl);  skip)
        refine wd_at rfl ?_
        refine wd_pure (.some rfl rfl) rfl (by kernel_rfl) rfl J5.ext (fun w hw => refLeave_any k s x w h hx hu) ?_
        refine wd_at rfl ?_
        (refine wd_free ?_ (.some rfl rfl) rfl (yf_eqlAgg (xs := (stL (leaveL k s x)).toArray) (ys := (stL (leaveL k s x)).toArray) (r := true) rfl rfl (by kernel_rfl) (fun W => eqSt (leaveL_len k h hx).1 (leaveL_len k h hx).2 W)) ?_; (· rfl);  skip)
        refine wd_at rfl ?_
        (refine wd_free ?_ .none rfl (yf_pickT rfl rfl) ?_; (· rfl);  skip)
        refine wd_at rfl ?_
        (refine wd_free ?_ .none rfl (yf_move rfl) ?_; (· rfl);  skip)
        refine wd_split 52 rfl (fun hb => ?_) (fun hb => ?_)
        · skip
          refine wd_at rfl ?_
          (refine wd_free ?_ (.some rfl rfl) rfl (YF.anti (yf_loadRowJ rfl Try.underlying75 rfl (st24 hln)) (fun _ h => h.2.2.2.2)) ?_; (· rfl);  skip)
          refine wd_at rfl ?_
          (refine wd_free ?_ (.some rfl rfl) rfl (YF.anti (yf_loadRowJ rfl Try.underlying75 rfl (st24 hln)) (fun _ h => h.2.2.1)) ?_; (· rfl);  skip)
          refine wd_at rfl ?_
          (refine wd_free ?_ (.some rfl rfl) rfl (yf_eqlAgg (r := true) rfl rfl (by kernel_rfl) (fun W => eqSt hok.r16 hok.c4 W)) ?_; (· rfl);  skip)
          refine wd_at rfl ?_
          (refine wd_free ?_ .none rfl (yf_pickT rfl rfl) ?_; (· rfl);  skip)
          refine wd_at rfl ?_
          (refine wd_free ?_ .none rfl (yf_assign rfl) ?_; (· rfl);  skip)
          refine wd_endH ?_
          refine wq_then ?_
          refine wc_ret ?_
          refine wq_ret1 rfl rfl (fun w hw => ?_)
          exact ⟨rfl, (HpG.keep hw).ext⟩
        · skip
          cases hb
      · skip
        cases hb
    · skip
      cases hb
end Go.Proofs.Ytojofinofpgopaa
