/- Names; the next token; the tokens of a source. -/
import Derived.Test.YtfpkpnkdnammnaaGreatDoorSyB
import Derived.Test.YtfpkpnkdnammnaaGreatDoorTreB
namespace Go.Proofs.YtfpkpnkdnammnaaGreatDoor
open Go.RowKit
section
variable {P : Program} {ops : Array Oper} {Q : Exit → Act → World → Prop} {n : Nat} {m : List (Nat × Value)} {ty : TypeId} {G B : Nat → Prop} {w0 : World} {L : List (Nat × Obj)} {R : List Rw} {X : World → Prop} {rest : List Oper} {d : Nat} {pos : String} {af : Array Edge} {gd : Option (Nat × Bool)}
end
/-- The variable strconv.ErrRange holds an error. -/
def ErrV (w : World) : Prop := ∃ t p, w.cell? ⟨2, 0, none⟩ = some (.iface t p)
theorem ErrV.lies : Lies fun F w => F 2 ∧ 2 < w.heap.size ∧ ErrV w := by
  refine ⟨fun {F w w'} hk ⟨h0, hl, t, p, h⟩ => ⟨h0, ?_, t, p, ?_⟩, fun {F w} ⟨h0, hl, h⟩ => ⟨⟨h0, hl⟩, hl, h⟩, fun {F F' w} hF ⟨h0, hl, h⟩ => ⟨hF _ h0, hl, h⟩⟩
  · have := hk 2 h0
    rw [Array.getElem?_eq_getElem hl] at this
    exact (Array.getElem?_eq_some_iff.1 this).1
  · rw [← h]; exact World.cell?_of_block (hk 2 h0)
theorem ErrV.lt {w : World} (h : ErrV w) : 2 < w.heap.size := by
  obtain ⟨t, p, h⟩ := h
  unfold World.cell? at h
  rcases Nat.lt_or_ge 2 w.heap.size with h1 | h1
  · exact h1
  · simp [Array.getElem?_eq_none h1] at h
theorem take_span (q : Nat → Bool) (l : Bs) : l.take (spanL (fun c => q c.toNat) l) = l.takeWhile (fun c => q c.toNat) := by
  unfold spanL
  induction l with
  | nil => rfl
  | cons x l ih =>
    cases hx : q x.toNat
    · simp [List.takeWhile, hx]
    · simp [List.takeWhile, hx, ih]
/-! ### Numbers -/
def dec (v : Nat) (l : Bs) : Nat := l.foldl (fun v c => 10 * v + (c.toNat - 48)) v
theorem dec_ge (l : Bs) : ∀ v, v ≤ dec v l := by
  induction l with
  | nil => intro v; exact Nat.le_refl _
  | cons c l ih => intro v; exact Nat.le_trans (by omega) (ih (10 * v + (c.toNat - 48)))
theorem parseU_dec : ∀ (l : Bs) (v : Nat), v ≤ 4294967295 → (∀ c ∈ l, digB c = true) → Lib.parseUintM 4294967295 v l = if dec v l < 4294967296 then .ok (dec v l) else .range
  | [], v, hv, _ => by
    unfold Lib.parseUintM dec
    rw [if_pos (by show v < 4294967296; omega)]; rfl
  | c :: l, v, hv, h => by
    have hc := h c (List.mem_cons_self ..)
    have hc' : 48 ≤ c.toNat ∧ c.toNat ≤ 57 := by simpa [digB, digQ] using hc
    unfold Lib.parseUintM
    rw [if_pos hc', if_neg (by omega)]
    have e : dec v (c :: l) = dec (v * 10 + (c.toNat - 48)) l := by show dec (10 * v + (c.toNat - 48)) l = _; rw [Nat.mul_comm]
    rw [e]
    split
    · rename_i h1
      rw [if_neg]
      have := dec_ge l (v * 10 + (c.toNat - 48))
      omega
    · rename_i h1
      exact parseU_dec l _ (by omega) fun x hx => h x (List.mem_cons_of_mem _ hx)
def PuC (l : Bs) (i : Nat × Value) : Prop := (decL l < 4294967296 ∧ i = (decL l, .nilIface)) ∨ (4294967296 ≤ decL l ∧ i.1 = 4294967295 ∧ ∃ t p, i.2 = .iface t p)
theorem parse_any (l : Bs) (h0 : l ≠ []) (hd : ∀ c ∈ l, digB c = true) (hl : l.length ≤ 4294967296) (w : World) (hv : ErrV w) : Calls Tryz.prog 123 #[.string ⟨l.toArray⟩, .int .i64 10, .int .i64 32] w fun e w' => ∃ i, PuC l i ∧ e = .returned (.tuple #[.int .u64 i.1, i.2]) ∧ Ext w w' := by
  have hp : Lib.parseUintB 32 l = if decL l < 4294967296 then .ok (decL l) else .range := by
    unfold Lib.parseUintB
    rw [if_neg h0]
    exact parseU_dec l 0 (by omega) hd
  by_cases h : decL l < 4294967296
  · rw [if_pos h] at hp
    refine (Tryz.strconv_ParseUint_10_at32_ok ⟨l.toArray⟩ (by simp [ByteArray.size]; omega) (decL l) (by simpa using hp) w).mono fun e w' ⟨e1, e2⟩ => ⟨(decL l, .nilIface), .inl ⟨h, rfl⟩, e1, ?_⟩
    rcases e2 with rfl | rfl
    · exact Ext.refl _
    · exact ⟨rfl, rfl, rfl, by rw [Lib.bytesWorld_size]; omega, fun k hk => Lib.bytesWorld_at_old _ _ _ k (by omega)⟩
  · rw [if_neg h] at hp
    obtain ⟨t, p, hv⟩ := hv
    refine (Tryz.strconv_ParseUint_10_at32_range ⟨l.toArray⟩ (by simp [ByteArray.size]; omega) (by simpa using hp) _ w hv (.inr ⟨t, p, rfl⟩)).mono fun e w' ⟨N, e1, _, _, e2⟩ => ⟨(4294967295, _), .inr ⟨by omega, rfl, _, _, rfl⟩, e1, e2⟩
/-! ### Names -/
theorem span_alli (p : UInt8 → Bool) (l : Bs) : ((spanL p l : Int) == (l.length : Int)) = l.all p := by
  rw [Bool.eq_iff_iff, beq_iff_eq, List.all_eq_true]
  induction l with
  | nil => simp [spanL]
  | cons x l ih =>
    cases hx : p x
    · simp [spanL, List.takeWhile, hx]; try omega
    · simp only [spanL] at ih
      simp [spanL, List.takeWhile, hx, ← ih]
      try omega
theorem name_eq (c : UInt8) (r : Bs) : isNameL (c :: r) = (Nat.ble (c :: r).length 12 && !decide ((c :: r) ∈ keysL) && letB c && (c :: r).all worB) := rfl
theorem name_no {c : UInt8} {r : Bs} (h : 12 < (c :: r).length ∨ (c :: r) ∈ keysL ∨ letB c = false) : isNameL (c :: r) = false := by
  rw [name_eq]
  rcases h with h | h | h
  · have : Nat.ble (c :: r).length 12 = false := by rw [← Bool.not_eq_true, Nat.ble_eq]; omega
    rw [this]; rfl
  · rw [decide_eq_true h]; simp
  · rw [h]; simp
theorem name_yes {c : UInt8} {r : Bs} (h1 : (c :: r).length ≤ 12) (h2 : (c :: r) ∉ keysL) (h3 : letB c = true) : isNameL (c :: r) = (c :: r).all worB := by
  have h4 : Nat.ble (c :: r).length 12 = true := by rw [Nat.ble_eq]; exact h1
  rw [name_eq, h4, decide_eq_false h2, h3]; rfl
set_option maxRecDepth 100000 in
theorem ident_any (s : Bs) (w_0 : World) : Calls Tryz.prog 56 #[.string ⟨s.toArray⟩] w_0 fun e w' => e = .returned (.bool (isNameL s)) ∧ Ext w_0 w' := by
  have hat : s ≠ [] → ∃ c r, s = c :: r := fun h => by cases s with | nil => exact absurd rfl h | cons c r => exact ⟨c, r, rfl⟩
  refine calls_wc (args := [.string ⟨s.toArray⟩]) Tryz.func56 rfl 27 rfl (Nat.le_of_ble_eq_true rfl) ?_
  refine wc_weak (.cons (i := 0) rfl <| .nil) ?_
  refine wc_conseq (H' := Hp (fun _ => False) w_0 [] [] (fun _ => True)) (fun u hu => ?_) ?_
  · subst hu; exact Hp.start0
  refine wc_seq ?_
  refine wc_region ?_
  refine wl_free .none rfl (yf_assign rfl) ?_
  refine wl_nil ?_
  refine wq_then ?_
  refine wc_seq ?_
  refine wc_seq ?_
  refine wc_region ?_
  refine wl_free .none rfl (yf_move rfl) ?_
  refine wl_free .none rfl (yf_strs_eql (b := []) rfl rfl Tryz.underlying9) ?_
  refine wl_free .none rfl (yf_move rfl) ?_
  refine wl_split 5 rfl (fun h3 => ?_) (fun h3 => ?_)
  · skip
    refine wl_pass (.some rfl rfl rfl) rfl ?_
    refine wl_pass (.some rfl rfl rfl) rfl ?_
    refine wl_pass (.some rfl rfl rfl) rfl ?_
    refine wl_free .none rfl (yf_pickT rfl rfl) ?_
    refine wl_free .none rfl (yf_move rfl) ?_
    refine wl_pass (.some rfl rfl rfl) rfl ?_
    refine wl_pass (.some rfl rfl rfl) rfl ?_
    refine wl_pass (.some rfl rfl rfl) rfl ?_
    refine wl_free .none rfl (yf_pickT rfl rfl) ?_
    refine wl_free .none rfl (yf_move rfl) ?_
    refine wl_pass (.some rfl rfl rfl) rfl ?_
    refine wl_pass (.some rfl rfl rfl) rfl ?_
    refine wl_pass (.some rfl rfl rfl) rfl ?_
    refine wl_pass (.some rfl rfl rfl) rfl ?_
    refine wl_pass (.some rfl rfl rfl) rfl ?_
    refine wl_free .none rfl (yf_pickT rfl rfl) ?_
    refine wl_nil ?_
    refine wq_then ?_
    refine wc_true rfl ?_
    refine wc_seq ?_
    refine wc_weak (.cons (i := 0) rfl <| .cons (i := 2) rfl <| .cons (i := 21) rfl <| .nil) ?_
    refine wc_region ?_
    refine wl_free .none rfl (yf_assign rfl) ?_
    refine wl_nil ?_
    refine wq_then ?_
    refine wc_ret ?_
    refine wq_then_ret ?_
    refine wq_ret1 rfl rfl (fun w hw => ?_)
    exact ⟨by rw [of_decide_eq_true h3]; rfl, (HpG.keep hw).ext⟩
  · skip
    obtain ⟨c, r, rfl⟩ := hat (of_decide_eq_false h3)
    refine wl_free (.some rfl rfl) rfl (yf_move rfl) ?_
    refine wl_free (.some rfl rfl) rfl (yf_lenL rfl Tryz.underlying9) ?_
    refine wl_free (.some rfl rfl) rfl (yf_gtr rfl rfl) ?_
    refine wl_free .none rfl (yf_pickF rfl rfl) ?_
    refine wl_free .none rfl (yf_move rfl) ?_
    refine wl_split 10 rfl (fun h8 => ?_) (fun h8 => ?_)
    · replace h8 := of_decide_eq_true h8
      refine wl_pass (.some rfl rfl rfl) rfl ?_
      refine wl_pass (.some rfl rfl rfl) rfl ?_
      refine wl_pass (.some rfl rfl rfl) rfl ?_
      refine wl_free .none rfl (yf_pickT rfl rfl) ?_
      refine wl_free .none rfl (yf_move rfl) ?_
      refine wl_pass (.some rfl rfl rfl) rfl ?_
      refine wl_pass (.some rfl rfl rfl) rfl ?_
      refine wl_pass (.some rfl rfl rfl) rfl ?_
      refine wl_pass (.some rfl rfl rfl) rfl ?_
      refine wl_pass (.some rfl rfl rfl) rfl ?_
      refine wl_free .none rfl (yf_pickT rfl rfl) ?_
      refine wl_nil ?_
      refine wq_then ?_
      refine wc_true rfl ?_
      refine wc_seq ?_
      refine wc_weak (.cons (i := 0) rfl <| .cons (i := 2) rfl <| .cons (i := 21) rfl <| .nil) ?_
      refine wc_region ?_
      refine wl_free .none rfl (yf_assign rfl) ?_
      refine wl_nil ?_
      refine wq_then ?_
      refine wc_ret ?_
      refine wq_then_ret ?_
      refine wq_ret1 rfl rfl (fun w hw => ?_)
      exact ⟨by rw [name_no (.inl (by omega))], (HpG.keep hw).ext⟩
    · replace h8 := of_decide_eq_false h8
      refine wl_callX (ι := Option Addr) (C := fun _ => True) (val := fun A => .slice A keysL.length 9) (TT := fun A F u => RdF F A (strs keysL) u) (.some rfl rfl) rfl  (by kernel_rfl) rfl (fun _ h => h.elim) (fun _ => RdF.lies) (fun w hw => (keywords_any w).mono fun e w' ⟨A, e1, e2, e3⟩ => ⟨A, trivial, e1, e2, e3⟩) (fun A F _ hF => ?_)
      refine wl_free (.some rfl rfl) rfl (yf_move rfl) ?_
      refine wl_pure (.some rfl rfl) rfl  (v := .bool (decide ((c :: r) ∈ keysL))) (by kernel_rfl) rfl (fun w hw => contains_any keysL (by decide) _ _ _ w (HpG.x hw).1) ?_
      refine wl_free .none rfl (yf_pickF rfl rfl) ?_
      refine wl_free .none rfl (yf_move rfl) ?_
      refine wl_split 15 rfl (fun h13 => ?_) (fun h13 => ?_)
      · skip
        refine wl_pass (.some rfl rfl rfl) rfl ?_
        refine wl_pass (.some rfl rfl rfl) rfl ?_
        refine wl_pass (.some rfl rfl rfl) rfl ?_
        refine wl_pass (.some rfl rfl rfl) rfl ?_
        refine wl_pass (.some rfl rfl rfl) rfl ?_
        refine wl_free .none rfl (yf_pickT rfl rfl) ?_
        refine wl_nil ?_
        refine wq_then ?_
        refine wc_true rfl ?_
        refine wc_seq ?_
        refine wc_weak (.cons (i := 0) rfl <| .cons (i := 2) rfl <| .cons (i := 21) rfl <| .nil) ?_
        refine wc_region ?_
        refine wl_free .none rfl (yf_assign rfl) ?_
        refine wl_nil ?_
        refine wq_then ?_
        refine wc_ret ?_
        refine wq_then_ret ?_
        refine wq_ret1 rfl rfl (fun w hw => ?_)
        exact ⟨by rw [name_no (.inr (.inl (of_decide_eq_true h13)))], (HpG.keep hw).ext⟩
      · skip
        refine wl_free (.some rfl rfl) rfl (yf_move rfl) ?_
        refine wl_free (.some rfl rfl) rfl (yf_indexL rfl rfl Tryz.underlying9 rfl rfl) ?_
        refine wl_free (.some rfl rfl) rfl (yf_conv rfl (by kernel_rfl) Tryz.underlying21 (i32_in _ (by have := c.toNat_lt; omega) (by have := c.toNat_lt; omega))) ?_
        refine wl_pure (.some rfl rfl) rfl  (v := .bool (letQ c.toNat)) (by kernel_rfl) rfl (fun w hw => letter_any _ w) ?_
        refine wl_free (.some rfl rfl) rfl (yf_not rfl) ?_
        refine wl_free .none rfl (yf_pickF rfl rfl) ?_
        refine wl_nil ?_
        refine wq_then ?_
        refine wc_cond rfl (fun h21 => ?_) (fun h21 => ?_)
        · skip
          refine wc_seq ?_
          refine wc_weak (.cons (i := 0) rfl <| .cons (i := 2) rfl <| .cons (i := 21) rfl <| .nil) ?_
          refine wc_region ?_
          refine wl_free .none rfl (yf_assign rfl) ?_
          refine wl_nil ?_
          refine wq_then ?_
          refine wc_ret ?_
          refine wq_then_ret ?_
          refine wq_ret1 rfl rfl (fun w hw => ?_)
          exact ⟨by rw [name_no (.inr (.inr (by simpa [letB] using h21)))], (HpG.keep hw).ext⟩
        · skip
          refine wc_skip ?_
          refine wq_then ?_
          refine wc_seq ?_
          refine wc_weak (.cons (i := 0) rfl <| .cons (i := 2) rfl <| .cons (i := 21) rfl <| .nil) ?_
          refine wc_region ?_
          refine wl_free .none rfl (yf_move rfl) ?_
          refine wl_pure .none rfl  (v := .int .i64 (spanL worB (c :: r))) (by kernel_rfl) rfl (fun w hw => span_any _ worQ wordd_fn (fun x hx => by simp [worQ, letQ, digQ]; omega) (c :: r) w) ?_
          refine wl_free .none rfl (yf_move rfl) ?_
          refine wl_free .none rfl (yf_lenL rfl Tryz.underlying9) ?_
          refine wl_free .none rfl (yf_eql rfl rfl) ?_
          refine wl_free .none rfl (yf_assign rfl) ?_
          refine wl_nil ?_
          refine wq_then ?_
          refine wc_ret ?_
          refine wq_ret1 rfl rfl (fun w hw => ?_)
          exact ⟨by rw [name_yes (by omega) (of_decide_eq_false h13) (by simpa [letB] using h21), span_alli], (HpG.keep hw).ext⟩
/-! ### The next token -/
abbrev tokC (t : Tok) : List Value := [.int .i64 t.kind, .int .i64 t.at_, .string ⟨t.text.toArray⟩, .int .u64 t.value]
def toksC (l : List Tok) : List Value := l.flatMap tokC
theorem toksC_one (l : List Tok) (t : Tok) : toksC (l ++ [t]) = toksC l ++ tokC t := by simp [toksC]
theorem toksC_at {l : List Tok} {i : Nat} (h : i < l.length) {j : Nat} {v : Value} (hv : (tokC (tkOf l i))[j]? = some v) : (toksC l)[4 * i + j]? = some v := by
  induction l generalizing i with
  | nil => simp at h
  | cons t l ih =>
    have e : toksC (t :: l) = tokC t ++ toksC l := rfl
    cases i with
    | zero =>
      rw [e, Nat.mul_zero, Nat.zero_add]
      exact (List.getElem?_append_left (List.getElem?_eq_some_iff.1 hv).1).trans hv
    | succ i =>
      rw [e, List.getElem?_append_right (by simp; omega)]
      have : 4 * (i + 1) + j - (tokC t).length = 4 * i + j := by simp; omega
      rw [this]
      exact ih (by simpa using h) hv
theorem next_num {c : UInt8} {r : Bs} (h : digQ c.toNat = true) : nextL (c :: r) = ⟨1, 0, (c :: r).takeWhile digB, min (decL ((c :: r).takeWhile digB)) 4294967296⟩ := by
  have h' : digB c = true := h
  unfold nextL
  dsimp only
  rw [if_pos h']
theorem next_wor {c : UInt8} {r : Bs} (h1 : ¬ digQ c.toNat = true) (h : letQ c.toNat = true) : nextL (c :: r) = ⟨if 12 < ((c :: r).takeWhile worB).length then 4 else if (c :: r).takeWhile worB ∈ keysL then 3 else 2, 0, (c :: r).takeWhile worB, 0⟩ := by
  have h' : letB c = true := h
  have h1' : ¬ digB c = true := h1
  unfold nextL
  dsimp only
  rw [if_neg h1', if_pos h']
theorem next_sym {c : UInt8} {r : Bs} (h1 : ¬ digQ c.toNat = true) (h : ¬ letQ c.toNat = true) : nextL (c :: r) = if symL (c :: r) = 0 then ⟨4, 0, (c :: r).take 1, 0⟩ else ⟨3, 0, (c :: r).take (symL (c :: r)), 0⟩ := by
  have h' : ¬ letB c = true := h
  have h1' : ¬ digB c = true := h1
  unfold nextL
  dsimp only
  rw [if_neg h1', if_neg h']
set_option maxRecDepth 100000 in
theorem next_any (c : UInt8) (r : Bs) (hl : (c :: r).length ≤ 4294967296) (w_0 : World) (hv : ErrV w_0) : Calls Tryz.prog 83 #[.string ⟨(c :: r).toArray⟩] w_0 fun e w' => e = .returned (.agg (tokC (nextL (c :: r))).toArray) ∧ Ext w_0 w' := by
  have hld := takeWhile_le digB (c :: r)
  have hlw := takeWhile_le worB (c :: r)
  refine calls_wc (args := [.string ⟨(c :: r).toArray⟩]) Tryz.func83 rfl 61 rfl (Nat.le_of_ble_eq_true rfl) ?_
  refine wc_weak (.cons (i := 0) rfl <| .nil) ?_
  refine wc_conseq (H' := Hp (fun _ => False) w_0 [] [] ErrV) (fun u hu => ?_) ?_
  · subst hu; exact Hp.weakX (Hp.startT ErrV.lies (F := fun _ => True) ⟨trivial, hv.lt, hv⟩) fun u h => h.2.2
  refine wc_seq ?_
  refine wc_region ?_
  refine wl_new .none rfl (nf_alloc (z := .agg #[.int .i64 0, .int .i64 0, .string ⟨#[]⟩, .int .u64 0]) (cs := [.int .i64 0, .int .i64 0, .string ⟨#[]⟩, .int .u64 0]) (by kernel_rfl) rfl) (fun b2 => ?_)
  refine wl_nil ?_
  refine wq_then ?_
  refine wc_seq ?_
  refine wc_region ?_
  refine wl_free .none rfl (yf_move rfl) ?_
  refine wl_free .none rfl (yf_indexL rfl rfl Tryz.underlying9 rfl rfl) ?_
  refine wl_free .none rfl (yf_conv rfl (by kernel_rfl) Tryz.underlying21 (i32_in _ (by have := c.toNat_lt; omega) (by have := c.toNat_lt; omega))) ?_
  refine wl_free .none rfl (yf_assign rfl) ?_
  refine wl_nil ?_
  refine wq_then ?_
  refine wc_seq ?_
  refine wc_block ?_
  refine wc_seq ?_
  refine wc_weak (.cons (i := 0) rfl <| .cons (i := 2) rfl <| .cons (i := 3) rfl <| .nil) ?_
  refine wc_region ?_
  refine wl_free .none rfl (yf_move rfl) ?_
  refine wl_pure .none rfl  (v := .bool (digQ c.toNat)) (by kernel_rfl) rfl (fun w hw => digit_any _ w) ?_
  refine wl_free .none rfl (yf_assign rfl) ?_
  refine wl_nil ?_
  refine wq_then ?_
  refine wc_cond rfl (fun h12 => ?_) (fun h12 => ?_)
  · skip
    refine wc_seq ?_
    refine wc_weak (.cons (i := 0) rfl <| .cons (i := 2) rfl <| .cons (i := 3) rfl <| .cons (i := 12) rfl <| .nil) ?_
    refine wc_region ?_
    refine wl_free .none rfl (yf_move rfl) ?_
    refine wl_free .none rfl (yf_move rfl) ?_
    refine wl_pure .none rfl  (v := .int .i64 (spanL digB (c :: r))) (by kernel_rfl) rfl (fun w hw => span_any _ digQ digit_fn (fun x hx => by simp [digQ]; omega) (c :: r) w) ?_
    (refine wl_free .none rfl (yf_strHi rfl rfl Tryz.underlying9 ?_ ?_ (show (c :: r).take (Int.toNat ((spanL digB (c :: r) : Nat) : Int)) = (c :: r).takeWhile digB from take_span digQ (c :: r))) ?_; (· have := spanL_le digB (c :: r); omega); (· have := spanL_le digB (c :: r); omega); skip)
    refine wl_free .none rfl (yf_buildS [.int .i64 0, .int .i64 0, .string ⟨#[]⟩, .int .u64 0] [(0, 1), (1, 1), (2, 1), (3, 1)] rfl (by kernel_rfl) (by kernel_rfl) rfl) ?_
    refine wl_new .none rfl (nf_alloc (z := .agg #[.int .i64 0, .int .i64 0, .string ⟨#[]⟩, .int .u64 0]) (cs := [.int .i64 0, .int .i64 0, .string ⟨#[]⟩, .int .u64 0]) (by kernel_rfl) rfl) (fun b4 => ?_)
    refine wl_chain0 .none (cf_storeRow 0 rfl rfl rfl rfl rfl (by kernel_rfl)) (fun _ => ?_)
    refine wl_nil ?_
    refine wq_then ?_
    refine wc_seq ?_
    refine wc_weak (.cons (i := 0) rfl <| .cons (i := 2) rfl <| .cons (i := 3) rfl <| .cons (i := 4) rfl <| .cons (i := 12) rfl <| .nil) ?_
    refine wc_region ?_
    refine wl_free .none rfl (yf_fieldAddr (off := 2) (sz := 0) rfl Tryz.underlying92 (by kernel_rfl) rfl) ?_
    refine wl_free .none rfl (yf_loadL 0 rfl rfl rfl Tryz.underlying9 rfl) ?_
    refine wl_pureE (ι := Nat × Value) (C := PuC ((c :: r).takeWhile digB)) (val := fun i => .tuple #[.int .u64 i.1, i.2]) .none rfl  (by kernel_rfl) rfl (fun w hw => parse_any _ (List.ne_nil_of_length_pos (takeWhile_len digB c r h12)) (fun x hx => List.all_eq_true.1 (List.all_takeWhile (l := c :: r) (p := digB)) x hx) (by omega) w (HpG.x hw)) (fun i hi => ?_)
    have hi2 : i.2 = .nilIface ∨ ∃ u p, i.2 = .iface u p := by
      rcases hi with ⟨_, rfl⟩ | ⟨_, _, h⟩
      · exact .inl rfl
      · exact .inr h
    refine wl_free .none rfl (yf_move rfl) ?_
    refine wl_free .none rfl (yf_extract rfl rfl) ?_
    refine wl_free .none rfl (yf_extract rfl rfl) ?_
    refine wl_free .none rfl (yf_assign rfl) ?_
    refine wl_free .none rfl (yf_assign rfl) ?_
    refine wl_nil ?_
    refine wq_then ?_
    refine wc_seq ?_
    refine wc_seq ?_
    refine wc_weak (.cons (i := 0) rfl <| .cons (i := 2) rfl <| .cons (i := 3) rfl <| .cons (i := 4) rfl <| .cons (i := 5) rfl <| .cons (i := 6) rfl <| .cons (i := 12) rfl <| .nil) ?_
    refine wc_region ?_
    refine wl_free .none rfl (yf_move rfl) ?_
    refine wl_free .none rfl (yf_neqNil rfl hi2 (by kernel_rfl)) ?_
    refine wl_nil ?_
    refine wq_then ?_
    refine wc_cond rfl (fun h27 => ?_) (fun h27 => ?_)
    · skip
      have hbig : 4294967296 ≤ decL ((c :: r).takeWhile digB) := by
        rcases hi with ⟨_, rfl⟩ | ⟨h, _⟩
        · cases h27
        · exact h
      refine wc_weak (.cons (i := 0) rfl <| .cons (i := 2) rfl <| .cons (i := 3) rfl <| .cons (i := 4) rfl <| .cons (i := 5) rfl <| .cons (i := 6) rfl <| .cons (i := 12) rfl <| .cons (i := 27) rfl <| .nil) ?_
      refine wc_region ?_
      refine wl_free .none rfl (yf_assign rfl) ?_
      refine wl_nil ?_
      refine wq_then ?_
      refine wc_seq ?_
      refine wc_region ?_
      refine wl_free .none rfl (yf_move rfl) ?_
      refine wl_free .none rfl (yf_fieldAddr (off := 3) (sz := 0) rfl Tryz.underlying92 (by kernel_rfl) rfl) ?_
      refine wl_chain0 .none (cf_store 0 rfl rfl rfl rfl rfl (by kernel_rfl)) (fun _ => ?_)
      refine wl_nil ?_
      refine wq_then ?_
      refine wc_seq ?_
      refine wc_weak (.cons (i := 0) rfl <| .cons (i := 2) rfl <| .cons (i := 3) rfl <| .cons (i := 4) rfl <| .cons (i := 5) rfl <| .cons (i := 6) rfl <| .cons (i := 12) rfl <| .cons (i := 27) rfl <| .nil) ?_
      refine wc_region ?_
      refine wl_free .none rfl (yf_loadAllL 0 rfl rfl Tryz.underlying92 rfl (by kernel_rfl)) ?_
      refine wl_chain0 .none (cf_storeRow 1 rfl rfl rfl rfl rfl (by kernel_rfl)) (fun _ => ?_)
      refine wl_nil ?_
      refine wq_then ?_
      refine wc_ret ?_
      refine wq_block_ret ?_
      refine wq_then_ret ?_
      refine wq_retC rfl rfl 1 rfl Tryz.underlying92 rfl (by kernel_rfl) (fun w hw => ?_)
      exact ⟨by rw [next_num h12, Nat.min_eq_right hbig]; rfl, (HpG.keep hw).ext⟩
    · skip
      have hsm : decL ((c :: r).takeWhile digB) < 4294967296 ∧ i.1 = decL ((c :: r).takeWhile digB) := by
        rcases hi with ⟨h, rfl⟩ | ⟨_, _, u, p, h⟩
        · exact ⟨h, rfl⟩
        · rw [h] at h27; cases h27
      refine wc_skip ?_
      refine wq_then ?_
      refine wc_seq ?_
      refine wc_weak (.cons (i := 0) rfl <| .cons (i := 2) rfl <| .cons (i := 3) rfl <| .cons (i := 4) rfl <| .cons (i := 5) rfl <| .cons (i := 6) rfl <| .cons (i := 12) rfl <| .cons (i := 27) rfl <| .nil) ?_
      refine wc_region ?_
      refine wl_free .none rfl (yf_move rfl) ?_
      refine wl_free .none rfl (yf_fieldAddr (off := 3) (sz := 0) rfl Tryz.underlying92 (by kernel_rfl) rfl) ?_
      refine wl_chain0 .none (cf_store 0 rfl rfl rfl rfl rfl (by kernel_rfl)) (fun _ => ?_)
      refine wl_nil ?_
      refine wq_then ?_
      refine wc_seq ?_
      refine wc_weak (.cons (i := 0) rfl <| .cons (i := 2) rfl <| .cons (i := 3) rfl <| .cons (i := 4) rfl <| .cons (i := 5) rfl <| .cons (i := 6) rfl <| .cons (i := 12) rfl <| .cons (i := 27) rfl <| .nil) ?_
      refine wc_region ?_
      refine wl_free .none rfl (yf_loadAllL 0 rfl rfl Tryz.underlying92 rfl (by kernel_rfl)) ?_
      refine wl_chain0 .none (cf_storeRow 1 rfl rfl rfl rfl rfl (by kernel_rfl)) (fun _ => ?_)
      refine wl_nil ?_
      refine wq_then ?_
      refine wc_ret ?_
      refine wq_block_ret ?_
      refine wq_then_ret ?_
      refine wq_retC rfl rfl 1 rfl Tryz.underlying92 rfl (by kernel_rfl) (fun w hw => ?_)
      exact ⟨by rw [next_num h12, Nat.min_eq_left (Nat.le_of_lt hsm.1), ← hsm.2]; rfl, (HpG.keep hw).ext⟩
  · skip
    refine wc_seq ?_
    refine wc_weak (.cons (i := 0) rfl <| .cons (i := 2) rfl <| .cons (i := 3) rfl <| .cons (i := 12) rfl <| .nil) ?_
    refine wc_region ?_
    refine wl_free .none rfl (yf_move rfl) ?_
    refine wl_pure .none rfl  (v := .bool (letQ c.toNat)) (by kernel_rfl) rfl (fun w hw => letter_any _ w) ?_
    refine wl_free .none rfl (yf_assign rfl) ?_
    refine wl_nil ?_
    refine wq_then ?_
    refine wc_cond rfl (fun h31 => ?_) (fun h31 => ?_)
    · skip
      refine wc_seq ?_
      refine wc_weak (.cons (i := 0) rfl <| .cons (i := 2) rfl <| .cons (i := 3) rfl <| .cons (i := 12) rfl <| .cons (i := 31) rfl <| .nil) ?_
      refine wc_region ?_
      refine wl_free .none rfl (yf_move rfl) ?_
      refine wl_free .none rfl (yf_move rfl) ?_
      refine wl_pure .none rfl  (v := .int .i64 (spanL worB (c :: r))) (by kernel_rfl) rfl (fun w hw => span_any _ worQ wordc_fn (fun x hx => by simp [worQ, letQ, digQ]; omega) (c :: r) w) ?_
      (refine wl_free .none rfl (yf_strHi rfl rfl Tryz.underlying9 ?_ ?_ (show (c :: r).take (Int.toNat ((spanL worB (c :: r) : Nat) : Int)) = (c :: r).takeWhile worB from take_span worQ (c :: r))) ?_; (· have := spanL_le worB (c :: r); omega); (· have := spanL_le worB (c :: r); omega); skip)
      refine wl_free .none rfl (yf_buildS [.int .i64 0, .int .i64 0, .string ⟨#[]⟩, .int .u64 0] [(0, 1), (1, 1), (2, 1), (3, 1)] rfl (by kernel_rfl) (by kernel_rfl) rfl) ?_
      refine wl_new .none rfl (nf_alloc (z := .agg #[.int .i64 0, .int .i64 0, .string ⟨#[]⟩, .int .u64 0]) (cs := [.int .i64 0, .int .i64 0, .string ⟨#[]⟩, .int .u64 0]) (by kernel_rfl) rfl) (fun b7 => ?_)
      refine wl_chain0 .none (cf_storeRow 0 rfl rfl rfl rfl rfl (by kernel_rfl)) (fun _ => ?_)
      refine wl_nil ?_
      refine wq_then ?_
      refine wc_seq ?_
      refine wc_seq ?_
      refine wc_weak (.cons (i := 0) rfl <| .cons (i := 2) rfl <| .cons (i := 3) rfl <| .cons (i := 7) rfl <| .cons (i := 12) rfl <| .cons (i := 31) rfl <| .nil) ?_
      refine wc_drawTN 3 [1, 2, 0] (Blk b7 _) (by kernel_rfl) (by kernel_rfl) Blk.stab (fun w h => HpG.blk h (k := 0) rfl) (fun n0 hn0 => ?_)
      refine wd_at rfl ?_
      (refine wd_free ?_ .none rfl (yf_fieldAddr (off := 2) (sz := 0) rfl Tryz.underlying92 (by kernel_rfl) rfl) ?_; (· rfl);  skip)
      refine wd_at rfl ?_
      (refine wd_free ?_ .none rfl (yf_loadJ rfl rfl Tryz.underlying9 rfl) ?_; (· rfl);  skip)
      refine wd_at rfl ?_
      refine wd_callX (ι := Option Addr) (C := fun _ => True) (val := fun A => .slice A keysL.length 9) (TT := fun A F u => RdF F A (strs keysL) u) .none rfl  (by kernel_rfl) rfl (fun _ h => h.elim) (fun _ => RdF.lies) (fun w w' h hx => Blk.onE h hx) (fun w hw => (keywords_any w).mono fun e w' ⟨A, e1, e2, e3⟩ => ⟨A, trivial, e1, e2, e3⟩) (fun A F _ hF => ?_)
      refine wd_endTH ?_
      simp only [List.drop_succ_cons, List.drop_zero]
      refine wl_pure .none rfl  (v := .bool (decide ((c :: r).takeWhile worB ∈ keysL))) (by kernel_rfl) rfl (fun w hw => contains_any keysL (by decide) _ _ _ w (HpG.x hw).1) ?_
      refine wl_nil ?_
      refine wq_then ?_
      refine wc_cond rfl (fun h42 => ?_) (fun h42 => ?_)
      · skip
        refine wc_weak (.cons (i := 0) rfl <| .cons (i := 2) rfl <| .cons (i := 3) rfl <| .cons (i := 7) rfl <| .cons (i := 12) rfl <| .cons (i := 31) rfl <| .cons (i := 42) rfl <| .nil) ?_
        refine wc_region ?_
        refine wl_free .none rfl (yf_fieldAddr (off := 0) (sz := 0) rfl Tryz.underlying92 (by kernel_rfl) rfl) ?_
        refine wl_chain0 .none (cf_store 0 rfl rfl rfl rfl rfl (by kernel_rfl)) (fun _ => ?_)
        refine wl_nil ?_
        refine wq_then ?_
        refine wc_seq ?_
        refine wc_seq ?_
        refine wc_weak (.cons (i := 0) rfl <| .cons (i := 2) rfl <| .cons (i := 3) rfl <| .cons (i := 7) rfl <| .cons (i := 12) rfl <| .cons (i := 31) rfl <| .cons (i := 42) rfl <| .nil) ?_
        refine wc_region ?_
        refine wl_free .none rfl (yf_fieldAddr (off := 2) (sz := 0) rfl Tryz.underlying92 (by kernel_rfl) rfl) ?_
        refine wl_free .none rfl (yf_loadL 0 rfl rfl rfl Tryz.underlying9 rfl) ?_
        refine wl_free .none rfl (yf_lenL rfl Tryz.underlying9) ?_
        refine wl_free .none rfl (yf_gtr rfl rfl) ?_
        refine wl_nil ?_
        refine wq_then ?_
        refine wc_cond rfl (fun h47 => ?_) (fun h47 => ?_)
        · replace h47 := of_decide_eq_true h47
          refine wc_weak (.cons (i := 0) rfl <| .cons (i := 2) rfl <| .cons (i := 3) rfl <| .cons (i := 7) rfl <| .cons (i := 12) rfl <| .cons (i := 31) rfl <| .cons (i := 42) rfl <| .cons (i := 47) rfl <| .nil) ?_
          refine wc_region ?_
          refine wl_free .none rfl (yf_fieldAddr (off := 0) (sz := 0) rfl Tryz.underlying92 (by kernel_rfl) rfl) ?_
          refine wl_chain0 .none (cf_store 0 rfl rfl rfl rfl rfl (by kernel_rfl)) (fun _ => ?_)
          refine wl_nil ?_
          refine wq_then ?_
          refine wc_seq ?_
          refine wc_weak (.cons (i := 0) rfl <| .cons (i := 2) rfl <| .cons (i := 3) rfl <| .cons (i := 7) rfl <| .cons (i := 12) rfl <| .cons (i := 31) rfl <| .cons (i := 42) rfl <| .cons (i := 47) rfl <| .nil) ?_
          refine wc_region ?_
          refine wl_free .none rfl (yf_loadAllL 0 rfl rfl Tryz.underlying92 rfl (by kernel_rfl)) ?_
          refine wl_chain0 .none (cf_storeRow 1 rfl rfl rfl rfl rfl (by kernel_rfl)) (fun _ => ?_)
          refine wl_nil ?_
          refine wq_then ?_
          refine wc_ret ?_
          refine wq_block_ret ?_
          refine wq_then_ret ?_
          refine wq_retC rfl rfl 1 rfl Tryz.underlying92 rfl (by kernel_rfl) (fun w hw => ?_)
          exact ⟨by rw [next_wor (by simp [h12]) h31, if_pos (by omega)]; rfl, (HpG.keep hw).ext⟩
        · replace h47 := of_decide_eq_false h47
          refine wc_skip ?_
          refine wq_then ?_
          refine wc_seq ?_
          refine wc_weak (.cons (i := 0) rfl <| .cons (i := 2) rfl <| .cons (i := 3) rfl <| .cons (i := 7) rfl <| .cons (i := 12) rfl <| .cons (i := 31) rfl <| .cons (i := 42) rfl <| .cons (i := 47) rfl <| .nil) ?_
          refine wc_region ?_
          refine wl_free .none rfl (yf_loadAllL 0 rfl rfl Tryz.underlying92 rfl (by kernel_rfl)) ?_
          refine wl_chain0 .none (cf_storeRow 1 rfl rfl rfl rfl rfl (by kernel_rfl)) (fun _ => ?_)
          refine wl_nil ?_
          refine wq_then ?_
          refine wc_ret ?_
          refine wq_block_ret ?_
          refine wq_then_ret ?_
          refine wq_retC rfl rfl 1 rfl Tryz.underlying92 rfl (by kernel_rfl) (fun w hw => ?_)
          exact ⟨by rw [next_wor (by simp [h12]) h31, if_neg (by omega), if_pos (of_decide_eq_true h42)]; rfl, (HpG.keep hw).ext⟩
      · skip
        refine wc_skip ?_
        refine wq_then ?_
        refine wc_seq ?_
        refine wc_seq ?_
        refine wc_weak (.cons (i := 0) rfl <| .cons (i := 2) rfl <| .cons (i := 3) rfl <| .cons (i := 7) rfl <| .cons (i := 12) rfl <| .cons (i := 31) rfl <| .cons (i := 42) rfl <| .nil) ?_
        refine wc_region ?_
        refine wl_free .none rfl (yf_fieldAddr (off := 2) (sz := 0) rfl Tryz.underlying92 (by kernel_rfl) rfl) ?_
        refine wl_free .none rfl (yf_loadL 0 rfl rfl rfl Tryz.underlying9 rfl) ?_
        refine wl_free .none rfl (yf_lenL rfl Tryz.underlying9) ?_
        refine wl_free .none rfl (yf_gtr rfl rfl) ?_
        refine wl_nil ?_
        refine wq_then ?_
        refine wc_cond rfl (fun h47 => ?_) (fun h47 => ?_)
        · replace h47 := of_decide_eq_true h47
          refine wc_weak (.cons (i := 0) rfl <| .cons (i := 2) rfl <| .cons (i := 3) rfl <| .cons (i := 7) rfl <| .cons (i := 12) rfl <| .cons (i := 31) rfl <| .cons (i := 42) rfl <| .cons (i := 47) rfl <| .nil) ?_
          refine wc_region ?_
          refine wl_free .none rfl (yf_fieldAddr (off := 0) (sz := 0) rfl Tryz.underlying92 (by kernel_rfl) rfl) ?_
          refine wl_chain0 .none (cf_store 0 rfl rfl rfl rfl rfl (by kernel_rfl)) (fun _ => ?_)
          refine wl_nil ?_
          refine wq_then ?_
          refine wc_seq ?_
          refine wc_weak (.cons (i := 0) rfl <| .cons (i := 2) rfl <| .cons (i := 3) rfl <| .cons (i := 7) rfl <| .cons (i := 12) rfl <| .cons (i := 31) rfl <| .cons (i := 42) rfl <| .cons (i := 47) rfl <| .nil) ?_
          refine wc_region ?_
          refine wl_free .none rfl (yf_loadAllL 0 rfl rfl Tryz.underlying92 rfl (by kernel_rfl)) ?_
          refine wl_chain0 .none (cf_storeRow 1 rfl rfl rfl rfl rfl (by kernel_rfl)) (fun _ => ?_)
          refine wl_nil ?_
          refine wq_then ?_
          refine wc_ret ?_
          refine wq_block_ret ?_
          refine wq_then_ret ?_
          refine wq_retC rfl rfl 1 rfl Tryz.underlying92 rfl (by kernel_rfl) (fun w hw => ?_)
          exact ⟨by rw [next_wor (by simp [h12]) h31, if_pos (by omega)]; rfl, (HpG.keep hw).ext⟩
        · replace h47 := of_decide_eq_false h47
          refine wc_skip ?_
          refine wq_then ?_
          refine wc_seq ?_
          refine wc_weak (.cons (i := 0) rfl <| .cons (i := 2) rfl <| .cons (i := 3) rfl <| .cons (i := 7) rfl <| .cons (i := 12) rfl <| .cons (i := 31) rfl <| .cons (i := 42) rfl <| .cons (i := 47) rfl <| .nil) ?_
          refine wc_region ?_
          refine wl_free .none rfl (yf_loadAllL 0 rfl rfl Tryz.underlying92 rfl (by kernel_rfl)) ?_
          refine wl_chain0 .none (cf_storeRow 1 rfl rfl rfl rfl rfl (by kernel_rfl)) (fun _ => ?_)
          refine wl_nil ?_
          refine wq_then ?_
          refine wc_ret ?_
          refine wq_block_ret ?_
          refine wq_then_ret ?_
          refine wq_retC rfl rfl 1 rfl Tryz.underlying92 rfl (by kernel_rfl) (fun w hw => ?_)
          exact ⟨by rw [next_wor (by simp [h12]) h31, if_neg (by omega), if_neg (of_decide_eq_false h42)]; rfl, (HpG.keep hw).ext⟩
    · skip
      refine wc_skip ?_
      refine wq_block ?_
      refine wq_then ?_
      refine wc_seq ?_
      refine wc_seq ?_
      refine wc_weak (.cons (i := 0) rfl <| .cons (i := 2) rfl <| .cons (i := 3) rfl <| .cons (i := 12) rfl <| .cons (i := 31) rfl <| .nil) ?_
      refine wc_region ?_
      refine wl_free .none rfl (yf_move rfl) ?_
      refine wl_pure .none rfl  (v := .int .i64 (symL (c :: r))) (by kernel_rfl) rfl (fun w hw => symbol_any c r hl w) ?_
      refine wl_free .none rfl (yf_assign rfl) ?_
      refine wl_nil ?_
      refine wq_then ?_
      refine wc_seq ?_
      refine wc_weak (.cons (i := 0) rfl <| .cons (i := 2) rfl <| .cons (i := 3) rfl <| .cons (i := 8) rfl <| .cons (i := 12) rfl <| .cons (i := 31) rfl <| .nil) ?_
      refine wc_region ?_
      refine wl_free .none rfl (yf_move rfl) ?_
      refine wl_free .none rfl (yf_gtr rfl rfl) ?_
      refine wl_nil ?_
      refine wq_then ?_
      refine wc_cond rfl (fun h53 => ?_) (fun h53 => ?_)
      · replace h53 := of_decide_eq_true h53
        refine wc_seq ?_
        refine wc_weak (.cons (i := 0) rfl <| .cons (i := 2) rfl <| .cons (i := 3) rfl <| .cons (i := 8) rfl <| .cons (i := 12) rfl <| .cons (i := 31) rfl <| .cons (i := 53) rfl <| .nil) ?_
        refine wc_region ?_
        refine wl_free .none rfl (yf_move rfl) ?_
        refine wl_free .none rfl (yf_move rfl) ?_
        (refine wl_free .none rfl (yf_strHi rfl rfl Tryz.underlying9 ?_ ?_ rfl) ?_; (· have := symL_le c r; omega); (· have := symL_le c r; omega); skip)
        refine wl_free .none rfl (yf_buildS [.int .i64 0, .int .i64 0, .string ⟨#[]⟩, .int .u64 0] [(0, 1), (1, 1), (2, 1), (3, 1)] rfl (by kernel_rfl) (by kernel_rfl) rfl) ?_
        refine wl_chain0 .none (cf_storeRow 0 rfl rfl rfl rfl rfl (by kernel_rfl)) (fun _ => ?_)
        refine wl_nil ?_
        refine wq_then ?_
        refine wc_ret ?_
        refine wq_then_ret ?_
        refine wq_retC rfl rfl 0 rfl Tryz.underlying92 rfl (by kernel_rfl) (fun w hw => ?_)
        exact ⟨by rw [next_sym (by simp [h12]) (by simp [h31]), if_neg (by omega)]; rfl, (HpG.keep hw).ext⟩
      · replace h53 := of_decide_eq_false h53
        refine wc_skip ?_
        refine wq_then ?_
        refine wc_seq ?_
        refine wc_weak (.cons (i := 0) rfl <| .cons (i := 2) rfl <| .cons (i := 3) rfl <| .cons (i := 8) rfl <| .cons (i := 12) rfl <| .cons (i := 31) rfl <| .cons (i := 53) rfl <| .nil) ?_
        refine wc_region ?_
        refine wl_free .none rfl (yf_move rfl) ?_
        (refine wl_free .none rfl (yf_strHi rfl rfl Tryz.underlying9 ?_ ?_ rfl) ?_; (· first | decide | (simp; omega)); (· first | decide | (simp; omega)); skip)
        refine wl_free .none rfl (yf_buildS [.int .i64 0, .int .i64 0, .string ⟨#[]⟩, .int .u64 0] [(0, 1), (1, 1), (2, 1), (3, 1)] rfl (by kernel_rfl) (by kernel_rfl) rfl) ?_
        refine wl_chain0 .none (cf_storeRow 0 rfl rfl rfl rfl rfl (by kernel_rfl)) (fun _ => ?_)
        refine wl_nil ?_
        refine wq_then ?_
        refine wc_ret ?_
        refine wq_retC rfl rfl 0 rfl Tryz.underlying92 rfl (by kernel_rfl) (fun w hw => ?_)
        exact ⟨by rw [next_sym (by simp [h12]) (by simp [h31]), if_pos (by omega)]; rfl, (HpG.keep hw).ext⟩
/-! ### Tokens -/
/-- What the loop has read. -/
structure TkI (l : Bs) (i : Nat) (out : List Tok) : Prop where
  le : i ≤ l.length
  n : out.length ≤ i
  e : tokL l = out ++ tokD i (l.drop i)
set_option maxRecDepth 100000 in
theorem tokens_any (l : Bs) (hl : l.length ≤ 1000000) (w_0 : World) (hv : ErrV w_0) : Calls Tryz.prog 48 #[.string ⟨l.toArray⟩] w_0 fun e w' => ∃ g cap, e = .returned (.slice (some ⟨g, 0, none⟩) (tokL l).length cap) ∧ (tokL l).length ≤ cap ∧ Ext w_0 w' ∧ RdF (fun k => w_0.heap.size ≤ k) (some ⟨g, 0, none⟩) (toksC (tokL l)) w' := by
  refine calls_wc (args := [.string ⟨l.toArray⟩]) Tryz.func48 rfl 36 rfl (Nat.le_of_ble_eq_true rfl) ?_
  refine wc_weak (.cons (i := 0) rfl <| .nil) ?_
  refine wc_conseq (H' := Hp (fun _ => False) w_0 [] [] ErrV) (fun u hu => ?_) ?_
  · subst hu; exact Hp.weakX (Hp.startT ErrV.lies (F := fun _ => True) ⟨trivial, hv.lt, hv⟩) fun u h => h.2.2
  refine wc_seq ?_
  refine wc_region ?_
  refine wl_free .none rfl (yf_assign rfl) ?_
  refine wl_nil ?_
  refine wq_then ?_
  refine wc_seq ?_
  refine wc_region ?_
  refine wl_free .none rfl (yf_assign rfl) ?_
  refine wl_nil ?_
  refine wq_then ?_
  refine wc_seq ?_
  refine wc_region ?_
  refine wl_free .none rfl (yf_assign rfl) ?_
  refine wl_nil ?_
  refine wq_then ?_
  refine wc_block ?_
  refine wc_loop (ι := {j : (Nat × List Tok) × (Option Addr × Nat) // TkI l j.1.1 j.1.2 ∧ j.1.2.length ≤ j.2.2}) (fun j => [(0, .string ⟨l.toArray⟩), (3, .slice j.1.2.1 j.1.1.2.length j.1.2.2), (4, .int .i64 j.1.1.1)]) (fun j => Hp (fun _ => False) w_0 [] [⟨.slice j.1.2.1 j.1.1.2.length j.1.2.2, 92, 4, j.1.1.2.length, toksC j.1.1.2⟩] ErrV) (fun j => l.length - j.1.1.1) ⟨((0, []), (none, 0)), ⟨Nat.zero_le _, Nat.le_refl _, rfl⟩, Nat.le_refl _⟩ ?_ ?_ (fun j => ?_)
  · exact .cons rfl <| .cons rfl <| .cons rfl <| .nil
  · exact fun w h => Hp.nil h _ _
  obtain ⟨⟨⟨i, out⟩, ⟨A, cap⟩⟩, ⟨hi, hn, he⟩, hcap⟩ := j
  dsimp only at hi hn he hcap ⊢
  have hsp := spanL_le blaB (l.drop i)
  rw [List.length_drop] at hsp
  refine wc_block ?_
  refine wc_seq ?_
  refine wc_region ?_
  refine wl_free .none rfl (yf_move rfl) ?_
  refine wl_free .none rfl (yf_move rfl) ?_
  refine wl_free .none rfl (yf_move rfl) ?_
  (refine wl_free .none rfl (yf_strLo rfl rfl Tryz.underlying9 ?_ ?_ (show l.drop (Int.toNat (i : Int)) = l.drop i from rfl)) ?_; (· omega); (· omega); skip)
  refine wl_pure .none rfl  (v := .int .i64 (spanL blaB (l.drop i))) (by kernel_rfl) rfl (fun w hw => span_any _ blaQ blank_fn (fun x hx => by simp [blaQ]; omega) (l.drop i) w) ?_
  refine wl_free .none rfl (yf_add rfl rfl (show IntKind.i64.wrap ((i : Int) + ((spanL blaB (l.drop i) : Nat) : Int)) = ((i + spanL blaB (l.drop i) : Nat) : Int) from by rw [i64_in _ (by omega) (by omega)]; simp)) ?_
  refine wl_free .none rfl (yf_assign rfl) ?_
  refine wl_nil ?_
  refine wq_then ?_
  refine wc_seq ?_
  refine wc_seq ?_
  refine wc_weak (.cons (i := 0) rfl <| .cons (i := 3) rfl <| .cons (i := 4) rfl <| .nil) ?_
  refine wc_region ?_
  refine wl_free .none rfl (yf_move rfl) ?_
  refine wl_free .none rfl (yf_move rfl) ?_
  refine wl_free .none rfl (yf_lenL rfl Tryz.underlying9) ?_
  refine wl_free .none rfl (yf_eql rfl rfl) ?_
  refine wl_nil ?_
  refine wq_then ?_
  refine wc_cond rfl (fun h15 => ?_) (fun h15 => ?_)
  · replace h15 := eq_of_beq h15
    have hend : (l.drop i).drop (spanL blaB (l.drop i)) = [] := by rw [List.drop_drop]; exact List.drop_eq_nil_of_le (by omega)
    have hfin : tokL l = out ++ [⟨0, i + spanL blaB (l.drop i), [], 0⟩] := by rw [he, tokD_end hend]
    refine wc_seq ?_
    refine wc_weak (.cons (i := 0) rfl <| .cons (i := 3) rfl <| .cons (i := 4) rfl <| .cons (i := 15) rfl <| .nil) ?_
    refine wc_region ?_
    refine wl_free .none rfl (yf_move rfl) ?_
    refine wl_free .none rfl (yf_move rfl) ?_
    refine wl_free .none rfl (yf_buildS [.int .i64 0, .int .i64 0, .string ⟨#[]⟩, .int .u64 0] [(0, 1), (1, 1), (2, 1), (3, 1)] rfl (by kernel_rfl) (by kernel_rfl) rfl) ?_
    refine wl_new .none rfl (nf_bs1 (z := .agg #[.int .i64 0, .int .i64 0, .string ⟨#[]⟩, .int .u64 0]) rfl rfl Tryz.underlying87 (by kernel_rfl) (by kernel_rfl) rfl rfl) (fun b19 => ?_)
    (refine wl_appendB (z := .agg #[.int .i64 0, .int .i64 0, .string ⟨#[]⟩, .int .u64 0]) (bytes := 40) 0 0 .none rfl rfl rfl rfl rfl Tryz.underlying87 (by kernel_rfl) rfl rfl rfl rfl rfl ?_ ?_ (fun a20 c20 h20 => ?_); (· omega); (· omega); skip)
    refine wl_free .none rfl (yf_assign rfl) ?_
    refine wl_nil ?_
    refine wq_then ?_
    refine wc_ret ?_
    refine wq_then_ret ?_
    refine wq_block_ret ?_
    refine wq_then_ret ?_
    refine wq_block_ret ?_
    refine wq_ret1 rfl rfl (fun w hw => ?_)
    exact ⟨a20, c20, by rw [hfin, List.length_append]; rfl, by rw [hfin, List.length_append]; exact h20, (HpG.keep hw).ext, by rw [hfin, toksC_one]; exact HpG.rowF (j := 0) hw rfl⟩
  · replace h15 := beq_no h15
    obtain ⟨c, r, hcr⟩ : ∃ c r, (l.drop i).drop (spanL blaB (l.drop i)) = c :: r := by
      cases hq : (l.drop i).drop (spanL blaB (l.drop i)) with
      | nil => rw [List.drop_drop] at hq; have := List.drop_eq_nil_iff.1 hq; omega
      | cons c r => exact ⟨c, r, rfl⟩
    have hcr2 : l.drop (i + spanL blaB (l.drop i)) = c :: r := by rw [← hcr, List.drop_drop]
    have hlen : (c :: r).length + (i + spanL blaB (l.drop i)) = l.length := by rw [← hcr2, List.length_drop]; omega
    have hnl := nextL_len c r
    refine wc_skip ?_
    refine wq_then ?_
    refine wc_seq ?_
    refine wc_weak (.cons (i := 0) rfl <| .cons (i := 3) rfl <| .cons (i := 4) rfl <| .cons (i := 15) rfl <| .nil) ?_
    refine wc_region ?_
    refine wl_free .none rfl (yf_move rfl) ?_
    refine wl_free .none rfl (yf_move rfl) ?_
    (refine wl_free .none rfl (yf_strLo rfl rfl Tryz.underlying9 ?_ ?_ (show l.drop (Int.toNat ((i + spanL blaB (l.drop i) : Nat) : Int)) = c :: r from hcr2)) ?_; (· omega); (· omega); skip)
    refine wl_pure .none rfl  (v := .agg (tokC (nextL (c :: r))).toArray) (by kernel_rfl) rfl (fun w hw => next_any c r (by omega) w (HpG.x hw)) ?_
    refine wl_new .none rfl (nf_alloc (z := .agg #[.int .i64 0, .int .i64 0, .string ⟨#[]⟩, .int .u64 0]) (cs := [.int .i64 0, .int .i64 0, .string ⟨#[]⟩, .int .u64 0]) (by kernel_rfl) rfl) (fun b5 => ?_)
    refine wl_chain0 .none (cf_storeRow 0 rfl rfl rfl rfl rfl (by kernel_rfl)) (fun _ => ?_)
    refine wl_nil ?_
    refine wq_then ?_
    refine wc_seq ?_
    refine wc_weak (.cons (i := 0) rfl <| .cons (i := 3) rfl <| .cons (i := 4) rfl <| .cons (i := 5) rfl <| .cons (i := 15) rfl <| .nil) ?_
    refine wc_region ?_
    refine wl_free .none rfl (yf_move rfl) ?_
    refine wl_free .none rfl (yf_fieldAddr (off := 1) (sz := 0) rfl Tryz.underlying92 (by kernel_rfl) rfl) ?_
    refine wl_chain0 .none (cf_store 0 rfl rfl rfl rfl rfl (by kernel_rfl)) (fun _ => ?_)
    refine wl_nil ?_
    refine wq_then ?_
    refine wc_seq ?_
    refine wc_weak (.cons (i := 0) rfl <| .cons (i := 3) rfl <| .cons (i := 4) rfl <| .cons (i := 5) rfl <| .cons (i := 15) rfl <| .nil) ?_
    refine wc_region ?_
    refine wl_free .none rfl (yf_move rfl) ?_
    refine wl_free .none rfl (yf_loadAllL 0 rfl rfl Tryz.underlying92 rfl (by kernel_rfl)) ?_
    refine wl_new .none rfl (nf_bs1 (z := .agg #[.int .i64 0, .int .i64 0, .string ⟨#[]⟩, .int .u64 0]) rfl rfl Tryz.underlying87 (by kernel_rfl) (by kernel_rfl) rfl rfl) (fun b29 => ?_)
    (refine wl_appendB (z := .agg #[.int .i64 0, .int .i64 0, .string ⟨#[]⟩, .int .u64 0]) (bytes := 40) 0 0 .none rfl rfl rfl rfl rfl Tryz.underlying87 (by kernel_rfl) rfl rfl rfl rfl rfl ?_ ?_ (fun a30 c30 h30 => ?_); (· omega); (· omega); skip)
    refine wl_free .none rfl (yf_assign rfl) ?_
    refine wl_nil ?_
    refine wq_then ?_
    refine wc_weak (.cons (i := 0) rfl <| .cons (i := 3) rfl <| .cons (i := 4) rfl <| .cons (i := 5) rfl <| .cons (i := 15) rfl <| .nil) ?_
    refine wc_region ?_
    refine wl_free .none rfl (yf_move rfl) ?_
    refine wl_free .none rfl (yf_fieldAddr (off := 2) (sz := 0) rfl Tryz.underlying92 (by kernel_rfl) rfl) ?_
    refine wl_free .none rfl (yf_loadL 1 rfl rfl rfl Tryz.underlying9 rfl) ?_
    refine wl_free .none rfl (yf_lenL rfl Tryz.underlying9) ?_
    refine wl_free .none rfl (yf_add rfl rfl (show IntKind.i64.wrap (((i + spanL blaB (l.drop i) : Nat) : Int) + (((nextL (c :: r)).text.length : Nat) : Int)) = ((i + spanL blaB (l.drop i) + (nextL (c :: r)).text.length : Nat) : Int) from by rw [i64_in _ (by omega) (by omega)]; simp)) ?_
    refine wl_free .none rfl (yf_assign rfl) ?_
    refine wl_nil ?_
    refine wq_block ?_
    refine wq_round (ι := {j : (Nat × List Tok) × (Option Addr × Nat) // TkI l j.1.1 j.1.2 ∧ j.1.2.length ≤ j.2.2}) ⟨((i + spanL blaB (l.drop i) + (nextL (c :: r)).text.length, out ++ [⟨(nextL (c :: r)).kind, i + spanL blaB (l.drop i), (nextL (c :: r)).text, (nextL (c :: r)).value⟩]), (some ⟨a30, 0, none⟩, c30)), ⟨?_, ?_, ?_⟩, ?_⟩ ?_ ?_ (fun w h => ?_)
    · show i + spanL blaB (l.drop i) + (nextL (c :: r)).text.length ≤ l.length; omega
    · rw [List.length_append]; show out.length + 1 ≤ i + spanL blaB (l.drop i) + (nextL (c :: r)).text.length; omega
    · rw [he, tokD_next hcr, List.append_assoc]
      show out ++ _ = out ++ (_ :: tokD _ (l.drop (i + spanL blaB (l.drop i) + (nextL (c :: r)).text.length)))
      rw [← List.drop_drop, ← List.drop_drop, hcr]
    · rw [List.length_append]; exact h30
    · show l.length - (i + spanL blaB (l.drop i) + (nextL (c :: r)).text.length) < l.length - i; omega
    · exact .cons rfl <| .cons (by dsimp only; rw [List.length_append]; rfl) <| .cons rfl <| .nil
    · dsimp only
      rw [List.length_append, toksC_one]
      exact Hp.drop h (List.nil_sublist _) (List.Sublist.refl _)
end Go.Proofs.YtfpkpnkdnammnaaGreatDoor
