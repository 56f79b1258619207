/- What strconv.FormatUint answers. -/
import Derived.Test.YtojofinofpgopaaDoorDShelf
import Derived.Test.YtojofinofpgopaaDoorMgDr
import Derived.Lib.AppendIntMem
namespace Go.Proofs.YtojofinofpgopaaDoor
open Go.RowKit Go.Sort
/-- The two tables of the library that numerals lean on. -/
structure Tb (w : World) : Prop where
  ten : Lib.TabIs Tryd.prog w "internal/strconv.uint64pow10" .u64 Lib.pow10Tab
  low : w.cell? ⟨2, 15, none⟩ = some (.int .u8 4)
theorem Tb.ext {w w' : World} (h : Tb w) (hx : Ext w w') : Tb w' := by
  refine ⟨Lib.tabBelow_of_tabIs h.ten w' hx, ?_⟩
  rw [Below.cell hx (p := ⟨2, 15, none⟩) (cell_in h.low)]
  exact h.low
theorem yf_sliceArrHi {P : Program} {n : Nat} {m : List (Nat × Value)} {ty : TypeId} {H : World → Prop} {x hi : Operand} {t e : TypeId} {k : IntKind} {g o i size N : Nat} {j : Int} (hx : ev m x = some (.pointer (some ⟨g, o, none⟩))) (hh : ev m hi = some (.int k j)) (ht : P.underlying t = some (.array N e)) (hs' : (P.info? e).map (·.size) = some size) (hj : j = i) (hi' : i ≤ N) :
    YF P (.slice t x none (some hi) none) ty n m H (.slice (some ⟨g, o, none⟩) i N) := fun _ w d pos af gd hs hw => by
  subst hj
  simp [Yl, execOp, hs.ev hx, hs.ev hh, Instr.sliceAt, Instr.sureAddr, run_underlying ht, Instr.sliceBounds, Instr.sliceBound, asIntOf, run_sizeOf hs', Addr.add]
  intro hlt; omega
abbrev encB (b : UInt8) : Value := .int .u8 (b.toNat : Int)
theorem put_dec {u v' : Nat} {dk : Array UInt8} (h : Lib.FmtInv (Lib.nDigits u) u 0 v' dk) (hn : Lib.nDigits u ≤ 24) : putCells encB 0 dk (List.replicate 24 (Value.int .u8 0)).toArray = ((Lib.decDigits u).map encB ++ List.replicate (24 - Lib.nDigits u) (Value.int .u8 0)).toArray := by
  have hl := Lib.decDigits_length u
  have hs := h.size
  apply Array.ext
  · simp [putCells, hl]; omega
  · intro j h1 h2
    have hj : j < 24 := by simpa [putCells] using h1
    simp only [putCells, Array.getElem_mapIdx, Nat.zero_le, true_and, Nat.zero_add, Nat.sub_zero, List.getElem_toArray]
    by_cases hjn : j < Lib.nDigits u
    · rw [if_pos (by omega), List.getElem_append_left (by simp [hl]; omega), List.getElem_map, Lib.row_is_numeral h j (by omega)]
    · rw [if_neg (by omega), List.getElem_append_right (by simp [hl]; omega), List.getElem_replicate, List.getElem_replicate]
theorem fmt10_turn (u : Nat) (hu : u < 18446744073709551616) (g T : Nat) (w : World) (hg : w.heap[g]? = some (bk T (List.replicate 24 (Value.int .u8 0)))) (hn : Lib.nDigits u ≤ 20) :
    Calls Tryd.prog 82 #[.slice (some ⟨g, 0, none⟩) (Lib.nDigits u) 24, .int .u64 u] w fun e w' => e = .returned (.tuple #[]) ∧ Keep (fun j => j = g) w w' ∧ w'.heap[g]? = some (bk T ((Lib.decDigits u).map encB ++ List.replicate (24 - Lib.nDigits u) (.int .u8 0))) := by
  have hH : Holds encB w g 0 (Array.replicate (Lib.nDigits u) 0) := fun j hj => by
    have hj' : j < Lib.nDigits u := by simpa using hj
    refine ⟨?_, Lib.frozen_of_heap hg _⟩
    rw [cell_of_row w g _ _ _ _ hg, Nat.zero_add, List.getElem?_toArray, List.getElem?_replicate, if_pos (by omega)]
    have e : (Array.replicate (Lib.nDigits u) (0 : UInt8))[j]! = 0 := by rw [getElem!_pos (Array.replicate (Lib.nDigits u) (0 : UInt8)) j hj, Array.getElem_replicate]
    rw [e]; rfl
  have := Tryd.internal_strconv_formatBase10 g 0 24 u (Array.replicate (Lib.nDigits u) 0) w hH (by rw [Array.size_replicate]; exact Lib.lt_pow_nDigits u) hu (by rw [Array.size_replicate]; omega)
  rw [Array.size_replicate] at this
  refine this.mono ?_
  rintro e w' ⟨rfl, k, v', dk, rfl, hF⟩
  have hh : ((putRow encB w g 0 dk).drewN k).heap = w.heap.modify g (onCells (putCells encB 0 dk)) := rfl
  refine ⟨rfl, ⟨rfl, rfl, rfl, ?_, ?_⟩, ?_⟩
  · rw [hh]; simp
  · intro j _ hj
    rw [hh, Array.getElem?_modify, if_neg (fun e => hj e.symm)]
  · rw [hh, Array.getElem?_modify, if_pos rfl, hg]
    show some (Obj.cells (putCells encB 0 dk (List.replicate 24 (Value.int .u8 0)).toArray) T (0, 0)) = _
    rw [put_dec hF (by omega)]
theorem nd_le {u : Nat} (h : u < 18446744073709551616) : Lib.nDigits u ≤ 20 := by
  rw [← Lib.decDigits_length]
  exact dec_len (by omega) (by decide)
set_option maxRecDepth 100000 in
theorem fu10_any (u : Nat) (hu : u < 4294967296) (w_0 : World) (hT : Tb w_0) : Calls Tryd.prog 61 #[.int .u64 u, .int .i64 10] w_0 fun e w' => e = .returned (.string ⟨(Lib.decDigits u).toArray⟩) ∧ Ext w_0 w' := by
  have hnd := nd_le (u := u) (by omega)
  refine calls_wc (args := [.int .u64 u, .int .i64 10]) Tryd.func61 rfl 32 rfl (Nat.le_of_ble_eq_true rfl) ?_
  refine wc_weak (.cons (i := 0) rfl <| .cons (i := 1) rfl <| .nil) ?_
  refine wc_conseq (H' := Hp (fun _ => False) w_0 [] [] (fun _ => True)) (fun u hu => ?_) ?_
  · subst hu; exact Hp.start0
  refine wc_seq ?_
  refine wc_region ?_
  refine wl_free .none rfl (yf_assign rfl) ?_
  refine wl_nil ?_
  refine wq_then ?_
  refine wc_seq ?_
  refine wc_seq ?_
  refine wc_region ?_
  refine wl_free .none rfl (yf_move rfl) ?_
  refine wl_free .none rfl (yf_eql rfl rfl) ?_
  refine wl_nil ?_
  refine wq_then ?_
  refine wc_cond rfl (fun hc => ?_) (fun hc => ?_)
  · replace hc := eq_of_beq hc
    refine wc_seq ?_
    refine wc_seq ?_
    refine wc_weak (.cons (i := 0) rfl <| .cons (i := 1) rfl <| .cons (i := 4) rfl <| .cons (i := 10) rfl <| .nil) ?_
    refine wc_region ?_
    refine wl_free .none rfl (yf_move rfl) ?_
    refine wl_free .none rfl (yf_lss rfl rfl) ?_
    refine wl_nil ?_
    refine wq_then ?_
    refine wc_cond rfl (fun hc => ?_) (fun hc => ?_)
    · replace hc := of_decide_eq_true hc
      refine wc_seq ?_
      refine wc_weak (.cons (i := 0) rfl <| .cons (i := 1) rfl <| .cons (i := 4) rfl <| .cons (i := 10) rfl <| .cons (i := 12) rfl <| .nil) ?_
      refine wc_region ?_
      refine wl_free .none rfl (yf_move rfl) ?_
      (refine wl_free .none rfl (yf_conv rfl (by kernel_rfl) Tryd.underlying3 (i64_in _ ?_ ?_)) ?_; (· omega); (· omega); skip)
      refine wl_pure .none rfl (by kernel_rfl) rfl (fun w hw => (Tryd.internal_strconv_small u (by omega) w).mono fun e w' ⟨h1, h2⟩ => ⟨h1, by subst h2; exact Ext.refl _⟩) ?_
      refine wl_free .none rfl (yf_assign rfl) ?_
      refine wl_nil ?_
      refine wq_then ?_
      refine wc_ret ?_
      refine wq_then_ret ?_
      refine wq_then_ret ?_
      refine wq_ret1 rfl rfl (fun w hw => ?_)
      exact ⟨rfl, (HpG.keep hw).ext⟩
    · replace hc := of_decide_eq_false hc
      refine wc_skip ?_
      refine wq_then ?_
      refine wc_seq ?_
      refine wc_weak (.cons (i := 0) rfl <| .cons (i := 1) rfl <| .cons (i := 4) rfl <| .cons (i := 10) rfl <| .cons (i := 12) rfl <| .nil) ?_
      refine wc_region ?_
      refine wl_new .none rfl (nf_alloc (z := .agg #[.int .u8 0, .int .u8 0, .int .u8 0, .int .u8 0, .int .u8 0, .int .u8 0, .int .u8 0, .int .u8 0, .int .u8 0, .int .u8 0, .int .u8 0, .int .u8 0, .int .u8 0, .int .u8 0, .int .u8 0, .int .u8 0, .int .u8 0, .int .u8 0, .int .u8 0, .int .u8 0, .int .u8 0, .int .u8 0, .int .u8 0, .int .u8 0]) (cs := [.int .u8 0, .int .u8 0, .int .u8 0, .int .u8 0, .int .u8 0, .int .u8 0, .int .u8 0, .int .u8 0, .int .u8 0, .int .u8 0, .int .u8 0, .int .u8 0, .int .u8 0, .int .u8 0, .int .u8 0, .int .u8 0, .int .u8 0, .int .u8 0, .int .u8 0, .int .u8 0, .int .u8 0, .int .u8 0, .int .u8 0, .int .u8 0]) (by kernel_rfl) rfl) (fun b5 => ?_)
      refine wl_nil ?_
      refine wq_then ?_
      refine wc_seq ?_
      refine wc_region ?_
      refine wl_free .none rfl (yf_move rfl) ?_
      refine wl_pure .none rfl (by kernel_rfl) rfl (fun w hw => (Tryd.internal_strconv_numDigits u (by omega) (by omega) w (hT.ext (HpG.keep hw).ext).ten).mono fun e w' ⟨h1, h2⟩ => ⟨h1, by subst h2; exact Ext.refl _⟩) ?_
      refine wl_free .none rfl (yf_assign rfl) ?_
      refine wl_nil ?_
      refine wq_then ?_
      refine wc_seq ?_
      refine wc_weak (.cons (i := 0) rfl <| .cons (i := 1) rfl <| .cons (i := 4) rfl <| .cons (i := 5) rfl <| .cons (i := 6) rfl <| .cons (i := 10) rfl <| .cons (i := 12) rfl <| .nil) ?_
      refine wc_region ?_
      refine wl_free .none rfl (yf_move rfl) ?_
      refine wl_free .none rfl (yf_sliceArrHi (size := 1) rfl rfl Tryd.underlying130 (by kernel_rfl) rfl (by omega)) ?_
      refine wl_free .none rfl (yf_move rfl) ?_
      refine wl_chain .none rfl (cf_turn 0 (by kernel_rfl) rfl rfl (fun w hg hw => fmt10_turn u (by omega) b5 130 w hg hnd)) (fun _ => ?_)
      refine wl_nil ?_
      refine wq_then ?_
      refine wc_seq ?_
      refine wc_weak (.cons (i := 0) rfl <| .cons (i := 1) rfl <| .cons (i := 4) rfl <| .cons (i := 5) rfl <| .cons (i := 6) rfl <| .cons (i := 10) rfl <| .cons (i := 12) rfl <| .nil) ?_
      refine wc_region ?_
      refine wl_free .none rfl (yf_move rfl) ?_
      refine wl_free .none rfl (yf_sliceArrHi (size := 1) rfl rfl Tryd.underlying130 (by kernel_rfl) rfl (by omega)) ?_
      refine wl_free .none rfl (yf_convL 0 (Lib.decDigits u) rfl rfl Tryd.underlying56 Tryd.underlying5 Tryd.underlying9 (Lib.decDigits_length u) (fun j hj => by rw [Nat.zero_add, List.getElem?_append_left (by rw [List.length_map]; exact hj), List.getElem?_map, List.getElem?_eq_getElem hj]; rfl)) ?_
      refine wl_free .none rfl (yf_assign rfl) ?_
      refine wl_nil ?_
      refine wq_then ?_
      refine wc_ret ?_
      refine wq_then_ret ?_
      refine wq_ret1 rfl rfl (fun w hw => ?_)
      exact ⟨rfl, (HpG.keep hw).ext⟩
  · replace hc := beq_no hc
    exact absurd rfl hc
end Go.Proofs.YtojofinofpgopaaDoor
/- strconv.FormatUint at base 16. -/
namespace Go.Proofs.YtojofinofpgopaaDoor
open Go.RowKit Go.Sort
def hexK (u : Nat) : Nat := if h : u < 16 then 1 else hexK (u / 16) + 1
termination_by u
decreasing_by omega
theorem hexK_small {u : Nat} (h : u < 16) : hexK u = 1 := by rw [hexK, dif_pos h]
theorem hexK_big {u : Nat} (h : ¬ u < 16) : hexK u = hexK (u / 16) + 1 := by rw [hexK, dif_neg h]
theorem hexK_pos (u : Nat) : 1 ≤ hexK u := by
  by_cases h : u < 16
  · rw [hexK_small h]; exact Nat.le_refl _
  · rw [hexK_big h]; omega
theorem hexK_lt (u : Nat) : u < 16 ^ hexK u := by
  induction u using Nat.strongRecOn with
  | _ u ih =>
    by_cases h : u < 16
    · rw [hexK_small h]; simpa using h
    · rw [hexK_big h, Nat.pow_succ]
      have := ih (u / 16) (by omega)
      omega
theorem hexK_le {u k : Nat} (h : u < 16 ^ k) (hk : 1 ≤ k) : hexK u ≤ k := by
  induction k generalizing u with
  | zero => omega
  | succ k ih =>
    by_cases h1 : u < 16
    · rw [hexK_small h1]; omega
    · rw [hexK_big h1]
      rcases Nat.eq_zero_or_pos k with rfl | hk0
      · simp at h; omega
      · have := ih (u := u / 16) (by rw [Nat.pow_succ] at h; omega) hk0
        omega
theorem hexN_pad {u k : Nat} (h : u < 16 ^ k) : ∀ d, hexN u (k + d) = List.replicate d 48 ++ hexN u k
  | 0 => by simp
  | d + 1 => by
    have h1 : u < 16 ^ (k + d) := Nat.lt_of_lt_of_le h (Nat.pow_le_pow_right (by decide) (Nat.le_add_right _ _))
    rw [← Nat.add_assoc, hexN_head, Nat.div_eq_of_lt h1, hexN_pad h d, List.replicate_succ]
    rfl
/-- The row of formatBits behind k digits. -/
def fbC (u k : Nat) : List Value := List.replicate (65 - k) (Value.int .u8 0) ++ (hexN u k).map encB
theorem fbC_len {u k : Nat} (h : k ≤ 65) : (fbC u k).length = 65 := by simp [fbC, hexN_len]; omega
theorem fbC_step {u k o : Nat} (h : k < 65) (ho : o = 64 - k) : (fbC u k).set o (encB (hexD (u / 16 ^ k % 16))) = fbC u (k + 1) := by
  subst ho
  unfold fbC
  rw [List.set_append_left _ _ (by simp; omega), hexN_head, List.map_cons, show 65 - k = (64 - k) + 1 by omega, List.replicate_succ', List.set_append_right _ _ (by simp), show 65 - (k + 1) = 64 - k by omega]
  simp
def dig36 : List UInt8 := [48, 49, 50, 51, 52, 53, 54, 55, 56, 57, 97, 98, 99, 100, 101, 102, 103, 104, 105, 106, 107, 108, 109, 110, 111, 112, 113, 114, 115, 116, 117, 118, 119, 120, 121, 122]
theorem dig36_at : ∀ j : Fin 16, dig36.getD j.val 0 = hexD j.val := by decide
theorem yf_digit {P : Program} {n : Nat} {m : List (Nat × Value)} {ty : TypeId} {H : World → Prop} {x y : Operand} {t : TypeId} {k : IntKind} {j : Nat} (hx : ev m x = some (.string ⟨dig36.toArray⟩)) (hy : ev m y = some (.int k (j : Int))) (ht : P.underlying t = some .string) (hj : j < 16) :
    YF P (.index t x y) ty n m H (encB (hexD j)) := by
  have hs : j < (⟨dig36.toArray⟩ : ByteArray).size := Nat.lt_of_lt_of_le hj (by decide)
  have := yf_indexStr (P := P) (n := n) (ty := ty) (H := H) hx hy ht rfl hs
  have e : (⟨dig36.toArray⟩ : ByteArray)[j]'hs = hexD j := by
    rw [← dig36_at ⟨j, hj⟩]
    have h2 : j < dig36.length := Nat.lt_of_lt_of_le hj (by decide)
    rw [List.getD_eq_getElem?_getD, List.getElem?_eq_getElem h2]
    rfl
  rw [e] at this
  exact this
theorem pow2_any (w_0 : World) : Calls Tryd.prog 91 #[.int .i64 16] w_0 fun e w' => e = .returned (.bool true) ∧ Ext w_0 w' := by
  refine calls_wc (args := [.int .i64 16]) Tryd.func91 rfl 8 rfl (Nat.le_of_ble_eq_true rfl) ?_
  refine wc_weak (.cons (i := 0) rfl <| .nil) ?_
  refine wc_conseq (H' := Hp (fun _ => False) w_0 [] [] (fun _ => True)) (fun u hu => ?_) ?_
  · subst hu; exact Hp.start0
  refine wc_seq ?_
  refine wc_region ?_
  refine wl_free .none rfl (yf_assign rfl) ?_
  refine wl_nil ?_
  refine wq_then ?_
  refine wc_seq ?_
  refine wc_region ?_
  refine wl_free .none rfl (yf_move rfl) ?_
  refine wl_free .none rfl (yf_move rfl) ?_
  (refine wl_free .none rfl (yf_sub rfl rfl (i64_in _ ?_ ?_)) ?_; (· omega); (· omega); skip)
  refine wl_free .none rfl (yf_and rfl rfl (show bits .and .i64 16 15 = 0 from by decide)) ?_
  refine wl_free .none rfl (yf_eql rfl rfl) ?_
  refine wl_free .none rfl (yf_assign rfl) ?_
  refine wl_nil ?_
  refine wq_then ?_
  refine wc_ret ?_
  refine wq_ret1 rfl rfl (fun w hw => ?_)
  exact ⟨rfl, (HpG.keep hw).ext⟩
theorem tz64_any (w_0 : World) (hT : Tb w_0) : Calls Tryd.prog 98 #[.int .u64 16] w_0 fun e w' => e = .returned (.int .i64 4) ∧ Ext w_0 w' := by
  refine calls_wc (args := [.int .u64 16]) Tryd.func98 rfl 14 rfl (Nat.le_of_ble_eq_true rfl) ?_
  refine wc_weak (.cons (i := 0) rfl <| .nil) ?_
  refine wc_conseq (H' := Hp (fun _ => False) w_0 [] [] (fun _ => True)) (fun u hu => ?_) ?_
  · subst hu; exact Hp.start0
  refine wc_seq ?_
  refine wc_region ?_
  refine wl_free .none rfl (yf_assign rfl) ?_
  refine wl_nil ?_
  refine wq_then ?_
  refine wc_seq ?_
  refine wc_seq ?_
  refine wc_region ?_
  refine wl_free .none rfl (yf_move rfl) ?_
  refine wl_free .none rfl (yf_eql rfl rfl) ?_
  refine wl_nil ?_
  refine wq_then ?_
  refine wc_cond rfl (fun hc => ?_) (fun hc => ?_)
  · replace hc := eq_of_beq hc
    exact absurd hc (by decide)
  · replace hc := beq_no hc
    refine wc_skip ?_
    refine wq_then ?_
    refine wc_seq ?_
    refine wc_weak (.cons (i := 0) rfl <| .cons (i := 2) rfl <| .cons (i := 4) rfl <| .nil) ?_
    refine wc_region ?_
    refine wl_free .none rfl (yf_move rfl) ?_
    refine wl_free .none rfl (yf_move rfl) ?_
    refine wl_free .none rfl (yf_neg rfl (show IntKind.u64.wrap (0 - 16) = 18446744073709551600 from by decide)) ?_
    refine wl_free .none rfl (yf_and rfl rfl (show bits .and .u64 16 18446744073709551600 = 16 from by decide)) ?_
    refine wl_free .none rfl (yf_mul rfl rfl (show IntKind.u64.wrap (16 * 285870213051353865) = 4573923408821661840 from by decide)) ?_
    (refine wl_free .none rfl (yf_shr rfl rfl ?_ (show (4573923408821661840 : Int).fdiv (2 ^ (min (58 : Int).toNat IntKind.u64.bits)) = 15 from by decide)) ?_; (· first | decide | omega); skip)
    refine wl_free .none rfl (yf_indexAddrA (j := 15) (es := 1) rfl rfl Tryd.underlying150 (by kernel_rfl) rfl (by decide) rfl) ?_
    refine wl_free .none rfl (yf_load (v := .int .u8 4) rfl Tryd.underlying5 rfl (fun w h => (hT.ext (HpG.keep h).ext).low)) ?_
    (refine wl_free .none rfl (yf_conv rfl (by kernel_rfl) Tryd.underlying3 (i64_in _ ?_ ?_)) ?_; (· omega); (· omega); skip)
    refine wl_free .none rfl (yf_assign rfl) ?_
    refine wl_nil ?_
    refine wq_then ?_
    refine wc_ret ?_
    refine wq_ret1 rfl rfl (fun w hw => ?_)
    exact ⟨rfl, (HpG.keep hw).ext⟩
theorem tz_any (w_0 : World) (hT : Tb w_0) : Calls Tryd.prog 92 #[.int .u64 16] w_0 fun e w' => e = .returned (.int .i64 4) ∧ Ext w_0 w' := by
  go_enter Tryd.func92, Tryd.ntmps92
  go_wp2_with (go_at_call 98; refine (tz64_any _ hT).mono ?_; rintro e w' ⟨rfl, hx⟩)
  go_ret
  exact ⟨rfl, hx⟩
end Go.Proofs.YtojofinofpgopaaDoor
/- formatBits, FormatUint at base 16, address. -/
namespace Go.Proofs.YtojofinofpgopaaDoor
open Go.RowKit Go.Sort
theorem bltF {a b : Nat} (h : a < b) : Nat.blt a b = true := by simpa [Nat.blt_eq] using h
theorem fb_and {v : Nat} (h : v < 18446744073709551616) : bits .and .u64 (v : Int) 15 = ((v % 16 : Nat) : Int) := by
  rw [show (15 : Int) = ((15 : Nat) : Int) from rfl, u64_and_nat v 15 h (by omega), Nat.and_two_pow_sub_one_eq_mod v 4]
theorem fb_shr (v : Nat) : (v : Int).fdiv (2 ^ (min (4 : Int).toNat IntKind.u64.bits)) = ((v / 16 : Nat) : Int) := by
  rw [Int.fdiv_eq_ediv_of_nonneg _ (Int.le_of_lt (Int.pow_pos (by decide)))]
  show (v : Int) / 16 = _
  omega
set_option maxRecDepth 100000 in
set_option maxHeartbeats 4000000 in
theorem fbits_any (u : Nat) (hu : u < 4294967296) (w_0 : World) (hT : Tb w_0) : Calls Tryd.prog 83 #[.slice none 0 0, .int .u64 u, .int .i64 16, .bool false, .bool false] w_0 fun e w' => e = .returned (.tuple #[.slice none 0 0, .string ⟨(hexN u (hexK u)).toArray⟩]) ∧ Ext w_0 w' := by
  have hK := hexK_le (u := u) (k := 8) (by omega) (by decide)
  refine calls_wc (args := [.slice none 0 0, .int .u64 u, .int .i64 16, .bool false, .bool false]) Tryd.func83 rfl 102 rfl (Nat.le_of_ble_eq_true rfl) ?_
  refine wc_weak (.cons (i := 0) rfl <| .cons (i := 1) rfl <| .cons (i := 2) rfl <| .cons (i := 3) rfl <| .cons (i := 4) rfl <| .nil) ?_
  refine wc_conseq (H' := Hp (fun _ => False) w_0 [] [] (fun _ => True)) (fun u hu => ?_) ?_
  · subst hu; exact Hp.start0
  refine wc_seq ?_
  refine wc_region ?_
  refine wl_free .none rfl (yf_assign rfl) ?_
  refine wl_free .none rfl (yf_assign rfl) ?_
  refine wl_nil ?_
  refine wq_then ?_
  refine wc_seq ?_
  refine wc_seq ?_
  refine wc_region ?_
  refine wl_free .none rfl (yf_move rfl) ?_
  refine wl_free .none rfl (yf_lss rfl rfl) ?_
  refine wl_free .none rfl (yf_move rfl) ?_
  refine wl_split 21 rfl (fun hb => ?_) (fun hb => ?_)
  · replace hb := of_decide_eq_true hb
    exact absurd hb (by decide)
  · replace hb := of_decide_eq_false hb
    refine wl_free (.some rfl rfl) rfl (yf_move rfl) ?_
    refine wl_free (.some rfl rfl) rfl (yf_eql rfl rfl) ?_
    refine wl_free .none rfl (yf_pickF rfl rfl) ?_
    refine wl_free .none rfl (yf_move rfl) ?_
    refine wl_split 25 rfl (fun hb => ?_) (fun hb => ?_)
    · replace hb := eq_of_beq hb
      exact absurd hb (by decide)
    · replace hb := beq_no hb
      refine wl_free (.some rfl rfl) rfl (yf_move rfl) ?_
      refine wl_free (.some rfl rfl) rfl (yf_gtr rfl rfl) ?_
      refine wl_free .none rfl (yf_pickF rfl rfl) ?_
      refine wl_nil ?_
      refine wq_then ?_
      refine wc_cond rfl (fun hc => ?_) (fun hc => ?_)
      · replace hc := of_decide_eq_true hc
        exact absurd hc (by decide)
      · replace hc := of_decide_eq_false hc
        refine wc_skip ?_
        refine wq_then ?_
        refine wc_seq ?_
        refine wc_weak (.cons (i := 0) rfl <| .cons (i := 1) rfl <| .cons (i := 2) rfl <| .cons (i := 3) rfl <| .cons (i := 4) rfl <| .cons (i := 10) rfl <| .cons (i := 11) rfl <| .cons (i := 28) rfl <| .nil) ?_
        refine wc_region ?_
        refine wl_new .none rfl (nf_alloc (z := .agg (List.replicate 65 (Value.int .u8 0)).toArray) (cs := List.replicate 65 (Value.int .u8 0)) (by kernel_rfl) rfl) (fun b12 => ?_)
        refine wl_nil ?_
        refine wq_then ?_
        refine wc_seq ?_
        refine wc_region ?_
        refine wl_free .none rfl (yf_assign rfl) ?_
        refine wl_nil ?_
        refine wq_then ?_
        refine wc_seq ?_
        refine wc_seq ?_
        refine wc_region ?_
        refine wl_free .none rfl (yf_move rfl) ?_
        refine wl_nil ?_
        refine wq_then ?_
        refine wc_cond rfl (fun hc => ?_) (fun hc => ?_)
        · skip
          cases hc
        · skip
          refine wc_skip ?_
          refine wq_then ?_
          refine wc_seq ?_
          refine wc_seq ?_
          refine wc_region ?_
          refine wl_free .none rfl (yf_move rfl) ?_
          refine wl_pure .none rfl (by kernel_rfl) rfl (fun w hw => pow2_any w) ?_
          refine wl_nil ?_
          refine wq_then ?_
          refine wc_cond rfl (fun hc => ?_) (fun hc => ?_)
          · skip
            refine wc_seq ?_
            refine wc_weak (.cons (i := 0) rfl <| .cons (i := 1) rfl <| .cons (i := 2) rfl <| .cons (i := 3) rfl <| .cons (i := 4) rfl <| .cons (i := 10) rfl <| .cons (i := 11) rfl <| .cons (i := 12) rfl <| .cons (i := 13) rfl <| .cons (i := 28) rfl <| .cons (i := 30) rfl <| .cons (i := 34) rfl <| .nil) ?_
            refine wc_region ?_
            refine wl_free .none rfl (yf_move rfl) ?_
            (refine wl_free .none rfl (yf_conv rfl (by kernel_rfl) Tryd.underlying120 (u64_in _ ?_ ?_)) ?_; (· omega); (· omega); skip)
            refine wl_pure .none rfl (by kernel_rfl) rfl (fun w hw => tz_any w (hT.ext (HpG.keep hw).ext)) ?_
            (refine wl_free .none rfl (yf_conv rfl (by kernel_rfl) Tryd.underlying120 (u64_in _ ?_ ?_)) ?_; (· omega); (· omega); skip)
            refine wl_free .none rfl (yf_assign rfl) ?_
            refine wl_nil ?_
            refine wq_then ?_
            refine wc_seq ?_
            refine wc_weak (.cons (i := 0) rfl <| .cons (i := 1) rfl <| .cons (i := 2) rfl <| .cons (i := 3) rfl <| .cons (i := 4) rfl <| .cons (i := 10) rfl <| .cons (i := 11) rfl <| .cons (i := 12) rfl <| .cons (i := 13) rfl <| .cons (i := 14) rfl <| .cons (i := 28) rfl <| .cons (i := 30) rfl <| .cons (i := 34) rfl <| .nil) ?_
            refine wc_region ?_
            refine wl_free .none rfl (yf_move rfl) ?_
            (refine wl_free .none rfl (yf_conv rfl (by kernel_rfl) Tryd.underlying89 (u64_in _ ?_ ?_)) ?_; (· omega); (· omega); skip)
            refine wl_free .none rfl (yf_assign rfl) ?_
            refine wl_nil ?_
            refine wq_then ?_
            refine wc_seq ?_
            refine wc_weak (.cons (i := 0) rfl <| .cons (i := 1) rfl <| .cons (i := 2) rfl <| .cons (i := 3) rfl <| .cons (i := 4) rfl <| .cons (i := 10) rfl <| .cons (i := 11) rfl <| .cons (i := 12) rfl <| .cons (i := 13) rfl <| .cons (i := 14) rfl <| .cons (i := 15) rfl <| .cons (i := 28) rfl <| .cons (i := 30) rfl <| .cons (i := 34) rfl <| .nil) ?_
            refine wc_region ?_
            refine wl_free .none rfl (yf_move rfl) ?_
            (refine wl_free .none rfl (yf_conv rfl (by kernel_rfl) Tryd.underlying120 (u64_in _ ?_ ?_)) ?_; (· omega); (· omega); skip)
            (refine wl_free .none rfl (yf_sub rfl rfl (u64_in _ ?_ ?_)) ?_; (· omega); (· omega); skip)
            refine wl_free .none rfl (yf_assign rfl) ?_
            refine wl_nil ?_
            refine wq_then ?_
            refine wc_seq ?_
            refine wc_block ?_
            refine wc_loop (ι := {k : Nat // hexK u = hexK (u / 16 ^ k) + k}) (fun k => [(0, .slice none 0 0), (1, .int .u64 ((u / 16 ^ k.1 : Nat) : Int)), (3, .bool false), (4, .bool false), (10, .slice none 0 0), (12, ptrV b12), (13, .int .i64 (65 - (k.1 : Int))), (14, .int .u64 4), (15, .int .u64 16), (16, .int .u64 15)]) (fun k => Hp (fun _ => False) w_0 [(b12, bk 141 (fbC u k.1))] [] (fun _ => True)) (fun k => u / 16 ^ k.1) ⟨0, by rw [Nat.pow_zero, Nat.div_one, Nat.add_zero]⟩ ?_ ?_ (fun k => ?_)
            · exact .cons rfl <| .consE rfl (by rw [Nat.pow_zero, Nat.div_one]) <| .cons rfl <| .cons rfl <| .cons rfl <| .cons rfl <| .cons rfl <| .cons rfl <| .cons rfl <| .cons rfl <| .nil
            · intro w h
              have e : fbC u 0 = List.replicate 65 (Value.int .u8 0) := by simp only [fbC, hexN, Nat.sub_zero, List.map_nil, List.append_nil]
              rw [e]; exact h
            obtain ⟨k, hk⟩ := k
            dsimp only at hk ⊢
            obtain ⟨v, hv⟩ : ∃ v, u / 16 ^ k = v := ⟨_, rfl⟩
            have hvu : v ≤ u := by rw [← hv]; exact Nat.div_le_self _ _
            have hkp := hexK_pos v
            rw [hv] at hk ⊢
            refine wc_seq ?_
            refine wc_seq ?_
            refine wc_region ?_
            refine wl_free .none rfl (yf_move rfl) ?_
            refine wl_free .none rfl (yf_move rfl) ?_
            refine wl_free .none rfl (yf_geq rfl rfl) ?_
            refine wl_nil ?_
            refine wq_then ?_
            refine wc_cond rfl (fun hc => ?_) (fun hc => ?_)
            · replace hc := of_decide_eq_true hc
              refine wc_skip ?_
              refine wq_then ?_
              refine wc_block ?_
              refine wc_seq ?_
              refine wc_weak (.cons (i := 0) rfl <| .cons (i := 1) rfl <| .cons (i := 3) rfl <| .cons (i := 4) rfl <| .cons (i := 10) rfl <| .cons (i := 12) rfl <| .cons (i := 13) rfl <| .cons (i := 14) rfl <| .cons (i := 15) rfl <| .cons (i := 16) rfl <| .cons (i := 46) rfl <| .nil) ?_
              refine wc_region ?_
              refine wl_free .none rfl (yf_move rfl) ?_
              (refine wl_free .none rfl (yf_sub rfl rfl (i64_in _ ?_ ?_)) ?_; (· omega); (· omega); skip)
              refine wl_free .none rfl (yf_assign rfl) ?_
              refine wl_nil ?_
              refine wq_then ?_
              refine wc_seq ?_
              refine wc_weak (.cons (i := 0) rfl <| .cons (i := 1) rfl <| .cons (i := 3) rfl <| .cons (i := 4) rfl <| .cons (i := 10) rfl <| .cons (i := 12) rfl <| .cons (i := 13) rfl <| .cons (i := 14) rfl <| .cons (i := 15) rfl <| .cons (i := 16) rfl <| .cons (i := 46) rfl <| .nil) ?_
              refine wc_region ?_
              refine wl_free .none rfl (yf_move rfl) ?_
              refine wl_free .none rfl (yf_move rfl) ?_
              refine wl_free .none rfl (yf_move rfl) ?_
              refine wl_free .none rfl (yf_and rfl rfl (fb_and (by omega))) ?_
              refine wl_free .none rfl (yf_digit rfl rfl Tryd.underlying9 (Nat.mod_lt _ (by decide))) ?_
              refine wl_free .none rfl (yf_indexAddrA (j := 64 - k) (es := 1) rfl rfl Tryd.underlying141 (by kernel_rfl) (by omega) (by omega) rfl) ?_
              refine wl_chain0 .none (cf_store 0 rfl rfl rfl rfl (bltF (by rw [fbC_len (by omega)]; omega)) (by kernel_rfl)) (fun _ => ?_)
              refine wl_nil ?_
              refine wq_then ?_
              refine wc_weak (.cons (i := 0) rfl <| .cons (i := 1) rfl <| .cons (i := 3) rfl <| .cons (i := 4) rfl <| .cons (i := 10) rfl <| .cons (i := 12) rfl <| .cons (i := 13) rfl <| .cons (i := 14) rfl <| .cons (i := 15) rfl <| .cons (i := 16) rfl <| .cons (i := 46) rfl <| .nil) ?_
              refine wc_region ?_
              refine wl_free .none rfl (yf_move rfl) ?_
              refine wl_free .none rfl (yf_move rfl) ?_
              (refine wl_free .none rfl (yf_shr rfl rfl ?_ (fb_shr v)) ?_; (· first | decide | omega); skip)
              refine wl_free .none rfl (yf_assign rfl) ?_
              refine wl_nil ?_
              refine wq_block ?_
              refine wq_round (ι := {k : Nat // hexK u = hexK (u / 16 ^ k) + k}) ⟨k + 1, by rw [Nat.pow_succ, ← Nat.div_div_eq_div_mul, hv, hk, hexK_big (u := v) (by omega)]; omega⟩ (by show u / 16 ^ (k + 1) < _; rw [Nat.pow_succ, ← Nat.div_div_eq_div_mul, hv]; omega) (.cons rfl <| .consE rfl (by rw [Nat.pow_succ, ← Nat.div_div_eq_div_mul, hv]) <| .cons rfl <| .cons rfl <| .cons rfl <| .cons rfl <| .consE rfl (by show Value.int .i64 _ = Value.int .i64 (65 - ((k + 1 : Nat) : Int)); congr 1; omega) <| .cons rfl <| .cons rfl <| .cons rfl <| .nil) (fun w h => by
                have := fbC_step (u := u) (k := k) (o := 0 + (64 - k) * 1) (by omega) (by omega)
                rw [hv] at this
                dsimp only
                rw [← this]
                exact h)
            · replace hc := of_decide_eq_false hc
              refine wc_exit ?_
              refine wq_then_exit ?_
              refine wq_then_exit ?_
              refine wq_here ?_
              refine wq_then ?_
              refine wc_seq ?_
              refine wc_weak (.cons (i := 0) rfl <| .cons (i := 1) rfl <| .cons (i := 3) rfl <| .cons (i := 4) rfl <| .cons (i := 10) rfl <| .cons (i := 12) rfl <| .cons (i := 13) rfl <| .cons (i := 14) rfl <| .cons (i := 15) rfl <| .cons (i := 16) rfl <| .cons (i := 46) rfl <| .nil) ?_
              have hkk : hexK u = k + 1 := by have h1 := hexK_small (u := v) (by omega); omega
              have hvm : v % 16 = v := Nat.mod_eq_of_lt (by omega)
              refine wc_region ?_
              refine wl_free .none rfl (yf_move rfl) ?_
              (refine wl_free .none rfl (yf_sub rfl rfl (i64_in _ ?_ ?_)) ?_; (· omega); (· omega); skip)
              refine wl_free .none rfl (yf_assign rfl) ?_
              refine wl_nil ?_
              refine wq_then ?_
              refine wc_weak (.cons (i := 0) rfl <| .cons (i := 1) rfl <| .cons (i := 3) rfl <| .cons (i := 4) rfl <| .cons (i := 10) rfl <| .cons (i := 12) rfl <| .cons (i := 13) rfl <| .cons (i := 14) rfl <| .cons (i := 15) rfl <| .cons (i := 16) rfl <| .cons (i := 46) rfl <| .nil) ?_
              refine wc_region ?_
              refine wl_free .none rfl (yf_move rfl) ?_
              refine wl_free .none rfl (yf_move rfl) ?_
              refine wl_free .none rfl (yf_digit rfl rfl Tryd.underlying9 (by omega)) ?_
              refine wl_free .none rfl (yf_indexAddrA (j := 64 - k) (es := 1) rfl rfl Tryd.underlying141 (by kernel_rfl) (by omega) (by omega) rfl) ?_
              refine wl_chain0 .none (cf_store 0 rfl rfl rfl rfl (bltF (by rw [fbC_len (by omega)]; omega)) (by kernel_rfl)) (fun _ => ?_)
              refine wl_nil ?_
              refine wq_then ?_
              refine wc_seq ?_
              refine wc_seq ?_
              refine wc_weak (.cons (i := 0) rfl <| .cons (i := 1) rfl <| .cons (i := 3) rfl <| .cons (i := 4) rfl <| .cons (i := 10) rfl <| .cons (i := 12) rfl <| .cons (i := 13) rfl <| .cons (i := 14) rfl <| .cons (i := 15) rfl <| .cons (i := 16) rfl <| .cons (i := 46) rfl <| .nil) ?_
              refine wc_conseq (H' := Hp (fun _ => False) w_0 [(b12, bk 141 (fbC u (k + 1)))] [] (fun _ => True)) (fun w h => by
                have := fbC_step (u := u) (k := k) (o := 0 + (64 - k) * 1) (by omega) (by omega)
                rw [hv, hvm] at this
                rw [← this]
                exact h) ?_
              refine wc_region ?_
              refine wl_free .none rfl (yf_move rfl) ?_
              refine wl_nil ?_
              refine wq_then ?_
              refine wc_cond rfl (fun hc => ?_) (fun hc => ?_)
              · skip
                cases hc
              · skip
                refine wc_skip ?_
                refine wq_then ?_
                refine wc_seq ?_
                refine wc_seq ?_
                refine wc_region ?_
                refine wl_free .none rfl (yf_move rfl) ?_
                refine wl_nil ?_
                refine wq_then ?_
                refine wc_cond rfl (fun hc => ?_) (fun hc => ?_)
                · skip
                  cases hc
                · skip
                  refine wc_skip ?_
                  refine wq_then ?_
                  refine wc_seq ?_
                  refine wc_region ?_
                  refine wl_free .none rfl (yf_move rfl) ?_
                  refine wl_free .none rfl (yf_sliceArrLo (i := 64 - k) (size := 1) (c := 64 - k) (l := k + 1) rfl rfl Tryd.underlying141 (by kernel_rfl) (by omega) (by omega) (by omega) (by omega)) ?_
                  refine wl_free .none rfl (yf_convL 0 (hexN u (k + 1)) rfl rfl Tryd.underlying56 Tryd.underlying5 Tryd.underlying9 (hexN_len u (k + 1)) (fun j hj => by rw [fbC, List.getElem?_append_right (by rw [List.length_replicate]; omega), List.length_replicate, show 64 - k + j - (65 - (k + 1)) = j by omega, List.getElem?_map, List.getElem?_eq_getElem hj]; try rfl)) ?_
                  refine wl_free .none rfl (yf_assign rfl) ?_
                  refine wl_nil ?_
                  refine wq_then ?_
                  refine wc_ret ?_
                  refine wq_ret2 rfl rfl rfl (fun w hw => ?_)
                  exact ⟨by rw [hkk], (HpG.keep hw).ext⟩
          · skip
            cases hc
set_option maxRecDepth 100000 in
theorem fu16_any (u : Nat) (hu : u < 4294967296) (w_0 : World) (hT : Tb w_0) : Calls Tryd.prog 61 #[.int .u64 u, .int .i64 16] w_0 fun e w' => e = .returned (.string ⟨(hexN u (hexK u)).toArray⟩) ∧ Ext w_0 w' := by
  refine calls_wc (args := [.int .u64 u, .int .i64 16]) Tryd.func61 rfl 32 rfl (Nat.le_of_ble_eq_true rfl) ?_
  refine wc_weak (.cons (i := 0) rfl <| .cons (i := 1) rfl <| .nil) ?_
  refine wc_conseq (H' := Hp (fun _ => False) w_0 [] [] (fun _ => True)) (fun u hu => ?_) ?_
  · subst hu; exact Hp.start0
  refine wc_seq ?_
  refine wc_region ?_
  refine wl_free .none rfl (yf_assign rfl) ?_
  refine wl_nil ?_
  refine wq_then ?_
  refine wc_seq ?_
  refine wc_seq ?_
  refine wc_region ?_
  refine wl_free .none rfl (yf_move rfl) ?_
  refine wl_free .none rfl (yf_eql rfl rfl) ?_
  refine wl_nil ?_
  refine wq_then ?_
  refine wc_cond rfl (fun hc => ?_) (fun hc => ?_)
  · replace hc := eq_of_beq hc
    exact absurd hc (by decide)
  · replace hc := beq_no hc
    refine wc_skip ?_
    refine wq_then ?_
    refine wc_seq ?_
    refine wc_weak (.cons (i := 0) rfl <| .cons (i := 1) rfl <| .cons (i := 4) rfl <| .cons (i := 10) rfl <| .nil) ?_
    refine wc_region ?_
    refine wl_free .none rfl (yf_move rfl) ?_
    refine wl_free .none rfl (yf_move rfl) ?_
    refine wl_pure .none rfl (by kernel_rfl) rfl (fun w hw => fbits_any u hu w (hT.ext (HpG.keep hw).ext)) ?_
    refine wl_free .none rfl (yf_move rfl) ?_
    refine wl_free .none rfl (yf_extract rfl rfl) ?_
    refine wl_free .none rfl (yf_extract rfl rfl) ?_
    refine wl_free .none rfl (yf_assign rfl) ?_
    refine wl_free .none rfl (yf_assign rfl) ?_
    refine wl_nil ?_
    refine wq_then ?_
    refine wc_seq ?_
    refine wc_weak (.cons (i := 0) rfl <| .cons (i := 1) rfl <| .cons (i := 4) rfl <| .cons (i := 8) rfl <| .cons (i := 10) rfl <| .nil) ?_
    refine wc_region ?_
    refine wl_free .none rfl (yf_move rfl) ?_
    refine wl_free .none rfl (yf_assign rfl) ?_
    refine wl_nil ?_
    refine wq_then ?_
    refine wc_ret ?_
    refine wq_ret1 rfl rfl (fun w hw => ?_)
    exact ⟨rfl, (HpG.keep hw).ext⟩
theorem sfu_any (u b : Nat) (l : List UInt8) (w_0 : World) (h : ∀ w, Ext w_0 w → Calls Tryd.prog 61 #[.int .u64 u, .int .i64 b] w fun e w' => e = .returned (.string ⟨l.toArray⟩) ∧ Ext w w') : Calls Tryd.prog 40 #[.int .u64 u, .int .i64 b] w_0 fun e w' => e = .returned (.string ⟨l.toArray⟩) ∧ Ext w_0 w' := by
  refine calls_wc (args := [.int .u64 u, .int .i64 b]) Tryd.func40 rfl 8 rfl (Nat.le_of_ble_eq_true rfl) ?_
  refine wc_weak (.cons (i := 0) rfl <| .cons (i := 1) rfl <| .nil) ?_
  refine wc_conseq (H' := Hp (fun _ => False) w_0 [] [] (fun _ => True)) (fun u hu => ?_) ?_
  · subst hu; exact Hp.start0
  refine wc_seq ?_
  refine wc_region ?_
  refine wl_free .none rfl (yf_assign rfl) ?_
  refine wl_nil ?_
  refine wq_then ?_
  refine wc_seq ?_
  refine wc_region ?_
  refine wl_free .none rfl (yf_move rfl) ?_
  refine wl_free .none rfl (yf_move rfl) ?_
  refine wl_pure .none rfl (by kernel_rfl) rfl (fun w hw => h w (HpG.keep hw).ext) ?_
  refine wl_free .none rfl (yf_assign rfl) ?_
  refine wl_nil ?_
  refine wq_then ?_
  refine wc_ret ?_
  refine wq_ret1 rfl rfl (fun w hw => ?_)
  exact ⟨rfl, (HpG.keep hw).ext⟩
theorem rep_zero (k : Nat) : Lib.repeatL [48] k = List.replicate k 48 := by
  induction k with
  | zero => rfl
  | succ k ih => rw [Lib.repeatL, ih, List.replicate_succ]; rfl
set_option maxRecDepth 100000 in
theorem address_any (u : Nat) (hu : u < 4294967296) (w_0 : World) (hT : Tb w_0) : Calls Tryd.prog 43 #[.int .u32 u] w_0 fun e w' => e = .returned (.string ⟨(hexN u 8).toArray⟩) ∧ Ext w_0 w' := by
  have hK := hexK_le (u := u) (k := 8) (by omega) (by decide)
  have hl := hexN_len u (hexK u)
  have hrl : (List.replicate (8 - hexK u) (48 : UInt8)).length = 8 - hexK u := List.length_replicate
  have hrep := fun w => Tryd.strings_Repeat ⟨#[48]⟩ (8 - hexK u) w (by omega) (by show 1 * _ ≤ _; omega)
  rw [show (⟨#[48]⟩ : ByteArray).data.toList = [48] from rfl, rep_zero] at hrep
  refine calls_wc (args := [.int .u32 u]) Tryd.func43 rfl 13 rfl (Nat.le_of_ble_eq_true rfl) ?_
  refine wc_weak (.cons (i := 0) rfl <| .nil) ?_
  refine wc_conseq (H' := Hp (fun _ => False) w_0 [] [] (fun _ => True)) (fun u hu => ?_) ?_
  · subst hu; exact Hp.start0
  refine wc_seq ?_
  refine wc_region ?_
  refine wl_free .none rfl (yf_assign rfl) ?_
  refine wl_nil ?_
  refine wq_then ?_
  refine wc_seq ?_
  refine wc_region ?_
  refine wl_free .none rfl (yf_move rfl) ?_
  (refine wl_free .none rfl (yf_conv rfl (by kernel_rfl) Tryd.underlying89 (u64_in _ ?_ ?_)) ?_; (· omega); (· omega); skip)
  refine wl_pure .none rfl (by kernel_rfl) rfl (fun w hw => sfu_any u 16 (hexN u (hexK u)) w (fun w' hx => fu16_any u hu w' (hT.ext ((HpG.keep hw).ext.trans hx)))) ?_
  refine wl_free .none rfl (yf_assign rfl) ?_
  refine wl_nil ?_
  refine wq_then ?_
  refine wc_seq ?_
  refine wc_weak (.cons (i := 0) rfl <| .cons (i := 2) rfl <| .cons (i := 3) rfl <| .nil) ?_
  refine wc_region ?_
  refine wl_free .none rfl (yf_move rfl) ?_
  refine wl_free .none rfl (yf_lenStr rfl Tryd.underlying9) ?_
  refine wl_free .none rfl (yf_sub rfl rfl (show IntKind.i64.wrap (8 - (((⟨(hexN u (hexK u)).toArray⟩ : ByteArray).size : Nat) : Int)) = ((8 - hexK u : Nat) : Int) from by
    rw [show (⟨(hexN u (hexK u)).toArray⟩ : ByteArray).size = hexK u from hl, i64_in _ (by omega) (by omega)]; try omega)) ?_
  refine wl_pure .none rfl (by kernel_rfl) rfl (fun w hw => hrep w) ?_
  refine wl_free .none rfl (yf_move rfl) ?_
  (refine wl_free .none rfl (yf_str_add rfl rfl ?_) ?_; (· (first | (simp only [List.length_append, List.length_cons, List.length_nil]; omega) | (simp <;> omega))); skip)
  refine wl_free .none rfl (yf_assign rfl) ?_
  refine wl_nil ?_
  refine wq_then ?_
  refine wc_ret ?_
  refine wq_ret1 rfl rfl (fun w hw => ?_)
  exact ⟨by rw [← hexN_pad (hexK_lt u), show hexK u + (8 - hexK u) = 8 by omega], (HpG.keep hw).ext⟩
end Go.Proofs.YtojofinofpgopaaDoor
