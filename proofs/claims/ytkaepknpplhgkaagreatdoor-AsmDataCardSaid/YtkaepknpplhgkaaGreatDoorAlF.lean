/- The law of data. -/
import Derived.Test.YtkaepknpplhgkaaGreatDoorAlD
import Derived.Test.YtkaepknpplhgkaaGreatDoorAlE
import Derived.Test.YtkaepknpplhgkaaGreatDoorMaZ
namespace Go.Proofs.YtkaepknpplhgkaaGreatDoor
open Go.RowKit
theorem dataB_snoc (v : List Nat) (x : Nat) : dataB (v ++ [x]) = dataB v ++ (byteB x ++ (10 :: (wordB x ++ [10]))) := by
  induction v with
  | nil => show byteB x ++ (10 :: (wordB x ++ (10 :: []))) = [] ++ _; rw [List.nil_append]
  | cons y v ih => show byteB y ++ (10 :: (wordB y ++ (10 :: dataB (v ++ [x])))) = _; rw [ih, dataB]; simp
theorem dataC_snoc (v : List Nat) (x : Nat) : dataC (v ++ [x]) = dataC v ++ ([byL (x % 256), 255] ++ (putL x 4 ++ putL x 4)) := by
  induction v with
  | nil => show [byL (x % 256), 255] ++ ((putL x 4 ++ putL x 4) ++ []) = [] ++ _; rw [List.append_nil, List.nil_append]
  | cons y v ih => show [byL (y % 256), 255] ++ ((putL y 4 ++ putL y 4) ++ dataC (v ++ [x])) = _; rw [ih, dataC]; simp
theorem dataC_ln (v : List Nat) : (dataC v).length = 10 * v.length := by
  induction v with
  | nil => rfl
  | cons y v ih =>
    show ([byL (y % 256), 255] ++ ((putL y 4 ++ putL y 4) ++ dataC v)).length = _
    rw [List.length_append, List.length_append, List.length_append, putLn, ih]
    show 2 + (4 + 4 + 10 * v.length) = 10 * (v.length + 1)
    omega
theorem data_dec1 : Lib.decDigits 1 = [49] := by rw [Lib.decDigits, dif_pos (by decide)]; rfl
/-- What a round adds. -/
theorem data_round (t : Bs) (x : Nat) : (((((((t ++ [46, 98, 121, 116, 101, 32]) ++ Lib.decDigits (x % 256)) ++ [44, 32, 45, 49, 10, 46, 119, 111, 114, 100, 32]) ++ Lib.decDigits x) ++ [44, 32]) ++ sgnP x false) ++ [10]) = t ++ (byteB x ++ (10 :: (wordB x ++ [10]))) := by
  rw [sgnP_no]
  unfold byteB wordB
  rw [data_dec1]
  simp [kByte, kWord]
theorem data_head (z : Nat) : (([46, 122, 101, 114, 111, 32] ++ Lib.decDigits z) ++ [10]) = zeroB z ++ [10] := by
  unfold zeroB; simp [kZero]
theorem two_at (x : Nat) : ∀ j (hj : j < ([byL (x % 256), 255] : Bs).length), ([.int .u8 (IntKind.u8.wrap ((x % 256 : Nat) : Int)), .int .u8 255] : List Value)[0 + j]? = some (.int .u8 (([byL (x % 256), 255] : Bs)[j].toNat : Int)) := fun j hj => by
  have h2 : j < 2 := hj
  have : j = 0 ∨ j = 1 := by omega
  rcases this with rfl | rfl
  · show some (Value.int .u8 (IntKind.u8.wrap ((x % 256 : Nat) : Int))) = some (.int .u8 ((byL (x % 256)).toNat : Int))
    rw [byL_nat, u8w]
    congr 2
    omega
  · rfl
structure DtI (z : Nat) (l : List Nat) (p : Nat) : Prop where
  le : p ≤ l.length
  le20 : p ≤ 20
set_option maxHeartbeats 4000000 in
set_option maxRecDepth 100000 in
theorem data_law (k z : Nat) (hz : z < 65536) (l : List Nat) (A : Option Addr) (cap : Nat) (hl0 : l.length ≤ 9223372036854775807) (hlx : ∀ x ∈ l, x < 4294967296) {F : Nat → Prop} (w_0 : World) (hw0 : WOk w_0) (hL : RdF F A (u32C l) w_0) : Calls Tryz.prog 7 #[.int .u8 k, .slice A l.length cap, .int .u16 z] w_0 fun e w' => e = .returned (.bool true) ∧ Ext w_0 w' := by
  have hzd : (Lib.decDigits z).length ≤ 10 := dec_len (k := 10) (by omega) (by decide)
  have hzl : (zeroB z).length ≤ 20 := by
    have : (zeroB z).length = 6 + (Lib.decDigits z).length := by unfold zeroB; simp [kZero]; omega
    omega
  have htx : ∀ x ∈ l, ∀ i, (dataB (l.take i)).length ≤ 60 * (l.take i).length := fun _ _ i => data_len _ fun y hy => hlx y (List.mem_of_mem_take hy)
  obtain ⟨m, hm⟩ : ∃ m, m = l.take 20 := ⟨_, rfl⟩
  have hm20 : m.length ≤ 20 := by rw [hm, List.length_take]; omega
  have hmx : ∀ x ∈ m, x < 4294967296 := fun x hx => hlx x (List.mem_of_mem_take (hm ▸ hx))
  have hpl := data_plain (kindL_12 k) hz hmx hm20 5
  refine calls_wc (args := [Value.int .u8 k, Value.slice A l.length cap, Value.int .u16 z]) Tryz.func7 rfl 117 rfl (Nat.le_of_ble_eq_true rfl) ?_
  refine wc_weak (.cons (i := 0) rfl <| .cons (i := 1) rfl <| .cons (i := 2) rfl <| .nil) ?_
  refine wc_conseq (H' := Hp (fun _ => False) w_0 [] [] (RdF (fun k => F k ∧ k < w_0.heap.size) A (u32C l))) (fun u hu => ?_) ?_
  · subst hu; exact Hp.start ⟨fun k => F k ∧ k < u.heap.size, fun k hk => ⟨hk.2, id⟩, fun u' hu' => RdF.lies.foot (F := fun k => F k ∧ k < u.heap.size) hu' (RdF.lies.lt hL)⟩
  refine wc_seq ?_
  refine wc_region ?_
  refine wl_free .none rfl (yf_assign rfl) ?_
  refine wl_nil ?_
  refine wq_then ?_
  refine wc_seq ?_
  refine wc_region ?_
  refine wl_pure .none rfl  (v := .bool true) (by kernel_rfl) rfl (fun w hw => sanity_any w (hw0.ext hw.ext0)) ?_
  refine wl_free .none rfl (yf_assign rfl) ?_
  refine wl_nil ?_
  refine wq_then ?_
  refine wc_seq ?_
  refine wc_weak (.cons (i := 0) rfl <| .cons (i := 1) rfl <| .cons (i := 2) rfl <| .cons (i := 6) rfl <| .cons (i := 7) rfl <| .nil) ?_
  refine wc_region ?_
  refine wl_free .none rfl (yf_move rfl) ?_
  (refine wl_free .none rfl (yf_conv rfl (by kernel_rfl) Tryz.underlying22 (u32_in _ ?_ ?_)) ?_; (· omega); (· omega); skip)
  refine wl_pure .none rfl  (v := .string ⟨(Lib.decDigits z).toArray⟩) (by kernel_rfl) rfl (fun w hw => digits_any z (by omega) w) ?_
  (refine wl_free .none rfl (yf_str_add rfl rfl ?_) ?_; (· (rw [show ([46, 122, 101, 114, 111, 32] : Bs).length = 6 from rfl]; omega)); skip)
  (refine wl_free .none rfl (yf_str_add rfl rfl ?_) ?_; (· (rw [List.length_append, show ([46, 122, 101, 114, 111, 32] : Bs).length = 6 from rfl, show ([10] : Bs).length = 1 from rfl]; omega)); skip)
  refine wl_free .none rfl (yf_assign rfl) ?_
  refine wl_nil ?_
  refine wq_then ?_
  refine wc_seq ?_
  refine wc_weak (.cons (i := 0) rfl <| .cons (i := 1) rfl <| .cons (i := 2) rfl <| .cons (i := 6) rfl <| .cons (i := 7) rfl <| .cons (i := 8) rfl <| .nil) ?_
  refine wc_region ?_
  refine wl_free .none rfl (yf_move rfl) ?_
  (refine wl_free .none rfl (yf_conv rfl (by kernel_rfl) Tryz.underlying3 (i64_in _ ?_ ?_)) ?_; (· omega); (· omega); skip)
  refine wl_new .none rfl  (nf_makeSlice (l := z) (z := .int .u8 0) (size := 1) (bytes := 1) (cs := u8L (List.replicate z 0)) rfl Tryz.underlying53 (by kernel_rfl) (made_u8 z) (by omega) (by omega) (by omega)) (fun b9 => ?_)
  refine wl_free .none rfl (yf_convB (List.replicate z 0) rfl (fun w hw => HpG.blk hw (k := 0) rfl) Tryz.underlying53 Tryz.underlying5 Tryz.underlying9 (List.length_replicate ..) (fun j hj => by unfold u8L; rw [List.getElem?_map, Nat.zero_add, List.getElem?_eq_getElem hj]; rfl)) ?_
  refine wl_free .none rfl (yf_assign rfl) ?_
  refine wl_nil ?_
  refine wq_then ?_
  refine wc_seq ?_
  refine wc_seq ?_
  refine wc_weak (.cons (i := 0) rfl <| .cons (i := 1) rfl <| .cons (i := 2) rfl <| .cons (i := 6) rfl <| .cons (i := 7) rfl <| .cons (i := 8) rfl <| .cons (i := 9) rfl <| .nil) ?_
  refine wc_region ?_
  refine wl_free .none rfl (yf_assign rfl) ?_
  refine wl_nil ?_
  refine wq_then ?_
  refine wc_block ?_
  refine wc_loop (ι := {p : Nat // DtI z l p}) (fun p => [(0, .int .u8 k), (1, .slice A l.length cap), (6, .bool false), (7, .bool true), (8, .string ⟨((zeroB z ++ [10]) ++ dataB (l.take p.1)).toArray⟩), (9, .string ⟨(List.replicate z 0 ++ dataC (l.take p.1)).toArray⟩), (10, .int .i64 (p.1 : Nat))]) (fun _ => Hp (fun _ => False) w_0 [] [] (RdF (fun k => F k ∧ k < w_0.heap.size) A (u32C l))) (fun p => l.length - p.1) ⟨0, ⟨Nat.zero_le _, Nat.zero_le _⟩⟩ (.cons rfl <| .cons rfl <| .cons rfl <| .cons rfl <| .consE rfl (by rw [← data_head]; show _ = Value.string ⟨(([46, 122, 101, 114, 111, 32] ++ Lib.decDigits z) ++ [10] ++ []).toArray⟩; rw [List.append_nil]) <| .consE rfl (by show _ = Value.string ⟨(List.replicate z (0 : UInt8) ++ []).toArray⟩; rw [List.append_nil]) <| .cons rfl <| .nil) (fun w h => Hp.drop h (List.nil_sublist _) .slnil) (fun p => ?_)
  obtain ⟨i, hi, hi20⟩ := p
  dsimp only at hi hi20 ⊢
  refine wc_seq ?_
  refine wc_cut (ι := {z : Bool // z = true ↔ (i < l.length ∧ i < 20)}) (fun y => [(0, .int .u8 k), (1, .slice A l.length cap), (6, .bool false), (7, .bool true), (8, .string ⟨((zeroB z ++ [10]) ++ dataB (l.take i)).toArray⟩), (9, .string ⟨(List.replicate z 0 ++ dataC (l.take i)).toArray⟩), (10, .int .i64 (i : Nat)), (33, .bool y.1)]) (fun _ => Hp (fun _ => False) w_0 [] [] (RdF (fun k => F k ∧ k < w_0.heap.size) A (u32C l))) ?_ (fun y => ?_)
  · skip
    refine wc_region ?_
    refine wl_free .none rfl (yf_move rfl) ?_
    refine wl_free .none rfl (yf_move rfl) ?_
    refine wl_free .none rfl (yf_lenS rfl Tryz.underlying51) ?_
    refine wl_free .none rfl (yf_lss rfl rfl) ?_
    refine wl_free .none rfl (yf_move rfl) ?_
    refine wl_split 30 rfl (fun g5 => ?_) (fun g5 => ?_)
    · replace g5 := of_decide_eq_true g5
      refine wl_free (.some rfl rfl) rfl (yf_move rfl) ?_
      refine wl_free (.some rfl rfl) rfl (yf_lss rfl rfl) ?_
      refine wl_free .none rfl (yf_pickT rfl rfl) ?_
      refine wl_nil ?_
      exact wq_meet (ι := {z : Bool // z = true ↔ (i < l.length ∧ i < 20)}) ⟨decide ((i : Int) < 20), by rw [decide_eq_true_iff]; omega⟩ (.cons rfl <| .cons rfl <| .cons rfl <| .cons rfl <| .cons rfl <| .cons rfl <| .cons rfl <| .cons rfl <| .nil) (fun w h => h)
    · replace g5 := of_decide_eq_false g5
      refine wl_pass (.some rfl rfl rfl) rfl ?_
      refine wl_pass (.some rfl rfl rfl) rfl ?_
      refine wl_free .none rfl (yf_pickF rfl rfl) ?_
      refine wl_nil ?_
      exact wq_meet (ι := {z : Bool // z = true ↔ (i < l.length ∧ i < 20)}) ⟨false, by simp; omega⟩ (.cons rfl <| .cons rfl <| .cons rfl <| .cons rfl <| .cons rfl <| .cons rfl <| .cons rfl <| .cons rfl <| .nil) (fun w h => h)
  · obtain ⟨y, hy⟩ := y
    dsimp only
    refine wc_cond rfl (fun h33 => ?_) (fun h33 => ?_)
    · skip
      obtain ⟨g5, g6⟩ := hy.1 h33
      obtain ⟨x, hx⟩ : ∃ x, l[i]? = some x := ⟨l[i]'(by omega), List.getElem?_eq_getElem _⟩
      have hxm := List.mem_of_getElem? hx
      have hx32 := hlx x hxm
      have hti := htx x hxm i
      rw [List.length_take] at hti
      have hTi : ((zeroB z ++ [10]) ++ dataB (l.take i)).length ≤ 2000 := by rw [List.length_append, List.length_append, show ([10] : Bs).length = 1 from rfl]; omega
      have hWi : (List.replicate z (0 : UInt8) ++ dataC (l.take i)).length ≤ 66000 := by rw [List.length_append, List.length_replicate, dataC_ln, List.length_take]; omega
      have hd1 : (Lib.decDigits (x % 256)).length ≤ 10 := dec_len (k := 10) (by omega) (by decide)
      have hd2 : (Lib.decDigits x).length ≤ 10 := dec_len (k := 10) (by omega) (by decide)
      have hd3 := sgnB_len hx32
      have htk : l.take (i + 1) = l.take i ++ [x] := by rw [List.take_add_one, hx]; rfl
      refine wc_fact (φ := ∃ b off, A = some ⟨b, off, none⟩) (fun w hw => by obtain ⟨b, off, e, _⟩ := (HpG.x hw) (by rw [u32C_ln]; omega); exact ⟨b, off, e⟩) (fun ⟨bA, oA', hAe⟩ => ?_)
      refine wc_skip ?_
      refine wq_then ?_
      refine wc_seq ?_
      refine wc_block ?_
      refine wc_seq ?_
      refine wc_region ?_
      refine wl_free .none rfl (yf_move rfl) ?_
      refine wl_free .none rfl (yf_move rfl) ?_
      refine wl_free .none rfl (yf_indexAddrS (j := i) (es := 1) (g := bA) (o := oA') (len := l.length) (cap := cap) (congrArg (fun y => some (Value.slice y l.length cap)) hAe) rfl Tryz.underlying51 (by kernel_rfl) rfl (by omega) rfl) ?_
      refine wl_free .none rfl (yf_load (v := .int .u32 (x : Nat)) rfl Tryz.underlying22 rfl (fun w hw => VlX.cell ⟨HpG.x hw, hlx⟩ hAe hx rfl)) ?_
      refine wl_free .none rfl (yf_assign rfl) ?_
      refine wl_nil ?_
      refine wq_then ?_
      refine wc_seq ?_
      refine wc_weak (.cons (i := 0) rfl <| .cons (i := 1) rfl <| .cons (i := 6) rfl <| .cons (i := 7) rfl <| .cons (i := 8) rfl <| .cons (i := 9) rfl <| .cons (i := 10) rfl <| .cons (i := 11) rfl <| .cons (i := 33) rfl <| .nil) ?_
      refine wc_region ?_
      refine wl_free .none rfl (yf_move rfl) ?_
      (refine wl_free .none rfl (yf_str_add rfl rfl ?_) ?_; (· (rw [show ([46, 98, 121, 116, 101, 32] : Bs).length = 6 from rfl]; omega)); skip)
      refine wl_free .none rfl (yf_move rfl) ?_
      (refine wl_free .none rfl (yf_rem rfl rfl ?_ (tmodE x 256)) ?_; (· first | decide | omega); skip)
      refine wl_pure .none rfl  (v := .string ⟨(Lib.decDigits (x % 256)).toArray⟩) (by kernel_rfl) rfl (fun w hw => digits_any (x % 256) (by omega) w) ?_
      (refine wl_free .none rfl (yf_str_add rfl rfl ?_) ?_; (· (rw [List.length_append, show ([46, 98, 121, 116, 101, 32] : Bs).length = 6 from rfl]; omega)); skip)
      (refine wl_free .none rfl (yf_str_add rfl rfl ?_) ?_; (· (rw [List.length_append, List.length_append, show ([46, 98, 121, 116, 101, 32] : Bs).length = 6 from rfl, show ([44, 32, 45, 49, 10, 46, 119, 111, 114, 100, 32] : Bs).length = 11 from rfl]; omega)); skip)
      refine wl_free .none rfl (yf_move rfl) ?_
      refine wl_pure .none rfl  (v := .string ⟨(Lib.decDigits x).toArray⟩) (by kernel_rfl) rfl (fun w hw => digits_any x hx32 w) ?_
      (refine wl_free .none rfl (yf_str_add rfl rfl ?_) ?_; (· (rw [List.length_append, List.length_append, List.length_append, show ([46, 98, 121, 116, 101, 32] : Bs).length = 6 from rfl, show ([44, 32, 45, 49, 10, 46, 119, 111, 114, 100, 32] : Bs).length = 11 from rfl]; omega)); skip)
      (refine wl_free .none rfl (yf_str_add rfl rfl ?_) ?_; (· (rw [List.length_append, List.length_append, List.length_append, List.length_append, show ([46, 98, 121, 116, 101, 32] : Bs).length = 6 from rfl, show ([44, 32, 45, 49, 10, 46, 119, 111, 114, 100, 32] : Bs).length = 11 from rfl, show ([44, 32] : Bs).length = 2 from rfl]; omega)); skip)
      refine wl_free .none rfl (yf_move rfl) ?_
      refine wl_pure .none rfl  (v := .string ⟨(sgnP x false).toArray⟩) (by kernel_rfl) rfl (fun w hw => signed_any x hx32 false w) ?_
      (refine wl_free .none rfl (yf_str_add rfl rfl ?_) ?_; (· (rw [List.length_append, List.length_append, List.length_append, List.length_append, List.length_append, sgnP_no, show ([46, 98, 121, 116, 101, 32] : Bs).length = 6 from rfl, show ([44, 32, 45, 49, 10, 46, 119, 111, 114, 100, 32] : Bs).length = 11 from rfl, show ([44, 32] : Bs).length = 2 from rfl]; omega)); skip)
      (refine wl_free .none rfl (yf_str_add rfl rfl ?_) ?_; (· (rw [List.length_append, List.length_append, List.length_append, List.length_append, List.length_append, List.length_append, sgnP_no, show ([46, 98, 121, 116, 101, 32] : Bs).length = 6 from rfl, show ([44, 32, 45, 49, 10, 46, 119, 111, 114, 100, 32] : Bs).length = 11 from rfl, show ([44, 32] : Bs).length = 2 from rfl, show ([10] : Bs).length = 1 from rfl]; omega)); skip)
      refine wl_free .none rfl (yf_assign rfl) ?_
      refine wl_nil ?_
      refine wq_then ?_
      refine wc_seq ?_
      refine wc_weak (.cons (i := 0) rfl <| .cons (i := 1) rfl <| .cons (i := 6) rfl <| .cons (i := 7) rfl <| .cons (i := 8) rfl <| .cons (i := 9) rfl <| .cons (i := 10) rfl <| .cons (i := 11) rfl <| .cons (i := 33) rfl <| .nil) ?_
      refine wc_region ?_
      refine wl_free .none rfl (yf_move rfl) ?_
      refine wl_free .none rfl (yf_conv rfl (by kernel_rfl) Tryz.underlying5 rfl) ?_
      refine wl_free .none rfl (yf_move rfl) ?_
      (refine wl_free .none rfl (yf_shr rfl rfl ?_ rfl) ?_; (· first | decide | omega); skip)
      refine wl_free .none rfl (yf_conv rfl (by kernel_rfl) Tryz.underlying5 rfl) ?_
      refine wl_free .none rfl (yf_move rfl) ?_
      (refine wl_free .none rfl (yf_shr rfl rfl ?_ rfl) ?_; (· first | decide | omega); skip)
      refine wl_free .none rfl (yf_conv rfl (by kernel_rfl) Tryz.underlying5 rfl) ?_
      refine wl_free .none rfl (yf_move rfl) ?_
      (refine wl_free .none rfl (yf_shr rfl rfl ?_ rfl) ?_; (· first | decide | omega); skip)
      refine wl_free .none rfl (yf_conv rfl (by kernel_rfl) Tryz.underlying5 rfl) ?_
      refine wl_new .none rfl (nf_bsn (z := .int .u8 0) rfl rfl rfl rfl Tryz.underlying53 (by kernel_rfl) (by kernel_rfl) rfl rfl) (fun b66 => ?_)
      refine wl_free .none rfl (yf_convL 0 (putL x 4) rfl rfl Tryz.underlying53 Tryz.underlying5 Tryz.underlying9 (putLn x 4) (putL_cells hx32 4 (by decide))) ?_
      refine wl_free .none rfl (yf_assign rfl) ?_
      refine wl_nil ?_
      refine wq_then ?_
      refine wc_weak (.cons (i := 0) rfl <| .cons (i := 1) rfl <| .cons (i := 6) rfl <| .cons (i := 7) rfl <| .cons (i := 8) rfl <| .cons (i := 9) rfl <| .cons (i := 10) rfl <| .cons (i := 11) rfl <| .cons (i := 12) rfl <| .cons (i := 33) rfl <| .nil) ?_
      refine wc_region ?_
      refine wl_free .none rfl (yf_move rfl) ?_
      refine wl_free .none rfl (yf_move rfl) ?_
      (refine wl_free .none rfl (yf_rem rfl rfl ?_ (tmodE x 256)) ?_; (· first | decide | omega); skip)
      refine wl_free .none rfl (yf_conv rfl (by kernel_rfl) Tryz.underlying5 rfl) ?_
      refine wl_new .none rfl (nf_bs2 (z := .int .u8 0) rfl rfl rfl rfl Tryz.underlying53 (by kernel_rfl) (by kernel_rfl) rfl rfl rfl) (fun b72 => ?_)
      refine wl_free .none rfl (yf_convL 0 [byL (x % 256), 255] rfl rfl Tryz.underlying53 Tryz.underlying5 Tryz.underlying9 rfl (two_at x)) ?_
      (refine wl_free .none rfl (yf_str_add rfl rfl ?_) ?_; (· (show _ + 2 ≤ _; omega)); skip)
      refine wl_free .none rfl (yf_move rfl) ?_
      (refine wl_free .none rfl (yf_str_add rfl rfl ?_) ?_; (· (rw [List.length_append, putLn]; show _ + 2 + 4 ≤ _; omega)); skip)
      refine wl_free .none rfl (yf_move rfl) ?_
      (refine wl_free .none rfl (yf_str_add rfl rfl ?_) ?_; (· (rw [List.length_append, List.length_append, putLn]; show _ + 2 + 4 + 4 ≤ _; omega)); skip)
      refine wl_free .none rfl (yf_assign rfl) ?_
      refine wl_nil ?_
      refine wq_block ?_
      refine wq_then ?_
      refine wc_weak (.cons (i := 0) rfl <| .cons (i := 1) rfl <| .cons (i := 6) rfl <| .cons (i := 7) rfl <| .cons (i := 8) rfl <| .cons (i := 9) rfl <| .cons (i := 10) rfl <| .cons (i := 11) rfl <| .cons (i := 12) rfl <| .cons (i := 33) rfl <| .nil) ?_
      refine wc_region ?_
      refine wl_free .none rfl (yf_move rfl) ?_
      refine wl_free .none rfl (yf_add rfl rfl (show IntKind.i64.wrap ((i : Int) + 1) = ((i + 1 : Nat) : Int) from i64_in ((i + 1 : Nat) : Int) (by omega) (by omega))) ?_
      refine wl_free .none rfl (yf_assign rfl) ?_
      refine wl_nil ?_
      exact wq_round (ι := {p : Nat // DtI z l p}) ⟨i + 1, ⟨by omega, by omega⟩⟩ (by show l.length - (i + 1) < l.length - i; omega) (.cons rfl <| .cons rfl <| .cons rfl <| .cons rfl <| .consE rfl (by rw [data_round, htk, dataB_snoc, List.append_assoc, List.append_assoc]) <| .consE rfl (by rw [htk, dataC_snoc]; simp) <| .cons rfl <| .nil) (fun w h => Hp.drop h (List.nil_sublist _) .slnil)
    · skip
      have hti : l.take i = m := by
        have hn : ¬ (i < l.length ∧ i < 20) := fun h => by rw [hy.2 h] at h33; cases h33
        rw [hm]
        by_cases hc : i < l.length
        · have : i = 20 := by omega
          rw [this]
        · rw [List.take_of_length_le (by omega), List.take_of_length_le (by omega)]
      rw [hti]
      have hTi : ((zeroB z ++ [10]) ++ dataB m).length ≤ 2000 := by
        have := data_len m hmx
        rw [List.length_append, List.length_append, show ([10] : Bs).length = 1 from rfl]; omega
      have hWl : (List.replicate z (0 : UInt8) ++ dataC m).length = z + 10 * m.length := by rw [List.length_append, List.length_replicate, dataC_ln]
      have htxt : (zeroB z ++ [10]) ++ dataB m = zeroB z ++ 10 :: dataB m := by simp
      obtain ⟨⟨q1, q2, q3⟩, hQ⟩ : ∃ y, asmL (kindL k) ((zeroB z ++ [10]) ++ dataB m) 5 = y := ⟨_, rfl⟩
      rw [htxt] at hQ
      rw [hQ] at hpl
      rw [← htxt] at hQ
      refine wc_exit ?_
      refine wq_then_exit ?_
      refine wq_then_exit ?_
      refine wq_here ?_
      refine wq_then ?_
      refine wc_seq ?_
      refine wc_region ?_
      refine wl_free .none rfl (yf_move rfl) ?_
      refine wl_pure .none rfl  (v := .int .i64 (kindL k)) (by kernel_rfl) rfl (fun w hw => kind_any k w) ?_
      refine wl_free .none rfl (yf_move rfl) ?_
      refine wl_pure .none rfl  (by kernel_rfl) rfl (fun w hw => asm_is (c := q1) (n := q2) (e := q3) hQ (by decide) (hw0.ext hw.ext0)) ?_
      refine wl_free .none rfl (yf_move rfl) ?_
      refine wl_free .none rfl (yf_extract rfl rfl) ?_
      refine wl_free .none rfl (yf_extract rfl rfl) ?_
      refine wl_free .none rfl (yf_extract rfl rfl) ?_
      refine wl_free .none rfl (yf_assign rfl) ?_
      refine wl_free .none rfl (yf_assign rfl) ?_
      refine wl_free .none rfl (yf_assign rfl) ?_
      refine wl_nil ?_
      refine wq_then ?_
      refine wc_seq ?_
      refine wc_seq ?_
      refine wc_weak (.cons (i := 0) rfl <| .cons (i := 1) rfl <| .cons (i := 6) rfl <| .cons (i := 7) rfl <| .cons (i := 8) rfl <| .cons (i := 9) rfl <| .cons (i := 10) rfl <| .cons (i := 13) rfl <| .cons (i := 14) rfl <| .cons (i := 15) rfl <| .cons (i := 33) rfl <| .nil) ?_
      refine wc_region ?_
      refine wl_free .none rfl (yf_move rfl) ?_
      refine wl_free .none rfl (yf_lenL rfl Tryz.underlying9) ?_
      refine wl_free .none rfl (yf_gtr rfl rfl) ?_
      refine wl_nil ?_
      refine wq_then ?_
      refine wc_cond rfl (fun h89 => ?_) (fun h89 => ?_)
      · replace h89 := of_decide_eq_true h89
        rw [hWl] at h89
        obtain ⟨j, hj⟩ := hpl.2 (by omega)
        injection hj with e1 e2
        injection e2 with e2 e3
        subst e1; subst e2; subst e3
        refine wc_seq ?_
        refine wc_weak (.cons (i := 0) rfl <| .cons (i := 1) rfl <| .cons (i := 6) rfl <| .cons (i := 7) rfl <| .cons (i := 8) rfl <| .cons (i := 9) rfl <| .cons (i := 10) rfl <| .cons (i := 13) rfl <| .cons (i := 14) rfl <| .cons (i := 15) rfl <| .cons (i := 33) rfl <| .cons (i := 89) rfl <| .nil) ?_
        refine wc_region ?_
        refine wl_free .none rfl (yf_move rfl) ?_
        refine wl_free .none rfl (yf_move rfl) ?_
        refine wl_split 91 rfl (fun hb => ?_) (fun hb => ?_)
        · skip
          refine wl_free (.some rfl rfl) rfl (yf_move rfl) ?_
          refine wl_free (.some rfl rfl) rfl (yf_eql rfl rfl) ?_
          refine wl_free .none rfl (yf_pickT rfl rfl) ?_
          refine wl_free .none rfl (yf_move rfl) ?_
          refine wl_split 95 rfl (fun hb => ?_) (fun hb => ?_)
          · replace hb := eq_of_beq hb
            refine wl_free (.some rfl rfl) rfl (yf_move rfl) ?_
            refine wl_free (.some rfl rfl) rfl (yf_gtr rfl rfl) ?_
            refine wl_free .none rfl (yf_pickT rfl rfl) ?_
            refine wl_free .none rfl (yf_move rfl) ?_
            refine wl_split 99 rfl (fun hb => ?_) (fun hb => ?_)
            · replace hb := of_decide_eq_true hb
              refine wl_free (.some rfl rfl) rfl (yf_move rfl) ?_
              refine wl_free (.some rfl rfl) rfl (yf_strs_eql rfl rfl Tryz.underlying9) ?_
              refine wl_free .none rfl (yf_pickT rfl rfl) ?_
              refine wl_free .none rfl (yf_assign rfl) ?_
              refine wl_nil ?_
              refine wq_then ?_
              refine wc_ret ?_
              refine wq_then_ret ?_
              refine wq_ret1 rfl rfl (fun w hw => ?_)
              exact ⟨by first | rfl | simp, hw.ext0⟩
            · replace hb := of_decide_eq_false hb
              first | exact absurd hb (by decide) | exact absurd hb (by simp) | (simp at hb; omega)
          · replace hb := beq_no hb
            first | exact absurd hb (by decide) | exact absurd hb (by simp) | (simp at hb; omega)
        · skip
          first | exact absurd hb (by decide) | exact absurd hb (by simp) | (simp at hb; omega)
      · replace h89 := of_decide_eq_false h89
        rw [hWl] at h89
        have hj := hpl.1 (by omega)
        injection hj with e1 e2
        injection e2 with e2 e3
        subst e1; subst e2; subst e3
        refine wc_skip ?_
        refine wq_then ?_
        refine wc_seq ?_
        refine wc_weak (.cons (i := 0) rfl <| .cons (i := 1) rfl <| .cons (i := 6) rfl <| .cons (i := 7) rfl <| .cons (i := 8) rfl <| .cons (i := 9) rfl <| .cons (i := 10) rfl <| .cons (i := 13) rfl <| .cons (i := 14) rfl <| .cons (i := 15) rfl <| .cons (i := 33) rfl <| .cons (i := 89) rfl <| .nil) ?_
        refine wc_region ?_
        refine wl_free .none rfl (yf_move rfl) ?_
        refine wl_free .none rfl (yf_move rfl) ?_
        refine wl_split 104 rfl (fun hb => ?_) (fun hb => ?_)
        · skip
          refine wl_free (.some rfl rfl) rfl (yf_move rfl) ?_
          refine wl_free (.some rfl rfl) rfl (yf_move rfl) ?_
          refine wl_free (.some rfl rfl) rfl (yf_strs_eql rfl rfl Tryz.underlying9) ?_
          refine wl_free .none rfl (yf_pickT rfl rfl) ?_
          refine wl_free .none rfl (yf_move rfl) ?_
          refine wl_split 109 rfl (fun hb => ?_) (fun hb => ?_)
          · skip
            refine wl_free (.some rfl rfl) rfl (yf_move rfl) ?_
            refine wl_free (.some rfl rfl) rfl (yf_eql rfl rfl) ?_
            refine wl_free .none rfl (yf_pickT rfl rfl) ?_
            refine wl_free .none rfl (yf_move rfl) ?_
            refine wl_split 113 rfl (fun hb => ?_) (fun hb => ?_)
            · replace hb := eq_of_beq hb
              refine wl_free (.some rfl rfl) rfl (yf_move rfl) ?_
              refine wl_free (.some rfl rfl) rfl (yf_eql rfl rfl) ?_
              refine wl_free .none rfl (yf_pickT rfl rfl) ?_
              refine wl_free .none rfl (yf_assign rfl) ?_
              refine wl_nil ?_
              refine wq_then ?_
              refine wc_ret ?_
              refine wq_ret1 rfl rfl (fun w hw => ?_)
              exact ⟨by first | rfl | simp, hw.ext0⟩
            · replace hb := beq_no hb
              first | exact absurd hb (by decide) | exact absurd hb (by simp)
          · skip
            first | exact absurd hb (by decide) | exact absurd hb (by simp)
        · skip
          first | exact absurd hb (by decide) | exact absurd hb (by simp)
end Go.Proofs.YtkaepknpplhgkaaGreatDoor
