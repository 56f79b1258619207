/- The law of numbers. -/
import Derived.Test.YtfpkpnkdnammnaaGreatDoorSn1
namespace Go.Proofs.YtfpkpnkdnammnaaGreatDoor
open Go.RowKit
structure NJ where
  s : Bs
  v : Nat
structure NOk (x : Nat) (j : NJ) : Prop where
  le : j.v ≤ x
  a : j.s = [] → j.v = x
  b : j.s ≠ [] → j.v = 0 → j.s = Lib.decDigits x
  c : j.s ≠ [] → j.v ≠ 0 → Lib.decDigits j.v ++ j.s = Lib.decDigits x
theorem NOk.len {x : Nat} {j : NJ} (h : NOk x j) : j.s.length ≤ (Lib.decDigits x).length := by
  by_cases hs : j.s = []
  · rw [hs]; simp
  · by_cases hv : j.v = 0
    · rw [h.b hs hv]; omega
    · rw [← h.c hs hv, List.length_append]; omega
theorem NOk.step {x : Nat} {j : NJ} (h : NOk x j) (hg : j.v ≠ 0 ∨ j.s = []) : NOk x ⟨[UInt8.ofNat (48 + j.v % 10)] ++ j.s, j.v / 10⟩ := by
  have key : Lib.decDigits j.v ++ j.s = Lib.decDigits x := by
    by_cases hs : j.s = []
    · rw [hs, h.a hs, List.append_nil]
    · exact h.c hs (hg.resolve_right hs)
  have hle := h.le
  refine ⟨by dsimp only; omega, fun e => by simp at e, fun _ h0 => ?_, fun _ h0 => ?_⟩
  · dsimp only at h0 ⊢
    have h10 : j.v < 10 := by omega
    rw [← key, dd1 h10, Nat.mod_eq_of_lt h10]
  · dsimp only at h0 ⊢
    have h10 : ¬ j.v < 10 := by omega
    rw [← key, dec_step h10, List.append_assoc]
theorem one_at {c : UInt8} {v : Value} (h : v = .int .u8 (c.toNat : Int)) (j : Nat) (hj : j < [c].length) : [v][0 + j]? = some (.int .u8 ([c][j].toNat : Int)) := by
  have : j = 0 := by simpa using hj
  subst this
  simp [h]
theorem pgN_mem {F : Nat → Prop} {w : World} {v g1 g2 g3 : Nat} (h1 : RdF F (some ⟨g1, 0, none⟩) (exC 1 v [] none 0 0) w) (h2 : RdF F (some ⟨g2, 0, none⟩) (stC 7 [] (some ⟨g1, 0, none⟩) 1 1 none 0 0 none 0 0) w) (h3 : RdF F (some ⟨g3, 0, none⟩) (fnC bmain none 0 0 (some ⟨g2, 0, none⟩) 1 1) w) : PgK F w (prgN v) (some ⟨g3, 0, none⟩) 1 :=
  ⟨cp11, _, h3, .cons (f := ⟨bmain, [], [.mk 7 [] [numE v] [] []]⟩) (rest := []) cp00 cp11 RdF.nil h2 (.cons (es := [numE v]) (b := []) (c := []) (rest := []) cp11 cp00 cp00 h1 RdF.nil RdF.nil (.cons (kids := []) (rest := []) cp00 RdF.nil .nil .nil) .nil .nil .nil) .nil⟩
set_option maxHeartbeats 4000000 in
set_option maxRecDepth 100000 in
theorem numbers_any (n : Nat) (hn : n < 18446744073709551616) (zeros : Int) (w_0 : World) (hv : ErrV w_0) (hT : TbN w_0) : Calls Tryz.prog 12 #[.int .u64 n, .int .i64 zeros] w_0 fun e w' => e = .returned (.bool true) ∧ Ext w_0 w' := by
  obtain ⟨x, hx0⟩ : ∃ x : Nat, x = n % 17179869184 := ⟨_, rfl⟩
  have hx : x < 17179869184 := by omega
  have hdl : (Lib.decDigits x).length ≤ 20 := dec_len (by omega) (by decide)
  obtain ⟨z, hz⟩ : ∃ z : Nat, zeros % 8 = (z : Int) := ⟨(zeros % 8).toNat, by have := Int.emod_nonneg zeros (b := 8) (by decide); omega⟩
  have hz8 : z < 8 := by have := Int.emod_lt_of_pos zeros (b := 8) (by decide); omega
  have htk : ([48, 48, 48, 48, 48, 48, 48] : Bs).take z = List.replicate z 48 := by
    have : ∀ i : Fin 8, ([48, 48, 48, 48, 48, 48, 48] : Bs).take i.val = List.replicate i.val 48 := by decide
    exact this ⟨z, hz8⟩
  obtain ⟨ds, hds⟩ : ∃ ds, ds = List.replicate z 48 ++ Lib.decDigits x := ⟨_, rfl⟩
  have hdv : decL ds = x := by rw [hds, decL_zeros, (decL_dec x).1]
  have hdn : ds ≠ [] := by rw [hds]; simp [dec_ne]
  have hdd : ∀ c ∈ ds, digB c = true := by
    rw [hds]
    intro c hc
    rcases List.mem_append.1 hc with hc | hc
    · rw [(List.mem_replicate.1 hc).2]; decide
    · exact (decL_dec x).2 c hc
  have hdsl : ds.length ≤ 27 := by rw [hds, List.length_append, List.length_replicate]; omega
  obtain ⟨r, hr⟩ : ∃ r : List Fn × Nat × Nat, r = if x < 4294967296 then (prgN x, 0, 0) else ([], 16, 24) := ⟨_, rfl⟩
  have hpr : parseF 40 (numSrc ds) = some r := by
    rw [parse_num ds hdn hdd (by omega), hdv, hr]
  refine calls_wc (args := [.int .u64 n, .int .i64 zeros]) Tryz.func12 rfl 88 rfl (Nat.le_of_ble_eq_true rfl) ?_
  refine wc_weak (.cons (i := 0) rfl <| .cons (i := 1) rfl <| .nil) ?_
  refine wc_conseq (H' := Hp (fun _ => False) w_0 [] [] (fun _ => True)) (fun u hu => ?_) ?_
  · subst hu; exact Hp.start0
  refine wc_seq ?_
  refine wc_region ?_
  refine wl_free .none rfl (yf_assign rfl) ?_
  refine wl_nil ?_
  refine wq_then ?_
  refine wc_seq ?_
  refine wc_region ?_
  refine wl_pure .none rfl  (v := .bool true) (by kernel_rfl) rfl (fun w hw => sanity_any w (hv.ext (HpG.keep hw).ext) (hT.ext (HpG.keep hw).ext)) ?_
  refine wl_free .none rfl (yf_assign rfl) ?_
  refine wl_nil ?_
  refine wq_then ?_
  refine wc_seq ?_
  refine wc_weak (.cons (i := 0) rfl <| .cons (i := 1) rfl <| .cons (i := 4) rfl <| .cons (i := 5) rfl <| .nil) ?_
  refine wc_region ?_
  refine wl_free .none rfl (yf_move rfl) ?_
  refine wl_free .none rfl (yf_rem rfl rfl (by decide) (show ((n : Nat) : Int).tmod 17179869184 = ((x : Nat) : Int) from by rw [hx0]; exact (Int.ofNat_tmod n 17179869184).symm)) ?_
  refine wl_free .none rfl (yf_assign rfl) ?_
  refine wl_nil ?_
  refine wq_then ?_
  refine wc_seq ?_
  refine wc_weak (.cons (i := 0) rfl <| .cons (i := 1) rfl <| .cons (i := 4) rfl <| .cons (i := 5) rfl <| .cons (i := 6) rfl <| .nil) ?_
  refine wc_region ?_
  refine wl_free .none rfl (yf_assign rfl) ?_
  refine wl_nil ?_
  refine wq_then ?_
  refine wc_seq ?_
  refine wc_seq ?_
  refine wc_region ?_
  refine wl_free .none rfl (yf_move rfl) ?_
  refine wl_free .none rfl (yf_assign rfl) ?_
  refine wl_nil ?_
  refine wq_then ?_
  refine wc_block ?_
  refine wc_loop (ι := {j : NJ // NOk x j}) (fun j => [(1, .int .i64 zeros), (5, .bool true), (6, .int .u64 x), (7, .string ⟨j.1.s.toArray⟩), (8, .int .u64 j.1.v)]) (fun _ => Hp (fun _ => False) w_0 [] [] (fun _ => True)) (fun j => j.1.v + (if j.1.s = [] then 1 else 0)) ⟨⟨[], x⟩, ⟨Nat.le_refl _, fun _ => rfl, fun h => absurd rfl h, fun h => absurd rfl h⟩⟩ ?_ ?_ (fun j => ?_)
  · exact .cons rfl <| .cons rfl <| .cons rfl <| .cons rfl <| .cons rfl <| .nil
  · exact fun w h => h
  obtain ⟨⟨s, v⟩, hj⟩ := j
  have hsl := hj.len
  dsimp only at hsl ⊢
  have hvr : ((v : Nat) : Int).tmod 10 = ((v % 10 : Nat) : Int) := (Int.ofNat_tmod v 10).symm
  have hvx := hj.le
  dsimp only at hvx
  have hvq : IntKind.u64.wrap (((v : Nat) : Int).tdiv 10) = ((v / 10 : Nat) : Int) := by
    rw [show ((v : Nat) : Int).tdiv 10 = ((v / 10 : Nat) : Int) from (Int.ofNat_tdiv v 10).symm]
    exact u64_in _ (by omega) (by omega)
  refine wc_seq ?_
  refine wc_seq ?_
  refine wc_region ?_
  refine wl_free .none rfl (yf_move rfl) ?_
  refine wl_free .none rfl (yf_gtr rfl rfl) ?_
  refine wl_free .none rfl (yf_move rfl) ?_
  refine wl_split 20 rfl (fun g5 => ?_) (fun g5 => ?_)
  · replace g5 := of_decide_eq_true g5
    refine wl_pass (.some rfl rfl rfl) rfl ?_
    refine wl_pass (.some rfl rfl rfl) rfl ?_
    refine wl_free .none rfl (yf_pickT rfl rfl) ?_
    refine wl_nil ?_
    refine wq_then ?_
    refine wc_true rfl ?_
    refine wc_skip ?_
    refine wq_then ?_
    refine wc_seq ?_
    refine wc_block ?_
    refine wc_weak (.cons (i := 1) rfl <| .cons (i := 5) rfl <| .cons (i := 6) rfl <| .cons (i := 7) rfl <| .cons (i := 8) rfl <| .cons (i := 23) rfl <| .nil) ?_
    refine wc_region ?_
    refine wl_free .none rfl (yf_move rfl) ?_
    refine wl_free .none rfl (yf_rem rfl rfl (by decide) hvr) ?_
    refine wl_free .none rfl (yf_add rfl rfl (show IntKind.u64.wrap (48 + ((v % 10 : Nat) : Int)) = ((48 + v % 10 : Nat) : Int) from by rw [u64_in _ (by omega) (by omega)]; omega)) ?_
    refine wl_free .none rfl (yf_conv rfl (by kernel_rfl) Tryz.underlying5 (show IntKind.u8.wrap ((48 + v % 10 : Nat) : Int) = ((UInt8.ofNat (48 + v % 10)).toNat : Int) from by rw [digit_nat (by omega)]; exact u8_in _ (by omega) (by omega))) ?_
    refine wl_new .none rfl (nf_bs1 (z := .int .u8 0) rfl rfl Tryz.underlying54 (by kernel_rfl) (by kernel_rfl) rfl rfl) (fun b30 => ?_)
    refine wl_free .none rfl (yf_convL 0 [UInt8.ofNat (48 + v % 10)] rfl rfl Tryz.underlying54 Tryz.underlying5 Tryz.underlying9 rfl (one_at rfl)) ?_
    refine wl_free .none rfl (yf_move rfl) ?_
    (refine wl_free .none rfl (yf_str_add rfl rfl ?_) ?_; (· (first | omega | (simp only [List.length_append, List.length_cons, List.length_nil]; omega) | (simp <;> omega))); skip)
    refine wl_free .none rfl (yf_assign rfl) ?_
    refine wl_nil ?_
    refine wq_block ?_
    refine wq_then ?_
    refine wc_weak (.cons (i := 1) rfl <| .cons (i := 5) rfl <| .cons (i := 6) rfl <| .cons (i := 7) rfl <| .cons (i := 8) rfl <| .cons (i := 23) rfl <| .nil) ?_
    refine wc_region ?_
    refine wl_free .none rfl (yf_move rfl) ?_
    refine wl_free .none rfl (yf_quo rfl rfl (by decide) hvq) ?_
    refine wl_free .none rfl (yf_assign rfl) ?_
    refine wl_nil ?_
    refine wq_round (ι := {j : NJ // NOk x j}) ⟨⟨[UInt8.ofNat (48 + v % 10)] ++ s, v / 10⟩, hj.step (.inl (by dsimp only; omega))⟩ (by show v / 10 + 0 < v + (if s = [] then 1 else 0); omega) (.cons rfl <| .cons rfl <| .cons rfl <| .cons rfl <| .cons rfl <| .nil) (fun w h => Hp.drop h (List.nil_sublist _) (List.Sublist.refl _))
  · replace g5 := of_decide_eq_false g5
    refine wl_free (.some rfl rfl) rfl (yf_move rfl) ?_
    refine wl_free (.some rfl rfl) rfl (yf_strs_eql rfl rfl Tryz.underlying9) ?_
    refine wl_free .none rfl (yf_pickF rfl rfl) ?_
    refine wl_nil ?_
    refine wq_then ?_
    refine wc_cond rfl (fun h23 => ?_) (fun h23 => ?_)
    · skip
      have h23' : s = [] := by simpa using h23
      refine wc_skip ?_
      refine wq_then ?_
      refine wc_seq ?_
      refine wc_block ?_
      refine wc_weak (.cons (i := 1) rfl <| .cons (i := 5) rfl <| .cons (i := 6) rfl <| .cons (i := 7) rfl <| .cons (i := 8) rfl <| .cons (i := 23) rfl <| .nil) ?_
      refine wc_region ?_
      refine wl_free .none rfl (yf_move rfl) ?_
      refine wl_free .none rfl (yf_rem rfl rfl (by decide) hvr) ?_
      refine wl_free .none rfl (yf_add rfl rfl (show IntKind.u64.wrap (48 + ((v % 10 : Nat) : Int)) = ((48 + v % 10 : Nat) : Int) from by rw [u64_in _ (by omega) (by omega)]; omega)) ?_
      refine wl_free .none rfl (yf_conv rfl (by kernel_rfl) Tryz.underlying5 (show IntKind.u8.wrap ((48 + v % 10 : Nat) : Int) = ((UInt8.ofNat (48 + v % 10)).toNat : Int) from by rw [digit_nat (by omega)]; exact u8_in _ (by omega) (by omega))) ?_
      refine wl_new .none rfl (nf_bs1 (z := .int .u8 0) rfl rfl Tryz.underlying54 (by kernel_rfl) (by kernel_rfl) rfl rfl) (fun b30 => ?_)
      refine wl_free .none rfl (yf_convL 0 [UInt8.ofNat (48 + v % 10)] rfl rfl Tryz.underlying54 Tryz.underlying5 Tryz.underlying9 rfl (one_at rfl)) ?_
      refine wl_free .none rfl (yf_move rfl) ?_
      (refine wl_free .none rfl (yf_str_add rfl rfl ?_) ?_; (· (first | omega | (simp only [List.length_append, List.length_cons, List.length_nil]; omega) | (simp <;> omega))); skip)
      refine wl_free .none rfl (yf_assign rfl) ?_
      refine wl_nil ?_
      refine wq_block ?_
      refine wq_then ?_
      refine wc_weak (.cons (i := 1) rfl <| .cons (i := 5) rfl <| .cons (i := 6) rfl <| .cons (i := 7) rfl <| .cons (i := 8) rfl <| .cons (i := 23) rfl <| .nil) ?_
      refine wc_region ?_
      refine wl_free .none rfl (yf_move rfl) ?_
      refine wl_free .none rfl (yf_quo rfl rfl (by decide) hvq) ?_
      refine wl_free .none rfl (yf_assign rfl) ?_
      refine wl_nil ?_
      refine wq_round (ι := {j : NJ // NOk x j}) ⟨⟨[UInt8.ofNat (48 + v % 10)] ++ s, v / 10⟩, hj.step (.inr h23')⟩ (by show v / 10 + 0 < v + (if s = [] then 1 else 0); rw [if_pos h23']; omega) (.cons rfl <| .cons rfl <| .cons rfl <| .cons rfl <| .cons rfl <| .nil) (fun w h => Hp.drop h (List.nil_sublist _) (List.Sublist.refl _))
    · skip
      have h23' : s ≠ [] := by simpa using h23
      have hv0 : v = 0 := by omega
      have hsx : s = Lib.decDigits x := hj.b h23' hv0
      subst hsx
      refine wc_exit ?_
      refine wq_then_exit ?_
      refine wq_then_exit ?_
      refine wq_here ?_
      refine wq_then ?_
      refine wc_seq ?_
      refine wc_weak (.cons (i := 1) rfl <| .cons (i := 5) rfl <| .cons (i := 6) rfl <| .cons (i := 7) rfl <| .cons (i := 8) rfl <| .cons (i := 23) rfl <| .nil) ?_
      refine wc_region ?_
      refine wl_free .none rfl (yf_move rfl) ?_
      refine wl_pure .none rfl  (v := .int .i64 z) (by kernel_rfl) rfl (fun w hw => by
        have := mod_any zeros 8 (by decide) (by decide) w
        rw [hz] at this
        exact this) ?_
      refine wl_free .none rfl (yf_strHi (l := [48, 48, 48, 48, 48, 48, 48]) (c := List.replicate z 48) rfl rfl Tryz.underlying9 (by omega) (by show (z : Int) ≤ 7; omega) (by rw [Int.toNat_natCast]; exact htk)) ?_
      refine wl_free .none rfl (yf_move rfl) ?_
      (refine wl_free .none rfl (yf_str_add rfl rfl ?_) ?_; (· (rw [List.length_replicate]; omega)); skip)
      refine wl_free .none rfl (yf_assign rfl) ?_
      refine wl_nil ?_
      refine wq_then ?_
      refine wc_seq ?_
      refine wc_weak (.cons (i := 1) rfl <| .cons (i := 5) rfl <| .cons (i := 6) rfl <| .cons (i := 7) rfl <| .cons (i := 8) rfl <| .cons (i := 23) rfl <| .nil) ?_
      refine wc_region ?_
      rw [← hds]
      refine wl_free .none rfl (yf_move rfl) ?_
      (refine wl_free .none rfl (yf_str_add rfl rfl ?_) ?_; (· (simp; omega)); skip)
      (refine wl_free .none rfl (yf_str_add rfl rfl ?_) ?_; (· (simp; omega)); skip)
      refine wl_callX (ι := Option Addr × Nat) (C := fun _ => True) (val := fun i => .tuple #[.agg #[.slice i.1 r.1.length i.2], .int .i64 r.2.1, .int .i64 r.2.2]) (TT := fun i F u => PgK F u r.1 i.1 i.2) .none rfl  (by kernel_rfl) rfl (fun _ h => h.elim) (fun _ => PgK.lies) (fun w hw => (parse_any' (numSrc ds) (by simp [numSrc, numPre]; omega) 40 (by decide) _ hpr w (hv.ext (HpG.keep hw).ext)).mono fun e w' ⟨A, cap, e1, e2, e3⟩ => ⟨(A, cap), trivial, e1, e2, e3⟩) (fun i F1 _ hF1 => ?_)
      obtain ⟨Ap, cp⟩ := i
      dsimp only
      refine wl_free .none rfl (yf_move rfl) ?_
      refine wl_free .none rfl (yf_extract rfl rfl) ?_
      refine wl_free .none rfl (yf_extract rfl rfl) ?_
      refine wl_free .none rfl (yf_extract rfl rfl) ?_
      refine wl_new .none rfl (nf_alloc (z := .agg #[.slice none 0 0]) (cs := [.slice none 0 0]) (by kernel_rfl) rfl) (fun b9 => ?_)
      refine wl_chain0 .none (cf_storeRow 0 rfl rfl rfl rfl rfl (by kernel_rfl)) (fun _ => ?_)
      refine wl_free .none rfl (yf_assign rfl) ?_
      refine wl_free .none rfl (yf_assign rfl) ?_
      refine wl_nil ?_
      refine wq_then ?_
      refine wc_seq ?_
      refine wc_seq ?_
      refine wc_weak (.cons (i := 1) rfl <| .cons (i := 5) rfl <| .cons (i := 6) rfl <| .cons (i := 7) rfl <| .cons (i := 8) rfl <| .cons (i := 9) rfl <| .cons (i := 10) rfl <| .cons (i := 11) rfl <| .cons (i := 23) rfl <| .nil) ?_
      refine wc_region ?_
      refine wl_free .none rfl (yf_move rfl) ?_
      refine wl_free .none rfl (yf_geq rfl rfl) ?_
      refine wl_nil ?_
      refine wq_then ?_
      refine wc_cond rfl (fun hc => ?_) (fun hc => ?_)
      · replace hc := of_decide_eq_true hc
        have hxb : ¬ x < 4294967296 := by omega
        rw [if_neg hxb] at hr
        subst hr
        refine wc_seq ?_
        refine wc_weak (.cons (i := 1) rfl <| .cons (i := 5) rfl <| .cons (i := 6) rfl <| .cons (i := 7) rfl <| .cons (i := 8) rfl <| .cons (i := 9) rfl <| .cons (i := 10) rfl <| .cons (i := 11) rfl <| .cons (i := 23) rfl <| .cons (i := 48) rfl <| .nil) ?_
        refine wc_region ?_
        refine wl_free .none rfl (yf_move rfl) ?_
        refine wl_free .none rfl (yf_move rfl) ?_
        refine wl_split 50 rfl (fun hb => ?_) (fun hb => ?_)
        · skip
          refine wl_free (.some rfl rfl) rfl (yf_move rfl) ?_
          refine wl_free (.some rfl rfl) rfl (yf_eql rfl rfl) ?_
          refine wl_free .none rfl (yf_pickT rfl rfl) ?_
          refine wl_free .none rfl (yf_move rfl) ?_
          refine wl_split 54 rfl (fun hb => ?_) (fun hb => ?_)
          · replace hb := eq_of_beq hb
            refine wl_free (.some rfl rfl) rfl (yf_move rfl) ?_
            refine wl_free (.some rfl rfl) rfl (yf_eql rfl rfl) ?_
            refine wl_free .none rfl (yf_pickT rfl rfl) ?_
            refine wl_free .none rfl (yf_move rfl) ?_
            refine wl_split 58 rfl (fun hb => ?_) (fun hb => ?_)
            · replace hb := eq_of_beq hb
              refine wl_free (.some rfl rfl) rfl (yf_fieldAddr (off := 0) (sz := 0) rfl Tryz.underlying32 (by kernel_rfl) rfl) ?_
              refine wl_free (.some rfl rfl) rfl (yf_loadL 0 rfl rfl rfl Tryz.underlying30 rfl) ?_
              refine wl_free (.some rfl rfl) rfl (yf_lenS rfl Tryz.underlying30) ?_
              refine wl_free (.some rfl rfl) rfl (yf_eql rfl rfl) ?_
              refine wl_free .none rfl (yf_pickT rfl rfl) ?_
              refine wl_free .none rfl (yf_assign rfl) ?_
              refine wl_nil ?_
              refine wq_then ?_
              refine wc_ret ?_
              refine wq_then_ret ?_
              refine wq_ret1 rfl rfl (fun w hw => ?_)
              exact ⟨rfl, (HpG.keep hw).ext⟩
            · replace hb := beq_no hb
              exact absurd hb (by decide)
          · replace hb := beq_no hb
            exact absurd hb (by decide)
        · skip
          exact absurd hb (by decide)
      · replace hc := of_decide_eq_false hc
        have hxb : x < 4294967296 := by omega
        rw [if_pos hxb] at hr
        subst hr
        refine wc_skip ?_
        refine wq_then ?_
        refine wc_seq ?_
        refine wc_weak (.cons (i := 1) rfl <| .cons (i := 5) rfl <| .cons (i := 6) rfl <| .cons (i := 7) rfl <| .cons (i := 8) rfl <| .cons (i := 9) rfl <| .cons (i := 10) rfl <| .cons (i := 11) rfl <| .cons (i := 23) rfl <| .cons (i := 48) rfl <| .nil) ?_
        refine wc_region ?_
        refine wl_free .none rfl (yf_move rfl) ?_
        (refine wl_free .none rfl (yf_conv rfl (by kernel_rfl) Tryz.underlying50 (u32_in _ ?_ ?_)) ?_; (· omega); (· omega); skip)
        refine wl_free .none rfl (yf_buildS [.int .i64 0, .int .u32 0, .string ⟨#[]⟩, .slice none 0 0] [(0, 1), (1, 1), (2, 1), (3, 1)] rfl (by kernel_rfl) (by kernel_rfl) rfl) ?_
        refine wl_new .none rfl (nf_bs1 (z := .agg #[.int .i64 0, .int .u32 0, .string ⟨#[]⟩, .slice none 0 0]) rfl rfl Tryz.underlying55 (by kernel_rfl) (by kernel_rfl) rfl rfl) (fun b67 => ?_)
        refine wl_free .none rfl (yf_buildS [.int .i64 0, .string ⟨#[]⟩, .slice none 0 0, .slice none 0 0, .slice none 0 0] [(0, 1), (1, 1), (2, 1), (3, 1), (4, 1)] rfl (by kernel_rfl) (by kernel_rfl) rfl) ?_
        refine wl_new .none rfl (nf_bs1 (z := .agg #[.int .i64 0, .string ⟨#[]⟩, .slice none 0 0, .slice none 0 0, .slice none 0 0]) rfl rfl Tryz.underlying58 (by kernel_rfl) (by kernel_rfl) rfl rfl) (fun b69 => ?_)
        refine wl_free .none rfl (yf_buildS [.string ⟨#[]⟩, .slice none 0 0, .slice none 0 0] [(0, 1), (1, 1), (2, 1)] rfl (by kernel_rfl) (by kernel_rfl) rfl) ?_
        refine wl_new .none rfl (nf_bs1 (z := .agg #[.string ⟨#[]⟩, .slice none 0 0, .slice none 0 0]) rfl rfl Tryz.underlying30 (by kernel_rfl) (by kernel_rfl) rfl rfl) (fun b71 => ?_)
        refine wl_free .none rfl (yf_buildS [.slice none 0 0] [(0, 1)] rfl (by kernel_rfl) (by kernel_rfl) rfl) ?_
        refine wl_new .none rfl (nf_alloc (z := .agg #[.slice none 0 0]) (cs := [.slice none 0 0]) (by kernel_rfl) rfl) (fun b12 => ?_)
        refine wl_chain0 .none (cf_storeRow 0 rfl rfl rfl rfl rfl (by kernel_rfl)) (fun _ => ?_)
        refine wl_nil ?_
        refine wq_then ?_
        refine wc_seq ?_
        refine wc_weak (.cons (i := 1) rfl <| .cons (i := 5) rfl <| .cons (i := 6) rfl <| .cons (i := 7) rfl <| .cons (i := 8) rfl <| .cons (i := 9) rfl <| .cons (i := 10) rfl <| .cons (i := 11) rfl <| .cons (i := 12) rfl <| .cons (i := 23) rfl <| .cons (i := 48) rfl <| .nil) ?_
        refine wc_region ?_
        refine wl_free .none rfl (yf_loadAllL 4 rfl rfl Tryz.underlying32 rfl (by kernel_rfl)) ?_
        refine wl_free .none rfl (yf_loadAllL 0 rfl rfl Tryz.underlying32 rfl (by kernel_rfl)) ?_
        refine wl_pure .none rfl  (v := .bool true) (by kernel_rfl) rfl (fun w hw => by
          have := equal_any (prgN x) (prgN x) (fun _ => True) Ap (some ⟨b71, 0, none⟩) cp 1 w (PgK.lies.mono (fun _ _ => trivial) (HpG.x hw).1) (pgN_mem (HpG.rdF (j := 3) hw rfl trivial) (HpG.rdF (j := 2) hw rfl trivial) (HpG.rdF (j := 1) hw rfl trivial))
          rw [dq_true rfl] at this
          exact this) ?_
        refine wl_free .none rfl (yf_assign rfl) ?_
        refine wl_nil ?_
        refine wq_then ?_
        refine wc_seq ?_
        refine wc_weak (.cons (i := 1) rfl <| .cons (i := 5) rfl <| .cons (i := 6) rfl <| .cons (i := 7) rfl <| .cons (i := 8) rfl <| .cons (i := 9) rfl <| .cons (i := 10) rfl <| .cons (i := 11) rfl <| .cons (i := 12) rfl <| .cons (i := 13) rfl <| .cons (i := 23) rfl <| .cons (i := 48) rfl <| .nil) ?_
        refine wc_region ?_
        refine wl_free .none rfl (yf_move rfl) ?_
        refine wl_free .none rfl (yf_move rfl) ?_
        refine wl_split 77 rfl (fun hb => ?_) (fun hb => ?_)
        · skip
          refine wl_free (.some rfl rfl) rfl (yf_move rfl) ?_
          refine wl_free (.some rfl rfl) rfl (yf_eql rfl rfl) ?_
          refine wl_free .none rfl (yf_pickT rfl rfl) ?_
          refine wl_free .none rfl (yf_move rfl) ?_
          refine wl_split 81 rfl (fun hb => ?_) (fun hb => ?_)
          · replace hb := eq_of_beq hb
            refine wl_free (.some rfl rfl) rfl (yf_move rfl) ?_
            refine wl_free (.some rfl rfl) rfl (yf_eql rfl rfl) ?_
            refine wl_free .none rfl (yf_pickT rfl rfl) ?_
            refine wl_free .none rfl (yf_move rfl) ?_
            refine wl_split 85 rfl (fun hb => ?_) (fun hb => ?_)
            · replace hb := eq_of_beq hb
              refine wl_free (.some rfl rfl) rfl (yf_move rfl) ?_
              refine wl_free .none rfl (yf_pickT rfl rfl) ?_
              refine wl_free .none rfl (yf_assign rfl) ?_
              refine wl_nil ?_
              refine wq_then ?_
              refine wc_ret ?_
              refine wq_ret1 rfl rfl (fun w hw => ?_)
              exact ⟨rfl, (HpG.keep hw).ext⟩
            · replace hb := beq_no hb
              first | exact absurd rfl hb | exact absurd hb (by decide)
          · replace hb := beq_no hb
            first | exact absurd rfl hb | exact absurd hb (by decide)
        · skip
          first | exact absurd rfl hb | exact absurd hb (by decide)
end Go.Proofs.YtfpkpnkdnammnaaGreatDoor
