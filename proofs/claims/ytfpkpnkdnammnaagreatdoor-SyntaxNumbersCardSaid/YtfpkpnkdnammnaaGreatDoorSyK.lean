/- The parser of expressions: binary; all of them. -/
import Derived.Test.YtfpkpnkdnammnaaGreatDoorSyJ
namespace Go.Proofs.YtfpkpnkdnammnaaGreatDoor
open Go.RowKit
structure BiJ where
  k : Nat
  e : Ex
  s : PS
  A : Option Addr
  cap : Nat
  F : Nat → Prop
structure BiOk (E : PE) (f n : Nat) (x : Ex) (s' : PS) (n0 : Nat) (j : BiJ) : Prop where
  run : (exF E.tk j.k).loop n j.e j.s = some (x, s')
  k : j.k ≤ f
  at_ : j.s.at_ ≤ E.m
  F : ∀ k, j.F k → n0 ≤ k
  c : j.e.kind = 4 → j.cap = j.e.kids.length
section
variable {tk : Nat → Tok} {r : EF} {s : PS} {p : Ex × PS} {n : Nat} {e : Ex}
theorem loopS_end (h : loopS tk r n e s = some p) (hc : ¬ (s.err = 0 ∧ (tk s.at_).kind = 3)) : p = (e, s) := by
  unfold loopS at h; rw [if_neg hc] at h; cases h; rfl
theorem loopS_none (h : loopS tk r n e s = some p) (hl : lookB (tk s.at_).text levT = none) : p = (e, s) := by
  unfold loopS at h
  have hl' : levOf (tk s.at_).text = none := hl
  split at h
  · rw [hl'] at h; cases h; rfl
  · cases h; rfl
theorem loopS_low (h : loopS tk r n e s = some p) {l : Nat} (hl : lookB (tk s.at_).text levT = some l) (hn : l < n) : p = (e, s) := by
  unfold loopS at h
  have hl' : levOf (tk s.at_).text = some l := hl
  split at h
  · rw [hl'] at h
    dsimp only at h
    rw [if_pos hn] at h; cases h; rfl
  · cases h; rfl
theorem loopS_go (h : loopS tk r n e s = some p) (hc : s.err = 0 ∧ (tk s.at_).kind = 3) {l : Nat} (hl : lookB (tk s.at_).text levT = some l) (hn : ¬ l < n) : ∃ x s1, r.bin (l + 1) (adv s) = some (x, s1) ∧ r.loop n (.mk 7 0 (tk s.at_).text [e, x]) s1 = some p := by
  unfold loopS at h
  have hl' : levOf (tk s.at_).text = some l := hl
  rw [if_pos hc, hl'] at h
  dsimp only at h
  rw [if_neg hn] at h
  exact andThen_some h
end
theorem zero_int (w : World) : (zeroValue 3).run Tryz.prog w = .ok (.int .i64 0) w := by
  have h := Tryz.zeroValue3
  exact h w
set_option maxRecDepth 100000 in
theorem binary_any {E : PE} (hE : E.Ok) {f : Nat} (IH : EOk E f) (n : Nat) (hn : n ≤ 8) (s : PS) (x : Ex) (s' : PS) (hr : binS (exF E.tk f) n s = some (x, s')) (hs : s.at_ ≤ E.m) (bp : Nat) (w_0 : World) (hb : w_0.heap[bp]? = some (pO E s)) (hX : TkX E w_0) : Calls Tryz.prog 167 #[.pointer (some ⟨bp, 0, none⟩), .int .i64 n] w_0 (ExPost E bp w_0 x s') := by
  obtain ⟨e0, s0, hu, hl0⟩ := andThen_some hr
  have hs0 := (exF_g hE.kind f).un s hs e0 s0 hu
  refine calls_wc (args := [.pointer (some ⟨bp, 0, none⟩), .int .i64 n]) Tryz.func167 rfl 60 rfl (Nat.le_of_ble_eq_true rfl) ?_
  refine wc_weak (.cons (i := 0) rfl <| .cons (i := 1) rfl <| .nil) ?_
  refine wc_conseq (H' := Hp (fun k => k = bp) w_0 [(bp, pO E s)] [] (TkX E)) (fun u hu => ?_) ?_
  · subst hu; exact Hp.startP hb hX
  refine wc_seq ?_
  refine wc_region ?_
  refine wl_new .none rfl (nf_alloc (z := .agg #[.int .i64 0, .int .u32 0, .string ⟨#[]⟩, .slice none 0 0]) (cs := [.int .i64 0, .int .u32 0, .string ⟨#[]⟩, .slice none 0 0]) (by kernel_rfl) rfl) (fun b4 => ?_)
  refine wl_nil ?_
  refine wq_then ?_
  refine wc_seq ?_
  refine wc_region ?_
  refine wl_free .none rfl (yf_move rfl) ?_
  refine wl_ex E s e0 s0 bp 1 (bp_lt hb) (fun _ h => h) (fun w h1 h2 => IH.un s e0 s0 hu hs bp w h1 h2) .none rfl  (by kernel_rfl) rfl rfl (fun A0 cap0 F0 hF0 hc0 => ?_)
  refine wl_new .none rfl (nf_alloc (z := .agg #[.int .i64 0, .int .u32 0, .string ⟨#[]⟩, .slice none 0 0]) (cs := [.int .i64 0, .int .u32 0, .string ⟨#[]⟩, .slice none 0 0]) (by kernel_rfl) rfl) (fun b5 => ?_)
  refine wl_chain0 .none (cf_storeRow 0 rfl rfl rfl rfl rfl (by kernel_rfl)) (fun _ => ?_)
  refine wl_nil ?_
  refine wq_then ?_
  refine wc_seq ?_
  refine wc_block ?_
  refine wc_loop (ι := {j : BiJ // BiOk E f n x s' w_0.heap.size j}) (fun _ => [(0, .pointer (some ⟨bp, 0, none⟩)), (1, .int .i64 n), (4, .pointer (some ⟨b4, 0, none⟩)), (5, .pointer (some ⟨b5, 0, none⟩))]) (fun j => Hp (fun k => k = bp) w_0 [(b5, bk 57 (exOf j.1.e j.1.A j.1.cap)), (b4, bk 57 (exC 0 0 [] none 0 0)), (bp, pO E j.1.s)] [] (fun u => exsK j.1.F u j.1.e j.1.A j.1.cap ∧ TkX E u)) (fun j => j.1.k) ⟨⟨f, e0, s0, A0, cap0, F0⟩, ⟨hl0, Nat.le_refl _, hs0.2.1, hF0, hc0⟩⟩ ?_ ?_ (fun j => ?_)
  · exact .cons rfl <| .cons rfl <| .cons rfl <| .cons rfl <| .nil
  · exact fun w h => h
  obtain ⟨⟨k, e, s, A, cap, F⟩, ⟨hrun, hk, hs, hF, hcc⟩⟩ := j
  dsimp only at hrun hk hs hF hcc ⊢
  cases k with
  | zero => cases hrun
  | succ k => ?_
  have hrun : loopS E.tk (exF E.tk k) n e s = some (x, s') := hrun
  refine wc_seq ?_
  refine wc_seq ?_
  refine wc_region ?_
  refine wl_free .none rfl (yf_move rfl) ?_
  refine wl_ok E s bp 2 .none rfl  rfl rfl ?_
  refine wl_free .none rfl (yf_move rfl) ?_
  refine wl_split 13 rfl (fun h23 => ?_) (fun h23 => ?_)
  · skip
    refine wl_free (.some rfl rfl) rfl (yf_move rfl) ?_
    refine wl_free (.some rfl rfl) rfl (yf_nilCheck rfl) ?_
    refine wl_free (.some rfl rfl) rfl (yf_fieldAddr (off := 0) (sz := 0) rfl Tryz.underlying90 (by kernel_rfl) rfl) ?_
    refine wl_free (.some rfl rfl) rfl (yf_loadL 2 rfl rfl rfl Tryz.underlying87 rfl) ?_
    (refine wl_free (.some rfl rfl) rfl (yf_indexAddrS (j := 0) (es := 4) rfl rfl Tryz.underlying87 (by kernel_rfl) rfl ?_ rfl) ?_; (· first | decide | omega | (simp; done) | (simp; omega)); skip)
    refine wl_free (.some rfl rfl) rfl (yf_fieldAddr (off := 0) (sz := 0) rfl Tryz.underlying92 (by kernel_rfl) rfl) ?_
    refine wl_free (.some rfl rfl) rfl (yf_load (v := .int .i64 (E.tk s.at_).kind) rfl Tryz.underlying3 rfl (fun w h => tkAt (HpG.x h).2 hs 0 rfl (by omega))) ?_
    refine wl_free (.some rfl rfl) rfl (yf_eql rfl rfl) ?_
    refine wl_free .none rfl (yf_pickT rfl rfl) ?_
    refine wl_nil ?_
    refine wq_then ?_
    refine wc_cond rfl (fun h22 => ?_) (fun h22 => ?_)
    · replace h22 := eq_of_beq h22
      have hc : s.err = 0 ∧ (E.tk s.at_).kind = 3 := ⟨by simpa using h23, by omega⟩
      have ha := adv_in hE.kind hs (by omega) (by omega)
      refine wc_skip ?_
      refine wq_then ?_
      refine wc_block ?_
      refine wc_seq ?_
      refine wc_weak (.cons (i := 0) rfl <| .cons (i := 1) rfl <| .cons (i := 4) rfl <| .cons (i := 5) rfl <| .cons (i := 22) rfl <| .nil) ?_
      refine wc_region ?_
      refine wl_free .none rfl (yf_move rfl) ?_
      refine wl_free .none rfl (yf_nilCheck rfl) ?_
      refine wl_free .none rfl (yf_fieldAddr (off := 0) (sz := 0) rfl Tryz.underlying90 (by kernel_rfl) rfl) ?_
      refine wl_free .none rfl (yf_loadL 2 rfl rfl rfl Tryz.underlying87 rfl) ?_
      (refine wl_free .none rfl (yf_indexAddrS (j := 0) (es := 4) rfl rfl Tryz.underlying87 (by kernel_rfl) rfl ?_ rfl) ?_; (· first | decide | omega | (simp; done) | (simp; omega)); skip)
      refine wl_free .none rfl (yf_fieldAddr (off := 2) (sz := 0) rfl Tryz.underlying92 (by kernel_rfl) rfl) ?_
      refine wl_free .none rfl (yf_load (v := .string ⟨(E.tk s.at_).text.toArray⟩) rfl Tryz.underlying9 rfl (fun w h => tkAt (HpG.x h).2 hs 2 rfl (by omega))) ?_
      refine wl_free .none rfl (yf_assign rfl) ?_
      refine wl_nil ?_
      refine wq_then ?_
      refine wc_seq ?_
      refine wc_weak (.cons (i := 0) rfl <| .cons (i := 1) rfl <| .cons (i := 4) rfl <| .cons (i := 5) rfl <| .cons (i := 6) rfl <| .cons (i := 22) rfl <| .nil) ?_
      refine wc_region ?_
      refine wl_levels (bp_lt hb) .none rfl  (fun gl FL hFL => ?_)
      refine wl_free .none rfl (yf_move rfl) ?_
      refine wl_free .none rfl (yf_lookupS rfl rfl (fun w h => (HpG.x h).1.2.2) Tryz.underlying185 Tryz.underlying9 zero_int) ?_
      refine wl_free .none rfl (yf_move rfl) ?_
      refine wl_free .none rfl (yf_extract rfl rfl) ?_
      refine wl_free .none rfl (yf_extract rfl rfl) ?_
      refine wl_free .none rfl (yf_assign rfl) ?_
      refine wl_free .none rfl (yf_assign rfl) ?_
      refine wl_nil ?_
      refine wq_then ?_
      refine wc_seq ?_
      refine wc_seq ?_
      refine wc_weak (.cons (i := 0) rfl <| .cons (i := 1) rfl <| .cons (i := 4) rfl <| .cons (i := 5) rfl <| .cons (i := 6) rfl <| .cons (i := 7) rfl <| .cons (i := 8) rfl <| .cons (i := 22) rfl <| .nil) ?_
      refine wc_region ?_
      refine wl_free .none rfl (yf_move rfl) ?_
      refine wl_free .none rfl (yf_not rfl) ?_
      refine wl_free .none rfl (yf_move rfl) ?_
      refine wl_split 38 rfl (fun h53 => ?_) (fun h53 => ?_)
      · skip
        have hl : lookB (E.tk s.at_).text levT = none := by
          cases hq : lookB (E.tk s.at_).text levT with
          | none => rfl
          | some l => rw [hq] at h53; simp at h53
        cases loopS_none hrun hl
        refine wl_pass (.some rfl rfl rfl) rfl ?_
        refine wl_pass (.some rfl rfl rfl) rfl ?_
        refine wl_pass (.some rfl rfl rfl) rfl ?_
        refine wl_free .none rfl (yf_pickT rfl rfl) ?_
        refine wl_nil ?_
        refine wq_then ?_
        refine wc_true rfl ?_
        refine wc_exit ?_
        refine wq_then_exit ?_
        refine wq_far rfl ?_
        refine wq_then_exit ?_
        refine wq_here ?_
        refine wq_then ?_
        refine wc_seq ?_
        refine wc_weak (.cons (i := 0) rfl <| .cons (i := 1) rfl <| .cons (i := 4) rfl <| .cons (i := 5) rfl <| .cons (i := 6) rfl <| .cons (i := 7) rfl <| .cons (i := 8) rfl <| .cons (i := 22) rfl <| .cons (i := 42) rfl <| .nil) ?_
        refine wc_region ?_
        refine wl_free .none rfl (yf_loadAllL 0 rfl rfl Tryz.underlying57 rfl (by kernel_rfl)) ?_
        refine wl_chain0 .none (cf_storeRow 1 rfl rfl rfl rfl rfl (by kernel_rfl)) (fun _ => ?_)
        refine wl_nil ?_
        refine wq_then ?_
        refine wc_ret ?_
        refine wq_retC rfl rfl 1 rfl Tryz.underlying57 rfl (by kernel_rfl) (fun w hw => ?_)
        exact ⟨A, cap, rfl, hcc, HpG.keep hw, HpG.blkL (j := 2) hw rfl, exsK.lies.mono hF (HpG.x hw).2.1⟩
      · skip
        obtain ⟨l, hl⟩ : ∃ l, lookB (E.tk s.at_).text levT = some l := by
          cases hq : lookB (E.tk s.at_).text levT with
          | none => rw [hq] at h53; simp at h53
          | some l => exact ⟨l, rfl⟩
        have hl8 := levOf_lt hl
        rw [hl]
        dsimp only [Option.getD]
        refine wl_free (.some rfl rfl) rfl (yf_move rfl) ?_
        refine wl_free (.some rfl rfl) rfl (yf_move rfl) ?_
        refine wl_free (.some rfl rfl) rfl (yf_lss rfl rfl) ?_
        refine wl_free .none rfl (yf_pickF rfl rfl) ?_
        refine wl_nil ?_
        refine wq_then ?_
        refine wc_cond rfl (fun h42 => ?_) (fun h42 => ?_)
        · replace h42 := of_decide_eq_true h42
          cases loopS_low hrun hl (by omega)
          refine wc_exit ?_
          refine wq_then_exit ?_
          refine wq_far rfl ?_
          refine wq_then_exit ?_
          refine wq_here ?_
          refine wq_then ?_
          refine wc_seq ?_
          refine wc_weak (.cons (i := 0) rfl <| .cons (i := 1) rfl <| .cons (i := 4) rfl <| .cons (i := 5) rfl <| .cons (i := 6) rfl <| .cons (i := 7) rfl <| .cons (i := 8) rfl <| .cons (i := 22) rfl <| .cons (i := 42) rfl <| .nil) ?_
          refine wc_region ?_
          refine wl_free .none rfl (yf_loadAllL 0 rfl rfl Tryz.underlying57 rfl (by kernel_rfl)) ?_
          refine wl_chain0 .none (cf_storeRow 1 rfl rfl rfl rfl rfl (by kernel_rfl)) (fun _ => ?_)
          refine wl_nil ?_
          refine wq_then ?_
          refine wc_ret ?_
          refine wq_retC rfl rfl 1 rfl Tryz.underlying57 rfl (by kernel_rfl) (fun w hw => ?_)
          exact ⟨A, cap, rfl, hcc, HpG.keep hw, HpG.blkL (j := 2) hw rfl, exsK.lies.mono hF (HpG.x hw).2.1⟩
        · replace h42 := of_decide_eq_false h42
          obtain ⟨y, s1, hy1, hy2⟩ := loopS_go hrun hc hl (by omega)
          have hyf := (exF_le (f := k) (g := f) (by omega)).bin (l + 1) _ _ hy1
          have hs1 := (exF_g hE.kind k).bin (l + 1) _ ha y s1 hy1
          refine wc_skip ?_
          refine wq_then ?_
          refine wc_seq ?_
          refine wc_weak (.cons (i := 0) rfl <| .cons (i := 1) rfl <| .cons (i := 4) rfl <| .cons (i := 5) rfl <| .cons (i := 6) rfl <| .cons (i := 7) rfl <| .cons (i := 8) rfl <| .cons (i := 22) rfl <| .cons (i := 42) rfl <| .nil) ?_
          refine wc_region ?_
          refine wl_free .none rfl (yf_move rfl) ?_
          refine wl_free .none rfl (yf_move rfl) ?_
          refine wl_free .none rfl (yf_nilCheck rfl) ?_
          refine wl_free .none rfl (yf_fieldAddr (off := 0) (sz := 0) rfl Tryz.underlying90 (by kernel_rfl) rfl) ?_
          refine wl_free .none rfl (yf_loadL 2 rfl rfl rfl Tryz.underlying87 rfl) ?_
          refine wl_free .none rfl (yf_adv hE ha rfl rfl Tryz.underlying87 (by kernel_rfl)) ?_
          refine wl_free .none rfl (yf_nilCheck rfl) ?_
          refine wl_free .none rfl (yf_fieldAddr (off := 0) (sz := 0) rfl Tryz.underlying90 (by kernel_rfl) rfl) ?_
          refine wl_chain0 .none (cf_store 2 rfl rfl rfl rfl rfl (by kernel_rfl)) (fun _ => ?_)
          refine wl_nil ?_
          refine wq_then ?_
          refine wc_weak (.cons (i := 0) rfl <| .cons (i := 1) rfl <| .cons (i := 4) rfl <| .cons (i := 5) rfl <| .cons (i := 6) rfl <| .cons (i := 7) rfl <| .cons (i := 8) rfl <| .cons (i := 22) rfl <| .cons (i := 42) rfl <| .nil) ?_
          refine wc_drawTN 8 [0, 1, 2, 3, 4, 5, 6, 7] (Blk b5 _) (by kernel_rfl) (by kernel_rfl) Blk.stab (fun w h => HpG.blk h (k := 0) rfl) (fun n0 hn0 => ?_)
          refine wd_at rfl ?_
          (refine wd_free ?_ .none rfl (yf_move rfl) ?_; (· rfl);  skip)
          refine wd_at rfl ?_
          (refine wd_free ?_ .none rfl (yf_loadRowJ rfl Tryz.underlying57 rfl (by kernel_rfl)) ?_; (· rfl);  skip)
          refine wd_at rfl ?_
          (refine wd_free ?_ .none rfl (yf_move rfl) ?_; (· rfl);  skip)
          refine wd_at rfl ?_
          (refine wd_free ?_ .none rfl (yf_move rfl) ?_; (· rfl);  skip)
          refine wd_at rfl ?_
          (refine wd_free ?_ .none rfl (yf_add rfl rfl (show IntKind.i64.wrap ((l : Int) + 1) = ((l + 1 : Nat) : Int) from by rw [i64_in _ (by omega) (by omega)]; simp)) ?_; (· rfl);  skip)
          refine wd_at rfl ?_
          refine wd_ex E (adv s) y s1 bp 2 (bp_lt hb) (fun _ h => h.2.2) (fun w w' h1 h2 hK => h2.keep hK (HpG.ne h1 (i := 0) (j := 2) rfl rfl rfl)) (fun w h1 h2 => IH.bin (l + 1) _ y s1 (by omega) hyf ha bp w h1 h2) .none rfl  (by kernel_rfl) rfl rfl (fun A2 cap2 F2 hF2 hc2 => ?_)
          refine wd_at rfl ?_
          refine wd_newH ?_ .none rfl (fun k hk => .inr (Nat.lt_of_lt_of_le hk hn0)) (nf_bs2 (z := .agg #[.int .i64 0, .int .u32 0, .string ⟨#[]⟩, .slice none 0 0]) rfl rfl rfl rfl Tryz.underlying55 (by kernel_rfl) (by kernel_rfl) rfl rfl rfl) (fun b57 hb57 => ?_)
          · rfl
          refine wd_at rfl ?_
          (refine wd_free ?_ .none rfl (yf_buildS [.int .i64 0, .int .u32 0, .string ⟨#[]⟩, .slice none 0 0] [(0, 1), (1, 1), (2, 1), (3, 1)] rfl (by kernel_rfl) (by kernel_rfl) rfl) ?_; (· rfl);  skip)
          refine wd_endTH ?_
          simp only [List.drop_succ_cons, List.drop_zero]
          refine wl_chain0 .none (cf_storeRow 1 rfl rfl rfl rfl rfl (by kernel_rfl)) (fun _ => ?_)
          refine wl_nil ?_
          refine wq_block ?_
          refine wq_round (ι := {j : BiJ // BiOk E f n x s' w_0.heap.size j}) ⟨⟨k, .mk 7 0 (E.tk s.at_).text [e, y], s1, some ⟨b57, 0, none⟩, 2, fun k => F k ∨ F2 k ∨ (k = b57 ∧ w_0.heap.size ≤ k)⟩, ⟨hy2, by show k ≤ f; omega, hs1.2.1, fun k hk => by rcases hk with h | h | h; exact hF k h; exact hF2 k h; exact h.2, fun h => by cases h⟩⟩ (by show k < k + 1; omega) (.cons rfl <| .cons rfl <| .cons rfl <| .cons rfl <| .nil) (fun w h => ?_)
          have hfr := HpG.fresh (j := 0) (i := 3) h rfl rfl rfl
          refine Hp.weakX (Hp.toX h (HpG.ne h (i := 0) (j := 3) rfl rfl rfl)) fun u ⟨hu1, hu2, _, hu3, hu4⟩ => ⟨⟨cp22, _, Blk.rdF hu1 (.inr (.inr ⟨rfl, hfr⟩)), ?_⟩, hu4⟩
          exact ExsV.append (ExsV.lies.mono (fun _ h => .inl h) hu3.one) (ExsV.lies.mono (fun _ h => .inr (.inl h)) hu2.one)
    · replace h22 := beq_no h22
      cases loopS_end hrun (fun h => by omega)
      refine wc_exit ?_
      refine wq_then_exit ?_
      refine wq_then_exit ?_
      refine wq_here ?_
      refine wq_then ?_
      refine wc_seq ?_
      refine wc_weak (.cons (i := 0) rfl <| .cons (i := 1) rfl <| .cons (i := 4) rfl <| .cons (i := 5) rfl <| .cons (i := 22) rfl <| .nil) ?_
      refine wc_region ?_
      refine wl_free .none rfl (yf_loadAllL 0 rfl rfl Tryz.underlying57 rfl (by kernel_rfl)) ?_
      refine wl_chain0 .none (cf_storeRow 1 rfl rfl rfl rfl rfl (by kernel_rfl)) (fun _ => ?_)
      refine wl_nil ?_
      refine wq_then ?_
      refine wc_ret ?_
      refine wq_retC rfl rfl 1 rfl Tryz.underlying57 rfl (by kernel_rfl) (fun w hw => ?_)
      exact ⟨A, cap, rfl, hcc, HpG.keep hw, HpG.blkL (j := 2) hw rfl, exsK.lies.mono hF (HpG.x hw).1⟩
  · skip
    cases loopS_end hrun (fun h => by simp_all)
    refine wl_pass (.some rfl rfl rfl) rfl ?_
    refine wl_pass (.some rfl rfl rfl) rfl ?_
    refine wl_pass (.some rfl rfl rfl) rfl ?_
    refine wl_pass (.some rfl rfl rfl) rfl ?_
    refine wl_pass (.some rfl rfl rfl) rfl ?_
    refine wl_pass (.some rfl rfl rfl) rfl ?_
    refine wl_pass (.some rfl rfl rfl) rfl ?_
    refine wl_pass (.some rfl rfl rfl) rfl ?_
    refine wl_free .none rfl (yf_pickF rfl rfl) ?_
    refine wl_nil ?_
    refine wq_then ?_
    refine wc_false rfl ?_
    refine wc_exit ?_
    refine wq_then_exit ?_
    refine wq_then_exit ?_
    refine wq_here ?_
    refine wq_then ?_
    refine wc_seq ?_
    refine wc_weak (.cons (i := 0) rfl <| .cons (i := 1) rfl <| .cons (i := 4) rfl <| .cons (i := 5) rfl <| .cons (i := 22) rfl <| .nil) ?_
    refine wc_region ?_
    refine wl_free .none rfl (yf_loadAllL 0 rfl rfl Tryz.underlying57 rfl (by kernel_rfl)) ?_
    refine wl_chain0 .none (cf_storeRow 1 rfl rfl rfl rfl rfl (by kernel_rfl)) (fun _ => ?_)
    refine wl_nil ?_
    refine wq_then ?_
    refine wc_ret ?_
    refine wq_retC rfl rfl 1 rfl Tryz.underlying57 rfl (by kernel_rfl) (fun w hw => ?_)
    exact ⟨A, cap, rfl, hcc, HpG.keep hw, HpG.blkL (j := 2) hw rfl, exsK.lies.mono hF (HpG.x hw).1⟩
theorem ex_step {E : PE} (hE : E.Ok) {f : Nat} (hf : f ≤ 100000000) (IH : EOk E f) : EOk E (f + 1) :=
  ⟨fun s x s' hr hs bp w hb hX => primary_any hE IH hf s x s' hr hs bp w hb hX, fun s x s' hr hs bp w hb hX => unary_any hE IH s x s' hr hs bp w hb hX, fun n s x s' hn hr hs bp w hb hX => binary_any hE IH n hn s x s' hr hs bp w hb hX⟩
theorem ex_all {E : PE} (hE : E.Ok) : ∀ f, f ≤ 100000000 → EOk E f
  | 0, _ => ⟨fun _ _ _ h => (by cases h), fun _ _ _ h => (by cases h), fun _ _ _ _ _ h => (by cases h)⟩
  | f + 1, h => ex_step hE (by omega) (ex_all hE f (by omega))
end Go.Proofs.YtfpkpnkdnammnaaGreatDoor
