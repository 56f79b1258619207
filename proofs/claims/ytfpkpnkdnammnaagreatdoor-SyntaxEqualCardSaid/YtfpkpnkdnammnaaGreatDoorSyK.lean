/- The parser of expressions: binary; all of them. -/
import Derived.Test.YtfpkpnkdnammnaaGreatDoorSyJ
namespace Go.Proofs.YtfpkpnkdnammnaaGreatDoor
open Go.RowKit
structure BiJ where
 k : Nat
 e : Ex
 s : PS
 A : Option Addr
 cap : Nat
 F : Nat → Prop
structure BiOk (E : PE) (f n : Nat) (x : Ex) (s' : PS) (n0 : Nat) (j : BiJ) : Prop where
 run : (exF E.tk j.k).loop n j.e j.s = some (x, s')
 k : j.k ≤ f
 at_ : j.s.at_ ≤ E.m
 F : ∀ k, j.F k → n0 ≤ k
 c : j.e.kind = 4 → j.cap = j.e.kids.length
section
variable {tk : Nat → Tok} {r : EF} {s : PS} {p : Ex × PS} {n : Nat} {e : Ex}
theorem loopS_end (h : tB tk r n e s = some p) (hc : ¬ (s.err = 0 ∧ (tk s.at_).kind = 3)) : p = (e, s) := by
 unfold tB at h; rw [if_neg hc] at h; cases h; rfl
theorem loopS_none (h : tB tk r n e s = some p) (hl : vK (tk s.at_).text levT = none) : p = (e, s) := by
 unfold tB at h; have hl' : levOf (tk s.at_).text = none := hl
 split at h
 ·rw [hl'] at h; cases h; rfl
 ·cases h; rfl
theorem loopS_low (h : tB tk r n e s = some p) {l : Nat} (hl : vK (tk s.at_).text levT = some l) (hn : l < n) : p = (e, s) := by
 unfold tB at h; have hl' : levOf (tk s.at_).text = some l := hl
 split at h
 ·rw [hl'] at h; dsimp only at h; rw [if_pos hn] at h; cases h; rfl
 ·cases h; rfl
theorem loopS_go (h : tB tk r n e s = some p) (hc : s.err = 0 ∧ (tk s.at_).kind = 3) {l : Nat} (hl : vK (tk s.at_).text levT = some l) (hn : ¬ l < n) : ∃ x s1, r.bin (l + 1) (adv s) = some (x, s1) ∧ r.loop n (.mk 7 0 (tk s.at_).text [e, x]) s1 = some p := by
 unfold tB at h; have hl' : levOf (tk s.at_).text = some l := hl; rw [if_pos hc, hl'] at h; dsimp only at h; rw [if_neg hn] at h; exact yB h
end
theorem zero_int (w : World) : (zeroValue 3).run Tryz.prog w = .ok (.int .i64 0) w := by
 have h := Tryz.zeroValue3; exact h w
set_option maxRecDepth 100000 in
theorem binary_any {E : PE} (hE : E.Ok) {f : Nat} (IH : EOk E f) (n : Nat) (hn : n ≤ 8) (s : PS) (x : Ex) (s' : PS) (hr : binS (exF E.tk f) n s = some (x, s')) (hs : s.at_ ≤ E.m) (bp : Nat) (w_0 : World) (hb : w_0.heap[bp]? = some (pO E s)) (hX : TkX E w_0) : Calls Tryz.prog 167 #[.pointer (some ⟨bp, 0, none⟩), .int .i64 n] w_0 (rY E bp w_0 x s') := by
 obtain ⟨e0, s0, hu, hl0⟩ := yB hr; have hs0 := (exF_g hE.kind f).un s hs e0 s0 hu; refine yU (args := [.pointer (some ⟨bp, 0, none⟩), .int .i64 n]) Tryz.func167 V 60 V (Nat.le_of_ble_eq_true V) <| Z2 0 1 V V <| zB (H' := Hp (fun k => k = bp) w_0 [(bp, pO E s)] [] (TkX E)) (fun u hu => ?_) ?_
 ·subst hu; exact Hp.startP hb hX
 refine zY <| zX <| zG .none V (yQ (z := .agg #[.int .i64 0, .int .u32 0, .string ⟨#[]⟩, .slice none 0 0]) (cs := [.int .i64 0, .int .u32 0, .string ⟨#[]⟩, .slice none 0 0]) (by kernel_rfl) V) (fun b4 => ?_); refine ZX <| zX <| Zm V V <| wl_ex E s e0 s0 bp 1 (vQ hb) (fun _ h => h) (fun w h1 h2 => IH.un s e0 s0 hu hs bp w h1 h2) .none V  (by kernel_rfl) V V (fun A0 cap0 F0 hF0 hc0 => ?_); refine zG .none V (yQ (z := .agg #[.int .i64 0, .int .u32 0, .string ⟨#[]⟩, .slice none 0 0]) (cs := [.int .i64 0, .int .u32 0, .string ⟨#[]⟩, .slice none 0 0]) (by kernel_rfl) V) (fun b5 => ?_); refine ZR 0 V V V V V (by kernel_rfl) ?_; refine ZX <| yT <| xS (ι := {j : BiJ // BiOk E f n x s' w_0.heap.size j}) (fun _ => [(0, .pointer (some ⟨bp, 0, none⟩)), (1, .int .i64 n), (4, .pointer (some ⟨b4, 0, none⟩)), (5, .pointer (some ⟨b5, 0, none⟩))]) (fun j => Hp (fun k => k = bp) w_0 [(b5, bk 57 (xT j.1.e j.1.A j.1.cap)), (b4, bk 57 (exC 0 0 [] none 0 0)), (bp, pO E j.1.s)] [] (fun u => xY j.1.F u j.1.e j.1.A j.1.cap ∧ TkX E u)) (fun j => j.1.k) ⟨⟨f, e0, s0, A0, cap0, F0⟩, ⟨hl0, Nat.le_refl _, hs0.2.1, hF0, hc0⟩⟩ ?_ ?_ (fun j => ?_)
 ·exact .cons V <| .cons V <| .cons V <| .cons V <| .nil
 ·exact fun w h => h
 obtain ⟨⟨k, e, s, A, cap, F⟩, ⟨hrun, hk, hs, hF, hcc⟩⟩ := j; dsimp only at hrun hk hs hF hcc ⊢
 cases k with
 | zero => cases hrun
 | succ k => ?_
 have hrun : tB E.tk (exF E.tk k) n e s = some (x, s') := hrun; refine zY <| zY <| zX <| Zm V V <| wl_ok E s bp 2 .none V  V V <| Zm V V <| yZ 13 V (fun h23 => ?_) (fun h23 => ?_)
 ·refine ZG V V V (zR V) <| ZG V V V (yV V) <| ZG V V V (zZ (off := 0) (sz := 0) V Tryz.underlying90 (by kernel_rfl) V) ?_; refine ZG V V V (zV 2 V V V Tryz.underlying87 V) ?_; (refine ZG rfl rfl rfl (zS (j := 0) (es := 4) rfl rfl Tryz.underlying87 (by kernel_rfl) rfl ?_ rfl) ?_; (· first | decide | omega | (simp; done) | (simp; omega)); skip); refine ZG V V V (zZ (off := 0) (sz := 0) V Tryz.underlying92 (by kernel_rfl) V) ?_; refine ZG V V V (yS (v := .int .i64 (E.tk s.at_).kind) V Tryz.underlying3 V (fun w h => tkAt (HpG.x h).2 hs 0 V (by omega))) ?_; refine ZG V V V (yP V V) <| ZF V (zM V V) <| ZT <| zO V (fun h22 => ?_) (fun h22 => ?_)
  ·replace h22 := eq_of_beq h22; have hc : s.err = 0 ∧ (E.tk s.at_).kind = 3 := ⟨by simpa using h23, by omega⟩; have ha := rZ hE.kind hs (by omega) (by omega); refine zA <| zQ <| yT <| zY <| Z5r 0 1 4 5 22 V V V V V <| Zm V V <| Zn V V <| ZF V (zZ (off := 0) (sz := 0) V Tryz.underlying90 (by kernel_rfl) V) ?_; refine ZF V (zV 2 V V V Tryz.underlying87 V) ?_; (refine ZF rfl (zS (j := 0) (es := 4) rfl rfl Tryz.underlying87 (by kernel_rfl) rfl ?_ rfl) ?_; (· first | decide | omega | (simp; done) | (simp; omega)); skip); refine ZF V (zZ (off := 2) (sz := 0) V Tryz.underlying92 (by kernel_rfl) V) ?_; refine ZF V (yS (v := .string ⟨(E.tk s.at_).text.toArray⟩) V Tryz.underlying9 V (fun w h => tkAt (HpG.x h).2 hs 2 V (by omega))) ?_; refine Za V V <| ZX <| Z6r 0 1 4 5 6 22 V V V V V V <| wl_levels (vQ hb) .none V  (fun gl FL hFL => ?_); refine Zm V V <| ZF V (yf_lookupS V V (fun w h => (HpG.x h).1.2.2) Tryz.underlying185 Tryz.underlying9 zero_int) ?_; refine Zm V V <| ZF V (xO V V) <| ZF V (xO V V) <| Za V V <| Za V V <| ZX <| zY <| Z8r 0 1 4 5 6 7 8 22 V V V V V V V V <| Zm V V <| ZF V (xF V) <| Zm V V <| yZ 38 V (fun h53 => ?_) (fun h53 => ?_)
   ·have hl : vK (E.tk s.at_).text levT = none := by
     cases hq : vK (E.tk s.at_).text levT with
     | none => rfl
     | some l => rw [hq] at h53; simp at h53
    cases loopS_none hrun hl; refine ZP V <| ZP V <| ZP V <| ZF V (zM V V) <| ZT <| vD V <| xV <| zL <| wq_far V <| zL <| xW <| zQ <| zY <| Z9r 0 1 4 5 6 7 8 22 42 V V V V V V V V V <| ZF V (zC 0 V V Tryz.underlying57 V (by kernel_rfl)) ?_; refine ZR 1 V V V V V (by kernel_rfl) ?_; refine ZT <| zI <| yI V V 1 V Tryz.underlying57 V (by kernel_rfl) (fun w hw => ?_); exact ⟨A, cap, rfl, hcc, HpG.keep hw, HpG.blkL (j := 2) hw rfl, xY.lies.mono hF (HpG.x hw).2.1⟩
   ·obtain ⟨l, hl⟩ : ∃ l, vK (E.tk s.at_).text levT = some l := by
     cases hq : vK (E.tk s.at_).text levT with
     | none => rw [hq] at h53; simp at h53
     | some l => exact ⟨l, rfl⟩
    have hl8 := levOf_lt hl; rw [hl]; dsimp only [Option.getD]; refine ZG V V V (zR V) <| ZG V V V (zR V) <| ZG V V V (xP V V) <| ZF V (zK V V) <| ZT <| zO V (fun h42 => ?_) (fun h42 => ?_)
    ·replace h42 := of_decide_eq_true h42; cases loopS_low hrun hl (by omega); refine xV <| zL <| wq_far V <| zL <| xW <| zQ <| zY <| Z9r 0 1 4 5 6 7 8 22 42 V V V V V V V V V <| ZF V (zC 0 V V Tryz.underlying57 V (by kernel_rfl)) ?_; refine ZR 1 V V V V V (by kernel_rfl) ?_; refine ZT <| zI <| yI V V 1 V Tryz.underlying57 V (by kernel_rfl) (fun w hw => ?_); exact ⟨A, cap, rfl, hcc, HpG.keep hw, HpG.blkL (j := 2) hw rfl, xY.lies.mono hF (HpG.x hw).2.1⟩
    ·replace h42 := of_decide_eq_false h42; obtain ⟨y, s1, hy1, hy2⟩ := loopS_go hrun hc hl (by omega); have hyf := (exF_le (f := k) (g := f) (by omega)).bin (l + 1) _ _ hy1; have hs1 := (exF_g hE.kind k).bin (l + 1) _ ha y s1 hy1; refine zA <| zQ <| zY <| Z9r 0 1 4 5 6 7 8 22 42 V V V V V V V V V <| Zm V V <| Zm V V <| Zn V V <| ZF V (zZ (off := 0) (sz := 0) V Tryz.underlying90 (by kernel_rfl) V) ?_; refine ZF V (zV 2 V V V Tryz.underlying87 V) <| ZF V (yf_adv hE ha V V Tryz.underlying87 (by kernel_rfl)) ?_; refine Zn V V <| ZF V (zZ (off := 0) (sz := 0) V Tryz.underlying90 (by kernel_rfl) V) ?_; refine ZS 2 V V V V V (by kernel_rfl) ?_; refine ZT <| Z9 0 1 4 5 6 7 8 22 42 V V V V V V V V V <| xH 8 [0, 1, 2, 3, 4, 5, 6, 7] (Blk b5 _) (by kernel_rfl) (by kernel_rfl) Blk.stab (fun w h => HpG.blk h (k := 0) V) (fun n0 hn0 => ?_); refine Zd V V V (zR V) <| Zd V V V (xR V Tryz.underlying57 V (by kernel_rfl)) ?_; refine Zd V V V (zR V) <| Zd V V V (zR V) <| Zd V V V (yD V V (show IntKind.i64.wrap ((l : Int) + 1) = ((l + 1 : Nat) : Int) from by rw [i64_in _ (by omega) (by omega)]; simp)) ?_; refine yY V <| wd_ex E (adv s) y s1 bp 2 (vQ hb) (fun _ h => h.2.2) (fun w w' h1 h2 hK => h2.keep hK (HpG.ne h1 (i := 0) (j := 2) V V V)) (fun w h1 h2 => IH.bin (l + 1) _ y s1 (by omega) hyf ha bp w h1 h2) .none V  (by kernel_rfl) V V (fun A2 cap2 F2 hF2 hc2 => ?_); refine yY V <| wE ?_ .none V (fun k hk => .inr (Nat.lt_of_lt_of_le hk hn0)) (nf_bs2 (z := .agg #[.int .i64 0, .int .u32 0, .string ⟨#[]⟩, .slice none 0 0]) V V V V Tryz.underlying55 (by kernel_rfl) (by kernel_rfl) V V V) (fun b57 hb57 => ?_)
     ·rfl
     refine yY V ?_; (refine zD ?_ .none rfl (yX [.int .i64 0, .int .u32 0, .string ⟨#[]⟩, .slice none 0 0] [(0, 1), (1, 1), (2, 1), (3, 1)] rfl (by kernel_rfl) (by kernel_rfl) rfl) ?_; ·rfl); refine xB ?_; simp only [List.drop_succ_cons, List.drop_zero]; refine ZR 1 V V V V V (by kernel_rfl) ?_; refine zW <| zE <| xJ (ι := {j : BiJ // BiOk E f n x s' w_0.heap.size j}) ⟨⟨k, .mk 7 0 (E.tk s.at_).text [e, y], s1, some ⟨b57, 0, none⟩, 2, fun k => F k ∨ F2 k ∨ (k = b57 ∧ w_0.heap.size ≤ k)⟩, ⟨hy2, by show k ≤ f; omega, hs1.2.1, fun k hk => by rcases hk with h | h | h; exact hF k h; exact hF2 k h; exact h.2, fun h => by cases h⟩⟩ (by show k < k + 1; omega) (O4 rfl rfl rfl rfl) (fun w h => ?_); have hfr := HpG.fresh (j := 0) (i := 3) h rfl rfl rfl; refine Hp.weakX (Hp.toX h (HpG.ne h (i := 0) (j := 3) V V V)) fun u ⟨hu1, hu2, _, hu3, hu4⟩ => ⟨⟨cp22, _, Blk.rdF hu1 (.inr (.inr ⟨rfl, hfr⟩)), ?_⟩, hu4⟩; exact ExsV.append (ExsV.lies.mono (fun _ h => .inl h) hu3.one) (ExsV.lies.mono (fun _ h => .inr (.inl h)) hu2.one)
  ·replace h22 := yL h22; cases loopS_end hrun (fun h => by omega); refine xV <| zL <| zL <| xW <| zQ <| zY <| Z5r 0 1 4 5 22 V V V V V <| ZF V (zC 0 V V Tryz.underlying57 V (by kernel_rfl)) ?_; refine ZR 1 V V V V V (by kernel_rfl) ?_; refine ZT <| zI <| yI V V 1 V Tryz.underlying57 V (by kernel_rfl) (fun w hw => ?_); exact ⟨A, cap, rfl, hcc, HpG.keep hw, HpG.blkL (j := 2) hw rfl, xY.lies.mono hF (HpG.x hw).1⟩
 ·cases loopS_end hrun (fun h => by simp_all); refine ZP V <| ZP V <| ZP V <| ZP V <| ZP V <| ZP V <| ZP V <| ZP V <| ZF V (zK V V) <| ZT <| vO V <| xV <| zL <| zL <| xW <| zQ <| zY <| Z5r 0 1 4 5 22 V V V V V <| ZF V (zC 0 V V Tryz.underlying57 V (by kernel_rfl)) ?_; refine ZR 1 V V V V V (by kernel_rfl) ?_; refine ZT <| zI <| yI V V 1 V Tryz.underlying57 V (by kernel_rfl) (fun w hw => ?_); exact ⟨A, cap, rfl, hcc, HpG.keep hw, HpG.blkL (j := 2) hw rfl, xY.lies.mono hF (HpG.x hw).1⟩
theorem ex_step {E : PE} (hE : E.Ok) {f : Nat} (hf : f ≤ 100000000) (IH : EOk E f) : EOk E (f + 1) :=
 ⟨fun s x s' hr hs bp w hb hX => primary_any hE IH hf s x s' hr hs bp w hb hX, fun s x s' hr hs bp w hb hX => unary_any hE IH s x s' hr hs bp w hb hX, fun n s x s' hn hr hs bp w hb hX => binary_any hE IH n hn s x s' hr hs bp w hb hX⟩
theorem ex_all {E : PE} (hE : E.Ok) : ∀ f, f ≤ 100000000 → EOk E f
 | 0, _ => ⟨fun _ _ _ h => (by cases h), fun _ _ _ h => (by cases h), fun _ _ _ _ _ h => (by cases h)⟩
 | f + 1, h => ex_step hE (by omega) (ex_all hE f (by omega))
end Go.Proofs.YtfpkpnkdnammnaaGreatDoor
