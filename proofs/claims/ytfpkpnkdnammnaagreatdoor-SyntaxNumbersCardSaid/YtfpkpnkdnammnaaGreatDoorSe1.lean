/- The reference's equality of expressions. -/
import Derived.Test.YtfpkpnkdnammnaaGreatDoorSs1
namespace Go.Proofs.YtfpkpnkdnammnaaGreatDoor
open Go.RowKit
noncomputable def dq (p : Prop) : Bool := @decide p (Classical.propDecidable p)
theorem dq_true {p : Prop} (h : p) : dq p = true := by unfold dq; exact @decide_eq_true p (Classical.propDecidable p) h
theorem dq_false {p : Prop} (h : ¬ p) : dq p = false := by unfold dq; exact @decide_eq_false p (Classical.propDecidable p) h
theorem dq_iff {p : Prop} : dq p = true ↔ p := ⟨fun h => Classical.byContradiction (fun hp => by rw [dq_false hp] at h; cases h), dq_true⟩
theorem ex_ext {x y : Ex} (h1 : x.kind = y.kind) (h2 : x.n = y.n) (h3 : x.name = y.name) (h4 : x.kids = y.kids) : x = y := by
  cases x; cases y
  simp only [Ex.kind, Ex.n, Ex.name, Ex.kids] at h1 h2 h3 h4
  subst h1; subst h2; subst h3; subst h4; rfl
/-- Two lists of expressions lie there. -/
structure EE2 (F : Nat → Prop) (w : World) (a b : List Ex) (A B : Option Addr) (c d : Nat) : Prop where
  ka : Cp a.length c ∧ ∃ x, RdF F A x w ∧ ExsV F w a x
  kb : Cp b.length d ∧ ∃ x, RdF F B x w ∧ ExsV F w b x
theorem EE2.lies {a b : List Ex} {A B : Option Addr} {c d : Nat} : Lies fun F w => EE2 F w a b A B c d :=
  ⟨fun hk ⟨⟨p1, x, h1, h2⟩, ⟨p2, y, h3, h4⟩⟩ => ⟨⟨p1, x, RdF.lies.foot hk h1, ExsV.lies.foot hk h2⟩, ⟨p2, y, RdF.lies.foot hk h3, ExsV.lies.foot hk h4⟩⟩, fun ⟨⟨p1, x, h1, h2⟩, ⟨p2, y, h3, h4⟩⟩ => ⟨⟨p1, x, RdF.lies.lt h1, ExsV.lies.lt h2⟩, ⟨p2, y, RdF.lies.lt h3, ExsV.lies.lt h4⟩⟩, fun hF ⟨⟨p1, x, h1, h2⟩, ⟨p2, y, h3, h4⟩⟩ => ⟨⟨p1, x, RdF.lies.mono hF h1, ExsV.lies.mono hF h2⟩, ⟨p2, y, RdF.lies.mono hF h3, ExsV.lies.mono hF h4⟩⟩⟩
def SE (a : List Ex) : Prop := ∀ (b : List Ex) (F : Nat → Prop) (A B : Option Addr) (c d : Nat) (w : World), EE2 F w a b A B c d →
  Calls Tryz.prog 89 #[.slice A a.length c, .slice B b.length d] w fun e w' => e = .returned (.bool (dq (a = b))) ∧ Ext w w'
set_option maxHeartbeats 4000000 in
set_option maxRecDepth 100000 in
theorem sameE_step (a : List Ex) (IH : ∀ x ∈ a, SE x.kids) : SE a := by
  intro b F A B c d w_0 h
  obtain ⟨⟨pa, ca, ra, va⟩, ⟨pb, cb, rb, vb⟩⟩ := h
  have hla := pa.lt
  have hlb := pb.lt
  have hA : 0 < a.length → ∃ b off, A = some ⟨b, off, none⟩ := fun h0 => by
    obtain ⟨b, off, e, _⟩ := ra (by rw [va.len]; omega)
    exact ⟨b, off, e⟩
  have hB : 0 < b.length → ∃ b off, B = some ⟨b, off, none⟩ := fun h0 => by
    obtain ⟨b, off, e, _⟩ := rb (by rw [vb.len]; omega)
    exact ⟨b, off, e⟩
  refine calls_wc (args := [.slice A a.length c, .slice B b.length d]) Tryz.func89 rfl 70 rfl (Nat.le_of_ble_eq_true rfl) ?_
  refine wc_weak (.cons (i := 0) rfl <| .cons (i := 1) rfl <| .nil) ?_
  refine wc_conseq (H' := Hp (fun _ => False) w_0 [] [] (Same F w_0)) (fun u hu => ?_) ?_
  · subst hu; exact Hp.startSame
  refine wc_seq ?_
  refine wc_region ?_
  refine wl_free .none rfl (yf_assign rfl) ?_
  refine wl_nil ?_
  refine wq_then ?_
  refine wc_seq ?_
  refine wc_seq ?_
  refine wc_region ?_
  refine wl_free .none rfl (yf_move rfl) ?_
  refine wl_free .none rfl (yf_lenS rfl Tryz.underlying55) ?_
  refine wl_free .none rfl (yf_move rfl) ?_
  refine wl_free .none rfl (yf_lenS rfl Tryz.underlying55) ?_
  refine wl_free .none rfl (yf_neq rfl rfl) ?_
  refine wl_nil ?_
  refine wq_then ?_
  refine wc_cond rfl (fun h11 => ?_) (fun h11 => ?_)
  · replace h11 := bne_yes h11
    refine wc_seq ?_
    refine wc_weak (.cons (i := 0) rfl <| .cons (i := 1) rfl <| .cons (i := 4) rfl <| .cons (i := 11) rfl <| .nil) ?_
    refine wc_region ?_
    refine wl_free .none rfl (yf_assign rfl) ?_
    refine wl_nil ?_
    refine wq_then ?_
    refine wc_ret ?_
    refine wq_then_ret ?_
    refine wq_ret1 rfl rfl (fun w hw => ?_)
    exact ⟨by rw [dq_false (fun e => by subst e; simp at h11)], (HpG.keep hw).ext⟩
  · replace h11 := bne_no h11
    have hl : a.length = b.length := by omega
    refine wc_skip ?_
    refine wq_then ?_
    refine wc_seq ?_
    refine wc_seq ?_
    refine wc_weak (.cons (i := 0) rfl <| .cons (i := 1) rfl <| .cons (i := 4) rfl <| .cons (i := 11) rfl <| .nil) ?_
    refine wc_region ?_
    refine wl_free .none rfl (yf_assign rfl) ?_
    refine wl_nil ?_
    refine wq_then ?_
    refine wc_block ?_
    refine wc_loop (ι := {i : Nat // i ≤ a.length ∧ a.take i = b.take i}) (fun i => [(0, .slice A a.length c), (1, .slice B b.length d), (5, .int .i64 i.1)]) (fun _ => Hp (fun _ => False) w_0 [] [] (Same F w_0)) (fun i => a.length - i.1) ⟨0, Nat.zero_le _, by simp⟩ ?_ ?_ (fun i => ?_)
    · exact .cons rfl <| .cons rfl <| .cons rfl <| .nil
    · exact fun w h => h
    obtain ⟨i, hi, htk⟩ := i
    dsimp only
    refine wc_seq ?_
    refine wc_seq ?_
    refine wc_region ?_
    refine wl_free .none rfl (yf_move rfl) ?_
    refine wl_free .none rfl (yf_move rfl) ?_
    refine wl_free .none rfl (yf_lenS rfl Tryz.underlying55) ?_
    refine wl_free .none rfl (yf_lss rfl rfl) ?_
    refine wl_nil ?_
    refine wq_then ?_
    refine wc_cond rfl (fun hc => ?_) (fun hc => ?_)
    · replace hc := of_decide_eq_true hc
      have hil : i < a.length := by omega
      obtain ⟨g1, o1, rfl⟩ := hA (by omega)
      obtain ⟨g2, o2, rfl⟩ := hB (by omega)
      obtain ⟨x, hx⟩ : ∃ x, a[i]? = some x := ⟨a[i], List.getElem?_eq_getElem hil⟩
      obtain ⟨y, hy⟩ : ∃ y, b[i]? = some y := ⟨b[i]'(by omega), List.getElem?_eq_getElem (by omega)⟩
      obtain ⟨A1, cap1, hfix1⟩ := va.fix hx
      have hk1 := (hfix1 F w_0 va).1
      have hc1 := (hfix1 F w_0 va).2
      obtain ⟨A2, cap2, hfix2⟩ := vb.fix hy
      have hk2 := (hfix2 F w_0 vb).1
      have hc2 := (hfix2 F w_0 vb).2
      have hab : a = b → x = y := fun e => by subst e; rw [hx] at hy; exact Option.some.inj hy
      have hkk : EE2 F w_0 x.kids y.kids A1 A2 cap1 cap2 := ⟨hk1, hk2⟩
      refine wc_skip ?_
      refine wq_then ?_
      refine wc_seq ?_
      refine wc_block ?_
      refine wc_seq ?_
      refine wc_weak (.cons (i := 0) rfl <| .cons (i := 1) rfl <| .cons (i := 5) rfl <| .cons (i := 15) rfl <| .nil) ?_
      refine wc_drawTN 11 [0, 1, 2, 3, 4, 5, 6, 7, 8, 9, 10] (Same F w_0) (by kernel_rfl) (by kernel_rfl) Same.stab (fun w h => HpG.x h) (fun n0 hn0 => ?_)
      refine wd_at rfl ?_
      (refine wd_free ?_ .none rfl (yf_move rfl) ?_; (· rfl);  skip)
      refine wd_at rfl ?_
      (refine wd_free ?_ .none rfl (yf_move rfl) ?_; (· rfl);  skip)
      refine wd_at rfl ?_
      (refine wd_free ?_ .none rfl (yf_indexAddrS (es := 4) rfl rfl Tryz.underlying55 (by kernel_rfl) rfl ?_ rfl) ?_; (· rfl); (· first | decide | omega | (simp; done) | (simp; omega)); skip)
      refine wd_at rfl ?_
      (refine wd_free ?_ .none rfl (yf_fieldAddr (off := 3) (sz := 0) rfl Tryz.underlying57 (by kernel_rfl) rfl) ?_; (· rfl);  skip)
      refine wd_at rfl ?_
      (refine wd_free ?_ .none rfl (yf_load (v := .slice A1 x.kids.length cap1) rfl Tryz.underlying55 rfl (fun w h => RdF.part (h.get RdF.lies ra) (List.getElem?_eq_some_iff.1 (hc1 3 _ rfl)).1 (by omega) (hc1 3 _ rfl))) ?_; (· rfl);  skip)
      refine wd_at rfl ?_
      (refine wd_free ?_ .none rfl (yf_move rfl) ?_; (· rfl);  skip)
      refine wd_at rfl ?_
      (refine wd_free ?_ .none rfl (yf_move rfl) ?_; (· rfl);  skip)
      refine wd_at rfl ?_
      (refine wd_free ?_ .none rfl (yf_indexAddrS (es := 4) rfl rfl Tryz.underlying55 (by kernel_rfl) rfl ?_ rfl) ?_; (· rfl); (· first | decide | omega | (simp; done) | (simp; omega)); skip)
      refine wd_at rfl ?_
      (refine wd_free ?_ .none rfl (yf_fieldAddr (off := 3) (sz := 0) rfl Tryz.underlying57 (by kernel_rfl) rfl) ?_; (· rfl);  skip)
      refine wd_at rfl ?_
      (refine wd_free ?_ .none rfl (yf_load (v := .slice A2 y.kids.length cap2) rfl Tryz.underlying55 rfl (fun w h => RdF.part (h.get RdF.lies rb) (List.getElem?_eq_some_iff.1 (hc2 3 _ rfl)).1 (by omega) (hc2 3 _ rfl))) ?_; (· rfl);  skip)
      refine wd_at rfl ?_
      refine wd_pure .none rfl  (v := .bool (dq (x.kids = y.kids))) (by kernel_rfl) rfl (fun w w' h hx => h.ext hx) (fun w hw => IH x (List.mem_of_getElem? hx) y.kids F A1 A2 cap1 cap2 w ((HpG.x hw).get EE2.lies hkk)) ?_
      refine wd_endTH ?_
      simp only [List.drop_succ_cons, List.drop_zero]
      refine wl_free .none rfl (yf_assign rfl) ?_
      refine wl_nil ?_
      refine wq_then ?_
      refine wc_seq ?_
      refine wc_weak (.cons (i := 0) rfl <| .cons (i := 1) rfl <| .cons (i := 5) rfl <| .cons (i := 6) rfl <| .cons (i := 15) rfl <| .nil) ?_
      refine wc_draw0 [0, 1, 2, 3, 4, 5, 6, 7, 8, 9, 10, 11, 12, 13, 14, 15, 16, 17, 18, 19, 20, 21, 22, 23, 24, 25, 26, 27, 28, 29, 30, 31, 32, 33, 34, 35, 36, 37, 38, 39, 40] (Same F w_0) (by kernel_rfl) (by kernel_rfl) HpG.stab Same.stab (fun _ h => HpG.drew h) (fun w h => HpG.x h) ?_
      refine wd_at rfl ?_
      (refine wd_free ?_ .none rfl (yf_move rfl) ?_; (· rfl);  skip)
      refine wd_at rfl ?_
      (refine wd_free ?_ .none rfl (yf_not rfl) ?_; (· rfl);  skip)
      refine wd_at rfl ?_
      (refine wd_free ?_ .none rfl (yf_move rfl) ?_; (· rfl);  skip)
      refine wd_split 31 rfl (fun g3 => ?_) (fun g3 => ?_)
      · skip
        refine wd_at rfl ?_
        refine wd_pass (fun _ _ h => by cases h) (.some rfl rfl rfl) rfl ?_
        refine wd_at rfl ?_
        refine wd_pass (fun _ _ h => by cases h) (.some rfl rfl rfl) rfl ?_
        refine wd_at rfl ?_
        refine wd_pass (fun _ _ h => by cases h) (.some rfl rfl rfl) rfl ?_
        refine wd_at rfl ?_
        refine wd_pass (fun _ _ h => by cases h) (.some rfl rfl rfl) rfl ?_
        refine wd_at rfl ?_
        refine wd_pass (fun _ _ h => by cases h) (.some rfl rfl rfl) rfl ?_
        refine wd_at rfl ?_
        refine wd_pass (fun _ _ h => by cases h) (.some rfl rfl rfl) rfl ?_
        refine wd_at rfl ?_
        refine wd_pass (fun _ _ h => by cases h) (.some rfl rfl rfl) rfl ?_
        refine wd_at rfl ?_
        refine wd_pass (fun _ _ h => by cases h) (.some rfl rfl rfl) rfl ?_
        refine wd_at rfl ?_
        refine wd_pass (fun _ _ h => by cases h) (.some rfl rfl rfl) rfl ?_
        refine wd_at rfl ?_
        refine wd_pass (fun _ _ h => by cases h) (.some rfl rfl rfl) rfl ?_
        refine wd_at rfl ?_
        refine wd_pass (fun _ _ h => by cases h) (.some rfl rfl rfl) rfl ?_
        refine wd_at rfl ?_
        (refine wd_free ?_ .none rfl (yf_pickT rfl rfl) ?_; (· rfl);  skip)
        refine wd_at rfl ?_
        (refine wd_free ?_ .none rfl (yf_move rfl) ?_; (· rfl);  skip)
        refine wd_at rfl ?_
        refine wd_pass (fun _ _ h => by cases h) (.some rfl rfl rfl) rfl ?_
        refine wd_at rfl ?_
        refine wd_pass (fun _ _ h => by cases h) (.some rfl rfl rfl) rfl ?_
        refine wd_at rfl ?_
        refine wd_pass (fun _ _ h => by cases h) (.some rfl rfl rfl) rfl ?_
        refine wd_at rfl ?_
        refine wd_pass (fun _ _ h => by cases h) (.some rfl rfl rfl) rfl ?_
        refine wd_at rfl ?_
        refine wd_pass (fun _ _ h => by cases h) (.some rfl rfl rfl) rfl ?_
        refine wd_at rfl ?_
        refine wd_pass (fun _ _ h => by cases h) (.some rfl rfl rfl) rfl ?_
        refine wd_at rfl ?_
        refine wd_pass (fun _ _ h => by cases h) (.some rfl rfl rfl) rfl ?_
        refine wd_at rfl ?_
        refine wd_pass (fun _ _ h => by cases h) (.some rfl rfl rfl) rfl ?_
        refine wd_at rfl ?_
        refine wd_pass (fun _ _ h => by cases h) (.some rfl rfl rfl) rfl ?_
        refine wd_at rfl ?_
        refine wd_pass (fun _ _ h => by cases h) (.some rfl rfl rfl) rfl ?_
        refine wd_at rfl ?_
        refine wd_pass (fun _ _ h => by cases h) (.some rfl rfl rfl) rfl ?_
        refine wd_at rfl ?_
        (refine wd_free ?_ .none rfl (yf_pickT rfl rfl) ?_; (· rfl);  skip)
        refine wd_at rfl ?_
        (refine wd_free ?_ .none rfl (yf_move rfl) ?_; (· rfl);  skip)
        refine wd_at rfl ?_
        refine wd_pass (fun _ _ h => by cases h) (.some rfl rfl rfl) rfl ?_
        refine wd_at rfl ?_
        refine wd_pass (fun _ _ h => by cases h) (.some rfl rfl rfl) rfl ?_
        refine wd_at rfl ?_
        refine wd_pass (fun _ _ h => by cases h) (.some rfl rfl rfl) rfl ?_
        refine wd_at rfl ?_
        refine wd_pass (fun _ _ h => by cases h) (.some rfl rfl rfl) rfl ?_
        refine wd_at rfl ?_
        refine wd_pass (fun _ _ h => by cases h) (.some rfl rfl rfl) rfl ?_
        refine wd_at rfl ?_
        refine wd_pass (fun _ _ h => by cases h) (.some rfl rfl rfl) rfl ?_
        refine wd_at rfl ?_
        refine wd_pass (fun _ _ h => by cases h) (.some rfl rfl rfl) rfl ?_
        refine wd_at rfl ?_
        refine wd_pass (fun _ _ h => by cases h) (.some rfl rfl rfl) rfl ?_
        refine wd_at rfl ?_
        refine wd_pass (fun _ _ h => by cases h) (.some rfl rfl rfl) rfl ?_
        refine wd_at rfl ?_
        refine wd_pass (fun _ _ h => by cases h) (.some rfl rfl rfl) rfl ?_
        refine wd_at rfl ?_
        refine wd_pass (fun _ _ h => by cases h) (.some rfl rfl rfl) rfl ?_
        refine wd_at rfl ?_
        (refine wd_free ?_ .none rfl (yf_pickT rfl rfl) ?_; (· rfl);  skip)
        refine wd_end ?_
        refine wq_then ?_
        refine wc_true rfl ?_
        refine wc_seq ?_
        refine wc_weak (.cons (i := 0) rfl <| .cons (i := 1) rfl <| .cons (i := 5) rfl <| .cons (i := 6) rfl <| .cons (i := 15) rfl <| .cons (i := 69) rfl <| .nil) ?_
        refine wc_region ?_
        refine wl_free .none rfl (yf_assign rfl) ?_
        refine wl_nil ?_
        refine wq_then ?_
        refine wc_ret ?_
        refine wq_block_ret ?_
        refine wq_then_ret ?_
        refine wq_then_ret ?_
        refine wq_block_ret ?_
        refine wq_then_ret ?_
        refine wq_ret1 rfl rfl (fun w hw => ?_)
        exact ⟨by rw [dq_false (fun e => by have := hab e; subst this; rw [dq_true rfl] at g3; cases g3)], (HpG.keep hw).ext⟩
      · skip
        refine wd_at rfl ?_
        (refine wd_free ?_ (.some rfl rfl) rfl (yf_move rfl) ?_; (· rfl);  skip)
        refine wd_at rfl ?_
        (refine wd_free ?_ (.some rfl rfl) rfl (yf_move rfl) ?_; (· rfl);  skip)
        refine wd_at rfl ?_
        (refine wd_free ?_ (.some rfl rfl) rfl (yf_indexAddrS (es := 4) rfl rfl Tryz.underlying55 (by kernel_rfl) rfl ?_ rfl) ?_; (· rfl); (· first | decide | omega | (simp; done) | (simp; omega)); skip)
        refine wd_at rfl ?_
        (refine wd_free ?_ (.some rfl rfl) rfl (yf_fieldAddr (off := 0) (sz := 0) rfl Tryz.underlying57 (by kernel_rfl) rfl) ?_; (· rfl);  skip)
        refine wd_at rfl ?_
        (refine wd_free ?_ (.some rfl rfl) rfl (yf_load (v := .int .i64 x.kind) rfl Tryz.underlying3 rfl (fun w h => RdF.part (h.get RdF.lies ra) (List.getElem?_eq_some_iff.1 (hc1 0 _ rfl)).1 (by omega) (hc1 0 _ rfl))) ?_; (· rfl);  skip)
        refine wd_at rfl ?_
        (refine wd_free ?_ (.some rfl rfl) rfl (yf_move rfl) ?_; (· rfl);  skip)
        refine wd_at rfl ?_
        (refine wd_free ?_ (.some rfl rfl) rfl (yf_move rfl) ?_; (· rfl);  skip)
        refine wd_at rfl ?_
        (refine wd_free ?_ (.some rfl rfl) rfl (yf_indexAddrS (es := 4) rfl rfl Tryz.underlying55 (by kernel_rfl) rfl ?_ rfl) ?_; (· rfl); (· first | decide | omega | (simp; done) | (simp; omega)); skip)
        refine wd_at rfl ?_
        (refine wd_free ?_ (.some rfl rfl) rfl (yf_fieldAddr (off := 0) (sz := 0) rfl Tryz.underlying57 (by kernel_rfl) rfl) ?_; (· rfl);  skip)
        refine wd_at rfl ?_
        (refine wd_free ?_ (.some rfl rfl) rfl (yf_load (v := .int .i64 y.kind) rfl Tryz.underlying3 rfl (fun w h => RdF.part (h.get RdF.lies rb) (List.getElem?_eq_some_iff.1 (hc2 0 _ rfl)).1 (by omega) (hc2 0 _ rfl))) ?_; (· rfl);  skip)
        refine wd_at rfl ?_
        (refine wd_free ?_ (.some rfl rfl) rfl (yf_neq rfl rfl) ?_; (· rfl);  skip)
        refine wd_at rfl ?_
        (refine wd_free ?_ .none rfl (yf_pickF rfl rfl) ?_; (· rfl);  skip)
        refine wd_at rfl ?_
        (refine wd_free ?_ .none rfl (yf_move rfl) ?_; (· rfl);  skip)
        refine wd_split 44 rfl (fun g16 => ?_) (fun g16 => ?_)
        · replace g16 := bne_yes g16
          refine wd_at rfl ?_
          refine wd_pass (fun _ _ h => by cases h) (.some rfl rfl rfl) rfl ?_
          refine wd_at rfl ?_
          refine wd_pass (fun _ _ h => by cases h) (.some rfl rfl rfl) rfl ?_
          refine wd_at rfl ?_
          refine wd_pass (fun _ _ h => by cases h) (.some rfl rfl rfl) rfl ?_
          refine wd_at rfl ?_
          refine wd_pass (fun _ _ h => by cases h) (.some rfl rfl rfl) rfl ?_
          refine wd_at rfl ?_
          refine wd_pass (fun _ _ h => by cases h) (.some rfl rfl rfl) rfl ?_
          refine wd_at rfl ?_
          refine wd_pass (fun _ _ h => by cases h) (.some rfl rfl rfl) rfl ?_
          refine wd_at rfl ?_
          refine wd_pass (fun _ _ h => by cases h) (.some rfl rfl rfl) rfl ?_
          refine wd_at rfl ?_
          refine wd_pass (fun _ _ h => by cases h) (.some rfl rfl rfl) rfl ?_
          refine wd_at rfl ?_
          refine wd_pass (fun _ _ h => by cases h) (.some rfl rfl rfl) rfl ?_
          refine wd_at rfl ?_
          refine wd_pass (fun _ _ h => by cases h) (.some rfl rfl rfl) rfl ?_
          refine wd_at rfl ?_
          refine wd_pass (fun _ _ h => by cases h) (.some rfl rfl rfl) rfl ?_
          refine wd_at rfl ?_
          (refine wd_free ?_ .none rfl (yf_pickT rfl rfl) ?_; (· rfl);  skip)
          refine wd_at rfl ?_
          (refine wd_free ?_ .none rfl (yf_move rfl) ?_; (· rfl);  skip)
          refine wd_at rfl ?_
          refine wd_pass (fun _ _ h => by cases h) (.some rfl rfl rfl) rfl ?_
          refine wd_at rfl ?_
          refine wd_pass (fun _ _ h => by cases h) (.some rfl rfl rfl) rfl ?_
          refine wd_at rfl ?_
          refine wd_pass (fun _ _ h => by cases h) (.some rfl rfl rfl) rfl ?_
          refine wd_at rfl ?_
          refine wd_pass (fun _ _ h => by cases h) (.some rfl rfl rfl) rfl ?_
          refine wd_at rfl ?_
          refine wd_pass (fun _ _ h => by cases h) (.some rfl rfl rfl) rfl ?_
          refine wd_at rfl ?_
          refine wd_pass (fun _ _ h => by cases h) (.some rfl rfl rfl) rfl ?_
          refine wd_at rfl ?_
          refine wd_pass (fun _ _ h => by cases h) (.some rfl rfl rfl) rfl ?_
          refine wd_at rfl ?_
          refine wd_pass (fun _ _ h => by cases h) (.some rfl rfl rfl) rfl ?_
          refine wd_at rfl ?_
          refine wd_pass (fun _ _ h => by cases h) (.some rfl rfl rfl) rfl ?_
          refine wd_at rfl ?_
          refine wd_pass (fun _ _ h => by cases h) (.some rfl rfl rfl) rfl ?_
          refine wd_at rfl ?_
          refine wd_pass (fun _ _ h => by cases h) (.some rfl rfl rfl) rfl ?_
          refine wd_at rfl ?_
          (refine wd_free ?_ .none rfl (yf_pickT rfl rfl) ?_; (· rfl);  skip)
          refine wd_end ?_
          refine wq_then ?_
          refine wc_true rfl ?_
          refine wc_seq ?_
          refine wc_weak (.cons (i := 0) rfl <| .cons (i := 1) rfl <| .cons (i := 5) rfl <| .cons (i := 6) rfl <| .cons (i := 15) rfl <| .cons (i := 69) rfl <| .nil) ?_
          refine wc_region ?_
          refine wl_free .none rfl (yf_assign rfl) ?_
          refine wl_nil ?_
          refine wq_then ?_
          refine wc_ret ?_
          refine wq_block_ret ?_
          refine wq_then_ret ?_
          refine wq_then_ret ?_
          refine wq_block_ret ?_
          refine wq_then_ret ?_
          refine wq_ret1 rfl rfl (fun w hw => ?_)
          exact ⟨by rw [dq_false (fun e => by have := hab e; subst this; simp at g16)], (HpG.keep hw).ext⟩
        · replace g16 := bne_no g16
          refine wd_at rfl ?_
          (refine wd_free ?_ (.some rfl rfl) rfl (yf_move rfl) ?_; (· rfl);  skip)
          refine wd_at rfl ?_
          (refine wd_free ?_ (.some rfl rfl) rfl (yf_move rfl) ?_; (· rfl);  skip)
          refine wd_at rfl ?_
          (refine wd_free ?_ (.some rfl rfl) rfl (yf_indexAddrS (es := 4) rfl rfl Tryz.underlying55 (by kernel_rfl) rfl ?_ rfl) ?_; (· rfl); (· first | decide | omega | (simp; done) | (simp; omega)); skip)
          refine wd_at rfl ?_
          (refine wd_free ?_ (.some rfl rfl) rfl (yf_fieldAddr (off := 1) (sz := 0) rfl Tryz.underlying57 (by kernel_rfl) rfl) ?_; (· rfl);  skip)
          refine wd_at rfl ?_
          (refine wd_free ?_ (.some rfl rfl) rfl (yf_load (v := .int .u32 x.n) rfl Tryz.underlying50 rfl (fun w h => RdF.part (h.get RdF.lies ra) (List.getElem?_eq_some_iff.1 (hc1 1 _ rfl)).1 (by omega) (hc1 1 _ rfl))) ?_; (· rfl);  skip)
          refine wd_at rfl ?_
          (refine wd_free ?_ (.some rfl rfl) rfl (yf_move rfl) ?_; (· rfl);  skip)
          refine wd_at rfl ?_
          (refine wd_free ?_ (.some rfl rfl) rfl (yf_move rfl) ?_; (· rfl);  skip)
          refine wd_at rfl ?_
          (refine wd_free ?_ (.some rfl rfl) rfl (yf_indexAddrS (es := 4) rfl rfl Tryz.underlying55 (by kernel_rfl) rfl ?_ rfl) ?_; (· rfl); (· first | decide | omega | (simp; done) | (simp; omega)); skip)
          refine wd_at rfl ?_
          (refine wd_free ?_ (.some rfl rfl) rfl (yf_fieldAddr (off := 1) (sz := 0) rfl Tryz.underlying57 (by kernel_rfl) rfl) ?_; (· rfl);  skip)
          refine wd_at rfl ?_
          (refine wd_free ?_ (.some rfl rfl) rfl (yf_load (v := .int .u32 y.n) rfl Tryz.underlying50 rfl (fun w h => RdF.part (h.get RdF.lies rb) (List.getElem?_eq_some_iff.1 (hc2 1 _ rfl)).1 (by omega) (hc2 1 _ rfl))) ?_; (· rfl);  skip)
          refine wd_at rfl ?_
          (refine wd_free ?_ (.some rfl rfl) rfl (yf_neq rfl rfl) ?_; (· rfl);  skip)
          refine wd_at rfl ?_
          (refine wd_free ?_ .none rfl (yf_pickF rfl rfl) ?_; (· rfl);  skip)
          refine wd_at rfl ?_
          (refine wd_free ?_ .none rfl (yf_move rfl) ?_; (· rfl);  skip)
          refine wd_split 57 rfl (fun g29 => ?_) (fun g29 => ?_)
          · replace g29 := bne_yes g29
            refine wd_at rfl ?_
            refine wd_pass (fun _ _ h => by cases h) (.some rfl rfl rfl) rfl ?_
            refine wd_at rfl ?_
            refine wd_pass (fun _ _ h => by cases h) (.some rfl rfl rfl) rfl ?_
            refine wd_at rfl ?_
            refine wd_pass (fun _ _ h => by cases h) (.some rfl rfl rfl) rfl ?_
            refine wd_at rfl ?_
            refine wd_pass (fun _ _ h => by cases h) (.some rfl rfl rfl) rfl ?_
            refine wd_at rfl ?_
            refine wd_pass (fun _ _ h => by cases h) (.some rfl rfl rfl) rfl ?_
            refine wd_at rfl ?_
            refine wd_pass (fun _ _ h => by cases h) (.some rfl rfl rfl) rfl ?_
            refine wd_at rfl ?_
            refine wd_pass (fun _ _ h => by cases h) (.some rfl rfl rfl) rfl ?_
            refine wd_at rfl ?_
            refine wd_pass (fun _ _ h => by cases h) (.some rfl rfl rfl) rfl ?_
            refine wd_at rfl ?_
            refine wd_pass (fun _ _ h => by cases h) (.some rfl rfl rfl) rfl ?_
            refine wd_at rfl ?_
            refine wd_pass (fun _ _ h => by cases h) (.some rfl rfl rfl) rfl ?_
            refine wd_at rfl ?_
            refine wd_pass (fun _ _ h => by cases h) (.some rfl rfl rfl) rfl ?_
            refine wd_at rfl ?_
            (refine wd_free ?_ .none rfl (yf_pickT rfl rfl) ?_; (· rfl);  skip)
            refine wd_end ?_
            refine wq_then ?_
            refine wc_true rfl ?_
            refine wc_seq ?_
            refine wc_weak (.cons (i := 0) rfl <| .cons (i := 1) rfl <| .cons (i := 5) rfl <| .cons (i := 6) rfl <| .cons (i := 15) rfl <| .cons (i := 69) rfl <| .nil) ?_
            refine wc_region ?_
            refine wl_free .none rfl (yf_assign rfl) ?_
            refine wl_nil ?_
            refine wq_then ?_
            refine wc_ret ?_
            refine wq_block_ret ?_
            refine wq_then_ret ?_
            refine wq_then_ret ?_
            refine wq_block_ret ?_
            refine wq_then_ret ?_
            refine wq_ret1 rfl rfl (fun w hw => ?_)
            exact ⟨by rw [dq_false (fun e => by have := hab e; subst this; simp at g29)], (HpG.keep hw).ext⟩
          · replace g29 := bne_no g29
            refine wd_at rfl ?_
            (refine wd_free ?_ (.some rfl rfl) rfl (yf_move rfl) ?_; (· rfl);  skip)
            refine wd_at rfl ?_
            (refine wd_free ?_ (.some rfl rfl) rfl (yf_move rfl) ?_; (· rfl);  skip)
            refine wd_at rfl ?_
            (refine wd_free ?_ (.some rfl rfl) rfl (yf_indexAddrS (es := 4) rfl rfl Tryz.underlying55 (by kernel_rfl) rfl ?_ rfl) ?_; (· rfl); (· first | decide | omega | (simp; done) | (simp; omega)); skip)
            refine wd_at rfl ?_
            (refine wd_free ?_ (.some rfl rfl) rfl (yf_fieldAddr (off := 2) (sz := 0) rfl Tryz.underlying57 (by kernel_rfl) rfl) ?_; (· rfl);  skip)
            refine wd_at rfl ?_
            (refine wd_free ?_ (.some rfl rfl) rfl (yf_load (v := .string ⟨x.name.toArray⟩) rfl Tryz.underlying9 rfl (fun w h => RdF.part (h.get RdF.lies ra) (List.getElem?_eq_some_iff.1 (hc1 2 _ rfl)).1 (by omega) (hc1 2 _ rfl))) ?_; (· rfl);  skip)
            refine wd_at rfl ?_
            (refine wd_free ?_ (.some rfl rfl) rfl (yf_move rfl) ?_; (· rfl);  skip)
            refine wd_at rfl ?_
            (refine wd_free ?_ (.some rfl rfl) rfl (yf_move rfl) ?_; (· rfl);  skip)
            refine wd_at rfl ?_
            (refine wd_free ?_ (.some rfl rfl) rfl (yf_indexAddrS (es := 4) rfl rfl Tryz.underlying55 (by kernel_rfl) rfl ?_ rfl) ?_; (· rfl); (· first | decide | omega | (simp; done) | (simp; omega)); skip)
            refine wd_at rfl ?_
            (refine wd_free ?_ (.some rfl rfl) rfl (yf_fieldAddr (off := 2) (sz := 0) rfl Tryz.underlying57 (by kernel_rfl) rfl) ?_; (· rfl);  skip)
            refine wd_at rfl ?_
            (refine wd_free ?_ (.some rfl rfl) rfl (yf_load (v := .string ⟨y.name.toArray⟩) rfl Tryz.underlying9 rfl (fun w h => RdF.part (h.get RdF.lies rb) (List.getElem?_eq_some_iff.1 (hc2 2 _ rfl)).1 (by omega) (hc2 2 _ rfl))) ?_; (· rfl);  skip)
            refine wd_at rfl ?_
            (refine wd_free ?_ (.some rfl rfl) rfl (yf_strs_neq rfl rfl Tryz.underlying9) ?_; (· rfl);  skip)
            refine wd_at rfl ?_
            (refine wd_free ?_ .none rfl (yf_pickF rfl rfl) ?_; (· rfl);  skip)
            refine wd_end ?_
            refine wq_then ?_
            refine wc_cond rfl (fun h69 => ?_) (fun h69 => ?_)
            · skip
              refine wc_seq ?_
              refine wc_weak (.cons (i := 0) rfl <| .cons (i := 1) rfl <| .cons (i := 5) rfl <| .cons (i := 6) rfl <| .cons (i := 15) rfl <| .cons (i := 69) rfl <| .nil) ?_
              refine wc_region ?_
              refine wl_free .none rfl (yf_assign rfl) ?_
              refine wl_nil ?_
              refine wq_then ?_
              refine wc_ret ?_
              refine wq_block_ret ?_
              refine wq_then_ret ?_
              refine wq_then_ret ?_
              refine wq_block_ret ?_
              refine wq_then_ret ?_
              refine wq_ret1 rfl rfl (fun w hw => ?_)
              exact ⟨by rw [dq_false (fun e => by have := hab e; subst this; simp at h69)], (HpG.keep hw).ext⟩
            · skip
              refine wc_skip ?_
              refine wq_block ?_
              refine wq_then ?_
              refine wc_weak (.cons (i := 0) rfl <| .cons (i := 1) rfl <| .cons (i := 5) rfl <| .cons (i := 6) rfl <| .cons (i := 15) rfl <| .cons (i := 69) rfl <| .nil) ?_
              refine wc_region ?_
              refine wl_free .none rfl (yf_move rfl) ?_
              (refine wl_free .none rfl (yf_add rfl rfl (i64_in _ ?_ ?_)) ?_; (· omega); (· omega); skip)
              refine wl_free .none rfl (yf_assign rfl) ?_
              refine wl_nil ?_
              have hxy : x = y := by
                have e1 : x.kids = y.kids := dq_iff.1 (by simpa using g3)
                have e2 : x.kind = y.kind := by first | omega | (simp at g16; omega)
                have e3 : x.n = y.n := by first | omega | (simp at g29; omega)
                have e4 : x.name = y.name := by simpa using h69
                exact ex_ext e2 e3 e4 e1
              refine wq_round (ι := {i : Nat // i ≤ a.length ∧ a.take i = b.take i}) ⟨i + 1, hil, by rw [take_succ' hx, take_succ' hy, htk, hxy]⟩ (by show a.length - (i + 1) < a.length - i; omega) (.cons rfl <| .cons rfl <| .cons rfl <| .nil) (fun w h => h)
    · replace hc := of_decide_eq_false hc
      have hie : i = a.length := by omega
      subst hie
      have hab : a = b := by rw [List.take_length, hl, List.take_length] at htk; exact htk
      refine wc_exit ?_
      refine wq_then_exit ?_
      refine wq_then_exit ?_
      refine wq_here ?_
      refine wq_then ?_
      refine wc_seq ?_
      refine wc_weak (.cons (i := 0) rfl <| .cons (i := 1) rfl <| .cons (i := 5) rfl <| .cons (i := 15) rfl <| .nil) ?_
      refine wc_region ?_
      refine wl_free .none rfl (yf_assign rfl) ?_
      refine wl_nil ?_
      refine wq_then ?_
      refine wc_ret ?_
      refine wq_ret1 rfl rfl (fun w hw => ?_)
      exact ⟨by rw [dq_true hab], (HpG.keep hw).ext⟩
theorem sameE_all : ∀ (N : Nat) (x : Ex), SizeOf.sizeOf x < N → SE x.kids
  | 0, _, h => absurd h (by omega)
  | N + 1, .mk k n s kids, h => sameE_step kids fun y hy => sameE_all N y (by have := sizeOf_kids (k := k) (n := n) (s := s) hy; omega)
theorem sameE_any (a : List Ex) : SE a := sameE_step a fun x _ => sameE_all _ x (Nat.lt_succ_self _)
/-! ### Statements -/
theorem st_ext {x y : St} (h1 : x.kind = y.kind) (h3 : x.name = y.name) (h4 : x.exprs = y.exprs) (h5 : x.body = y.body) (h6 : x.els = y.els) : x = y := by
  cases x; cases y
  simp only [St.kind, St.name, St.exprs, St.body, St.els] at h1 h3 h4 h5 h6
  subst h1; subst h3; subst h4; subst h5; subst h6; rfl
structure SS2 (F : Nat → Prop) (w : World) (a b : List St) (A B : Option Addr) (c d : Nat) : Prop where
  ka : blkK F w a A c
  kb : blkK F w b B d
theorem SS2.lies {a b : List St} {A B : Option Addr} {c d : Nat} : Lies fun F w => SS2 F w a b A B c d :=
  ⟨fun hk ⟨a, b⟩ => ⟨blkK.lies.foot hk a, blkK.lies.foot hk b⟩, fun ⟨a, b⟩ => ⟨blkK.lies.lt a, blkK.lies.lt b⟩, fun hF ⟨a, b⟩ => ⟨blkK.lies.mono hF a, blkK.lies.mono hF b⟩⟩
def SM (a : List St) : Prop := ∀ (b : List St) (F : Nat → Prop) (A B : Option Addr) (c d : Nat) (w : World), SS2 F w a b A B c d →
  Calls Tryz.prog 51 #[.slice A a.length c, .slice B b.length d] w fun e w' => e = .returned (.bool (dq (a = b))) ∧ Ext w w'
set_option maxHeartbeats 4000000 in
set_option maxRecDepth 100000 in
theorem sameS_step (a : List St) (IH : ∀ x ∈ a, SM x.body ∧ SM x.els) : SM a := by
  intro b F A B c d w_0 h
  obtain ⟨⟨pa, ca, ra, va⟩, ⟨pb, cb, rb, vb⟩⟩ := h
  have hla := pa.lt
  have hlb := pb.lt
  have hA : 0 < a.length → ∃ b off, A = some ⟨b, off, none⟩ := fun h0 => by
    obtain ⟨b, off, e, _⟩ := ra (by rw [va.len]; omega)
    exact ⟨b, off, e⟩
  have hB : 0 < b.length → ∃ b off, B = some ⟨b, off, none⟩ := fun h0 => by
    obtain ⟨b, off, e, _⟩ := rb (by rw [vb.len]; omega)
    exact ⟨b, off, e⟩
  refine calls_wc (args := [.slice A a.length c, .slice B b.length d]) Tryz.func51 rfl 89 rfl (Nat.le_of_ble_eq_true rfl) ?_
  refine wc_weak (.cons (i := 0) rfl <| .cons (i := 1) rfl <| .nil) ?_
  refine wc_conseq (H' := Hp (fun _ => False) w_0 [] [] (Same F w_0)) (fun u hu => ?_) ?_
  · subst hu; exact Hp.startSame
  refine wc_seq ?_
  refine wc_region ?_
  refine wl_free .none rfl (yf_assign rfl) ?_
  refine wl_nil ?_
  refine wq_then ?_
  refine wc_seq ?_
  refine wc_seq ?_
  refine wc_region ?_
  refine wl_free .none rfl (yf_move rfl) ?_
  refine wl_free .none rfl (yf_lenS rfl Tryz.underlying58) ?_
  refine wl_free .none rfl (yf_move rfl) ?_
  refine wl_free .none rfl (yf_lenS rfl Tryz.underlying58) ?_
  refine wl_free .none rfl (yf_neq rfl rfl) ?_
  refine wl_nil ?_
  refine wq_then ?_
  refine wc_cond rfl (fun h13 => ?_) (fun h13 => ?_)
  · replace h13 := bne_yes h13
    refine wc_seq ?_
    refine wc_weak (.cons (i := 0) rfl <| .cons (i := 1) rfl <| .cons (i := 4) rfl <| .cons (i := 13) rfl <| .nil) ?_
    refine wc_region ?_
    refine wl_free .none rfl (yf_assign rfl) ?_
    refine wl_nil ?_
    refine wq_then ?_
    refine wc_ret ?_
    refine wq_then_ret ?_
    refine wq_ret1 rfl rfl (fun w hw => ?_)
    exact ⟨by rw [dq_false (fun e => by subst e; simp at h13)], (HpG.keep hw).ext⟩
  · replace h13 := bne_no h13
    have hl : a.length = b.length := by omega
    refine wc_skip ?_
    refine wq_then ?_
    refine wc_seq ?_
    refine wc_seq ?_
    refine wc_weak (.cons (i := 0) rfl <| .cons (i := 1) rfl <| .cons (i := 4) rfl <| .cons (i := 13) rfl <| .nil) ?_
    refine wc_region ?_
    refine wl_free .none rfl (yf_assign rfl) ?_
    refine wl_nil ?_
    refine wq_then ?_
    refine wc_block ?_
    refine wc_loop (ι := {i : Nat // i ≤ a.length ∧ a.take i = b.take i}) (fun i => [(0, .slice A a.length c), (1, .slice B b.length d), (5, .int .i64 i.1)]) (fun _ => Hp (fun _ => False) w_0 [] [] (Same F w_0)) (fun i => a.length - i.1) ⟨0, Nat.zero_le _, by simp⟩ ?_ ?_ (fun i => ?_)
    · exact .cons rfl <| .cons rfl <| .cons rfl <| .nil
    · exact fun w h => h
    obtain ⟨i, hi, htk⟩ := i
    dsimp only
    refine wc_seq ?_
    refine wc_seq ?_
    refine wc_region ?_
    refine wl_free .none rfl (yf_move rfl) ?_
    refine wl_free .none rfl (yf_move rfl) ?_
    refine wl_free .none rfl (yf_lenS rfl Tryz.underlying58) ?_
    refine wl_free .none rfl (yf_lss rfl rfl) ?_
    refine wl_nil ?_
    refine wq_then ?_
    refine wc_cond rfl (fun hc => ?_) (fun hc => ?_)
    · replace hc := of_decide_eq_true hc
      have hil : i < a.length := by omega
      obtain ⟨g1, o1, rfl⟩ := hA (by omega)
      obtain ⟨g2, o2, rfl⟩ := hB (by omega)
      obtain ⟨x, hx⟩ : ∃ x, a[i]? = some x := ⟨a[i], List.getElem?_eq_getElem hil⟩
      obtain ⟨y, hy⟩ : ∃ y, b[i]? = some y := ⟨b[i]'(by omega), List.getElem?_eq_getElem (by omega)⟩
      obtain ⟨a1, hfix1⟩ := va.fix hx
      have hk1 := (hfix1 F w_0 va).1
      have hc1 := (hfix1 F w_0 va).2
      obtain ⟨a2, hfix2⟩ := vb.fix hy
      have hk2 := (hfix2 F w_0 vb).1
      have hc2 := (hfix2 F w_0 vb).2
      have hab : a = b → x = y := fun e => by subst e; rw [hx] at hy; exact Option.some.inj hy
      have hke : EE2 F w_0 x.exprs y.exprs a1.A1 a2.A1 a1.c1 a2.c1 := ⟨⟨hk1.p1, hk1.h1⟩, ⟨hk2.p1, hk2.h1⟩⟩
      have hkb : SS2 F w_0 x.body y.body a1.A2 a2.A2 a1.c2 a2.c2 := ⟨⟨hk1.p2, hk1.h2⟩, ⟨hk2.p2, hk2.h2⟩⟩
      have hkc : SS2 F w_0 x.els y.els a1.A3 a2.A3 a1.c3 a2.c3 := ⟨⟨hk1.p3, hk1.h3⟩, ⟨hk2.p3, hk2.h3⟩⟩
      have hI := IH x (List.mem_of_getElem? hx)
      refine wc_skip ?_
      refine wq_then ?_
      refine wc_seq ?_
      refine wc_block ?_
      refine wc_seq ?_
      refine wc_weak (.cons (i := 0) rfl <| .cons (i := 1) rfl <| .cons (i := 5) rfl <| .cons (i := 17) rfl <| .nil) ?_
      refine wc_drawTN 11 [0, 1, 2, 3, 4, 5, 6, 7, 8, 9, 10] (Same F w_0) (by kernel_rfl) (by kernel_rfl) Same.stab (fun w h => HpG.x h) (fun n0 hn0 => ?_)
      refine wd_at rfl ?_
      (refine wd_free ?_ .none rfl (yf_move rfl) ?_; (· rfl);  skip)
      refine wd_at rfl ?_
      (refine wd_free ?_ .none rfl (yf_move rfl) ?_; (· rfl);  skip)
      refine wd_at rfl ?_
      (refine wd_free ?_ .none rfl (yf_indexAddrS (es := 5) rfl rfl Tryz.underlying58 (by kernel_rfl) rfl ?_ rfl) ?_; (· rfl); (· first | decide | omega | (simp; done) | (simp; omega)); skip)
      refine wd_at rfl ?_
      (refine wd_free ?_ .none rfl (yf_fieldAddr (off := 2) (sz := 0) rfl Tryz.underlying60 (by kernel_rfl) rfl) ?_; (· rfl);  skip)
      refine wd_at rfl ?_
      (refine wd_free ?_ .none rfl (yf_load (v := .slice a1.A1 x.exprs.length a1.c1) rfl Tryz.underlying55 rfl (fun w h => RdF.part (h.get RdF.lies ra) (List.getElem?_eq_some_iff.1 (hc1 2 _ rfl)).1 (by omega) (hc1 2 _ rfl))) ?_; (· rfl);  skip)
      refine wd_at rfl ?_
      (refine wd_free ?_ .none rfl (yf_move rfl) ?_; (· rfl);  skip)
      refine wd_at rfl ?_
      (refine wd_free ?_ .none rfl (yf_move rfl) ?_; (· rfl);  skip)
      refine wd_at rfl ?_
      (refine wd_free ?_ .none rfl (yf_indexAddrS (es := 5) rfl rfl Tryz.underlying58 (by kernel_rfl) rfl ?_ rfl) ?_; (· rfl); (· first | decide | omega | (simp; done) | (simp; omega)); skip)
      refine wd_at rfl ?_
      (refine wd_free ?_ .none rfl (yf_fieldAddr (off := 2) (sz := 0) rfl Tryz.underlying60 (by kernel_rfl) rfl) ?_; (· rfl);  skip)
      refine wd_at rfl ?_
      (refine wd_free ?_ .none rfl (yf_load (v := .slice a2.A1 y.exprs.length a2.c1) rfl Tryz.underlying55 rfl (fun w h => RdF.part (h.get RdF.lies rb) (List.getElem?_eq_some_iff.1 (hc2 2 _ rfl)).1 (by omega) (hc2 2 _ rfl))) ?_; (· rfl);  skip)
      refine wd_at rfl ?_
      refine wd_pure .none rfl  (v := .bool (dq (x.exprs = y.exprs))) (by kernel_rfl) rfl (fun w w' h hx => h.ext hx) (fun w hw => sameE_any x.exprs y.exprs F a1.A1 a2.A1 a1.c1 a2.c1 w ((HpG.x hw).get EE2.lies hke)) ?_
      refine wd_endTH ?_
      simp only [List.drop_succ_cons, List.drop_zero]
      refine wl_free .none rfl (yf_assign rfl) ?_
      refine wl_nil ?_
      refine wq_then ?_
      refine wc_seq ?_
      refine wc_weak (.cons (i := 0) rfl <| .cons (i := 1) rfl <| .cons (i := 5) rfl <| .cons (i := 6) rfl <| .cons (i := 17) rfl <| .nil) ?_
      refine wc_drawTN 11 [0, 1, 2, 3, 4, 5, 6, 7, 8, 9, 10] (Same F w_0) (by kernel_rfl) (by kernel_rfl) Same.stab (fun w h => HpG.x h) (fun n0 hn0 => ?_)
      refine wd_at rfl ?_
      (refine wd_free ?_ .none rfl (yf_move rfl) ?_; (· rfl);  skip)
      refine wd_at rfl ?_
      (refine wd_free ?_ .none rfl (yf_move rfl) ?_; (· rfl);  skip)
      refine wd_at rfl ?_
      (refine wd_free ?_ .none rfl (yf_indexAddrS (es := 5) rfl rfl Tryz.underlying58 (by kernel_rfl) rfl ?_ rfl) ?_; (· rfl); (· first | decide | omega | (simp; done) | (simp; omega)); skip)
      refine wd_at rfl ?_
      (refine wd_free ?_ .none rfl (yf_fieldAddr (off := 3) (sz := 0) rfl Tryz.underlying60 (by kernel_rfl) rfl) ?_; (· rfl);  skip)
      refine wd_at rfl ?_
      (refine wd_free ?_ .none rfl (yf_load (v := .slice a1.A2 x.body.length a1.c2) rfl Tryz.underlying58 rfl (fun w h => RdF.part (h.get RdF.lies ra) (List.getElem?_eq_some_iff.1 (hc1 3 _ rfl)).1 (by omega) (hc1 3 _ rfl))) ?_; (· rfl);  skip)
      refine wd_at rfl ?_
      (refine wd_free ?_ .none rfl (yf_move rfl) ?_; (· rfl);  skip)
      refine wd_at rfl ?_
      (refine wd_free ?_ .none rfl (yf_move rfl) ?_; (· rfl);  skip)
      refine wd_at rfl ?_
      (refine wd_free ?_ .none rfl (yf_indexAddrS (es := 5) rfl rfl Tryz.underlying58 (by kernel_rfl) rfl ?_ rfl) ?_; (· rfl); (· first | decide | omega | (simp; done) | (simp; omega)); skip)
      refine wd_at rfl ?_
      (refine wd_free ?_ .none rfl (yf_fieldAddr (off := 3) (sz := 0) rfl Tryz.underlying60 (by kernel_rfl) rfl) ?_; (· rfl);  skip)
      refine wd_at rfl ?_
      (refine wd_free ?_ .none rfl (yf_load (v := .slice a2.A2 y.body.length a2.c2) rfl Tryz.underlying58 rfl (fun w h => RdF.part (h.get RdF.lies rb) (List.getElem?_eq_some_iff.1 (hc2 3 _ rfl)).1 (by omega) (hc2 3 _ rfl))) ?_; (· rfl);  skip)
      refine wd_at rfl ?_
      refine wd_pure .none rfl  (v := .bool (dq (x.body = y.body))) (by kernel_rfl) rfl (fun w w' h hx => h.ext hx) (fun w hw => hI.1 y.body F a1.A2 a2.A2 a1.c2 a2.c2 w ((HpG.x hw).get SS2.lies hkb)) ?_
      refine wd_endTH ?_
      simp only [List.drop_succ_cons, List.drop_zero]
      refine wl_free .none rfl (yf_assign rfl) ?_
      refine wl_nil ?_
      refine wq_then ?_
      refine wc_seq ?_
      refine wc_weak (.cons (i := 0) rfl <| .cons (i := 1) rfl <| .cons (i := 5) rfl <| .cons (i := 6) rfl <| .cons (i := 7) rfl <| .cons (i := 17) rfl <| .nil) ?_
      refine wc_drawTN 11 [0, 1, 2, 3, 4, 5, 6, 7, 8, 9, 10] (Same F w_0) (by kernel_rfl) (by kernel_rfl) Same.stab (fun w h => HpG.x h) (fun n0 hn0 => ?_)
      refine wd_at rfl ?_
      (refine wd_free ?_ .none rfl (yf_move rfl) ?_; (· rfl);  skip)
      refine wd_at rfl ?_
      (refine wd_free ?_ .none rfl (yf_move rfl) ?_; (· rfl);  skip)
      refine wd_at rfl ?_
      (refine wd_free ?_ .none rfl (yf_indexAddrS (es := 5) rfl rfl Tryz.underlying58 (by kernel_rfl) rfl ?_ rfl) ?_; (· rfl); (· first | decide | omega | (simp; done) | (simp; omega)); skip)
      refine wd_at rfl ?_
      (refine wd_free ?_ .none rfl (yf_fieldAddr (off := 4) (sz := 0) rfl Tryz.underlying60 (by kernel_rfl) rfl) ?_; (· rfl);  skip)
      refine wd_at rfl ?_
      (refine wd_free ?_ .none rfl (yf_load (v := .slice a1.A3 x.els.length a1.c3) rfl Tryz.underlying58 rfl (fun w h => RdF.part (h.get RdF.lies ra) (List.getElem?_eq_some_iff.1 (hc1 4 _ rfl)).1 (by omega) (hc1 4 _ rfl))) ?_; (· rfl);  skip)
      refine wd_at rfl ?_
      (refine wd_free ?_ .none rfl (yf_move rfl) ?_; (· rfl);  skip)
      refine wd_at rfl ?_
      (refine wd_free ?_ .none rfl (yf_move rfl) ?_; (· rfl);  skip)
      refine wd_at rfl ?_
      (refine wd_free ?_ .none rfl (yf_indexAddrS (es := 5) rfl rfl Tryz.underlying58 (by kernel_rfl) rfl ?_ rfl) ?_; (· rfl); (· first | decide | omega | (simp; done) | (simp; omega)); skip)
      refine wd_at rfl ?_
      (refine wd_free ?_ .none rfl (yf_fieldAddr (off := 4) (sz := 0) rfl Tryz.underlying60 (by kernel_rfl) rfl) ?_; (· rfl);  skip)
      refine wd_at rfl ?_
      (refine wd_free ?_ .none rfl (yf_load (v := .slice a2.A3 y.els.length a2.c3) rfl Tryz.underlying58 rfl (fun w h => RdF.part (h.get RdF.lies rb) (List.getElem?_eq_some_iff.1 (hc2 4 _ rfl)).1 (by omega) (hc2 4 _ rfl))) ?_; (· rfl);  skip)
      refine wd_at rfl ?_
      refine wd_pure .none rfl  (v := .bool (dq (x.els = y.els))) (by kernel_rfl) rfl (fun w w' h hx => h.ext hx) (fun w hw => hI.2 y.els F a1.A3 a2.A3 a1.c3 a2.c3 w ((HpG.x hw).get SS2.lies hkc)) ?_
      refine wd_endTH ?_
      simp only [List.drop_succ_cons, List.drop_zero]
      refine wl_free .none rfl (yf_assign rfl) ?_
      refine wl_nil ?_
      refine wq_then ?_
      refine wc_seq ?_
      refine wc_weak (.cons (i := 0) rfl <| .cons (i := 1) rfl <| .cons (i := 5) rfl <| .cons (i := 6) rfl <| .cons (i := 7) rfl <| .cons (i := 8) rfl <| .cons (i := 17) rfl <| .nil) ?_
      refine wc_draw0 [0, 1, 2, 3, 4, 5, 6, 7, 8, 9, 10, 11, 12, 13, 14, 15, 16, 17, 18, 19, 20, 21, 22, 23, 24, 25, 26, 27, 28, 29, 30, 31, 32, 33, 34, 35] (Same F w_0) (by kernel_rfl) (by kernel_rfl) HpG.stab Same.stab (fun _ h => HpG.drew h) (fun w h => HpG.x h) ?_
      refine wd_at rfl ?_
      (refine wd_free ?_ .none rfl (yf_move rfl) ?_; (· rfl);  skip)
      refine wd_at rfl ?_
      (refine wd_free ?_ .none rfl (yf_not rfl) ?_; (· rfl);  skip)
      refine wd_at rfl ?_
      (refine wd_free ?_ .none rfl (yf_move rfl) ?_; (· rfl);  skip)
      refine wd_split 55 rfl (fun g3 => ?_) (fun g3 => ?_)
      · skip
        refine wd_at rfl ?_
        refine wd_pass (fun _ _ h => by cases h) (.some rfl rfl rfl) rfl ?_
        refine wd_at rfl ?_
        refine wd_pass (fun _ _ h => by cases h) (.some rfl rfl rfl) rfl ?_
        refine wd_at rfl ?_
        (refine wd_free ?_ .none rfl (yf_pickT rfl rfl) ?_; (· rfl);  skip)
        refine wd_at rfl ?_
        (refine wd_free ?_ .none rfl (yf_move rfl) ?_; (· rfl);  skip)
        refine wd_at rfl ?_
        refine wd_pass (fun _ _ h => by cases h) (.some rfl rfl rfl) rfl ?_
        refine wd_at rfl ?_
        refine wd_pass (fun _ _ h => by cases h) (.some rfl rfl rfl) rfl ?_
        refine wd_at rfl ?_
        (refine wd_free ?_ .none rfl (yf_pickT rfl rfl) ?_; (· rfl);  skip)
        refine wd_at rfl ?_
        (refine wd_free ?_ .none rfl (yf_move rfl) ?_; (· rfl);  skip)
        refine wd_at rfl ?_
        refine wd_pass (fun _ _ h => by cases h) (.some rfl rfl rfl) rfl ?_
        refine wd_at rfl ?_
        refine wd_pass (fun _ _ h => by cases h) (.some rfl rfl rfl) rfl ?_
        refine wd_at rfl ?_
        refine wd_pass (fun _ _ h => by cases h) (.some rfl rfl rfl) rfl ?_
        refine wd_at rfl ?_
        refine wd_pass (fun _ _ h => by cases h) (.some rfl rfl rfl) rfl ?_
        refine wd_at rfl ?_
        refine wd_pass (fun _ _ h => by cases h) (.some rfl rfl rfl) rfl ?_
        refine wd_at rfl ?_
        refine wd_pass (fun _ _ h => by cases h) (.some rfl rfl rfl) rfl ?_
        refine wd_at rfl ?_
        refine wd_pass (fun _ _ h => by cases h) (.some rfl rfl rfl) rfl ?_
        refine wd_at rfl ?_
        refine wd_pass (fun _ _ h => by cases h) (.some rfl rfl rfl) rfl ?_
        refine wd_at rfl ?_
        refine wd_pass (fun _ _ h => by cases h) (.some rfl rfl rfl) rfl ?_
        refine wd_at rfl ?_
        refine wd_pass (fun _ _ h => by cases h) (.some rfl rfl rfl) rfl ?_
        refine wd_at rfl ?_
        refine wd_pass (fun _ _ h => by cases h) (.some rfl rfl rfl) rfl ?_
        refine wd_at rfl ?_
        (refine wd_free ?_ .none rfl (yf_pickT rfl rfl) ?_; (· rfl);  skip)
        refine wd_at rfl ?_
        (refine wd_free ?_ .none rfl (yf_move rfl) ?_; (· rfl);  skip)
        refine wd_at rfl ?_
        refine wd_pass (fun _ _ h => by cases h) (.some rfl rfl rfl) rfl ?_
        refine wd_at rfl ?_
        refine wd_pass (fun _ _ h => by cases h) (.some rfl rfl rfl) rfl ?_
        refine wd_at rfl ?_
        refine wd_pass (fun _ _ h => by cases h) (.some rfl rfl rfl) rfl ?_
        refine wd_at rfl ?_
        refine wd_pass (fun _ _ h => by cases h) (.some rfl rfl rfl) rfl ?_
        refine wd_at rfl ?_
        refine wd_pass (fun _ _ h => by cases h) (.some rfl rfl rfl) rfl ?_
        refine wd_at rfl ?_
        refine wd_pass (fun _ _ h => by cases h) (.some rfl rfl rfl) rfl ?_
        refine wd_at rfl ?_
        refine wd_pass (fun _ _ h => by cases h) (.some rfl rfl rfl) rfl ?_
        refine wd_at rfl ?_
        refine wd_pass (fun _ _ h => by cases h) (.some rfl rfl rfl) rfl ?_
        refine wd_at rfl ?_
        refine wd_pass (fun _ _ h => by cases h) (.some rfl rfl rfl) rfl ?_
        refine wd_at rfl ?_
        refine wd_pass (fun _ _ h => by cases h) (.some rfl rfl rfl) rfl ?_
        refine wd_at rfl ?_
        refine wd_pass (fun _ _ h => by cases h) (.some rfl rfl rfl) rfl ?_
        refine wd_at rfl ?_
        (refine wd_free ?_ .none rfl (yf_pickT rfl rfl) ?_; (· rfl);  skip)
        refine wd_end ?_
        refine wq_then ?_
        refine wc_true rfl ?_
        refine wc_seq ?_
        refine wc_weak (.cons (i := 0) rfl <| .cons (i := 1) rfl <| .cons (i := 5) rfl <| .cons (i := 6) rfl <| .cons (i := 7) rfl <| .cons (i := 8) rfl <| .cons (i := 17) rfl <| .cons (i := 88) rfl <| .nil) ?_
        refine wc_region ?_
        refine wl_free .none rfl (yf_assign rfl) ?_
        refine wl_nil ?_
        refine wq_then ?_
        refine wc_ret ?_
        refine wq_block_ret ?_
        refine wq_then_ret ?_
        refine wq_then_ret ?_
        refine wq_block_ret ?_
        refine wq_then_ret ?_
        refine wq_ret1 rfl rfl (fun w hw => ?_)
        exact ⟨by rw [dq_false (fun e => by have := hab e; subst this; rw [dq_true rfl] at g3; cases g3)], (HpG.keep hw).ext⟩
      · skip
        refine wd_at rfl ?_
        (refine wd_free ?_ (.some rfl rfl) rfl (yf_move rfl) ?_; (· rfl);  skip)
        refine wd_at rfl ?_
        (refine wd_free ?_ (.some rfl rfl) rfl (yf_not rfl) ?_; (· rfl);  skip)
        refine wd_at rfl ?_
        (refine wd_free ?_ .none rfl (yf_pickF rfl rfl) ?_; (· rfl);  skip)
        refine wd_at rfl ?_
        (refine wd_free ?_ .none rfl (yf_move rfl) ?_; (· rfl);  skip)
        refine wd_split 59 rfl (fun g7 => ?_) (fun g7 => ?_)
        · skip
          refine wd_at rfl ?_
          refine wd_pass (fun _ _ h => by cases h) (.some rfl rfl rfl) rfl ?_
          refine wd_at rfl ?_
          refine wd_pass (fun _ _ h => by cases h) (.some rfl rfl rfl) rfl ?_
          refine wd_at rfl ?_
          (refine wd_free ?_ .none rfl (yf_pickT rfl rfl) ?_; (· rfl);  skip)
          refine wd_at rfl ?_
          (refine wd_free ?_ .none rfl (yf_move rfl) ?_; (· rfl);  skip)
          refine wd_at rfl ?_
          refine wd_pass (fun _ _ h => by cases h) (.some rfl rfl rfl) rfl ?_
          refine wd_at rfl ?_
          refine wd_pass (fun _ _ h => by cases h) (.some rfl rfl rfl) rfl ?_
          refine wd_at rfl ?_
          refine wd_pass (fun _ _ h => by cases h) (.some rfl rfl rfl) rfl ?_
          refine wd_at rfl ?_
          refine wd_pass (fun _ _ h => by cases h) (.some rfl rfl rfl) rfl ?_
          refine wd_at rfl ?_
          refine wd_pass (fun _ _ h => by cases h) (.some rfl rfl rfl) rfl ?_
          refine wd_at rfl ?_
          refine wd_pass (fun _ _ h => by cases h) (.some rfl rfl rfl) rfl ?_
          refine wd_at rfl ?_
          refine wd_pass (fun _ _ h => by cases h) (.some rfl rfl rfl) rfl ?_
          refine wd_at rfl ?_
          refine wd_pass (fun _ _ h => by cases h) (.some rfl rfl rfl) rfl ?_
          refine wd_at rfl ?_
          refine wd_pass (fun _ _ h => by cases h) (.some rfl rfl rfl) rfl ?_
          refine wd_at rfl ?_
          refine wd_pass (fun _ _ h => by cases h) (.some rfl rfl rfl) rfl ?_
          refine wd_at rfl ?_
          refine wd_pass (fun _ _ h => by cases h) (.some rfl rfl rfl) rfl ?_
          refine wd_at rfl ?_
          (refine wd_free ?_ .none rfl (yf_pickT rfl rfl) ?_; (· rfl);  skip)
          refine wd_at rfl ?_
          (refine wd_free ?_ .none rfl (yf_move rfl) ?_; (· rfl);  skip)
          refine wd_at rfl ?_
          refine wd_pass (fun _ _ h => by cases h) (.some rfl rfl rfl) rfl ?_
          refine wd_at rfl ?_
          refine wd_pass (fun _ _ h => by cases h) (.some rfl rfl rfl) rfl ?_
          refine wd_at rfl ?_
          refine wd_pass (fun _ _ h => by cases h) (.some rfl rfl rfl) rfl ?_
          refine wd_at rfl ?_
          refine wd_pass (fun _ _ h => by cases h) (.some rfl rfl rfl) rfl ?_
          refine wd_at rfl ?_
          refine wd_pass (fun _ _ h => by cases h) (.some rfl rfl rfl) rfl ?_
          refine wd_at rfl ?_
          refine wd_pass (fun _ _ h => by cases h) (.some rfl rfl rfl) rfl ?_
          refine wd_at rfl ?_
          refine wd_pass (fun _ _ h => by cases h) (.some rfl rfl rfl) rfl ?_
          refine wd_at rfl ?_
          refine wd_pass (fun _ _ h => by cases h) (.some rfl rfl rfl) rfl ?_
          refine wd_at rfl ?_
          refine wd_pass (fun _ _ h => by cases h) (.some rfl rfl rfl) rfl ?_
          refine wd_at rfl ?_
          refine wd_pass (fun _ _ h => by cases h) (.some rfl rfl rfl) rfl ?_
          refine wd_at rfl ?_
          refine wd_pass (fun _ _ h => by cases h) (.some rfl rfl rfl) rfl ?_
          refine wd_at rfl ?_
          (refine wd_free ?_ .none rfl (yf_pickT rfl rfl) ?_; (· rfl);  skip)
          refine wd_end ?_
          refine wq_then ?_
          refine wc_true rfl ?_
          refine wc_seq ?_
          refine wc_weak (.cons (i := 0) rfl <| .cons (i := 1) rfl <| .cons (i := 5) rfl <| .cons (i := 6) rfl <| .cons (i := 7) rfl <| .cons (i := 8) rfl <| .cons (i := 17) rfl <| .cons (i := 88) rfl <| .nil) ?_
          refine wc_region ?_
          refine wl_free .none rfl (yf_assign rfl) ?_
          refine wl_nil ?_
          refine wq_then ?_
          refine wc_ret ?_
          refine wq_block_ret ?_
          refine wq_then_ret ?_
          refine wq_then_ret ?_
          refine wq_block_ret ?_
          refine wq_then_ret ?_
          refine wq_ret1 rfl rfl (fun w hw => ?_)
          exact ⟨by rw [dq_false (fun e => by have := hab e; subst this; rw [dq_true rfl] at g7; cases g7)], (HpG.keep hw).ext⟩
        · skip
          refine wd_at rfl ?_
          (refine wd_free ?_ (.some rfl rfl) rfl (yf_move rfl) ?_; (· rfl);  skip)
          refine wd_at rfl ?_
          (refine wd_free ?_ (.some rfl rfl) rfl (yf_not rfl) ?_; (· rfl);  skip)
          refine wd_at rfl ?_
          (refine wd_free ?_ .none rfl (yf_pickF rfl rfl) ?_; (· rfl);  skip)
          refine wd_at rfl ?_
          (refine wd_free ?_ .none rfl (yf_move rfl) ?_; (· rfl);  skip)
          refine wd_split 63 rfl (fun g11 => ?_) (fun g11 => ?_)
          · skip
            refine wd_at rfl ?_
            refine wd_pass (fun _ _ h => by cases h) (.some rfl rfl rfl) rfl ?_
            refine wd_at rfl ?_
            refine wd_pass (fun _ _ h => by cases h) (.some rfl rfl rfl) rfl ?_
            refine wd_at rfl ?_
            refine wd_pass (fun _ _ h => by cases h) (.some rfl rfl rfl) rfl ?_
            refine wd_at rfl ?_
            refine wd_pass (fun _ _ h => by cases h) (.some rfl rfl rfl) rfl ?_
            refine wd_at rfl ?_
            refine wd_pass (fun _ _ h => by cases h) (.some rfl rfl rfl) rfl ?_
            refine wd_at rfl ?_
            refine wd_pass (fun _ _ h => by cases h) (.some rfl rfl rfl) rfl ?_
            refine wd_at rfl ?_
            refine wd_pass (fun _ _ h => by cases h) (.some rfl rfl rfl) rfl ?_
            refine wd_at rfl ?_
            refine wd_pass (fun _ _ h => by cases h) (.some rfl rfl rfl) rfl ?_
            refine wd_at rfl ?_
            refine wd_pass (fun _ _ h => by cases h) (.some rfl rfl rfl) rfl ?_
            refine wd_at rfl ?_
            refine wd_pass (fun _ _ h => by cases h) (.some rfl rfl rfl) rfl ?_
            refine wd_at rfl ?_
            refine wd_pass (fun _ _ h => by cases h) (.some rfl rfl rfl) rfl ?_
            refine wd_at rfl ?_
            (refine wd_free ?_ .none rfl (yf_pickT rfl rfl) ?_; (· rfl);  skip)
            refine wd_at rfl ?_
            (refine wd_free ?_ .none rfl (yf_move rfl) ?_; (· rfl);  skip)
            refine wd_at rfl ?_
            refine wd_pass (fun _ _ h => by cases h) (.some rfl rfl rfl) rfl ?_
            refine wd_at rfl ?_
            refine wd_pass (fun _ _ h => by cases h) (.some rfl rfl rfl) rfl ?_
            refine wd_at rfl ?_
            refine wd_pass (fun _ _ h => by cases h) (.some rfl rfl rfl) rfl ?_
            refine wd_at rfl ?_
            refine wd_pass (fun _ _ h => by cases h) (.some rfl rfl rfl) rfl ?_
            refine wd_at rfl ?_
            refine wd_pass (fun _ _ h => by cases h) (.some rfl rfl rfl) rfl ?_
            refine wd_at rfl ?_
            refine wd_pass (fun _ _ h => by cases h) (.some rfl rfl rfl) rfl ?_
            refine wd_at rfl ?_
            refine wd_pass (fun _ _ h => by cases h) (.some rfl rfl rfl) rfl ?_
            refine wd_at rfl ?_
            refine wd_pass (fun _ _ h => by cases h) (.some rfl rfl rfl) rfl ?_
            refine wd_at rfl ?_
            refine wd_pass (fun _ _ h => by cases h) (.some rfl rfl rfl) rfl ?_
            refine wd_at rfl ?_
            refine wd_pass (fun _ _ h => by cases h) (.some rfl rfl rfl) rfl ?_
            refine wd_at rfl ?_
            refine wd_pass (fun _ _ h => by cases h) (.some rfl rfl rfl) rfl ?_
            refine wd_at rfl ?_
            (refine wd_free ?_ .none rfl (yf_pickT rfl rfl) ?_; (· rfl);  skip)
            refine wd_end ?_
            refine wq_then ?_
            refine wc_true rfl ?_
            refine wc_seq ?_
            refine wc_weak (.cons (i := 0) rfl <| .cons (i := 1) rfl <| .cons (i := 5) rfl <| .cons (i := 6) rfl <| .cons (i := 7) rfl <| .cons (i := 8) rfl <| .cons (i := 17) rfl <| .cons (i := 88) rfl <| .nil) ?_
            refine wc_region ?_
            refine wl_free .none rfl (yf_assign rfl) ?_
            refine wl_nil ?_
            refine wq_then ?_
            refine wc_ret ?_
            refine wq_block_ret ?_
            refine wq_then_ret ?_
            refine wq_then_ret ?_
            refine wq_block_ret ?_
            refine wq_then_ret ?_
            refine wq_ret1 rfl rfl (fun w hw => ?_)
            exact ⟨by rw [dq_false (fun e => by have := hab e; subst this; rw [dq_true rfl] at g11; cases g11)], (HpG.keep hw).ext⟩
          · skip
            refine wd_at rfl ?_
            (refine wd_free ?_ (.some rfl rfl) rfl (yf_move rfl) ?_; (· rfl);  skip)
            refine wd_at rfl ?_
            (refine wd_free ?_ (.some rfl rfl) rfl (yf_move rfl) ?_; (· rfl);  skip)
            refine wd_at rfl ?_
            (refine wd_free ?_ (.some rfl rfl) rfl (yf_indexAddrS (es := 5) rfl rfl Tryz.underlying58 (by kernel_rfl) rfl ?_ rfl) ?_; (· rfl); (· first | decide | omega | (simp; done) | (simp; omega)); skip)
            refine wd_at rfl ?_
            (refine wd_free ?_ (.some rfl rfl) rfl (yf_fieldAddr (off := 0) (sz := 0) rfl Tryz.underlying60 (by kernel_rfl) rfl) ?_; (· rfl);  skip)
            refine wd_at rfl ?_
            (refine wd_free ?_ (.some rfl rfl) rfl (yf_load (v := .int .i64 x.kind) rfl Tryz.underlying3 rfl (fun w h => RdF.part (h.get RdF.lies ra) (List.getElem?_eq_some_iff.1 (hc1 0 _ rfl)).1 (by omega) (hc1 0 _ rfl))) ?_; (· rfl);  skip)
            refine wd_at rfl ?_
            (refine wd_free ?_ (.some rfl rfl) rfl (yf_move rfl) ?_; (· rfl);  skip)
            refine wd_at rfl ?_
            (refine wd_free ?_ (.some rfl rfl) rfl (yf_move rfl) ?_; (· rfl);  skip)
            refine wd_at rfl ?_
            (refine wd_free ?_ (.some rfl rfl) rfl (yf_indexAddrS (es := 5) rfl rfl Tryz.underlying58 (by kernel_rfl) rfl ?_ rfl) ?_; (· rfl); (· first | decide | omega | (simp; done) | (simp; omega)); skip)
            refine wd_at rfl ?_
            (refine wd_free ?_ (.some rfl rfl) rfl (yf_fieldAddr (off := 0) (sz := 0) rfl Tryz.underlying60 (by kernel_rfl) rfl) ?_; (· rfl);  skip)
            refine wd_at rfl ?_
            (refine wd_free ?_ (.some rfl rfl) rfl (yf_load (v := .int .i64 y.kind) rfl Tryz.underlying3 rfl (fun w h => RdF.part (h.get RdF.lies rb) (List.getElem?_eq_some_iff.1 (hc2 0 _ rfl)).1 (by omega) (hc2 0 _ rfl))) ?_; (· rfl);  skip)
            refine wd_at rfl ?_
            (refine wd_free ?_ (.some rfl rfl) rfl (yf_neq rfl rfl) ?_; (· rfl);  skip)
            refine wd_at rfl ?_
            (refine wd_free ?_ .none rfl (yf_pickF rfl rfl) ?_; (· rfl);  skip)
            refine wd_at rfl ?_
            (refine wd_free ?_ .none rfl (yf_move rfl) ?_; (· rfl);  skip)
            refine wd_split 76 rfl (fun g24 => ?_) (fun g24 => ?_)
            · replace g24 := bne_yes g24
              refine wd_at rfl ?_
              refine wd_pass (fun _ _ h => by cases h) (.some rfl rfl rfl) rfl ?_
              refine wd_at rfl ?_
              refine wd_pass (fun _ _ h => by cases h) (.some rfl rfl rfl) rfl ?_
              refine wd_at rfl ?_
              refine wd_pass (fun _ _ h => by cases h) (.some rfl rfl rfl) rfl ?_
              refine wd_at rfl ?_
              refine wd_pass (fun _ _ h => by cases h) (.some rfl rfl rfl) rfl ?_
              refine wd_at rfl ?_
              refine wd_pass (fun _ _ h => by cases h) (.some rfl rfl rfl) rfl ?_
              refine wd_at rfl ?_
              refine wd_pass (fun _ _ h => by cases h) (.some rfl rfl rfl) rfl ?_
              refine wd_at rfl ?_
              refine wd_pass (fun _ _ h => by cases h) (.some rfl rfl rfl) rfl ?_
              refine wd_at rfl ?_
              refine wd_pass (fun _ _ h => by cases h) (.some rfl rfl rfl) rfl ?_
              refine wd_at rfl ?_
              refine wd_pass (fun _ _ h => by cases h) (.some rfl rfl rfl) rfl ?_
              refine wd_at rfl ?_
              refine wd_pass (fun _ _ h => by cases h) (.some rfl rfl rfl) rfl ?_
              refine wd_at rfl ?_
              refine wd_pass (fun _ _ h => by cases h) (.some rfl rfl rfl) rfl ?_
              refine wd_at rfl ?_
              (refine wd_free ?_ .none rfl (yf_pickT rfl rfl) ?_; (· rfl);  skip)
              refine wd_end ?_
              refine wq_then ?_
              refine wc_true rfl ?_
              refine wc_seq ?_
              refine wc_weak (.cons (i := 0) rfl <| .cons (i := 1) rfl <| .cons (i := 5) rfl <| .cons (i := 6) rfl <| .cons (i := 7) rfl <| .cons (i := 8) rfl <| .cons (i := 17) rfl <| .cons (i := 88) rfl <| .nil) ?_
              refine wc_region ?_
              refine wl_free .none rfl (yf_assign rfl) ?_
              refine wl_nil ?_
              refine wq_then ?_
              refine wc_ret ?_
              refine wq_block_ret ?_
              refine wq_then_ret ?_
              refine wq_then_ret ?_
              refine wq_block_ret ?_
              refine wq_then_ret ?_
              refine wq_ret1 rfl rfl (fun w hw => ?_)
              exact ⟨by rw [dq_false (fun e => by have := hab e; subst this; simp at g24)], (HpG.keep hw).ext⟩
            · replace g24 := bne_no g24
              refine wd_at rfl ?_
              (refine wd_free ?_ (.some rfl rfl) rfl (yf_move rfl) ?_; (· rfl);  skip)
              refine wd_at rfl ?_
              (refine wd_free ?_ (.some rfl rfl) rfl (yf_move rfl) ?_; (· rfl);  skip)
              refine wd_at rfl ?_
              (refine wd_free ?_ (.some rfl rfl) rfl (yf_indexAddrS (es := 5) rfl rfl Tryz.underlying58 (by kernel_rfl) rfl ?_ rfl) ?_; (· rfl); (· first | decide | omega | (simp; done) | (simp; omega)); skip)
              refine wd_at rfl ?_
              (refine wd_free ?_ (.some rfl rfl) rfl (yf_fieldAddr (off := 1) (sz := 0) rfl Tryz.underlying60 (by kernel_rfl) rfl) ?_; (· rfl);  skip)
              refine wd_at rfl ?_
              (refine wd_free ?_ (.some rfl rfl) rfl (yf_load (v := .string ⟨x.name.toArray⟩) rfl Tryz.underlying9 rfl (fun w h => RdF.part (h.get RdF.lies ra) (List.getElem?_eq_some_iff.1 (hc1 1 _ rfl)).1 (by omega) (hc1 1 _ rfl))) ?_; (· rfl);  skip)
              refine wd_at rfl ?_
              (refine wd_free ?_ (.some rfl rfl) rfl (yf_move rfl) ?_; (· rfl);  skip)
              refine wd_at rfl ?_
              (refine wd_free ?_ (.some rfl rfl) rfl (yf_move rfl) ?_; (· rfl);  skip)
              refine wd_at rfl ?_
              (refine wd_free ?_ (.some rfl rfl) rfl (yf_indexAddrS (es := 5) rfl rfl Tryz.underlying58 (by kernel_rfl) rfl ?_ rfl) ?_; (· rfl); (· first | decide | omega | (simp; done) | (simp; omega)); skip)
              refine wd_at rfl ?_
              (refine wd_free ?_ (.some rfl rfl) rfl (yf_fieldAddr (off := 1) (sz := 0) rfl Tryz.underlying60 (by kernel_rfl) rfl) ?_; (· rfl);  skip)
              refine wd_at rfl ?_
              (refine wd_free ?_ (.some rfl rfl) rfl (yf_load (v := .string ⟨y.name.toArray⟩) rfl Tryz.underlying9 rfl (fun w h => RdF.part (h.get RdF.lies rb) (List.getElem?_eq_some_iff.1 (hc2 1 _ rfl)).1 (by omega) (hc2 1 _ rfl))) ?_; (· rfl);  skip)
              refine wd_at rfl ?_
              (refine wd_free ?_ (.some rfl rfl) rfl (yf_strs_neq rfl rfl Tryz.underlying9) ?_; (· rfl);  skip)
              refine wd_at rfl ?_
              (refine wd_free ?_ .none rfl (yf_pickF rfl rfl) ?_; (· rfl);  skip)
              refine wd_end ?_
              refine wq_then ?_
              refine wc_cond rfl (fun h88 => ?_) (fun h88 => ?_)
              · skip
                refine wc_seq ?_
                refine wc_weak (.cons (i := 0) rfl <| .cons (i := 1) rfl <| .cons (i := 5) rfl <| .cons (i := 6) rfl <| .cons (i := 7) rfl <| .cons (i := 8) rfl <| .cons (i := 17) rfl <| .cons (i := 88) rfl <| .nil) ?_
                refine wc_region ?_
                refine wl_free .none rfl (yf_assign rfl) ?_
                refine wl_nil ?_
                refine wq_then ?_
                refine wc_ret ?_
                refine wq_block_ret ?_
                refine wq_then_ret ?_
                refine wq_then_ret ?_
                refine wq_block_ret ?_
                refine wq_then_ret ?_
                refine wq_ret1 rfl rfl (fun w hw => ?_)
                exact ⟨by rw [dq_false (fun e => by have := hab e; subst this; simp at h88)], (HpG.keep hw).ext⟩
              · skip
                refine wc_skip ?_
                refine wq_block ?_
                refine wq_then ?_
                refine wc_weak (.cons (i := 0) rfl <| .cons (i := 1) rfl <| .cons (i := 5) rfl <| .cons (i := 6) rfl <| .cons (i := 7) rfl <| .cons (i := 8) rfl <| .cons (i := 17) rfl <| .cons (i := 88) rfl <| .nil) ?_
                refine wc_region ?_
                refine wl_free .none rfl (yf_move rfl) ?_
                (refine wl_free .none rfl (yf_add rfl rfl (i64_in _ ?_ ?_)) ?_; (· omega); (· omega); skip)
                refine wl_free .none rfl (yf_assign rfl) ?_
                refine wl_nil ?_
                have hxy : x = y := by
                  have e1 : x.exprs = y.exprs := dq_iff.1 (by simpa using g3)
                  have e2 : x.body = y.body := dq_iff.1 (by simpa using g7)
                  have e3 : x.els = y.els := dq_iff.1 (by simpa using g11)
                  have e4 : x.kind = y.kind := by first | omega | (simp at g24; omega)
                  have e5 : x.name = y.name := by simpa using h88
                  exact st_ext e4 e5 e1 e2 e3
                refine wq_round (ι := {i : Nat // i ≤ a.length ∧ a.take i = b.take i}) ⟨i + 1, hil, by rw [take_succ' hx, take_succ' hy, htk, hxy]⟩ (by show a.length - (i + 1) < a.length - i; omega) (.cons rfl <| .cons rfl <| .cons rfl <| .nil) (fun w h => h)
    · replace hc := of_decide_eq_false hc
      have hie : i = a.length := by omega
      subst hie
      have hab : a = b := by rw [List.take_length, hl, List.take_length] at htk; exact htk
      refine wc_exit ?_
      refine wq_then_exit ?_
      refine wq_then_exit ?_
      refine wq_here ?_
      refine wq_then ?_
      refine wc_seq ?_
      refine wc_weak (.cons (i := 0) rfl <| .cons (i := 1) rfl <| .cons (i := 5) rfl <| .cons (i := 17) rfl <| .nil) ?_
      refine wc_region ?_
      refine wl_free .none rfl (yf_assign rfl) ?_
      refine wl_nil ?_
      refine wq_then ?_
      refine wc_ret ?_
      refine wq_ret1 rfl rfl (fun w hw => ?_)
      exact ⟨by rw [dq_true hab], (HpG.keep hw).ext⟩
theorem sameS_all : ∀ (N : Nat) (x : St), SizeOf.sizeOf x < N → SM x.body ∧ SM x.els
  | 0, _, h => absurd h (by omega)
  | N + 1, .mk k s es b c, h => ⟨sameS_step b fun x hx => sameS_all N x (by have := sizeOf_st (k := k) (s := s) (es := es) (c := c) (.inl hx); omega), sameS_step c fun x hx => sameS_all N x (by have := sizeOf_st (k := k) (s := s) (es := es) (b := b) (.inr hx); omega)⟩
theorem sameS_any (a : List St) : SM a := sameS_step a fun x _ => sameS_all _ x (Nat.lt_succ_self _)
end Go.Proofs.YtfpkpnkdnammnaaGreatDoor
