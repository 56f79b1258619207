/- The program's Equal: rows compared. -/
import Derived.Test.YtfpkpnkdnammnaaGreatDoorMdM
import Derived.Test.YtfpkpnkdnammnaaGreatDoorSe2
import Derived.Test.YtfpkpnkdnammnaaGreatDoorSyX
namespace Go.Proofs.YtfpkpnkdnammnaaGreatDoor
open Go.RowKit
/-- Two of them compared by a function value. -/
def PqE (fv : Value) (l m : List Ex) : Prop := ∃ f, fv = .func (.func f) #[] #[] ∧ vM Tryz.prog f = true ∧ ∀ x ∈ l, ∀ y ∈ m, ∀ A cap A' cap' w, xY (fun _ => True) w x A cap → xY (fun _ => True) w y A' cap' → Calls Tryz.prog f #[.agg (xT x A cap).toArray, .agg (xT y A' cap').toArray] w fun e w' => e = .returned (.bool (dq (x = y))) ∧ Ext w w'
set_option maxHeartbeats 1000000 in
set_option maxRecDepth 100000 in
theorem eqfE_any (l m : List Ex) (A0 B0 : Option Addr) (c0 d0 : Nat) (hl : Cp l.length c0) (hm : Cp m.length d0) (cs ds : List Value) {fv : Value} (hq : PqE fv l m) (w_0 : World) (h : RdF (fun _ => True) A0 cs w_0 ∧ ExsV (fun _ => True) w_0 l cs) (h' : RdF (fun _ => True) B0 ds w_0 ∧ ExsV (fun _ => True) w_0 m ds) : Calls Tryz.prog 110 #[.slice A0 l.length c0, .slice B0 m.length d0, fv] w_0 fun e w' => e = .returned (.bool (dq (l = m))) ∧ Ext w_0 w' := by
 have hlt := hl.lt; have hmt := hm.lt; obtain ⟨f, rfl, hgo, hC⟩ := hq; refine yU (args := [.slice A0 l.length c0, .slice B0 m.length d0, .func (.func f) #[] #[]]) Tryz.func110 V 32 V (Nat.le_of_ble_eq_true V) <| Z3 0 1 2 V V V <| zB (H' := Hp (fun _ => False) w_0 [] [] (xQ (fun _ => True) w_0)) (fun u hu => ?_) ?_
 ·subst hu; exact Hp.startSame
 refine zY <| zX <| Za V V <| ZX <| zY <| zX <| Zm V V <| ZF V (yR V Tryz.underlying55) <| Zm V V <| ZF V (yR V Tryz.underlying55) <| ZF V (uR V V) <| ZT <| zO V (fun h14 => ?_) (fun h14 => ?_)
 ·replace h14 := vN h14; refine zY <| Z5r 0 1 2 6 14 V V V V V <| Za V V <| ZT <| zI <| zU <| zF V V (fun w hw => ?_); exact ⟨by rw [xZ fun e => h14 (by rw [e])], (HpG.keep hw).ext⟩
 ·replace h14 := uI h14; have hll : l.length = m.length := by omega
  refine zA <| zQ <| zY <| zY <| Z5r 0 1 2 6 14 V V V V V <| Zm V V <| ZF V (yR V Tryz.underlying55) <| Zm V V <| ZT <| yT <| xS (ι := {k : Nat // k ≤ l.length ∧ ∀ j, j < k → l[j]? = m[j]?}) (fun k => [(0, .slice A0 l.length c0), (1, .slice B0 m.length d0), (2, .func (.func f) #[] #[]), (15, .slice A0 l.length c0), (16, .int .i64 l.length), (17, .int .i64 k.1)]) (fun _ => Hp (fun _ => False) w_0 [] [] (xQ (fun _ => True) w_0)) (fun k => l.length - k.1) ⟨0, Nat.zero_le _, fun _ h => absurd h (by omega)⟩ ?_ ?_ (fun k => ?_)
  ·exact .cons V <| .cons V <| .cons V <| .cons V <| .cons V <| .cons V <| .nil
  ·exact fun w h => h
  obtain ⟨k, hk, hno⟩ := k; dsimp only; refine zY <| zX <| ZF V (xP V V) <| ZX <| zO V (fun hc => ?_) (fun hc => ?_)
  ·replace hc := of_decide_eq_true hc; have hkl : k < l.length := by omega
   obtain ⟨x, hx⟩ : ∃ x, l[k]? = some x := ⟨l[k], List.getElem?_eq_getElem hkl⟩; obtain ⟨y, hy⟩ : ∃ y, m[k]? = some y := ⟨m[k], List.getElem?_eq_getElem (by omega)⟩
   obtain ⟨b, off, rfl⟩ : ∃ b off, A0 = some ⟨b, off, none⟩ := by
    obtain ⟨b, off, e, _⟩ := h.1 (by rw [h.2.len]; omega); exact ⟨b, off, e⟩
   obtain ⟨b', off', rfl⟩ : ∃ b off, B0 = some ⟨b, off, none⟩ := by
    obtain ⟨b, off, e, _⟩ := h'.1 (by rw [h'.2.len]; omega); exact ⟨b, off, e⟩
   obtain ⟨A, cap, hfix⟩ := h.2.fix hx; obtain ⟨A', cap', hfix'⟩ := h'.2.fix hy; refine zA <| zQ <| zY <| yT <| zY <| zX <| Zm V V ?_; (refine ZF rfl (zS (es := 4) rfl rfl Tryz.underlying55 (by kernel_rfl) rfl ?_ rfl) ?_; (· first | decide | omega | (simp; done) | (simp; omega)); skip)
   refine ZF V (yH (cs := xT x A cap) V Tryz.underlying57 V (by kernel_rfl) (fun w hw j v hv => by
   have h2 := (hfix _ w_0 h.2).2 j v hv
   exact RdF.part ((HpG.x hw).get RdF.lies h.1) (List.getElem?_eq_some_iff.1 h2).1 (by omega) h2)) ?_
   refine zG .none V (yQ (z := .agg #[.int .i64 0, .int .u32 0, .string ⟨#[]⟩, .slice none 0 0]) (cs := [.int .i64 0, .int .u32 0, .string ⟨#[]⟩, .slice none 0 0]) (by kernel_rfl) V) (fun b8 => ?_); refine Za V V <| ZR 0 V V V V V (by kernel_rfl) ?_; refine ZX <| Z9r 0 1 2 7 8 15 16 17 18 V V V V V V V V V <| Zm V V <| Zm V V ?_; (refine ZF rfl (zS (es := 4) rfl rfl Tryz.underlying55 (by kernel_rfl) rfl ?_ rfl) ?_; (· first | decide | omega | (simp; done) | (simp; omega)); skip)
   refine ZF V (yH (cs := xT y A' cap') V Tryz.underlying57 V (by kernel_rfl) (fun w hw j v hv => by
   have h2 := (hfix' _ w_0 h'.2).2 j v hv
   exact RdF.part ((HpG.x hw).get RdF.lies h'.1) (List.getElem?_eq_some_iff.1 h2).1 (by omega) h2)) ?_
   refine zG .none V (yQ (z := .agg #[.int .i64 0, .int .u32 0, .string ⟨#[]⟩, .slice none 0 0]) (cs := [.int .i64 0, .int .u32 0, .string ⟨#[]⟩, .slice none 0 0]) (by kernel_rfl) V) (fun b9 => ?_); refine ZR 0 V V V V V (by kernel_rfl) ?_; refine ZX <| Z10r 0 1 2 7 8 9 15 16 17 18 V V V V V V V V V V <| Zm V V <| ZF V (zC 1 V V Tryz.underlying57 V (by kernel_rfl)) ?_; refine ZF V (zC 0 V V Tryz.underlying57 V (by kernel_rfl)) ?_; refine yA (ι := Unit) (val := fun _ => .bool (dq (x = y))) (H' := fun _ => Hp (fun _ => False) w_0 [(b9, bk 57 (xT y A' cap')), (b8, bk 57 (xT x A cap))] [] (xQ (fun _ => True) w_0)) .none V  (uC (us := []) (vs := [.agg (xT x A cap).toArray, .agg (xT y A' cap').toArray]) (cs := []) (args := [.tmp 27, .tmp 28]) hgo V V (fun w hw => (hC x (List.mem_of_getElem? hx) y (List.mem_of_getElem? hy) A cap A' cap' w ((HpG.x hw).get xY.lies (hfix _ w_0 h.2).1) ((HpG.x hw).get xY.lies (hfix' _ w_0 h'.2).1)).mono fun e w' ⟨e1, e2⟩ => ⟨_, e1, (), rfl, HpG.onE hw e2⟩)) (fun _ => ?_); refine ZF V (xF V) <| ZT <| zO V (fun he => ?_) (fun he => ?_)
   ·refine zY <| Z11r 0 1 2 7 8 9 15 16 17 18 30 V V V V V V V V V V V <| Za V V <| ZT <| zI <| zN <| zU <| zU <| zN <| zU <| zF V V (fun w hw => ?_)
    have hne : x ≠ y := fun e => by
     rw [wW e] at he; cases he
    exact ⟨by rw [xZ fun e => hne (by rw [e, hy] at hx; injection hx with hx; exact hx.symm)], (HpG.keep hw).ext⟩
   ·refine zA <| zE <| zQ <| Z11r 0 1 2 7 8 9 15 16 17 18 30 V V V V V V V V V V V ?_; (refine ZF rfl (yD rfl rfl (i64_in _ ?_ ?_)) ?_; (· omega); (· omega); skip); refine Zm V V <| zW <| wS (fun w hw => ⟨⟨k + 1, hkl, fun j hj => ?_⟩, by show l.length - (k + 1) < l.length - k; omega, .cons V <| .cons V <| .cons V <| .cons V <| .cons V <| .cons V <| .nil, Hp.drop hw (List.nil_sublist _) (List.Sublist.refl _)⟩); rcases Nat.lt_or_ge j k with h1 | h1
    ·exact hno j h1
    ·have : j = k := by omega
     subst this
     have e : x = y := Classical.byContradiction fun e => by
      rw [xZ e] at he; cases he
     rw [hx, hy, e]
  ·replace hc := of_decide_eq_false hc; have hke : k = l.length := by omega
   refine xV <| zL <| zL <| xW <| zQ <| zY <| zX <| Za V V <| ZT <| zI <| zF V V (fun w hw => ?_)
   exact ⟨by rw [wW (List.ext_getElem? fun j => by
    rcases Nat.lt_or_ge j l.length with h1 | h1
    ·exact hno j (by omega)
    ·rw [List.getElem?_eq_none h1, List.getElem?_eq_none (by omega)])], (HpG.keep hw).ext⟩
/-- Two of them compared by a function value. -/
def PqS (fv : Value) (l m : List St) : Prop := ∃ f, fv = .func (.func f) #[] #[] ∧ vM Tryz.prog f = true ∧ ∀ x ∈ l, ∀ y ∈ m, ∀ a a' w, stsK (fun _ => True) w x a → stsK (fun _ => True) w y a' → Calls Tryz.prog f #[.agg (uN x a).toArray, .agg (uN y a').toArray] w fun e w' => e = .returned (.bool (dq (x = y))) ∧ Ext w w'
set_option maxHeartbeats 1000000 in
set_option maxRecDepth 100000 in
theorem eqfS_any (l m : List St) (A0 B0 : Option Addr) (c0 d0 : Nat) (hl : Cp l.length c0) (hm : Cp m.length d0) (cs ds : List Value) {fv : Value} (hq : PqS fv l m) (w_0 : World) (h : RdF (fun _ => True) A0 cs w_0 ∧ StsV (fun _ => True) w_0 l cs) (h' : RdF (fun _ => True) B0 ds w_0 ∧ StsV (fun _ => True) w_0 m ds) : Calls Tryz.prog 67 #[.slice A0 l.length c0, .slice B0 m.length d0, fv] w_0 fun e w' => e = .returned (.bool (dq (l = m))) ∧ Ext w_0 w' := by
 have hlt := hl.lt; have hmt := hm.lt; obtain ⟨f, rfl, hgo, hC⟩ := hq; refine yU (args := [.slice A0 l.length c0, .slice B0 m.length d0, .func (.func f) #[] #[]]) Tryz.func67 V 32 V (Nat.le_of_ble_eq_true V) <| Z3 0 1 2 V V V <| zB (H' := Hp (fun _ => False) w_0 [] [] (xQ (fun _ => True) w_0)) (fun u hu => ?_) ?_
 ·subst hu; exact Hp.startSame
 refine zY <| zX <| Za V V <| ZX <| zY <| zX <| Zm V V <| ZF V (yR V Tryz.underlying58) <| Zm V V <| ZF V (yR V Tryz.underlying58) <| ZF V (uR V V) <| ZT <| zO V (fun h14 => ?_) (fun h14 => ?_)
 ·replace h14 := vN h14; refine zY <| Z5r 0 1 2 6 14 V V V V V <| Za V V <| ZT <| zI <| zU <| zF V V (fun w hw => ?_); exact ⟨by rw [xZ fun e => h14 (by rw [e])], (HpG.keep hw).ext⟩
 ·replace h14 := uI h14; have hll : l.length = m.length := by omega
  refine zA <| zQ <| zY <| zY <| Z5r 0 1 2 6 14 V V V V V <| Zm V V <| ZF V (yR V Tryz.underlying58) <| Zm V V <| ZT <| yT <| xS (ι := {k : Nat // k ≤ l.length ∧ ∀ j, j < k → l[j]? = m[j]?}) (fun k => [(0, .slice A0 l.length c0), (1, .slice B0 m.length d0), (2, .func (.func f) #[] #[]), (15, .slice A0 l.length c0), (16, .int .i64 l.length), (17, .int .i64 k.1)]) (fun _ => Hp (fun _ => False) w_0 [] [] (xQ (fun _ => True) w_0)) (fun k => l.length - k.1) ⟨0, Nat.zero_le _, fun _ h => absurd h (by omega)⟩ ?_ ?_ (fun k => ?_)
  ·exact .cons V <| .cons V <| .cons V <| .cons V <| .cons V <| .cons V <| .nil
  ·exact fun w h => h
  obtain ⟨k, hk, hno⟩ := k; dsimp only; refine zY <| zX <| ZF V (xP V V) <| ZX <| zO V (fun hc => ?_) (fun hc => ?_)
  ·replace hc := of_decide_eq_true hc; have hkl : k < l.length := by omega
   obtain ⟨x, hx⟩ : ∃ x, l[k]? = some x := ⟨l[k], List.getElem?_eq_getElem hkl⟩; obtain ⟨y, hy⟩ : ∃ y, m[k]? = some y := ⟨m[k], List.getElem?_eq_getElem (by omega)⟩
   obtain ⟨b, off, rfl⟩ : ∃ b off, A0 = some ⟨b, off, none⟩ := by
    obtain ⟨b, off, e, _⟩ := h.1 (by rw [h.2.len]; omega); exact ⟨b, off, e⟩
   obtain ⟨b', off', rfl⟩ : ∃ b off, B0 = some ⟨b, off, none⟩ := by
    obtain ⟨b, off, e, _⟩ := h'.1 (by rw [h'.2.len]; omega); exact ⟨b, off, e⟩
   obtain ⟨a, hfix⟩ := h.2.fix hx; obtain ⟨a', hfix'⟩ := h'.2.fix hy; refine zA <| zQ <| zY <| yT <| zY <| zX <| Zm V V ?_; (refine ZF rfl (zS (es := 5) rfl rfl Tryz.underlying58 (by kernel_rfl) rfl ?_ rfl) ?_; (· first | decide | omega | (simp; done) | (simp; omega)); skip)
   refine ZF V (yH (cs := uN x a) V Tryz.underlying60 V (by kernel_rfl) (fun w hw j v hv => by
   have h2 := (hfix _ w_0 h.2).2 j v hv
   exact RdF.part ((HpG.x hw).get RdF.lies h.1) (List.getElem?_eq_some_iff.1 h2).1 (by omega) h2)) ?_
   refine zG .none V (yQ (z := .agg #[.int .i64 0, .string ⟨#[]⟩, .slice none 0 0, .slice none 0 0, .slice none 0 0]) (cs := [.int .i64 0, .string ⟨#[]⟩, .slice none 0 0, .slice none 0 0, .slice none 0 0]) (by kernel_rfl) V) (fun b8 => ?_); refine Za V V <| ZR 0 V V V V V (by kernel_rfl) ?_; refine ZX <| Z9r 0 1 2 7 8 15 16 17 18 V V V V V V V V V <| Zm V V <| Zm V V ?_; (refine ZF rfl (zS (es := 5) rfl rfl Tryz.underlying58 (by kernel_rfl) rfl ?_ rfl) ?_; (· first | decide | omega | (simp; done) | (simp; omega)); skip)
   refine ZF V (yH (cs := uN y a') V Tryz.underlying60 V (by kernel_rfl) (fun w hw j v hv => by
   have h2 := (hfix' _ w_0 h'.2).2 j v hv
   exact RdF.part ((HpG.x hw).get RdF.lies h'.1) (List.getElem?_eq_some_iff.1 h2).1 (by omega) h2)) ?_
   refine zG .none V (yQ (z := .agg #[.int .i64 0, .string ⟨#[]⟩, .slice none 0 0, .slice none 0 0, .slice none 0 0]) (cs := [.int .i64 0, .string ⟨#[]⟩, .slice none 0 0, .slice none 0 0, .slice none 0 0]) (by kernel_rfl) V) (fun b9 => ?_); refine ZR 0 V V V V V (by kernel_rfl) ?_; refine ZX <| Z10r 0 1 2 7 8 9 15 16 17 18 V V V V V V V V V V <| Zm V V <| ZF V (zC 1 V V Tryz.underlying60 V (by kernel_rfl)) ?_; refine ZF V (zC 0 V V Tryz.underlying60 V (by kernel_rfl)) ?_; refine yA (ι := Unit) (val := fun _ => .bool (dq (x = y))) (H' := fun _ => Hp (fun _ => False) w_0 [(b9, bk 60 (uN y a')), (b8, bk 60 (uN x a))] [] (xQ (fun _ => True) w_0)) .none V  (uC (us := []) (vs := [.agg (uN x a).toArray, .agg (uN y a').toArray]) (cs := []) (args := [.tmp 27, .tmp 28]) hgo V V (fun w hw => (hC x (List.mem_of_getElem? hx) y (List.mem_of_getElem? hy) a a' w ((HpG.x hw).get stsK.lies (hfix _ w_0 h.2).1) ((HpG.x hw).get stsK.lies (hfix' _ w_0 h'.2).1)).mono fun e w' ⟨e1, e2⟩ => ⟨_, e1, (), rfl, HpG.onE hw e2⟩)) (fun _ => ?_); refine ZF V (xF V) <| ZT <| zO V (fun he => ?_) (fun he => ?_)
   ·refine zY <| Z11r 0 1 2 7 8 9 15 16 17 18 30 V V V V V V V V V V V <| Za V V <| ZT <| zI <| zN <| zU <| zU <| zN <| zU <| zF V V (fun w hw => ?_)
    have hne : x ≠ y := fun e => by
     rw [wW e] at he; cases he
    exact ⟨by rw [xZ fun e => hne (by rw [e, hy] at hx; injection hx with hx; exact hx.symm)], (HpG.keep hw).ext⟩
   ·refine zA <| zE <| zQ <| Z11r 0 1 2 7 8 9 15 16 17 18 30 V V V V V V V V V V V ?_; (refine ZF rfl (yD rfl rfl (i64_in _ ?_ ?_)) ?_; (· omega); (· omega); skip); refine Zm V V <| zW <| wS (fun w hw => ⟨⟨k + 1, hkl, fun j hj => ?_⟩, by show l.length - (k + 1) < l.length - k; omega, .cons V <| .cons V <| .cons V <| .cons V <| .cons V <| .cons V <| .nil, Hp.drop hw (List.nil_sublist _) (List.Sublist.refl _)⟩); rcases Nat.lt_or_ge j k with h1 | h1
    ·exact hno j h1
    ·have : j = k := by omega
     subst this
     have e : x = y := Classical.byContradiction fun e => by
      rw [xZ e] at he; cases he
     rw [hx, hy, e]
  ·replace hc := of_decide_eq_false hc; have hke : k = l.length := by omega
   refine xV <| zL <| zL <| xW <| zQ <| zY <| zX <| Za V V <| ZT <| zI <| zF V V (fun w hw => ?_)
   exact ⟨by rw [wW (List.ext_getElem? fun j => by
    rcases Nat.lt_or_ge j l.length with h1 | h1
    ·exact hno j (by omega)
    ·rw [List.getElem?_eq_none h1, List.getElem?_eq_none (by omega)])], (HpG.keep hw).ext⟩
/-- Two of them compared by a function value. -/
def PqF (fv : Value) (l m : List Fn) : Prop := ∃ f, fv = .func (.func f) #[] #[] ∧ vM Tryz.prog f = true ∧ ∀ x ∈ l, ∀ y ∈ m, ∀ a a' w, fnsK (fun _ => True) w x a → fnsK (fun _ => True) w y a' → Calls Tryz.prog f #[.agg (xE x a).toArray, .agg (xE y a').toArray] w fun e w' => e = .returned (.bool (dq (x = y))) ∧ Ext w w'
set_option maxHeartbeats 1000000 in
set_option maxRecDepth 100000 in
theorem eqfF_any (l m : List Fn) (A0 B0 : Option Addr) (c0 d0 : Nat) (hl : Cp l.length c0) (hm : Cp m.length d0) (cs ds : List Value) {fv : Value} (hq : PqF fv l m) (w_0 : World) (h : RdF (fun _ => True) A0 cs w_0 ∧ FnsV (fun _ => True) w_0 l cs) (h' : RdF (fun _ => True) B0 ds w_0 ∧ FnsV (fun _ => True) w_0 m ds) : Calls Tryz.prog 64 #[.slice A0 l.length c0, .slice B0 m.length d0, fv] w_0 fun e w' => e = .returned (.bool (dq (l = m))) ∧ Ext w_0 w' := by
 have hlt := hl.lt; have hmt := hm.lt; obtain ⟨f, rfl, hgo, hC⟩ := hq; refine yU (args := [.slice A0 l.length c0, .slice B0 m.length d0, .func (.func f) #[] #[]]) Tryz.func64 V 32 V (Nat.le_of_ble_eq_true V) <| Z3 0 1 2 V V V <| zB (H' := Hp (fun _ => False) w_0 [] [] (xQ (fun _ => True) w_0)) (fun u hu => ?_) ?_
 ·subst hu; exact Hp.startSame
 refine zY <| zX <| Za V V <| ZX <| zY <| zX <| Zm V V <| ZF V (yR V Tryz.underlying30) <| Zm V V <| ZF V (yR V Tryz.underlying30) <| ZF V (uR V V) <| ZT <| zO V (fun h14 => ?_) (fun h14 => ?_)
 ·replace h14 := vN h14; refine zY <| Z5r 0 1 2 6 14 V V V V V <| Za V V <| ZT <| zI <| zU <| zF V V (fun w hw => ?_); exact ⟨by rw [xZ fun e => h14 (by rw [e])], (HpG.keep hw).ext⟩
 ·replace h14 := uI h14; have hll : l.length = m.length := by omega
  refine zA <| zQ <| zY <| zY <| Z5r 0 1 2 6 14 V V V V V <| Zm V V <| ZF V (yR V Tryz.underlying30) <| Zm V V <| ZT <| yT <| xS (ι := {k : Nat // k ≤ l.length ∧ ∀ j, j < k → l[j]? = m[j]?}) (fun k => [(0, .slice A0 l.length c0), (1, .slice B0 m.length d0), (2, .func (.func f) #[] #[]), (15, .slice A0 l.length c0), (16, .int .i64 l.length), (17, .int .i64 k.1)]) (fun _ => Hp (fun _ => False) w_0 [] [] (xQ (fun _ => True) w_0)) (fun k => l.length - k.1) ⟨0, Nat.zero_le _, fun _ h => absurd h (by omega)⟩ ?_ ?_ (fun k => ?_)
  ·exact .cons V <| .cons V <| .cons V <| .cons V <| .cons V <| .cons V <| .nil
  ·exact fun w h => h
  obtain ⟨k, hk, hno⟩ := k; dsimp only; refine zY <| zX <| ZF V (xP V V) <| ZX <| zO V (fun hc => ?_) (fun hc => ?_)
  ·replace hc := of_decide_eq_true hc; have hkl : k < l.length := by omega
   obtain ⟨x, hx⟩ : ∃ x, l[k]? = some x := ⟨l[k], List.getElem?_eq_getElem hkl⟩; obtain ⟨y, hy⟩ : ∃ y, m[k]? = some y := ⟨m[k], List.getElem?_eq_getElem (by omega)⟩
   obtain ⟨b, off, rfl⟩ : ∃ b off, A0 = some ⟨b, off, none⟩ := by
    obtain ⟨b, off, e, _⟩ := h.1 (by rw [h.2.len]; omega); exact ⟨b, off, e⟩
   obtain ⟨b', off', rfl⟩ : ∃ b off, B0 = some ⟨b, off, none⟩ := by
    obtain ⟨b, off, e, _⟩ := h'.1 (by rw [h'.2.len]; omega); exact ⟨b, off, e⟩
   obtain ⟨a, hfix⟩ := h.2.fix hx; obtain ⟨a', hfix'⟩ := h'.2.fix hy; refine zA <| zQ <| zY <| yT <| zY <| zX <| Zm V V ?_; (refine ZF rfl (zS (es := 3) rfl rfl Tryz.underlying30 (by kernel_rfl) rfl ?_ rfl) ?_; (· first | decide | omega | (simp; done) | (simp; omega)); skip)
   refine ZF V (yH (cs := xE x a) V Tryz.underlying62 V (by kernel_rfl) (fun w hw j v hv => by
   have h2 := (hfix _ w_0 h.2).2 j v hv
   exact RdF.part ((HpG.x hw).get RdF.lies h.1) (List.getElem?_eq_some_iff.1 h2).1 (by omega) h2)) ?_
   refine zG .none V (yQ (z := .agg #[.string ⟨#[]⟩, .slice none 0 0, .slice none 0 0]) (cs := [.string ⟨#[]⟩, .slice none 0 0, .slice none 0 0]) (by kernel_rfl) V) (fun b8 => ?_); refine Za V V <| ZR 0 V V V V V (by kernel_rfl) ?_; refine ZX <| Z9r 0 1 2 7 8 15 16 17 18 V V V V V V V V V <| Zm V V <| Zm V V ?_; (refine ZF rfl (zS (es := 3) rfl rfl Tryz.underlying30 (by kernel_rfl) rfl ?_ rfl) ?_; (· first | decide | omega | (simp; done) | (simp; omega)); skip)
   refine ZF V (yH (cs := xE y a') V Tryz.underlying62 V (by kernel_rfl) (fun w hw j v hv => by
   have h2 := (hfix' _ w_0 h'.2).2 j v hv
   exact RdF.part ((HpG.x hw).get RdF.lies h'.1) (List.getElem?_eq_some_iff.1 h2).1 (by omega) h2)) ?_
   refine zG .none V (yQ (z := .agg #[.string ⟨#[]⟩, .slice none 0 0, .slice none 0 0]) (cs := [.string ⟨#[]⟩, .slice none 0 0, .slice none 0 0]) (by kernel_rfl) V) (fun b9 => ?_); refine ZR 0 V V V V V (by kernel_rfl) ?_; refine ZX <| Z10r 0 1 2 7 8 9 15 16 17 18 V V V V V V V V V V <| Zm V V <| ZF V (zC 1 V V Tryz.underlying62 V (by kernel_rfl)) ?_; refine ZF V (zC 0 V V Tryz.underlying62 V (by kernel_rfl)) ?_; refine yA (ι := Unit) (val := fun _ => .bool (dq (x = y))) (H' := fun _ => Hp (fun _ => False) w_0 [(b9, bk 62 (xE y a')), (b8, bk 62 (xE x a))] [] (xQ (fun _ => True) w_0)) .none V  (uC (us := []) (vs := [.agg (xE x a).toArray, .agg (xE y a').toArray]) (cs := []) (args := [.tmp 27, .tmp 28]) hgo V V (fun w hw => (hC x (List.mem_of_getElem? hx) y (List.mem_of_getElem? hy) a a' w ((HpG.x hw).get fnsK.lies (hfix _ w_0 h.2).1) ((HpG.x hw).get fnsK.lies (hfix' _ w_0 h'.2).1)).mono fun e w' ⟨e1, e2⟩ => ⟨_, e1, (), rfl, HpG.onE hw e2⟩)) (fun _ => ?_); refine ZF V (xF V) <| ZT <| zO V (fun he => ?_) (fun he => ?_)
   ·refine zY <| Z11r 0 1 2 7 8 9 15 16 17 18 30 V V V V V V V V V V V <| Za V V <| ZT <| zI <| zN <| zU <| zU <| zN <| zU <| zF V V (fun w hw => ?_)
    have hne : x ≠ y := fun e => by
     rw [wW e] at he; cases he
    exact ⟨by rw [xZ fun e => hne (by rw [e, hy] at hx; injection hx with hx; exact hx.symm)], (HpG.keep hw).ext⟩
   ·refine zA <| zE <| zQ <| Z11r 0 1 2 7 8 9 15 16 17 18 30 V V V V V V V V V V V ?_; (refine ZF rfl (yD rfl rfl (i64_in _ ?_ ?_)) ?_; (· omega); (· omega); skip); refine Zm V V <| zW <| wS (fun w hw => ⟨⟨k + 1, hkl, fun j hj => ?_⟩, by show l.length - (k + 1) < l.length - k; omega, .cons V <| .cons V <| .cons V <| .cons V <| .cons V <| .cons V <| .nil, Hp.drop hw (List.nil_sublist _) (List.Sublist.refl _)⟩); rcases Nat.lt_or_ge j k with h1 | h1
    ·exact hno j h1
    ·have : j = k := by omega
     subst this
     have e : x = y := Classical.byContradiction fun e => by
      rw [xZ e] at he; cases he
     rw [hx, hy, e]
  ·replace hc := of_decide_eq_false hc; have hke : k = l.length := by omega
   refine xV <| zL <| zL <| xW <| zQ <| zY <| zX <| Za V V <| ZT <| zI <| zF V V (fun w hw => ?_)
   exact ⟨by rw [wW (List.ext_getElem? fun j => by
    rcases Nat.lt_or_ge j l.length with h1 | h1
    ·exact hno j (by omega)
    ·rw [List.getElem?_eq_none h1, List.getElem?_eq_none (by omega)])], (HpG.keep hw).ext⟩
end Go.Proofs.YtfpkpnkdnammnaaGreatDoor
/- The program's Equal. -/
namespace Go.Proofs.YtfpkpnkdnammnaaGreatDoor
open Go.RowKit
/-- equalExpr on x. -/
def EqE (x : Ex) : Prop := ∀ (y : Ex) (A B : Option Addr) (c d : Nat) (w : World), xY (fun _ => True) w x A c → xY (fun _ => True) w y B d → Calls Tryz.prog 111 #[.agg (xT x A c).toArray, .agg (xT y B d).toArray] w fun e w' => e = .returned (.bool (dq (x = y))) ∧ Ext w w'
set_option maxHeartbeats 2000000 in
set_option maxRecDepth 100000 in
theorem equalExpr_step (k n : Nat) (s : Bs) (kids : List Ex) (IH : ∀ x ∈ kids, EqE x) : EqE (.mk k n s kids) := by
 intro y A B c d w_0 hx hy; obtain ⟨k', n', s', kids'⟩ := y; have hx' := hx; have hy' := hy; obtain ⟨hc1, cs, hr1, hv1⟩ := hx'; obtain ⟨hc2, ds, hr2, hv2⟩ := hy'; show Calls Tryz.prog 111 #[.agg (exC k n s A kids.length c).toArray, .agg (exC k' n' s' B kids'.length d).toArray] w_0 _; refine yU (args := [.agg (exC k n s A kids.length c).toArray, .agg (exC k' n' s' B kids'.length d).toArray]) Tryz.func111 V 31 V (Nat.le_of_ble_eq_true V) <| Z2 0 1 V V <| zB (H' := Hp (fun _ => False) w_0 [] [] (xQ (fun _ => True) w_0)) (fun u hu => ?_) ?_
 ·subst hu; exact Hp.startSame
 refine zY <| zX <| zG .none V (xG V V) (fun b2 => ?_); refine zG .none V (xG V V) (fun b3 => ?_); refine Za V V <| ZX <| zX <| ZF V (zZ (off := 0) (sz := 0) V Tryz.underlying57 (by kernel_rfl) V) ?_; refine ZF V (zV 1 V V V Tryz.underlying3 V) <| ZF V (zZ (off := 0) (sz := 0) V Tryz.underlying57 (by kernel_rfl) V) ?_; refine ZF V (zV 0 V V V Tryz.underlying3 V) <| ZF V (yP V V) <| Zm V V <| yZ 10 V (fun h10 => ?_) (fun h10 => ?_)
 ·replace h10 := eq_of_beq h10; refine ZG V V V (zZ (off := 1) (sz := 0) V Tryz.underlying57 (by kernel_rfl) V) ?_; refine ZG V V V (zV 1 V V V Tryz.underlying50 V) <| ZG V V V (zZ (off := 1) (sz := 0) V Tryz.underlying57 (by kernel_rfl) V) ?_; refine ZG V V V (zV 0 V V V Tryz.underlying50 V) <| ZG V V V (yP V V) <| ZF V (zM V V) <| Zm V V <| yZ 17 V (fun h17 => ?_) (fun h17 => ?_)
  ·replace h17 := eq_of_beq h17; refine ZG V V V (zZ (off := 2) (sz := 0) V Tryz.underlying57 (by kernel_rfl) V) ?_; refine ZG V V V (zV 1 V V V Tryz.underlying9 V) <| ZG V V V (zZ (off := 2) (sz := 0) V Tryz.underlying57 (by kernel_rfl) V) ?_; refine ZG V V V (zV 0 V V V Tryz.underlying9 V) <| ZG V V V (xI V V Tryz.underlying9) <| ZF V (zM V V) <| Zm V V <| yZ 24 V (fun h24 => ?_) (fun h24 => ?_)
   ·refine ZG V V V (zZ (off := 3) (sz := 0) V Tryz.underlying57 (by kernel_rfl) V) ?_; refine ZG V V V (zV 1 V V V Tryz.underlying55 V) <| ZG V V V (zZ (off := 3) (sz := 0) V Tryz.underlying57 (by kernel_rfl) V) ?_; refine ZG V V V (zV 0 V V V Tryz.underlying55 V) <| yM (.some V V) V  (v := .bool (dq (kids = kids'))) (by kernel_rfl) V (fun w hw => eqfE_any kids kids' A B c d hc1 hc2 cs ds ⟨111, rfl, by kernel_rfl, fun x hx y _ A2 cap A' cap' w h1 h2 => IH x hx y A2 A' cap cap' w h1 h2⟩ w ⟨(HpG.x hw).get RdF.lies hr1, (HpG.x hw).get ExsV.lies hv1⟩ ⟨(HpG.x hw).get RdF.lies hr2, (HpG.x hw).get ExsV.lies hv2⟩) ?_; refine ZF V (zM V V) <| Za V V <| ZT <| zI <| zF V V (fun w hw => ?_); have e1 : k = k' := by omega
    have e2 : n = n' := by omega
    have e3 : s = s' := of_decide_eq_true h24; subst e1 e2 e3; refine ⟨?_, (HpG.keep hw).ext⟩; congr 2
    by_cases h : kids = kids'
    ·rw [wW h, wW (by rw [h])]
    ·rw [xZ h, xZ (fun e => h (by injection e))]
   ·refine ZP V <| ZP V <| ZP V <| ZP V <| ZP V <| ZF V (zK V V) <| Za V V <| ZT <| zI <| zF V V (fun w hw => ?_); exact ⟨by rw [xZ fun e => of_decide_eq_false h24 (by injection e)], (HpG.keep hw).ext⟩
  ·replace h17 := yL h17; refine ZP V <| ZP V <| ZP V <| ZP V <| ZP V <| ZF V (zK V V) <| Zm V V <| ZP V <| ZP V <| ZP V <| ZP V <| ZP V <| ZF V (zK V V) <| Za V V <| ZT <| zI <| zF V V (fun w hw => ?_); exact ⟨by rw [xZ fun e => h17 (by injection e with _ e; rw [e])], (HpG.keep hw).ext⟩
 ·replace h10 := yL h10; refine ZP V <| ZP V <| ZP V <| ZP V <| ZP V <| ZF V (zK V V) <| Zm V V <| ZP V <| ZP V <| ZP V <| ZP V <| ZP V <| ZF V (zK V V) <| Zm V V <| ZP V <| ZP V <| ZP V <| ZP V <| ZP V <| ZF V (zK V V) <| Za V V <| ZT <| zI <| zF V V (fun w hw => ?_); exact ⟨by rw [xZ fun e => h10 (by injection e with e; rw [e])], (HpG.keep hw).ext⟩
theorem equalExpr_all : ∀ x : Ex, EqE x := by
 have key : ∀ (N : Nat) (x : Ex), SizeOf.sizeOf x < N → EqE x := by
  intro N
  induction N with
  | zero => exact fun x h => absurd h (by omega)
  | succ N ih =>
   intro x h
   cases x with
   | mk k n s kids => exact equalExpr_step k n s kids (fun y hy => ih y (by have := List.sizeOf_lt_of_mem hy; simp only [Ex.mk.sizeOf_spec] at h; omega))
 exact fun x => key _ x (Nat.lt_succ_self _)
theorem pqE_any (l m : List Ex) : PqE (.func (.func 111) #[] #[]) l m := ⟨_, rfl, by kernel_rfl, fun x _ y _ A cap A' cap' w h1 h2 => equalExpr_all x y A A' cap cap' w h1 h2⟩
/-- equalStmt on x. -/
def EqS (x : St) : Prop := ∀ (y : St) (a b : StA) (w : World), stsK (fun _ => True) w x a → stsK (fun _ => True) w y b → Calls Tryz.prog 68 #[.agg (uN x a).toArray, .agg (uN y b).toArray] w fun e w' => e = .returned (.bool (dq (x = y))) ∧ Ext w w'
set_option maxHeartbeats 2000000 in
set_option maxRecDepth 100000 in
theorem equalStmt_step (k : Nat) (s : Bs) (es : List Ex) (bd el : List St) (IHb : ∀ x ∈ bd, EqS x) (IHe : ∀ x ∈ el, EqS x) : EqS (.mk k s es bd el) := by
 intro y a b w_0 hx hy; obtain ⟨k', s', es', bd', el'⟩ := y; obtain ⟨A1, A2, A3, c1, c2, c3⟩ := a; obtain ⟨B1, B2, B3, d1, d2, d3⟩ := b; obtain ⟨p1, p2, p3, ⟨x1, r1, v1⟩, ⟨x2, r2, v2⟩, ⟨x3, r3, v3⟩⟩ := hx; obtain ⟨p1', p2', p3', ⟨y1, q1, u1⟩, ⟨y2, q2, u2⟩, ⟨y3, q3, u3⟩⟩ := hy; dsimp only [St.exprs, St.body, St.els] at p1 p2 p3 p1' p2' p3' v1 v2 v3 u1 u2 u3 r1 r2 r3 q1 q2 q3; show Calls Tryz.prog 68 #[.agg (stC k s A1 es.length c1 A2 bd.length c2 A3 el.length c3).toArray, .agg (stC k' s' B1 es'.length d1 B2 bd'.length d2 B3 el'.length d3).toArray] w_0 _; refine yU (args := [.agg (stC k s A1 es.length c1 A2 bd.length c2 A3 el.length c3).toArray, .agg (stC k' s' B1 es'.length d1 B2 bd'.length d2 B3 el'.length d3).toArray]) Tryz.func68 V 38 V (Nat.le_of_ble_eq_true V) <| Z2 0 1 V V <| zB (H' := Hp (fun _ => False) w_0 [] [] (xQ (fun _ => True) w_0)) (fun u hu => ?_) ?_
 ·subst hu; exact Hp.startSame
 refine zY <| zX <| zG .none V (xG V V) (fun b2 => ?_); refine zG .none V (xG V V) (fun b3 => ?_); refine Za V V <| ZX <| zX <| ZF V (zZ (off := 0) (sz := 0) V Tryz.underlying60 (by kernel_rfl) V) ?_; refine ZF V (zV 1 V V V Tryz.underlying3 V) <| ZF V (zZ (off := 0) (sz := 0) V Tryz.underlying60 (by kernel_rfl) V) ?_; refine ZF V (zV 0 V V V Tryz.underlying3 V) <| ZF V (yP V V) <| Zm V V <| yZ 10 V (fun h10 => ?_) (fun h10 => ?_)
 ·replace h10 := eq_of_beq h10; refine ZG V V V (zZ (off := 1) (sz := 0) V Tryz.underlying60 (by kernel_rfl) V) ?_; refine ZG V V V (zV 1 V V V Tryz.underlying9 V) <| ZG V V V (zZ (off := 1) (sz := 0) V Tryz.underlying60 (by kernel_rfl) V) ?_; refine ZG V V V (zV 0 V V V Tryz.underlying9 V) <| ZG V V V (xI V V Tryz.underlying9) <| ZF V (zM V V) <| Zm V V <| yZ 17 V (fun h17 => ?_) (fun h17 => ?_)
  ·refine ZG V V V (zZ (off := 2) (sz := 0) V Tryz.underlying60 (by kernel_rfl) V) ?_; refine ZG V V V (zV 1 V V V Tryz.underlying55 V) <| ZG V V V (zZ (off := 2) (sz := 0) V Tryz.underlying60 (by kernel_rfl) V) ?_; refine ZG V V V (zV 0 V V V Tryz.underlying55 V) <| yM (.some V V) V  (v := .bool (dq (es = es'))) (by kernel_rfl) V (fun w hw => eqfE_any es es' A1 B1 c1 d1 p1 p1' x1 y1 (pqE_any es es') w ⟨(HpG.x hw).get RdF.lies r1, (HpG.x hw).get ExsV.lies v1⟩ ⟨(HpG.x hw).get RdF.lies q1, (HpG.x hw).get ExsV.lies u1⟩) ?_; refine ZF V (zM V V) <| Zm V V <| yZ 24 V (fun h24 => ?_) (fun h24 => ?_)
   ·refine ZG V V V (zZ (off := 3) (sz := 0) V Tryz.underlying60 (by kernel_rfl) V) ?_; refine ZG V V V (zV 1 V V V Tryz.underlying58 V) <| ZG V V V (zZ (off := 3) (sz := 0) V Tryz.underlying60 (by kernel_rfl) V) ?_; refine ZG V V V (zV 0 V V V Tryz.underlying58 V) <| yM (.some V V) V  (v := .bool (dq (bd = bd'))) (by kernel_rfl) V (fun w hw => eqfS_any bd bd' A2 B2 c2 d2 p2 p2' x2 y2 ⟨68, rfl, by kernel_rfl, fun x hx y _ a a' w h1 h2 => IHb x hx y a a' w h1 h2⟩ w ⟨(HpG.x hw).get RdF.lies r2, (HpG.x hw).get StsV.lies v2⟩ ⟨(HpG.x hw).get RdF.lies q2, (HpG.x hw).get StsV.lies u2⟩) ?_; refine ZF V (zM V V) <| Zm V V <| yZ 31 V (fun h31 => ?_) (fun h31 => ?_)
    ·refine ZG V V V (zZ (off := 4) (sz := 0) V Tryz.underlying60 (by kernel_rfl) V) ?_; refine ZG V V V (zV 1 V V V Tryz.underlying58 V) <| ZG V V V (zZ (off := 4) (sz := 0) V Tryz.underlying60 (by kernel_rfl) V) ?_; refine ZG V V V (zV 0 V V V Tryz.underlying58 V) <| yM (.some V V) V  (v := .bool (dq (el = el'))) (by kernel_rfl) V (fun w hw => eqfS_any el el' A3 B3 c3 d3 p3 p3' x3 y3 ⟨68, rfl, by kernel_rfl, fun x hx y _ a a' w h1 h2 => IHe x hx y a a' w h1 h2⟩ w ⟨(HpG.x hw).get RdF.lies r3, (HpG.x hw).get StsV.lies v3⟩ ⟨(HpG.x hw).get RdF.lies q3, (HpG.x hw).get StsV.lies u3⟩) ?_; refine ZF V (zM V V) <| Za V V <| ZT <| zI <| zF V V (fun w hw => ?_); have e1 : k = k' := by omega
     have e2 : s = s' := of_decide_eq_true h17; have e3 := dq_iff.1 h24; have e4 := dq_iff.1 h31; subst e1 e2 e3 e4; refine ⟨?_, (HpG.keep hw).ext⟩; congr 2
     by_cases h : el = el'
     ·rw [wW h, wW (by rw [h])]
     ·rw [xZ h, xZ (fun e => h (by injection e))]
    ·refine ZP V <| ZP V <| ZP V <| ZP V <| ZP V <| ZF V (zK V V) <| Za V V <| ZT <| zI <| zF V V (fun w hw => ?_); exact ⟨by rw [xZ fun e => by injection e with _ _ _ e _; rw [wW e] at h31; cases h31], (HpG.keep hw).ext⟩
   ·refine ZP V <| ZP V <| ZP V <| ZP V <| ZP V <| ZF V (zK V V) <| Zm V V <| ZP V <| ZP V <| ZP V <| ZP V <| ZP V <| ZF V (zK V V) <| Za V V <| ZT <| zI <| zF V V (fun w hw => ?_); exact ⟨by rw [xZ fun e => by injection e with _ _ e _ _; rw [wW e] at h24; cases h24], (HpG.keep hw).ext⟩
  ·refine ZP V <| ZP V <| ZP V <| ZP V <| ZP V <| ZF V (zK V V) <| Zm V V <| ZP V <| ZP V <| ZP V <| ZP V <| ZP V <| ZF V (zK V V) <| Zm V V <| ZP V <| ZP V <| ZP V <| ZP V <| ZP V <| ZF V (zK V V) <| Za V V <| ZT <| zI <| zF V V (fun w hw => ?_); exact ⟨by rw [xZ fun e => of_decide_eq_false h17 (by injection e)], (HpG.keep hw).ext⟩
 ·replace h10 := yL h10; refine ZP V <| ZP V <| ZP V <| ZP V <| ZP V <| ZF V (zK V V) <| Zm V V <| ZP V <| ZP V <| ZP V <| ZP V <| ZP V <| ZF V (zK V V) <| Zm V V <| ZP V <| ZP V <| ZP V <| ZP V <| ZP V <| ZF V (zK V V) <| Zm V V <| ZP V <| ZP V <| ZP V <| ZP V <| ZP V <| ZF V (zK V V) <| Za V V <| ZT <| zI <| zF V V (fun w hw => ?_); exact ⟨by rw [xZ fun e => h10 (by injection e with e; rw [e])], (HpG.keep hw).ext⟩
theorem equalStmt_all : ∀ x : St, EqS x := by
 have key : ∀ (N : Nat) (x : St), SizeOf.sizeOf x < N → EqS x := by
  intro N
  induction N with
  | zero => exact fun x h => absurd h (by omega)
  | succ N ih =>
   intro x h
   cases x with
   | mk k s es bd el => exact equalStmt_step k s es bd el (fun y hy => ih y (by have := List.sizeOf_lt_of_mem hy; simp only [St.mk.sizeOf_spec] at h; omega)) (fun y hy => ih y (by have := List.sizeOf_lt_of_mem hy; simp only [St.mk.sizeOf_spec] at h; omega))
 exact fun x => key _ x (Nat.lt_succ_self _)
theorem pqS_any (l m : List St) : PqS (.func (.func 68) #[] #[]) l m := ⟨_, rfl, by kernel_rfl, fun x _ y _ a a' w h1 h2 => equalStmt_all x y a a' w h1 h2⟩
set_option maxHeartbeats 1000000 in
set_option maxRecDepth 100000 in
theorem eqStrs_any (l m : List Bs) (A0 B0 : Option Addr) (c0 d0 : Nat) (hl : Cp l.length c0) (hm : Cp m.length d0) (w_0 : World) (h : RdF (fun _ => True) A0 (yC l) w_0) (h' : RdF (fun _ => True) B0 (yC m) w_0) : Calls Tryz.prog 66 #[.slice A0 l.length c0, .slice B0 m.length d0] w_0 fun e w' => e = .returned (.bool (dq (l = m))) ∧ Ext w_0 w' := by
 have hlt := hl.lt; have hmt := hm.lt; refine yU (args := [.slice A0 l.length c0, .slice B0 m.length d0]) Tryz.func66 V 26 V (Nat.le_of_ble_eq_true V) <| Z2 0 1 V V <| zB (H' := Hp (fun _ => False) w_0 [] [] (xQ (fun _ => True) w_0)) (fun u hu => ?_) ?_
 ·subst hu; exact Hp.startSame
 refine zY <| zX <| Za V V <| ZX <| zY <| zX <| Zm V V <| ZF V (yR V Tryz.underlying22) <| Zm V V <| ZF V (yR V Tryz.underlying22) <| ZF V (uR V V) <| ZT <| zO V (fun h14 => ?_) (fun h14 => ?_)
 ·replace h14 := vN h14; refine zY <| Z4r 0 1 4 10 V V V V <| Za V V <| ZT <| zI <| zU <| zF V V (fun w hw => ?_); exact ⟨by rw [xZ fun e => h14 (by rw [e])], (HpG.keep hw).ext⟩
 ·replace h14 := uI h14; have hll : l.length = m.length := by omega
  refine zA <| zQ <| zY <| zY <| Z4r 0 1 4 10 V V V V <| Zm V V <| ZF V (yR V Tryz.underlying22) <| Zm V V <| ZT <| yT <| xS (ι := {k : Nat // k ≤ l.length ∧ ∀ j, j < k → l[j]? = m[j]?}) (fun k => [(0, .slice A0 l.length c0), (1, .slice B0 m.length d0), (12, .int .i64 l.length), (13, .int .i64 k.1)]) (fun _ => Hp (fun _ => False) w_0 [] [] (xQ (fun _ => True) w_0)) (fun k => l.length - k.1) ⟨0, Nat.zero_le _, fun _ h => absurd h (by omega)⟩ ?_ ?_ (fun k => ?_)
  ·exact .cons V <| .cons V <| .cons V <| .cons V <| .nil
  ·exact fun w h => h
  obtain ⟨k, hk, hno⟩ := k; dsimp only; refine zY <| zX <| ZF V (xP V V) <| ZX <| zO V (fun hc => ?_) (fun hc => ?_)
  ·replace hc := of_decide_eq_true hc; have hkl : k < l.length := by omega
   obtain ⟨x, hx⟩ : ∃ x, l[k]? = some x := ⟨l[k], List.getElem?_eq_getElem hkl⟩; obtain ⟨y, hy⟩ : ∃ y, m[k]? = some y := ⟨m[k], List.getElem?_eq_getElem (by omega)⟩; have hxs : (yC l)[k]? = some (.string ⟨x.toArray⟩) := by rw [yC, List.getElem?_map, hx]; rfl
   have hys : (yC m)[k]? = some (.string ⟨y.toArray⟩) := by rw [yC, List.getElem?_map, hy]; rfl
   obtain ⟨b, off, rfl⟩ : ∃ b off, A0 = some ⟨b, off, none⟩ := by
    obtain ⟨b, off, e, _⟩ := h (by rw [strs_len]; omega); exact ⟨b, off, e⟩
   obtain ⟨b', off', rfl⟩ : ∃ b off, B0 = some ⟨b, off, none⟩ := by
    obtain ⟨b, off, e, _⟩ := h' (by rw [strs_len]; omega); exact ⟨b, off, e⟩
   refine zA <| zQ <| zY <| yT <| zY <| zX <| Zm V V <| Za V V <| ZX <| Z6 0 1 5 12 13 14 V V V V V V <| tD [0, 1, 2, 3, 4, 5, 6, 7, 8] _ (by kernel_rfl) (by kernel_rfl) HpG.stab HpG.stab (fun _ h => HpG.drew h) (fun _ h => h) ?_; refine Zd V V V (zR V) <| Zd V V V (zR V) <| yY V ?_; (refine zD ?_ .none rfl (zS (es := 1) rfl rfl Tryz.underlying22 (by kernel_rfl) rfl ?_ rfl) ?_; (· rfl); (· first | decide | omega | (simp; done) | (simp; omega)); skip); refine Zd V V V (yS (v := .string ⟨x.toArray⟩) V Tryz.underlying9 V (fun w hw => RdF.part ((HpG.x hw).get RdF.lies h) (by rw [strs_len]; exact hkl) (by omega) hxs)) ?_; refine Zd V V V (zR V) <| Zd V V V (zR V) <| yY V ?_; (refine zD ?_ .none rfl (zS (es := 1) rfl rfl Tryz.underlying22 (by kernel_rfl) rfl ?_ rfl) ?_; (· rfl); (· first | decide | omega | (simp; done) | (simp; omega)); skip); refine Zd V V V (yS (v := .string ⟨y.toArray⟩) V Tryz.underlying9 V (fun w hw => RdF.part ((HpG.x hw).get RdF.lies h') (by rw [strs_len]; omega) (by omega) hys)) ?_; refine Zd V V V (tF V V Tryz.underlying9) <| uO <| zQ <| zO V (fun he => ?_) (fun he => ?_)
   ·refine zY <| Z7r 0 1 5 12 13 14 24 V V V V V V V <| Za V V <| ZT <| zI <| zN <| zU <| zU <| zN <| zU <| zF V V (fun w hw => ?_); have hne : x ≠ y := by simpa using he
    exact ⟨by rw [xZ fun e => hne (by rw [e, hy] at hx; injection hx with hx; exact hx.symm)], (HpG.keep hw).ext⟩
   ·refine zA <| zE <| zQ <| Z7r 0 1 5 12 13 14 24 V V V V V V V ?_; (refine ZF rfl (yD rfl rfl (i64_in _ ?_ ?_)) ?_; (· omega); (· omega); skip); refine Zm V V <| zW <| wS (fun w hw => ⟨⟨k + 1, hkl, fun j hj => ?_⟩, by show l.length - (k + 1) < l.length - k; omega, .cons V <| .cons V <| .cons V <| .cons V <| .nil, hw⟩); rcases Nat.lt_or_ge j k with h1 | h1
    ·exact hno j h1
    ·have : j = k := by omega
     subst this; have e : x = y := by simpa using he
     rw [hx, hy, e]
  ·replace hc := of_decide_eq_false hc; have hke : k = l.length := by omega
   refine xV <| zL <| zL <| xW <| zQ <| zY <| zX <| Za V V <| ZT <| zI <| zF V V (fun w hw => ?_)
   exact ⟨by rw [wW (List.ext_getElem? fun j => by
    rcases Nat.lt_or_ge j l.length with h1 | h1
    ·exact hno j (by omega)
    ·rw [List.getElem?_eq_none h1, List.getElem?_eq_none (by omega)])], (HpG.keep hw).ext⟩
theorem pqF_any (l m : List Fn) : PqF (.func (.func 65) #[] #[]) l m := by
 refine ⟨_, rfl, by kernel_rfl, fun x _ y _ a a' w_0 hx hy => ?_⟩; obtain ⟨s, ps, bd⟩ := x; obtain ⟨s', ps', bd'⟩ := y; obtain ⟨A1, A2, c1, c2⟩ := a; obtain ⟨B1, B2, d1, d2⟩ := a'; obtain ⟨p1, p2, r1, ⟨x2, r2, v2⟩⟩ := hx; obtain ⟨p1', p2', q1, ⟨y2, q2, u2⟩⟩ := hy; dsimp only at p1 p2 p1' p2' v2 u2 r1 r2 q1 q2; show Calls Tryz.prog 65 #[.agg (fnC s A1 ps.length c1 A2 bd.length c2).toArray, .agg (fnC s' B1 ps'.length d1 B2 bd'.length d2).toArray] w_0 fun e w' => e = .returned (.bool (dq ((⟨s, ps, bd⟩ : Fn) = ⟨s', ps', bd'⟩))) ∧ Ext w_0 w'; refine yU (args := [.agg (fnC s A1 ps.length c1 A2 bd.length c2).toArray, .agg (fnC s' B1 ps'.length d1 B2 bd'.length d2).toArray]) Tryz.func65 V 24 V (Nat.le_of_ble_eq_true V) <| Z2 0 1 V V <| zB (H' := Hp (fun _ => False) w_0 [] [] (xQ (fun _ => True) w_0)) (fun u hu => ?_) ?_
 ·subst hu; exact Hp.startSame
 refine zY <| zX <| zG .none V (xG V V) (fun b2 => ?_); refine zG .none V (xG V V) (fun b3 => ?_); refine Za V V <| ZX <| zX <| ZF V (zZ (off := 0) (sz := 0) V Tryz.underlying62 (by kernel_rfl) V) ?_; refine ZF V (zV 1 V V V Tryz.underlying9 V) <| ZF V (zZ (off := 0) (sz := 0) V Tryz.underlying62 (by kernel_rfl) V) ?_; refine ZF V (zV 0 V V V Tryz.underlying9 V) <| ZF V (xI V V Tryz.underlying9) <| Zm V V <| yZ 10 V (fun h10 => ?_) (fun h10 => ?_)
 ·refine ZG V V V (zZ (off := 1) (sz := 0) V Tryz.underlying62 (by kernel_rfl) V) ?_; refine ZG V V V (zV 1 V V V Tryz.underlying22 V) <| ZG V V V (zZ (off := 1) (sz := 0) V Tryz.underlying62 (by kernel_rfl) V) ?_; refine ZG V V V (zV 0 V V V Tryz.underlying22 V) <| yM (.some V V) V  (v := .bool (dq (ps = ps'))) (by kernel_rfl) V (fun w hw => eqStrs_any ps ps' A1 B1 c1 d1 p1 p1' w ((HpG.x hw).get RdF.lies r1) ((HpG.x hw).get RdF.lies q1)) ?_; refine ZF V (zM V V) <| Zm V V <| yZ 17 V (fun h17 => ?_) (fun h17 => ?_)
  ·refine ZG V V V (zZ (off := 2) (sz := 0) V Tryz.underlying62 (by kernel_rfl) V) ?_; refine ZG V V V (zV 1 V V V Tryz.underlying58 V) <| ZG V V V (zZ (off := 2) (sz := 0) V Tryz.underlying62 (by kernel_rfl) V) ?_; refine ZG V V V (zV 0 V V V Tryz.underlying58 V) <| yM (.some V V) V  (v := .bool (dq (bd = bd'))) (by kernel_rfl) V (fun w hw => eqfS_any bd bd' A2 B2 c2 d2 p2 p2' x2 y2 (pqS_any bd bd') w ⟨(HpG.x hw).get RdF.lies r2, (HpG.x hw).get StsV.lies v2⟩ ⟨(HpG.x hw).get RdF.lies q2, (HpG.x hw).get StsV.lies u2⟩) ?_; refine ZF V (zM V V) <| Za V V <| ZT <| zI <| zF V V (fun w hw => ?_); have e1 : s = s' := of_decide_eq_true h10; have e2 := dq_iff.1 h17; subst e1 e2; refine ⟨?_, (HpG.keep hw).ext⟩; congr 2
   by_cases h : bd = bd'
   ·rw [wW h, wW (by rw [h])]
   ·rw [xZ h, xZ (fun e => h (by injection e))]
  ·refine ZP V <| ZP V <| ZP V <| ZP V <| ZP V <| ZF V (zK V V) <| Za V V <| ZT <| zI <| zF V V (fun w hw => ?_); exact ⟨by rw [xZ fun e => by injection e with _ e _; rw [wW e] at h17; cases h17], (HpG.keep hw).ext⟩
 ·refine ZP V <| ZP V <| ZP V <| ZP V <| ZP V <| ZF V (zK V V) <| Zm V V <| ZP V <| ZP V <| ZP V <| ZP V <| ZP V <| ZF V (zK V V) <| Za V V <| ZT <| zI <| zF V V (fun w hw => ?_); exact ⟨by rw [xZ fun e => of_decide_eq_false h10 (by injection e)], (HpG.keep hw).ext⟩
theorem sR (a b : List Fn) (F G : Nat → Prop) (A B : Option Addr) (c d : Nat) (w_0 : World) (ha : PgK F w_0 a A c) (hb : PgK G w_0 b B d) : Calls Tryz.prog 31 #[.agg [Value.slice A a.length c].toArray, .agg [Value.slice B b.length d].toArray] w_0 fun e w' => e = .returned (.bool (dq (a = b))) ∧ Ext w_0 w' := by
 obtain ⟨pa, ca, ra, va⟩ := PgK.lies.mono (F' := fun _ => True) (fun _ _ => trivial) ha; obtain ⟨pb, cb, rb, vb⟩ := PgK.lies.mono (F' := fun _ => True) (fun _ _ => trivial) hb; refine yU (args := [.agg [Value.slice A a.length c].toArray, .agg [Value.slice B b.length d].toArray]) Tryz.func31 V 10 V (Nat.le_of_ble_eq_true V) <| Z2 0 1 V V <| zB (H' := Hp (fun _ => False) w_0 [] [] (xQ (fun _ => True) w_0)) (fun u hu => ?_) ?_
 ·subst hu; exact Hp.startSame
 refine zY <| zX <| zG .none V (xG V V) (fun b2 => ?_); refine zG .none V (xG V V) (fun b3 => ?_); refine Za V V <| ZX <| zX <| ZF V (zZ (off := 0) (sz := 0) V Tryz.underlying32 (by kernel_rfl) V) ?_; refine ZF V (zV 1 V V V Tryz.underlying30 V) <| ZF V (zZ (off := 0) (sz := 0) V Tryz.underlying32 (by kernel_rfl) V) ?_; refine ZF V (zV 0 V V V Tryz.underlying30 V) <| yM .none V  (v := .bool (dq (a = b))) (by kernel_rfl) V (fun w hw => eqfF_any a b A B c d pa pb ca cb (pqF_any a b) w ⟨(HpG.x hw).get RdF.lies ra, (HpG.x hw).get FnsV.lies va⟩ ⟨(HpG.x hw).get RdF.lies rb, (HpG.x hw).get FnsV.lies vb⟩) ?_; refine Za V V <| ZT <| zI <| zF V V (fun w hw => ?_); exact ⟨rfl, (HpG.keep hw).ext⟩
end Go.Proofs.YtfpkpnkdnammnaaGreatDoor
