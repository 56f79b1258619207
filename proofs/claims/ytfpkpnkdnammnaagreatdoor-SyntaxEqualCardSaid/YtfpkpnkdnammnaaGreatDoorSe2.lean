/- The reference's Equal, Mod. -/
import Derived.Test.YtfpkpnkdnammnaaGreatDoorSe1
namespace Go.Proofs.YtfpkpnkdnammnaaGreatDoor
open Go.RowKit
theorem fn_ext {x y : Fn} (h1 : x.name = y.name) (h2 : x.params = y.params) (h3 : x.body = y.body) : x = y := by
 cases x; cases y; dsimp only at h1 h2 h3; subst h1; subst h2; subst h3; rfl
set_option maxHeartbeats 4000000 in
set_option maxRecDepth 100000 in
theorem equal_any (a b : List Fn) (F : Nat → Prop) (A B : Option Addr) (c d : Nat) (w_0 : World) (ha : PgK F w_0 a A c) (hb : PgK F w_0 b B d) : Calls Tryz.prog 26 #[.agg [Value.slice A a.length c].toArray, .agg [Value.slice B b.length d].toArray] w_0 fun e w' => e = .returned (.bool (dq (a = b))) ∧ Ext w_0 w' := by
 obtain ⟨pa, ca, ra, va⟩ := ha; obtain ⟨pb, cb, rb, vb⟩ := hb; have hla := pa.lt; have hlb := pb.lt
 have hA : 0 < a.length → ∃ b off, A = some ⟨b, off, none⟩ := fun h0 => by
  obtain ⟨b, off, e, _⟩ := ra (by rw [va.len]; omega); exact ⟨b, off, e⟩
 have hB : 0 < b.length → ∃ b off, B = some ⟨b, off, none⟩ := fun h0 => by
  obtain ⟨b, off, e, _⟩ := rb (by rw [vb.len]; omega); exact ⟨b, off, e⟩
 refine yU (args := [Value.agg [Value.slice A a.length c].toArray, Value.agg [Value.slice B b.length d].toArray]) Tryz.func26 V 75 V (Nat.le_of_ble_eq_true V) <| Z2 0 1 V V <| zB (H' := Hp (fun _ => False) w_0 [] [] (xQ F w_0)) (fun u hu => ?_) ?_
 ·subst hu; exact Hp.startSame
 refine zY <| zX <| zG .none V (xG V V) (fun b2 => ?_); refine zG .none V (xG V V) (fun b3 => ?_); refine Za V V <| ZX <| zY <| zX <| ZF V (zZ (off := 0) (sz := 0) V Tryz.underlying32 (by kernel_rfl) V) ?_; refine ZF V (zV 1 V V V Tryz.underlying30 V) <| ZF V (yR V Tryz.underlying30) <| ZF V (zZ (off := 0) (sz := 0) V Tryz.underlying32 (by kernel_rfl) V) ?_; refine ZF V (zV 0 V V V Tryz.underlying30 V) <| ZF V (yR V Tryz.underlying30) <| ZF V (uR V V) <| ZT <| zO V (fun h16 => ?_) (fun h16 => ?_)
 ·replace h16 := vN h16; refine zY <| Z6r 0 1 2 3 4 16 V V V V V V <| Za V V <| ZT <| zI <| zU <| zF V V (fun w hw => ?_); exact ⟨by rw [xZ (fun e => by subst e; simp at h16)], (HpG.keep hw).ext⟩
 ·replace h16 := uI h16; have hl : a.length = b.length := by omega
  refine zA <| zQ <| zY <| zY <| Z6r 0 1 2 3 4 16 V V V V V V <| Za V V <| ZT <| yT <| xS (ι := {i : Nat // i ≤ a.length ∧ a.take i = b.take i}) (fun i => [(2, .pointer (some ⟨b2, 0, none⟩)), (3, .pointer (some ⟨b3, 0, none⟩)), (5, .int .i64 i.1)]) (fun _ => Hp (fun _ => False) w_0 [(b3, bk 32 [.slice B b.length d]), (b2, bk 32 [.slice A a.length c])] [] (xQ F w_0)) (fun i => a.length - i.1) ⟨0, Nat.zero_le _, by simp⟩ ?_ ?_ (fun i => ?_)
  ·exact .cons V <| .cons V <| .cons V <| .nil
  ·exact fun w h => h
  obtain ⟨i, hi, htk⟩ := i; dsimp only; refine zY <| zY <| zX <| Zm V V <| ZF V (zZ (off := 0) (sz := 0) V Tryz.underlying32 (by kernel_rfl) V) ?_; refine ZF V (zV 1 V V V Tryz.underlying30 V) <| ZF V (yR V Tryz.underlying30) <| ZF V (xP V V) <| ZT <| zO V (fun hc => ?_) (fun hc => ?_)
  ·replace hc := of_decide_eq_true hc; have hil : i < a.length := by omega
   obtain ⟨g1, o1, rfl⟩ := hA (by omega); obtain ⟨g2, o2, rfl⟩ := hB (by omega); obtain ⟨x, hx⟩ : ∃ x, a[i]? = some x := ⟨a[i], List.getElem?_eq_getElem hil⟩; obtain ⟨y, hy⟩ : ∃ y, b[i]? = some y := ⟨b[i]'(by omega), List.getElem?_eq_getElem (by omega)⟩; obtain ⟨a1, hfix1⟩ := va.fix hx; have hk1 := (hfix1 F w_0 va).1; have hc1 := (hfix1 F w_0 va).2; obtain ⟨a2, hfix2⟩ := vb.fix hy; have hk2 := (hfix2 F w_0 vb).1; have hc2 := (hfix2 F w_0 vb).2; have hab : a = b → x = y := fun e => by subst e; rw [hx] at hy; exact Option.some.inj hy
   have hkb : SS2 F w_0 x.body y.body a1.A2 a2.A2 a1.c2 a2.c2 := ⟨⟨hk1.p2, hk1.h2⟩, ⟨hk2.p2, hk2.h2⟩⟩; have hp1 := hk1.h1; have hp2 := hk2.h1; have hpl1 := hk1.p1.lt; have hpl2 := hk2.p1.lt
   have hP1 : 0 < x.params.length → ∃ b off, a1.A1 = some ⟨b, off, none⟩ := fun h0 => by
    obtain ⟨b, off, e, _⟩ := hp1 (by rw [strs_len]; omega); exact ⟨b, off, e⟩
   have hP2 : 0 < y.params.length → ∃ b off, a2.A1 = some ⟨b, off, none⟩ := fun h0 => by
    obtain ⟨b, off, e, _⟩ := hp2 (by rw [strs_len]; omega); exact ⟨b, off, e⟩
   generalize hA1 : a1.A1 = P1 at hp1 hP1; generalize hA2 : a2.A1 = P2 at hp2 hP2; refine zA <| zQ <| zY <| yT <| zY <| Z4r 2 3 5 21 V V V V <| ZF V (zZ (off := 0) (sz := 0) V Tryz.underlying32 (by kernel_rfl) V) ?_; refine ZF V (zV 1 V V V Tryz.underlying30 V) <| Zm V V ?_; (refine ZF rfl (zS (es := 3) rfl rfl Tryz.underlying30 (by kernel_rfl) rfl ?_ rfl) ?_; (· first | decide | omega | (simp; done) | (simp; omega)); skip)
   refine ZF V (yH (cs := fnC x.name P1 x.params.length a1.c1 a1.A2 x.body.length a1.c2) V Tryz.underlying62 V (by kernel_rfl) (fun w h j v hv => by
    rw [← hA1] at hv
    exact RdF.part ((HpG.x h).get RdF.lies ra) (List.getElem?_eq_some_iff.1 (hc1 j v hv)).1 (by omega) (hc1 j v hv))) ?_
   refine zG .none V (yQ (z := .agg #[.string ⟨#[]⟩, .slice none 0 0, .slice none 0 0]) (cs := [.string ⟨#[]⟩, .slice none 0 0, .slice none 0 0]) (by kernel_rfl) V) (fun b6 => ?_); refine ZR 0 V V V V V (by kernel_rfl) ?_; refine ZX <| Z5r 2 3 5 6 21 V V V V V <| ZF V (zZ (off := 0) (sz := 0) V Tryz.underlying32 (by kernel_rfl) V) ?_; refine ZF V (zV 1 V V V Tryz.underlying30 V) <| Zm V V ?_; (refine ZF rfl (zS (es := 3) rfl rfl Tryz.underlying30 (by kernel_rfl) rfl ?_ rfl) ?_; (· first | decide | omega | (simp; done) | (simp; omega)); skip)
   refine ZF V (yH (cs := fnC y.name P2 y.params.length a2.c1 a2.A2 y.body.length a2.c2) V Tryz.underlying62 V (by kernel_rfl) (fun w h j v hv => by
    rw [← hA2] at hv
    exact RdF.part ((HpG.x h).get RdF.lies rb) (List.getElem?_eq_some_iff.1 (hc2 j v hv)).1 (by omega) (hc2 j v hv))) ?_
   refine zG .none V (yQ (z := .agg #[.string ⟨#[]⟩, .slice none 0 0, .slice none 0 0]) (cs := [.string ⟨#[]⟩, .slice none 0 0, .slice none 0 0]) (by kernel_rfl) V) (fun b7 => ?_); refine ZR 0 V V V V V (by kernel_rfl) ?_; refine ZX <| Z6r 2 3 5 6 7 21 V V V V V V <| ZF V (zZ (off := 2) (sz := 0) V Tryz.underlying62 (by kernel_rfl) V) ?_; refine ZF V (zV 1 V V V Tryz.underlying58 V) <| ZF V (zZ (off := 2) (sz := 0) V Tryz.underlying62 (by kernel_rfl) V) ?_; refine ZF V (zV 0 V V V Tryz.underlying58 V) <| yM .none V  (v := .bool (dq (x.body = y.body))) (by kernel_rfl) V (fun w hw => sameS_any x.body y.body F a1.A2 a2.A2 a1.c2 a2.c2 w ((HpG.x hw).get SS2.lies hkb)) ?_; refine Za V V <| ZX <| zY <| Z7r 2 3 5 6 7 8 21 V V V V V V V <| Zm V V <| ZF V (xF V) <| Zm V V <| yZ 41 V (fun g3 => ?_) (fun g3 => ?_)
   ·refine ZP V <| ZP V <| ZP V <| ZP V <| ZP V <| ZF V (zM V V) <| Zm V V <| ZP V <| ZP V <| ZP V <| ZP V <| ZP V <| ZP V <| ZP V <| ZF V (zM V V) <| ZT <| vD V <| zY <| Z8r 2 3 5 6 7 8 21 56 V V V V V V V V <| Za V V <| ZT <| zI <| zU <| zN <| zU <| zU <| zN <| zU <| zF V V (fun w hw => ?_); exact ⟨by rw [xZ (fun e => by have := hab e; subst this; rw [wW rfl] at g3; cases g3)], (HpG.keep hw).ext⟩
   ·refine ZG V V V (zZ (off := 0) (sz := 0) V Tryz.underlying62 (by kernel_rfl) V) ?_; refine ZG V V V (zV 1 V V V Tryz.underlying9 V) <| ZG V V V (zZ (off := 0) (sz := 0) V Tryz.underlying62 (by kernel_rfl) V) ?_; refine ZG V V V (zV 0 V V V Tryz.underlying9 V) <| ZG V V V (tF V V Tryz.underlying9) <| ZF V (zK V V) <| Zm V V <| yZ 48 V (fun g10 => ?_) (fun g10 => ?_)
    ·refine ZP V <| ZP V <| ZP V <| ZP V <| ZP V <| ZP V <| ZP V <| ZF V (zM V V) <| ZT <| vD V <| zY <| Z8r 2 3 5 6 7 8 21 56 V V V V V V V V <| Za V V <| ZT <| zI <| zU <| zN <| zU <| zU <| zN <| zU <| zF V V (fun w hw => ?_); exact ⟨by rw [xZ (fun e => by have := hab e; subst this; simp at g10)], (HpG.keep hw).ext⟩
    ·refine ZG V V V (zZ (off := 1) (sz := 0) V Tryz.underlying62 (by kernel_rfl) V) ?_; refine ZG V V V (zV 1 V V V Tryz.underlying22 V) <| ZG V V V (yR V Tryz.underlying22) <| ZG V V V (zZ (off := 1) (sz := 0) V Tryz.underlying62 (by kernel_rfl) V) ?_; refine ZG V V V (zV 0 V V V Tryz.underlying22 V) <| ZG V V V (yR V Tryz.underlying22) <| ZG V V V (uR V V) <| ZF V (zK V V) <| ZT <| zO V (fun h56 => ?_) (fun h56 => ?_)
     ·replace h56 := vN h56; refine zY <| Z8r 2 3 5 6 7 8 21 56 V V V V V V V V <| Za V V <| ZT <| zI <| zU <| zN <| zU <| zU <| zN <| zU <| zF V V (fun w hw => ?_); exact ⟨by rw [xZ (fun e => by have := hab e; subst this; simp at h56)], (HpG.keep hw).ext⟩
     ·replace h56 := uI h56; have hpl : x.params.length = y.params.length := by omega
      refine zA <| zQ <| zY <| Z8r 2 3 5 6 7 8 21 56 V V V V V V V V <| Za V V <| ZT <| yT <| xS (ι := {k : Nat // k ≤ x.params.length ∧ x.params.take k = y.params.take k}) (fun k => [(2, .pointer (some ⟨b2, 0, none⟩)), (3, .pointer (some ⟨b3, 0, none⟩)), (5, .int .i64 i), (6, .pointer (some ⟨b6, 0, none⟩)), (7, .pointer (some ⟨b7, 0, none⟩)), (9, .int .i64 k.1)]) (fun _ => Hp (fun _ => False) w_0 [(b7, bk 62 (fnC y.name P2 y.params.length a2.c1 a2.A2 y.body.length a2.c2)), (b6, bk 62 (fnC x.name P1 x.params.length a1.c1 a1.A2 x.body.length a1.c2)), (b3, bk 32 [.slice (some ⟨g2, o2, none⟩) b.length d]), (b2, bk 32 [.slice (some ⟨g1, o1, none⟩) a.length c])] [] (xQ F w_0)) (fun k => x.params.length - k.1) ⟨0, Nat.zero_le _, by simp⟩ ?_ ?_ (fun k => ?_)
      ·exact .cons V <| .cons V <| .cons V <| .cons V <| .cons V <| .cons V <| .nil
      ·exact fun w h => h
      obtain ⟨k, hk, hpk⟩ := k; dsimp only; refine zY <| zY <| zX <| Zm V V <| ZF V (zZ (off := 1) (sz := 0) V Tryz.underlying62 (by kernel_rfl) V) ?_; refine ZF V (zV 1 V V V Tryz.underlying22 V) <| ZF V (yR V Tryz.underlying22) <| ZF V (xP V V) <| ZT <| zO V (fun hc => ?_) (fun hc => ?_)
      ·replace hc := of_decide_eq_true hc; have hkl : k < x.params.length := by omega
       obtain ⟨q1, r1, rfl⟩ := hP1 (by omega); obtain ⟨q2, r2, rfl⟩ := hP2 (by omega); obtain ⟨s, hs⟩ : ∃ s, x.params[k]? = some s := ⟨x.params[k], List.getElem?_eq_getElem hkl⟩; obtain ⟨t, ht⟩ : ∃ t, y.params[k]? = some t := ⟨y.params[k]'(by omega), List.getElem?_eq_getElem (by omega)⟩; refine zA <| zQ <| zY <| yT <| zY <| Z7 2 3 5 6 7 9 61 V V V V V V V <| tD [0, 1, 2, 3, 4, 5, 6, 7, 8, 9, 10] (fun u => Blk b6 (bk 62 (fnC x.name (some ⟨q1, r1, none⟩) x.params.length a1.c1 a1.A2 x.body.length a1.c2)) u ∧ Blk b7 (bk 62 (fnC y.name (some ⟨q2, r2, none⟩) y.params.length a2.c1 a2.A2 y.body.length a2.c2)) u ∧ xQ F w_0 u) (by kernel_rfl) (by kernel_rfl) HpG.stab (fun u ob ⟨h1, h2, h3⟩ => ⟨Blk.stab u ob h1, Blk.stab u ob h2, xQ.stab u ob h3⟩) (fun _ h => HpG.drew h) (fun w h => ⟨HpG.blk h (k := 1) rfl, HpG.blk h (k := 0) rfl, HpG.x h⟩) ?_; refine Zd V V V (zZ (off := 1) (sz := 0) V Tryz.underlying62 (by kernel_rfl) V) ?_; refine Zd V V V (yS (v := .slice (some ⟨q1, r1, none⟩) x.params.length a1.c1) V Tryz.underlying22 V (fun u h => by rw [cell_of_row u b6 _ _ _ _ h.1]; rfl)) ?_; refine Zd V V V (zR V) <| yY V ?_; (refine zD ?_ .none rfl (zS (es := 1) rfl rfl Tryz.underlying22 (by kernel_rfl) rfl ?_ rfl) ?_; (· rfl); (· first | decide | omega | (simp; done) | (simp; omega)); skip); refine Zd V V V (yS (v := .string ⟨s.toArray⟩) V Tryz.underlying9 V (fun w h => RdF.part (h.2.2.get RdF.lies hp1) (by rw [strs_len]; exact hkl) (by omega) (strs_at hs))) ?_; refine Zd V V V (zZ (off := 1) (sz := 0) V Tryz.underlying62 (by kernel_rfl) V) ?_; refine Zd V V V (yS (v := .slice (some ⟨q2, r2, none⟩) y.params.length a2.c1) V Tryz.underlying22 V (fun u h => by rw [cell_of_row u b7 _ _ _ _ h.2.1]; rfl)) ?_; refine Zd V V V (zR V) <| yY V ?_; (refine zD ?_ .none rfl (zS (es := 1) rfl rfl Tryz.underlying22 (by kernel_rfl) rfl ?_ rfl) ?_; (· rfl); (· first | decide | omega | (simp; done) | (simp; omega)); skip); refine Zd V V V (yS (v := .string ⟨t.toArray⟩) V Tryz.underlying9 V (fun w h => RdF.part (h.2.2.get RdF.lies hp2) (by rw [strs_len]; omega) (by omega) (strs_at ht))) ?_; refine Zd V V V (tF V V Tryz.underlying9) <| uO <| zQ <| zO V (fun h74 => ?_) (fun h74 => ?_)
       ·refine zY <| Z8r 2 3 5 6 7 9 61 74 V V V V V V V V <| Za V V <| ZT <| zI <| zN <| zU <| zU <| zN <| zN <| zU <| zU <| zN <| zU <| zF V V (fun w hw => ?_); exact ⟨by rw [xZ (fun e => by have := hab e; subst this; rw [hs] at ht; cases ht; simp at h74)], (HpG.keep hw).ext⟩
       ·refine zA <| zE <| zQ <| Z8r 2 3 5 6 7 9 61 74 V V V V V V V V <| Zm V V ?_; (refine ZF rfl (yD rfl rfl (i64_in _ ?_ ?_)) ?_; (· omega); (· omega); skip); refine Za V V <| zW ?_; have hst : s = t := by simpa using h74
        refine xJ (ι := {k : Nat // k ≤ x.params.length ∧ x.params.take k = y.params.take k}) ⟨k + 1, hkl, by rw [xN hs, xN ht, hpk, hst]⟩ (by show x.params.length - (k + 1) < x.params.length - k; omega) (O6 V V V V V V) (fun w h => h)
      ·replace hc := of_decide_eq_false hc; have hke : k = x.params.length := by omega
       subst hke; have hpp : x.params = y.params := by rw [List.take_length, hpl, List.take_length] at hpk; exact hpk
       refine xV <| zL <| zL <| xW <| zE <| zQ <| Z7r 2 3 5 6 7 9 61 V V V V V V V <| Zm V V ?_; (refine ZF rfl (yD rfl rfl (i64_in _ ?_ ?_)) ?_; (· omega); (· omega); skip); refine Za V V <| zW ?_
       have hxy : x = y := by
        have e1 : x.body = y.body := dq_iff.1 (by simpa using g3); have e2 : x.name = y.name := by simpa using g10
        exact fn_ext e2 hpp e1
       refine xJ (ι := {i : Nat // i ≤ a.length ∧ a.take i = b.take i}) ⟨i + 1, hil, by rw [xN hx, xN hy, htk, hxy]⟩ (by show a.length - (i + 1) < a.length - i; omega) (O3 V V V) (fun w h => Hp.drop h ((List.sublist_cons_self _ _).trans (List.sublist_cons_self _ _)) (List.Sublist.refl _))
  ·replace hc := of_decide_eq_false hc; have hie : i = a.length := by omega
   subst hie; have hab : a = b := by rw [List.take_length, hl, List.take_length] at htk; exact htk
   refine xV <| zL <| zL <| xW <| zQ <| zY <| Z4r 2 3 5 21 V V V V <| Za V V <| ZT <| zI <| zF V V (fun w hw => ?_); exact ⟨by rw [wW hab], (HpG.keep hw).ext⟩
theorem mod_eq (n k : Int) (hk : 0 < k) : (n.tmod k + k).tmod k = n % k ∧ -k < n.tmod k ∧ n.tmod k < k := by
 have h3 := Int.emod_nonneg n (Int.ne_of_gt hk); have h4 := Int.emod_lt_of_pos n hk; have hn : (k.natAbs : Int) = k := Int.natAbs_of_nonneg (Int.le_of_lt hk); have e := Int.tmod_eq_emod (a := n) (b := k)
 have h5 : n.tmod k = n % k ∨ (n.tmod k = n % k - k ∧ ¬ k ∣ n) := by
  by_cases hc : 0 ≤ n ∨ k ∣ n
  ·rw [if_pos hc] at e; exact .inl (by omega)
  ·rw [if_neg hc, hn] at e; exact .inr ⟨e, fun hd => hc (.inr hd)⟩
 have hb : -k < n.tmod k ∧ n.tmod k < k := by
  rcases h5 with h5 | ⟨h5, hd⟩
  ·omega
  ·have : n % k ≠ 0 := fun h => hd (Int.dvd_of_emod_eq_zero h); omega
 refine ⟨?_, hb⟩; rw [Int.tmod_eq_emod_of_nonneg (by omega)]; rcases h5 with h5 | ⟨h5, _⟩
 ·rw [h5, Int.add_emod_right, Int.emod_emod_of_dvd n (Int.dvd_refl k)]
 ·rw [h5, Int.sub_add_cancel, Int.emod_emod_of_dvd n (Int.dvd_refl k)]
theorem sF (n k : Int) (hk : 0 < k) (hk2 : k ≤ 1000000) (w_0 : World) : Calls Tryz.prog 20 #[.int .i64 n, .int .i64 k] w_0 fun e w' => e = .returned (.int .i64 (n % k)) ∧ Ext w_0 w' := by
 obtain ⟨h1, h2, h3⟩ := mod_eq n k hk; refine yU (args := [.int .i64 n, .int .i64 k]) Tryz.func20 V 12 V (Nat.le_of_ble_eq_true V) <| Z2 0 1 V V <| zB (H' := Hp (fun _ => False) w_0 [] [] (fun _ => True)) (fun u hu => ?_) ?_
 ·subst hu; exact Hp.start0
 refine zY <| zX <| Za V V <| ZX <| zX <| Zm V V <| Zm V V <| ZF V (yf_rem V V (by omega) V) ?_; refine Zm V V <| ZF V (yD V V (i64_in (n.tmod k + k) (by omega) (by omega))) ?_; refine Zm V V <| ZF V (yf_rem V V (by omega) h1) ?_; refine Za V V <| ZT <| zI <| zF V V (fun w hw => ?_); exact ⟨rfl, (HpG.keep hw).ext⟩
end Go.Proofs.YtfpkpnkdnammnaaGreatDoor
