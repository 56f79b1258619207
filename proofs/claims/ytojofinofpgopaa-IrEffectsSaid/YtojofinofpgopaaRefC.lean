/- Contract of the reference: ordered. -/
import Derived.Test.YtojofinofpgopaaPlValid
import Derived.Test.YtojofinofpgopaaReg
import Derived.Deep.RegionHeld3
import Derived.Deep.QuietTactic
import Derived.BigQuiet
namespace Go.Proofs.Ytojofinofpgopaa
open Go.RowKit
attribute [local go_sem ↓] Go.wp_at_zero Go.wp_at_succ

/-- The memory of a call of ordered. -/
structure OrdW (w : World) (aA aP aO : Option Addr) (cA cP cO : Nat) (b : IBlk) (o : IOp) (A : Option Addr) (l : List Int) (wx : World) : Prop where
  below : Below w.heap.size w wx
  box : wx.heap[w.heap.size]? = some (.cells #[.slice aA b.at_.length cA, .slice aP b.pages.length cP, .slice aO b.ops.length cO] 26 (0, 0))
  op : wx.heap[w.heap.size + 1]? = some (.cells o.v 36 (0, 0))
  arr : 0 < l.length → ∃ bR, A = some ⟨bR, 0, none⟩ ∧ bR < wx.heap.size ∧ ∀ i, i < l.length → wx.cell? ⟨bR, i, none⟩ = some (.int .i64 (l.getD i 0))
theorem OrdW.after {w : World} {aA aP aO : Option Addr} {cA cP cO : Nat} {b : IBlk} {o : IOp} {A : Option Addr} {l : List Int} {wx w' : World} (h : OrdW w aA aP aO cA cP cO b o A l wx) (hx : Ext wx w') : OrdW w aA aP aO cA cP cO b o A l w' :=
  ⟨h.below.trans (Below.mono hx h.below.size), hx.block h.box, hx.block h.op, fun h0 => by
    obtain ⟨bR, hA, hb, hc⟩ := h.arr h0
    exact ⟨bR, hA, Nat.lt_of_lt_of_le hb hx.size, fun i hi => (Below.cell hx (p := ⟨bR, i, none⟩) hb).trans (hc i hi)⟩⟩
theorem anyUp_succ {p : IOp → Bool} {ops : List IOp} {f j : Nat} (h : f ≤ j) : anyUp p ops f (j + 1 - f) = (anyUp p ops f (j - f) || p (ops.getD j noOp)) := by
  rw [show j + 1 - f = (j - f) + 1 by omega, anyUp, show f + (j - f) = j by omega]
theorem ordered_bad {ops : List IOp} {i k : Nat} {o : IOp} (ho : ops.getD i noOp = o) (hk : k < (readsL o).length) (h : knownL ops i ((readsL o).getD k 0) = false) : orderedL ops i = false := by
  subst ho
  have : (readsL (ops.getD i noOp)).all (knownL ops i) = false := by
    rw [List.all_eq_false]; exact ⟨_, getD_mem hk, by rw [h]; simp⟩
  unfold orderedL; rw [this]; rfl
theorem ordered_reads {ops : List IOp} {i f : Nat} {o : IOp} (ho : ops.getD i noOp = o) (hf : firstL ops i = f) (h : ∀ j, j < (readsL o).length → knownL ops i ((readsL o).getD j 0) = true) : orderedL ops i = (!shL o.code || !anyUp chgL ops f (i - f)) := by
  subst ho hf
  have : (readsL (ops.getD i noOp)).all (knownL ops i) = true := by
    rw [List.all_eq_true]; intro v hv
    obtain ⟨j, hj, rfl⟩ := List.getElem_of_mem hv
    have := h j hj
    rw [getD_at hj] at this
    exact this
  unfold orderedL; rw [this]; rfl
theorem kn_step {a b c kn : Bool} (h : (a || b) = kn) : (a || (b || c)) = (kn || c) := by rw [← Bool.or_assoc, h]
theorem anyUp_true {p : IOp → Bool} {ops : List IOp} {f : Nat} : ∀ {n m : Nat}, n ≤ m → anyUp p ops f n = true → anyUp p ops f m = true
  | n, 0, h, ht => by obtain rfl : n = 0 := by omega
                      exact ht
  | n, m + 1, h, ht => by
    rcases Nat.lt_or_ge n (m + 1) with h1 | h1
    · rw [anyUp, anyUp_true (n := n) (m := m) (by omega) ht]; rfl
    · obtain rfl : n = m + 1 := by omega
      exact ht
theorem ordS_next {w0 w w' : World} {g off H bR k : Nat} {q : IOp} {sl : Value} {v : Int} (h : Below w0.heap.size w0 w ∧ w.cell? ⟨H, 2, none⟩ = some sl ∧ w.cell? ⟨g, off, none⟩ = some (.int .i64 q.code) ∧ w.cell? ⟨g, off + 1, none⟩ = some (.int .i64 q.d) ∧ w.cell? ⟨g, off + 2, none⟩ = some (.int .i64 q.a) ∧ w.cell? ⟨g, off + 3, none⟩ = some (.int .i64 q.b) ∧ w.cell? ⟨g, off + 4, none⟩ = some (.int .u32 q.n) ∧ w.cell? ⟨bR, k, none⟩ = some (.int .i64 v))
    (hb : Below w.heap.size w w') (hH : H < w0.heap.size) (hg : g < w0.heap.size) (hR : bR < w0.heap.size) : Below w0.heap.size w0 w' ∧ w'.cell? ⟨H, 2, none⟩ = some sl ∧ w'.cell? ⟨g, off, none⟩ = some (.int .i64 q.code) ∧ w'.cell? ⟨g, off + 1, none⟩ = some (.int .i64 q.d) ∧ w'.cell? ⟨g, off + 2, none⟩ = some (.int .i64 q.a) ∧ w'.cell? ⟨g, off + 3, none⟩ = some (.int .i64 q.b) ∧ w'.cell? ⟨g, off + 4, none⟩ = some (.int .u32 q.n) ∧ w'.cell? ⟨bR, k, none⟩ = some (.int .i64 v) := by
  obtain ⟨h1, a, c0, c1, c2, c3, c4, d⟩ := h
  have hs := h1.size
  exact ⟨h1.trans (hb.mono h1.size), (hb.cell (p := ⟨H, 2, none⟩) (Nat.lt_of_lt_of_le hH hs)).trans a, (hb.cell (p := ⟨g, _, none⟩) (Nat.lt_of_lt_of_le hg hs)).trans c0, (hb.cell (p := ⟨g, _, none⟩) (Nat.lt_of_lt_of_le hg hs)).trans c1, (hb.cell (p := ⟨g, _, none⟩) (Nat.lt_of_lt_of_le hg hs)).trans c2, (hb.cell (p := ⟨g, _, none⟩) (Nat.lt_of_lt_of_le hg hs)).trans c3, (hb.cell (p := ⟨g, _, none⟩) (Nat.lt_of_lt_of_le hg hs)).trans c4, (hb.cell (p := ⟨bR, _, none⟩) (Nat.lt_of_lt_of_le hR hs)).trans d⟩
set_option maxRecDepth 100000 in
set_option maxHeartbeats 4000000 in
theorem refOrdered_any (aA aP aO : Option Addr) (cA cP cO : Nat) (b : IBlk) (i : Nat) (w : World) (B : Nat) (hB : B ≤ w.heap.size) (h : BlkAt w B aA aP aO b) (hi : i < b.ops.length) (hl : b.ops.length ≤ 2000) (h0 : (b.ops.getD 0 noOp).code = 20) :
    Calls Try.prog 50 #[blkV aA aP aO cA cP cO b, .int .i64 i] w fun e w' => e = .returned (.bool (orderedL b.ops i)) ∧ Below w.heap.size w w' := by
  have H := Lib.hid h
  obtain ⟨g, off, rfl, hg0, hc⟩ := h.ops (by omega)
  have hg := Nat.lt_of_lt_of_le hg0 hB
  have HC := Lib.hid hc
  have H0 := Lib.hid h0
  obtain ⟨o, ho⟩ : ∃ o, b.ops.getD i noOp = o := ⟨_, rfl⟩
  have ck := hc i hi
  rw [ho] at ck
  obtain ⟨c0, c1, c2, c3, c4⟩ := ck
  have HO := Lib.hid ho
  clear h hc h0 ho
  go_enter Try.func50, Try.ntmps50
  go_wp2_with fail
  refine (refFirst_any _ _ _ _ _ _ b i _ B (by simp; omega) (H.out.below ((((Below.refl _ _).alloc hB _)).alloc (by simp; omega) _)) hi hl H0.out).mono ?_
  rintro e w1 ⟨rfl, rfl⟩
  obtain ⟨f, hf⟩ : ∃ f, firstL b.ops i = f := ⟨_, rfl⟩
  have hfi : f ≤ i := hf ▸ firstL_le b.ops i
  rw [hf]
  have HF := Lib.hid hf
  clear hf c0 c1 c2 c3 c4
  go_wp2_with fail
  refine (refReads_any o _).mono ?_
  rintro e w2 ⟨sl, rfl, hown, hb⟩
  obtain ⟨A, cap, rfl, harr⟩ := own_arr hown
  have hW : OrdW w aA aP (some ⟨g, off, none⟩) cA cP cO b o A (readsL o) w2 := by
    have hx : Ext ((w.alloc (.cells #[.slice aA b.at_.length cA, .slice aP b.pages.length cP, .slice (some ⟨g, off, none⟩) b.ops.length cO] 26)).alloc (.cells o.v 36)) w2 := Ext.trans (Ext.alloc (Ext.refl _) _) hb
    refine ⟨?_, hx.block ?_, hx.block ?_, fun hp => ?_⟩
    · exact ((((Below.refl _ _).alloc (Nat.le_refl _) _).alloc (by simp) _)).trans (Below.mono hx (by simp; omega))
    · rw [Below.heap_alloc _ _ _ (by simp)]; exact heap_alloc_new _ _
    · exact heap_new_at _ _ (by simp)
    · obtain ⟨bR, hA, h1, h2, h3⟩ := harr hp
      exact ⟨bR, hA, h2, h3⟩
  have HW := Lib.hid hW
  have hn : (readsL o).length ≤ 2 := by unfold readsL; split <;> split <;> simp
  have HK := Lib.hid (show ∀ v, knownL b.ops i v = (decide (v < 20) || anyUp (fun p => writesL p == v) b.ops f (i - f)) from fun v => by unfold knownL; rw [HF.out])
  clear hW hown harr hb
  go_wp2_with fail
  go_loopw [8] (fun s8 wr => ∃ k : Nat, k ≤ (readsL o).length ∧ s8 = .int .i64 k ∧ (∀ j, j < k → knownL b.ops i ((readsL o).getD j 0) = true) ∧ OrdW w aA aP (some ⟨g, off, none⟩) cA cP cO b o A (readsL o) wr) (fun s8 _ => (readsL o).length - (intOf s8).toNat)
  case atStart => exact ⟨0, Nat.zero_le _, rfl, fun j hj => absurd hj (by omega), HW.out⟩
  case round =>
    obtain ⟨k, hk, rfl, hall, hW⟩ := hrel
    have HA := Lib.hid hall
    have HW1 := Lib.hid hW
    clear hall hW HW
    by_cases hlt : k < (readsL o).length
    · obtain ⟨bR, rfl, hR1, hR2⟩ := HW1.out.arr (by omega)
      obtain ⟨v, hv⟩ : ∃ v, (readsL o).getD k 0 = v := ⟨_, rfl⟩
      have ck := hR2 k hlt
      rw [hv] at ck
      have HV := Lib.hid hv
      clear hR2 hv
      go_wp2_with fail
      obtain ⟨wo, hwo⟩ : ∃ wo : World, wo = wr := ⟨_, rfl⟩
      subst hwo
      go_loopw [9, 10] (fun s9 s10 wr => ∃ j : Nat, f ≤ j ∧ j ≤ i ∧ s10 = .int .i64 j ∧ s9 = .bool (decide (v < 20) || anyUp (fun p => writesL p == v) b.ops f (j - f)) ∧ OrdW w aA aP (some ⟨g, off, none⟩) cA cP cO b o (some ⟨bR, 0, none⟩) (readsL o) wr) (fun _ s10 _ => i - (intOf s10).toNat)
      case atStart => exact ⟨f, Nat.le_refl _, hfi, rfl, by rw [Nat.sub_self]; simp [anyUp], HW1.out⟩
      case round =>
        obtain ⟨j, hj1, hj2, rfl, rfl, hW⟩ := hrel
        have HW2 := Lib.hid hW
        clear ck hW
        by_cases hji : j < i
        · have HS := Lib.hid (anyUp_succ (p := fun p => writesL p == v) (ops := b.ops) hj1)
          obtain ⟨kn, hkn⟩ : ∃ kn, (decide (v < 20) || anyUp (fun p => writesL p == v) b.ops f (j - f)) = kn := ⟨_, rfl⟩
          rw [hkn]
          have HKN := Lib.hid hkn
          clear hkn
          cases kn
          · go_wp2_with fail
            obtain ⟨q, hq⟩ : ∃ q, b.ops.getD j noOp = q := ⟨_, rfl⟩
            obtain ⟨c0, c1, c2, c3, c4⟩ := (HC.out j (by omega)).below HW2.out.below hg
            rw [hq] at c0 c1 c2 c3 c4
            have HQ := Lib.hid hq
            have x2 : wr.cell? ⟨w.heap.size, 2, none⟩ = some (.slice (some ⟨g, off, none⟩) b.ops.length cO) := heap_cell HW2.out.box rfl
            obtain ⟨bR', e, hR1', hR2'⟩ := HW2.out.arr (by omega)
            obtain rfl : bR = bR' := by simpa using e
            have xk := hR2' k hlt
            rw [HV.out] at xk
            have hg1 : g < wr.heap.size := Nat.lt_of_lt_of_le hg HW2.out.below.size
            have hH1 : w.heap.size < wr.heap.size := heap_lt HW2.out.box
            have j0 : (0 : Int) ≤ (j : Int) := by omega
            have j1 : (j : Int) < (b.ops.length : Int) := by omega
            have k0 : (0 : Int) ≤ (k : Int) := by omega
            have k1 : (k : Int) < ((readsL o).length : Int) := by omega
            have hS0 := ordS_next ⟨Below.refl _ wr, x2, c0, c1, c2, c3, c4, xk⟩ (Below.refl _ _) hH1 hg1 hR1'
            clear hq hR2' e x2 c0 c1 c2 c3 c4 xk
            go_region_held3 (fun w' => Below wr.heap.size wr w' ∧ w'.cell? ⟨w.heap.size, 2, none⟩ = some (.slice (some ⟨g, off, none⟩) b.ops.length cO) ∧ w'.cell? ⟨g, off + j * 5, none⟩ = some (.int .i64 q.code) ∧ w'.cell? ⟨g, off + j * 5 + 1, none⟩ = some (.int .i64 q.d) ∧ w'.cell? ⟨g, off + j * 5 + 2, none⟩ = some (.int .i64 q.a) ∧ w'.cell? ⟨g, off + j * 5 + 3, none⟩ = some (.int .i64 q.b) ∧ w'.cell? ⟨g, off + j * 5 + 4, none⟩ = some (.int .u32 q.n) ∧ w'.cell? ⟨bR, k, none⟩ = some (.int .i64 v)) (first | assumption | (refine ordS_next (by assumption) (by assumption) hH1 hg1 hR1') | (refine ordS_next (by assumption) (below_drewN (Below.refl _ _) 1) hH1 hg1 hR1')) (first | (go_at_call 26; refine (refWrites_any q _).mono ?_; rintro e w5 ⟨rfl, hb5⟩))
            have hb := ordS_next (by assumption) (Below.refl w5.heap.size w5) hH1 hg1 hR1'
            have HB := Lib.hid hb.1
            clear hb hb5 hS0
            go_wp2_with fail
            go_roundw
            case rel => exact ⟨j + 1, by omega, by omega, by go_num, by rw [HS.out, HQ.out, kn_step HKN.out]; rfl, HW2.out.after HB.out⟩
            case measure => (simp [intOf]; omega)
          · go_wp2_with fail
            go_quiet (fail)
            go_wp2_with fail
            go_roundw
            case rel => exact ⟨j + 1, by omega, by omega, by go_num, by rw [HS.out, kn_step HKN.out]; rfl, HW2.out.after (below_drewN (Below.refl _ _) _)⟩
            case measure => (simp [intOf]; omega)
        · obtain rfl : j = i := by omega
          obtain ⟨kn, hkn⟩ : ∃ kn, (decide (v < 20) || anyUp (fun p => writesL p == v) b.ops f (j - f)) = kn := ⟨_, rfl⟩
          rw [hkn]
          have HKN := Lib.hid ((HK.out v).trans hkn)
          clear hkn
          cases kn
          · go_wp2_with fail
            go_light
            go_ret
            exact ⟨ret_bool (ordered_bad HO.out hlt (by rw [HV.out]; exact HKN.out)).symm, HW2.out.below⟩
          · go_wp2_with fail
            go_roundw
            case rel => exact ⟨k + 1, by omega, by go_num, all_snoc HA.out (by rw [HV.out]; exact HKN.out), HW2.out⟩
            case measure => (simp [intOf]; omega)
    · obtain rfl : k = (readsL o).length := by omega
      have HR := Lib.hid (ordered_reads HO.out HF.out HA.out)
      obtain ⟨c0, c1, c2, c3, c4⟩ : wr.cell? ⟨w.heap.size + 1, 0, none⟩ = some (.int .i64 o.code) ∧ wr.cell? ⟨w.heap.size + 1, 1, none⟩ = some (.int .i64 o.d) ∧ wr.cell? ⟨w.heap.size + 1, 2, none⟩ = some (.int .i64 o.a) ∧ wr.cell? ⟨w.heap.size + 1, 3, none⟩ = some (.int .i64 o.b) ∧ wr.cell? ⟨w.heap.size + 1, 4, none⟩ = some (.int .u32 o.n) :=
        ⟨heap_cell HW1.out.op rfl, heap_cell HW1.out.op rfl, heap_cell HW1.out.op rfl, heap_cell HW1.out.op rfl, heap_cell HW1.out.op rfl⟩
      clear HA HK
      go_wp2_with fail
      refine (refMayLeave_any o _).mono ?_
      obtain ⟨sl, hsl⟩ : ∃ sl, shL o.code = sl := ⟨_, rfl⟩
      rw [hsl]
      rintro e w5 ⟨rfl, hb5⟩
      have HW3 := Lib.hid (HW1.out.after hb5)
      have HSL := Lib.hid hsl
      clear hsl hb5 c0 c1 c2 c3 c4 HW1
      cases sl
      · go_wp2_with fail
        go_light
        go_ret
        exact ⟨ret_bool (by rw [HR.out, HSL.out]; rfl), HW3.out.below⟩
      · go_wp2_with fail
        go_loopw [11] (fun s11 wr => ∃ j : Nat, f ≤ j ∧ j ≤ i ∧ s11 = .int .i64 j ∧ anyUp chgL b.ops f (j - f) = false ∧ OrdW w aA aP (some ⟨g, off, none⟩) cA cP cO b o A (readsL o) wr) (fun s11 _ => i - (intOf s11).toNat)
        case atStart => exact ⟨f, Nat.le_refl _, hfi, rfl, by rw [Nat.sub_self]; rfl, HW3.out⟩
        case round =>
          obtain ⟨j, hj1, hj2, rfl, hany, hW⟩ := hrel
          have HW4 := Lib.hid hW
          have HANY := Lib.hid hany
          clear hW hany HW3
          by_cases hji : j < i
          · have HS := Lib.hid (anyUp_succ (p := chgL) (ops := b.ops) hj1)
            obtain ⟨q, hq⟩ : ∃ q, b.ops.getD j noOp = q := ⟨_, rfl⟩
            obtain ⟨c0, c1, c2, c3, c4⟩ := (HC.out j (by omega)).below HW4.out.below hg
            rw [hq] at c0 c1 c2 c3 c4
            have HQ := Lib.hid hq
            have x2 : wr.cell? ⟨w.heap.size, 2, none⟩ = some (.slice (some ⟨g, off, none⟩) b.ops.length cO) := heap_cell HW4.out.box rfl
            have hg1 : g < wr.heap.size := Nat.lt_of_lt_of_le hg HW4.out.below.size
            clear hq
            go_wp2_with fail
            refine (refWrites_any q _).mono ?_
            rintro e w6 ⟨rfl, hb6⟩
            have hx : Ext wr w6 := Ext.trans (Ext.alloc (Ext.refl _) _) hb6
            have p0 : w6.cell? ⟨wr.heap.size, 0, none⟩ = some (.int .i64 q.code) := heap_cell (Ext.block hb6 (heap_alloc_new _ _)) rfl
            have HX := Lib.hid hx
            have HCH := Lib.hid (show chgL q = (guestL (writesL q) || q.code == 18 || q.code == 19) from rfl)
            have hbelow := HW4.out.after hx
            have HBW := Lib.hid hbelow
            have HLE := Lib.hid (show ∀ ch, chgL q = ch → anyUp chgL b.ops f (j + 1 - f) = ch from fun ch h => by rw [HS.out, HANY.out, HQ.out, h]; rfl)
            clear hx hb6 c0 c1 c2 c3 c4 x2 hbelow HANY HS HQ
            go_wp2_with fail
            refine (refGuest_any _ _).mono ?_
            obtain ⟨gq, hgq⟩ : ∃ gq, guestL (writesL q) = gq := ⟨_, rfl⟩
            rw [hgq]
            rintro e w7 ⟨rfl, rfl⟩
            rw [hgq] at HCH
            clear hgq
            cases gq
            all_goals go_wp2_with fail
            all_goals first
              | (go_light; go_ret; exact ⟨ret_bool (by rw [HR.out, HSL.out, anyUp_true (n := j + 1 - f) (m := i - f) (by omega) (HLE.out true (by rw [HCH.out]; first | (simp [*]; done) | (simp_all; done)))]; rfl), HBW.out.below⟩)
              | (go_roundw
                 case rel => (go_light; exact ⟨j + 1, by omega, by omega, by go_num, HLE.out false (by rw [HCH.out]; first | (simp [*]; done) | (simp_all; done)), HBW.out⟩)
                 case measure => (simp [intOf]; omega))
          · obtain rfl : j = i := by omega
            go_wp2_with fail
            go_light
            go_ret
            exact ⟨ret_bool (by rw [HR.out, HSL.out, HANY.out]; rfl), HW4.out.below⟩
end Go.Proofs.Ytojofinofpgopaa
