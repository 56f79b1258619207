/- Contract of the reference: Valid. -/
import Derived.Test.YtojofinofpgopaaRefC
namespace Go.Proofs.Ytojofinofpgopaa
open Go.RowKit
attribute [local go_sem ↓] Go.wp_at_zero Go.wp_at_succ

/-- The memory of a call of the reference's Valid. -/
structure RvW (w : World) (aA aP aO : Option Addr) (cA cP cO : Nat) (b : IBlk) (wx : World) : Prop where
  below : Below w.heap.size w wx
  box : wx.heap[w.heap.size]? = some (.cells #[.slice aA b.at_.length cA, .slice aP b.pages.length cP, .slice aO b.ops.length cO] 26 (0, 0))
theorem RvW.after {w : World} {aA aP aO : Option Addr} {cA cP cO : Nat} {b : IBlk} {wx w' : World} (h : RvW w aA aP aO cA cP cO b wx) (hx : Ext wx w') : RvW w aA aP aO cA cP cO b w' :=
  ⟨h.below.trans (Below.mono hx h.below.size), hx.block h.box⟩
theorem RvW.start {w : World} {aA aP aO : Option Addr} {cA cP cO : Nat} {b : IBlk} : RvW w aA aP aO cA cP cO b (w.alloc (.cells #[.slice aA b.at_.length cA, .slice aP b.pages.length cP, .slice aO b.ops.length cO] 26)) :=
  ⟨(Below.refl _ _).alloc (Nat.le_refl _) _, heap_alloc_new _ _⟩
def headOk (b : IBlk) : Bool := decide (1 ≤ b.at_.length) && decide (b.at_.length ≤ 64) && decide (1 ≤ b.ops.length) && decide (b.ops.length ≤ 2000) && (b.ops.getD 0 noOp).code == 20
theorem header_head (b : IBlk) : headerL b = (pagesOk b.pages && headOk b) := rfl
theorem ref_head {b : IBlk} (h : headOk b = false) : false = refValidL b := by unfold refValidL; rw [header_head, h]; simp
theorem ref_page {b : IBlk} {k : Nat} (hk : k < b.pages.length) (h : pageBad b.pages k = true) : false = refValidL b := by
  unfold refValidL; rw [← header_bad hk h]; rfl
theorem ref_scan {b : IBlk} {k : Nat} (hk : k < b.ops.length) (h : scanOk b.ops k = false) : false = refValidL b := by
  have : (List.range b.ops.length).all (scanOk b.ops) = false := by rw [List.all_eq_false]; exact ⟨k, by simpa using hk, by simp [h]⟩
  unfold refValidL; rw [this]; simp
theorem ref_ord {b : IBlk} {k : Nat} (hk : k < b.ops.length) (h : orderedL b.ops k = false) : false = refValidL b := by
  have : (List.range b.ops.length).all (orderedL b.ops) = false := by rw [List.all_eq_false]; exact ⟨k, by simpa using hk, by simp [h]⟩
  unfold refValidL; rw [this]; simp
theorem range_all {p : Nat → Bool} {n : Nat} (h : ∀ j, j < n → p j = true) : (List.range n).all p = true := by
  rw [List.all_eq_true]; intro i hi; exact h i (by simpa using hi)
theorem ref_good {b : IBlk} (h1 : headOk b = true) (h2 : pagesOk b.pages = true) (h3 : ∀ j, j < b.ops.length → scanOk b.ops j = true) (h4 : ∀ j, j < b.ops.length → orderedL b.ops j = true) : (marksL b.ops b.ops.length == (b.at_.length : Int)) = refValidL b := by
  unfold refValidL; rw [header_head, h1, h2, range_all h3, range_all h4]; rfl
theorem marks_bd (ops : List IOp) : ∀ k, 0 ≤ marksL ops k ∧ marksL ops k ≤ k
  | 0 => by simp [marksL]
  | k + 1 => by
    have := marks_bd ops k
    unfold marksL; split <;> omega
theorem scan_eq {ops : List IOp} {i : Nat} {o : IOp} {cc : Int} (ho : ops.getD i noOp = o) (hc : (ops.getD (i + 1) noOp).code = cc) :
    scanOk ops i = (okForm o && (!(o.code == 20) || o.n == marksL ops i) && (endsL o.code == decide (i + 1 = ops.length)) && (!(o.code == 23) || (!decide (i + 1 = ops.length) && cc == 24))) := by
  unfold scanOk isExit; rw [ho, hc]
set_option maxRecDepth 100000 in
set_option maxHeartbeats 4000000 in
theorem refValid_bad (aA aP aO : Option Addr) (cA cP cO : Nat) (b : IBlk) (w : World) (B : Nat) (hB : B ≤ w.heap.size) (h : BlkAt w B aA aP aO b) (hh : headOk b = false) :
    Calls Try.prog 18 #[blkV aA aP aO cA cP cO b] w fun e w' => e = .returned (.bool (refValidL b)) ∧ Below w.heap.size w w' := by
  have la := h.la
  have lp := h.lp
  have lo := h.lo
  unfold maxLen at la lp lo
  have HREF := Lib.hid (ref_head hh)
  by_cases ho : 0 < b.ops.length
  · obtain ⟨g, off, rfl, hg0, hc⟩ := h.ops ho
    have hg := Nat.lt_of_lt_of_le hg0 hB
    have c0 := (hc 0 ho).c0
    simp only [Nat.zero_mul, Nat.add_zero] at c0
    obtain ⟨cc, hcc⟩ : ∃ cc, (b.ops.getD 0 noOp).code = cc := ⟨_, rfl⟩
    rw [hcc] at c0
    have hbad : ¬ (1 ≤ b.at_.length ∧ b.at_.length ≤ 64 ∧ b.ops.length ≤ 2000 ∧ cc = 20) := by
      intro hx; unfold headOk at hh; rw [hcc] at hh; simp at hh; omega
    have HBAD := Lib.hid hbad
    clear hc hcc hh h hbad
    go_enter Try.func18, Try.ntmps18
    go_wp2_with fail
    all_goals first
      | (go_light; go_ret; exact ⟨ret_bool HREF.out, (Below.refl _ _).alloc (Nat.le_refl _) _⟩)
      | (exfalso; apply HBAD.out; simp_all; omega)
  · clear h hh
    go_enter Try.func18, Try.ntmps18
    go_wp2_with fail
    all_goals (go_light; go_ret; exact ⟨ret_bool HREF.out, (Below.refl _ _).alloc (Nat.le_refl _) _⟩)
set_option maxRecDepth 100000 in
set_option maxHeartbeats 4000000 in
theorem refValid_good (aA aP aO : Option Addr) (cA cP cO : Nat) (b : IBlk) (w : World) (B : Nat) (hB : B ≤ w.heap.size) (h : BlkAt w B aA aP aO b) (hN : ∀ k, k < b.ops.length → U32 (b.ops.getD k noOp).n) (hh : headOk b = true) :
    Calls Try.prog 18 #[blkV aA aP aO cA cP cO b] w fun e w' => e = .returned (.bool (refValidL b)) ∧ Below w.heap.size w w' := by
  have la := h.la
  have lp := h.lp
  have lo := h.lo
  unfold maxLen at la lp lo
  have hh' := hh
  unfold headOk at hh'
  simp only [Bool.and_eq_true, decide_eq_true_eq, beq_iff_eq] at hh'
  obtain ⟨⟨⟨⟨a1, a2⟩, o1⟩, o2⟩, hc0⟩ := hh'
  have H := Lib.hid h
  obtain ⟨g, off, rfl, hg0, hc⟩ := h.ops (by omega)
  have hg := Nat.lt_of_lt_of_le hg0 hB
  have c0 := (hc 0 (by omega)).c0
  simp only [Nat.zero_mul, Nat.add_zero] at c0
  rw [hc0] at c0
  have HC := Lib.hid hc
  have HC0 := Lib.hid hc0
  have HH := Lib.hid hh
  have HN := Lib.hid hN
  clear hc hc0 hh h hN
  go_enter Try.func18, Try.ntmps18
  go_wp2_with fail
  have HW := Lib.hid (RvW.start (w := w) (aA := aA) (aP := aP) (aO := some ⟨g, off, none⟩) (cA := cA) (cP := cP) (cO := cO) (b := b))
  generalize w.alloc _ = w1 at *
  clear c0
  go_loopw [3] (fun s3 wr => ∃ k : Nat, k ≤ b.pages.length ∧ s3 = .int .i64 k ∧ (∀ j, j < k → pageBad b.pages j = false) ∧ RvW w aA aP (some ⟨g, off, none⟩) cA cP cO b wr) (fun s3 _ => b.pages.length - (intOf s3).toNat)
  case atStart => exact ⟨0, Nat.zero_le _, rfl, fun j hj => absurd hj (by omega), HW.out⟩
  case round =>
    obtain ⟨k, hk, rfl, hall, hW⟩ := hrel
    have HA := Lib.hid hall
    have HW1 := Lib.hid hW
    have x0 : wr.cell? ⟨w.heap.size, 0, none⟩ = some (.slice aA b.at_.length cA) := heap_cell hW.box rfl
    have x1 : wr.cell? ⟨w.heap.size, 1, none⟩ = some (.slice aP b.pages.length cP) := heap_cell hW.box rfl
    have x2 : wr.cell? ⟨w.heap.size, 2, none⟩ = some (.slice (some ⟨g, off, none⟩) b.ops.length cO) := heap_cell hW.box rfl
    clear hall hW HW
    by_cases hlt : k < b.pages.length
    · obtain ⟨gP, oP, rfl, hgP0, hcP⟩ := H.out.pages.int (by omega)
      have hgP := Nat.lt_of_lt_of_le hgP0 hB
      have p1 := (HW1.out.below.cell (p := ⟨gP, oP + k, none⟩) hgP).trans (hcP k hlt)
      have p2 : 0 < k → wr.cell? ⟨gP, oP + (k - 1), none⟩ = some (.int .i64 (b.pages.getD (k - 1) 0)) := fun _ => (HW1.out.below.cell (p := ⟨gP, oP + (k - 1), none⟩) hgP).trans (hcP _ (by omega))
      obtain ⟨p, hp⟩ : ∃ p, b.pages.getD k 0 = p := ⟨_, rfl⟩
      obtain ⟨q, hq⟩ : ∃ q, b.pages.getD (k - 1) 0 = q := ⟨_, rfl⟩
      rw [hp] at p1
      rw [hq] at p2
      have HB := Lib.hid (show pageBad b.pages k = (decide (p < 0) || decide (4096 ≤ p) || (decide (0 < k) && decide (p ≤ q))) by rw [pageBad, hp, hq])
      clear hcP hp hq
      have k0 : (0 : Int) ≤ (k : Int) := by omega
      have k1 : (k : Int) < (b.pages.length : Int) := by omega
      by_cases c1 : p < 0
      · have HBB := Lib.hid (ref_page (b := b) hlt (by rw [HB.out]; simp [c1]))
        go_wp2_with fail
        go_quiet (fail)
        go_wp2_with fail
        go_light
        go_ret
        exact ⟨ret_bool HBB.out, below_drewN HW1.out.below _⟩
      · by_cases c2 : 4095 < p
        · have HBB := Lib.hid (ref_page (b := b) hlt (by rw [HB.out]; simp; omega))
          have d1 : decide (p < 0) = false := by simpa using c1
          go_wp2_with fail
          go_quiet (fail)
          go_wp2_with fail
          go_light
          go_ret
          exact ⟨ret_bool HBB.out, below_drewN HW1.out.below _⟩
        · have d1 : decide (p < 0) = false := by simpa using c1
          have d2 : decide (4095 < p) = false := by simpa using c2
          by_cases c3 : 0 < k
          · have p2 := p2 c3
            have k2 : (0 : Int) < (k : Int) := by omega
            have k3 : (0 : Int) ≤ (k : Int) - 1 := by omega
            have k4 : ((k : Int) - 1).toNat = k - 1 := by omega
            have k5 : IntKind.i64.wrap ((k : Int) - 1) = (k : Int) - 1 := IntWalk.i64_in _ (by omega)
            by_cases c4 : p ≤ q
            · have HBB := Lib.hid (ref_page (b := b) hlt (by rw [HB.out]; simp [c3, c4]))
              go_wp2_with fail
              go_quiet (fail)
              clear k4 k5
              go_wp2_with fail
              go_light
              go_ret
              exact ⟨ret_bool HBB.out, below_drewN HW1.out.below _⟩
            · have HBG := Lib.hid (show pageBad b.pages k = false by rw [HB.out]; simp; omega)
              have d4 : decide (p ≤ q) = false := by simpa using c4
              go_wp2_with fail
              go_quiet (fail)
              clear k4 k5
              go_wp2_with fail
              go_roundw
              case rel => exact ⟨k + 1, by omega, by go_num, all_snoc HA.out HBG.out, HW1.out.after (below_drewN (Below.refl _ _) _)⟩
              case measure => (simp [intOf]; omega)
          · have HBG := Lib.hid (show pageBad b.pages k = false by rw [HB.out]; simp; omega)
            have d3 : decide ((0 : Int) < (k : Int)) = false := by simp; omega
            clear p2
            go_wp2_with fail
            go_quiet (fail)
            go_wp2_with fail
            go_roundw
            case rel => exact ⟨k + 1, by omega, by go_num, all_snoc HA.out HBG.out, HW1.out.after (below_drewN (Below.refl _ _) _)⟩
            case measure => (simp [intOf]; omega)
    · obtain rfl : k = b.pages.length := by omega
      have HP := Lib.hid (pages_ok HA.out)
      clear HA
      go_wp2_with fail
      clear hlt hk x0 x1 x2
      go_loopw [4, 6] (fun s4 s6 wr => ∃ i : Nat, i ≤ b.ops.length ∧ s6 = .int .i64 i ∧ s4 = .int .i64 (marksL b.ops i) ∧ (∀ j, j < i → scanOk b.ops j = true) ∧ RvW w aA aP (some ⟨g, off, none⟩) cA cP cO b wr) (fun _ s6 _ => b.ops.length - (intOf s6).toNat)
      case atStart => exact ⟨0, Nat.zero_le _, rfl, rfl, fun j hj => absurd hj (by omega), HW1.out⟩
      case round =>
        obtain ⟨i, hi, rfl, rfl, hall, hW⟩ := hrel
        have HA := Lib.hid hall
        have HW2 := Lib.hid hW
        have x0 : wr.cell? ⟨w.heap.size, 0, none⟩ = some (.slice aA b.at_.length cA) := heap_cell hW.box rfl
        have x1 : wr.cell? ⟨w.heap.size, 1, none⟩ = some (.slice aP b.pages.length cP) := heap_cell hW.box rfl
        have x2 : wr.cell? ⟨w.heap.size, 2, none⟩ = some (.slice (some ⟨g, off, none⟩) b.ops.length cO) := heap_cell hW.box rfl
        clear hall hW HW1
        obtain ⟨M, hM⟩ : ∃ M, marksL b.ops i = M := ⟨_, rfl⟩
        rw [hM]
        have hmb := marks_bd b.ops i
        rw [hM] at hmb
        obtain ⟨hm0, hm1⟩ := hmb
        have HM := Lib.hid hM
        clear hM
        by_cases hlt : i < b.ops.length
        · obtain ⟨q, hq⟩ : ∃ q, b.ops.getD i noOp = q := ⟨_, rfl⟩
          obtain ⟨c0, c1, c2, c3, c4⟩ := (HC.out i hlt).below HW2.out.below hg
          rw [hq] at c0 c1 c2 c3 c4
          have hn := HN.out i hlt
          rw [hq] at hn
          obtain ⟨n0, n1⟩ := hn
          have HQ := Lib.hid hq
          obtain ⟨cc, hcc⟩ : ∃ cc, (b.ops.getD (i + 1) noOp).code = cc := ⟨_, rfl⟩
          have HCC := Lib.hid hcc
          have hg1 : g < wr.heap.size := Nat.lt_of_lt_of_le hg HW2.out.below.size
          clear hq hcc
          go_wp2_with fail
          refine (refFormed_any q _).mono ?_
          obtain ⟨fo, hfo⟩ : ∃ fo, okForm q = fo := ⟨_, rfl⟩
          rw [hfo]
          rintro e w3 ⟨rfl, hb3⟩
          have HF := Lib.hid hfo
          have hx : Ext wr w3 := Ext.trans (Ext.alloc (Ext.refl _) _) hb3
          have hp := Ext.block hb3 (heap_alloc_new wr (.cells q.v 36))
          have p0 : w3.cell? ⟨wr.heap.size, 0, none⟩ = some (.int .i64 q.code) := heap_cell hp rfl
          have p4 : w3.cell? ⟨wr.heap.size, 4, none⟩ = some (.int .u32 q.n) := heap_cell hp rfl
          have HW3 := Lib.hid (HW2.out.after hx)
          have y2 : w3.cell? ⟨w.heap.size, 2, none⟩ = some (.slice (some ⟨g, off, none⟩) b.ops.length cO) := heap_cell HW3.out.box rfl
          clear hx hp hfo hb3 c0 c1 c2 c3 c4 x0 x1 x2 HW2
          cases fo
          · go_wp2_with fail
            go_light
            go_ret
            exact ⟨ret_bool (ref_scan hlt (by rw [scan_eq HQ.out HCC.out, HF.out]; rfl)), HW3.out.below⟩
          · by_cases hmk : q.code = 20
            · have hmk1 : (q.code == 20) = true := by simpa using hmk
              by_cases hnm : q.n = M
              · have hnm1 : (q.n != M) = false := by simpa using hnm
                have HMK := Lib.hid hmk
                have HNM := Lib.hid hnm
                clear hmk hnm
                by_cases hla : i + 1 = b.ops.length
                · have hd : ((i : Int) == (b.ops.length : Int) - 1) = true := by simp; omega
                  have HD := Lib.hid (show decide (i + 1 = b.ops.length) = true by simpa using hla)
                  go_wp2_with (go_at_call 49; refine (refEnds_any _ _).mono ?_; rintro e w5 ⟨rfl, rfl⟩)
                  all_goals first
                    | (go_light; go_ret; exact ⟨ret_bool (ref_scan hlt (by rw [scan_eq HQ.out HCC.out, HF.out, HD.out, HM.out]; first | (simp [*]; done) | (simp_all; done))), HW3.out.below⟩)
                    | (go_roundw
                       case rel => (go_light; exact ⟨i + 1, by omega, by go_num, by rw [marksL, HQ.out, HM.out]; simp [hmk1], all_snoc HA.out (by rw [scan_eq HQ.out HCC.out, HF.out, HD.out, HM.out]; first | (simp [*]; done) | (simp_all; done)), HW3.out⟩)
                       case measure => (simp [intOf]; omega))
                · have hd : ((i : Int) == (b.ops.length : Int) - 1) = false := by simp; omega
                  have HD := Lib.hid (show decide (i + 1 = b.ops.length) = false by simpa using hla)
                  have ck2 := ((HC.out (i + 1) (by omega)).below HW3.out.below hg).c0
                  rw [HCC.out] at ck2
                  go_wp2_with (go_at_call 49; refine (refEnds_any _ _).mono ?_; rintro e w5 ⟨rfl, rfl⟩)
                  all_goals first
                    | (go_light; go_ret; exact ⟨ret_bool (ref_scan hlt (by rw [scan_eq HQ.out HCC.out, HF.out, HD.out, HM.out]; first | (simp [*]; done) | (simp_all; done))), HW3.out.below⟩)
                    | (go_roundw
                       case rel => (go_light; exact ⟨i + 1, by omega, by go_num, by rw [marksL, HQ.out, HM.out]; simp [hmk1], all_snoc HA.out (by rw [scan_eq HQ.out HCC.out, HF.out, HD.out, HM.out]; first | (simp [*]; done) | (simp_all; done)), HW3.out⟩)
                       case measure => (simp [intOf]; omega))
              · have hnm1 : (q.n != M) = true := by simpa using hnm
                clear hmk
                go_wp2_with fail
                go_light
                go_ret
                exact ⟨ret_bool (ref_scan hlt (by rw [scan_eq HQ.out HCC.out, HF.out, HM.out, hmk1]; simp [hnm])), HW3.out.below⟩
            · have hmk1 : (q.code == 20) = false := by simpa using hmk
              clear p4
              by_cases hla : i + 1 = b.ops.length
              · have hd : ((i : Int) == (b.ops.length : Int) - 1) = true := by simp; omega
                have HD := Lib.hid (show decide (i + 1 = b.ops.length) = true by simpa using hla)
                go_wp2_with (go_at_call 49; refine (refEnds_any _ _).mono ?_; rintro e w5 ⟨rfl, rfl⟩)
                all_goals first
                  | (go_light; go_ret; exact ⟨ret_bool (ref_scan hlt (by rw [scan_eq HQ.out HCC.out, HF.out, HD.out, HM.out]; first | (simp [*]; done) | (simp_all; done))), HW3.out.below⟩)
                  | (go_roundw
                     case rel => (go_light; exact ⟨i + 1, by omega, by go_num, by rw [marksL, HQ.out, HM.out]; simp [hmk1], all_snoc HA.out (by rw [scan_eq HQ.out HCC.out, HF.out, HD.out, HM.out]; first | (simp [*]; done) | (simp_all; done)), HW3.out⟩)
                     case measure => (simp [intOf]; omega))
              · have hd : ((i : Int) == (b.ops.length : Int) - 1) = false := by simp; omega
                have HD := Lib.hid (show decide (i + 1 = b.ops.length) = false by simpa using hla)
                have ck2 := ((HC.out (i + 1) (by omega)).below HW3.out.below hg).c0
                rw [HCC.out] at ck2
                go_wp2_with (go_at_call 49; refine (refEnds_any _ _).mono ?_; rintro e w5 ⟨rfl, rfl⟩)
                all_goals first
                  | (go_light; go_ret; exact ⟨ret_bool (ref_scan hlt (by rw [scan_eq HQ.out HCC.out, HF.out, HD.out, HM.out]; first | (simp [*]; done) | (simp_all; done))), HW3.out.below⟩)
                  | (go_roundw
                     case rel => (go_light; exact ⟨i + 1, by omega, by go_num, by rw [marksL, HQ.out, HM.out]; simp [hmk1], all_snoc HA.out (by rw [scan_eq HQ.out HCC.out, HF.out, HD.out, HM.out]; first | (simp [*]; done) | (simp_all; done)), HW3.out⟩)
                     case measure => (simp [intOf]; omega))
        · obtain rfl : i = b.ops.length := by omega
          have HSC := Lib.hid HA.out
          clear HA
          go_wp2_with fail
          clear x0 x1 x2 hlt hi
          go_loopw [10] (fun s10 wr => ∃ i : Nat, i ≤ b.ops.length ∧ s10 = .int .i64 i ∧ (∀ j, j < i → orderedL b.ops j = true) ∧ RvW w aA aP (some ⟨g, off, none⟩) cA cP cO b wr) (fun s10 _ => b.ops.length - (intOf s10).toNat)
          case atStart => exact ⟨0, Nat.zero_le _, rfl, fun j hj => absurd hj (by omega), HW2.out⟩
          case round =>
            obtain ⟨i, hi, rfl, hall, hW⟩ := hrel
            have HA := Lib.hid hall
            have HW3 := Lib.hid hW
            have x0 : wr.cell? ⟨w.heap.size, 0, none⟩ = some (.slice aA b.at_.length cA) := heap_cell hW.box rfl
            have x1 : wr.cell? ⟨w.heap.size, 1, none⟩ = some (.slice aP b.pages.length cP) := heap_cell hW.box rfl
            have x2 : wr.cell? ⟨w.heap.size, 2, none⟩ = some (.slice (some ⟨g, off, none⟩) b.ops.length cO) := heap_cell hW.box rfl
            clear hall hW HW2
            by_cases hlt : i < b.ops.length
            · obtain ⟨od, hod⟩ : ∃ od, orderedL b.ops i = od := ⟨_, rfl⟩
              have HOD := Lib.hid hod
              have HORD := Lib.hid (refOrdered_any aA aP (some ⟨g, off, none⟩) cA cP cO b i wr B (Nat.le_trans hB HW3.out.below.size) (H.out.below (HW3.out.below.mono hB)) hlt o2 HC0.out)
              rw [hod] at HORD
              clear hod
              go_wp2_with fail
              refine HORD.out.mono ?_
              rintro e w4 ⟨rfl, hb4⟩
              have HW4 := Lib.hid (HW3.out.after hb4)
              clear hb4 x0 x1 x2 HORD HW3
              cases od
              · go_wp2_with fail
                go_light
                go_ret
                exact ⟨ret_bool (ref_ord hlt HOD.out), HW4.out.below⟩
              · go_wp2_with fail
                go_roundw
                case rel => exact ⟨i + 1, by omega, by go_num, all_snoc HA.out HOD.out, HW4.out⟩
                case measure => (simp [intOf]; omega)
            · obtain rfl : i = b.ops.length := by omega
              have HG := Lib.hid (ref_good HH.out HP.out HSC.out HA.out)
              rw [HM.out] at HG
              clear HA HSC HP
              go_wp2_with fail
              go_light
              go_ret
              exact ⟨ret_bool HG.out, HW3.out.below⟩
theorem refValid_any (aA aP aO : Option Addr) (cA cP cO : Nat) (b : IBlk) (w : World) (B : Nat) (hB : B ≤ w.heap.size) (h : BlkAt w B aA aP aO b) (hN : ∀ k, k < b.ops.length → U32 (b.ops.getD k noOp).n) :
    Calls Try.prog 18 #[blkV aA aP aO cA cP cO b] w fun e w' => e = .returned (.bool (refValidL b)) ∧ Below w.heap.size w w' := by
  cases hh : headOk b
  · exact refValid_bad aA aP aO cA cP cO b w B hB h hh
  · exact refValid_good aA aP aO cA cP cO b w B hB h hN hh
end Go.Proofs.Ytojofinofpgopaa
