/- Contract: Valid. -/
import Derived.Test.YtojofinofpgopaaDoorIrD
import Derived.Test.YtojofinofpgopaaDoorIrC
import Derived.Deep.RegionHeld3
import Derived.StillTailTactics
import Derived.Deep.DrawnRows
namespace Go.Proofs.YtojofinofpgopaaDoor
open Go.RowKit
attribute [local go_sem ↓] Go.wp_at_zero Go.wp_at_succ

def isExit (ops : List IOp) (i : Nat) : Bool := (ops.getD i noOp).code == 24
def vstep (ops : List IOp) (i : Nat) (s : ISt) : Option ISt :=
  if nextOk s (ops.getD i noOp) (decide (i + 1 = ops.length)) (!decide (i + 1 = ops.length) && isExit ops (i + 1)) then some (nextSt s (ops.getD i noOp)) else none
def vrun (ops : List IOp) : Nat → Option ISt
  | 0 => some ⟨0, 0, false⟩
  | k + 1 => (vrun ops k).bind (vstep ops k)
def validL (b : IBlk) : Bool := headerL b && (match vrun b.ops b.ops.length with | some s => s.marks == b.at_.length | none => false)
theorem nextSt_marks (s : ISt) (o : IOp) : s.marks ≤ (nextSt s o).marks ∧ (nextSt s o).marks ≤ s.marks + 1 := by
  unfold nextSt markL; split <;> dsimp only <;> omega
theorem vrun_marks (ops : List IOp) : ∀ (k : Nat) (s : ISt), vrun ops k = some s → 0 ≤ s.marks ∧ s.marks ≤ k
  | 0, s, h => by
    simp [vrun] at h; subst h; simp
  | k + 1, s, h => by
    simp only [vrun, Option.bind_eq_some_iff] at h
    obtain ⟨s', h1, h2⟩ := h
    have := vrun_marks ops k s' h1
    unfold vstep at h2
    split at h2
    · cases h2
      have := nextSt_marks s' (ops.getD k noOp)
      omega
    · cases h2
theorem vrun_none {ops : List IOp} {k : Nat} (h : vrun ops k = none) : ∀ j, k ≤ j → vrun ops j = none := by
  intro j hj
  induction hj with
  | refl => exact h
  | step _ ih => simp [vrun, ih]
theorem valid_bad {b : IBlk} {k : Nat} {s : ISt} (hk : k < b.ops.length) (h : vrun b.ops k = some s) (hs : vstep b.ops k s = none) : validL b = false := by
  have h1 : vrun b.ops (k + 1) = none := by simp [vrun, h, hs]
  have h2 := vrun_none h1 b.ops.length (by omega)
  simp [validL, h2]
theorem valid_end {b : IBlk} {s : ISt} (hh : headerL b = true) (h : vrun b.ops b.ops.length = some s) : validL b = (s.marks == b.at_.length) := by
  simp [validL, h, hh]

theorem header_ops {b : IBlk} (h : headerL b = true) : b.ops.length ≤ 2000 := by
  simp [headerL] at h; omega
abbrev blkW (w : World) (aA aP aO : Option Addr) (cA cP cO : Nat) (b : IBlk) : World := w.alloc (.cells #[.slice aA b.at_.length cA, .slice aP b.pages.length cP, .slice aO b.ops.length cO] 28)
/-- The relation of Valid's loop. -/
def VRel (w : World) (aA aP aO : Option Addr) (cA cP cO : Nat) (b : IBlk) (k : Nat) (wr : World) : Prop :=
  ∃ s, vrun b.ops k = some s ∧ Below w.heap.size w wr ∧
    wr.heap[w.heap.size]? = some (.cells #[.slice aA b.at_.length cA, .slice aP b.pages.length cP, .slice aO b.ops.length cO] 28 (0, 0)) ∧ wr.heap[w.heap.size + 1 + 1]? = some (.cells s.v 70 (0, 0)) ∧ w.heap.size + 1 + 1 < wr.heap.size
theorem VRel.step {w : World} {aA aP aO : Option Addr} {cA cP cO : Nat} {b : IBlk} {k : Nat} {wr wz w' : World} {s : ISt} {last exit : Bool}
    (hs : vrun b.ops k = some s) (hb : Below w.heap.size w wr) (hbox : wr.heap[w.heap.size]? = some (.cells #[.slice aA b.at_.length cA, .slice aP b.pages.length cP, .slice aO b.ops.length cO] 28 (0, 0)))
    (hsz : w.heap.size + 1 + 1 < wr.heap.size) (hz : Below wr.heap.size wr wz) (hp : NextPost (w.heap.size + 1 + 1) s (b.ops.getD k noOp) last exit wz.drew (.returned (.bool true)) w')
    (hl : last = decide (k + 1 = b.ops.length)) (he : exit = (!decide (k + 1 = b.ops.length) && isExit b.ops (k + 1))) : VRel w aA aP aO cA cP cO b (k + 1) w' := by
  obtain ⟨h1, h2, h3⟩ := hp
  have hok : nextOk s (b.ops.getD k noOp) last exit = true := by simpa using h1.symm
  have hzs := hz.size
  have hg : wz.grownBy w' (some (w.heap.size + 1 + 1)) := ⟨h2.os, h2.tape, h2.output, h2.size, h2.block⟩
  refine ⟨nextSt s (b.ops.getD k noOp), ?_, ?_, ?_, h3 hok, Nat.lt_of_lt_of_le (by omega) hg.size⟩
  · simp only [vrun, hs, Option.bind_some, vstep]
    rw [← he, ← hl, if_pos hok]
  · exact (hb.trans (hz.mono (by omega))).grown hg (by omega) (fun c hc => by cases hc; omega)
  · exact (hg.block w.heap.size (by omega) (by simp; omega)).trans ((hz.block w.heap.size (by omega)).trans hbox)
theorem VRel.bad {w : World} {b : IBlk} {k : Nat} {wr wz w' : World} {s : ISt} {last exit : Bool} (hk : k < b.ops.length)
    (hs : vrun b.ops k = some s) (hb : Below w.heap.size w wr) (hsz : w.heap.size + 1 + 1 < wr.heap.size)
    (hz : Below wr.heap.size wr wz) (hp : NextPost (w.heap.size + 1 + 1) s (b.ops.getD k noOp) last exit wz.drew (.returned (.bool false)) w')
    (hl : last = decide (k + 1 = b.ops.length)) (he : exit = (!decide (k + 1 = b.ops.length) && isExit b.ops (k + 1))) : validL b = false ∧ Below w.heap.size w w' := by
  obtain ⟨h1, h2, h3⟩ := hp
  have hok : nextOk s (b.ops.getD k noOp) last exit = false := by simpa using h1.symm
  have hzs := hz.size
  have hg : wz.grownBy w' (some (w.heap.size + 1 + 1)) := ⟨h2.os, h2.tape, h2.output, h2.size, h2.block⟩
  refine ⟨valid_bad hk hs ?_, (hb.trans (hz.mono (by omega))).grown hg (by omega) (fun c hc => by cases hc; omega)⟩
  unfold vstep
  rw [← he, ← hl, hok]
  rfl
theorem keepC {w w' : World} {c : Nat} (hg : w.grownBy w' (some c)) {b i : Nat} {v : Value} (hc : w.cell? ⟨b, i, none⟩ = some v) (hne : b ≠ c) : w'.cell? ⟨b, i, none⟩ = some v :=
  World.grownBy.cell hg hc (fun e => hne (by simpa using e))
set_option maxRecDepth 100000 in
set_option maxHeartbeats 1000000 in
theorem valid_any (aA aP aO : Option Addr) (cA cP cO : Nat) (b : IBlk) (w : World) (B : Nat) (hB : B ≤ w.heap.size) (h : BlkAt w B aA aP aO b) :
    Calls Tryd.prog 9 #[blkV aA aP aO cA cP cO b] w fun e w' => e = .returned (.bool (validL b)) ∧ Below w.heap.size w w' := by
  have hO := h.ops
  have lo := h.lo
  have la := h.la
  unfold maxLen at lo la
  have H := Lib.hid (h.alloc hB (.cells #[.slice aA b.at_.length cA, .slice aP b.pages.length cP, .slice aO b.ops.length cO] 28))
  clear h
  cases hh : headerL b
  · have hv : validL b = false := by simp [validL, hh]
    go_enter Tryd.func9, Tryd.ntmps9
    go_wp2_with (go_at_call 24; refine (header_any _ _ _ _ _ _ _ _ B (by simp; omega) H.out).mono ?_; rintro e w' ⟨rfl, rfl⟩)
    go_light
    go_ret
    exact ⟨ret_bool hv.symm, ((Below.refl _ _).alloc (Nat.le_refl _) _).alloc (by simp) _⟩
  · go_enter Tryd.func9, Tryd.ntmps9
    go_wp2_with (go_at_call 24; refine (header_any _ _ _ _ _ _ _ _ B (by simp; omega) H.out).mono ?_; rintro e w' ⟨rfl, rfl⟩)
    go_loopw [15] (fun i wr => ∃ k : Nat, k ≤ b.ops.length ∧ i = .int .i64 k ∧ VRel w aA aP aO cA cP cO b k wr) (fun i _ => b.ops.length - (intOf i).toNat)
    case atStart =>
      refine ⟨0, Nat.zero_le _, rfl, ⟨0, 0, false⟩, rfl, (((Below.refl _ _).alloc (Nat.le_refl _) _).alloc (by simp) _).alloc (by simp; omega) _, ?_, ?_, by simp⟩
      · rw [Below.heap_alloc _ _ _ (by simp; omega), Below.heap_alloc _ _ _ (by simp)]; exact heap_alloc_new _ _
      · have h2 := heap_alloc_new ((blkW w aA aP aO cA cP cO b).alloc (.cells #[.slice aA b.at_.length cA, .slice aP b.pages.length cP, .slice aO b.ops.length cO] 28)) (.cells #[.int .i64 0, .int .u32 0, .bool false] 70)
        simpa using h2
    case round =>
      obtain ⟨k, hk, rfl, hV⟩ := hrel
      obtain ⟨s, hs, hb, hbox, hst, hsz⟩ := hV
      have q0 : wr.cell? ⟨w.heap.size, 0, none⟩ = some (.slice aA b.at_.length cA) := heap_cell hbox rfl
      have q2 : wr.cell? ⟨w.heap.size, 2, none⟩ = some (.slice aO b.ops.length cO) := heap_cell hbox rfl
      have hsz0 : w.heap.size < wr.heap.size := by omega
      by_cases hlt : k < b.ops.length
      · obtain ⟨g, off, rfl, hg0, hc⟩ := hO (by omega)
        have hg := Nat.lt_of_lt_of_le hg0 hB
        have ck := (hc k hlt).below hb hg
        obtain ⟨o, ho⟩ : ∃ o, b.ops.getD k noOp = o := ⟨_, rfl⟩
        rw [ho] at ck
        obtain ⟨c0, c1, c2, c3, c4⟩ := ck
        have HST := Lib.hid hst
        have HBX := Lib.hid hbox
        have HC := Lib.hid hc
        have HO := Lib.hid ho
        have hms := vrun_marks _ _ _ hs
        obtain ⟨hm1, hm2⟩ := hms
        have hk2 : b.ops.length ≤ 2000 := header_ops hh
        have HS := Lib.hid hs
        have HB := Lib.hid hb
        clear hst hbox hc ho hO hs hb
        have hgr : g < wr.heap.size := by omega
        have hW := Below.heap_alloc wr (.cells o.v 53)
        have z0 := heap_alloc_new wr (.cells o.v 53)
        have z1 := (hW (w.heap.size + 1 + 1) hsz).trans HST.out
        have z2 : (wr.alloc (.cells o.v 53)).cell? ⟨w.heap.size, 2, none⟩ = some (.slice (some ⟨g, off, none⟩) b.ops.length cO) := (World.cell?_of_block (a := ⟨w.heap.size, 2, none⟩) (hW _ hsz0)).trans q2
        have z3 : Below wr.heap.size wr (wr.alloc (.cells o.v 53)) := (Below.refl _ _).alloc (Nat.le_refl _) _
        have z4 : (wr.alloc (.cells o.v 53)).heap.size = wr.heap.size + 1 := by simp
        have Z1 := Lib.hid z1
        have Z3 := Lib.hid z3
        have Z4 := Lib.hid z4
        by_cases hla : k + 1 = b.ops.length
        · have hd : ((k : Int) == (b.ops.length : Int) - 1) = true := by simp; omega
          go_upto_region 8 with fail
          generalize wr.alloc (.cells o.v 53) = wz at *
          obtain ⟨x0, x1, x2, x3, x4⟩ : wz.cell? ⟨wr.heap.size, 0, none⟩ = some (.int .i64 o.code) ∧ wz.cell? ⟨wr.heap.size, 1, none⟩ = some (.int .i64 o.d) ∧ wz.cell? ⟨wr.heap.size, 2, none⟩ = some (.int .i64 o.a) ∧ wz.cell? ⟨wr.heap.size, 3, none⟩ = some (.int .i64 o.b) ∧ wz.cell? ⟨wr.heap.size, 4, none⟩ = some (.int .u32 o.n) :=
            ⟨heap_cell z0 rfl, heap_cell z0 rfl, heap_cell z0 rfl, heap_cell z0 rfl, heap_cell z0 rfl⟩
          clear hW z0 z1 z3 z4
          clear q0 q2 c0 c1 c2 c3 c4
          refine wp_still_tail 15 (by kernel_rfl) (by kernel_rfl) (fun KT hKT => ?_)
          simp only [List.take_succ_cons, List.take_zero, List.drop_succ_cons, List.drop_zero] at hKT ⊢
          iterate 6 (refine stillH_step (fun K hK => ?_); go_simp; refine hK _ ?_; clear hK K)
          iterate 8 (refine stillH_pass (by kernel_rfl) (fun K hK => ?_); go_simp; refine hK _ ?_; clear hK K)
          iterate 1 (refine stillH_step (fun K hK => ?_); go_simp; refine hK _ ?_; clear hK K)
          refine stillH_nil (hKT _ ?_)
          clear hKT KT
          go_wp2_with fail
          refine (next_any _ s o _ _ wz.drew Z1.out (by omega) (by omega)).mono ?_
          intro e w' hp
          have he := hp.1
          cases hn : nextOk s o true false
          all_goals
            rw [hn] at he
            subst he
            have HP := Lib.hid hp
            clear hp hn
          · go_wp2_with fail
            go_light
            go_ret
            obtain ⟨v1, v2⟩ := VRel.bad hlt HS.out HB.out hsz Z3.out (by rw [HO.out]; exact HP.out) (by simp [hla]) (by simp [hla])
            exact ⟨ret_bool v1.symm, v2⟩
          · go_wp2_with fail
            go_roundw
            case rel => (go_light; exact ⟨k + 1, by omega, by go_num, VRel.step HS.out HB.out HBX.out hsz Z3.out (by rw [HO.out]; exact HP.out) (by simp [hla]) (by simp [hla])⟩)
            case measure => (go_light; simp [intOf]; omega)
        · have hd : ((k : Int) == (b.ops.length : Int) - 1) = false := by simp; omega
          have ck2 := ((HC.out (k + 1) (by omega)).below HB.out hg).c0
          obtain ⟨cc, hcc⟩ : ∃ cc, (b.ops.getD (k + 1) noOp).code = cc := ⟨_, rfl⟩
          rw [hcc] at ck2
          have HCC := Lib.hid hcc
          clear hcc
          go_upto_region 8 with fail
          have z5 : (wr.alloc (.cells o.v 53)).cell? ⟨g, off + (k + 1) * 5, none⟩ = some (.int .i64 cc) := (World.cell?_of_block (a := ⟨g, _, none⟩) (hW _ hgr)).trans ck2
          generalize wr.alloc (.cells o.v 53) = wz at *
          obtain ⟨x0, x1, x2, x3, x4⟩ : wz.cell? ⟨wr.heap.size, 0, none⟩ = some (.int .i64 o.code) ∧ wz.cell? ⟨wr.heap.size, 1, none⟩ = some (.int .i64 o.d) ∧ wz.cell? ⟨wr.heap.size, 2, none⟩ = some (.int .i64 o.a) ∧ wz.cell? ⟨wr.heap.size, 3, none⟩ = some (.int .i64 o.b) ∧ wz.cell? ⟨wr.heap.size, 4, none⟩ = some (.int .u32 o.n) :=
            ⟨heap_cell z0 rfl, heap_cell z0 rfl, heap_cell z0 rfl, heap_cell z0 rfl, heap_cell z0 rfl⟩
          clear hW z0 z1 z3 z4
          clear q0 q2 c0 c1 c2 c3 c4 ck2
          refine wp_still_tail 15 (by kernel_rfl) (by kernel_rfl) (fun KT hKT => ?_)
          simp only [List.take_succ_cons, List.take_zero, List.drop_succ_cons, List.drop_zero] at hKT ⊢
          have hk0 : (0 : Int) ≤ (k : Int) + 1 := by omega
          have hk1 : (k : Int) + 1 < (b.ops.length : Int) := by omega
          have hk3 : ((k : Int) + 1).toNat = k + 1 := by omega
          have hk4 : IntKind.i64.wrap ((k : Int) + 1) = (k : Int) + 1 := IntWalk.i64_in _ (by omega)
          iterate 15 (refine stillH_step (fun K hK => ?_); go_simp; refine hK _ ?_; clear hK K)
          clear hk0 hk1 hk3 hk4
          refine stillH_nil (hKT _ ?_)
          clear hKT KT
          go_wp2_with fail
          refine (next_any _ s o _ _ wz.drew Z1.out (by omega) (by omega)).mono ?_
          intro e w' hp
          have he := hp.1
          cases hn : nextOk s o false (cc == 24)
          all_goals
            rw [hn] at he
            subst he
            have HP := Lib.hid hp
            clear hp hn
          · go_wp2_with fail
            go_light
            go_ret
            obtain ⟨v1, v2⟩ := VRel.bad hlt HS.out HB.out hsz Z3.out (by rw [HO.out]; exact HP.out) (by simp [hla]) (by rw [isExit, HCC.out]; simp [hla])
            exact ⟨ret_bool v1.symm, v2⟩
          · go_wp2_with fail
            go_roundw
            case rel => (go_light; exact ⟨k + 1, by omega, by go_num, VRel.step HS.out HB.out HBX.out hsz Z3.out (by rw [HO.out]; exact HP.out) (by simp [hla]) (by rw [isExit, HCC.out]; simp [hla])⟩)
            case measure => (go_light; simp [intOf]; omega)
      · obtain rfl : k = b.ops.length := by omega
        have q0 : wr.cell? ⟨w.heap.size, 0, none⟩ = some (.slice aA b.at_.length cA) := heap_cell hbox rfl
        have e0 : wr.cell? ⟨w.heap.size + 1 + 1, 0, none⟩ = some (.int .i64 s.marks) := heap_cell hst rfl
        have HV := Lib.hid (valid_end hh hs)
        have HB := Lib.hid hb
        clear hs hb hbox hst q2
        go_wp2_with fail
        go_quiet (fail)
        go_wp2_with fail
        go_light
        go_ret
        exact ⟨ret_bool HV.out.symm, below_drewN HB.out _⟩
end Go.Proofs.YtojofinofpgopaaDoor
