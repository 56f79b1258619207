/- Contract: checker.next. -/
import Derived.Test.YtojofinofpgopaaDoorIrB
import Derived.Outline
import Derived.Deep.QuietTactic
import Derived.BigQuiet
import Derived.Deep.DeepCutAuto
import Derived.Deep.CutBlock
namespace Go.Proofs.YtojofinofpgopaaDoor
open Go.RowKit

/-- The state of the check. -/
structure ISt where
  marks : Int
  written : Int
  changed : Bool
abbrev ISt.v (s : ISt) : Array Value := #[.int .i64 s.marks, .int .u32 s.written, .bool s.changed]
def okForm (o : IOp) : Bool := shI o.code && fieldL (shD o.code) o.d && fieldL (shA o.code) o.a && fieldL (shB o.code) o.b && (shN o.code || o.n == 0)
def markL (s : ISt) (o : IOp) : ISt := if o.code == 20 then ⟨s.marks + 1, 0, false⟩ else s
def okMark (s : ISt) (o : IOp) : Bool := !(o.code == 20) || o.n == s.marks
def okEnd (s : ISt) (o : IOp) (last exit : Bool) : Bool := (endsL o.code == last) && (!(o.code == 23) || exit) && (!shL o.code || !s.changed)
def tmpBad (W v : Int) : Bool := decide (20 ≤ v) && (bits .and .u32 (W / 2 ^ v.toNat) 1 == 0)
def okReads (s : ISt) (o : IOp) : Bool := (readsL o).all fun v => !tmpBad s.written v
def setW (W d : Int) : Int := if 20 ≤ d then bits .or .u32 W (2 ^ d.toNat % 4294967296) else W
def nextOk (s : ISt) (o : IOp) (last exit : Bool) : Bool := okForm o && okEnd s o last exit && okMark s o && okReads (markL s o) o
def nextSt (s : ISt) (o : IOp) : ISt :=
  ⟨(markL s o).marks, setW (markL s o).written (writesL o), (markL s o).changed || shS o.code || (decide (0 ≤ writesL o) && decide (writesL o < 20))⟩
def NextPost (g : Nat) (s : ISt) (o : IOp) (last exit : Bool) (w : World) (e : Ending) (w' : World) : Prop :=
  e = .returned (.bool (nextOk s o last exit)) ∧ w.grownBy w' (some g) ∧ (nextOk s o last exit = true → w'.heap[g]? = some (.cells (nextSt s o).v 70 (0, 0)))
theorem NextPost.bad {g : Nat} {s : ISt} {o : IOp} {last exit : Bool} {w w' : World} (h : nextOk s o last exit = false) (hg : w.grownBy w' (some g)) : NextPost g s o last exit w (.returned (.bool false)) w' :=
  ⟨by rw [h], hg, fun h' => by rw [h] at h'; cases h'⟩

theorem nextOk_mark {s : ISt} {o : IOp} {last exit : Bool} (h : (o.code == 20) = true) (hn : (o.n != s.marks) = true) : nextOk s o last exit = false := by
  have : okMark s o = false := by simp_all [okMark]
  simp [nextOk, this]
theorem okMark_of {s : ISt} {o : IOp} (hn : (o.n != s.marks) = false) : okMark s o = true := by simp_all [okMark]
theorem field_bd {b : Bool} {v : Int} (h : fieldL b v = true) (hb : b = true) : 0 ≤ v ∧ v < 28 ∧ v ≠ 19 := by
  subst hb
  simp [fieldL] at h
  omega
theorem reads_bd {o : IOp} (h : okForm o = true) : ∀ v ∈ readsL o, 0 ≤ v ∧ v < 28 ∧ v ≠ 19 := by
  intro v hv
  simp only [okForm, Bool.and_eq_true] at h
  obtain ⟨⟨⟨⟨_, _⟩, hA⟩, hB⟩, _⟩ := h
  unfold readsL at hv
  rw [List.mem_append] at hv
  rcases hv with hv | hv
  · split at hv
    · obtain rfl : v = o.a := by simpa using hv
      exact field_bd hA (by assumption)
    · simp at hv
  · split at hv
    · obtain rfl : v = o.b := by simpa using hv
      have hb : (shB o.code && !(o.b == o.a)) = true := by assumption
      rw [Bool.and_eq_true] at hb
      exact field_bd hB hb.1
    · simp at hv
theorem writes_bd {o : IOp} (h : okForm o = true) : writesL o < 28 ∧ -1 ≤ writesL o ∧ writesL o ≠ 19 := by
  simp only [okForm, Bool.and_eq_true] at h
  obtain ⟨⟨⟨⟨_, hD⟩, _⟩, _⟩, _⟩ := h
  unfold writesL
  split
  · have := field_bd hD (by assumption); omega
  · omega
theorem getD_mem {l : List Int} {k : Nat} (h : k < l.length) : l.getD k 0 ∈ l := by
  rw [getD_at h]; exact List.getElem_mem h
theorem reads_bad {s : ISt} {o : IOp} {last exit : Bool} {k : Nat} (hk : k < (readsL o).length) (h : tmpBad (markL s o).written ((readsL o).getD k 0) = true) : nextOk s o last exit = false := by
  have : okReads (markL s o) o = false := by
    unfold okReads
    rw [List.all_eq_false]
    exact ⟨_, getD_mem hk, by rw [h]; simp⟩
  simp [nextOk, this]
theorem reads_ok {s : ISt} {o : IOp} (h : ∀ j, j < (readsL o).length → tmpBad (markL s o).written ((readsL o).getD j 0) = false) : okReads (markL s o) o = true := by
  unfold okReads
  rw [List.all_eq_true]
  intro v hv
  obtain ⟨j, hj, rfl⟩ := List.getElem_of_mem hv
  have := h j hj
  rw [getD_at hj] at this
  rw [this]; rfl

/-- The memory of a call of next: the check's state at block g, the operation and its shape in the call's own blocks. -/
structure StW (w : World) (g : Nat) (s : ISt) (o : IOp) (wx : World) : Prop where
  grown : w.grownBy wx (some g)
  lt : g < w.heap.size
  size : w.heap.size + 2 < wx.heap.size
  st : wx.heap[g]? = some (.cells s.v 70 (0, 0))
  op : wx.heap[w.heap.size]? = some (.cells o.v 53 (0, 0))
  sh : wx.heap[w.heap.size + 2]? = some (.cells (shW o.code) 95 (0, 0))
theorem heap_cell {w : World} {b i : Nat} {cs : Array Value} {t : TypeId} {v : Value} (h : w.heap[b]? = some (.cells cs t (0, 0))) (hv : cs[i]? = some v) : w.cell? ⟨b, i, none⟩ = some v := by
  rw [cell_of_row w b i cs t (0, 0) h]; exact hv
theorem heap_free {w : World} {b i : Nat} {cs : Array Value} {t : TypeId} (h : w.heap[b]? = some (.cells cs t (0, 0))) : w.frozen? ⟨b, i, none⟩ = false := by simp [World.frozen?, h]
theorem StW.cells {w : World} {g : Nat} {s : ISt} {o : IOp} {wx : World} (h : StW w g s o wx) :
    (wx.cell? ⟨g, 0, none⟩ = some (.int .i64 s.marks) ∧ wx.cell? ⟨g, 1, none⟩ = some (.int .u32 s.written) ∧ wx.cell? ⟨g, 2, none⟩ = some (.bool s.changed)) ∧
    (wx.cell? ⟨w.heap.size, 0, none⟩ = some (.int .i64 o.code) ∧ wx.cell? ⟨w.heap.size, 1, none⟩ = some (.int .i64 o.d) ∧ wx.cell? ⟨w.heap.size, 2, none⟩ = some (.int .i64 o.a) ∧ wx.cell? ⟨w.heap.size, 3, none⟩ = some (.int .i64 o.b) ∧ wx.cell? ⟨w.heap.size, 4, none⟩ = some (.int .u32 o.n)) ∧
    (wx.cell? ⟨w.heap.size + 2, 0, none⟩ = some (.bool (shD o.code)) ∧ wx.cell? ⟨w.heap.size + 2, 1, none⟩ = some (.bool (shA o.code)) ∧ wx.cell? ⟨w.heap.size + 2, 2, none⟩ = some (.bool (shB o.code)) ∧ wx.cell? ⟨w.heap.size + 2, 3, none⟩ = some (.bool (shN o.code)) ∧ wx.cell? ⟨w.heap.size + 2, 4, none⟩ = some (.bool (shL o.code)) ∧ wx.cell? ⟨w.heap.size + 2, 5, none⟩ = some (.bool (shS o.code))) :=
  ⟨⟨heap_cell h.st rfl, heap_cell h.st rfl, heap_cell h.st rfl⟩, ⟨heap_cell h.op rfl, heap_cell h.op rfl, heap_cell h.op rfl, heap_cell h.op rfl, heap_cell h.op rfl⟩,
    ⟨heap_cell h.sh rfl, heap_cell h.sh rfl, heap_cell h.sh rfl, heap_cell h.sh rfl, heap_cell h.sh rfl, heap_cell h.sh rfl⟩⟩
theorem StW.free {w : World} {g : Nat} {s : ISt} {o : IOp} {wx : World} (h : StW w g s o wx) (i : Nat) : wx.frozen? ⟨g, i, none⟩ = false := heap_free h.st
theorem StW.start {w : World} {g : Nat} {s : ISt} (o : IOp) (x : Array Value) (hg : w.heap[g]? = some (.cells s.v 70 (0, 0))) :
    StW w g s o (((w.alloc (.cells o.v 53)).alloc (.cells x 95)).alloc (.cells (shW o.code) 95)) := by
  have hlt : g < w.heap.size := by
    rcases Nat.lt_or_ge g w.heap.size with h | h
    · exact h
    · rw [Array.getElem?_eq_none h] at hg; cases hg
  refine ⟨⟨rfl, rfl, rfl, by simp; omega, fun k hk _ => ?_⟩, hlt, by simp, ?_, ?_, ?_⟩
  · rw [Below.heap_alloc _ _ _ (by simp; omega), Below.heap_alloc _ _ _ (by simp; omega), Below.heap_alloc _ _ _ (by omega)]
  · rw [Below.heap_alloc _ _ _ (by simp; omega), Below.heap_alloc _ _ _ (by simp; omega), Below.heap_alloc _ _ _ (by omega)]; exact hg
  · rw [Below.heap_alloc _ _ _ (by simp; omega), Below.heap_alloc _ _ _ (by simp)]; exact heap_alloc_new _ _
  · have h := heap_alloc_new ((w.alloc (.cells o.v 53)).alloc (.cells x 95)) (.cells (shW o.code) 95)
    simpa using h
theorem grownBy_drewN {a w : World} {row : Option Nat} (h : a.grownBy w row) (n : Nat) : a.grownBy (w.drewN n) row := ⟨h.os, h.tape, h.output, h.size, h.block⟩
theorem grownBy_setCell {a w : World} {g : Nat} (h : a.grownBy w (some g)) (i : Nat) (u : Value) : a.grownBy (w.setCell ⟨g, i, none⟩ u) (some g) :=
  ⟨h.os, h.tape, h.output, by simpa [World.setCell] using h.size, fun k hk hne => (Below.heap_setCell w _ u k (fun e => hne (by simpa using e))).trans (h.block k hk hne)⟩
theorem grownBy_below {a w w' : World} {g : Nat} (h : a.grownBy w (some g)) (hb : Below w.heap.size w w') : a.grownBy w' (some g) :=
  ⟨hb.os.trans h.os, hb.tape.trans h.tape, hb.output.trans h.output, Nat.le_trans h.size hb.size, fun k hk hne => (hb.block k (Nat.lt_of_lt_of_le hk h.size)).trans (h.block k hk hne)⟩
theorem set_heap {w : World} {g : Nat} {cs : Array Value} {t : TypeId} (h : w.heap[g]? = some (.cells cs t (0, 0))) (i : Nat) (u : Value) : (w.setCell ⟨g, i, none⟩ u).heap[g]? = some (.cells (cs.setIfInBounds i u) t (0, 0)) := by
  simp [World.setCell, Array.getElem?_modify, h]
theorem StW.set {w : World} {g : Nat} {s : ISt} {o : IOp} {wx : World} (h : StW w g s o wx) (i : Nat) (u : Value) (s' : ISt) (he : s.v.setIfInBounds i u = s'.v) : StW w g s' o (wx.setCell ⟨g, i, none⟩ u) :=
  ⟨grownBy_setCell h.grown i u, h.lt, by simpa [World.setCell] using h.size, by rw [← he]; exact set_heap h.st i u,
    (Below.heap_setCell wx _ u _ (by have := h.lt; show w.heap.size ≠ g; omega)).trans h.op, (Below.heap_setCell wx _ u _ (by have := h.lt; show w.heap.size + 2 ≠ g; omega)).trans h.sh⟩
theorem StW.drewN {w : World} {g : Nat} {s : ISt} {o : IOp} {wx : World} (h : StW w g s o wx) (n : Nat) : StW w g s o (wx.drewN n) := ⟨grownBy_drewN h.grown n, h.lt, h.size, h.st, h.op, h.sh⟩
theorem StW.after {w : World} {g : Nat} {s : ISt} {o : IOp} {wx w' : World} (h : StW w g s o wx) (hb : Below wx.heap.size wx w') : StW w g s o w' :=
  ⟨grownBy_below h.grown hb, h.lt, Nat.lt_of_lt_of_le h.size hb.size, (hb.block g (by have := h.lt; have := h.size; omega)).trans h.st, (hb.block _ (by have := h.size; omega)).trans h.op, (hb.block _ (by have := h.size; omega)).trans h.sh⟩
theorem StW.mark {w : World} {g : Nat} {s : ISt} {o : IOp} {wx : World} (h : StW w g s o wx) (n : Nat) (hc : (o.code == 20) = true) :
    StW w g (markL s o) o ((((wx.drewN n).setCell ⟨g, 0, none⟩ (.int .i64 (s.marks + 1))).setCell ⟨g, 1, none⟩ (.int .u32 0)).setCell ⟨g, 2, none⟩ (.bool false)) := by
  have e : markL s o = ⟨s.marks + 1, 0, false⟩ := by simp [markL, hc]
  rw [e]
  exact (((h.drewN n).set 0 (.int .i64 (s.marks + 1)) ⟨s.marks + 1, s.written, s.changed⟩ rfl).set 1 (.int .u32 0) ⟨s.marks + 1, 0, s.changed⟩ rfl).set 2 (.bool false) ⟨s.marks + 1, 0, false⟩ rfl
theorem own_arr {w : World} {base : Nat} {e : TypeId} {v : Value} {l : List Int} {k : IntKind} (h : w.ownsRow base e 1 v l.length (l.map (Value.int k))) :
    ∃ A cap, v = .slice A l.length cap ∧ (0 < l.length → ∃ b, A = some ⟨b, 0, none⟩ ∧ base ≤ b ∧ b < w.heap.size ∧ ∀ i, i < l.length → w.cell? ⟨b, i, none⟩ = some (.int k (l.getD i 0))) := by
  have hlt := h.lt
  have hcs := fun g => h.cells (g := g)
  rcases h.2 with ⟨rfl, h0⟩ | ⟨g, cap, cur, rfl, hb, hg, hn, hm, hs, ht⟩
  · exact ⟨none, 0, by rw [h0], fun hp => by omega⟩
  · refine ⟨some ⟨g, 0, none⟩, cap, rfl, fun _ => ⟨g, rfl, hb, (hlt g rfl).2, fun i hi => ?_⟩⟩
    have := hcs g rfl i (.int k (l.getD i 0)) (by simp [hi])
    have ha : (⟨g, 0, none⟩ : Addr).add i = ⟨g, i, none⟩ := by unfold Addr.add; split <;> simp_all
    rwa [ha] at this

theorem NextPost.good {w : World} {g : Nat} {s : ISt} {o : IOp} {last exit : Bool} {wx : World} {c b : Bool} (hF : okForm o = true) (hE : okEnd s o last exit = true) (hM : okMark s o = true) (hR : okReads (markL s o) o = true)
    (hS : StW w g ⟨(markL s o).marks, setW (markL s o).written (writesL o), c⟩ o wx) (hb : b = ((markL s o).changed || shS o.code || (decide (0 ≤ writesL o) && decide (writesL o < 20)))) :
    NextPost g s o last exit w (.returned (.bool true)) (wx.setCell ⟨g, 2, none⟩ (.bool b)) := by
  have h1 := hS.set 2 (.bool b) (nextSt s o) (by rw [nextSt, ← hb]; rfl)
  exact ⟨by simp [nextOk, hF, hE, hM, hR], h1.grown, fun _ => h1.st⟩
theorem NextPost.drew {g : Nat} {s : ISt} {o : IOp} {last exit : Bool} {w w' : World} {e : Ending} (h : NextPost g s o last exit w e w') : NextPost g s o last exit w e w'.drew :=
  ⟨h.1, grownBy_drewN h.2.1 1, h.2.2⟩
theorem setW_high {W d : Int} (h : 20 ≤ d) : bits .or .u32 W (2 ^ d.toNat % 4294967296) = setW W d := by simp [setW, h]
theorem setW_low {W d : Int} (h : d < 20) : setW W d = W := by simp [setW]; omega

set_option maxRecDepth 100000 in
set_option maxHeartbeats 2000000 in
theorem next_any (g : Nat) (s : ISt) (o : IOp) (last exit : Bool) (w : World) (hg : w.heap[g]? = some (.cells s.v 70 (0, 0))) (hm0 : 0 ≤ s.marks) (hm1 : s.marks < 100000) :
    Calls Tryd.prog 25 #[.pointer (some ⟨g, 0, none⟩), .agg o.v, .bool last, .bool exit] w (NextPost g s o last exit w) := by
  have HG := Lib.hid hg
  clear hg
  go_enter Tryd.func25, Tryd.ntmps25
  go_upto_region 1 with fail
  go_cut [9, 10] (fun s9 s10 wx => s9 = .pointer (some ⟨w.heap.size + 2, 0, none⟩) ∧ s10 = .bool (shI o.code) ∧ StW w g s o wx)
  case first =>
    go_wp2_with (go_at_call 44; refine (shapeOf_any _ _).mono ?_; rintro e w' ⟨rfl, rfl⟩)
    go_meet
    case rel => exact ⟨rfl, rfl, StW.start o _ HG.out⟩
  case rest =>
    obtain ⟨rfl, rfl, hS⟩ := hcut
    obtain ⟨⟨m0, m1, m2⟩, ⟨c0, c1, c2, c3, c4⟩, ⟨d0, d1, d2, d3, d4, d5⟩⟩ := hS.cells
    have f0 := hS.free 0
    have f1 := hS.free 1
    have f2 := hS.free 2
    have HS := Lib.hid hS
    clear hS
    go_upto_region 2 with fail
    go_cut [10, 55] (fun _ b wx => b = .bool (!okForm o) ∧ wx = wc)
    case first =>
      go_wp2_with (go_at_call 45; refine (field_any _ _ _).mono ?_; rintro e w' ⟨rfl, rfl⟩)
      all_goals (go_meet; case rel => (go_light; refine ⟨?_, rfl⟩; simp [okForm, bne, *]))
    case rest =>
      obtain ⟨rfl, rfl⟩ := hcut
      cases hF : okForm o
      · go_wp2_with fail
        go_light
        go_ret
        exact NextPost.bad (by simp [nextOk, hF]) HS.out.grown
      · go_upto_region 4 with fail
        go_cut [3, 79] (fun _ b wx => b = .bool (!okEnd s o last exit) ∧ wx = wc)
        case first =>
          go_wp2_with (go_at_call 46; refine (ends_any _ _).mono ?_; rintro e w' ⟨rfl, rfl⟩)
          all_goals (go_meet; case rel => (go_light; refine ⟨?_, rfl⟩; simp_all [okEnd]))
        case rest =>
          obtain ⟨rfl, rfl⟩ := hcut
          cases hE : okEnd s o last exit
          · go_wp2_with fail
            go_light
            go_ret
            exact NextPost.bad (by simp [nextOk, hE]) HS.out.grown
          · go_upto_if 82 with fail
            go_cut [] (fun wx => StW w g (markL s o) o wx ∧ okMark s o = true)
            case first =>
              cases hm : (o.code == 20)
              · go_wp2_with fail
                go_meet
                case rel => exact ⟨by have := HS.out; simpa [markL, hm] using this, by simp [okMark, hm]⟩
              · go_wp2_with fail
                go_quiet (fail)
                go_wp2_with fail
                all_goals first
                  | (go_meet; case rel => (go_light; exact ⟨HS.out.mark _ hm, okMark_of (by assumption)⟩))
                  | (go_light; go_ret; exact NextPost.bad (nextOk_mark hm (by assumption)) (grownBy_drewN HS.out.grown _))
            case rest =>
              obtain ⟨hS, hM⟩ := hcut
              clear m0 m1 m2 c0 c1 c2 c3 c4 d0 d1 d2 d3 d4 d5 f0 f1 f2
              obtain ⟨⟨m0, m1, m2⟩, ⟨c0, c1, c2, c3, c4⟩, ⟨d0, d1, d2, d3, d4, d5⟩⟩ := hS.cells
              have HS2 := Lib.hid hS
              have HM := Lib.hid hM
              clear hS hM
              go_wp2_with (go_at_call 47; refine (reads_any _ _).mono ?_; rintro e w2 ⟨sl, rfl, hown, hb⟩; obtain ⟨A, cap, rfl, harr⟩ := own_arr hown)
              have hS := HS2.out.after hb
              clear m0 m1 m2 c0 c1 c2 c3 c4 d0 d1 d2 d3 d4 d5
              obtain ⟨⟨m0, m1, m2⟩, ⟨c0, c1, c2, c3, c4⟩, ⟨d0, d1, d2, d3, d4, d5⟩⟩ := hS.cells
              have f0 := hS.free 0
              have f1 := hS.free 1
              have f2 := hS.free 2
              have HS := Lib.hid hS
              have HW := Lib.hid hown
              have HB := Lib.hid hb
              have hl : (readsL o).length ≤ 2 := by unfold readsL; split <;> split <;> simp
              clear hS hown hb
              go_loop [102] (fun i => ∃ k : Nat, k ≤ (readsL o).length ∧ i = .int .i64 k ∧ ∀ j, j < k → tmpBad (markL s o).written ((readsL o).getD j 0) = false) (fun i => (readsL o).length - (intOf i).toNat)
              case atStart => exact ⟨0, Nat.zero_le _, rfl, fun j hj => absurd hj (by omega)⟩
              case round =>
                obtain ⟨k, hk, rfl, hall⟩ := hrel
                have HA := Lib.hid hall
                by_cases hlt : k < (readsL o).length
                · obtain ⟨bb, rfl, hb1, hb2, hc⟩ := harr (by omega)
                  have ck := hc k hlt
                  obtain ⟨v, hv⟩ : ∃ v, (readsL o).getD k 0 = v := ⟨_, rfl⟩
                  rw [hv] at ck
                  have hvb := reads_bd hF _ (getD_mem hlt)
                  rw [hv] at hvb
                  obtain ⟨hv0, hv28, _⟩ := hvb
                  have HV := Lib.hid hv
                  clear hc hv hall harr
                  go_wp2_with fail
                  all_goals first
                    | (go_round
                       case rel => (go_light; exact ⟨k + 1, by omega, by go_num, all_snoc HA.out (by rw [HV.out]; simp only [tmpBad]; first | (simp [*]; done) | (simp; omega))⟩)
                       case measure => (go_light; simp [intOf]; omega))
                    | (go_light; go_ret; exact NextPost.bad (reads_bad hlt (by rw [HV.out]; simp [tmpBad, *])) HS.out.grown)
                · obtain rfl : k = (readsL o).length := by omega
                  have HR := Lib.hid (reads_ok hall)
                  have hwb := writes_bd hF
                  obtain ⟨hd28, hd1, _⟩ := hwb
                  clear hall harr HA
                  go_wp2_with (go_at_call 48; refine (writes_any _ _).mono ?_; rintro e w3 ⟨rfl, hb3⟩; have hS3 := HS.out.after hb3; obtain ⟨⟨m0, m1, m2⟩, ⟨c0, c1, c2, c3, c4⟩, ⟨d0, d1, d2, d3, d4, d5⟩⟩ := hS3.cells; have f0 := hS3.free 0; have f1 := hS3.free 1; have f2 := hS3.free 2)
                  all_goals first
                    | (go_light; go_ret; exact NextPost.good (c := (markL s o).changed) hF hE HM.out HR.out (by rw [setW_low (by omega)]; assumption) (by simp [*]))
                    | (go_light; go_ret; exact NextPost.good (c := (markL s o).changed) hF hE HM.out HR.out (by rw [setW_low (by omega)]; assumption) (by simp [*]; omega))
                    | skip
                  all_goals go_region
                  all_goals go_wp2_with fail
                  all_goals
                    go_light
                    go_ret
                    refine NextPost.drew ?_
                    have hS4 := hS3.set 1 (.int .u32 (setW (markL s o).written (writesL o))) ⟨(markL s o).marks, setW (markL s o).written (writesL o), (markL s o).changed⟩ rfl
                    rw [setW_high (by assumption)]
                    exact NextPost.good (c := (markL s o).changed) hF hE HM.out HR.out hS4 (by first | (simp [*]; done) | (simp [*]; omega))
end Go.Proofs.YtojofinofpgopaaDoor
