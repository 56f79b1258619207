/- The walk of IrArithmetic. -/
import Derived.Test.YtojofinofpgopaaBld
import Derived.Test.YtojofinofpgopaaPlArith
import Derived.Test.YtojofinofpgopaaRefOp
import Derived.Deep.RegionLaw
import Derived.Deep.RegionHeld3
import Derived.Deep.AppendLies
import Derived.OwnWalk
namespace Go.Proofs.Ytojofinofpgopaa
open Go.RowKit
attribute [local go_sem ↓] Go.wp_at_zero Go.wp_at_succ
/-- The cells of a slice of pairs. -/
def PairsArr (w : World) (B : Nat) (A : Option Addr) (l : List (Int × Int)) : Prop :=
  0 < l.length → ∃ b off, A = some ⟨b, off, none⟩ ∧ b < B ∧ ∀ i, i < l.length → w.cell? ⟨b, off + i * 2, none⟩ = some (.int .u32 (l.getD i (0, 0)).1) ∧ w.cell? ⟨b, off + i * 2 + 1, none⟩ = some (.int .u32 (l.getD i (0, 0)).2)
theorem getD_take {α : Type} {l : List α} {i n : Nat} {d : α} (h : i < n) : (l.take n).getD i d = l.getD i d := by
  simp [List.getD_eq_getElem?_getD, List.getElem?_take_of_lt h]
theorem PairsArr.take {w : World} {B : Nat} {A : Option Addr} {l : List (Int × Int)} (h : PairsArr w B A l) (n : Nat) : PairsArr w B A (l.take n) := fun h0 => by
  rw [List.length_take] at h0
  obtain ⟨b, off, hA, hb, hc⟩ := h (by omega)
  refine ⟨b, off, hA, hb, fun i hi => ?_⟩
  rw [List.length_take] at hi
  rw [getD_take (by omega)]; exact hc i (by omega)
theorem take_step {α : Type} {l : List α} {i : Nat} {d : α} (h : i < l.length) : l.take (i + 1) = l.take i ++ [l.getD i d] := by
  rw [List.take_succ_eq_append_getElem h, getD_at h]
theorem arL_snoc (first : Int) (l : List (Int × Int)) (p : Int × Int) : arL first (l ++ [p]) = arL first l ++ pairOps p := by
  unfold arL; rw [List.flatMap_append]; simp
theorem arL_len (first : Int) (l : List (Int × Int)) : (arL first l).length = 2 * l.length + 2 := by
  have := ar_len first l
  have h2 : (arBlk first l).ops.length = (arL first l).length + 2 := by show (arL first l ++ arEnd).length = _; rw [List.length_append]; rfl
  omega
theorem arWant_snoc (first : Int) (l : List (Int × Int)) (p : Int × Int) : arWant first (l ++ [p]) = wordOpL (3 + p.1 % 13) (arWant first l) p.2 := by
  unfold arWant; rw [List.foldl_append]; rfl
theorem grownBy_of_drew {W w' : World} {o : Obj} {row : Option Nat} (hg : (W.alloc o).drew.grownBy w' row) : W.grownBy w' row :=
  ⟨hg.os, hg.tape, hg.output, Nat.le_trans (by simp) hg.size, fun k hk hne => (hg.block k (by simp; omega) hne).trans (Below.heap_alloc W o k hk)⟩
theorem ar_start {first : Int} {L : List (Int × Int)} {w w1 : World} (hb1 : Below w.heap.size w w1) :
    Bld w (w1.heap.size + 1 + 1) ⟨[0], [], arL first (L.take 0)⟩ (.slice (some ⟨w1.heap.size, 0, none⟩) 1 1) (.slice none 0 0) (.slice (some ⟨w1.heap.size + 1, 0, none⟩) 2 2)
      (((w1.alloc (.cells #[.int .u32 0] 34)).alloc (.cells #[.int .i64 20, .int .i64 0, .int .i64 0, .int .i64 0, .int .u32 0, .int .i64 1, .int .i64 20, .int .i64 0, .int .i64 0, .int .u32 first] 36)).alloc
        (.cells #[.slice (some ⟨w1.heap.size, 0, none⟩) 1 1, .slice none 0 0, .slice (some ⟨w1.heap.size + 1, 0, none⟩) 2 2] 26)) := by
  have hs := hb1.size
  have hr1 : (w1.alloc (.cells #[.int .u32 0] 34)).ownsRow w.heap.size 34 1 (.slice (some ⟨w1.heap.size, 0, none⟩) 1 1) 1 [.int .u32 0] := World.ownsRow_lit w1 #[.int .u32 0] 1 hs (by unfold maxLen; omega) rfl
  have hr2 : ((w1.alloc (.cells #[.int .u32 0] 34)).alloc (.cells #[.int .i64 20, .int .i64 0, .int .i64 0, .int .i64 0, .int .u32 0, .int .i64 1, .int .i64 20, .int .i64 0, .int .i64 0, .int .u32 first] 36)).ownsRow w.heap.size 36 5 (.slice (some ⟨w1.heap.size + 1, 0, none⟩) 2 2) 2 [.int .i64 20, .int .i64 0, .int .i64 0, .int .i64 0, .int .u32 0, .int .i64 1, .int .i64 20, .int .i64 0, .int .i64 0, .int .u32 first] := by
    have := World.ownsRow_lit (base := w.heap.size) (e := 36) (size := 5) (w1.alloc (.cells #[.int .u32 0] 34)) #[.int .i64 20, .int .i64 0, .int .i64 0, .int .i64 0, .int .u32 0, .int .i64 1, .int .i64 20, .int .i64 0, .int .i64 0, .int .u32 first] 2 (by simp; omega) (by unfold maxLen; omega) rfl
    simpa using this
  refine ⟨((hb1.alloc hs _).alloc (by simp; omega) _).alloc (by simp; omega) _, by omega, heap_new_at _ _ (by simp), (hr1.alloc _).alloc _, World.ownsRow_nil _ _ _ _, hr2.alloc _, (sep_nil _).symm, ?_, sep_nil _, ?_, by simp [Value.ownBlock], ?_⟩
  · intro g h1 h2
    have e1 : g = w1.heap.size := by simpa [Value.ownBlock] using h1.symm
    have e2 : g = w1.heap.size + 1 := by simpa [Value.ownBlock] using h2.symm
    omega
  · intro h
    simp [Value.ownBlock] at h
    omega
  · intro h
    simp [Value.ownBlock] at h
theorem ar_n {first : Int} {L : List (Int × Int)} (hf : U32 first) (hl : ∀ p ∈ L, U32 p.1 ∧ U32 p.2) : ∀ k, k < (arBlk first L).ops.length → U32 ((arBlk first L).ops.getD k noOp).n := by
  intro k hk
  have hmem : (arBlk first L).ops.getD k noOp ∈ (arBlk first L).ops := by rw [getD_at hk]; exact List.getElem_mem hk
  generalize (arBlk first L).ops.getD k noOp = o at hmem
  have hz : U32 0 := ⟨by decide, by decide⟩
  have hmem : o ∈ ([⟨20, 0, 0, 0, 0⟩, ⟨1, 20, 0, 0, first⟩] ++ L.flatMap pairOps) ++ arEnd := hmem
  rcases List.mem_append.1 hmem with h | h
  · rcases List.mem_append.1 h with h | h
    · simp at h
      rcases h with h | h
      · rw [h]; exact hz
      · rw [h]; exact hf
    · rw [List.mem_flatMap] at h
      obtain ⟨p, hp, h⟩ := h
      simp [pairOps] at h
      rcases h with h | h
      · rw [h]; exact (hl p hp).2
      · rw [h]; exact hz
  · simp [arEnd] at h
    rcases h with h | h
    · rw [h]; exact hz
    · rw [h]; exact hz
theorem out_var {R : EvOut} (h : R.vars.length = 28) : (outCells R)[7]? = some (.int .u32 (R.vars.getD 3 0)) := by
  have e : R.vars[3]? = some (R.vars.getD 3 0) := by rw [List.getD_eq_getElem?_getD, List.getElem?_eq_getElem (by omega)]; rfl
  rw [outCells, Array.getElem?_append_right (by simp)]
  show (R.vars.map (Value.int .u32)).toArray[3]? = _
  rw [List.getElem?_toArray, List.getElem?_map, e]; rfl
set_option maxRecDepth 100000 in
set_option maxHeartbeats 4000000 in
theorem irArith_any (first : Int) (A : Option Addr) (cap : Nat) (l : List (Int × Int)) (w : World) (hf : U32 first) (h : PairsArr w w.heap.size A l) (hle : l.length ≤ cap) (hl : ∀ p ∈ l, U32 p.1 ∧ U32 p.2) :
    Calls Try.prog 6 #[.int .u32 first, .slice A l.length cap] w fun e w' => e = .returned (.bool true) ∧ Below w.heap.size w w' := by
  obtain ⟨i0, hi, hz0, hz1, hz2⟩ := info_parts infoOp
  obtain ⟨L, hL⟩ : ∃ L, l.take 40 = L := ⟨_, rfl⟩
  have H := Lib.hid (hL ▸ h.take 40)
  have HL : Hid (∀ p ∈ L, U32 p.1 ∧ U32 p.2) := Lib.hid fun p hp => hl p (List.mem_of_mem_take (by rw [hL]; exact hp))
  obtain ⟨n, hn⟩ : ∃ n, L.length = n := ⟨_, rfl⟩
  have en : n = min 40 l.length := by rw [← hn, ← hL]; simp
  have hn40 : n ≤ 40 := by omega
  have m1 : (if (40 : Int) < (l.length : Int) then (40 : Int) else (l.length : Int)) = (n : Int) := by split <;> omega
  have q1 : (n : Int) ≤ (cap : Int) := by omega
  have z1 : (0 : Int) ≤ (n : Int) := by omega
  obtain ⟨hf0, hf1⟩ := hf
  have HN := Lib.hid hn
  clear hL h hl hn en hle
  go_enter Try.func6, Try.ntmps6
  go_wp2_with fail
  refine (sanity_any _).mono ?_
  rintro e0 w1 ⟨rfl, hb1⟩
  go_wp2_with fail
  clear m1 q1 z1
  generalize hw2 : ((w1.alloc _).alloc _).alloc _ = w2
  obtain ⟨Bb, hBb⟩ : ∃ Bb, w1.heap.size + 1 + 1 = Bb := ⟨_, rfl⟩
  have hbld : Bld w Bb ⟨[0], [], arL first (L.take 0)⟩ (.slice (some ⟨w1.heap.size, 0, none⟩) 1 1) (.slice none 0 0) (.slice (some ⟨w1.heap.size + 1, 0, none⟩) 2 2) w2 := by
    subst hBb
    rw [← hw2]
    exact ar_start hb1
  have HB0 := Lib.hid hbld
  rw [hBb]
  generalize (.slice (some ⟨w1.heap.size, 0, none⟩) 1 1 : Value) = vA0 at *
  generalize (.slice (some ⟨w1.heap.size + 1, 0, none⟩) 2 2 : Value) = vO0 at *
  clear hbld hb1 hw2 hBb
  go_loopw [7, 8] (fun s7 s8 wr => ∃ i : Nat, i ≤ n ∧ s8 = .int .i64 i ∧ s7 = .int .u32 (arWant first (L.take i)) ∧ U32 (arWant first (L.take i)) ∧ ∃ vA vO, Bld w Bb ⟨[0], [], arL first (L.take i)⟩ vA (.slice none 0 0) vO wr) (fun _ s8 _ => n - (intOf s8).toNat)
  case atStart => exact ⟨0, Nat.zero_le _, rfl, rfl, ⟨hf0, hf1⟩, _, _, HB0.out⟩
  case round =>
    obtain ⟨i, hin, rfl, rfl, ⟨hw0, hw1⟩, vA, vO, hB⟩ := hrel
    obtain ⟨⟨x0, x1, x2⟩, f0, f2, hlt1, hsz, _, hrow⟩ := hB.facts
    have HB := Lib.hid hB
    obtain ⟨wa, hwa⟩ : ∃ wa, arWant first (L.take i) = wa := ⟨_, rfl⟩
    rw [hwa] at hw0 hw1 ⊢
    have HWA := Lib.hid hwa
    have hlen : (arL first (L.take i)).length ≤ 100 := by rw [arL_len, List.length_take]; omega
    obtain ⟨M, hM⟩ : ∃ M, arL first (L.take i) = M := ⟨_, rfl⟩
    rw [hM] at hrow HB hlen
    have HM := Lib.hid hM
    clear hB HB0 hwa hM
    by_cases hlt : i < n
    · have hlL : i < L.length := by rw [HN.out]; exact hlt
      obtain ⟨gA, oA, rfl, hgA, hcA⟩ := H.out (by omega)
      obtain ⟨p, hp⟩ : ∃ p, L.getD i (0, 0) = p := ⟨_, rfl⟩
      have hpm : p ∈ L := by rw [← hp, getD_at hlL]; exact List.getElem_mem hlL
      obtain ⟨⟨p0, p1⟩, ⟨p2, p3⟩⟩ := HL.out p hpm
      obtain ⟨d1, d2⟩ := hcA i hlL
      rw [hp] at d1 d2
      have HD2 := Lib.hid d2
      have d1 := (HB.out.below.cell (p := ⟨gA, oA + i * 2, none⟩) hgA).trans d1
      have d2 := (HB.out.below.cell (p := ⟨gA, oA + i * 2 + 1, none⟩) hgA).trans d2
      have HP := Lib.hid hp
      have hgr1 : gA < wr.heap.size := Nat.lt_of_lt_of_le hgA HB.out.below.size
      clear hcA hp hpm
      have i0' : (0 : Int) ≤ (i : Int) := by omega
      have i1' : (i : Int) < (n : Int) := by omega
      go_upto_region 9 with fail
      go_cut [] (fun wx => ∃ vO', Bld w Bb ⟨[0], [], M ++ pairOps p⟩ vA (.slice none 0 0) vO' wx)
      case first =>
        have hrow2 : wr.ownsRow w.heap.size 36 5 vO M.length (opsCells M) := hrow
        have hnews : ∀ j u, ([.int .i64 1, .int .i64 21, .int .i64 0, .int .i64 0, .int .u32 p.2, .int .i64 (3 + p.1 % 13), .int .i64 20, .int .i64 20, .int .i64 21, .int .u32 0] : List Value)[j]? = some u → (wr.alloc (.cells #[.int .i64 1, .int .i64 21, .int .i64 0, .int .i64 0, .int .u32 p.2, .int .i64 (3 + p.1 % 13), .int .i64 20, .int .i64 20, .int .i64 21, .int .u32 0] 36)).drew.cell? ((⟨wr.heap.size, 0, none⟩ : Addr).add j) = some u :=
          World.news_of_block (cs := #[.int .i64 1, .int .i64 21, .int .i64 0, .int .i64 0, .int .u32 p.2, .int .i64 (3 + p.1 % 13), .int .i64 20, .int .i64 20, .int .i64 21, .int .u32 0]) (t := 36) (fr := (0, 0)) (heap_alloc_new wr _)
        have HNW := Lib.hid hnews
        have HR2 := Lib.hid hrow2
        clear hnews hrow2 hrow
        go_region_law ((refine step_append_lies _ ?_ (.tmp 39) (.tmp 48) 24 ?_ w.heap.size 36 i0 _ 5 40 Try.underlying24 hi hz0 hz1 hz2 ?_ ?_ vO M.length _ ?_ ((HR2.out.alloc _).drew) ⟨wr.heap.size, 0, none⟩ 2 2 _ ?_ ?_ HNW.out ?_ ?_ ?_ ?_ ?_ (wr.heap.size + 1) ?_ ?_; rfl; rfl; rfl; omega; rfl; rfl; rfl; simp [Value.oneCell']; omega; (unfold maxLen; omega); omega; (simp; omega); simp; intro g cap3 w3 hown hgr hor hglt; have hgr2 := grownBy_of_drew hgr; obtain ⟨yy, z2⟩ := HB.out.boxO hgr2 2; have y2 := yy _ rfl; clear yy))
        all_goals go_wp2_with fail
        all_goals (go_meet; case rel => (go_light; exact ⟨_, HB.out.appO (l := pairOps p) hown hgr2 (hor.imp id (by intro h; omega))⟩))
      case rest =>
        obtain ⟨vO', hB2⟩ := hcut
        have d2 := (hB2.below.cell (p := ⟨gA, oA + i * 2 + 1, none⟩) hgA).trans HD2.out
        clear x0 x1 x2 f0 f2 hlt1 hsz HB
        obtain ⟨⟨x0, x1, x2⟩, f0, f2, hlt1, hsz, _, _⟩ := hB2.facts
        have HB := Lib.hid hB2
        clear hB2
        go_wp2_with fail
        refine (refOp_any _ _ _ _ hw0 hw1 p2 p3).mono ?_
        rintro e3 w3 ⟨rfl, rfl⟩
        go_wp2_with fail
        go_roundw
        case rel =>
          have hst : arWant first (L.take (i + 1)) = wordOpL (3 + p.1 % 13) wa p.2 := by rw [take_step hlL, HP.out, arWant_snoc, HWA.out]
          have hso : arL first (L.take (i + 1)) = M ++ pairOps p := by rw [take_step hlL, HP.out, arL_snoc, HM.out]
          have hwr := wordOp_range (3 + p.1 % 13) wa p.2 ⟨hw0, hw1⟩ ⟨p2, p3⟩
          exact ⟨i + 1, by omega, by go_num, by rw [hst], by rw [hst]; exact hwr, vA, vO', by rw [hso]; exact HB.out⟩
        case measure => (simp [intOf]; omega)
    · obtain rfl : i = n := by omega
      have eL : L.take i = L := by rw [← HN.out]; exact List.take_length
      rw [eL] at HM HWA
      go_upto_region 12 with (at_builtin; refine wpList_app wr rfl (.tmp 60) (.tmp 63) 24 rfl w.heap.size 36 i0 _ 5 40 Try.underlying24 hi hz0 hz1 hz2 rfl (by decide) vO M.length _ rfl hrow _ (by simp) 2 2 [.int .i64 2, .int .i64 3, .int .i64 20, .int .i64 0, .int .u32 0, .int .i64 25, .int .i64 0, .int .i64 20, .int .i64 0, .int .u32 0] rfl rfl (by simp [Value.oneCell']) (by omega) (by unfold maxLen; omega) (by omega) (by omega) ?_; intro g cap3 w3 hg hglt hown hgr hor hsz3; obtain ⟨yy, z2⟩ := HB.out.boxO hgr 2; have y2 := yy _ rfl; clear yy)
      have hB2 : Bld w Bb ⟨[0], [], M ++ arEnd⟩ vA (.slice none 0 0) (.slice (some ⟨g, 0, none⟩) (M.length + 2) cap3) (w3.setCell ⟨Bb, 2, none⟩ (.slice (some ⟨g, 0, none⟩) (M.length + 2) cap3)) :=
        HB.out.appO (l := arEnd) hown hgr hor
      have hab : (⟨[0], [], M ++ arEnd⟩ : IBlk) = arBlk first L := by rw [← HM.out]; rfl
      rw [hab] at hB2
      generalize Value.slice (some ⟨g, 0, none⟩) (M.length + 2) cap3 = vO2 at *
      generalize w3.setCell ⟨Bb, 2, none⟩ vO2 = w5 at *
      clear HB x0 x1 x2 f0 f2 hlt1 hrow hown hgr hor hsz3 y2 z2 hg hglt hab
      obtain ⟨⟨x0, x1, x2⟩, f0, f2, hlt1, hsz, _, _⟩ := hB2.facts
      have HB5 := Lib.hid hB2
      obtain ⟨R, hR⟩ : ∃ R, evalNil (arBlk first L) vs0 = R := ⟨_, rfl⟩
      have hL40 : L.length ≤ 40 := by rw [HN.out]; exact hn40
      obtain ⟨hE1, hE2, hE3⟩ := ar_eval first L hL40 (vars := vs0) rfl
      rw [hR] at hE1
      rw [hR, HWA.out] at hE2 hE3
      have hlen := ev_len (arBlk first L) (V := vs0) rfl
      have hall := out_all (evalNil (arBlk first L) vs0)
      have hio := out_info hlen
      have hzo := out_zero hlen
      have hblk := HB5.out.isBlk (by show 1 ≤ _; unfold maxLen; omega) (by show 0 ≤ _; omega) (by rw [ar_len]; unfold maxLen; omega)
      have HEV : Hid (Calls Try.prog 21 #[.agg #[vA, .slice none 0 0, vO2], .agg (varsV vs0), .nilIface] w5 fun e w' => e = .returned (.agg (outCells (evalNil (arBlk first L) vs0))) ∧ Ext w5 w') := Lib.hid (isBlk_eval hblk (ar_n ⟨hf0, hf1⟩ HL.out) rfl vs0_u)
      have HVA := Lib.hid fun (W : World) (hx : Ext w5 W) => ex_valid (hblk.ext hx)
      rw [ar_valid first L hL40] at HVA
      rw [hR] at HEV hlen hall hio hzo
      have rdone : (outCells R)[2]? = some (.int .i64 R.done) := by simp [outCells]
      have rpc : (outCells R)[3]? = some (.int .u32 R.pc) := by simp [outCells]
      have rv : (outCells R)[7]? = some (.int .u32 (R.vars.getD 3 0)) := out_var hlen
      rw [hE1] at rdone
      rw [hE2] at rpc
      rw [hE3] at rv
      obtain ⟨oc, hoc⟩ : ∃ oc, outCells R = oc := ⟨_, rfl⟩
      rw [hoc] at HEV hall hio hzo rdone rpc rv
      have HRD := Lib.hid rdone
      have HRP := Lib.hid rpc
      have HRV := Lib.hid rv
      clear hlen hblk hR hoc rdone rpc rv hE1 hE2 hE3 hB2
      go_wp2_with fail
      refine HEV.out.mono ?_
      rintro e9 w6 ⟨rfl, hx6⟩
      clear x0 x1 x2 f0 f2 hlt1
      go_upto_region 13 with (refine wpList_store_row (o := ⟨none, .store 39 (.tmp 10) (.tmp 68), _, _, _, _⟩) ?_ 39 (.tmp 10) (.tmp 68) ?_ w6.heap.size oc ?_ ?_ 39 (outCells zeroOut) (heap_alloc_new w6 _) hio ?_ hall ?_; (· rfl); (· rfl); (· rfl); (· rfl); (· exact hzo))
      generalize hw7 : (w6.alloc _).setRow w6.heap.size oc = w7
      have hx7 : Ext w6 w7 := by rw [← hw7]; exact below_setRow (Ext.alloc (Ext.refl w6) _) (Nat.le_refl _)
      have hox : w7.heap[w6.heap.size]? = some (.cells oc 39 (0, 0)) := by rw [← hw7]; exact setRow_heap _ _ _ _ _ _ (heap_alloc_new w6 _)
      have HX7 := Lib.hid (Ext.trans hx6 hx7)
      clear hw7
      generalize w6.heap.size = G at *
      have HB7 := Lib.hid (HB5.out.after HX7.out)
      have HOX := Lib.hid hox
      obtain ⟨⟨x0, x1, x2⟩, f0, f2, hlt1, _, _, _⟩ := HB7.out.facts
      clear hox hx6 hx7 hall hio hzo HEV
      go_wp2_with fail
      refine (HVA.out w7 HX7.out).mono ?_
      rintro e10 w8 ⟨rfl, hx8⟩
      have HBW := Lib.hid ((HB7.out.after hx8).below)
      have k2 : w8.cell? ⟨G, 2, none⟩ = some (.int .i64 1) := heap_cell (hx8.block HOX.out) HRD.out
      have k3 : w8.cell? ⟨G, 3, none⟩ = some (.int .u32 wa) := heap_cell (hx8.block HOX.out) HRP.out
      have k7 : w8.cell? ⟨G, 7, none⟩ = some (.int .u32 wa) := heap_cell (hx8.block HOX.out) HRV.out
      clear x0 x1 x2 f0 f2 hlt1 hx8 HB7 HOX HRD HRP HRV HVA HX7 HB5
      go_wp2_with fail
      all_goals (go_light; go_ret; exact ⟨rfl, HBW.out⟩)
end Go.Proofs.Ytojofinofpgopaa
