/- States and variables: Enter and Leave of ir. -/
import Derived.Test.YtojofinofpgopaaFlags
import Derived.Laws.CopyOwn
import Derived.Deep.RegionLaw
namespace Go.Proofs.Ytojofinofpgopaa
open Go.RowKit
structure MSt where
  pc : Int
  r : List Int
  f : Int
  c : List Int
  steps : Int
  due : Int
def u32s (l : List Int) : List Value := l.map (Value.int .u32)
def stL (s : MSt) : List Value := .int .u32 s.pc :: (u32s s.r ++ (.int .u32 s.f :: (u32s s.c ++ [.int .i64 s.steps, .int .i64 s.due])))
def stV (s : MSt) : Value := .agg (stL s).toArray
structure StOk (s : MSt) : Prop where
  r16 : s.r.length = 16
  c4 : s.c.length = 4
  ru : ∀ v ∈ s.r, U32 v
  fu : U32 s.f
def z28 : List Int := List.replicate 28 0
/-- The three variables of Enter. -/
structure En (w : World) (s : MSt) (x : List Int) (wx : World) : Prop where
  below : Ext w wx
  st : wx.heap[w.heap.size]? = some (.cells (stL s).toArray 75 (0, 0))
  res : wx.heap[w.heap.size + 1]? = some (.cells (u32s z28).toArray 37 (0, 0))
  v : wx.heap[w.heap.size + 2]? = some (.cells (u32s x).toArray 37 (0, 0))
theorem u32s_len (l : List Int) : (u32s l).length = l.length := List.length_map ..
theorem u32s_take (l : List Int) (n : Nat) : u32s (l.take n) = (u32s l).take n := List.map_take
theorem u32s_drop (l : List Int) (n : Nat) : u32s (l.drop n) = (u32s l).drop n := List.map_drop
theorem u32s_app (l m : List Int) : u32s (l ++ m) = u32s l ++ u32s m := List.map_append
theorem u32s_one (l : List Int) : ∀ v ∈ u32s l, v.oneCell' = true := by
  intro v hv
  obtain ⟨n, _, rfl⟩ := List.mem_map.1 hv
  rfl
theorem stL_len {s : MSt} (h : StOk s) : (stL s).length = 24 := by
  simp [stL, u32s_len, h.r16, h.c4]
theorem stL_r {s : MSt} {j : Nat} {v : Value} (hv : (u32s s.r)[j]? = some v) : (stL s)[1 + j]? = some v := by
  have hj : j < (u32s s.r).length := (List.getElem?_eq_some_iff.1 hv).1
  rw [Nat.add_comm]
  show (u32s s.r ++ _)[j]? = _
  rw [List.getElem?_append_left hj, hv]
theorem stL_f {s : MSt} (h : StOk s) : (stL s)[17]? = some (.int .u32 s.f) := by
  show (u32s s.r ++ _)[16]? = _
  rw [List.getElem?_append_right (by rw [u32s_len, h.r16]; omega), u32s_len, h.r16]; rfl
theorem lcell {w : World} {b i : Nat} {L : List Value} {t : TypeId} {v : Value} (h : w.heap[b]? = some (.cells L.toArray t (0, 0))) (hv : L[i]? = some v) : w.cell? ⟨b, i, none⟩ = some v :=
  heap_cell h (by rw [List.getElem?_toArray]; exact hv)
theorem lseg {w : World} {b o : Nat} {L cs : List Value} {t : TypeId} (h : w.heap[b]? = some (.cells L.toArray t (0, 0))) (hc : ∀ (j : Nat) (v : Value), cs[j]? = some v → L[o + j]? = some v) :
    ∀ (j : Nat) (v : Value), cs[j]? = some v → w.cell? ((⟨b, o, none⟩ : Addr).add j) = some v := fun j v hv => by
  rw [Go.WideShapes.add_plain]; exact lcell h (hc j v hv)
theorem take_sub {cs : List Value} {n j : Nat} {v : Value} (h : (cs.take n)[j]? = some v) : cs[j]? = some v := by
  rw [List.getElem?_take] at h
  split at h
  · exact h
  · simp at h
section
variable {P : Program}
theorem step_copy_row {ops : Array Oper} {o : Oper} {a : Act} {w : World} {K : Act → World → Prop} {Q : Exit → Act → World → Prop} {E : Prop} (hgd : o.guard = none) (d s : Operand) (dT sT : TypeId)
    (ho : o.op = .call { callee := .builtin .copy, args := #[d, s], argTypes := #[dT, sT] }) (elem : TypeId) (hu : P.underlying dT = some (.slice elem)) (hsz : (P.info? elem).map (·.size) = some 1)
    (g off dLen dCap : Nat) (ad : Addr) (sLen sCap : Nat) (hd : a.eval d = .slice (some ⟨g, off, none⟩) dLen dCap) (hs : a.eval s = .slice (some ad) sLen sCap)
    (cur : Array Value) (t : TypeId) (hg : w.heap[g]? = some (.cells cur t (0, 0))) (cs : List Value) (hn : cs.length = Nat.min sLen dLen)
    (hsrc : ∀ j v, cs[j]? = some v → w.cell? (ad.add j) = some v) (hfit : off + cs.length ≤ cur.size) (h1 : ∀ v ∈ cs, v.oneCell' = true)
    (h : K (a.put o.dst (goInt cs.length)) (w.setRow g (cur.toList.take off ++ (cs ++ cur.toList.drop (off + cs.length))).toArray)) :
    if Region.wanted o (yielded ops a.tmps) = true then Oper.wp P o a w K Q else E := by
  have hw : Region.wanted o (yielded ops a.tmps) = true := by simp [Region.wanted, hgd]
  rw [if_pos hw]
  have hrun := run_copy_row (P := P) w dT sT o.type elem g off dLen dCap ad sLen sCap cur t cs hu hsz hg hn hsrc hfit h1
  unfold Oper.wp
  simp [execOp, ho, resolve, invoke, builtin, hd, hs, hrun, Result.andThen]
  exact h
end
theorem stL_r1 {s : MSt} {j : Nat} {v : Value} (hv : (((u32s s.r).drop 1).take 15)[j]? = some v) : (stL s)[2 + j]? = some v := by
  have h1 := take_sub hv
  rw [List.getElem?_drop] at h1
  have := stL_r h1
  rw [show 2 + j = 1 + (1 + j) by omega]; exact this
def enterL (k : Int) (s : MSt) : List Int :=
  if k = 1 then (s.r.take 8 ++ z28.drop 8).set 17 (bits .and .u32 s.f 15) else if k = 2 then z28.take 1 ++ ((s.r.drop 1).take 15 ++ z28.drop 16) else z28
theorem En.cells {w : World} {s : MSt} {x : List Int} {wx : World} (h : En w s x wx) (y : List Int) {L : List Value} (hL : L = u32s y) : En w s y (wx.setRow (w.heap.size + 2) L.toArray) := by
  subst hL
  exact ⟨below_setRow h.below (by omega), (setRow_other _ _ _ _ (by omega)).trans h.st, (setRow_other _ _ _ _ (by omega)).trans h.res, setRow_heap _ _ _ _ _ _ h.v⟩
theorem En.drew {w : World} {s : MSt} {x : List Int} {wx : World} (h : En w s x wx) : En w s x wx.drew := ⟨h.below.drew, h.st, h.res, h.v⟩
theorem En.put {w : World} {s : MSt} {x : List Int} {wx : World} (h : En w s x wx) (i : Nat) (n : Int) : En w s (x.set i n) (wx.setCell ⟨w.heap.size + 2, i, none⟩ (.int .u32 n)) := by
  have e : u32s (x.set i n) = (u32s x).set i (.int .u32 n) := List.map_set ..
  refine ⟨h.below.setCell (by show w.heap.size ≤ w.heap.size + 2; omega) _, (Below.heap_setCell wx ⟨w.heap.size + 2, i, none⟩ _ _ (by show w.heap.size ≠ w.heap.size + 2; omega)).trans h.st, (Below.heap_setCell wx ⟨w.heap.size + 2, i, none⟩ _ _ (by show w.heap.size + 1 ≠ w.heap.size + 2; omega)).trans h.res, ?_⟩
  have := set_heap h.v i (.int .u32 n)
  rw [e]
  simpa using this
theorem enterL_len (k : Int) {s : MSt} (h : StOk s) : (enterL k s).length = 28 := by
  unfold enterL
  split
  · simp [h.r16, z28]
  · split
    · simp [h.r16, z28]
    · rfl
theorem u28_info {x : List Int} (h : x.length = 28) : (Try.prog.info? 37).map (·.size) = some (u32s x).toArray.size := by
  rw [List.size_toArray, u32s_len, h]; kernel_rfl
theorem u28_all (x : List Int) : (u32s x).toArray.all (·.oneCell') = true := by
  simp [u32s, Value.oneCell']
theorem u28_size {x : List Int} (h : x.length = 28) : (u32s z28).toArray.size = (u32s x).toArray.size := by
  rw [List.size_toArray, List.size_toArray, u32s_len, u32s_len, h]; rfl
set_option maxRecDepth 100000 in
theorem enter_any (k : Int) (s : MSt) (w : World) (h : StOk s) : Calls Try.prog 40 #[.int .i64 k, stV s] w fun e w' => e = .returned (.agg (u32s (enterL k s)).toArray) ∧ Ext w w' := by
  have hen : En w s z28 (((w.alloc (.cells (stL s).toArray 75)).alloc (.cells (u32s z28).toArray 37)).alloc (.cells (u32s z28).toArray 37)) :=
    ⟨((Ext.refl w).alloc _).alloc _ |>.alloc _, (Ext.alloc (Ext.refl _) _).block ((Ext.alloc (Ext.refl _) _).block (heap_alloc_new _ _)), (Ext.alloc (Ext.refl _) _).block (heap_new_at _ _ (by simp)), heap_new_at _ _ (by simp)⟩
  have HEN := Lib.hid hen
  clear hen
  have HST := Lib.hid h
  go_enter Try.func40, Try.ntmps40
  rcases (show k = 1 ∨ k = 2 ∨ (k < 1 ∨ 2 < k) by omega) with rfl | rfl | hk
  · go_upto_region 4 with fail
    generalize hw1 : ((w.alloc _).alloc _).alloc _ = w1
    have hE : En w s z28 w1 := by rw [← hw1]; exact HEN.out
    clear hw1 HEN h
    have hlt := heap_lt hE.v
    have HE := Lib.hid hE
    clear hE
    go_region_law (refine step_copy_row rfl (.tmp 9) (.tmp 11) 22 22 rfl 34 Try.underlying22 (by kernel_rfl) (w.heap.size + 2) 0 8 28 ⟨w.heap.size, 1, none⟩ 16 16 ?_ ?_ (u32s z28).toArray 37 HE.out.v (u32s (s.r.take 8)) ?_ ?_ ?_ ?_ ?_; rfl; rfl; (rw [u32s_len, List.length_take, HST.out.r16]; rfl); exact (lseg HE.out.st (fun j v hv => stL_r (take_sub (by rw [u32s_take] at hv; exact hv)))); (rw [u32s_len, List.length_take, HST.out.r16]; decide); exact u32s_one _)
    have hE2 : En w s (s.r.take 8 ++ z28.drop 8) _ := HE.out.drew.cells (s.r.take 8 ++ z28.drop 8) (L := u32s (s.r.take 8) ++ (u32s z28).drop (u32s (s.r.take 8)).length) (by rw [u32s_app, u32s_drop, u32s_len, List.length_take, HST.out.r16]; rfl)
    generalize w1.drew.setRow (w.heap.size + 2) _ = w2 at *
    have k17 : w2.cell? ⟨w.heap.size, 17, none⟩ = some (.int .u32 s.f) := lcell hE2.st (stL_f HST.out)
    have k17b : ∃ u, w2.cell? ⟨w.heap.size + 1 + 1, 17, none⟩ = some u := ⟨_, lcell hE2.v (by rw [u32s_app]; rw [List.getElem?_append_right (by rw [u32s_len, List.length_take, HST.out.r16]; decide), u32s_len, List.length_take, HST.out.r16]; rfl)⟩
    obtain ⟨u, k17b⟩ := k17b
    have f17 : w2.frozen? ⟨w.heap.size + 1 + 1, 17, none⟩ = false := heap_free hE2.v
    have hlt2 := heap_lt hE2.v
    have HE2 := Lib.hid hE2
    clear hE2 HE
    go_upto_region 8 with fail
    have hE3 : En w s (enterL 1 s) _ := HE2.out.put 17 (bits .and .u32 s.f 15)
    generalize w2.setCell _ _ = w3 at *
    clear HE2 k17 k17b f17 hlt2
    have HE3 := Lib.hid hE3
    have HL := Lib.hid (enterL_len 1 HST.out)
    clear hE3
    obtain ⟨x, hx⟩ : ∃ x, enterL 1 s = x := ⟨_, rfl⟩
    rw [hx] at HE3 HL
    have HX := Lib.hid hx
    clear hx
    go_wp2_with (first | (refine wpList_load_row rfl 37 (.tmp 5) rfl (w.heap.size + 2) rfl 37 (u32s x).toArray (0, 0) _ HE3.out.v Try.underlying37 rfl (u28_info HL.out) ?_) | (refine wpList_store_row (o := ⟨none, .store 37 (.tmp 4) (.tmp 23), _, _, _, _⟩) ?_ 37 (.tmp 4) (.tmp 23) ?_ (w.heap.size + 1) (u32s x).toArray ?_ ?_ 37 (u32s z28).toArray HE3.out.res (u28_info HL.out) ?_ (u28_all x) ?_; (· rfl); (· rfl); (· rfl); (· rfl); (· exact u28_size HL.out)))
    refine bodyPost_ret (results_cell_row rfl _ _ (w.heap.size + 1) 37 (u32s x).toArray (0, 0) _ rfl (setRow_heap _ _ _ _ _ _ HE3.out.res) Try.underlying37 rfl (u28_info HL.out)) rfl ⟨by rw [HX.out], below_setRow HE3.out.below (by omega)⟩
  · go_upto_region 7 with fail
    generalize hw1 : ((w.alloc _).alloc _).alloc _ = w1
    have hE : En w s z28 w1 := by rw [← hw1]; exact HEN.out
    clear hw1 HEN h
    have hlt := heap_lt hE.v
    have HE := Lib.hid hE
    clear hE
    obtain ⟨R1, hR1⟩ : ∃ R1, (s.r.drop 1).take 15 = R1 := ⟨_, rfl⟩
    have hR1l : R1.length = 15 := by rw [← hR1, List.length_take, List.length_drop, HST.out.r16]; rfl
    have HR1 := Lib.hid hR1
    have HR1L := Lib.hid hR1l
    clear hR1 hR1l
    go_region_law (refine step_copy_row rfl (.tmp 19) (.tmp 21) 22 22 rfl 34 Try.underlying22 (by kernel_rfl) (w.heap.size + 2) 1 15 27 ⟨w.heap.size, 2, none⟩ 15 15 ?_ ?_ (u32s z28).toArray 37 HE.out.v (u32s R1) ?_ ?_ ?_ ?_ ?_; rfl; rfl; (· (rw [u32s_len, HR1L.out]; try rfl)); exact (lseg HE.out.st (fun j v hv => stL_r1 (by rw [← HR1.out, u32s_take, u32s_drop] at hv; exact hv))); (· (rw [u32s_len, HR1L.out]; decide)); exact u32s_one _)
    have hE3 : En w s (enterL 2 s) _ := HE.out.drew.cells (enterL 2 s) (L := (u32s z28).take 1 ++ (u32s R1 ++ (u32s z28).drop (1 + (u32s R1).length))) (by
      show _ = u32s (z28.take 1 ++ ((s.r.drop 1).take 15 ++ z28.drop 16))
      rw [HR1.out, u32s_app, u32s_app, u32s_drop z28, u32s_take z28, u32s_len, HR1L.out])
    generalize w1.drew.setRow (w.heap.size + 2) _ = w3 at *
    clear HE
    go_upto_region 8 with fail
    have HE3 := Lib.hid hE3
    have HL := Lib.hid (enterL_len 2 HST.out)
    clear hE3
    obtain ⟨x, hx⟩ : ∃ x, enterL 2 s = x := ⟨_, rfl⟩
    rw [hx] at HE3 HL
    have HX := Lib.hid hx
    clear hx
    go_wp2_with (first | (refine wpList_load_row rfl 37 (.tmp 5) rfl (w.heap.size + 2) rfl 37 (u32s x).toArray (0, 0) _ HE3.out.v Try.underlying37 rfl (u28_info HL.out) ?_) | (refine wpList_store_row (o := ⟨none, .store 37 (.tmp 4) (.tmp 23), _, _, _, _⟩) ?_ 37 (.tmp 4) (.tmp 23) ?_ (w.heap.size + 1) (u32s x).toArray ?_ ?_ 37 (u32s z28).toArray HE3.out.res (u28_info HL.out) ?_ (u28_all x) ?_; (· rfl); (· rfl); (· rfl); (· rfl); (· exact u28_size HL.out)))
    refine bodyPost_ret (results_cell_row rfl _ _ (w.heap.size + 1) 37 (u32s x).toArray (0, 0) _ rfl (setRow_heap _ _ _ _ _ _ HE3.out.res) Try.underlying37 rfl (u28_info HL.out)) rfl ⟨by rw [HX.out], below_setRow HE3.out.below (by omega)⟩
  · rcases hk with hk | hk
    all_goals
      go_upto_region 8 with fail
      generalize hw1 : ((w.alloc _).alloc _).alloc _ = w3
      have hE3 : En w s (enterL k s) w3 := by
        rw [← hw1]
        have e : enterL k s = z28 := by unfold enterL; rw [if_neg (by omega), if_neg (by omega)]
        rw [e]; exact HEN.out
      clear hw1 HEN h hk
      have hlt := heap_lt hE3.v
      have HE3 := Lib.hid hE3
      have HL := Lib.hid (enterL_len k HST.out)
      clear hE3
      obtain ⟨x, hx⟩ : ∃ x, enterL k s = x := ⟨_, rfl⟩
      rw [hx] at HE3 HL
      have HX := Lib.hid hx
      clear hx
      go_wp2_with (first | (refine wpList_load_row rfl 37 (.tmp 5) rfl (w.heap.size + 2) rfl 37 (u32s x).toArray (0, 0) _ HE3.out.v Try.underlying37 rfl (u28_info HL.out) ?_) | (refine wpList_store_row (o := ⟨none, .store 37 (.tmp 4) (.tmp 23), _, _, _, _⟩) ?_ 37 (.tmp 4) (.tmp 23) ?_ (w.heap.size + 1) (u32s x).toArray ?_ ?_ 37 (u32s z28).toArray HE3.out.res (u28_info HL.out) ?_ (u28_all x) ?_; (· rfl); (· rfl); (· rfl); (· rfl); (· exact u28_size HL.out)))
      refine bodyPost_ret (results_cell_row rfl _ _ (w.heap.size + 1) 37 (u32s x).toArray (0, 0) _ rfl (setRow_heap _ _ _ _ _ _ HE3.out.res) Try.underlying37 rfl (u28_info HL.out)) rfl ⟨by rw [HX.out], below_setRow HE3.out.below (by omega)⟩
end Go.Proofs.Ytojofinofpgopaa
