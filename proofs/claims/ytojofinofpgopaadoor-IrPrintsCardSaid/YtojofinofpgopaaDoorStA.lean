/- States and variables: Enter and Leave of ir. -/
import Derived.Test.YtojofinofpgopaaDoorFlags
import Derived.Laws.CopyOwn
import Derived.Deep.RegionLaw
namespace Go.Proofs.YtojofinofpgopaaDoor
open Go.RowKit
structure MSt where
  pc : Int
  r : List Int
  f : Int
  c : List Int
  steps : Int
  due : Int
def u32s (l : List Int) : List Value := l.map (Value.int .u32)
def stL (s : MSt) : List Value := .int .u32 s.pc :: (u32s s.r ++ (.int .u32 s.f :: (u32s s.c ++ [.int .i64 s.steps, .int .i64 s.due])))
def stV (s : MSt) : Value := .agg (stL s).toArray
structure StOk (s : MSt) : Prop where
  r16 : s.r.length = 16
  c4 : s.c.length = 4
  ru : ∀ v ∈ s.r, U32 v
  fu : U32 s.f
def z28 : List Int := List.replicate 28 0
theorem u32s_len (l : List Int) : (u32s l).length = l.length := List.length_map ..
theorem u32s_take (l : List Int) (n : Nat) : u32s (l.take n) = (u32s l).take n := List.map_take
theorem u32s_drop (l : List Int) (n : Nat) : u32s (l.drop n) = (u32s l).drop n := List.map_drop
theorem u32s_app (l m : List Int) : u32s (l ++ m) = u32s l ++ u32s m := List.map_append
theorem u32s_one (l : List Int) : ∀ v ∈ u32s l, v.oneCell' = true := by
  intro v hv
  obtain ⟨n, _, rfl⟩ := List.mem_map.1 hv
  rfl
theorem stL_len {s : MSt} (h : StOk s) : (stL s).length = 24 := by
  simp [stL, u32s_len, h.r16, h.c4]
theorem stL_r {s : MSt} {j : Nat} {v : Value} (hv : (u32s s.r)[j]? = some v) : (stL s)[1 + j]? = some v := by
  have hj : j < (u32s s.r).length := (List.getElem?_eq_some_iff.1 hv).1
  rw [Nat.add_comm]
  show (u32s s.r ++ _)[j]? = _
  rw [List.getElem?_append_left hj, hv]
theorem stL_f {s : MSt} (h : StOk s) : (stL s)[17]? = some (.int .u32 s.f) := by
  show (u32s s.r ++ _)[16]? = _
  rw [List.getElem?_append_right (by rw [u32s_len, h.r16]; omega), u32s_len, h.r16]; rfl
theorem lcell {w : World} {b i : Nat} {L : List Value} {t : TypeId} {v : Value} (h : w.heap[b]? = some (.cells L.toArray t (0, 0))) (hv : L[i]? = some v) : w.cell? ⟨b, i, none⟩ = some v :=
  heap_cell h (by rw [List.getElem?_toArray]; exact hv)
theorem lseg {w : World} {b o : Nat} {L cs : List Value} {t : TypeId} (h : w.heap[b]? = some (.cells L.toArray t (0, 0))) (hc : ∀ (j : Nat) (v : Value), cs[j]? = some v → L[o + j]? = some v) :
    ∀ (j : Nat) (v : Value), cs[j]? = some v → w.cell? ((⟨b, o, none⟩ : Addr).add j) = some v := fun j v hv => by
  rw [Go.WideShapes.add_plain]; exact lcell h (hc j v hv)
theorem take_sub {cs : List Value} {n j : Nat} {v : Value} (h : (cs.take n)[j]? = some v) : cs[j]? = some v := by
  rw [List.getElem?_take] at h
  split at h
  · exact h
  · simp at h
section
variable {P : Program}
theorem step_copy_row {ops : Array Oper} {o : Oper} {a : Act} {w : World} {K : Act → World → Prop} {Q : Exit → Act → World → Prop} {E : Prop} (hgd : o.guard = none) (d s : Operand) (dT sT : TypeId)
    (ho : o.op = .call { callee := .builtin .copy, args := #[d, s], argTypes := #[dT, sT] }) (elem : TypeId) (hu : P.underlying dT = some (.slice elem)) (hsz : (P.info? elem).map (·.size) = some 1)
    (g off dLen dCap : Nat) (ad : Addr) (sLen sCap : Nat) (hd : a.eval d = .slice (some ⟨g, off, none⟩) dLen dCap) (hs : a.eval s = .slice (some ad) sLen sCap)
    (cur : Array Value) (t : TypeId) (hg : w.heap[g]? = some (.cells cur t (0, 0))) (cs : List Value) (hn : cs.length = Nat.min sLen dLen)
    (hsrc : ∀ j v, cs[j]? = some v → w.cell? (ad.add j) = some v) (hfit : off + cs.length ≤ cur.size) (h1 : ∀ v ∈ cs, v.oneCell' = true)
    (h : K (a.put o.dst (goInt cs.length)) (w.setRow g (cur.toList.take off ++ (cs ++ cur.toList.drop (off + cs.length))).toArray)) :
    if Region.wanted o (yielded ops a.tmps) = true then Oper.wp P o a w K Q else E := by
  have hw : Region.wanted o (yielded ops a.tmps) = true := by simp [Region.wanted, hgd]
  rw [if_pos hw]
  have hrun := run_copy_row (P := P) w dT sT o.type elem g off dLen dCap ad sLen sCap cur t cs hu hsz hg hn hsrc hfit h1
  unfold Oper.wp
  simp [execOp, ho, resolve, invoke, builtin, hd, hs, hrun, Result.andThen]
  exact h
end
theorem stL_r1 {s : MSt} {j : Nat} {v : Value} (hv : (((u32s s.r).drop 1).take 15)[j]? = some v) : (stL s)[2 + j]? = some v := by
  have h1 := take_sub hv
  rw [List.getElem?_drop] at h1
  have := stL_r h1
  rw [show 2 + j = 1 + (1 + j) by omega]; exact this
def enterL (k : Int) (s : MSt) : List Int :=
  if k = 1 then (s.r.take 8 ++ z28.drop 8).set 17 (bits .and .u32 s.f 15) else if k = 2 then z28.take 1 ++ ((s.r.drop 1).take 15 ++ z28.drop 16) else z28
theorem enterL_len (k : Int) {s : MSt} (h : StOk s) : (enterL k s).length = 28 := by
  unfold enterL
  split
  · simp [h.r16, z28]
  · split
    · simp [h.r16, z28]
    · rfl
theorem u28_info {x : List Int} (h : x.length = 28) : (Tryd.prog.info? 39).map (·.size) = some (u32s x).toArray.size := by
  rw [List.size_toArray, u32s_len, h]; kernel_rfl
theorem u28_all (x : List Int) : (u32s x).toArray.all (·.oneCell') = true := by
  simp [u32s, Value.oneCell']
theorem u28_size {x : List Int} (h : x.length = 28) : (u32s z28).toArray.size = (u32s x).toArray.size := by
  rw [List.size_toArray, List.size_toArray, u32s_len, u32s_len, h]; rfl
end Go.Proofs.YtojofinofpgopaaDoor
