/- Contract: header. -/
import Derived.Test.YtojofinofpgopaaDoorIrB
import Derived.Outline
namespace Go.Proofs.YtojofinofpgopaaDoor
open Go.RowKit

/-- The cells of a slice. -/
def Arr (w : World) (B : Nat) (A : Option Addr) (xs : List Value) : Prop :=
  0 < xs.length → ∃ b off, A = some ⟨b, off, none⟩ ∧ b < B ∧ ∀ i, i < xs.length → w.cell? ⟨b, off + i, none⟩ = some (xs.getD i undef)
/-- The cells of a slice of operations. -/
structure OpCells (w : World) (g off : Nat) (o : IOp) : Prop where
  c0 : w.cell? ⟨g, off, none⟩ = some (.int .i64 o.code)
  c1 : w.cell? ⟨g, off + 1, none⟩ = some (.int .i64 o.d)
  c2 : w.cell? ⟨g, off + 2, none⟩ = some (.int .i64 o.a)
  c3 : w.cell? ⟨g, off + 3, none⟩ = some (.int .i64 o.b)
  c4 : w.cell? ⟨g, off + 4, none⟩ = some (.int .u32 o.n)
def noOp : IOp := ⟨0, 0, 0, 0, 0⟩
def OpsArr (w : World) (B : Nat) (A : Option Addr) (l : List IOp) : Prop :=
  0 < l.length → ∃ b off, A = some ⟨b, off, none⟩ ∧ b < B ∧ ∀ i, i < l.length → OpCells w b (off + i * 5) (l.getD i noOp)
/-- A block: addresses, pages, operations. -/
structure IBlk where
  at_ : List Int
  pages : List Int
  ops : List IOp
abbrev blkV (aA aP aO : Option Addr) (cA cP cO : Nat) (b : IBlk) : Value := .agg #[.slice aA b.at_.length cA, .slice aP b.pages.length cP, .slice aO b.ops.length cO]
structure BlkAt (w : World) (B : Nat) (aA aP aO : Option Addr) (b : IBlk) : Prop where
  at_ : Arr w B aA (b.at_.map (Value.int .u32))
  pages : Arr w B aP (b.pages.map (Value.int .i64))
  ops : OpsArr w B aO b.ops
  la : b.at_.length ≤ maxLen
  lp : b.pages.length ≤ maxLen
  lo : b.ops.length ≤ maxLen

theorem Arr.below {w w' : World} {B : Nat} {A : Option Addr} {xs : List Value} (h : Arr w B A xs) (hb : Below B w w') : Arr w' B A xs := fun h0 => by
  obtain ⟨b, off, hA, hlt, hc⟩ := h h0
  exact ⟨b, off, hA, hlt, fun i hi => (hb.cell (p := ⟨b, off + i, none⟩) hlt).trans (hc i hi)⟩
theorem OpCells.below {w w' : World} {B g off : Nat} {o : IOp} (h : OpCells w g off o) (hb : Below B w w') (hlt : g < B) : OpCells w' g off o :=
  ⟨(hb.cell (p := ⟨g, _, none⟩) hlt).trans h.c0, (hb.cell (p := ⟨g, _, none⟩) hlt).trans h.c1, (hb.cell (p := ⟨g, _, none⟩) hlt).trans h.c2, (hb.cell (p := ⟨g, _, none⟩) hlt).trans h.c3, (hb.cell (p := ⟨g, _, none⟩) hlt).trans h.c4⟩
theorem OpsArr.below {w w' : World} {B : Nat} {A : Option Addr} {l : List IOp} (h : OpsArr w B A l) (hb : Below B w w') : OpsArr w' B A l := fun h0 => by
  obtain ⟨b, off, hA, hlt, hc⟩ := h h0
  exact ⟨b, off, hA, hlt, fun i hi => (hc i hi).below hb hlt⟩
theorem BlkAt.below {w w' : World} {B : Nat} {aA aP aO : Option Addr} {b : IBlk} (h : BlkAt w B aA aP aO b) (hb : Below B w w') : BlkAt w' B aA aP aO b :=
  ⟨h.at_.below hb, h.pages.below hb, h.ops.below hb, h.la, h.lp, h.lo⟩
theorem BlkAt.alloc {w : World} {B : Nat} {aA aP aO : Option Addr} {b : IBlk} (h : BlkAt w B aA aP aO b) (hB : B ≤ w.heap.size) (o : Obj) : BlkAt (w.alloc o) B aA aP aO b :=
  h.below ((Below.refl _ _).alloc hB o)

def pageBad (l : List Int) (i : Nat) : Bool := decide (l.getD i 0 < 0) || decide (4096 ≤ l.getD i 0) || (decide (0 < i) && decide (l.getD i 0 ≤ l.getD (i - 1) 0))
def pagesOk (l : List Int) : Bool := (List.range l.length).all fun i => !pageBad l i
def headerL (b : IBlk) : Bool := pagesOk b.pages && (decide (1 ≤ b.at_.length) && decide (b.at_.length ≤ 64) && decide (1 ≤ b.ops.length) && decide (b.ops.length ≤ 2000) && (b.ops.getD 0 noOp).code == 20)

theorem Arr.int {w : World} {B : Nat} {A : Option Addr} {l : List Int} {k : IntKind} (h : Arr w B A (l.map (Value.int k))) (h0 : 0 < l.length) :
    ∃ b off, A = some ⟨b, off, none⟩ ∧ b < B ∧ ∀ i, i < l.length → w.cell? ⟨b, off + i, none⟩ = some (.int k (l.getD i 0)) := by
  obtain ⟨b, off, hA, hb, hc⟩ := h (by simpa using h0)
  refine ⟨b, off, hA, hb, fun i hi => ?_⟩
  rw [hc i (by simpa using hi)]
  simp [hi]

theorem header_bad {b : IBlk} {k : Nat} (hk : k < b.pages.length) (h : pageBad b.pages k = true) : false = headerL b := by
  have : pagesOk b.pages = false := by
    unfold pagesOk
    rw [List.all_eq_false]
    exact ⟨k, by simpa using hk, by simp [h]⟩
  simp [headerL, this]
theorem pages_ok {l : List Int} (h : ∀ j, j < l.length → pageBad l j = false) : pagesOk l = true := by
  unfold pagesOk
  rw [List.all_eq_true]
  intro j hj
  simp [h j (by simpa using hj)]
set_option maxHeartbeats 1000000 in
theorem header_any (aA aP aO : Option Addr) (cA cP cO : Nat) (b : IBlk) (w : World) (B : Nat) (hB : B ≤ w.heap.size) (h : BlkAt w B aA aP aO b) :
    Calls Tryd.prog 24 #[blkV aA aP aO cA cP cO b] w fun e w' => e = .returned (.bool (headerL b)) ∧ w.alloc (.cells #[.slice aA b.at_.length cA, .slice aP b.pages.length cP, .slice aO b.ops.length cO] 28) = w' := by
  have hP := h.pages
  have hO := h.ops
  have la := h.la
  have lp := h.lp
  have lo := h.lo
  unfold maxLen at la lp lo
  go_enter Tryd.func24, Tryd.ntmps24
  go_wp2
  go_loop [8] (fun i => ∃ k : Nat, k ≤ b.pages.length ∧ i = .int .i64 k ∧ ∀ j, j < k → pageBad b.pages j = false) (fun i => b.pages.length - (intOf i).toNat)
  case atStart => exact ⟨0, Nat.zero_le _, rfl, fun j hj => absurd hj (by omega)⟩
  case round =>
    obtain ⟨k, hk, rfl, hall⟩ := hrel
    by_cases hlt : k < b.pages.length
    · obtain ⟨g, off, rfl, hg0, hc⟩ := hP.int (by omega)
      have hg := Nat.lt_of_lt_of_le hg0 hB
      have c1 := hc k hlt
      have c2 : 0 < k → w.cell? ⟨g, off + (k - 1), none⟩ = some (.int .i64 (b.pages.getD (k - 1) 0)) := fun _ => hc _ (by omega)
      obtain ⟨p, hp⟩ : ∃ p, b.pages.getD k 0 = p := ⟨_, rfl⟩
      obtain ⟨q, hq⟩ : ∃ q, b.pages.getD (k - 1) 0 = q := ⟨_, rfl⟩
      rw [hp] at c1
      rw [hq] at c2
      have HA := Lib.hid hall
      have HB := Lib.hid (show pageBad b.pages k = (decide (p < 0) || decide (4096 ≤ p) || (decide (0 < k) && decide (p ≤ q))) by rw [pageBad, hp, hq])
      clear hP hO hc hp hq hall
      go_wp2
      all_goals first
        | (go_light; go_ret; exact ⟨ret_bool (header_bad hlt (by rw [HB.out]; simp [*])), rfl⟩)
        | (go_round
           case rel => (go_light; exact ⟨k + 1, by omega, by go_num, all_snoc HA.out (by rw [HB.out]; simp [*]; try omega)⟩)
           case measure => (simp [intOf]; omega))
    · obtain rfl : k = b.pages.length := by omega
      have HP := Lib.hid (pages_ok hall)
      clear hall hP
      by_cases ho : 0 < b.ops.length
      · obtain ⟨g, off, rfl, hg0, hc⟩ := hO ho
        have hg := Nat.lt_of_lt_of_le hg0 hB
        have c0 := (hc 0 ho).c0
        simp only [Nat.zero_mul, Nat.add_zero] at c0
        obtain ⟨cc, hcc⟩ : ∃ cc, (b.ops.getD 0 noOp).code = cc := ⟨_, rfl⟩
        rw [hcc] at c0
        have HC := Lib.hid hcc
        clear hc hcc
        go_wp2
        all_goals (go_light; go_ret; refine ⟨ret_bool ?_, rfl⟩; simp only [headerL, HP.out, HC.out]; simp [*]; try omega)
      · go_wp2
        all_goals (go_light; go_ret; refine ⟨ret_bool ?_, rfl⟩; simp only [headerL, HP.out]; simp [*]; try omega)
end Go.Proofs.YtojofinofpgopaaDoor
