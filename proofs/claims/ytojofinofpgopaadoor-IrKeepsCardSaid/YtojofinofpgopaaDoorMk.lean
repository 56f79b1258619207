/- The maker of blocks: take, word, source. -/
import Derived.Test.YtojofinofpgopaaDoorMgS
import Derived.Test.YtojofinofpgopaaDoorBld
import Derived.Test.YtojofinofpgopaaDoorMgP
namespace Go.Proofs.YtojofinofpgopaaDoor
open Go.RowKit
/-- .. in a block that is old, and is none of Bad. -/
def RdIn (Bad : Nat → Prop) (A : Option Addr) (cs : List Value) (w : World) : Prop := 0 < cs.length → ∃ b off, A = some ⟨b, off, none⟩ ∧ b < w.heap.size ∧ ¬ Bad b ∧ ∀ i, i < cs.length → w.cell? ⟨b, off + i, none⟩ = some (cs.getD i undef)
theorem RdIn.rd {Bad : Nat → Prop} {A : Option Addr} {cs : List Value} {w : World} (h : RdIn Bad A cs w) : Rd A cs w := fun h0 => by
  obtain ⟨b, off, e, _, _, hc⟩ := h h0
  exact ⟨b, off, e, hc⟩
theorem RdIn.weak {Bad Bad' : Nat → Prop} {A : Option Addr} {cs : List Value} {w : World} (h : RdIn Bad A cs w) (hb : ∀ k, Bad' k → Bad k) : RdIn Bad' A cs w := fun h0 => by
  obtain ⟨b, off, e, h1, h2, hc⟩ := h h0
  exact ⟨b, off, e, h1, fun hx => h2 (hb b hx), hc⟩
theorem RdIn.foot {Bad : Nat → Prop} {A : Option Addr} {cs : List Value} {w : World} (h : RdIn Bad A cs w) : ∃ F : Nat → Prop, (∀ k, F k → k < w.heap.size ∧ ¬ Bad k) ∧ Foot F (Rd A cs) w := by
  by_cases h0 : 0 < cs.length
  · obtain ⟨b, off, e, h1, h2, hc⟩ := h h0
    refine ⟨fun k => k = b, fun k hk => by subst hk; exact ⟨h1, h2⟩, fun u hu _ => ⟨b, off, e, fun i hi => ?_⟩⟩
    rw [← hc i hi]
    exact World.cell?_of_block (hu b rfl)
  · exact ⟨fun _ => False, fun _ h => h.elim, fun u _ h => absurd h h0⟩
theorem RdIn.foot' {Bad : Nat → Prop} {A : Option Addr} {cs : List Value} {w : World} (h : RdIn Bad A cs w) : ∃ F : Nat → Prop, (∀ k, F k → k < w.heap.size ∧ ¬ Bad k) ∧ Foot F (RdIn Bad A cs) w := by
  by_cases h0 : 0 < cs.length
  · obtain ⟨b, off, e, h1, h2, hc⟩ := h h0
    refine ⟨fun k => k = b, fun k hk => by subst hk; exact ⟨h1, h2⟩, fun u hu _ => ⟨b, off, e, ?_, h2, fun i hi => ?_⟩⟩
    · have : u.heap[b]? = some w.heap[b] := by rw [hu b rfl, Array.getElem?_eq_getElem h1]
      exact (Array.getElem?_eq_some_iff.1 this).1
    · rw [← hc i hi]
      exact World.cell?_of_block (hu b rfl)
  · exact ⟨fun _ => False, fun _ h => h.elim, fun u _ h => absurd h h0⟩
theorem RdIn.on {Bad G : Nat → Prop} {A : Option Addr} {cs : List Value} {w w' : World} (h : RdIn Bad A cs w) (hk : Keep G w w') (hG : ∀ k, k < w.heap.size → G k → Bad k) : RdIn Bad A cs w' := fun h0 => by
  obtain ⟨b, off, e, h1, h2, hc⟩ := h h0
  refine ⟨b, off, e, Nat.lt_of_lt_of_le h1 hk.size, h2, fun i hi => ?_⟩
  rw [← hc i hi]
  exact World.cell?_of_block (hk.block b h1 fun hg => h2 (hG b h1 hg))
theorem Rd.at {b off o i : Nat} {cs : List Value} {w : World} (h : Rd (some ⟨b, off, none⟩) cs w) (hi : i < cs.length) (ho : o = off + i) {v : Value} (hv : cs[i]? = some v) : w.cell? ⟨b, o, none⟩ = some v := by
  obtain ⟨b', off', e, hc⟩ := h (by omega)
  cases e; subst ho
  rw [hc i hi, List.getD_eq_getElem?_getD, hv]; rfl
def i64s (l : List Int) : List Value := l.map (Value.int .i64)
def takeL (s : List Int) (k : Nat) (n : Int) : Int := s.getD k 0 % n
abbrev mkV (A : Option Addr) (cap : Nat) (s : List Int) (k : Nat) : Obj := bk 50 [.slice A s.length cap, .int .i64 k]
theorem rem_add_rem {x n : Int} (hn : 0 < n) : (x.tmod n + n).tmod n = x % n := by
  have h1 := Int.tmod_lt_of_pos x hn
  have e : x.tmod n = x - n * x.tdiv n := by have := Int.mul_tdiv_add_tmod x n; omega
  have h2 : 0 ≤ x.tmod n + n := by
    rcases Int.le_total 0 x with h | h
    · have := Int.tmod_nonneg n h; omega
    · have := Int.tmod_lt_of_pos (-x) hn
      rw [Int.neg_tmod] at this; omega
  rw [Int.tmod_eq_emod_of_nonneg h2, Int.add_emod_right, e, Int.sub_mul_emod_self_left]
theorem wrap_rem {x n : Int} (hn : 0 < n) (hn2 : n < 4294967296) : IntKind.i64.wrap (x.tmod n + n) = x.tmod n + n := by
  have h1 := Int.tmod_lt_of_pos x hn
  have h2 : -n < x.tmod n := by
    rcases Int.le_total 0 x with h | h
    · have := Int.tmod_nonneg n h; omega
    · have := Int.tmod_lt_of_pos (-x) hn
      rw [Int.neg_tmod] at this; omega
  exact i64_in _ (by omega) (by omega)
/-- A maker in memory: its numbers, and how many it has taken. -/
structure Mk (M : Nat) (A : Option Addr) (cap : Nat) (s : List Int) (k : Nat) (w : World) : Prop where
  m : w.heap[M]? = some (mkV A cap s k)
  rd : RdIn (fun j => j = M) A (i64s s) w
  len : s.length ≤ maxLen
theorem takeL_in (s : List Int) (k : Nat) {n : Int} (hn : 0 < n) : 0 ≤ takeL s k n ∧ takeL s k n < n := ⟨Int.emod_nonneg _ (by omega), Int.emod_lt_of_pos _ hn⟩
set_option maxRecDepth 100000 in
theorem take_any {M : Nat} {A : Option Addr} {cap : Nat} {s : List Int} {k : Nat} (n : Int) (w : World) (h : Mk M A cap s k w) (hn : 0 < n) (hn2 : n < 4294967296) (hk : k < 4294967296) :
    Calls Tryd.prog 17 #[.pointer (some ⟨M, 0, none⟩), .int .i64 n] w fun e w' => ∃ x : Int, (0 ≤ x ∧ x < n) ∧ e = .returned (.int .i64 x) ∧ Keep (fun j => j = M) w w' ∧ w'.heap[M]? = some (mkV A cap s (k + 1)) := by
  have hl := h.len
  unfold maxLen at hl
  have hT := takeL_in s k hn
  refine calls_wc (args := [.pointer (some ⟨M, 0, none⟩), .int .i64 n]) Tryd.func17 rfl 40 rfl (Nat.le_of_ble_eq_true rfl) ?_
  refine wc_weak (.cons (i := 0) rfl <| .cons (i := 1) rfl <| .nil) ?_
  refine wc_conseq (H' := Hp (fun j => j = M) w [(M, mkV A cap s k)] [] (RdIn (fun j => j = M) A (i64s s))) (fun u hu => ?_) ?_
  · subst hu; exact Hp.startB h.m h.rd.foot'
  refine wc_seq ?_
  refine wc_region ?_
  refine wl_free .none rfl (yf_assign rfl) ?_
  refine wl_nil ?_
  refine wq_then ?_
  refine wc_seq ?_
  refine wc_region ?_
  refine wl_free .none rfl (yf_assign rfl) ?_
  refine wl_nil ?_
  refine wq_then ?_
  refine wc_seq ?_
  refine wc_seq ?_
  refine wc_draw0 [0, 1, 2, 3, 4, 5, 6, 7, 8, 9] _ (by kernel_rfl) (by kernel_rfl) HpG.stab HpG.stab (fun _ h => HpG.drew h) (fun _ h => h) ?_
  refine wd_at rfl ?_
  (refine wd_free ?_ .none rfl (yf_move rfl) ?_; (· rfl);  skip)
  refine wd_at rfl ?_
  (refine wd_free ?_ .none rfl (yf_nilCheck rfl) ?_; (· rfl);  skip)
  refine wd_at rfl ?_
  (refine wd_free ?_ .none rfl (yf_fieldAddr (off := 1) (sz := 0) rfl Tryd.underlying50 (by kernel_rfl) rfl) ?_; (· rfl);  skip)
  refine wd_at rfl ?_
  (refine wd_free ?_ .none rfl (yf_loadL 0 rfl rfl rfl Tryd.underlying3 rfl) ?_; (· rfl);  skip)
  refine wd_at rfl ?_
  (refine wd_free ?_ .none rfl (yf_move rfl) ?_; (· rfl);  skip)
  refine wd_at rfl ?_
  (refine wd_free ?_ .none rfl (yf_nilCheck rfl) ?_; (· rfl);  skip)
  refine wd_at rfl ?_
  (refine wd_free ?_ .none rfl (yf_fieldAddr (off := 0) (sz := 0) rfl Tryd.underlying50 (by kernel_rfl) rfl) ?_; (· rfl);  skip)
  refine wd_at rfl ?_
  (refine wd_free ?_ .none rfl (yf_loadL 0 rfl rfl rfl Tryd.underlying22 rfl) ?_; (· rfl);  skip)
  refine wd_at rfl ?_
  (refine wd_free ?_ .none rfl (yf_lenS rfl Tryd.underlying22) ?_; (· rfl);  skip)
  refine wd_at rfl ?_
  (refine wd_free ?_ .none rfl (yf_lss rfl rfl) ?_; (· rfl);  skip)
  refine wd_end ?_
  refine wq_then ?_
  refine wc_cond rfl (fun hc => ?_) (fun hc => ?_)
  · replace hc := of_decide_eq_true hc
    obtain ⟨b, off, rfl, _⟩ := h.rd (by simp [i64s]; omega)
    have hv : s[k]? = some (s.getD k 0) := by rw [List.getD_eq_getElem?_getD, List.getElem?_eq_getElem (by omega)]; rfl
    refine wc_weak (.cons (i := 0) rfl <| .cons (i := 1) rfl <| .cons (i := 4) rfl <| .cons (i := 5) rfl <| .cons (i := 15) rfl <| .nil) ?_
    refine wc_draw0 [0, 1, 2, 3, 4, 5, 6, 7, 8, 9, 10] _ (by kernel_rfl) (by kernel_rfl) HpG.stab HpG.stab (fun _ h => HpG.drew h) (fun _ h => h) ?_
    refine wd_at rfl ?_
    (refine wd_free ?_ .none rfl (yf_move rfl) ?_; (· rfl);  skip)
    refine wd_at rfl ?_
    (refine wd_free ?_ .none rfl (yf_nilCheck rfl) ?_; (· rfl);  skip)
    refine wd_at rfl ?_
    (refine wd_free ?_ .none rfl (yf_fieldAddr (off := 0) (sz := 0) rfl Tryd.underlying50 (by kernel_rfl) rfl) ?_; (· rfl);  skip)
    refine wd_at rfl ?_
    (refine wd_free ?_ .none rfl (yf_loadL 0 rfl rfl rfl Tryd.underlying22 rfl) ?_; (· rfl);  skip)
    refine wd_at rfl ?_
    (refine wd_free ?_ .none rfl (yf_move rfl) ?_; (· rfl);  skip)
    refine wd_at rfl ?_
    (refine wd_free ?_ .none rfl (yf_nilCheck rfl) ?_; (· rfl);  skip)
    refine wd_at rfl ?_
    (refine wd_free ?_ .none rfl (yf_fieldAddr (off := 1) (sz := 0) rfl Tryd.underlying50 (by kernel_rfl) rfl) ?_; (· rfl);  skip)
    refine wd_at rfl ?_
    (refine wd_free ?_ .none rfl (yf_loadL 0 rfl rfl rfl Tryd.underlying3 rfl) ?_; (· rfl);  skip)
    refine wd_at rfl ?_
    (refine wd_free ?_ .none rfl (yf_indexAddrS (es := 1) rfl rfl Tryd.underlying22 (by kernel_rfl) rfl ?_ rfl) ?_; (· rfl); (· omega); skip)
    refine wd_at rfl ?_
    (refine wd_free ?_ .none rfl (yf_load (v := .int .i64 (s.getD k 0)) rfl Tryd.underlying3 rfl (fun w h => (HpG.x h).rd.at (i := k) (by simp [i64s]; omega) (by omega) (by rw [i64s, List.getElem?_map, hv]; rfl))) ?_; (· rfl);  skip)
    refine wd_at rfl ?_
    (refine wd_free ?_ .none rfl (yf_assign rfl) ?_; (· rfl);  skip)
    refine wd_end ?_
    refine wq_then ?_
    refine wc_seq ?_
    refine wc_weak (.cons (i := 0) rfl <| .cons (i := 1) rfl <| .cons (i := 4) rfl <| .cons (i := 5) rfl <| .cons (i := 15) rfl <| .nil) ?_
    refine wc_region ?_
    refine wl_free .none rfl (yf_move rfl) ?_
    refine wl_free .none rfl (yf_nilCheck rfl) ?_
    refine wl_free .none rfl (yf_fieldAddr (off := 1) (sz := 0) rfl Tryd.underlying50 (by kernel_rfl) rfl) ?_
    refine wl_free .none rfl (yf_loadL 0 rfl rfl rfl Tryd.underlying3 rfl) ?_
    (refine wl_free .none rfl (yf_add rfl rfl (i64_in _ ?_ ?_)) ?_; (· omega); (· omega); skip)
    refine wl_free .none rfl (yf_nilCheck rfl) ?_
    refine wl_free .none rfl (yf_fieldAddr (off := 1) (sz := 0) rfl Tryd.underlying50 (by kernel_rfl) rfl) ?_
    refine wl_chain0 .none (cf_store 0 rfl rfl rfl rfl rfl (by kernel_rfl)) (fun _ => ?_)
    refine wl_nil ?_
    refine wq_then ?_
    refine wc_seq ?_
    refine wc_weak (.cons (i := 0) rfl <| .cons (i := 1) rfl <| .cons (i := 4) rfl <| .cons (i := 5) rfl <| .cons (i := 15) rfl <| .nil) ?_
    refine wc_region ?_
    refine wl_free .none rfl (yf_move rfl) ?_
    refine wl_free .none rfl (yf_move rfl) ?_
    (refine wl_free .none rfl (yf_rem rfl rfl ?_ rfl) ?_; (· first | decide | omega); skip)
    refine wl_free .none rfl (yf_move rfl) ?_
    refine wl_free .none rfl (yf_add rfl rfl (wrap_rem hn hn2)) ?_
    refine wl_free .none rfl (yf_move rfl) ?_
    (refine wl_free .none rfl (yf_rem rfl rfl ?_ (rem_add_rem hn)) ?_; (· first | decide | omega); skip)
    refine wl_free .none rfl (yf_assign rfl) ?_
    refine wl_nil ?_
    refine wq_then ?_
    refine wc_ret ?_
    refine wq_ret1 rfl rfl (fun w hw => ?_)
    exact ⟨_, hT, rfl, HpG.keep hw, HpG.own hw _ (List.mem_cons_self ..)⟩
  · replace hc := of_decide_eq_false hc
    have hv : s.getD k 0 = 0 := by rw [List.getD_eq_getElem?_getD, List.getElem?_eq_none (by omega)]; rfl
    refine wc_skip ?_
    refine wq_then ?_
    refine wc_seq ?_
    refine wc_weak (.cons (i := 0) rfl <| .cons (i := 1) rfl <| .cons (i := 4) rfl <| .cons (i := 5) rfl <| .cons (i := 15) rfl <| .nil) ?_
    refine wc_region ?_
    refine wl_free .none rfl (yf_move rfl) ?_
    refine wl_free .none rfl (yf_nilCheck rfl) ?_
    refine wl_free .none rfl (yf_fieldAddr (off := 1) (sz := 0) rfl Tryd.underlying50 (by kernel_rfl) rfl) ?_
    refine wl_free .none rfl (yf_loadL 0 rfl rfl rfl Tryd.underlying3 rfl) ?_
    (refine wl_free .none rfl (yf_add rfl rfl (i64_in _ ?_ ?_)) ?_; (· omega); (· omega); skip)
    refine wl_free .none rfl (yf_nilCheck rfl) ?_
    refine wl_free .none rfl (yf_fieldAddr (off := 1) (sz := 0) rfl Tryd.underlying50 (by kernel_rfl) rfl) ?_
    refine wl_chain0 .none (cf_store 0 rfl rfl rfl rfl rfl (by kernel_rfl)) (fun _ => ?_)
    refine wl_nil ?_
    refine wq_then ?_
    refine wc_seq ?_
    refine wc_weak (.cons (i := 0) rfl <| .cons (i := 1) rfl <| .cons (i := 4) rfl <| .cons (i := 5) rfl <| .cons (i := 15) rfl <| .nil) ?_
    refine wc_region ?_
    refine wl_free .none rfl (yf_move rfl) ?_
    refine wl_free .none rfl (yf_move rfl) ?_
    (refine wl_free .none rfl (yf_rem rfl rfl ?_ rfl) ?_; (· first | decide | omega); skip)
    refine wl_free .none rfl (yf_move rfl) ?_
    refine wl_free .none rfl (yf_add rfl rfl (wrap_rem hn hn2)) ?_
    refine wl_free .none rfl (yf_move rfl) ?_
    (refine wl_free .none rfl (yf_rem rfl rfl ?_ (rem_add_rem hn)) ?_; (· first | decide | omega); skip)
    refine wl_free .none rfl (yf_assign rfl) ?_
    refine wl_nil ?_
    refine wq_then ?_
    refine wc_ret ?_
    refine wq_ret1 rfl rfl (fun w hw => ?_)
    exact ⟨_, hT, by rw [takeL, hv], HpG.keep hw, HpG.own hw _ (List.mem_cons_self ..)⟩
set_option maxRecDepth 100000 in
theorem word_any {M : Nat} {A : Option Addr} {cap : Nat} {s : List Int} {k : Nat} (w : World) (h : Mk M A cap s k w) (hk : k < 4294967290) :
    Calls Tryd.prog 37 #[.pointer (some ⟨M, 0, none⟩)] w fun e w' => ∃ x : Int, U32 x ∧ e = .returned (.int .u32 x) ∧ Keep (fun j => j = M) w w' ∧ w'.heap[M]? = some (mkV A cap s (k + 2)) := by
  have hl := h.len
  refine calls_wc (args := [.pointer (some ⟨M, 0, none⟩)]) Tryd.func37 rfl 24 rfl (Nat.le_of_ble_eq_true rfl) ?_
  refine wc_weak (.cons (i := 0) rfl <| .nil) ?_
  refine wc_conseq (H' := Hp (fun j => j = M) w [(M, mkV A cap s k)] [] (RdIn (fun j => j = M) A (i64s s))) (fun u hu => ?_) ?_
  · subst hu; exact Hp.startB h.m h.rd.foot'
  refine wc_seq ?_
  refine wc_region ?_
  refine wl_free .none rfl (yf_assign rfl) ?_
  refine wl_nil ?_
  refine wq_then ?_
  refine wc_seq ?_
  refine wc_region ?_
  refine wl_free .none rfl (yf_move rfl) ?_
  refine wl_turnE .none rfl 0 (by kernel_rfl) rfl rfl (fun w hm hw => take_any _ w ⟨hm, HpG.x hw, hl⟩ (by decide) (by decide) (by omega)) (fun x hx => ?_)
  (refine wl_free .none rfl (yf_conv rfl (by kernel_rfl) Tryd.underlying35 (u32_in _ ?_ ?_)) ?_; (· omega); (· omega); skip)
  refine wl_free .none rfl (yf_assign rfl) ?_
  refine wl_nil ?_
  refine wq_then ?_
  refine wc_seq ?_
  refine wc_seq ?_
  refine wc_weak (.cons (i := 0) rfl <| .cons (i := 2) rfl <| .cons (i := 3) rfl <| .nil) ?_
  refine wc_region ?_
  have h16 : ∀ n : Int, 0 < n → n ≤ 800 → U32 (x.tmod n) := fun n h0 h1 => by obtain ⟨a, b⟩ := tmod_in (x := x) (n := n) hx.1 h0; exact ⟨a, by omega⟩
  refine wl_free .none rfl (yf_move rfl) ?_
  refine wl_turnE .none rfl 0 (by kernel_rfl) rfl rfl (fun w hm hw => take_any _ w ⟨hm, HpG.x hw, hl⟩ (by decide) (by decide) (by omega)) (fun x hx => ?_)
  refine wl_nil ?_
  refine wq_then ?_
  refine wc_block ?_
  refine wc_seq ?_
  refine wc_weak (.cons (i := 0) rfl <| .cons (i := 2) rfl <| .cons (i := 3) rfl <| .cons (i := 8) rfl <| .nil) ?_
  refine wc_region ?_
  refine wl_free .none rfl (yf_eql rfl rfl) ?_
  refine wl_free .none rfl (yf_assign rfl) ?_
  refine wl_nil ?_
  refine wq_then ?_
  refine wc_cond rfl (fun hc => ?_) (fun hc => ?_)
  · replace hc := eq_of_beq hc
    refine wc_seq ?_
    refine wc_weak (.cons (i := 0) rfl <| .cons (i := 2) rfl <| .cons (i := 3) rfl <| .cons (i := 8) rfl <| .cons (i := 9) rfl <| .nil) ?_
    refine wc_region ?_
    refine wl_free .none rfl (yf_move rfl) ?_
    (refine wl_free .none rfl (yf_rem rfl rfl ?_ rfl) ?_; (· first | decide | omega); skip)
    refine wl_free .none rfl (yf_assign rfl) ?_
    refine wl_nil ?_
    refine wq_then ?_
    refine wc_ret ?_
    refine wq_block_ret ?_
    refine wq_then_ret ?_
    refine wq_ret1 rfl rfl (fun w hw => ?_)
    exact ⟨_, (by first | exact u32_wrap _ | exact h16 _ (by decide) (by decide)), rfl, HpG.keep hw, HpG.own hw _ (List.mem_cons_self ..)⟩
  · replace hc := beq_no hc
    refine wc_seq ?_
    refine wc_weak (.cons (i := 0) rfl <| .cons (i := 2) rfl <| .cons (i := 3) rfl <| .cons (i := 8) rfl <| .cons (i := 9) rfl <| .nil) ?_
    refine wc_region ?_
    refine wl_free .none rfl (yf_eql rfl rfl) ?_
    refine wl_free .none rfl (yf_assign rfl) ?_
    refine wl_nil ?_
    refine wq_then ?_
    refine wc_cond rfl (fun hc => ?_) (fun hc => ?_)
    · replace hc := eq_of_beq hc
      refine wc_seq ?_
      refine wc_weak (.cons (i := 0) rfl <| .cons (i := 2) rfl <| .cons (i := 3) rfl <| .cons (i := 8) rfl <| .cons (i := 9) rfl <| .cons (i := 13) rfl <| .nil) ?_
      refine wc_region ?_
      refine wl_free .none rfl (yf_move rfl) ?_
      (refine wl_free .none rfl (yf_rem rfl rfl ?_ rfl) ?_; (· first | decide | omega); skip)
      refine wl_free .none rfl (yf_sub rfl rfl rfl) ?_
      refine wl_free .none rfl (yf_assign rfl) ?_
      refine wl_nil ?_
      refine wq_then ?_
      refine wc_ret ?_
      refine wq_block_ret ?_
      refine wq_then_ret ?_
      refine wq_ret1 rfl rfl (fun w hw => ?_)
      exact ⟨_, (by first | exact u32_wrap _ | exact h16 _ (by decide) (by decide)), rfl, HpG.keep hw, HpG.own hw _ (List.mem_cons_self ..)⟩
    · replace hc := beq_no hc
      refine wc_seq ?_
      refine wc_weak (.cons (i := 0) rfl <| .cons (i := 2) rfl <| .cons (i := 3) rfl <| .cons (i := 8) rfl <| .cons (i := 9) rfl <| .cons (i := 13) rfl <| .nil) ?_
      refine wc_region ?_
      refine wl_free .none rfl (yf_eql rfl rfl) ?_
      refine wl_free .none rfl (yf_assign rfl) ?_
      refine wl_nil ?_
      refine wq_then ?_
      refine wc_cond rfl (fun hc => ?_) (fun hc => ?_)
      · replace hc := eq_of_beq hc
        refine wc_seq ?_
        refine wc_weak (.cons (i := 0) rfl <| .cons (i := 2) rfl <| .cons (i := 3) rfl <| .cons (i := 8) rfl <| .cons (i := 9) rfl <| .cons (i := 13) rfl <| .cons (i := 18) rfl <| .nil) ?_
        refine wc_region ?_
        refine wl_free .none rfl (yf_move rfl) ?_
        refine wl_free .none rfl (yf_mul rfl rfl rfl) ?_
        refine wl_free .none rfl (yf_assign rfl) ?_
        refine wl_nil ?_
        refine wq_then ?_
        refine wc_ret ?_
        refine wq_block_ret ?_
        refine wq_then_ret ?_
        refine wq_ret1 rfl rfl (fun w hw => ?_)
        exact ⟨_, (by first | exact u32_wrap _ | exact h16 _ (by decide) (by decide)), rfl, HpG.keep hw, HpG.own hw _ (List.mem_cons_self ..)⟩
      · replace hc := beq_no hc
        refine wc_skip ?_
        refine wq_block ?_
        refine wq_then ?_
        refine wc_seq ?_
        refine wc_weak (.cons (i := 0) rfl <| .cons (i := 2) rfl <| .cons (i := 3) rfl <| .cons (i := 8) rfl <| .cons (i := 9) rfl <| .cons (i := 13) rfl <| .cons (i := 18) rfl <| .nil) ?_
        refine wc_region ?_
        refine wl_free .none rfl (yf_move rfl) ?_
        (refine wl_free .none rfl (yf_rem rfl rfl ?_ rfl) ?_; (· first | decide | omega); skip)
        refine wl_free .none rfl (yf_assign rfl) ?_
        refine wl_nil ?_
        refine wq_then ?_
        refine wc_ret ?_
        refine wq_ret1 rfl rfl (fun w hw => ?_)
        exact ⟨_, (by first | exact u32_wrap _ | exact h16 _ (by decide) (by decide)), rfl, HpG.keep hw, HpG.own hw _ (List.mem_cons_self ..)⟩
def bools (l : List Bool) : List Value := l.map Value.bool
theorem bools_at {l : List Bool} {i : Nat} (h : i < l.length) : (bools l)[i]? = some (.bool (l.getD i false)) := by
  rw [bools, List.getElem?_map, List.getD_eq_getElem?_getD, List.getElem?_eq_getElem h]; rfl
theorem bools_len (l : List Bool) : (bools l).length = l.length := List.length_map ..
set_option maxRecDepth 100000 in
theorem source_any {M : Nat} {A : Option Addr} {cap : Nat} {s : List Int} {k : Nat} (wr : List Bool) (w : World) (h : Mk M A cap s k w) (hk : k < 4294967290) (hwr : wr.length = 8) :
    Calls Tryd.prog 36 #[.pointer (some ⟨M, 0, none⟩), .agg (bools wr).toArray] w fun e w' => ∃ x : Int, Rdb wr x ∧ e = .returned (.int .i64 x) ∧ Keep (fun j => j = M) w w' ∧ w'.heap[M]? = some (mkV A cap s (k + 1)) := by
  have hl := h.len
  refine calls_wc (args := [.pointer (some ⟨M, 0, none⟩), .agg (bools wr).toArray]) Tryd.func36 rfl 19 rfl (Nat.le_of_ble_eq_true rfl) ?_
  refine wc_weak (.cons (i := 0) rfl <| .cons (i := 1) rfl <| .nil) ?_
  refine wc_conseq (H' := Hp (fun j => j = M) w [(M, mkV A cap s k)] [] (RdIn (fun j => j = M) A (i64s s))) (fun u hu => ?_) ?_
  · subst hu; exact Hp.startB h.m h.rd.foot'
  refine wc_seq ?_
  refine wc_region ?_
  refine wl_new .none rfl (nf_box rfl rfl) (fun b3 => ?_)
  refine wl_free .none rfl (yf_assign rfl) ?_
  refine wl_nil ?_
  refine wq_then ?_
  refine wc_seq ?_
  refine wc_region ?_
  refine wl_free .none rfl (yf_move rfl) ?_
  refine wl_turnE .none rfl 1 (by kernel_rfl) rfl rfl (fun w hm hw => take_any _ w ⟨hm, HpG.x hw, hl⟩ (by decide) (by decide) (by omega)) (fun x hx => ?_)
  refine wl_free .none rfl (yf_assign rfl) ?_
  refine wl_nil ?_
  refine wq_then ?_
  refine wc_seq ?_
  refine wc_seq ?_
  refine wc_weak (.cons (i := 0) rfl <| .cons (i := 1) rfl <| .cons (i := 3) rfl <| .cons (i := 4) rfl <| .cons (i := 5) rfl <| .nil) ?_
  refine wc_region ?_
  refine wl_free .none rfl (yf_move rfl) ?_
  refine wl_free .none rfl (yf_lss rfl rfl) ?_
  refine wl_nil ?_
  refine wq_then ?_
  refine wc_cond rfl (fun hc => ?_) (fun hc => ?_)
  · replace hc := of_decide_eq_true hc
    refine wc_seq ?_
    refine wc_weak (.cons (i := 0) rfl <| .cons (i := 1) rfl <| .cons (i := 3) rfl <| .cons (i := 4) rfl <| .cons (i := 5) rfl <| .cons (i := 9) rfl <| .nil) ?_
    refine wc_region ?_
    refine wl_free .none rfl (yf_move rfl) ?_
    refine wl_free .none rfl (yf_assign rfl) ?_
    refine wl_nil ?_
    refine wq_then ?_
    refine wc_ret ?_
    refine wq_then_ret ?_
    refine wq_ret1 rfl rfl (fun w hw => ?_)
    exact ⟨_, .inl ⟨by omega, by omega⟩, rfl, HpG.keep hw, HpG.own hw _ (List.mem_cons_of_mem _ (List.mem_cons_self ..))⟩
  · replace hc := of_decide_eq_false hc
    refine wc_skip ?_
    refine wq_then ?_
    refine wc_seq ?_
    refine wc_seq ?_
    refine wc_weak (.cons (i := 0) rfl <| .cons (i := 1) rfl <| .cons (i := 3) rfl <| .cons (i := 4) rfl <| .cons (i := 5) rfl <| .cons (i := 9) rfl <| .nil) ?_
    refine wc_region ?_
    refine wl_free .none rfl (yf_move rfl) ?_
    (refine wl_free .none rfl (yf_sub rfl rfl (i64_in _ ?_ ?_)) ?_; (· omega); (· omega); skip)
    (refine wl_free .none rfl (yf_indexAddrA (es := 1) rfl rfl Tryd.underlying85 (by kernel_rfl) (Int.toNat_of_nonneg ?_).symm ?_ rfl) ?_; (· omega); (· first | decide | omega | (simp; omega)); skip)
    refine wl_free .none rfl (yf_loadL (v := .bool (wr.getD (x - 19).toNat false)) 0 rfl rfl (by rw [Nat.zero_add, Nat.mul_one]; exact bools_at (by omega)) Tryd.underlying4 rfl) ?_
    refine wl_nil ?_
    refine wq_then ?_
    refine wc_cond rfl (fun hc => ?_) (fun hc => ?_)
    · skip
      refine wc_seq ?_
      refine wc_weak (.cons (i := 0) rfl <| .cons (i := 1) rfl <| .cons (i := 3) rfl <| .cons (i := 4) rfl <| .cons (i := 5) rfl <| .cons (i := 9) rfl <| .cons (i := 14) rfl <| .nil) ?_
      refine wc_region ?_
      refine wl_free .none rfl (yf_move rfl) ?_
      (refine wl_free .none rfl (yf_add rfl rfl (i64_in _ ?_ ?_)) ?_; (· omega); (· omega); skip)
      refine wl_free .none rfl (yf_assign rfl) ?_
      refine wl_nil ?_
      refine wq_then ?_
      refine wc_ret ?_
      refine wq_then_ret ?_
      refine wq_ret1 rfl rfl (fun w hw => ?_)
      exact ⟨_, .inr ⟨by omega, by omega, by rw [← hc]; congr 1; omega⟩, rfl, HpG.keep hw, HpG.own hw _ (List.mem_cons_of_mem _ (List.mem_cons_self ..))⟩
    · skip
      refine wc_skip ?_
      refine wq_then ?_
      refine wc_seq ?_
      refine wc_weak (.cons (i := 0) rfl <| .cons (i := 1) rfl <| .cons (i := 3) rfl <| .cons (i := 4) rfl <| .cons (i := 5) rfl <| .cons (i := 9) rfl <| .cons (i := 14) rfl <| .nil) ?_
      refine wc_region ?_
      refine wl_free .none rfl (yf_move rfl) ?_
      (refine wl_free .none rfl (yf_sub rfl rfl (i64_in _ ?_ ?_)) ?_; (· omega); (· omega); skip)
      refine wl_free .none rfl (yf_assign rfl) ?_
      refine wl_nil ?_
      refine wq_then ?_
      refine wc_ret ?_
      refine wq_ret1 rfl rfl (fun w hw => ?_)
      exact ⟨_, .inl ⟨by omega, by omega⟩, rfl, HpG.keep hw, HpG.own hw _ (List.mem_cons_of_mem _ (List.mem_cons_self ..))⟩
end Go.Proofs.YtojofinofpgopaaDoor
