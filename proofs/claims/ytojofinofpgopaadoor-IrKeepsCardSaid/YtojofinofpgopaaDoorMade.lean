/- The maker of blocks: Made. -/
import Derived.Test.YtojofinofpgopaaDoorMkI
import Derived.Test.YtojofinofpgopaaDoorMgP
import Derived.Test.YtojofinofpgopaaDoorMgT
namespace Go.Proofs.YtojofinofpgopaaDoor
open Go.RowKit
structure RI where
  l : List IOp
  k : Nat
  A : Option Addr
  cap : Nat
theorem instruction_row {M : Nat} {A : Option Addr} {cap : Nat} {s : List Int} {k : Nat} (p : Int) (w : World) (h : Mk M A cap s k w) (hk : k < 4294960000) :
    Calls Tryd.prog 18 #[.pointer (some ⟨M, 0, none⟩)] w fun e w' => ∃ i : RI, (i.l.length ≤ 7 ∧ i.k ≤ k + 200 ∧ ∃ wr W ch, Ins p wr i.l W ch) ∧ e = .returned (opRow i.A i.cap i.l).v ∧ Hp (fun j => j = M) w [(M, mkV A cap s i.k)] [opRow i.A i.cap i.l] (RdIn (fun j => j = M) A (i64s s)) w' :=
  (instruction_any p w h hk).mono fun e w' ⟨v, he, l, k', h1, h2, h3, h4⟩ => by
    obtain ⟨_, hr⟩ := HpG.rows h4 _ (List.mem_cons_self ..)
    rcases hr with ⟨hv, hn⟩ | ⟨g, c, cur, hv, _⟩
    · dsimp only at hv hn
      subst hv
      refine ⟨⟨l, k', none, 0⟩, ⟨h1, h2, h3⟩, ?_, ?_⟩
      · rw [he]; show _ = Ending.returned (Value.slice none l.length 0); rw [hn]
      · show Hp _ w _ [⟨Value.slice none l.length 0, _, _, _, _⟩] _ w'
        rw [hn]; rw [hn] at h4; exact h4
    · dsimp only at hv
      subst hv
      exact ⟨⟨l, k', some ⟨g, 0, none⟩, c⟩, ⟨h1, h2, h3⟩, he, h4⟩
structure Md where
  i : Nat
  kk : Nat
  l : List IOp
  at_ : List Int
  A1 : Option Addr
  c1 : Nat
  A2 : Option Addr
  c2 : Nat
structure MdC (x : Int) (j : Md) : Prop where
  i : (j.i : Int) ≤ 1 + x
  kk : j.kk ≤ 2 + 210 * j.i
  ins : Insns j.i j.l
  al : j.at_.length = j.i
  au : ∀ n ∈ j.at_, U32 n
  c1 : j.at_.length ≤ j.c1
  c2 : j.l.length ≤ j.c2
abbrev MdH (w : World) (b2 b6 b11 b22 : Nat) (A : Option Addr) (cap : Nat) (s : List Int) (pg : Int) (j : Md) : World → Prop :=
  Hp (fun _ => False) w [(b6, bk 28 [.slice j.A1 j.at_.length j.c1, .slice (some ⟨b22, 0, none⟩) 1 1, .slice j.A2 j.l.length j.c2]), (b11, mkV A cap s j.kk), (b2, bk 28 [.slice none 0 0, .slice none 0 0, .slice none 0 0])] [u32Row j.A1 j.c1 j.at_, opRow j.A2 j.c2 j.l, intRow (some ⟨b22, 0, none⟩) 1 [pg]] (RdIn (fun k => w.heap.size ≤ k) A (i64s s))
theorem MdH.mk {w : World} {b2 b6 b11 b22 : Nat} {A : Option Addr} {cap : Nat} {s : List Int} {pg : Int} {i kk : Nat} {l : List IOp} {at_ : List Int} {A1 A2 : Option Addr} {c1 c2 n1 n2 : Nat} {xs1 xs2 : List Value} {L : List (Nat × Obj)} {R : List Rw} {u : World} (h : Hp (fun _ => False) w L R (RdIn (fun k => w.heap.size ≤ k) A (i64s s)) u)
    (hL : [(b6, bk 28 [.slice A1 n1 c1, .slice (some ⟨b22, 0, none⟩) 1 1, .slice A2 n2 c2]), (b11, mkV A cap s kk), (b2, bk 28 [.slice none 0 0, .slice none 0 0, .slice none 0 0])].Sublist L)
    (hR : [⟨.slice A1 n1 c1, 35, 1, n1, xs1⟩, ⟨.slice A2 n2 c2, 53, 5, n2, xs2⟩, intRow (some ⟨b22, 0, none⟩) 1 [pg]].Sublist R) (e1 : n1 = at_.length) (e2 : n2 = l.length) (e3 : xs1 = at_.map (Value.int .u32)) (e4 : xs2 = opsCells l) : MdH w b2 b6 b11 b22 A cap s pg ⟨i, kk, l, at_, A1, c1, A2, c2⟩ u := by
  subst e1; subst e2; subst e3; subst e4
  exact Hp.drop h hL hR
theorem made_end {w : World} {b22 : Nat} {pg : Int} {A1 A2 : Option Addr} {c1 c2 n1 n2 : Nat} {xs1 xs2 cs : List Value} {L : List (Nat × Obj)} {R : List Rw} {X : World → Prop} {u : World} (h : Hp (fun _ => False) w L R X u) (at_ : List Int) (l : List IOp)
    (hR : [⟨.slice A1 n1 c1, 35, 1, n1, xs1⟩, ⟨.slice A2 n2 c2, 53, 5, n2, xs2⟩, intRow (some ⟨b22, 0, none⟩) 1 [pg]].Sublist R) (hcs : cs = [.slice A1 n1 c1, .slice (some ⟨b22, 0, none⟩) 1 1, .slice A2 n2 c2]) (e1 : n1 = at_.length) (e2 : n2 = l.length) (e3 : xs1 = at_.map (Value.int .u32)) (e4 : xs2 = opsCells l)
    (hua : ∀ n ∈ at_, U32 n) (huo : ∀ o ∈ l, U32 o.n) (h1 : at_.length ≤ c1) (h2 : l.length ≤ c2) (h3 : at_.length ≤ 100000) (h4 : l.length ≤ 100000) (hv : validL ⟨at_, [pg], l⟩ = true) :
    ∃ i : BR, (i.Ok ∧ validL i.b = true) ∧ Ending.returned (.agg cs.toArray) = .returned i.v ∧ Hp (fun _ => False) w [] i.rows (fun _ => True) u := by
  subst e1; subst e2; subst e3; subst e4; subst hcs
  exact ⟨⟨⟨at_, [pg], l⟩, A1, some ⟨b22, 0, none⟩, A2, c1, 1, c2⟩, ⟨⟨hua, huo, h3, by simp, h4, h1, by simp, h2⟩, hv⟩, rfl, Hp.weakX (Hp.drop h (List.nil_sublist _) hR) fun _ _ => trivial⟩
theorem mem_snoc {α : Type} {p : α → Prop} {l : List α} {x : α} (h : ∀ y ∈ l, p y) (hx : p x) : ∀ y ∈ l ++ [x], p y := fun y hy => by
  rcases List.mem_append.1 hy with hy | hy
  · exact h y hy
  · have : y = x := by simpa using hy
    subst this; exact hx
theorem mem_snoc2 {α : Type} {p : α → Prop} {l : List α} {x z : α} (h : ∀ y ∈ l, p y) (hx : p x) (hz : p z) : ∀ y ∈ l ++ [x, z], p y := fun y hy => by
  rcases List.mem_append.1 hy with hy | hy
  · exact h y hy
  · have : y = x ∨ y = z := by simpa using hy
    rcases this with rfl | rfl <;> assumption
theorem opsCells_snoc2 (l : List IOp) (c d a b n c' d' a' b' n' : Int) : opsCells l ++ ([.int .i64 c, .int .i64 d, .int .i64 a, .int .i64 b, .int .u32 n] ++ [.int .i64 c', .int .i64 d', .int .i64 a', .int .i64 b', .int .u32 n']) = opsCells (l ++ [⟨c, d, a, b, n⟩, ⟨c', d', a', b', n'⟩]) := by rw [opsCells_app]; rfl
set_option maxRecDepth 100000 in
set_option maxHeartbeats 4000000 in
theorem made_any (A : Option Addr) (cap : Nat) (s : List Int) (w : World) (hA : RdIn (fun _ => False) A (i64s s) w) (hl : s.length ≤ maxLen) :
    Calls Tryd.prog 6 #[.slice A s.length cap] w fun e w' => ∃ i : BR, (i.Ok ∧ validL i.b = true) ∧ e = .returned i.v ∧ Hp (fun _ => False) w [] i.rows (fun _ => True) w' := by
  have hX : ∃ F : Nat → Prop, (∀ k, F k → k < w.heap.size ∧ ¬ False) ∧ Foot F (RdIn (fun k => w.heap.size ≤ k) A (i64s s)) w := by
    have h1 : RdIn (fun k => w.heap.size ≤ k) A (i64s s) w := fun h0 => by
      obtain ⟨b, off, e, h1, h2, hc⟩ := hA h0
      exact ⟨b, off, e, h1, by omega, hc⟩
    obtain ⟨F, h2, h3⟩ := h1.foot'
    exact ⟨F, fun k hk => ⟨(h2 k hk).1, id⟩, h3⟩
  refine calls_wc (args := [.slice A s.length cap]) Tryd.func6 rfl 125 rfl (Nat.le_of_ble_eq_true rfl) ?_
  refine wc_weak (.cons (i := 0) rfl <| .nil) ?_
  refine wc_conseq (H' := Hp (fun _ => False) w [] [] (RdIn (fun k => w.heap.size ≤ k) A (i64s s))) (fun u hu => ?_) ?_
  · subst hu; exact Hp.start hX
  refine wc_seq ?_
  refine wc_region ?_
  refine wl_new .none rfl (nf_alloc (z := .agg #[.slice none 0 0, .slice none 0 0, .slice none 0 0]) (cs := [.slice none 0 0, .slice none 0 0, .slice none 0 0]) (by kernel_rfl) rfl) (fun b2 => ?_)
  refine wl_nil ?_
  refine wq_then ?_
  refine wc_seq ?_
  refine wc_region ?_
  refine wl_free .none rfl (yf_move rfl) ?_
  refine wl_free .none rfl (yf_buildS [.slice none 0 0, .int .i64 0] [(0, 1), (1, 1)] rfl (by kernel_rfl) (by kernel_rfl) rfl) ?_
  refine wl_new .none rfl (nf_box rfl rfl) (fun b11 => ?_)
  refine wl_free .none rfl (yf_assign rfl) ?_
  refine wl_nil ?_
  refine wq_then ?_
  refine wc_seq ?_
  refine wc_weak (.cons (i := 0) rfl <| .cons (i := 2) rfl <| .cons (i := 3) rfl <| .nil) ?_
  refine wc_conseq (H' := Hp (fun _ => False) w [(b11, mkV A cap s 0), (b2, bk 28 [.slice none 0 0, .slice none 0 0, .slice none 0 0])] [] (RdIn (fun k => w.heap.size ≤ k) A (i64s s))) (fun _ h => h) ?_
  refine wc_region ?_
  refine wl_free .none rfl (yf_move rfl) ?_
  refine wl_turnE .none rfl 0 (by kernel_rfl) rfl rfl (fun w hm hw => take_any _ w ⟨hm, (HpG.x hw).weak (fun j e => e ▸ HpG.old hw (k := 0) rfl), hl⟩ (by decide) (by decide) (by omega)) (fun x hx => ?_)
  (refine wl_free .none rfl (yf_add rfl rfl (i64_in _ ?_ ?_)) ?_; (· omega); (· omega); skip)
  refine wl_free .none rfl (yf_assign rfl) ?_
  refine wl_nil ?_
  refine wq_then ?_
  refine wc_seq ?_
  refine wc_weak (.cons (i := 0) rfl <| .cons (i := 2) rfl <| .cons (i := 3) rfl <| .cons (i := 4) rfl <| .nil) ?_
  refine wc_region ?_
  refine wl_free .none rfl (yf_move rfl) ?_
  refine wl_turnE .none rfl 0 (by kernel_rfl) rfl rfl (fun w hm hw => take_any _ w ⟨hm, (HpG.x hw).weak (fun j e => e ▸ HpG.old hw (k := 0) rfl), hl⟩ (by decide) (by decide) (by omega)) (fun x2 hx2 => ?_)
  (refine wl_free .none rfl (yf_conv rfl (by kernel_rfl) Tryd.underlying35 (u32_in _ ?_ ?_)) ?_; (· omega); (· omega); skip)
  (refine wl_free .none rfl (yf_mul rfl rfl (u32_in _ ?_ ?_)) ?_; (· omega); (· omega); skip)
  refine wl_free .none rfl (yf_assign rfl) ?_
  refine wl_nil ?_
  refine wq_then ?_
  refine wc_seq ?_
  refine wc_weak (.cons (i := 0) rfl <| .cons (i := 2) rfl <| .cons (i := 3) rfl <| .cons (i := 4) rfl <| .cons (i := 5) rfl <| .nil) ?_
  have hpg : 0 ≤ (x2 * 8).tdiv 256 ∧ (x2 * 8).tdiv 256 < 4096 := by
    rw [Int.tdiv_eq_ediv_of_nonneg (by omega)]; omega
  refine wc_region ?_
  refine wl_free .none rfl (yf_move rfl) ?_
  (refine wl_free .none rfl (yf_quo rfl rfl ?_ (u32_in _ hpg.1 (by omega))) ?_; (· first | decide | omega); skip)
  (refine wl_free .none rfl (yf_conv rfl (by kernel_rfl) Tryd.underlying3 (i64_in _ ?_ ?_)) ?_; (· omega); (· omega); skip)
  refine wl_new .none rfl (nf_bs1 (z := .int .i64 0) rfl rfl Tryd.underlying22 (by kernel_rfl) (by kernel_rfl) rfl rfl) (fun b22 => ?_)
  refine wl_conseq (fun w h => Hp.toRow (k := 1) (size := 1) h (HpG.old h (k := 0) rfl) rfl (by decide)) ?_
  refine wl_free .none rfl (yf_buildS [.slice none 0 0, .slice none 0 0, .slice none 0 0] [(0, 1), (1, 1), (2, 1)] rfl (by kernel_rfl) (by kernel_rfl) rfl) ?_
  refine wl_new .none rfl (nf_alloc (z := .agg #[.slice none 0 0, .slice none 0 0, .slice none 0 0]) (cs := [.slice none 0 0, .slice none 0 0, .slice none 0 0]) (by kernel_rfl) rfl) (fun b6 => ?_)
  refine wl_chain0 .none (cf_storeRow 0 rfl rfl rfl rfl rfl (by kernel_rfl)) (fun _ => ?_)
  refine wl_nil ?_
  refine wq_then ?_
  refine wc_seq ?_
  refine wc_seq ?_
  refine wc_weak (.cons (i := 0) rfl <| .cons (i := 2) rfl <| .cons (i := 3) rfl <| .cons (i := 4) rfl <| .cons (i := 5) rfl <| .cons (i := 6) rfl <| .nil) ?_
  refine wc_conseq (fun w h => Hp.nil (Hp.nil h 53 5) 35 1) ?_
  refine wc_region ?_
  refine wl_free .none rfl (yf_assign rfl) ?_
  refine wl_nil ?_
  refine wq_then ?_
  refine wc_block ?_
  refine wc_loop (ι := {j : Md // MdC x j}) (fun j => [(2, .pointer (some ⟨b2, 0, none⟩)), (3, .pointer (some ⟨b11, 0, none⟩)), (4, .int .i64 (1 + x)), (5, .int .u32 (x2 * 8)), (6, .pointer (some ⟨b6, 0, none⟩)), (7, .int .i64 j.1.i)]) (fun j => MdH w b2 b6 b11 b22 A cap s ((x2 * 8).tdiv 256) j.1) (fun j => 13 - j.1.i) ⟨⟨0, 2, [], [], none, 0, none, 0⟩, ⟨by show ((0 : Nat) : Int) ≤ 1 + x; omega, Nat.le_refl _, Insns.nil, rfl, (fun n h => by cases h), Nat.le_refl _, Nat.le_refl _⟩⟩ ?_ ?_ (fun j => ?_)
  · exact .cons rfl <| .cons rfl <| .cons rfl <| .cons rfl <| .cons rfl <| .cons rfl <| .nil
  · exact fun w h => h
  obtain ⟨⟨i, kk, l, at_, A1, c1, A2, c2⟩, ⟨hi, hkk, hins, hal, hau, hc1, hc2⟩⟩ := j
  dsimp only [MdH] at hi hkk hins hal hau hc1 hc2 ⊢
  have hlen := hins.len
  refine wc_seq ?_
  refine wc_seq ?_
  refine wc_region ?_
  refine wl_free .none rfl (yf_move rfl) ?_
  refine wl_free .none rfl (yf_move rfl) ?_
  refine wl_free .none rfl (yf_lss rfl rfl) ?_
  refine wl_nil ?_
  refine wq_then ?_
  refine wc_cond rfl (fun hc => ?_) (fun hc => ?_)
  · replace hc := of_decide_eq_true hc
    refine wc_skip ?_
    refine wq_then ?_
    refine wc_seq ?_
    refine wc_block ?_
    refine wc_seq ?_
    refine wc_weak (.cons (i := 2) rfl <| .cons (i := 3) rfl <| .cons (i := 4) rfl <| .cons (i := 5) rfl <| .cons (i := 6) rfl <| .cons (i := 7) rfl <| .cons (i := 26) rfl <| .nil) ?_
    refine wc_region ?_
    refine wl_free .none rfl (yf_fieldAddr (off := 0) (sz := 0) rfl Tryd.underlying28 (by kernel_rfl) rfl) ?_
    refine wl_free .none rfl (yf_loadL 0 rfl rfl rfl Tryd.underlying25 rfl) ?_
    refine wl_free .none rfl (yf_move rfl) ?_
    refine wl_free .none rfl (yf_move rfl) ?_
    (refine wl_free .none rfl (yf_mul rfl rfl (i64_in _ ?_ ?_)) ?_; (· omega); (· omega); skip)
    (refine wl_free .none rfl (yf_conv rfl (by kernel_rfl) Tryd.underlying35 (u32_in _ ?_ ?_)) ?_; (· omega); (· omega); skip)
    (refine wl_free .none rfl (yf_add rfl rfl (u32_in _ ?_ ?_)) ?_; (· omega); (· omega); skip)
    refine wl_new .none rfl (nf_bs1 (z := .int .u32 0) rfl rfl Tryd.underlying25 (by kernel_rfl) (by kernel_rfl) rfl rfl) (fun b36 => ?_)
    (refine wl_appendL (z := .int .u32 0) (bytes := 4) 0 0 .none rfl rfl rfl rfl rfl Tryd.underlying25 (by kernel_rfl) rfl rfl rfl rfl ?_ ?_ ?_ (fun a37 c37 h37 => ?_); (· omega); (· omega); (· omega); skip)
    refine wl_free .none rfl (yf_fieldAddr (off := 0) (sz := 0) rfl Tryd.underlying28 (by kernel_rfl) rfl) ?_
    refine wl_chain0 .none (cf_store 1 rfl rfl rfl rfl rfl (by kernel_rfl)) (fun _ => ?_)
    refine wl_nil ?_
    refine wq_then ?_
    refine wc_seq ?_
    refine wc_weak (.cons (i := 2) rfl <| .cons (i := 3) rfl <| .cons (i := 4) rfl <| .cons (i := 5) rfl <| .cons (i := 6) rfl <| .cons (i := 7) rfl <| .cons (i := 26) rfl <| .nil) ?_
    refine wc_region ?_
    refine wl_free .none rfl (yf_fieldAddr (off := 2) (sz := 0) rfl Tryd.underlying28 (by kernel_rfl) rfl) ?_
    refine wl_free .none rfl (yf_loadL 1 rfl rfl rfl Tryd.underlying26 rfl) ?_
    refine wl_free .none rfl (yf_move rfl) ?_
    (refine wl_free .none rfl (yf_conv rfl (by kernel_rfl) Tryd.underlying35 (u32_in _ ?_ ?_)) ?_; (· omega); (· omega); skip)
    refine wl_free .none rfl (yf_buildS [.int .i64 0, .int .i64 0, .int .i64 0, .int .i64 0, .int .u32 0] [(0, 1), (1, 1), (2, 1), (3, 1), (4, 1)] rfl (by kernel_rfl) (by kernel_rfl) rfl) ?_
    refine wl_new .none rfl (nf_bs1 (z := .agg #[.int .i64 0, .int .i64 0, .int .i64 0, .int .i64 0, .int .u32 0]) rfl rfl Tryd.underlying26 (by kernel_rfl) (by kernel_rfl) rfl rfl) (fun b44 => ?_)
    (refine wl_appendL (z := .agg #[.int .i64 0, .int .i64 0, .int .i64 0, .int .i64 0, .int .u32 0]) (bytes := 40) 1 0 .none rfl rfl rfl rfl rfl Tryd.underlying26 (by kernel_rfl) rfl rfl rfl rfl ?_ ?_ ?_ (fun a45 c45 h45 => ?_); (· omega); (· omega); (· omega); skip)
    refine wl_free .none rfl (yf_fieldAddr (off := 2) (sz := 0) rfl Tryd.underlying28 (by kernel_rfl) rfl) ?_
    refine wl_chain0 .none (cf_store 2 rfl rfl rfl rfl rfl (by kernel_rfl)) (fun _ => ?_)
    refine wl_nil ?_
    refine wq_then ?_
    refine wc_seq ?_
    refine wc_weak (.cons (i := 2) rfl <| .cons (i := 3) rfl <| .cons (i := 4) rfl <| .cons (i := 5) rfl <| .cons (i := 6) rfl <| .cons (i := 7) rfl <| .cons (i := 26) rfl <| .nil) ?_
    have hl1 : (l ++ [(⟨20, 0, 0, 0, (i : Int)⟩ : IOp)]).length = l.length + 1 := by simp
    have hl2 : (at_ ++ [x2 * 8 + 4 * (i : Int)]).length = at_.length + 1 := by simp
    refine wc_conseq (H' := MdH w b2 b6 b11 b22 A cap s ((x2 * 8).tdiv 256) ⟨i, kk, l ++ [⟨20, 0, 0, 0, i⟩], at_ ++ [x2 * 8 + 4 * i], a37, c37, a45, c45⟩) (fun u h => MdH.mk h (.cons _ (.cons _ (.refl _))) (.refl _) (by simp) (by simp) (by simp) (opsCells_snoc ..)) ?_
    dsimp only [MdH]
    refine wc_region ?_
    refine wl_free .none rfl (yf_move rfl) ?_
    refine wl_free .none rfl (yf_move rfl) ?_
    (refine wl_free .none rfl (yf_sub rfl rfl (i64_in _ ?_ ?_)) ?_; (· omega); (· omega); skip)
    refine wl_free .none rfl (yf_lss rfl rfl) ?_
    refine wl_free .none rfl (yf_move rfl) ?_
    refine wl_split 51 rfl (fun hb => ?_) (fun hb => ?_)
    · replace hb := of_decide_eq_true hb
      refine wl_pass (.some rfl rfl rfl) rfl ?_
      refine wl_pass (.some rfl rfl rfl) rfl ?_
      refine wl_pass (.some rfl rfl rfl) rfl ?_
      refine wl_free .none rfl (yf_pickT rfl rfl) ?_
      refine wl_nil ?_
      refine wq_then ?_
      refine wc_true rfl ?_
      refine wc_weak (.cons (i := 2) rfl <| .cons (i := 3) rfl <| .cons (i := 4) rfl <| .cons (i := 5) rfl <| .cons (i := 6) rfl <| .cons (i := 7) rfl <| .cons (i := 26) rfl <| .cons (i := 55) rfl <| .nil) ?_
      refine wc_drawTN 4 [0, 1, 2, 3] (Blk b6 (bk 28 [.slice a37 (at_ ++ [x2 * 8 + 4 * (i : Int)]).length c37, .slice (some ⟨b22, 0, none⟩) 1 1, .slice a45 (l ++ [(⟨20, 0, 0, 0, (i : Int)⟩ : IOp)]).length c45])) (by kernel_rfl) (by kernel_rfl) Blk.stab (fun w h => HpG.blk h (k := 0) rfl) (fun n0 hn0 => ?_)
      refine wd_at rfl ?_
      (refine wd_free ?_ .none rfl (yf_fieldAddr (off := 2) (sz := 0) rfl Tryd.underlying28 (by kernel_rfl) rfl) ?_; (· rfl);  skip)
      refine wd_at rfl ?_
      (refine wd_free ?_ .none rfl (yf_loadJ rfl rfl Tryd.underlying26 rfl) ?_; (· rfl);  skip)
      refine wd_at rfl ?_
      (refine wd_free ?_ .none rfl (yf_move rfl) ?_; (· rfl);  skip)
      refine wd_at rfl ?_
      refine wd_call1E (ι := RI) .none rfl 1 (by kernel_rfl) rfl rfl (fun w w' hw hj hk => hj.keep hk (HpG.ne hw (i := 0) (j := 1) rfl rfl rfl)) (fun w hm hw => instruction_row ((i : Int) + 1) w ⟨hm, (HpG.x hw).weak (fun j e => e ▸ HpG.old hw (k := 1) rfl), hl⟩ (by omega)) (fun r hr => ?_)
      have hr1 := hr.1
      have hr2 := hr.2.1
      refine wd_endT ?_
      simp only [List.drop_succ_cons, List.drop_zero]
      refine wl_appendS (z := .agg #[.int .i64 0, .int .i64 0, .int .i64 0, .int .i64 0, .int .u32 0]) (bytes := 40) 2 .none rfl rfl rfl rfl (fun w h => row_rd (HpG.rows h _ (List.mem_cons_self ..))) Tryd.underlying26 (by kernel_rfl) rfl rfl (opsCells_len _) (opsCells_one _) (by omega) (by omega) (by omega) (fun a60 c60 h60 => ?_)
      refine wl_free .none rfl (yf_fieldAddr (off := 2) (sz := 0) rfl Tryd.underlying28 (by kernel_rfl) rfl) ?_
      refine wl_chain0 .none (cf_store 0 rfl rfl rfl rfl rfl (by kernel_rfl)) (fun _ => ?_)
      refine wl_nil ?_
      refine wq_block ?_
      refine wq_then ?_
      refine wc_weak (.cons (i := 2) rfl <| .cons (i := 3) rfl <| .cons (i := 4) rfl <| .cons (i := 5) rfl <| .cons (i := 6) rfl <| .cons (i := 7) rfl <| .cons (i := 26) rfl <| .cons (i := 55) rfl <| .nil) ?_
      refine wc_region ?_
      refine wl_free .none rfl (yf_move rfl) ?_
      (refine wl_free .none rfl (yf_add rfl rfl (i64_in _ ?_ ?_)) ?_; (· omega); (· omega); skip)
      refine wl_free .none rfl (yf_assign rfl) ?_
      refine wl_nil ?_
      refine wq_round (ι := {j : Md // MdC x j}) ⟨⟨i + 1, r.k, l ++ [⟨20, 0, 0, 0, i⟩] ++ r.l, at_ ++ [x2 * 8 + 4 * i], a37, c37, a60, c60⟩, ⟨by show ((i + 1 : Nat) : Int) ≤ 1 + x; omega, by show r.k ≤ 2 + 210 * (i + 1); omega, hins.ins (by omega) hr1 hr.2.2, by simp [hal], mem_snoc hau ⟨by omega, by omega⟩, by simpa using h37, by simp; omega⟩⟩ ?_ ?_ (fun u h => ?_)
      · show 13 - (i + 1) < 13 - i; omega
      · exact .cons rfl <| .cons rfl <| .cons rfl <| .cons rfl <| .cons rfl <| .consE rfl rfl <| .nil
      · exact MdH.mk h (.refl _) (.cons _ (.refl _)) rfl List.length_append.symm rfl (opsCells_app ..).symm
    · replace hb := of_decide_eq_false hb
      refine wl_free (.some rfl rfl) rfl (yf_move rfl) ?_
      refine wl_turnE (.some rfl rfl) rfl 1 (by kernel_rfl) rfl rfl (fun w hm hw => take_any _ w ⟨hm, (HpG.x hw).weak (fun j e => e ▸ HpG.old hw (k := 1) rfl), hl⟩ (by decide) (by decide) (by omega)) (fun q hq => ?_)
      refine wl_free (.some rfl rfl) rfl (yf_gtr rfl rfl) ?_
      refine wl_free .none rfl (yf_pickF rfl rfl) ?_
      refine wl_nil ?_
      refine wq_then ?_
      refine wc_cond rfl (fun hc => ?_) (fun hc => ?_)
      · replace hc := of_decide_eq_true hc
        refine wc_weak (.cons (i := 2) rfl <| .cons (i := 3) rfl <| .cons (i := 4) rfl <| .cons (i := 5) rfl <| .cons (i := 6) rfl <| .cons (i := 7) rfl <| .cons (i := 26) rfl <| .cons (i := 55) rfl <| .nil) ?_
        refine wc_drawTN 4 [0, 1, 2, 3] (Blk b6 (bk 28 [.slice a37 (at_ ++ [x2 * 8 + 4 * (i : Int)]).length c37, .slice (some ⟨b22, 0, none⟩) 1 1, .slice a45 (l ++ [(⟨20, 0, 0, 0, (i : Int)⟩ : IOp)]).length c45])) (by kernel_rfl) (by kernel_rfl) Blk.stab (fun w h => HpG.blk h (k := 0) rfl) (fun n0 hn0 => ?_)
        refine wd_at rfl ?_
        (refine wd_free ?_ .none rfl (yf_fieldAddr (off := 2) (sz := 0) rfl Tryd.underlying28 (by kernel_rfl) rfl) ?_; (· rfl);  skip)
        refine wd_at rfl ?_
        (refine wd_free ?_ .none rfl (yf_loadJ rfl rfl Tryd.underlying26 rfl) ?_; (· rfl);  skip)
        refine wd_at rfl ?_
        (refine wd_free ?_ .none rfl (yf_move rfl) ?_; (· rfl);  skip)
        refine wd_at rfl ?_
        refine wd_call1E (ι := RI) .none rfl 1 (by kernel_rfl) rfl rfl (fun w w' hw hj hk => hj.keep hk (HpG.ne hw (i := 0) (j := 1) rfl rfl rfl)) (fun w hm hw => instruction_row ((i : Int) + 1) w ⟨hm, (HpG.x hw).weak (fun j e => e ▸ HpG.old hw (k := 1) rfl), hl⟩ (by omega)) (fun r hr => ?_)
        have hr1 := hr.1
        have hr2 := hr.2.1
        refine wd_endT ?_
        simp only [List.drop_succ_cons, List.drop_zero]
        refine wl_appendS (z := .agg #[.int .i64 0, .int .i64 0, .int .i64 0, .int .i64 0, .int .u32 0]) (bytes := 40) 2 .none rfl rfl rfl rfl (fun w h => row_rd (HpG.rows h _ (List.mem_cons_self ..))) Tryd.underlying26 (by kernel_rfl) rfl rfl (opsCells_len _) (opsCells_one _) (by omega) (by omega) (by omega) (fun a60 c60 h60 => ?_)
        refine wl_free .none rfl (yf_fieldAddr (off := 2) (sz := 0) rfl Tryd.underlying28 (by kernel_rfl) rfl) ?_
        refine wl_chain0 .none (cf_store 0 rfl rfl rfl rfl rfl (by kernel_rfl)) (fun _ => ?_)
        refine wl_nil ?_
        refine wq_block ?_
        refine wq_then ?_
        refine wc_weak (.cons (i := 2) rfl <| .cons (i := 3) rfl <| .cons (i := 4) rfl <| .cons (i := 5) rfl <| .cons (i := 6) rfl <| .cons (i := 7) rfl <| .cons (i := 26) rfl <| .cons (i := 55) rfl <| .nil) ?_
        refine wc_region ?_
        refine wl_free .none rfl (yf_move rfl) ?_
        (refine wl_free .none rfl (yf_add rfl rfl (i64_in _ ?_ ?_)) ?_; (· omega); (· omega); skip)
        refine wl_free .none rfl (yf_assign rfl) ?_
        refine wl_nil ?_
        refine wq_round (ι := {j : Md // MdC x j}) ⟨⟨i + 1, r.k, l ++ [⟨20, 0, 0, 0, i⟩] ++ r.l, at_ ++ [x2 * 8 + 4 * i], a37, c37, a60, c60⟩, ⟨by show ((i + 1 : Nat) : Int) ≤ 1 + x; omega, by show r.k ≤ 2 + 210 * (i + 1); omega, hins.ins (by omega) hr1 hr.2.2, by simp [hal], mem_snoc hau ⟨by omega, by omega⟩, by simpa using h37, by simp; omega⟩⟩ ?_ ?_ (fun u h => ?_)
        · show 13 - (i + 1) < 13 - i; omega
        · exact .cons rfl <| .cons rfl <| .cons rfl <| .cons rfl <| .cons rfl <| .consE rfl rfl <| .nil
        · exact MdH.mk h (.refl _) (.cons _ (.refl _)) rfl List.length_append.symm rfl (opsCells_app ..).symm
      · replace hc := of_decide_eq_false hc
        refine wc_skip ?_
        refine wq_block ?_
        refine wq_then ?_
        refine wc_weak (.cons (i := 2) rfl <| .cons (i := 3) rfl <| .cons (i := 4) rfl <| .cons (i := 5) rfl <| .cons (i := 6) rfl <| .cons (i := 7) rfl <| .cons (i := 26) rfl <| .cons (i := 55) rfl <| .nil) ?_
        refine wc_region ?_
        refine wl_free .none rfl (yf_move rfl) ?_
        (refine wl_free .none rfl (yf_add rfl rfl (i64_in _ ?_ ?_)) ?_; (· omega); (· omega); skip)
        refine wl_free .none rfl (yf_assign rfl) ?_
        refine wl_nil ?_
        refine wq_round (ι := {j : Md // MdC x j}) ⟨⟨i + 1, kk + 1, l ++ [⟨20, 0, 0, 0, i⟩], at_ ++ [x2 * 8 + 4 * i], a37, c37, a45, c45⟩, ⟨by show ((i + 1 : Nat) : Int) ≤ 1 + x; omega, by show kk + 1 ≤ 2 + 210 * (i + 1); omega, (hins.mark (by omega)).1, by simp [hal], mem_snoc hau ⟨by omega, by omega⟩, by simpa using h37, by simp; omega⟩⟩ ?_ ?_ (fun u h => ?_)
        · show 13 - (i + 1) < 13 - i; omega
        · exact .cons rfl <| .cons rfl <| .cons rfl <| .cons rfl <| .cons rfl <| .consE rfl rfl <| .nil
        · exact h
  · replace hc := of_decide_eq_false hc
    refine wc_exit ?_
    refine wq_then_exit ?_
    refine wq_then_exit ?_
    refine wq_here ?_
    refine wq_then ?_
    refine wc_seq ?_
    refine wc_weak (.cons (i := 2) rfl <| .cons (i := 3) rfl <| .cons (i := 4) rfl <| .cons (i := 5) rfl <| .cons (i := 6) rfl <| .cons (i := 7) rfl <| .cons (i := 26) rfl <| .nil) ?_
    have hin : (1 + x : Int) = i := by omega
    refine wc_region ?_
    refine wl_free .none rfl (yf_move rfl) ?_
    refine wl_turnE .none rfl 1 (by kernel_rfl) rfl rfl (fun w hm hw => take_any _ w ⟨hm, (HpG.x hw).weak (fun j e => e ▸ HpG.old hw (k := 1) rfl), hl⟩ (by decide) (by decide) (by omega)) (fun q2 hq2 => ?_)
    (refine wl_free .none rfl (yf_conv rfl (by kernel_rfl) Tryd.underlying35 (u32_in _ ?_ ?_)) ?_; (· omega); (· omega); skip)
    (refine wl_free .none rfl (yf_mul rfl rfl (u32_in _ ?_ ?_)) ?_; (· omega); (· omega); skip)
    refine wl_free .none rfl (yf_assign rfl) ?_
    refine wl_nil ?_
    refine wq_then ?_
    refine wc_seq ?_
    refine wc_seq ?_
    refine wc_weak (.cons (i := 2) rfl <| .cons (i := 3) rfl <| .cons (i := 4) rfl <| .cons (i := 5) rfl <| .cons (i := 6) rfl <| .cons (i := 7) rfl <| .cons (i := 8) rfl <| .cons (i := 26) rfl <| .nil) ?_
    refine wc_region ?_
    refine wl_free .none rfl (yf_move rfl) ?_
    refine wl_turnE .none rfl 1 (by kernel_rfl) rfl rfl (fun w hm hw => take_any _ w ⟨hm, (HpG.x hw).weak (fun j e => e ▸ HpG.old hw (k := 1) rfl), hl⟩ (by decide) (by decide) (by omega)) (fun y hy => ?_)
    refine wl_nil ?_
    refine wq_then ?_
    refine wc_block ?_
    refine wc_seq ?_
    refine wc_weak (.cons (i := 2) rfl <| .cons (i := 3) rfl <| .cons (i := 4) rfl <| .cons (i := 5) rfl <| .cons (i := 6) rfl <| .cons (i := 7) rfl <| .cons (i := 8) rfl <| .cons (i := 26) rfl <| .cons (i := 67) rfl <| .nil) ?_
    refine wc_region ?_
    refine wl_free .none rfl (yf_eql rfl rfl) ?_
    refine wl_free .none rfl (yf_assign rfl) ?_
    refine wl_nil ?_
    refine wq_then ?_
    refine wc_cond rfl (fun hc => ?_) (fun hc => ?_)
    · replace hc := eq_of_beq hc
      refine wc_seq ?_
      refine wc_weak (.cons (i := 2) rfl <| .cons (i := 3) rfl <| .cons (i := 4) rfl <| .cons (i := 5) rfl <| .cons (i := 6) rfl <| .cons (i := 7) rfl <| .cons (i := 8) rfl <| .cons (i := 26) rfl <| .cons (i := 67) rfl <| .cons (i := 75) rfl <| .nil) ?_
      refine wc_region ?_
      refine wl_free .none rfl (yf_fieldAddr (off := 2) (sz := 0) rfl Tryd.underlying28 (by kernel_rfl) rfl) ?_
      refine wl_free .none rfl (yf_loadL 0 rfl rfl rfl Tryd.underlying26 rfl) ?_
      refine wl_free .none rfl (yf_move rfl) ?_
      (refine wl_free .none rfl (yf_conv rfl (by kernel_rfl) Tryd.underlying35 (u32_in _ ?_ ?_)) ?_; (· omega); (· omega); skip)
      refine wl_free .none rfl (yf_buildS [.int .i64 0, .int .i64 0, .int .i64 0, .int .i64 0, .int .u32 0] [(0, 1), (1, 1), (2, 1), (3, 1), (4, 1)] rfl (by kernel_rfl) (by kernel_rfl) rfl) ?_
      refine wl_free .none rfl (yf_buildS [.int .i64 0, .int .i64 0, .int .i64 0, .int .i64 0, .int .u32 0] [(0, 1), (1, 1), (2, 1), (3, 1), (4, 1)] rfl (by kernel_rfl) (by kernel_rfl) rfl) ?_
      refine wl_new .none rfl (nf_bs2 (z := .agg #[.int .i64 0, .int .i64 0, .int .i64 0, .int .i64 0, .int .u32 0]) rfl rfl rfl rfl Tryd.underlying26 (by kernel_rfl) (by kernel_rfl) rfl rfl rfl) (fun b83 => ?_)
      (refine wl_appendL (z := .agg #[.int .i64 0, .int .i64 0, .int .i64 0, .int .i64 0, .int .u32 0]) (bytes := 40) 1 0 .none rfl rfl rfl rfl rfl Tryd.underlying26 (by kernel_rfl) rfl rfl rfl rfl ?_ ?_ ?_ (fun a84 c84 h84 => ?_); (· omega); (· omega); (· omega); skip)
      refine wl_free .none rfl (yf_fieldAddr (off := 2) (sz := 0) rfl Tryd.underlying28 (by kernel_rfl) rfl) ?_
      refine wl_chain0 .none (cf_store 1 rfl rfl rfl rfl rfl (by kernel_rfl)) (fun _ => ?_)
      refine wl_nil ?_
      refine wq_then ?_
      refine wc_weak (.cons (i := 2) rfl <| .cons (i := 3) rfl <| .cons (i := 4) rfl <| .cons (i := 5) rfl <| .cons (i := 6) rfl <| .cons (i := 7) rfl <| .cons (i := 8) rfl <| .cons (i := 26) rfl <| .cons (i := 67) rfl <| .cons (i := 75) rfl <| .nil) ?_
      refine wc_region ?_
      refine wl_free .none rfl (yf_fieldAddr (off := 0) (sz := 0) rfl Tryd.underlying28 (by kernel_rfl) rfl) ?_
      refine wl_free .none rfl (yf_loadL 1 rfl rfl rfl Tryd.underlying25 rfl) ?_
      refine wl_free .none rfl (yf_move rfl) ?_
      refine wl_free .none rfl (yf_move rfl) ?_
      (refine wl_free .none rfl (yf_mul rfl rfl (i64_in _ ?_ ?_)) ?_; (· omega); (· omega); skip)
      (refine wl_free .none rfl (yf_conv rfl (by kernel_rfl) Tryd.underlying35 (u32_in _ ?_ ?_)) ?_; (· omega); (· omega); skip)
      (refine wl_free .none rfl (yf_add rfl rfl (u32_in _ ?_ ?_)) ?_; (· omega); (· omega); skip)
      refine wl_new .none rfl (nf_bs1 (z := .int .u32 0) rfl rfl Tryd.underlying25 (by kernel_rfl) (by kernel_rfl) rfl rfl) (fun b93 => ?_)
      (refine wl_appendL (z := .int .u32 0) (bytes := 4) 0 0 .none rfl rfl rfl rfl rfl Tryd.underlying25 (by kernel_rfl) rfl rfl rfl rfl ?_ ?_ ?_ (fun a94 c94 h94 => ?_); (· omega); (· omega); (· omega); skip)
      refine wl_free .none rfl (yf_fieldAddr (off := 0) (sz := 0) rfl Tryd.underlying28 (by kernel_rfl) rfl) ?_
      refine wl_chain0 .none (cf_store 2 rfl rfl rfl rfl rfl (by kernel_rfl)) (fun _ => ?_)
      refine wl_nil ?_
      refine wq_block ?_
      refine wq_then ?_
      refine wc_seq ?_
      refine wc_weak (.cons (i := 2) rfl <| .cons (i := 3) rfl <| .cons (i := 4) rfl <| .cons (i := 5) rfl <| .cons (i := 6) rfl <| .cons (i := 7) rfl <| .cons (i := 8) rfl <| .cons (i := 26) rfl <| .cons (i := 67) rfl <| .cons (i := 75) rfl <| .nil) ?_
      refine wc_region ?_
      refine wl_free .none rfl (yf_loadAllL 2 rfl rfl Tryd.underlying28 rfl (by kernel_rfl)) ?_
      refine wl_chain0 .none (cf_storeRow 4 rfl rfl rfl rfl rfl (by kernel_rfl)) (fun _ => ?_)
      refine wl_nil ?_
      refine wq_then ?_
      refine wc_ret ?_
      refine wq_retC rfl rfl 4 rfl Tryd.underlying28 rfl (by kernel_rfl) (fun w hw => ?_)
      exact made_end hw (at_ ++ [x2 * 8 + 4 * (1 + x)]) (l ++ [⟨20, 0, 0, 0, i⟩, ⟨22, 0, 0, 0, 0⟩]) (.refl _) rfl (by simp) (by simp) (by simp) (by rw [hin]; exact opsCells_snoc2 ..) (mem_snoc hau ⟨by omega, by omega⟩) (mem_snoc2 hins.un (show U32 (i : Int) from ⟨by omega, by omega⟩) u32_0) (by simp; omega) (by simp; omega) (by simp; omega) (by simp; omega) (made_slow hins (by omega) (by omega) hpg hal)
    · replace hc := beq_no hc
      refine wc_seq ?_
      refine wc_weak (.cons (i := 2) rfl <| .cons (i := 3) rfl <| .cons (i := 4) rfl <| .cons (i := 5) rfl <| .cons (i := 6) rfl <| .cons (i := 7) rfl <| .cons (i := 8) rfl <| .cons (i := 26) rfl <| .cons (i := 67) rfl <| .cons (i := 75) rfl <| .nil) ?_
      refine wc_region ?_
      refine wl_free .none rfl (yf_eql rfl rfl) ?_
      refine wl_free .none rfl (yf_assign rfl) ?_
      refine wl_nil ?_
      refine wq_then ?_
      refine wc_cond rfl (fun hc => ?_) (fun hc => ?_)
      · replace hc := eq_of_beq hc
        refine wc_weak (.cons (i := 2) rfl <| .cons (i := 3) rfl <| .cons (i := 4) rfl <| .cons (i := 5) rfl <| .cons (i := 6) rfl <| .cons (i := 7) rfl <| .cons (i := 8) rfl <| .cons (i := 26) rfl <| .cons (i := 67) rfl <| .cons (i := 75) rfl <| .cons (i := 96) rfl <| .nil) ?_
        refine wc_drawTN 6 [0, 1, 2, 3, 4, 5] (Blk b6 (bk 28 [.slice A1 at_.length c1, .slice (some ⟨b22, 0, none⟩) 1 1, .slice A2 l.length c2])) (by kernel_rfl) (by kernel_rfl) Blk.stab (fun w h => HpG.blk h (k := 0) rfl) (fun n0 hn0 => ?_)
        refine wd_at rfl ?_
        (refine wd_free ?_ .none rfl (yf_fieldAddr (off := 2) (sz := 0) rfl Tryd.underlying28 (by kernel_rfl) rfl) ?_; (· rfl);  skip)
        refine wd_at rfl ?_
        (refine wd_free ?_ .none rfl (yf_loadJ rfl rfl Tryd.underlying26 rfl) ?_; (· rfl);  skip)
        refine wd_at rfl ?_
        (refine wd_free ?_ .none rfl (yf_move rfl) ?_; (· rfl);  skip)
        refine wd_at rfl ?_
        refine wd_turnE .none rfl 1 (by kernel_rfl) rfl rfl (fun w w' hw hj hk => hj.keep hk (HpG.ne hw (i := 0) (j := 1) rfl rfl rfl)) (fun w hm hw => take_any _ w ⟨hm, (HpG.x hw).weak (fun j e => e ▸ HpG.old hw (k := 1) rfl), hl⟩ (by decide) (by decide) (by omega)) (fun a ha => ?_)
        refine wd_at rfl ?_
        (refine wd_free ?_ .none rfl (yf_buildS [.int .i64 0, .int .i64 0, .int .i64 0, .int .i64 0, .int .u32 0] [(0, 1), (1, 1), (2, 1), (3, 1), (4, 1)] rfl (by kernel_rfl) (by kernel_rfl) rfl) ?_; (· rfl);  skip)
        refine wd_at rfl ?_
        refine wd_newH ?_ .none rfl (fun k hk => Nat.lt_of_lt_of_le hk hn0) (nf_bs1 (z := .agg #[.int .i64 0, .int .i64 0, .int .i64 0, .int .i64 0, .int .u32 0]) rfl rfl Tryd.underlying26 (by kernel_rfl) (by kernel_rfl) rfl rfl) (fun b103 hb103 => ?_)
        · rfl
        refine wd_endTH ?_
        simp only [List.drop_succ_cons, List.drop_zero]
        (refine wl_appendL (z := .agg #[.int .i64 0, .int .i64 0, .int .i64 0, .int .i64 0, .int .u32 0]) (bytes := 40) 1 0 .none rfl rfl rfl rfl rfl Tryd.underlying26 (by kernel_rfl) rfl rfl rfl rfl ?_ ?_ ?_ (fun a104 c104 h104 => ?_); (· omega); (· omega); (· omega); skip)
        refine wl_free .none rfl (yf_fieldAddr (off := 2) (sz := 0) rfl Tryd.underlying28 (by kernel_rfl) rfl) ?_
        refine wl_chain0 .none (cf_store 1 rfl rfl rfl rfl rfl (by kernel_rfl)) (fun _ => ?_)
        refine wl_nil ?_
        refine wq_block ?_
        refine wq_then ?_
        refine wc_seq ?_
        refine wc_weak (.cons (i := 2) rfl <| .cons (i := 3) rfl <| .cons (i := 4) rfl <| .cons (i := 5) rfl <| .cons (i := 6) rfl <| .cons (i := 7) rfl <| .cons (i := 8) rfl <| .cons (i := 26) rfl <| .cons (i := 67) rfl <| .cons (i := 75) rfl <| .cons (i := 96) rfl <| .nil) ?_
        refine wc_region ?_
        refine wl_free .none rfl (yf_loadAllL 1 rfl rfl Tryd.underlying28 rfl (by kernel_rfl)) ?_
        refine wl_chain0 .none (cf_storeRow 3 rfl rfl rfl rfl rfl (by kernel_rfl)) (fun _ => ?_)
        refine wl_nil ?_
        refine wq_then ?_
        refine wc_ret ?_
        refine wq_retC rfl rfl 3 rfl Tryd.underlying28 rfl (by kernel_rfl) (fun w hw => ?_)
        exact made_end hw at_ (l ++ [⟨25, 0, a, 0, 0⟩]) (.refl _) rfl rfl (by simp) rfl (opsCells_snoc ..) hau (mem_snoc hins.un u32_0) (by omega) (by simp; omega) (by omega) (by simp; omega) (made_var hins (by omega) (by omega) hpg hal ha)
      · replace hc := beq_no hc
        refine wc_seq ?_
        refine wc_seq ?_
        refine wc_weak (.cons (i := 2) rfl <| .cons (i := 3) rfl <| .cons (i := 4) rfl <| .cons (i := 5) rfl <| .cons (i := 6) rfl <| .cons (i := 7) rfl <| .cons (i := 8) rfl <| .cons (i := 26) rfl <| .cons (i := 67) rfl <| .cons (i := 75) rfl <| .cons (i := 96) rfl <| .nil) ?_
        refine wc_region ?_
        refine wl_free .none rfl (yf_eql rfl rfl) ?_
        refine wl_free .none rfl (yf_assign rfl) ?_
        refine wl_nil ?_
        refine wq_then ?_
        refine wc_cond rfl (fun hc => ?_) (fun hc => ?_)
        · replace hc := eq_of_beq hc
          first
            | (omega)
            | (
              refine wc_skip ?_
              refine wq_then ?_
              refine wc_cond rfl (fun hc => ?_) (fun hc => ?_)
              · replace hc := eq_of_beq hc
                first
                  | (omega)
                  | (
                    refine wc_weak (.cons (i := 2) rfl <| .cons (i := 3) rfl <| .cons (i := 4) rfl <| .cons (i := 5) rfl <| .cons (i := 6) rfl <| .cons (i := 7) rfl <| .cons (i := 8) rfl <| .cons (i := 26) rfl <| .cons (i := 67) rfl <| .cons (i := 75) rfl <| .cons (i := 96) rfl <| .cons (i := 106) rfl <| .nil) ?_
                    refine wc_drawTN 13 [0, 1, 2, 3, 4, 5, 6, 7, 8, 9, 10, 11, 12] (Blk b6 (bk 28 [.slice A1 at_.length c1, .slice (some ⟨b22, 0, none⟩) 1 1, .slice A2 l.length c2])) (by kernel_rfl) (by kernel_rfl) Blk.stab (fun w h => HpG.blk h (k := 0) rfl) (fun n0 hn0 => ?_)
                    refine wd_at rfl ?_
                    (refine wd_free ?_ .none rfl (yf_fieldAddr (off := 2) (sz := 0) rfl Tryd.underlying28 (by kernel_rfl) rfl) ?_; (· rfl);  skip)
                    refine wd_at rfl ?_
                    (refine wd_free ?_ .none rfl (yf_loadJ rfl rfl Tryd.underlying26 rfl) ?_; (· rfl);  skip)
                    refine wd_at rfl ?_
                    (refine wd_free ?_ .none rfl (yf_move rfl) ?_; (· rfl);  skip)
                    refine wd_at rfl ?_
                    refine wd_turnE .none rfl 1 (by kernel_rfl) rfl rfl (fun w w' hw hj hk => hj.keep hk (HpG.ne hw (i := 0) (j := 1) rfl rfl rfl)) (fun w hm hw => take_any _ w ⟨hm, (HpG.x hw).weak (fun j e => e ▸ HpG.old hw (k := 1) rfl), hl⟩ (by decide) (by decide) (by omega)) (fun a ha => ?_)
                    refine wd_at rfl ?_
                    (refine wd_free ?_ .none rfl (yf_move rfl) ?_; (· rfl);  skip)
                    refine wd_at rfl ?_
                    (refine wd_free ?_ .none rfl (yf_buildS [.int .i64 0, .int .i64 0, .int .i64 0, .int .i64 0, .int .u32 0] [(0, 1), (1, 1), (2, 1), (3, 1), (4, 1)] rfl (by kernel_rfl) (by kernel_rfl) rfl) ?_; (· rfl);  skip)
                    refine wd_at rfl ?_
                    (refine wd_free ?_ .none rfl (yf_move rfl) ?_; (· rfl);  skip)
                    refine wd_at rfl ?_
                    (refine wd_free ?_ .none rfl (yf_move rfl) ?_; (· rfl);  skip)
                    refine wd_at rfl ?_
                    (refine wd_free ?_ .none rfl (yf_mul rfl rfl (i64_in _ ?_ ?_)) ?_; (· rfl); (· omega); (· omega); skip)
                    refine wd_at rfl ?_
                    (refine wd_free ?_ .none rfl (yf_conv rfl (by kernel_rfl) Tryd.underlying35 (u32_in _ ?_ ?_)) ?_; (· rfl); (· omega); (· omega); skip)
                    refine wd_at rfl ?_
                    (refine wd_free ?_ .none rfl (yf_add rfl rfl (u32_in _ ?_ ?_)) ?_; (· rfl); (· omega); (· omega); skip)
                    refine wd_at rfl ?_
                    (refine wd_free ?_ .none rfl (yf_buildS [.int .i64 0, .int .i64 0, .int .i64 0, .int .i64 0, .int .u32 0] [(0, 1), (1, 1), (2, 1), (3, 1), (4, 1)] rfl (by kernel_rfl) (by kernel_rfl) rfl) ?_; (· rfl);  skip)
                    refine wd_at rfl ?_
                    refine wd_newH ?_ .none rfl (fun k hk => Nat.lt_of_lt_of_le hk hn0) (nf_bs2 (z := .agg #[.int .i64 0, .int .i64 0, .int .i64 0, .int .i64 0, .int .u32 0]) rfl rfl rfl rfl Tryd.underlying26 (by kernel_rfl) (by kernel_rfl) rfl rfl rfl) (fun b121 hb121 => ?_)
                    · rfl
                    refine wd_endTH ?_
                    simp only [List.drop_succ_cons, List.drop_zero]
                    (refine wl_appendL (z := .agg #[.int .i64 0, .int .i64 0, .int .i64 0, .int .i64 0, .int .u32 0]) (bytes := 40) 1 0 .none rfl rfl rfl rfl rfl Tryd.underlying26 (by kernel_rfl) rfl rfl rfl rfl ?_ ?_ ?_ (fun a122 c122 h122 => ?_); (· omega); (· omega); (· omega); skip)
                    refine wl_free .none rfl (yf_fieldAddr (off := 2) (sz := 0) rfl Tryd.underlying28 (by kernel_rfl) rfl) ?_
                    refine wl_chain0 .none (cf_store 1 rfl rfl rfl rfl rfl (by kernel_rfl)) (fun _ => ?_)
                    refine wl_nil ?_
                    refine wq_block ?_
                    refine wq_then ?_
                    refine wc_seq ?_
                    refine wc_weak (.cons (i := 2) rfl <| .cons (i := 3) rfl <| .cons (i := 4) rfl <| .cons (i := 5) rfl <| .cons (i := 6) rfl <| .cons (i := 7) rfl <| .cons (i := 8) rfl <| .cons (i := 26) rfl <| .cons (i := 67) rfl <| .cons (i := 75) rfl <| .cons (i := 96) rfl <| .cons (i := 106) rfl <| .nil) ?_
                    refine wc_region ?_
                    refine wl_free .none rfl (yf_loadAllL 1 rfl rfl Tryd.underlying28 rfl (by kernel_rfl)) ?_
                    refine wl_chain0 .none (cf_storeRow 3 rfl rfl rfl rfl rfl (by kernel_rfl)) (fun _ => ?_)
                    refine wl_nil ?_
                    refine wq_then ?_
                    refine wc_ret ?_
                    refine wq_retC rfl rfl 3 rfl Tryd.underlying28 rfl (by kernel_rfl) (fun w hw => ?_)
                    exact made_end hw at_ (l ++ [⟨23, 0, a, 0, q2 * 4⟩, ⟨24, 0, 0, 0, x2 * 8 + 4 * (1 + x)⟩]) (.refl _) rfl rfl (by simp) rfl (opsCells_snoc2 ..) hau (mem_snoc2 hins.un (show U32 (q2 * 4) from ⟨by omega, by omega⟩) (show U32 (x2 * 8 + 4 * (1 + x)) from ⟨by omega, by omega⟩)) (by omega) (by simp; omega) (by omega) (by simp; omega) (made_if hins (by omega) (by omega) hpg hal ha))
              · replace hc := beq_no hc
                first
                  | (omega)
                  | (
                    refine wc_weak (.cons (i := 2) rfl <| .cons (i := 3) rfl <| .cons (i := 4) rfl <| .cons (i := 5) rfl <| .cons (i := 6) rfl <| .cons (i := 7) rfl <| .cons (i := 8) rfl <| .cons (i := 26) rfl <| .cons (i := 67) rfl <| .cons (i := 75) rfl <| .cons (i := 96) rfl <| .cons (i := 106) rfl <| .nil) ?_
                    refine wc_region ?_
                    refine wl_free .none rfl (yf_fieldAddr (off := 2) (sz := 0) rfl Tryd.underlying28 (by kernel_rfl) rfl) ?_
                    first | refine wl_free .none rfl (yf_loadL 0 rfl rfl rfl Tryd.underlying26 rfl) ?_ | refine wl_free .none rfl (yf_loadL 1 rfl rfl rfl Tryd.underlying26 rfl) ?_ | refine wl_free .none rfl (yf_loadL 2 rfl rfl rfl Tryd.underlying26 rfl) ?_ | refine wl_free .none rfl (yf_loadL 3 rfl rfl rfl Tryd.underlying26 rfl) ?_ | refine wl_free .none rfl (yf_loadL 4 rfl rfl rfl Tryd.underlying26 rfl) ?_ | refine wl_free .none rfl (yf_loadL 5 rfl rfl rfl Tryd.underlying26 rfl) ?_
                    refine wl_free .none rfl (yf_move rfl) ?_
                    refine wl_free .none rfl (yf_buildS [.int .i64 0, .int .i64 0, .int .i64 0, .int .i64 0, .int .u32 0] [(0, 1), (1, 1), (2, 1), (3, 1), (4, 1)] rfl (by kernel_rfl) (by kernel_rfl) rfl) ?_
                    refine wl_new .none rfl (nf_bs1 (z := .agg #[.int .i64 0, .int .i64 0, .int .i64 0, .int .i64 0, .int .u32 0]) rfl rfl Tryd.underlying26 (by kernel_rfl) (by kernel_rfl) rfl rfl) (fun b72 => ?_)
                    first | (refine wl_appendL (z := .agg #[.int .i64 0, .int .i64 0, .int .i64 0, .int .i64 0, .int .u32 0]) (bytes := 40) 0 0 .none rfl rfl rfl rfl rfl Tryd.underlying26 (by kernel_rfl) rfl rfl rfl rfl ?_ ?_ ?_ (fun a73 c73 h73 => ?_); (· omega); (· omega); (· omega); skip) | (refine wl_appendL (z := .agg #[.int .i64 0, .int .i64 0, .int .i64 0, .int .i64 0, .int .u32 0]) (bytes := 40) 1 0 .none rfl rfl rfl rfl rfl Tryd.underlying26 (by kernel_rfl) rfl rfl rfl rfl ?_ ?_ ?_ (fun a73 c73 h73 => ?_); (· omega); (· omega); (· omega); skip) | (refine wl_appendL (z := .agg #[.int .i64 0, .int .i64 0, .int .i64 0, .int .i64 0, .int .u32 0]) (bytes := 40) 2 0 .none rfl rfl rfl rfl rfl Tryd.underlying26 (by kernel_rfl) rfl rfl rfl rfl ?_ ?_ ?_ (fun a73 c73 h73 => ?_); (· omega); (· omega); (· omega); skip) | (refine wl_appendL (z := .agg #[.int .i64 0, .int .i64 0, .int .i64 0, .int .i64 0, .int .u32 0]) (bytes := 40) 0 1 .none rfl rfl rfl rfl rfl Tryd.underlying26 (by kernel_rfl) rfl rfl rfl rfl ?_ ?_ ?_ (fun a73 c73 h73 => ?_); (· omega); (· omega); (· omega); skip) | (refine wl_appendL (z := .agg #[.int .i64 0, .int .i64 0, .int .i64 0, .int .i64 0, .int .u32 0]) (bytes := 40) 1 1 .none rfl rfl rfl rfl rfl Tryd.underlying26 (by kernel_rfl) rfl rfl rfl rfl ?_ ?_ ?_ (fun a73 c73 h73 => ?_); (· omega); (· omega); (· omega); skip) | (refine wl_appendL (z := .agg #[.int .i64 0, .int .i64 0, .int .i64 0, .int .i64 0, .int .u32 0]) (bytes := 40) 2 1 .none rfl rfl rfl rfl rfl Tryd.underlying26 (by kernel_rfl) rfl rfl rfl rfl ?_ ?_ ?_ (fun a73 c73 h73 => ?_); (· omega); (· omega); (· omega); skip) | (refine wl_appendL (z := .agg #[.int .i64 0, .int .i64 0, .int .i64 0, .int .i64 0, .int .u32 0]) (bytes := 40) 0 2 .none rfl rfl rfl rfl rfl Tryd.underlying26 (by kernel_rfl) rfl rfl rfl rfl ?_ ?_ ?_ (fun a73 c73 h73 => ?_); (· omega); (· omega); (· omega); skip) | (refine wl_appendL (z := .agg #[.int .i64 0, .int .i64 0, .int .i64 0, .int .i64 0, .int .u32 0]) (bytes := 40) 1 2 .none rfl rfl rfl rfl rfl Tryd.underlying26 (by kernel_rfl) rfl rfl rfl rfl ?_ ?_ ?_ (fun a73 c73 h73 => ?_); (· omega); (· omega); (· omega); skip) | (refine wl_appendL (z := .agg #[.int .i64 0, .int .i64 0, .int .i64 0, .int .i64 0, .int .u32 0]) (bytes := 40) 2 2 .none rfl rfl rfl rfl rfl Tryd.underlying26 (by kernel_rfl) rfl rfl rfl rfl ?_ ?_ ?_ (fun a73 c73 h73 => ?_); (· omega); (· omega); (· omega); skip)
                    refine wl_free .none rfl (yf_fieldAddr (off := 2) (sz := 0) rfl Tryd.underlying28 (by kernel_rfl) rfl) ?_
                    first | refine wl_chain0 .none (cf_store 0 rfl rfl rfl rfl rfl (by kernel_rfl)) (fun _ => ?_) | refine wl_chain0 .none (cf_store 1 rfl rfl rfl rfl rfl (by kernel_rfl)) (fun _ => ?_) | refine wl_chain0 .none (cf_store 2 rfl rfl rfl rfl rfl (by kernel_rfl)) (fun _ => ?_) | refine wl_chain0 .none (cf_store 3 rfl rfl rfl rfl rfl (by kernel_rfl)) (fun _ => ?_) | refine wl_chain0 .none (cf_store 4 rfl rfl rfl rfl rfl (by kernel_rfl)) (fun _ => ?_) | refine wl_chain0 .none (cf_store 5 rfl rfl rfl rfl rfl (by kernel_rfl)) (fun _ => ?_)
                    refine wl_nil ?_
                    refine wq_block ?_
                    refine wq_then ?_
                    refine wc_seq ?_
                    refine wc_weak (.cons (i := 2) rfl <| .cons (i := 3) rfl <| .cons (i := 4) rfl <| .cons (i := 5) rfl <| .cons (i := 6) rfl <| .cons (i := 7) rfl <| .cons (i := 8) rfl <| .cons (i := 26) rfl <| .cons (i := 67) rfl <| .cons (i := 75) rfl <| .cons (i := 96) rfl <| .cons (i := 106) rfl <| .nil) ?_
                    refine wc_region ?_
                    first | refine wl_free .none rfl (yf_loadAllL 0 rfl rfl Tryd.underlying28 rfl (by kernel_rfl)) ?_ | refine wl_free .none rfl (yf_loadAllL 1 rfl rfl Tryd.underlying28 rfl (by kernel_rfl)) ?_ | refine wl_free .none rfl (yf_loadAllL 2 rfl rfl Tryd.underlying28 rfl (by kernel_rfl)) ?_ | refine wl_free .none rfl (yf_loadAllL 3 rfl rfl Tryd.underlying28 rfl (by kernel_rfl)) ?_ | refine wl_free .none rfl (yf_loadAllL 4 rfl rfl Tryd.underlying28 rfl (by kernel_rfl)) ?_ | refine wl_free .none rfl (yf_loadAllL 5 rfl rfl Tryd.underlying28 rfl (by kernel_rfl)) ?_
                    first | refine wl_chain0 .none (cf_storeRow 0 rfl rfl rfl rfl rfl (by kernel_rfl)) (fun _ => ?_) | refine wl_chain0 .none (cf_storeRow 1 rfl rfl rfl rfl rfl (by kernel_rfl)) (fun _ => ?_) | refine wl_chain0 .none (cf_storeRow 2 rfl rfl rfl rfl rfl (by kernel_rfl)) (fun _ => ?_) | refine wl_chain0 .none (cf_storeRow 3 rfl rfl rfl rfl rfl (by kernel_rfl)) (fun _ => ?_) | refine wl_chain0 .none (cf_storeRow 4 rfl rfl rfl rfl rfl (by kernel_rfl)) (fun _ => ?_) | refine wl_chain0 .none (cf_storeRow 5 rfl rfl rfl rfl rfl (by kernel_rfl)) (fun _ => ?_)
                    refine wl_nil ?_
                    refine wq_then ?_
                    refine wc_ret ?_
                    first | refine wq_retC rfl rfl 0 rfl Tryd.underlying28 rfl (by kernel_rfl) (fun w hw => ?_) | refine wq_retC rfl rfl 1 rfl Tryd.underlying28 rfl (by kernel_rfl) (fun w hw => ?_) | refine wq_retC rfl rfl 2 rfl Tryd.underlying28 rfl (by kernel_rfl) (fun w hw => ?_) | refine wq_retC rfl rfl 3 rfl Tryd.underlying28 rfl (by kernel_rfl) (fun w hw => ?_) | refine wq_retC rfl rfl 4 rfl Tryd.underlying28 rfl (by kernel_rfl) (fun w hw => ?_) | refine wq_retC rfl rfl 5 rfl Tryd.underlying28 rfl (by kernel_rfl) (fun w hw => ?_) | refine wq_retC rfl rfl 6 rfl Tryd.underlying28 rfl (by kernel_rfl) (fun w hw => ?_)
                    skip))
        · replace hc := beq_no hc
          first
            | (omega)
            | (
              refine wc_weak (.cons (i := 2) rfl <| .cons (i := 3) rfl <| .cons (i := 4) rfl <| .cons (i := 5) rfl <| .cons (i := 6) rfl <| .cons (i := 7) rfl <| .cons (i := 8) rfl <| .cons (i := 26) rfl <| .cons (i := 67) rfl <| .cons (i := 75) rfl <| .cons (i := 96) rfl <| .cons (i := 106) rfl <| .nil) ?_
              refine wc_region ?_
              refine wl_free .none rfl (yf_eql rfl rfl) ?_
              refine wl_free .none rfl (yf_assign rfl) ?_
              refine wl_nil ?_
              refine wq_then ?_
              refine wc_cond rfl (fun hc => ?_) (fun hc => ?_)
              · replace hc := eq_of_beq hc
                first
                  | (omega)
                  | (
                    refine wc_weak (.cons (i := 2) rfl <| .cons (i := 3) rfl <| .cons (i := 4) rfl <| .cons (i := 5) rfl <| .cons (i := 6) rfl <| .cons (i := 7) rfl <| .cons (i := 8) rfl <| .cons (i := 26) rfl <| .cons (i := 67) rfl <| .cons (i := 75) rfl <| .cons (i := 96) rfl <| .cons (i := 106) rfl <| .nil) ?_
                    refine wc_drawTN 13 [0, 1, 2, 3, 4, 5, 6, 7, 8, 9, 10, 11, 12] (Blk b6 (bk 28 [.slice A1 at_.length c1, .slice (some ⟨b22, 0, none⟩) 1 1, .slice A2 l.length c2])) (by kernel_rfl) (by kernel_rfl) Blk.stab (fun w h => HpG.blk h (k := 0) rfl) (fun n0 hn0 => ?_)
                    refine wd_at rfl ?_
                    (refine wd_free ?_ .none rfl (yf_fieldAddr (off := 2) (sz := 0) rfl Tryd.underlying28 (by kernel_rfl) rfl) ?_; (· rfl);  skip)
                    refine wd_at rfl ?_
                    (refine wd_free ?_ .none rfl (yf_loadJ rfl rfl Tryd.underlying26 rfl) ?_; (· rfl);  skip)
                    refine wd_at rfl ?_
                    (refine wd_free ?_ .none rfl (yf_move rfl) ?_; (· rfl);  skip)
                    refine wd_at rfl ?_
                    refine wd_turnE .none rfl 1 (by kernel_rfl) rfl rfl (fun w w' hw hj hk => hj.keep hk (HpG.ne hw (i := 0) (j := 1) rfl rfl rfl)) (fun w hm hw => take_any _ w ⟨hm, (HpG.x hw).weak (fun j e => e ▸ HpG.old hw (k := 1) rfl), hl⟩ (by decide) (by decide) (by omega)) (fun a ha => ?_)
                    refine wd_at rfl ?_
                    (refine wd_free ?_ .none rfl (yf_move rfl) ?_; (· rfl);  skip)
                    refine wd_at rfl ?_
                    (refine wd_free ?_ .none rfl (yf_buildS [.int .i64 0, .int .i64 0, .int .i64 0, .int .i64 0, .int .u32 0] [(0, 1), (1, 1), (2, 1), (3, 1), (4, 1)] rfl (by kernel_rfl) (by kernel_rfl) rfl) ?_; (· rfl);  skip)
                    refine wd_at rfl ?_
                    (refine wd_free ?_ .none rfl (yf_move rfl) ?_; (· rfl);  skip)
                    refine wd_at rfl ?_
                    (refine wd_free ?_ .none rfl (yf_move rfl) ?_; (· rfl);  skip)
                    refine wd_at rfl ?_
                    (refine wd_free ?_ .none rfl (yf_mul rfl rfl (i64_in _ ?_ ?_)) ?_; (· rfl); (· omega); (· omega); skip)
                    refine wd_at rfl ?_
                    (refine wd_free ?_ .none rfl (yf_conv rfl (by kernel_rfl) Tryd.underlying35 (u32_in _ ?_ ?_)) ?_; (· rfl); (· omega); (· omega); skip)
                    refine wd_at rfl ?_
                    (refine wd_free ?_ .none rfl (yf_add rfl rfl (u32_in _ ?_ ?_)) ?_; (· rfl); (· omega); (· omega); skip)
                    refine wd_at rfl ?_
                    (refine wd_free ?_ .none rfl (yf_buildS [.int .i64 0, .int .i64 0, .int .i64 0, .int .i64 0, .int .u32 0] [(0, 1), (1, 1), (2, 1), (3, 1), (4, 1)] rfl (by kernel_rfl) (by kernel_rfl) rfl) ?_; (· rfl);  skip)
                    refine wd_at rfl ?_
                    refine wd_newH ?_ .none rfl (fun k hk => Nat.lt_of_lt_of_le hk hn0) (nf_bs2 (z := .agg #[.int .i64 0, .int .i64 0, .int .i64 0, .int .i64 0, .int .u32 0]) rfl rfl rfl rfl Tryd.underlying26 (by kernel_rfl) (by kernel_rfl) rfl rfl rfl) (fun b121 hb121 => ?_)
                    · rfl
                    refine wd_endTH ?_
                    simp only [List.drop_succ_cons, List.drop_zero]
                    (refine wl_appendL (z := .agg #[.int .i64 0, .int .i64 0, .int .i64 0, .int .i64 0, .int .u32 0]) (bytes := 40) 1 0 .none rfl rfl rfl rfl rfl Tryd.underlying26 (by kernel_rfl) rfl rfl rfl rfl ?_ ?_ ?_ (fun a122 c122 h122 => ?_); (· omega); (· omega); (· omega); skip)
                    refine wl_free .none rfl (yf_fieldAddr (off := 2) (sz := 0) rfl Tryd.underlying28 (by kernel_rfl) rfl) ?_
                    refine wl_chain0 .none (cf_store 1 rfl rfl rfl rfl rfl (by kernel_rfl)) (fun _ => ?_)
                    refine wl_nil ?_
                    refine wq_block ?_
                    refine wq_then ?_
                    refine wc_seq ?_
                    refine wc_weak (.cons (i := 2) rfl <| .cons (i := 3) rfl <| .cons (i := 4) rfl <| .cons (i := 5) rfl <| .cons (i := 6) rfl <| .cons (i := 7) rfl <| .cons (i := 8) rfl <| .cons (i := 26) rfl <| .cons (i := 67) rfl <| .cons (i := 75) rfl <| .cons (i := 96) rfl <| .cons (i := 106) rfl <| .nil) ?_
                    refine wc_region ?_
                    refine wl_free .none rfl (yf_loadAllL 1 rfl rfl Tryd.underlying28 rfl (by kernel_rfl)) ?_
                    refine wl_chain0 .none (cf_storeRow 3 rfl rfl rfl rfl rfl (by kernel_rfl)) (fun _ => ?_)
                    refine wl_nil ?_
                    refine wq_then ?_
                    refine wc_ret ?_
                    refine wq_retC rfl rfl 3 rfl Tryd.underlying28 rfl (by kernel_rfl) (fun w hw => ?_)
                    exact made_end hw at_ (l ++ [⟨23, 0, a, 0, q2 * 4⟩, ⟨24, 0, 0, 0, x2 * 8 + 4 * (1 + x)⟩]) (.refl _) rfl rfl (by simp) rfl (opsCells_snoc2 ..) hau (mem_snoc2 hins.un (show U32 (q2 * 4) from ⟨by omega, by omega⟩) (show U32 (x2 * 8 + 4 * (1 + x)) from ⟨by omega, by omega⟩)) (by omega) (by simp; omega) (by omega) (by simp; omega) (made_if hins (by omega) (by omega) hpg hal ha))
              · replace hc := beq_no hc
                first
                  | (omega)
                  | (
                    refine wc_weak (.cons (i := 2) rfl <| .cons (i := 3) rfl <| .cons (i := 4) rfl <| .cons (i := 5) rfl <| .cons (i := 6) rfl <| .cons (i := 7) rfl <| .cons (i := 8) rfl <| .cons (i := 26) rfl <| .cons (i := 67) rfl <| .cons (i := 75) rfl <| .cons (i := 96) rfl <| .cons (i := 106) rfl <| .nil) ?_
                    refine wc_region ?_
                    refine wl_free .none rfl (yf_fieldAddr (off := 2) (sz := 0) rfl Tryd.underlying28 (by kernel_rfl) rfl) ?_
                    refine wl_free .none rfl (yf_loadL 0 rfl rfl rfl Tryd.underlying26 rfl) ?_
                    refine wl_free .none rfl (yf_move rfl) ?_
                    refine wl_free .none rfl (yf_buildS [.int .i64 0, .int .i64 0, .int .i64 0, .int .i64 0, .int .u32 0] [(0, 1), (1, 1), (2, 1), (3, 1), (4, 1)] rfl (by kernel_rfl) (by kernel_rfl) rfl) ?_
                    refine wl_new .none rfl (nf_bs1 (z := .agg #[.int .i64 0, .int .i64 0, .int .i64 0, .int .i64 0, .int .u32 0]) rfl rfl Tryd.underlying26 (by kernel_rfl) (by kernel_rfl) rfl rfl) (fun b72 => ?_)
                    (refine wl_appendL (z := .agg #[.int .i64 0, .int .i64 0, .int .i64 0, .int .i64 0, .int .u32 0]) (bytes := 40) 1 0 .none rfl rfl rfl rfl rfl Tryd.underlying26 (by kernel_rfl) rfl rfl rfl rfl ?_ ?_ ?_ (fun a73 c73 h73 => ?_); (· omega); (· omega); (· omega); skip)
                    refine wl_free .none rfl (yf_fieldAddr (off := 2) (sz := 0) rfl Tryd.underlying28 (by kernel_rfl) rfl) ?_
                    refine wl_chain0 .none (cf_store 1 rfl rfl rfl rfl rfl (by kernel_rfl)) (fun _ => ?_)
                    refine wl_nil ?_
                    refine wq_block ?_
                    refine wq_then ?_
                    refine wc_seq ?_
                    refine wc_weak (.cons (i := 2) rfl <| .cons (i := 3) rfl <| .cons (i := 4) rfl <| .cons (i := 5) rfl <| .cons (i := 6) rfl <| .cons (i := 7) rfl <| .cons (i := 8) rfl <| .cons (i := 26) rfl <| .cons (i := 67) rfl <| .cons (i := 75) rfl <| .cons (i := 96) rfl <| .cons (i := 106) rfl <| .nil) ?_
                    refine wc_region ?_
                    refine wl_free .none rfl (yf_loadAllL 1 rfl rfl Tryd.underlying28 rfl (by kernel_rfl)) ?_
                    refine wl_chain0 .none (cf_storeRow 3 rfl rfl rfl rfl rfl (by kernel_rfl)) (fun _ => ?_)
                    refine wl_nil ?_
                    refine wq_then ?_
                    refine wc_ret ?_
                    refine wq_retC rfl rfl 3 rfl Tryd.underlying28 rfl (by kernel_rfl) (fun w hw => ?_)
                    exact made_end hw at_ (l ++ [⟨24, 0, 0, 0, q2 * 4⟩]) (.refl _) rfl rfl (by simp) rfl (opsCells_snoc ..) hau (mem_snoc hins.un (show U32 (q2 * 4) from ⟨by omega, by omega⟩)) (by omega) (by simp; omega) (by omega) (by simp; omega) (made_exit hins (by omega) (by omega) hpg hal)))
end Go.Proofs.YtojofinofpgopaaDoor
