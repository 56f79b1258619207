/- Pointers compared. -/
import Derived.Test.YtojofinofpgopaaMgM
import Derived.Test.YtojofinofpgopaaMgS
import Derived.Test.YtojofinofpgopaaStB
import Derived.Test.YtojofinofpgopaaEvB
import Derived.Test.YtojofinofpgopaaMgR
import Derived.LaidEql
import Derived.ChangeKeysEq
import Derived.Laws.IdiomCopy
import Derived.Laws.CopyRow
namespace Go.Proofs.Ytojofinofpgopaa
open Go.RowKit
section
variable {P : Program} {n : Nat} {m : List (Nat × Value)} {ty : TypeId} {H : World → Prop}
theorem run_eqPtrIn {t e : TypeId} {a b : Addr} {size : Nat} {r : Bool} {w : World} (d : Nat) (ht : P.underlying t = some (.pointer e)) (hs : (P.info? e).map (·.size) = some size) (h0 : 0 < size) (h : (sameAddr a b).run P w = .ok r w) : (Op.equalIn (d + 1) t (.pointer (some a)) (.pointer (some b))).run P w = .ok r w := by
  have hne : ¬ size = 0 := by omega
  simp [Op.equalIn, run_underlying ht, run_sizeOf hs, hne, h]
theorem run_eqPtr {t e : TypeId} {a b : Addr} {size : Nat} {r : Bool} {w : World} (ht : P.underlying t = some (.pointer e)) (hs : (P.info? e).map (·.size) = some size) (h0 : 0 < size) (h : (sameAddr a b).run P w = .ok r w) : (Op.equal t (.pointer (some a)) (.pointer (some b))).run P w = .ok r w := run_eqPtrIn 9999 ht hs h0 h
theorem yf_eqPtr {x y : Operand} {t t' e : TypeId} {a b : Addr} {size : Nat} {r : Bool} (hx : ev m x = some (.pointer (some a))) (hy : ev m y = some (.pointer (some b))) (ht : P.underlying t = some (.pointer e)) (hs' : (P.info? e).map (·.size) = some size) (h0 : 0 < size) (h : ∀ w, H w → (sameAddr a b).run P w = .ok r w) : YF P (.binOp .eql t x y t') ty n m H (.bool r) := fun _ w d pos af g hs hw => by
  have := run_eqPtr ht hs' h0 (h w hw)
  simp [Yl, execOp, hs.ev hx, hs.ev hy, binOp, Result.andThen, eqGuard_at_pointer, this]
/-- An operation whose guard is an operation that was not wanted, in a region that draws its order. -/
theorem wd_passU {J : World → Prop} {ops : Array Oper} {Q : Exit → Act → World → Prop} {σ : List Nat} {G : Nat → Prop} {op : Op} {d : Nat} {pos : String} {af : Array Edge} {j t : Nat} {want : Bool} (hsel : ∀ cs b, op ≠ .select cs b) (ht : (ops[j]?).bind (·.dst) = some t) (hv : look m t = some undef) (hd : Nat.blt d n = true)
    (h : WD P ops J Q σ G n ((d, undef) :: m) H) : WDo P ops J Q ⟨some d, op, ty, pos, af, some (j, want)⟩ σ G n m H := fun a hs => by
  have hg : Region.wanted (⟨some d, op, ty, pos, af, some (j, want)⟩ : Oper) (yielded ops a.tmps) = false := by
    have e : yielded ops a.tmps j = none := by simp [yielded, ht, hs.get t _ hv, undef]
    simp [Region.wanted, e]
  exact ⟨hsel, .inl ⟨hg, h _ (hs.put hd)⟩⟩
end
end Go.Proofs.Ytojofinofpgopaa
/- A row is equal to itself: variables and states compared. -/
namespace Go.Proofs.Ytojofinofpgopaa
open Go.RowKit
theorem eqItems_refl {P : Program} {d : Nat} {e : TypeId} {k : IntKind} (he : P.underlying e = some (.int k)) {xs : Array Value} (w : World) : ∀ is : List Nat, (∀ i ∈ is, ∃ a, xs[i]? = some (.int k a)) → (Op.eqItems (d + 1) e 1 xs xs is).run P w = .ok true w
  | [], _ => by simp [Op.eqItems]
  | i :: is, h => by
    obtain ⟨a, ha⟩ := h i (List.mem_cons_self ..)
    have ih := eqItems_refl (d := d) he w is fun j hj => h j (List.mem_cons_of_mem _ hj)
    have hp := run_part1 (P := P) (t := e) (off := i * 1) he rfl (by rw [Nat.mul_one]; exact ha)
    have hq := run_equalIn_int (P := P) w d e k k a a he
    simp only [Op.eqItems, Sem.run_bind, hp, hq, Result.andThen]
    simpa using ih
theorem arr_refl {P : Program} {d n : Nat} {t e : TypeId} {k : IntKind} {i : TypeInfo} (ht : P.underlying t = some (.array n e)) (he : P.underlying e = some (.int k)) (hi : P.info? e = some i) (hc : P.cellsOf e = 1) {xs : Array Value} (h : ∀ i, i < n → ∃ a, xs[i]? = some (.int k a)) (w : World) : (Op.equalIn (d + 2) t (.agg xs) (.agg xs)).run P w = .ok true w := by
  rw [run_equalIn_array (P := P) w (d + 1) xs xs ht hi, hc]
  exact eqItems_refl he w _ fun j hj => h j (List.mem_range.1 hj)
theorem eqFields_refl {P : Program} {d : Nat} {xs : Array Value} (w : World) : ∀ fs : List Field, (∀ f ∈ fs, ∃ v, (∀ w, (part f.type xs f.offset).run P w = .ok v w) ∧ ∀ w, (Op.equalIn d f.type v v).run P w = .ok true w) → (Op.eqFields d xs xs fs).run P w = .ok true w
  | [], _ => by simp [Op.eqFields]
  | f :: fs, h => by
    obtain ⟨v, h1, h2⟩ := h f (List.mem_cons_self ..)
    have ih := eqFields_refl (d := d) w fs fun g hg => h g (List.mem_cons_of_mem _ hg)
    unfold Op.eqFields
    split
    · simp only [Sem.run_bind, h1, h2, Result.andThen]
      simpa using ih
    · exact ih
theorem u32s_get {l : List Int} {i : Nat} (hi : i < l.length) : ∃ a, (u32s l).toArray[i]? = some (.int .u32 a) := ⟨l[i], by simp [u32s, hi]⟩
theorem eq28 {l : List Int} (h : l.length = 28) (w : World) : (Op.equalIn 10000 37 (.agg (u32s l).toArray) (.agg (u32s l).toArray)).run Try.prog w = .ok true w := by
  obtain ⟨i, hi⟩ : ∃ i, Try.prog.info? 34 = some i := Option.isSome_iff_exists.1 (by kernel_rfl)
  exact arr_refl (d := 9998) Try.underlying37 Try.underlying34 hi (by kernel_rfl) (fun i hi => u32s_get (by omega)) w
theorem stL_part {s : MSt} {n o : Nat} (h : ∀ i, i < n → ∃ a, (stL s)[o + i]? = some (.int .u32 a)) : ∀ i, i < n → ∃ a, ((stL s).toArray.extract o (o + n))[i]? = some (.int .u32 a) := fun i hi => by
  obtain ⟨a, ha⟩ := h i hi
  refine ⟨a, ?_⟩
  have hlt := (List.getElem?_eq_some_iff.1 ha).1
  rw [Array.getElem?_extract_of_lt (by simp; omega)]
  have := (List.getElem?_eq_some_iff.1 ha).2
  simp [this]
theorem stL_c {s : MSt} (h16 : s.r.length = 16) {i : Nat} (hi : i < s.c.length) : ∃ a, (stL s)[18 + i]? = some (.int .u32 a) := by
  refine ⟨s.c[i], ?_⟩
  rw [show 18 + i = (17 + i) + 1 by omega]
  show (u32s s.r ++ (.int .u32 s.f :: (u32s s.c ++ _)))[17 + i]? = _
  rw [List.getElem?_append_right (by rw [u32s_len]; omega), u32s_len, h16, show 17 + i - 16 = i + 1 by omega]
  show (u32s s.c ++ _)[i]? = _
  rw [List.getElem?_append_left (by rw [u32s_len]; omega)]
  simp [u32s, hi]
theorem stL_n {s : MSt} (h16 : s.r.length = 16) (h4 : s.c.length = 4) : (stL s)[22]? = some (.int .i64 s.steps) ∧ (stL s)[23]? = some (.int .i64 s.due) := by
  obtain ⟨pc, r, f, c, st, du⟩ := s
  match r, h16, c, h4 with
  | [a0, a1, a2, a3, a4, a5, a6, a7, a8, a9, a10, a11, a12, a13, a14, a15], _, [c0, c1, c2, c3], _ => exact ⟨rfl, rfl⟩
theorem stL_rr {s : MSt} (h16 : s.r.length = 16) {i : Nat} (hi : i < 16) : ∃ a, (stL s)[1 + i]? = some (.int .u32 a) := by
  refine ⟨s.r[i], stL_r ?_⟩
  simp [u32s, h16, hi]
set_option maxRecDepth 100000 in
theorem eqSt {s : MSt} (h16 : s.r.length = 16) (h4 : s.c.length = 4) (w : World) : (Op.equalIn 10000 75 (.agg (stL s).toArray) (.agg (stL s).toArray)).run Try.prog w = .ok true w := by
  obtain ⟨i, hi⟩ : ∃ i, Try.prog.info? 34 = some i := Option.isSome_iff_exists.1 (by kernel_rfl)
  have hf : Try.prog.underlying 75 = some (.struct (Try.prog.fieldsOf 75)) := by kernel_rfl
  have hN := stL_n h16 h4
  rw [show (10000 : Nat) = 9999 + 1 from rfl, run_equalIn_struct (P := Try.prog) w 9999 75 _ _ hf (by kernel_rfl)]
  refine eqFields_refl w _ ?_
  have int : ∀ (k : IntKind) (t : TypeId) (o : Nat) (a : Int), Try.prog.underlying t = some (.int k) → (stL s)[o]? = some (.int k a) → ∃ v, (∀ w, (part t (stL s).toArray o).run Try.prog w = .ok v w) ∧ ∀ w, (Op.equalIn 9999 t v v).run Try.prog w = .ok true w := fun k t o a ht ho =>
    ⟨.int k a, fun w => run_part1 ht rfl (by simpa using ho) w, fun w => by rw [run_equalIn_int (P := Try.prog) w 9998 t k k a a ht]; simp⟩
  have arr : ∀ (t : TypeId) (o n : Nat), Try.prog.underlying t = some (.array n 34) → (Try.prog.info? t).map (·.size) = some n → (∀ i, i < n → ∃ a, (stL s)[o + i]? = some (.int .u32 a)) → ∃ v, (∀ w, (part t (stL s).toArray o).run Try.prog w = .ok v w) ∧ ∀ w, (Op.equalIn 9999 t v v).run Try.prog w = .ok true w := fun t o n ht hs h =>
    ⟨_, fun w => run_partR ht rfl hs w, fun w => arr_refl (d := 9997) ht Try.underlying34 hi (by kernel_rfl) (stL_part h) w⟩
  have hfs := hf.symm.trans Try.underlying75
  injection hfs with hfs
  injection hfs with hfs
  rw [hfs]
  intro f hfm
  simp only [List.mem_cons, List.not_mem_nil, or_false] at hfm
  rcases hfm with rfl | rfl | rfl | rfl | rfl | rfl
  · exact int .u32 _ 0 s.pc (by kernel_rfl) rfl
  · exact arr _ 1 16 (by kernel_rfl) (by kernel_rfl) (fun i hi => stL_rr h16 hi)
  · exact int .u32 _ 17 s.f (by kernel_rfl) (stL_f' h16)
  · exact arr _ 18 4 (by kernel_rfl) (by kernel_rfl) (fun i hi => stL_c h16 (by omega))
  · exact int .i64 _ 22 s.steps (by kernel_rfl) hN.1
  · exact int .i64 _ 23 s.due (by kernel_rfl) hN.2
end Go.Proofs.Ytojofinofpgopaa
/- The memory of package mem: same, Equal. -/
namespace Go.Proofs.Ytojofinofpgopaa
open Go.RowKit
theorem u8s_get {l : List Int} {i : Nat} (hi : i < l.length) : ∃ a, (u8s l).toArray[i]? = some (.int .u8 a) := ⟨l[i], by simp [u8s, hi]⟩
theorem eq256 {l : List Int} (h : l.length = 256) (w : World) : (Op.equalIn 10000 135 (.agg (u8s l).toArray) (.agg (u8s l).toArray)).run Try.prog w = .ok true w := by
  obtain ⟨i, hi⟩ : ∃ i, Try.prog.info? 5 = some i := Option.isSome_iff_exists.1 (by kernel_rfl)
  exact arr_refl (d := 9998) Try.underlying135 Try.underlying5 hi (by kernel_rfl) (fun i hi => u8s_get (by omega)) w
set_option maxRecDepth 100000 in
theorem same_any (g g' : Nat) (c : List Int) (hc : c.length = 256) (w : World) (h : OnL [(g, bk 135 (u8s c)), (g', bk 135 (u8s c))] w) : Calls Try.prog 73 #[ptrV g, ptrV g'] w fun e w' => e = .returned (.bool true) ∧ Ext w w' := by
  have hs : ∀ u, OnL [(g, bk 135 (u8s c)), (g', bk 135 (u8s c))] u → (sameAddr ⟨g, 0, none⟩ ⟨g', 0, none⟩).run Try.prog u = .ok (decide (g = g')) u := fun u hu => by
    by_cases e : g = g'
    · subst e; rw [decide_eq_true rfl]; exact run_sameAddr_same _ _
    · rw [decide_eq_false e]
      exact run_sameAddr_other _ (fun h => e (congrArg Addr.block h)) (hu _ (List.mem_cons_self ..)) (hu _ (List.mem_cons_of_mem _ (List.mem_cons_self ..)))
  have h1 : ∀ u, OnL [(g, bk 135 (u8s c)), (g', bk 135 (u8s c))] u → u.heap[g]? = some (bk 135 (u8s c)) := fun u hu => hu _ (List.mem_cons_self ..)
  have h2 : ∀ u, OnL [(g, bk 135 (u8s c)), (g', bk 135 (u8s c))] u → u.heap[g']? = some (bk 135 (u8s c)) := fun u hu => hu _ (List.mem_cons_of_mem _ (List.mem_cons_self ..))
  have hsz : (Try.prog.info? 135).map (·.size) = some (u8s c).length := by rw [u8s_len, hc]; kernel_rfl
  refine calls_wc (args := [ptrV g, ptrV g']) Try.func73 rfl 25 rfl (Nat.le_of_ble_eq_true rfl) ?_
  refine wc_weak (.cons (i := 0) rfl <| .cons (i := 1) rfl <| .nil) ?_
  refine wc_conseq (H' := Hp (fun _ => False) w [] [] (OnL [(g, bk 135 (u8s c)), (g', bk 135 (u8s c))])) (fun u hu => ?_) ?_
  · subst hu; exact Hp.start h.foot
  refine wc_seq ?_
  refine wc_region ?_
  refine wl_free .none rfl (yf_assign rfl) ?_
  refine wl_nil ?_
  refine wq_then ?_
  refine wc_seq ?_
  refine wc_draw0 [0, 1, 2, 3, 4, 5, 6, 7, 8, 9, 10, 11, 12, 13, 14, 15, 16, 17, 18, 19, 20] _ (by kernel_rfl) (by kernel_rfl) HpG.stab HpG.stab (fun _ h => HpG.drew h) (fun _ h => h) ?_
  refine wd_at rfl ?_
  (refine wd_free ?_ .none rfl (yf_move rfl) ?_; (· rfl);  skip)
  refine wd_at rfl ?_
  (refine wd_free ?_ .none rfl (yf_move rfl) ?_; (· rfl);  skip)
  refine wd_at rfl ?_
  (refine wd_free ?_ .none rfl (yf_eqPtr (size := 256) rfl rfl Try.underlying116 (by kernel_rfl) (by decide) (fun w h => hs w (HpG.x h))) ?_; (· rfl);  skip)
  refine wd_at rfl ?_
  (refine wd_free ?_ .none rfl (yf_move rfl) ?_; (· rfl);  skip)
  refine wd_split 8 rfl (fun hb => ?_) (fun hb => ?_)
  · skip
    refine wd_at rfl ?_
    refine wd_pass (fun _ _ h => by cases h) (.some rfl rfl rfl) rfl ?_
    refine wd_at rfl ?_
    refine wd_pass (fun _ _ h => by cases h) (.some rfl rfl rfl) rfl ?_
    refine wd_at rfl ?_
    refine wd_pass (fun _ _ h => by cases h) (.some rfl rfl rfl) rfl ?_
    refine wd_at rfl ?_
    refine wd_passU (fun _ _ h => by cases h) rfl rfl rfl ?_
    refine wd_at rfl ?_
    refine wd_passU (fun _ _ h => by cases h) rfl rfl rfl ?_
    refine wd_at rfl ?_
    refine wd_pass (fun _ _ h => by cases h) (.some rfl rfl rfl) rfl ?_
    refine wd_at rfl ?_
    refine wd_pass (fun _ _ h => by cases h) (.some rfl rfl rfl) rfl ?_
    refine wd_at rfl ?_
    refine wd_passU (fun _ _ h => by cases h) rfl rfl rfl ?_
    refine wd_at rfl ?_
    refine wd_passU (fun _ _ h => by cases h) rfl rfl rfl ?_
    refine wd_at rfl ?_
    refine wd_passU (fun _ _ h => by cases h) rfl rfl rfl ?_
    refine wd_at rfl ?_
    refine wd_passU (fun _ _ h => by cases h) rfl rfl rfl ?_
    refine wd_at rfl ?_
    refine wd_passU (fun _ _ h => by cases h) rfl rfl rfl ?_
    refine wd_at rfl ?_
    refine wd_passU (fun _ _ h => by cases h) rfl rfl rfl ?_
    refine wd_at rfl ?_
    refine wd_passU (fun _ _ h => by cases h) rfl rfl rfl ?_
    refine wd_at rfl ?_
    refine wd_pass (fun _ _ h => by cases h) (.some rfl rfl rfl) rfl ?_
    refine wd_at rfl ?_
    (refine wd_free ?_ .none rfl (yf_pickT rfl rfl) ?_; (· rfl);  skip)
    refine wd_at rfl ?_
    (refine wd_free ?_ .none rfl (yf_assign rfl) ?_; (· rfl);  skip)
    refine wd_end ?_
    refine wq_then ?_
    refine wc_ret ?_
    refine wq_ret1 rfl rfl (fun w hw => ?_)
    exact ⟨by simp, (HpG.keep hw).ext⟩
  · skip
    refine wd_at rfl ?_
    (refine wd_free ?_ (.some rfl rfl) rfl (yf_move rfl) ?_; (· rfl);  skip)
    refine wd_at rfl ?_
    (refine wd_free ?_ (.some rfl rfl) rfl (yf_neNil rfl rfl (by kernel_rfl)) ?_; (· rfl);  skip)
    refine wd_at rfl ?_
    (refine wd_free ?_ (.some rfl rfl) rfl (yf_move rfl) ?_; (· rfl);  skip)
    refine wd_split 11 rfl (fun hb => ?_) (fun hb => ?_)
    · skip
      refine wd_at rfl ?_
      (refine wd_free ?_ (.some rfl rfl) rfl (yf_move rfl) ?_; (· rfl);  skip)
      refine wd_at rfl ?_
      (refine wd_free ?_ (.some rfl rfl) rfl (yf_neNil rfl rfl (by kernel_rfl)) ?_; (· rfl);  skip)
      refine wd_at rfl ?_
      (refine wd_free ?_ (.some rfl rfl) rfl (yf_pickT rfl rfl) ?_; (· rfl);  skip)
      refine wd_at rfl ?_
      (refine wd_free ?_ (.some rfl rfl) rfl (yf_move rfl) ?_; (· rfl);  skip)
      refine wd_split 15 rfl (fun hb => ?_) (fun hb => ?_)
      · skip
        refine wd_at rfl ?_
        (refine wd_free ?_ (.some rfl rfl) rfl (yf_move rfl) ?_; (· rfl);  skip)
        refine wd_at rfl ?_
        (refine wd_free ?_ (.some rfl rfl) rfl (yf_nilCheck rfl) ?_; (· rfl);  skip)
        refine wd_at rfl ?_
        (refine wd_free ?_ (.some rfl rfl) rfl (yf_loadRowG rfl (fun w h => h1 w (HpG.x h)) Try.underlying135 rfl hsz) ?_; (· rfl);  skip)
        refine wd_at rfl ?_
        (refine wd_free ?_ (.some rfl rfl) rfl (yf_move rfl) ?_; (· rfl);  skip)
        refine wd_at rfl ?_
        (refine wd_free ?_ (.some rfl rfl) rfl (yf_nilCheck rfl) ?_; (· rfl);  skip)
        refine wd_at rfl ?_
        (refine wd_free ?_ (.some rfl rfl) rfl (yf_loadRowG rfl (fun w h => h2 w (HpG.x h)) Try.underlying135 rfl hsz) ?_; (· rfl);  skip)
        refine wd_at rfl ?_
        (refine wd_free ?_ (.some rfl rfl) rfl (yf_eqlAgg (r := true) rfl rfl (by kernel_rfl) (fun W => eq256 hc W)) ?_; (· rfl);  skip)
        refine wd_at rfl ?_
        (refine wd_free ?_ (.some rfl rfl) rfl (yf_pickT rfl rfl) ?_; (· rfl);  skip)
        refine wd_at rfl ?_
        (refine wd_free ?_ .none rfl (yf_pickF rfl rfl) ?_; (· rfl);  skip)
        refine wd_at rfl ?_
        (refine wd_free ?_ .none rfl (yf_assign rfl) ?_; (· rfl);  skip)
        refine wd_end ?_
        refine wq_then ?_
        refine wc_ret ?_
        refine wq_ret1 rfl rfl (fun w hw => ?_)
        exact ⟨by simp, (HpG.keep hw).ext⟩
      · skip
        simp at hb
    · skip
      simp at hb
def J2L (μ μ' : Mm) (w : World) : Prop := OnL (memL μ) w ∧ OnL (memL μ') w
theorem J2L.ext {μ μ' : Mm} : ∀ w w', J2L μ μ' w → Ext w w' → J2L μ μ' w' := fun _ _ h hx => ⟨h.1.ext hx, h.2.ext hx⟩
theorem J2L.stab {μ μ' : Mm} : AStab (J2L μ μ') := fun w ob h => J2L.ext w _ h (Ext.alloc (Ext.refl w) ob)
theorem J2L.foot {μ μ' : Mm} {w : World} (h : J2L μ μ' w) : ∃ F : Nat → Prop, (∀ k, F k → k < w.heap.size ∧ ¬ False) ∧ Foot F (J2L μ μ') w := by
  obtain ⟨F1, h1, g1⟩ := h.1.foot
  obtain ⟨F2, h2, g2⟩ := h.2.foot
  exact ⟨fun k => F1 k ∨ F2 k, fun k hk => hk.elim (h1 k) (h2 k), fun u hu => ⟨g1 u fun k hk => hu k (.inl hk), g2 u fun k hk => hu k (.inr hk)⟩⟩
/-- Parts of equal length: equal throughout, equal part by part. -/
theorem flat_parts {f : Pg → List Int} {n : Nat} : ∀ {l l' : List Pg}, (∀ x ∈ l, (f x).length = n) → (∀ x ∈ l', (f x).length = n) → l.length = l'.length → l.flatMap f = l'.flatMap f → ∀ (i : Nat) (x x' : Pg), l[i]? = some x → l'[i]? = some x' → f x = f x'
  | [], _, _, _, _, _, i, x, x', h, _ => by simp at h
  | _ :: _, [], _, _, h, _, _, _, _, _, _ => by simp at h
  | y :: l, y' :: l', h1, h2, h3, h4, i, x, x', hx, hx' => by
    rw [List.flatMap_cons, List.flatMap_cons] at h4
    have hl : (f y).length = (f y').length := by rw [h1 y (List.mem_cons_self ..), h2 y' (List.mem_cons_self ..)]
    obtain ⟨e1, e2⟩ := List.append_inj h4 hl
    cases i with
    | zero => simp at hx hx'; subst hx; subst hx'; exact e1
    | succ i => exact flat_parts (fun x hx => h1 x (List.mem_cons_of_mem _ hx)) (fun x hx => h2 x (List.mem_cons_of_mem _ hx)) (by simpa using h3) e2 i x x' (by simpa using hx) (by simpa using hx')
set_option maxRecDepth 100000 in
theorem memEqual_any (μ μ' : Mm) (ok : μ.Wf) (ok' : μ'.Wf) (hr : μ.rs = μ'.rs) (hb : μ.bytes = μ'.bytes) (w : World) (h : J2L μ μ' w) : Calls Try.prog 35 #[ptrV μ.M, ptrV μ'.M] w fun e w' => e = .returned (.bool true) ∧ Ext w w' := by
  have hpart := flat_parts (fun x hx => (ok.c x hx).1) (fun x hx => (ok'.c x hx).1) (by rw [ok.len, ok'.len]) hb
  have hrt : ∀ (i : Nat) (x x' : Pg), μ.p[i]? = some x → μ'.p[i]? = some x' → x.r = x'.r := fun i x x' h1 h2 => by
    rw [← rs_at h1, ← rs_at h2, hr]
  refine calls_wc (args := [ptrV μ.M, ptrV μ'.M]) Try.func35 rfl 60 rfl (Nat.le_of_ble_eq_true rfl) ?_
  refine wc_weak (.cons (i := 0) rfl <| .cons (i := 1) rfl <| .nil) ?_
  refine wc_conseq (H' := Hp (fun _ => False) w [] [] (J2L μ μ')) (fun u hu => ?_) ?_
  · subst hu; exact Hp.start h.foot
  refine wc_seq ?_
  refine wc_region ?_
  refine wl_free .none rfl (yf_assign rfl) ?_
  refine wl_nil ?_
  refine wq_then ?_
  refine wc_seq ?_
  refine wc_seq ?_
  refine wc_region ?_
  refine wl_free .none rfl (yf_move rfl) ?_
  refine wl_pure .none rfl (by kernel_rfl) rfl (fun w hw => pages_any μ w (HpG.x hw).1) ?_
  refine wl_free .none rfl (yf_move rfl) ?_
  refine wl_pure .none rfl (by kernel_rfl) rfl (fun w hw => pages_any μ' w (HpG.x hw).2) ?_
  refine wl_free .none rfl (yf_neq rfl rfl) ?_
  refine wl_nil ?_
  refine wq_then ?_
  refine wc_cond rfl (fun hc => ?_) (fun hc => ?_)
  · replace hc := bne_yes hc
    exact absurd rfl hc
  · replace hc := bne_no hc
    refine wc_skip ?_
    refine wq_then ?_
    refine wc_seq ?_
    refine wc_seq ?_
    refine wc_weak (.cons (i := 0) rfl <| .cons (i := 1) rfl <| .cons (i := 4) rfl <| .cons (i := 12) rfl <| .nil) ?_
    refine wc_region ?_
    refine wl_free .none rfl (yf_move rfl) ?_
    refine wl_pure .none rfl (by kernel_rfl) rfl (fun w hw => pages_any μ w (HpG.x hw).1) ?_
    refine wl_free .none rfl (yf_move rfl) ?_
    refine wl_nil ?_
    refine wq_then ?_
    refine wc_block ?_
    refine wc_loop (ι := {i : Nat // i ≤ 3}) (fun i => [(0, ptrV μ.M), (1, ptrV μ'.M), (14, .int .i64 3), (15, .int .i64 i.1)]) (fun _ => Hp (fun _ => False) w [] [] (J2L μ μ')) (fun i => 3 - i.1) ⟨0, by omega⟩ ?_ ?_ (fun i => ?_)
    · exact .cons rfl <| .cons rfl <| .cons rfl <| .consE rfl rfl <| .nil
    · exact fun w h => h
    obtain ⟨i, hi⟩ := i
    dsimp only at hi ⊢
    refine wc_seq ?_
    refine wc_region ?_
    refine wl_free .none rfl (yf_lss rfl rfl) ?_
    refine wl_nil ?_
    refine wq_then ?_
    refine wc_seq ?_
    refine wc_cond rfl (fun hc => ?_) (fun hc => ?_)
    · replace hc := of_decide_eq_true hc
      obtain ⟨p, hp, hpm⟩ := ok.page (i := i) (by omega)
      obtain ⟨p', hp', hpm'⟩ := ok'.page (i := i) (by omega)
      have er := hrt i p p' hp hp'
      have ec := hpart i p p' hp hp'
      have hsame : ∀ W, J2L μ μ' W → Calls Try.prog 73 #[ptrV (p.own.getD μ.Z), ptrV (p'.own.getD μ'.Z)] W fun e w' => e = .returned (.bool true) ∧ Ext W w' := fun W hW =>
        same_any _ _ p.c (ok.c p hpm).1 W fun q hq => by
          simp only [List.mem_cons, List.not_mem_nil, or_false] at hq
          rcases hq with rfl | rfl
          · exact OnL.P hW.1 ok hpm
          · have := OnL.P hW.2 ok' hpm'; rw [← ec] at this; exact this
      have hzero : ∀ W, J2L μ μ' W → Calls Try.prog 73 #[ptrV μ.Z, ptrV μ'.Z] W fun e w' => e = .returned (.bool true) ∧ Ext W w' := fun W hW =>
        same_any _ _ z256 rfl W fun q hq => by
          simp only [List.mem_cons, List.not_mem_nil, or_false] at hq
          rcases hq with rfl | rfl
          · exact OnL.Z hW.1
          · exact OnL.Z hW.2
      refine wc_skip ?_
      refine wq_then ?_
      refine wc_seq ?_
      refine wc_block ?_
      refine wc_seq ?_
      refine wc_region ?_
      refine wl_free .none rfl (yf_move rfl) ?_
      refine wl_free .none rfl (yf_assign rfl) ?_
      refine wl_nil ?_
      refine wq_then ?_
      refine wc_seq ?_
      refine wc_weak (.cons (i := 0) rfl <| .cons (i := 1) rfl <| .cons (i := 5) rfl <| .cons (i := 14) rfl <| .cons (i := 15) rfl <| .cons (i := 16) rfl <| .nil) ?_
      refine wc_draw0 [0, 1, 2, 3, 4, 5, 6, 7, 8, 9, 10, 11, 12, 13] _ (by kernel_rfl) (by kernel_rfl) HpG.stab HpG.stab (fun _ h => HpG.drew h) (fun _ h => h) ?_
      refine wd_at rfl ?_
      (refine wd_free ?_ .none rfl (yf_move rfl) ?_; (· rfl);  skip)
      refine wd_at rfl ?_
      (refine wd_free ?_ .none rfl (yf_nilCheck rfl) ?_; (· rfl);  skip)
      refine wd_at rfl ?_
      (refine wd_free ?_ .none rfl (yf_fieldAddr (off := 0) (sz := 0) rfl Try.underlying121 (by kernel_rfl) rfl) ?_; (· rfl);  skip)
      refine wd_at rfl ?_
      (refine wd_free ?_ .none rfl (yf_loadG rfl (fun w h => OnL.M (HpG.x h).1) rfl Try.underlying119 rfl) ?_; (· rfl);  skip)
      refine wd_at rfl ?_
      (refine wd_free ?_ .none rfl (yf_move rfl) ?_; (· rfl);  skip)
      refine wd_at rfl ?_
      first | (refine wd_free ?_ .none rfl (yf_indexAddrS (es := 7) rfl rfl Try.underlying119 (by kernel_rfl) rfl ?_ rfl) ?_; (· rfl); (· first | decide | omega | (simp; omega)); skip) | (refine wd_free ?_ .none rfl (yf_indexAddrS (es := 7) rfl rfl Try.underlying119 (by kernel_rfl) (Int.toNat_of_nonneg ?_).symm ?_ rfl) ?_; (· rfl); (· omega); (· first | decide | omega | (simp; omega)); skip)
      refine wd_at rfl ?_
      (refine wd_free ?_ .none rfl (yf_move rfl) ?_; (· rfl);  skip)
      refine wd_at rfl ?_
      (refine wd_free ?_ .none rfl (yf_nilCheck rfl) ?_; (· rfl);  skip)
      refine wd_at rfl ?_
      (refine wd_free ?_ .none rfl (yf_fieldAddr (off := 0) (sz := 0) rfl Try.underlying121 (by kernel_rfl) rfl) ?_; (· rfl);  skip)
      refine wd_at rfl ?_
      (refine wd_free ?_ .none rfl (yf_loadG rfl (fun w h => OnL.M (HpG.x h).2) rfl Try.underlying119 rfl) ?_; (· rfl);  skip)
      refine wd_at rfl ?_
      (refine wd_free ?_ .none rfl (yf_move rfl) ?_; (· rfl);  skip)
      refine wd_at rfl ?_
      first | (refine wd_free ?_ .none rfl (yf_indexAddrS (es := 7) rfl rfl Try.underlying119 (by kernel_rfl) rfl ?_ rfl) ?_; (· rfl); (· first | decide | omega | (simp; omega)); skip) | (refine wd_free ?_ .none rfl (yf_indexAddrS (es := 7) rfl rfl Try.underlying119 (by kernel_rfl) (Int.toNat_of_nonneg ?_).symm ?_ rfl) ?_; (· rfl); (· omega); (· first | decide | omega | (simp; omega)); skip)
      refine wd_at rfl ?_
      (refine wd_free ?_ .none rfl (yf_assign rfl) ?_; (· rfl);  skip)
      refine wd_at rfl ?_
      (refine wd_free ?_ .none rfl (yf_assign rfl) ?_; (· rfl);  skip)
      refine wd_end ?_
      refine wq_then ?_
      refine wc_seq ?_
      refine wc_weak (.cons (i := 0) rfl <| .cons (i := 1) rfl <| .cons (i := 5) rfl <| .cons (i := 6) rfl <| .cons (i := 7) rfl <| .cons (i := 14) rfl <| .cons (i := 15) rfl <| .cons (i := 16) rfl <| .nil) ?_
      have im1 : ∀ W, J2L μ μ' W → Calls Try.prog 74 #[.pointer (some ⟨μ.S, 0 + i * 7, none⟩)] W fun e w' => e = .returned (ptrV μ.Z) ∧ Ext W w' := fun W hW => by
        rw [Nat.zero_add]; exact image_any μ i p hp W hW.1
      have im2 : ∀ W, J2L μ μ' W → Calls Try.prog 74 #[.pointer (some ⟨μ'.S, 0 + i * 7, none⟩)] W fun e w' => e = .returned (ptrV μ'.Z) ∧ Ext W w' := fun W hW => by
        rw [Nat.zero_add]; exact image_any μ' i p' hp' W hW.2
      refine wc_drawN [0, 1, 2, 3, 4, 5, 6, 7, 8, 9, 10, 11, 12, 13, 14, 15, 16, 17, 18, 19, 20, 21, 22, 23, 24, 25, 26, 27, 28] (J2L μ μ') (by kernel_rfl) (by kernel_rfl) J2L.stab (fun _ h => HpG.x h) (fun n0 hn0 => ?_)
      refine wd_at rfl ?_
      (refine wd_free ?_ .none rfl (yf_move rfl) ?_; (· rfl);  skip)
      refine wd_at rfl ?_
      (refine wd_free ?_ .none rfl (yf_nilCheck rfl) ?_; (· rfl);  skip)
      refine wd_at rfl ?_
      (refine wd_free ?_ .none rfl (yf_fieldAddr (off := 6) (sz := 0) rfl Try.underlying118 (by kernel_rfl) rfl) ?_; (· rfl);  skip)
      refine wd_at rfl ?_
      (refine wd_free ?_ .none rfl (yf_loadG (v := .int .i64 p.r) rfl (fun w h => OnL.S h.1) (slot_at hp (j := 6) (by decide) (by omega)) Try.underlying3 rfl) ?_; (· rfl);  skip)
      refine wd_at rfl ?_
      (refine wd_free ?_ .none rfl (yf_move rfl) ?_; (· rfl);  skip)
      refine wd_at rfl ?_
      (refine wd_free ?_ .none rfl (yf_nilCheck rfl) ?_; (· rfl);  skip)
      refine wd_at rfl ?_
      (refine wd_free ?_ .none rfl (yf_fieldAddr (off := 6) (sz := 0) rfl Try.underlying118 (by kernel_rfl) rfl) ?_; (· rfl);  skip)
      refine wd_at rfl ?_
      (refine wd_free ?_ .none rfl (yf_loadG (v := .int .i64 p'.r) rfl (fun w h => OnL.S h.2) (slot_at hp' (j := 6) (by decide) (by omega)) Try.underlying3 rfl) ?_; (· rfl);  skip)
      refine wd_at rfl ?_
      (refine wd_free ?_ .none rfl (yf_neq rfl rfl) ?_; (· rfl);  skip)
      refine wd_at rfl ?_
      (refine wd_free ?_ .none rfl (yf_move rfl) ?_; (· rfl);  skip)
      refine wd_split 39 rfl (fun hb => ?_) (fun hb => ?_)
      · replace hb := bne_yes hb
        exact absurd er hb
      · replace hb := bne_no hb
        refine wd_at rfl ?_
        (refine wd_free ?_ (.some rfl rfl) rfl (yf_move rfl) ?_; (· rfl);  skip)
        refine wd_at rfl ?_
        (refine wd_free ?_ (.some rfl rfl) rfl (yf_nilCheck rfl) ?_; (· rfl);  skip)
        refine wd_at rfl ?_
        (refine wd_free ?_ (.some rfl rfl) rfl (yf_fieldAddr (off := 0) (sz := 0) rfl Try.underlying118 (by kernel_rfl) rfl) ?_; (· rfl);  skip)
        refine wd_at rfl ?_
        (refine wd_free ?_ (.some rfl rfl) rfl (yf_loadG (v := ptrV (p.own.getD μ.Z)) rfl (fun w h => OnL.S h.1) (slot_at hp (j := 0) (by decide) (by omega)) Try.underlying116 rfl) ?_; (· rfl);  skip)
        refine wd_at rfl ?_
        (refine wd_free ?_ (.some rfl rfl) rfl (yf_move rfl) ?_; (· rfl);  skip)
        refine wd_at rfl ?_
        (refine wd_free ?_ (.some rfl rfl) rfl (yf_nilCheck rfl) ?_; (· rfl);  skip)
        refine wd_at rfl ?_
        (refine wd_free ?_ (.some rfl rfl) rfl (yf_fieldAddr (off := 0) (sz := 0) rfl Try.underlying118 (by kernel_rfl) rfl) ?_; (· rfl);  skip)
        refine wd_at rfl ?_
        (refine wd_free ?_ (.some rfl rfl) rfl (yf_loadG (v := ptrV (p'.own.getD μ'.Z)) rfl (fun w h => OnL.S h.2) (slot_at hp' (j := 0) (by decide) (by omega)) Try.underlying116 rfl) ?_; (· rfl);  skip)
        refine wd_at rfl ?_
        refine wd_pure (.some rfl rfl) rfl (by kernel_rfl) rfl J2L.ext (fun w hw => hsame w (HpG.x hw)) ?_
        refine wd_at rfl ?_
        (refine wd_free ?_ (.some rfl rfl) rfl (yf_not rfl) ?_; (· rfl);  skip)
        refine wd_at rfl ?_
        (refine wd_free ?_ .none rfl (yf_pickF rfl rfl) ?_; (· rfl);  skip)
        refine wd_at rfl ?_
        (refine wd_free ?_ .none rfl (yf_move rfl) ?_; (· rfl);  skip)
        refine wd_split 51 rfl (fun hb => ?_) (fun hb => ?_)
        · skip
          simp at hb
        · skip
          refine wd_at rfl ?_
          (refine wd_free ?_ (.some rfl rfl) rfl (yf_move rfl) ?_; (· rfl);  skip)
          refine wd_at rfl ?_
          refine wd_pure (.some rfl rfl) rfl (by kernel_rfl) rfl J2L.ext (fun w hw => im1 w (HpG.x hw)) ?_
          refine wd_at rfl ?_
          (refine wd_free ?_ (.some rfl rfl) rfl (yf_move rfl) ?_; (· rfl);  skip)
          refine wd_at rfl ?_
          refine wd_pure (.some rfl rfl) rfl (by kernel_rfl) rfl J2L.ext (fun w hw => im2 w (HpG.x hw)) ?_
          refine wd_at rfl ?_
          refine wd_pure (.some rfl rfl) rfl (by kernel_rfl) rfl J2L.ext (fun w hw => hzero w (HpG.x hw)) ?_
          refine wd_at rfl ?_
          (refine wd_free ?_ (.some rfl rfl) rfl (yf_not rfl) ?_; (· rfl);  skip)
          refine wd_at rfl ?_
          (refine wd_free ?_ .none rfl (yf_pickF rfl rfl) ?_; (· rfl);  skip)
          refine wd_endH ?_
          refine wq_then ?_
          refine wc_cond rfl (fun hc => ?_) (fun hc => ?_)
          · skip
            simp at hc
          · skip
            refine wc_skip ?_
            refine wq_block ?_
            refine wq_then ?_
            refine wc_weak (.cons (i := 0) rfl <| .cons (i := 1) rfl <| .cons (i := 5) rfl <| .cons (i := 6) rfl <| .cons (i := 7) rfl <| .cons (i := 14) rfl <| .cons (i := 15) rfl <| .cons (i := 16) rfl <| .cons (i := 58) rfl <| .nil) ?_
            refine wc_region ?_
            first | (refine wl_free .none rfl (yf_add rfl rfl (i64_in _ ?_ ?_)) ?_; (· omega); (· omega); skip) | refine wl_free .none rfl (yf_add rfl rfl rfl) ?_
            refine wl_free .none rfl (yf_move rfl) ?_
            refine wl_nil ?_
            refine wq_round (ι := {i : Nat // i ≤ 3}) ⟨i + 1, by omega⟩ ?_ ?_ (fun u h => h)
            · show 3 - (i + 1) < 3 - i; omega
            · exact .cons rfl <| .cons rfl <| .cons rfl <| .consE rfl rfl <| .nil
    · replace hc := of_decide_eq_false hc
      refine wc_exit ?_
      refine wq_then_exit ?_
      refine wq_then_exit ?_
      refine wq_here ?_
      refine wq_then ?_
      refine wc_seq ?_
      refine wc_region ?_
      refine wl_free .none rfl (yf_assign rfl) ?_
      refine wl_nil ?_
      refine wq_then ?_
      refine wc_ret ?_
      refine wq_ret1 rfl rfl (fun w hw => ?_)
      exact ⟨rfl, (HpG.keep hw).ext⟩
end Go.Proofs.Ytojofinofpgopaa
/- copy; Setup.vars; equal, bytes of the laws. -/
namespace Go.Proofs.Ytojofinofpgopaa
open Go.RowKit
section
variable {P : Program} {n : Nat} {m : List (Nat × Value)} {ty : TypeId} {G B : Nat → Prop} {w0 : World} {L : List (Nat × Obj)} {R : List Rw} {X : World → Prop}
theorem yf_str_neq {H : World → Prop} {x y : Operand} {t t' : TypeId} {a b : ByteArray} (hx : ev m x = some (.string a)) (hy : ev m y = some (.string b)) (ht : P.underlying t = some .string) : YF P (.binOp .neq t x y t') ty n m H (.bool (!(a.toList == b.toList))) := fun _ w d pos af g hs hw => by
  simp [Yl, execOp, hs.ev hx, hs.ev hy, binOp, Result.andThen, eqGuard_at_string, Op.stringOp, bne]
theorem yf_str_eql {H : World → Prop} {x y : Operand} {t t' : TypeId} {a b : ByteArray} (hx : ev m x = some (.string a)) (hy : ev m y = some (.string b)) (ht : P.underlying t = some .string) : YF P (.binOp .eql t x y t') ty n m H (.bool (a.toList == b.toList)) := fun _ w d pos af g hs hw => by
  simp [Yl, execOp, hs.ev hx, hs.ev hy, binOp, Result.andThen, eqGuard_at_string, Op.stringOp]
theorem cf_copy {x y : Operand} {t t2 e g o l c T : Nat} {A : Option Addr} {sl sc : Nat} {cs xs : List Value} (k : Nat) (hx : ev m x = some (.slice (some ⟨g, o, none⟩) l c)) (hy : ev m y = some (.slice A sl sc)) (hk : L[k]? = some (g, bk T cs)) (ht : P.underlying t = some (.slice e)) (hs' : (P.info? e).map (·.size) = some 1) (hn : xs.length = Nat.min sl l)
    (hsrc : ∀ w, HpG G B w0 L R X w → Rd A xs w) (h1 : ∀ v ∈ xs, v.oneCell' = true) (ho : o + xs.length ≤ cs.length) :
    CF P (.call { callee := .builtin .copy, args := #[x, y], argTypes := #[t, t2] }) ty n m (HpG G B w0 L R X) (fun _ : Unit => .int .i64 xs.length) (fun _ => HpG G B w0 (L.set k (g, bk T (cs.take o ++ xs ++ cs.drop (o + xs.length)))) R X) := fun a w d pos af gd hs hw => by
  have hg := hw.own _ (List.mem_of_getElem? hk)
  dsimp only at hg
  have hx' := hs.ev hx
  have hy' := hs.ev hy
  by_cases h0 : xs.length = 0
  · have hrun := run_copy_none (P := P) w t t2 ty e (some ⟨g, o, none⟩) A l c sl sc ht hs' (by rw [← hn]; exact h0)
    have hex : (execOp a.eval ⟨d, .call { callee := .builtin .copy, args := #[x, y], argTypes := #[t, t2] }, ty, pos, af, gd⟩).run P w = .ok (.value (goInt 0)) w := by
      simp [execOp, resolve, invoke, builtin, hx', hy', hrun]
    show Ch _ _ _ _ _
    unfold Ch
    rw [hex]
    refine ⟨(), by rw [h0]; rfl, hw.turn hk (Keep.refl _ _) ?_⟩
    rw [List.eq_nil_of_length_eq_zero h0]
    simpa using hg
  · obtain ⟨b, off, rfl, hc⟩ := hsrc w hw (by omega)
    have hrun := run_copy_row (P := P) w t t2 ty e g o l c ⟨b, off, none⟩ sl sc cs.toArray T xs ht hs' hg hn (fun j v hj => by
      have hlt := (List.getElem?_eq_some_iff.1 hj).1
      have e : (⟨b, off, none⟩ : Addr).add j = ⟨b, off + j, none⟩ := by unfold Addr.add; split <;> simp_all
      rw [e, hc j hlt, List.getD_eq_getElem?_getD, hj]; rfl) (by simpa using ho) h1
    have hex : (execOp a.eval ⟨d, .call { callee := .builtin .copy, args := #[x, y], argTypes := #[t, t2] }, ty, pos, af, gd⟩).run P w = .ok (.value (.int .i64 xs.length)) (w.setRow g (cs.take o ++ xs ++ cs.drop (o + xs.length)).toArray) := by
      simp [execOp, resolve, invoke, builtin, hx', hy', hrun, goInt]
    show Ch _ _ _ _ _
    unfold Ch
    rw [hex]
    exact ⟨(), rfl, hw.turn hk (keep_setRow w _) (setRow_heap w g _ _ _ _ hg)⟩
end
/-- The variables that a setup describes. -/
def suV (x : Su) : List Int := x.v.take 28 ++ (List.replicate 28 0).drop (x.v.take 28).length
theorem suV_len (x : Su) : (suV x).length = 28 := by
  unfold suV
  rw [List.length_append, List.length_drop, List.length_replicate, List.length_take]; omega
theorem suV_ok {x : Su} (h : ∀ v ∈ x.v, U32 v) : VarsOk (suV x) := by
  refine ⟨suV_len x, fun v hv => ?_⟩
  rcases List.mem_append.1 hv with hv | hv
  · exact h v (List.mem_of_mem_take hv)
  · rw [List.eq_of_mem_replicate (List.mem_of_mem_drop hv)]; exact ⟨by decide, by decide⟩
theorem suV_row (x : Su) : (u32s (List.replicate 28 0)).take 0 ++ u32s (x.v.take 28) ++ (u32s (List.replicate 28 0)).drop (0 + (u32s (x.v.take 28)).length) = u32s (suV x) := by
  simp [u32s, suV]
theorem Rd.take {A : Option Addr} {xs : List Value} {w : World} (h : Rd A xs w) (k : Nat) : Rd A (xs.take k) w := fun h0 => by
  rw [List.length_take] at h0
  obtain ⟨b, off, e, hc⟩ := h (by omega)
  refine ⟨b, off, e, fun i hi => ?_⟩
  rw [List.length_take] at hi
  rw [hc i (by omega)]
  simp only [List.getD_eq_getElem?_getD]
  rw [List.getElem?_take_of_lt (by omega)]
theorem ints_one' (l : List Int) : ∀ v ∈ u32s l, v.oneCell' = true := fun v hv => by
  obtain ⟨x, _, rfl⟩ := List.mem_map.1 hv; rfl
theorem rd28 {cs : List Value} (h : cs.length = 28) : (Try.prog.info? 37).map (·.size) = some cs.length := by rw [h]; kernel_rfl
set_option maxRecDepth 100000 in
theorem vars_any {Bad : Nat → Prop} (x : Su) (w : World) (h : RdIn Bad x.vA (u32s x.v) w) : Calls Try.prog 32 #[.agg (suC x).toArray] w fun e w' => e = .returned (.agg (u32s (suV x)).toArray) ∧ Ext w w' := by
  have h := h.weak (Bad' := fun _ => False) (fun _ hk => hk.elim)
  have hl : (u32s (suV x)).length = 28 := by rw [show (u32s (suV x)).length = (suV x).length from List.length_map .., suV_len]
  refine calls_wc (args := [.agg (suC x).toArray]) Try.func32 rfl 9 rfl (Nat.le_of_ble_eq_true rfl) ?_
  refine wc_weak (.cons (i := 0) rfl <| .nil) ?_
  refine wc_conseq (H' := Hp (fun _ => False) w [] [] (Rd x.vA (u32s x.v))) (fun u hu => ?_) ?_
  · subst hu; exact Hp.start (RdIn.foot h)
  refine wc_seq ?_
  refine wc_region ?_
  refine wl_new .none rfl (nf_box rfl rfl) (fun b1 => ?_)
  refine wl_new .none rfl (nf_alloc (z := .agg #[.int .u32 0, .int .u32 0, .int .u32 0, .int .u32 0, .int .u32 0, .int .u32 0, .int .u32 0, .int .u32 0, .int .u32 0, .int .u32 0, .int .u32 0, .int .u32 0, .int .u32 0, .int .u32 0, .int .u32 0, .int .u32 0, .int .u32 0, .int .u32 0, .int .u32 0, .int .u32 0, .int .u32 0, .int .u32 0, .int .u32 0, .int .u32 0, .int .u32 0, .int .u32 0, .int .u32 0, .int .u32 0]) (cs := [.int .u32 0, .int .u32 0, .int .u32 0, .int .u32 0, .int .u32 0, .int .u32 0, .int .u32 0, .int .u32 0, .int .u32 0, .int .u32 0, .int .u32 0, .int .u32 0, .int .u32 0, .int .u32 0, .int .u32 0, .int .u32 0, .int .u32 0, .int .u32 0, .int .u32 0, .int .u32 0, .int .u32 0, .int .u32 0, .int .u32 0, .int .u32 0, .int .u32 0, .int .u32 0, .int .u32 0, .int .u32 0]) (by kernel_rfl) rfl) (fun b2 => ?_)
  refine wl_nil ?_
  refine wq_then ?_
  refine wc_seq ?_
  refine wc_region ?_
  refine wl_new .none rfl (nf_alloc (z := .agg #[.int .u32 0, .int .u32 0, .int .u32 0, .int .u32 0, .int .u32 0, .int .u32 0, .int .u32 0, .int .u32 0, .int .u32 0, .int .u32 0, .int .u32 0, .int .u32 0, .int .u32 0, .int .u32 0, .int .u32 0, .int .u32 0, .int .u32 0, .int .u32 0, .int .u32 0, .int .u32 0, .int .u32 0, .int .u32 0, .int .u32 0, .int .u32 0, .int .u32 0, .int .u32 0, .int .u32 0, .int .u32 0]) (cs := [.int .u32 0, .int .u32 0, .int .u32 0, .int .u32 0, .int .u32 0, .int .u32 0, .int .u32 0, .int .u32 0, .int .u32 0, .int .u32 0, .int .u32 0, .int .u32 0, .int .u32 0, .int .u32 0, .int .u32 0, .int .u32 0, .int .u32 0, .int .u32 0, .int .u32 0, .int .u32 0, .int .u32 0, .int .u32 0, .int .u32 0, .int .u32 0, .int .u32 0, .int .u32 0, .int .u32 0, .int .u32 0]) (by kernel_rfl) rfl) (fun b3 => ?_)
  refine wl_nil ?_
  refine wq_then ?_
  refine wc_seq ?_
  refine wc_still 3 (by kernel_rfl) (by kernel_rfl) (fun _ h => HpG.drew h) ?_
  refine wt_free .none rfl (yf_sliceArrAll (size := 1) rfl Try.underlying37 (by kernel_rfl) (by decide)) ?_
  refine wt_free .none rfl (yf_fieldAddr (off := 4) (sz := 0) rfl Try.underlying50 (by kernel_rfl) rfl) ?_
  refine wt_free .none rfl (yf_loadL 2 rfl rfl rfl Try.underlying22 rfl) ?_
  refine wt_tail ?_
  refine wl_chain .none rfl (cf_copy (xs := u32s (x.v.take 28)) 0 rfl rfl rfl Try.underlying22 (by kernel_rfl) (by rw [show (u32s (x.v.take 28)).length = (x.v.take 28).length from List.length_map .., List.length_take]; exact Nat.min_comm ..) (fun w h => by have := (HpG.x h).take 28; rw [u32s, ← List.map_take] at this; exact this) (ints_one' _) (by rw [show (u32s (x.v.take 28)).length = (x.v.take 28).length from List.length_map .., List.length_take]; show 0 + min 28 x.v.length ≤ 28; omega)) (fun _ => ?_)
  refine wl_conseq (H' := Hp (fun _ => False) w [(b3, bk 37 (u32s (suV x))), (b2, bk 37 (u32s (List.replicate 28 0))), (b1, bk 50 (suC x))] [] (Rd x.vA (u32s x.v))) (fun u hu => ?_) ?_
  · rw [← suV_row]; exact hu
  refine wl_nil ?_
  refine wq_then ?_
  refine wc_seq ?_
  refine wc_weak (.cons (i := 0) rfl <| .cons (i := 1) rfl <| .cons (i := 2) rfl <| .cons (i := 3) rfl <| .nil) ?_
  refine wc_region ?_
  refine wl_free .none rfl (yf_loadAllL 0 rfl rfl Try.underlying37 rfl (rd28 hl)) ?_
  refine wl_chain0 .none (cf_storeRow (seg := u32s (suV x)) 1 rfl rfl rfl (List.all_eq_true.2 (ints_one' _)) (by rw [hl]; rfl) (rd28 hl)) (fun _ => ?_)
  refine wl_conseq (H' := Hp (fun _ => False) w [(b3, bk 37 (u32s (suV x))), (b2, bk 37 (u32s (suV x))), (b1, bk 50 (suC x))] [] (Rd x.vA (u32s x.v))) (fun u hu => ?_) ?_
  · have e := row_allN (cs := u32s (List.replicate 28 0)) (seg := u32s (suV x)) (by rw [hl]; rfl)
    have hu2 : Hp (fun _ => False) w [(b3, bk 37 (u32s (suV x))), (b2, bk 37 ((u32s (List.replicate 28 0)).take 0 ++ u32s (suV x) ++ (u32s (List.replicate 28 0)).drop (0 + (u32s (suV x)).length))), (b1, bk 50 (suC x))] [] (Rd x.vA (u32s x.v)) u := hu
    rw [e] at hu2; exact hu2
  refine wl_nil ?_
  refine wq_then ?_
  refine wc_ret ?_
  refine wq_retC rfl rfl 1 rfl Try.underlying37 rfl (rd28 hl) (fun w hw => ?_)
  exact ⟨rfl, (HpG.keep hw).ext⟩
/-! ### Two outcomes -/
theorem ouL_vars (s : EvOut) : ∀ j v, (u32s s.vars)[j]? = some v → (ouL s)[4 + j]? = some v := fun j v h => by
  rw [show 4 + j = j + 4 by omega]; exact h
set_option maxRecDepth 100000 in
theorem equal_any (s : EvOut) (hv : s.vars.length = 28) (w : World) : Calls Try.prog 31 #[.agg (ouL s).toArray, .agg (ouL s).toArray] w fun e w' => e = .returned (.bool true) ∧ Ext w w' := by
  have hl : (u32s s.vars).length = 28 := by rw [show (u32s s.vars).length = s.vars.length from List.length_map .., hv]
  refine calls_wc (args := [.agg (ouL s).toArray, .agg (ouL s).toArray]) Try.func31 rfl 38 rfl (Nat.le_of_ble_eq_true rfl) ?_
  refine wc_weak (.cons (i := 0) rfl <| .cons (i := 1) rfl <| .nil) ?_
  refine wc_conseq (H' := Hp (fun _ => False) w [] [] (fun _ => True)) (fun u hu => ?_) ?_
  · subst hu; exact Hp.start0
  refine wc_seq ?_
  refine wc_region ?_
  refine wl_new .none rfl (nf_box rfl rfl) (fun b2 => ?_)
  refine wl_new .none rfl (nf_box rfl rfl) (fun b3 => ?_)
  refine wl_free .none rfl (yf_assign rfl) ?_
  refine wl_nil ?_
  refine wq_then ?_
  refine wc_seq ?_
  refine wc_region ?_
  refine wl_free .none rfl (yf_fieldAddr (off := 0) (sz := 0) rfl Try.underlying39 (by kernel_rfl) rfl) ?_
  refine wl_free .none rfl (yf_loadL (v := .bool s.lv) 1 rfl rfl rfl Try.underlying4 rfl) ?_
  refine wl_free .none rfl (yf_fieldAddr (off := 0) (sz := 0) rfl Try.underlying57 (by kernel_rfl) rfl) ?_
  refine wl_free .none rfl (yf_loadL (v := .bool s.lv) 0 rfl rfl rfl Try.underlying4 rfl) ?_
  refine wl_free .none rfl (yf_bool_eql rfl rfl Try.underlying4) ?_
  refine wl_free .none rfl (yf_move rfl) ?_
  refine wl_split 10 rfl (fun hb => ?_) (fun hb => ?_)
  · skip
    refine wl_free (.some rfl rfl) rfl (yf_fieldAddr (off := 1) (sz := 0) rfl Try.underlying39 (by kernel_rfl) rfl) ?_
    refine wl_free (.some rfl rfl) rfl (yf_loadL (v := .int .i64 s.idx) 1 rfl rfl rfl Try.underlying3 rfl) ?_
    refine wl_free (.some rfl rfl) rfl (yf_fieldAddr (off := 1) (sz := 0) rfl Try.underlying57 (by kernel_rfl) rfl) ?_
    refine wl_free (.some rfl rfl) rfl (yf_loadL (v := .int .i64 s.idx) 0 rfl rfl rfl Try.underlying3 rfl) ?_
    refine wl_free (.some rfl rfl) rfl (yf_eql rfl rfl) ?_
    refine wl_free .none rfl (yf_pickT rfl rfl) ?_
    refine wl_free .none rfl (yf_move rfl) ?_
    refine wl_split 17 rfl (fun hb => ?_) (fun hb => ?_)
    · replace hb := eq_of_beq hb
      refine wl_free (.some rfl rfl) rfl (yf_fieldAddr (off := 2) (sz := 0) rfl Try.underlying39 (by kernel_rfl) rfl) ?_
      refine wl_free (.some rfl rfl) rfl (yf_loadL (v := .int .i64 s.done) 1 rfl rfl rfl Try.underlying3 rfl) ?_
      refine wl_free (.some rfl rfl) rfl (yf_fieldAddr (off := 2) (sz := 0) rfl Try.underlying57 (by kernel_rfl) rfl) ?_
      refine wl_free (.some rfl rfl) rfl (yf_loadL (v := .int .i64 s.done) 0 rfl rfl rfl Try.underlying3 rfl) ?_
      refine wl_free (.some rfl rfl) rfl (yf_eql rfl rfl) ?_
      refine wl_free .none rfl (yf_pickT rfl rfl) ?_
      refine wl_free .none rfl (yf_move rfl) ?_
      refine wl_split 24 rfl (fun hb => ?_) (fun hb => ?_)
      · replace hb := eq_of_beq hb
        refine wl_free (.some rfl rfl) rfl (yf_fieldAddr (off := 3) (sz := 0) rfl Try.underlying39 (by kernel_rfl) rfl) ?_
        refine wl_free (.some rfl rfl) rfl (yf_loadL (v := .int .u32 s.pc) 1 rfl rfl rfl Try.underlying34 rfl) ?_
        refine wl_free (.some rfl rfl) rfl (yf_fieldAddr (off := 3) (sz := 0) rfl Try.underlying57 (by kernel_rfl) rfl) ?_
        refine wl_free (.some rfl rfl) rfl (yf_loadL (v := .int .u32 s.pc) 0 rfl rfl rfl Try.underlying34 rfl) ?_
        refine wl_free (.some rfl rfl) rfl (yf_eql rfl rfl) ?_
        refine wl_free .none rfl (yf_pickT rfl rfl) ?_
        refine wl_free .none rfl (yf_move rfl) ?_
        refine wl_split 31 rfl (fun hb => ?_) (fun hb => ?_)
        · replace hb := eq_of_beq hb
          refine wl_free (.some rfl rfl) rfl (yf_fieldAddr (off := 4) (sz := 27) rfl Try.underlying39 (by kernel_rfl) rfl) ?_
          refine wl_free (.some rfl rfl) rfl (yf_loadRowL (seg := u32s s.vars) 1 rfl rfl (ouL_vars s) Try.underlying37 rfl (rd28 hl)) ?_
          refine wl_free (.some rfl rfl) rfl (yf_fieldAddr (off := 4) (sz := 27) rfl Try.underlying57 (by kernel_rfl) rfl) ?_
          refine wl_free (.some rfl rfl) rfl (yf_loadRowL (seg := u32s s.vars) 0 rfl rfl (ouL_vars s) Try.underlying37 rfl (rd28 hl)) ?_
          refine wl_free (.some rfl rfl) rfl (yf_eqlAgg (r := true) rfl rfl (by kernel_rfl) (fun W => eq28 hv W)) ?_
          refine wl_free .none rfl (yf_pickT rfl rfl) ?_
          refine wl_free .none rfl (yf_assign rfl) ?_
          refine wl_nil ?_
          refine wq_then ?_
          refine wc_ret ?_
          refine wq_ret1 rfl rfl (fun w hw => ?_)
          exact ⟨rfl, (HpG.keep hw).ext⟩
        · replace hb := beq_no hb
          simp at hb
      · replace hb := beq_no hb
        simp at hb
    · replace hb := beq_no hb
      simp at hb
  · skip
    simp at hb
/-! ### A memory and the reference's -/
def JMR (μ : Mm) (ν : Rm) (w : World) : Prop := OnL (memL μ) w ∧ OnL (refL ν) w
theorem JMR.foot {μ : Mm} {ν : Rm} {w : World} (h : JMR μ ν w) : ∃ F : Nat → Prop, (∀ k, F k → k < w.heap.size ∧ ¬ False) ∧ Foot F (JMR μ ν) w := by
  obtain ⟨F1, h1, g1⟩ := h.1.foot
  obtain ⟨F2, h2, g2⟩ := h.2.foot
  exact ⟨fun k => F1 k ∨ F2 k, fun k hk => hk.elim (h1 k) (h2 k), fun u hu => ⟨g1 u fun k hk => hu k (.inl hk), g2 u fun k hk => hu k (.inr hk)⟩⟩
theorem flat_seg : ∀ {l : List Pg} {i : Nat} {p : Pg}, (∀ x ∈ l, x.c.length = 256) → l[i]? = some p → ((l.flatMap (·.c)).drop (256 * i)).take 256 = p.c
  | [], _, _, _, h => by simp at h
  | y :: l, 0, p, hl, h => by
    simp at h; subst h
    rw [List.flatMap_cons, Nat.mul_zero, List.drop_zero, List.take_append_of_le_length (by rw [hl y (List.mem_cons_self ..)]; exact Nat.le_refl _)]
    exact List.take_of_length_le (by rw [hl y (List.mem_cons_self ..)]; exact Nat.le_refl _)
  | y :: l, i + 1, p, hl, h => by
    rw [List.flatMap_cons, List.drop_append, List.drop_of_length_le (by rw [hl y (List.mem_cons_self ..)]; omega), List.nil_append, hl y (List.mem_cons_self ..), show 256 * (i + 1) - 256 = 256 * i by omega]
    exact flat_seg (fun x hx => hl x (List.mem_cons_of_mem _ hx)) (by simpa using h)
set_option maxRecDepth 100000 in
theorem bytes_any (μ : Mm) (ok : μ.Wf) (ν : Rm) (okν : ν.Ok) (hb : μ.bytes = ν.b) (w : World) (h : JMR μ ν w) : Calls Try.prog 34 #[ptrV μ.M, ptrV ν.M] w fun e w' => e = .returned (.bool true) ∧ Ext w w' := by
  refine calls_wc (args := [ptrV μ.M, ptrV ν.M]) Try.func34 rfl 17 rfl (Nat.le_of_ble_eq_true rfl) ?_
  refine wc_weak (.cons (i := 0) rfl <| .cons (i := 1) rfl <| .nil) ?_
  refine wc_conseq (H' := Hp (fun _ => False) w [] [] (JMR μ ν)) (fun u hu => ?_) ?_
  · subst hu; exact Hp.start h.foot
  refine wc_seq ?_
  refine wc_region ?_
  refine wl_free .none rfl (yf_assign rfl) ?_
  refine wl_nil ?_
  refine wq_then ?_
  refine wc_seq ?_
  refine wc_seq ?_
  refine wc_region ?_
  refine wl_free .none rfl (yf_assign rfl) ?_
  refine wl_nil ?_
  refine wq_then ?_
  refine wc_block ?_
  refine wc_loop (ι := {i : Nat // i ≤ 3}) (fun i => [(0, ptrV μ.M), (1, ptrV ν.M), (5, .int .i64 i.1)]) (fun _ => Hp (fun _ => False) w [] [] (JMR μ ν)) (fun i => 3 - i.1) ⟨0, by omega⟩ ?_ ?_ (fun i => ?_)
  · exact .cons rfl <| .cons rfl <| .consE rfl rfl <| .nil
  · exact fun w h => h
  obtain ⟨i, hi⟩ := i
  dsimp only at hi ⊢
  refine wc_seq ?_
  refine wc_seq ?_
  refine wc_region ?_
  refine wl_free .none rfl (yf_move rfl) ?_
  refine wl_free .none rfl (yf_lss rfl rfl) ?_
  refine wl_nil ?_
  refine wq_then ?_
  refine wc_cond rfl (fun hc => ?_) (fun hc => ?_)
  · replace hc := of_decide_eq_true hc
    obtain ⟨p, hp, hpm⟩ := ok.page (i := i) (by omega)
    have hseg : (ν.b.drop (256 * i)).take 256 = p.c := by rw [← hb]; exact flat_seg (fun x hx => (ok.c x hx).1) hp
    refine wc_skip ?_
    refine wq_then ?_
    refine wc_seq ?_
    refine wc_block ?_
    refine wc_seq ?_
    refine wc_weak (.cons (i := 0) rfl <| .cons (i := 1) rfl <| .cons (i := 5) rfl <| .cons (i := 7) rfl <| .nil) ?_
    refine wc_region ?_
    refine wl_free .none rfl (yf_move rfl) ?_
    refine wl_free .none rfl (yf_move rfl) ?_
    refine wl_pure .none rfl (by kernel_rfl) rfl (fun w hw => page_any μ ok i p hp w (HpG.x hw).1) ?_
    refine wl_free .none rfl (yf_move rfl) ?_
    refine wl_free .none rfl (yf_move rfl) ?_
    refine wl_pure .none rfl (by kernel_rfl) rfl (fun w hw => by have := refPage_any ν okν i (by omega) w (HpG.x hw).2; rw [hseg] at this; exact this) ?_
    refine wl_free .none rfl (yf_str_neq rfl rfl Try.underlying9) ?_
    refine wl_nil ?_
    refine wq_then ?_
    refine wc_cond rfl (fun hc => ?_) (fun hc => ?_)
    · skip
      simp at hc
    · skip
      refine wc_skip ?_
      refine wq_block ?_
      refine wq_then ?_
      refine wc_weak (.cons (i := 0) rfl <| .cons (i := 1) rfl <| .cons (i := 5) rfl <| .cons (i := 7) rfl <| .cons (i := 16) rfl <| .nil) ?_
      refine wc_region ?_
      refine wl_free .none rfl (yf_move rfl) ?_
      first | (refine wl_free .none rfl (yf_add rfl rfl (i64_in _ ?_ ?_)) ?_; (· omega); (· omega); skip) | refine wl_free .none rfl (yf_add rfl rfl rfl) ?_
      refine wl_free .none rfl (yf_assign rfl) ?_
      refine wl_nil ?_
      refine wq_round (ι := {i : Nat // i ≤ 3}) ⟨i + 1, by omega⟩ ?_ ?_ (fun u h => h)
      · show 3 - (i + 1) < 3 - i; omega
      · exact .cons rfl <| .cons rfl <| .consE rfl rfl <| .nil
  · replace hc := of_decide_eq_false hc
    refine wc_exit ?_
    refine wq_then_exit ?_
    refine wq_then_exit ?_
    refine wq_here ?_
    refine wq_then ?_
    refine wc_seq ?_
    refine wc_weak (.cons (i := 0) rfl <| .cons (i := 1) rfl <| .cons (i := 5) rfl <| .cons (i := 7) rfl <| .nil) ?_
    refine wc_region ?_
    refine wl_free .none rfl (yf_assign rfl) ?_
    refine wl_nil ?_
    refine wq_then ?_
    refine wc_ret ?_
    refine wq_ret1 rfl rfl (fun w hw => ?_)
    exact ⟨rfl, (HpG.keep hw).ext⟩
end Go.Proofs.Ytojofinofpgopaa
