/- Right. -/
import Derived.Test.YtfpkpnkdnammnaaGreatDoorSyZ
import Derived.Test.YtfpkpnkdnammnaaGreatDoorSyV
namespace Go.Proofs.YtfpkpnkdnammnaaGreatDoor
open Go.RowKit
theorem sizeOf_st {k : Nat} {s : Bs} {es : List Ex} {b c : List St} {x : St} (h : x ∈ b ∨ x ∈ c) : SizeOf.sizeOf x < SizeOf.sizeOf (St.mk k s es b c) := by
  rcases h with h | h
  · have := List.sizeOf_lt_of_mem h
    simp only [St.mk.sizeOf_spec]
    omega
  · have := List.sizeOf_lt_of_mem h
    simp only [St.mk.sizeOf_spec]
    omega
theorem rightS_all : ∀ (N : Nat) (x : St), SizeOf.sizeOf x < N → RS x
  | 0, _, h => absurd h (by omega)
  | N + 1, .mk k s es b c, h => rightS_step k s es b c (fun x hx => rightS_all N x (by have := sizeOf_st (k := k) (s := s) (es := es) (c := c) (.inl hx); omega)) (fun x hx => rightS_all N x (by have := sizeOf_st (k := k) (s := s) (es := es) (b := b) (.inr hx); omega))
theorem rightS_any (x : St) : RS x := rightS_all _ x (Nat.lt_succ_self _)
/-! ### Right -/
def PrB (fv : Value) (q : Bs → Bool) : Prop := ∃ f, fv = .func (.func f) #[] #[] ∧ goes Tryz.prog f = true ∧ ∀ s w, Calls Tryz.prog f #[.string ⟨s.toArray⟩] w fun e w' => e = .returned (.bool (q s)) ∧ Ext w w'
set_option maxRecDepth 100000 in
theorem indexB_any (l : List Bs) (A0 : Option Addr) (cap0 : Nat) (hl : Cp l.length cap0) {F : Nat → Prop} {fv : Value} {q : Bs → Bool} (hq : PrB fv q) (w_0 : World) (h : RdF F A0 (strs l) w_0) : Calls Tryz.prog 91 #[.slice A0 l.length cap0, fv] w_0 fun e w' => e = .returned (.int .i64 (idxQ q l)) ∧ Ext w_0 w' := by
  have hlt := hl.lt
  have hA : 0 < l.length → ∃ b off, A0 = some ⟨b, off, none⟩ := fun h0 => by
    obtain ⟨b, off, e, _⟩ := h (by simpa using h0)
    exact ⟨b, off, e⟩
  obtain ⟨f, rfl, hgo, hC⟩ := hq
  refine calls_wc (args := [.slice A0 l.length cap0, .func (.func f) #[] #[]]) Tryz.func91 rfl 19 rfl (Nat.le_of_ble_eq_true rfl) ?_
  refine wc_weak (.cons (i := 0) rfl <| .cons (i := 1) rfl <| .nil) ?_
  refine wc_conseq (H' := Hp (fun _ => False) w_0 [] [] (RdF F A0 (strs l))) (fun u hu => ?_) ?_
  · subst hu; exact Hp.startT RdF.lies h
  refine wc_seq ?_
  refine wc_region ?_
  refine wl_free .none rfl (yf_assign rfl) ?_
  refine wl_nil ?_
  refine wq_then ?_
  refine wc_seq ?_
  refine wc_seq ?_
  refine wc_region ?_
  refine wl_free .none rfl (yf_move rfl) ?_
  refine wl_free .none rfl (yf_lenS rfl Tryz.underlying22) ?_
  refine wl_free .none rfl (yf_move rfl) ?_
  refine wl_nil ?_
  refine wq_then ?_
  refine wc_block ?_
  refine wc_loop (ι := {k : Nat // IxQ q l k}) (fun k => [(0, .slice A0 l.length cap0), (1, .func (.func f) #[] #[]), (7, .int .i64 l.length), (8, .int .i64 k.1)]) (fun _ => Hp (fun _ => False) w_0 [] [] (RdF F A0 (strs l))) (fun k => l.length - k.1) ⟨0, Nat.zero_le _, fun _ _ h => absurd h (by omega)⟩ ?_ ?_ (fun k => ?_)
  · exact .cons rfl <| .cons rfl <| .cons rfl <| .cons rfl <| .nil
  · exact fun w h => h
  obtain ⟨k, hk, hno⟩ := k
  dsimp only
  refine wc_seq ?_
  refine wc_region ?_
  refine wl_free .none rfl (yf_lss rfl rfl) ?_
  refine wl_nil ?_
  refine wq_then ?_
  refine wc_seq ?_
  refine wc_cond rfl (fun hc => ?_) (fun hc => ?_)
  · replace hc := of_decide_eq_true hc
    obtain ⟨b, off, rfl⟩ := hA (by omega)
    have hkl : k < l.length := by omega
    obtain ⟨x, hx⟩ : ∃ x, l[k]? = some x := ⟨l[k], List.getElem?_eq_getElem hkl⟩
    refine wc_skip ?_
    refine wq_then ?_
    refine wc_seq ?_
    refine wc_block ?_
    refine wc_seq ?_
    refine wc_region ?_
    refine wl_free .none rfl (yf_move rfl) ?_
    refine wl_free .none rfl (yf_assign rfl) ?_
    refine wl_nil ?_
    refine wq_then ?_
    refine wc_seq ?_
    refine wc_weak (.cons (i := 0) rfl <| .cons (i := 1) rfl <| .cons (i := 5) rfl <| .cons (i := 7) rfl <| .cons (i := 8) rfl <| .cons (i := 9) rfl <| .nil) ?_
    refine wc_region ?_
    refine wl_free .none rfl (yf_move rfl) ?_
    refine wl_free .none rfl (yf_move rfl) ?_
    refine wl_free .none rfl (yf_move rfl) ?_
    (refine wl_free .none rfl (yf_indexAddrS (es := 1) rfl rfl Tryz.underlying22 (by kernel_rfl) rfl ?_ rfl) ?_; (· first | decide | omega | (simp; done) | (simp; omega)); skip)
    refine wl_free .none rfl (yf_load (v := .string ⟨x.toArray⟩) rfl Tryz.underlying9 rfl (fun w h => RdF.part (HpG.x h) (by simpa using hkl) (by omega) (strs_at hx))) ?_
    refine wl_chain (ι := Unit) (val := fun _ => .bool (q x)) (H' := fun _ => Hp (fun _ => False) w_0 [] [] (RdF F (some ⟨b, off, none⟩) (strs l))) .none rfl  (cf_callV (us := []) (vs := [.string ⟨x.toArray⟩]) (cs := []) (args := [.tmp 15]) hgo rfl rfl (fun w hw => (hC x w).mono fun e w' ⟨e1, e2⟩ => ⟨_, e1, (), rfl, HpG.onE hw e2⟩)) (fun _ => ?_)
    refine wl_nil ?_
    refine wq_then ?_
    refine wc_cond rfl (fun he => ?_) (fun he => ?_)
    · skip
      refine wc_seq ?_
      refine wc_weak (.cons (i := 0) rfl <| .cons (i := 1) rfl <| .cons (i := 5) rfl <| .cons (i := 7) rfl <| .cons (i := 8) rfl <| .cons (i := 9) rfl <| .cons (i := 16) rfl <| .nil) ?_
      refine wc_region ?_
      refine wl_free .none rfl (yf_move rfl) ?_
      refine wl_free .none rfl (yf_assign rfl) ?_
      refine wl_nil ?_
      refine wq_then ?_
      refine wc_ret ?_
      refine wq_block_ret ?_
      refine wq_then_ret ?_
      refine wq_then_ret ?_
      refine wq_block_ret ?_
      refine wq_then_ret ?_
      refine wq_ret1 rfl rfl (fun w hw => ?_)
      exact ⟨by rw [idxQ_at ⟨hk, hno⟩ hx he], (HpG.keep hw).ext⟩
    · skip
      refine wc_skip ?_
      refine wq_block ?_
      refine wq_then ?_
      refine wc_weak (.cons (i := 0) rfl <| .cons (i := 1) rfl <| .cons (i := 5) rfl <| .cons (i := 7) rfl <| .cons (i := 8) rfl <| .cons (i := 9) rfl <| .cons (i := 16) rfl <| .nil) ?_
      refine wc_region ?_
      (refine wl_free .none rfl (yf_add rfl rfl (i64_in _ ?_ ?_)) ?_; (· omega); (· omega); skip)
      refine wl_free .none rfl (yf_move rfl) ?_
      refine wl_nil ?_
      refine wq_round (ι := {k : Nat // IxQ q l k}) ⟨k + 1, by omega, fun j y hj hy => ?_⟩ (by show l.length - (k + 1) < l.length - k; omega) (.cons rfl <| .cons rfl <| .cons rfl <| .cons rfl <| .nil) (fun w h => h)
      rcases Nat.lt_or_ge j k with h1 | h1
      · exact hno j y h1 hy
      · have : j = k := by omega
        subst this
        rw [hx] at hy; cases hy; exact he
  · replace hc := of_decide_eq_false hc
    have hke : k = l.length := by omega
    refine wc_exit ?_
    refine wq_then_exit ?_
    refine wq_then_exit ?_
    refine wq_here ?_
    refine wq_then ?_
    refine wc_seq ?_
    refine wc_region ?_
    refine wl_free .none rfl (yf_assign rfl) ?_
    refine wl_nil ?_
    refine wq_then ?_
    refine wc_ret ?_
    refine wq_ret1 rfl rfl (fun w hw => ?_)
    exact ⟨by rw [idxQ_none ⟨Nat.le_refl _, fun j y hj hy => hno j y (by rw [hke]; exact hj) hy⟩], (HpG.keep hw).ext⟩
set_option maxRecDepth 100000 in
theorem containsB_any (l : List Bs) (A0 : Option Addr) (cap0 : Nat) (hl : Cp l.length cap0) {F : Nat → Prop} {fv : Value} {q : Bs → Bool} (hq : PrB fv q) (w_0 : World) (h : RdF F A0 (strs l) w_0) : Calls Tryz.prog 54 #[.slice A0 l.length cap0, fv] w_0 fun e w' => e = .returned (.bool (l.any q)) ∧ Ext w_0 w' := by
  have hq0 := hq
  obtain ⟨f, rfl, hgo, hC⟩ := hq0
  refine calls_wc (args := [.slice A0 l.length cap0, .func (.func f) #[] #[]]) Tryz.func54 rfl 9 rfl (Nat.le_of_ble_eq_true rfl) ?_
  refine wc_weak (.cons (i := 0) rfl <| .cons (i := 1) rfl <| .nil) ?_
  refine wc_conseq (H' := Hp (fun _ => False) w_0 [] [] (RdF F A0 (strs l))) (fun u hu => ?_) ?_
  · subst hu; exact Hp.startT RdF.lies h
  refine wc_seq ?_
  refine wc_region ?_
  refine wl_free .none rfl (yf_assign rfl) ?_
  refine wl_nil ?_
  refine wq_then ?_
  refine wc_seq ?_
  refine wc_region ?_
  refine wl_free .none rfl (yf_move rfl) ?_
  refine wl_free .none rfl (yf_move rfl) ?_
  refine wl_pure .none rfl  (v := .int .i64 (idxQ q l)) (by kernel_rfl) rfl (fun w hw => indexB_any l A0 cap0 hl hq w (HpG.x hw)) ?_
  refine wl_free .none rfl (yf_geq rfl rfl) ?_
  refine wl_free .none rfl (yf_assign rfl) ?_
  refine wl_nil ?_
  refine wq_then ?_
  refine wc_ret ?_
  refine wq_ret1 rfl rfl (fun w hw => ?_)
  exact ⟨by rw [idxQ_ge], (HpG.keep hw).ext⟩
set_option maxRecDepth 100000 in
theorem prb_name : PrB (.func (.func 55) #[] #[]) (fun s => !isNameL s) := ⟨_, rfl, by kernel_rfl, fun s w_0 => by
  show Calls Tryz.prog 55 #[.string ⟨s.toArray⟩] w_0 fun e w' => e = .returned (.bool (!isNameL s)) ∧ Ext w_0 w'
  refine calls_wc (args := [.string ⟨s.toArray⟩]) Tryz.func55 rfl 6 rfl (Nat.le_of_ble_eq_true rfl) ?_
  refine wc_weak (.cons (i := 0) rfl <| .nil) ?_
  refine wc_conseq (H' := Hp (fun _ => False) w_0 [] [] (fun _ => True)) (fun u hu => ?_) ?_
  · subst hu; exact Hp.start0
  refine wc_seq ?_
  refine wc_region ?_
  refine wl_free .none rfl (yf_assign rfl) ?_
  refine wl_nil ?_
  refine wq_then ?_
  refine wc_seq ?_
  refine wc_region ?_
  refine wl_free .none rfl (yf_move rfl) ?_
  refine wl_pure .none rfl  (v := .bool (isNameL s)) (by kernel_rfl) rfl (fun w hw => ident_any s w) ?_
  refine wl_free .none rfl (yf_not rfl) ?_
  refine wl_free .none rfl (yf_assign rfl) ?_
  refine wl_nil ?_
  refine wq_then ?_
  refine wc_ret ?_
  refine wq_ret1 rfl rfl (fun w hw => ?_)
  exact ⟨rfl, (HpG.keep hw).ext⟩
  ⟩
theorem any_notB (l : List Bs) : (l.any fun x => !isNameL x) = !l.all isNameL := by
  induction l with
  | nil => rfl
  | cons x l ih => simp only [List.any_cons, List.all_cons, Bool.not_and, ih]
set_option maxRecDepth 100000 in
theorem pr_rightF (l : List Fn) : PrF (.func (.func 53) #[] #[]) l (fun x => !rightFn x) (fun _ => True) := ⟨_, [], [], rfl, by kernel_rfl, fun _ _ _ _ => trivial, fun x hx F a w_0 hk _ => by
  show Calls Tryz.prog 53 #[.agg (fnOf x a).toArray] w_0 fun e w' => e = .returned (.bool (!rightFn x)) ∧ Ext w_0 w'
  have hb : ∀ w, fnsK F w x a → blkK F w x.body a.A2 a.c2 := fun w h => ⟨h.p2, h.h2⟩
  unfold rightFn
  refine calls_wc (args := [.agg (fnOf x a).toArray]) Tryz.func53 rfl 20 rfl (Nat.le_of_ble_eq_true rfl) ?_
  refine wc_weak (.cons (i := 0) rfl <| .nil) ?_
  refine wc_conseq (H' := Hp (fun _ => False) w_0 [] [] (fun u => fnsK F u x a)) (fun u hu => ?_) ?_
  · subst hu; exact Hp.startT fnsK.lies hk
  refine wc_seq ?_
  refine wc_region ?_
  refine wl_new .none rfl (nf_box rfl rfl) (fun b1 => ?_)
  refine wl_free .none rfl (yf_assign rfl) ?_
  refine wl_nil ?_
  refine wq_then ?_
  refine wc_seq ?_
  refine wc_region ?_
  refine wl_free .none rfl (yf_fieldAddr (off := 1) (sz := 0) rfl Tryz.underlying62 (by kernel_rfl) rfl) ?_
  refine wl_free .none rfl (yf_loadL 0 rfl rfl rfl Tryz.underlying22 rfl) ?_
  refine wl_pure .none rfl  (v := .bool (x.params.any fun x => !isNameL x)) (by kernel_rfl) rfl (fun w hw => containsB_any x.params a.A1 a.c1 (HpG.x hw).p1 prb_name w (HpG.x hw).h1) ?_
  refine wl_free .none rfl (yf_assign rfl) ?_
  refine wl_nil ?_
  refine wq_then ?_
  refine wc_seq ?_
  refine wc_weak (.cons (i := 0) rfl <| .cons (i := 1) rfl <| .cons (i := 2) rfl <| .cons (i := 3) rfl <| .nil) ?_
  refine wc_region ?_
  rw [any_notB]
  refine wl_free .none rfl (yf_move rfl) ?_
  refine wl_free .none rfl (yf_move rfl) ?_
  refine wl_split 8 rfl (fun g2 => ?_) (fun g2 => ?_)
  · skip
    refine wl_pass (.some rfl rfl rfl) rfl ?_
    refine wl_pass (.some rfl rfl rfl) rfl ?_
    refine wl_pass (.some rfl rfl rfl) rfl ?_
    refine wl_pass (.some rfl rfl rfl) rfl ?_
    refine wl_free .none rfl (yf_pickT rfl rfl) ?_
    refine wl_free .none rfl (yf_move rfl) ?_
    refine wl_pass (.some rfl rfl rfl) rfl ?_
    refine wl_pass (.some rfl rfl rfl) rfl ?_
    refine wl_pass (.some rfl rfl rfl) rfl ?_
    refine wl_pass (.some rfl rfl rfl) rfl ?_
    refine wl_free .none rfl (yf_pickT rfl rfl) ?_
    refine wl_free .none rfl (yf_assign rfl) ?_
    refine wl_nil ?_
    refine wq_then ?_
    refine wc_ret ?_
    refine wq_ret1 rfl rfl (fun w hw => ?_)
    refine ⟨?_, (HpG.keep hw).ext⟩
    congr 2
    rw [Bool.eq_iff_iff]
    simp_all
  · skip
    refine wl_free (.some rfl rfl) rfl (yf_fieldAddr (off := 0) (sz := 0) rfl Tryz.underlying62 (by kernel_rfl) rfl) ?_
    refine wl_free (.some rfl rfl) rfl (yf_loadL 0 rfl rfl rfl Tryz.underlying9 rfl) ?_
    refine wl_pure (.some rfl rfl) rfl  (v := .bool (isNameL x.name)) (by kernel_rfl) rfl (fun w hw => ident_any x.name w) ?_
    refine wl_free (.some rfl rfl) rfl (yf_not rfl) ?_
    refine wl_free .none rfl (yf_pickF rfl rfl) ?_
    refine wl_free .none rfl (yf_move rfl) ?_
    refine wl_split 14 rfl (fun g8 => ?_) (fun g8 => ?_)
    · skip
      refine wl_pass (.some rfl rfl rfl) rfl ?_
      refine wl_pass (.some rfl rfl rfl) rfl ?_
      refine wl_pass (.some rfl rfl rfl) rfl ?_
      refine wl_pass (.some rfl rfl rfl) rfl ?_
      refine wl_free .none rfl (yf_pickT rfl rfl) ?_
      refine wl_free .none rfl (yf_assign rfl) ?_
      refine wl_nil ?_
      refine wq_then ?_
      refine wc_ret ?_
      refine wq_ret1 rfl rfl (fun w hw => ?_)
      refine ⟨?_, (HpG.keep hw).ext⟩
      congr 2
      rw [Bool.eq_iff_iff]
      simp_all
    · skip
      refine wl_free (.some rfl rfl) rfl (yf_fieldAddr (off := 2) (sz := 0) rfl Tryz.underlying62 (by kernel_rfl) rfl) ?_
      refine wl_free (.some rfl rfl) rfl (yf_loadL 0 rfl rfl rfl Tryz.underlying58 rfl) ?_
      refine wl_pure (.some rfl rfl) rfl  (v := .bool (rightSts x.body)) (by kernel_rfl) rfl (fun w hw => rightB_any x.body (fun y _ => rightS_any y) F a.A2 a.c2 w (hb w (HpG.x hw))) ?_
      refine wl_free (.some rfl rfl) rfl (yf_not rfl) ?_
      refine wl_free .none rfl (yf_pickF rfl rfl) ?_
      refine wl_free .none rfl (yf_assign rfl) ?_
      refine wl_nil ?_
      refine wq_then ?_
      refine wc_ret ?_
      refine wq_ret1 rfl rfl (fun w hw => ?_)
      refine ⟨?_, (HpG.keep hw).ext⟩
      congr 2
      rw [Bool.eq_iff_iff]
      simp_all
  ⟩
theorem any_notF (l : List Fn) : (!l.any fun x => !rightFn x) = rightP l := by
  unfold rightP
  induction l with
  | nil => rfl
  | cons x l ih => simp only [List.any_cons, List.all_cons, Bool.not_or, Bool.not_not, ih]
set_option maxHeartbeats 1000000 in
set_option maxRecDepth 100000 in
theorem right_any (l : List Fn) (F : Nat → Prop) (A : Option Addr) (cap : Nat) (w_0 : World) (hk : PgK F w_0 l A cap) : Calls Tryz.prog 27 #[.agg [Value.slice A l.length cap].toArray] w_0 fun e w' => e = .returned (.bool (rightP l)) ∧ Ext w_0 w' := by
  obtain ⟨hcp, cs, hk⟩ := hk
  refine calls_wc (args := [Value.agg [Value.slice A l.length cap].toArray]) Tryz.func27 rfl 7 rfl (Nat.le_of_ble_eq_true rfl) ?_
  refine wc_weak (.cons (i := 0) rfl <| .nil) ?_
  refine wc_conseq (H' := Hp (fun _ => False) w_0 [] [] (fun u => RdF F A cs u ∧ FnsV F u l cs)) (fun u hu => ?_) ?_
  · subst hu; exact Hp.startT (T := fun F u => RdF F A cs u ∧ FnsV F u l cs) ⟨fun hk ⟨a, b⟩ => ⟨RdF.lies.foot hk a, FnsV.lies.foot hk b⟩, fun ⟨a, b⟩ => ⟨RdF.lies.lt a, FnsV.lies.lt b⟩, fun hF ⟨a, b⟩ => ⟨RdF.lies.mono hF a, FnsV.lies.mono hF b⟩⟩ hk
  refine wc_seq ?_
  refine wc_region ?_
  refine wl_new .none rfl (nf_box rfl rfl) (fun b1 => ?_)
  refine wl_free .none rfl (yf_assign rfl) ?_
  refine wl_nil ?_
  refine wq_then ?_
  refine wc_seq ?_
  refine wc_region ?_
  refine wl_free .none rfl (yf_fieldAddr (off := 0) (sz := 0) rfl Tryz.underlying32 (by kernel_rfl) rfl) ?_
  refine wl_free .none rfl (yf_loadL 0 rfl rfl rfl Tryz.underlying30 rfl) ?_
  refine wl_pure .none rfl  (v := .bool (l.any fun x => !rightFn x)) (by kernel_rfl) rfl (fun w hw => containsF_any l A cap hcp cs (pr_rightF l) w (HpG.x hw) trivial) ?_
  refine wl_free .none rfl (yf_not rfl) ?_
  refine wl_free .none rfl (yf_assign rfl) ?_
  refine wl_nil ?_
  refine wq_then ?_
  refine wc_ret ?_
  refine wq_ret1 rfl rfl (fun w hw => ?_)
  exact ⟨by rw [any_notF], (HpG.keep hw).ext⟩
end Go.Proofs.YtfpkpnkdnammnaaGreatDoor
