/- rightExpr. -/
import Derived.Test.YtfpkpnkdnammnaaGreatDoorSyX
namespace Go.Proofs.YtfpkpnkdnammnaaGreatDoor
open Go.RowKit
section
variable {ops : Array Oper} {Q : Exit → Act → World → Prop} {n : Nat} {m : List (Nat × Value)} {ty : TypeId} {G B : Nat → Prop} {w0 : World} {L : List (Nat × Obj)} {R : List Rw} {X J : World → Prop} {σ : List Nat} {d : Nat} {pos : String} {af : Array Edge} {gd : Option (Nat × Bool)}
theorem wd_levels (hB : ∀ k, B k → k < w0.heap.size) (hJ : ∀ w w', J w → Ext w w' → J w') (hg : Gd ops m gd) (hd : Nat.blt d n = true) (h : ∀ g F, (∀ k, F k → w0.heap.size ≤ k) → WD Tryz.prog ops J Q σ (fun j => F j ∨ G j) n ((d, .map (some g)) :: m) (HpG (fun j => F j ∨ G j) B w0 L R (fun u => MapF F g levT u ∧ X u))) :
    WDo Tryz.prog ops J Q ⟨some d, .call { callee := .value (.func 155), args := #[], argTypes := #[] }, ty, pos, af, gd⟩ σ G n m (HpG G B w0 L R X) :=
  wd_callX (ι := Nat) (C := fun _ => True) (val := fun g => .map (some g)) (TT := fun g F u => MapF F g levT u) (args := []) (vs := []) hg hd (by kernel_rfl) rfl hB (fun _ => MapF.lies) hJ (fun w _ => (levels_any w).mono fun e w' ⟨g, e1, e2, e3⟩ => ⟨g, trivial, e1, e2, e3⟩) fun g F _ hF => h g F hF
end
theorem sizeOf_kids {k n : Nat} {s : Bs} {l : List Ex} {x : Ex} (h : x ∈ l) : SizeOf.sizeOf x < SizeOf.sizeOf (Ex.mk k n s l) := by
  have := List.sizeOf_lt_of_mem h
  simp only [Ex.mk.sizeOf_spec]
  omega
/-- What rightExpr answers at an expression. -/
def RE (x : Ex) : Prop := ∀ F A cap w, exsK F w x A cap → Calls Tryz.prog 133 #[.agg (exOf x A cap).toArray] w fun e w' => e = .returned (.bool (rightEx x)) ∧ Ext w w'
theorem rightE1_any (x : Ex) (hx : RE x) (F : Nat → Prop) (A : Option Addr) (cap : Nat) (w_0 : World) (h : exsK F w_0 x A cap) : Calls Tryz.prog 156 #[.agg (exOf x A cap).toArray] w_0 fun e w' => e = .returned (.bool (!rightEx x)) ∧ Ext w_0 w' := by
  refine calls_wc (args := [.agg (exOf x A cap).toArray]) Tryz.func156 rfl 6 rfl (Nat.le_of_ble_eq_true rfl) ?_
  refine wc_weak (.cons (i := 0) rfl <| .nil) ?_
  refine wc_conseq (H' := Hp (fun _ => False) w_0 [] [] (fun u => exsK F u x A cap)) (fun u hu => ?_) ?_
  · subst hu; exact Hp.startT exsK.lies h
  refine wc_seq ?_
  refine wc_region ?_
  refine wl_new .none rfl (nf_box rfl rfl) (fun b1 => ?_)
  refine wl_free .none rfl (yf_assign rfl) ?_
  refine wl_nil ?_
  refine wq_then ?_
  refine wc_seq ?_
  refine wc_region ?_
  refine wl_free .none rfl (yf_loadAllL 0 rfl rfl Tryz.underlying57 rfl (by kernel_rfl)) ?_
  refine wl_pure .none rfl  (v := .bool (rightEx x)) (by kernel_rfl) rfl (fun w hw => hx F A cap w (HpG.x hw)) ?_
  refine wl_free .none rfl (yf_not rfl) ?_
  refine wl_free .none rfl (yf_assign rfl) ?_
  refine wl_nil ?_
  refine wq_then ?_
  refine wc_ret ?_
  refine wq_ret1 rfl rfl (fun w hw => ?_)
  exact ⟨rfl, (HpG.keep hw).ext⟩
theorem pr_right (l : List Ex) (h : ∀ x ∈ l, RE x) : PrE (.func (.func 156) #[] #[]) l (fun x => !rightEx x) (fun _ => True) := ⟨_, [], [], rfl, by kernel_rfl, fun _ _ _ _ => trivial, fun x hx F A cap w hk _ => rightE1_any x (h x hx) F A cap w hk⟩
theorem any_not (l : List Ex) : (!l.any fun x => !rightEx x) = rightExs l := by
  rw [rightExs_eq]
  induction l with
  | nil => rfl
  | cons x l ih => simp only [List.any_cons, List.all_cons, Bool.not_or, Bool.not_not, ih]
theorem okEx_1 {k len : Nat} {s : Bs} (h : k = 1 ∨ k = 5) : okEx k s len = (decide (s = []) && decide (len = 0)) := by unfold okEx; rw [if_pos h]
theorem okEx_2 {k len : Nat} {s : Bs} (h : k = 2) : okEx k s len = (isNameL s && decide (len = 0)) := by subst h; rfl
theorem okEx_3 {k len : Nat} {s : Bs} (h : k = 3) : okEx k s len = isNameL s := by subst h; rfl
theorem okEx_4 {k len : Nat} {s : Bs} (h : k = 4) : okEx k s len = (decide (s = []) && decide (len = 1)) := by subst h; rfl
theorem okEx_6 {k len : Nat} {s : Bs} (h : k = 6) : okEx k s len = (decide (s ∈ unL3) && decide (len = 1)) := by subst h; rfl
theorem okEx_7 {k len : Nat} {s : Bs} (h : k = 7) : okEx k s len = ((levOf s).isSome && decide (len = 2)) := by subst h; rfl
theorem okEx_0 {k len : Nat} {s : Bs} (h : k ≠ 1 ∧ k ≠ 5 ∧ k ≠ 2 ∧ k ≠ 3 ∧ k ≠ 4 ∧ k ≠ 6 ∧ k ≠ 7) : okEx k s len = false := by
  obtain ⟨h1, h5, h2, h3, h4, h6, h7⟩ := h
  unfold okEx
  rw [if_neg (by omega), if_neg h2, if_neg h3, if_neg h4, if_neg h6, if_neg h7]
theorem rightEx_eq (k n : Nat) (s : Bs) (kids : List Ex) : rightEx (.mk k n s kids) = (okEx k s kids.length && (decide (k = 1) || decide (n = 0)) && rightExs kids) := by simp only [rightEx]
theorem mem3 (w0 : World) {G B : Nat → Prop} {L : List (Nat × Obj)} {R : List Rw} {X : World → Prop} {w : World} {b T : Nat} (h : HpG G B w0 ((b, bk T (strs unL3)) :: L) R X w) : RdF (fun _ => True) (some ⟨b, 0, none⟩) (strs unL3) w := HpG.rdF (j := 0) h rfl trivial
set_option maxHeartbeats 2000000 in
set_option maxRecDepth 100000 in
theorem rightE_step (k n : Nat) (s : Bs) (kids : List Ex) (IH : ∀ x ∈ kids, RE x) : RE (.mk k n s kids) := by
  intro F A cap w_0 h
  obtain ⟨hle, kc, hk1, hk2⟩ := h
  dsimp only [Ex.kids] at hk2 hle
  rw [rightEx_eq]
  refine calls_wc (args := [.agg (exC k n s A kids.length cap).toArray]) Tryz.func133 rfl 92 rfl (Nat.le_of_ble_eq_true rfl) ?_
  refine wc_weak (.cons (i := 0) rfl <| .nil) ?_
  refine wc_conseq (H' := Hp (fun _ => False) w_0 [] [] (fun u => RdF F A kc u ∧ ExsV F u kids kc)) (fun u hu => ?_) ?_
  · subst hu; exact Hp.startT (T := fun F u => RdF F A kc u ∧ ExsV F u kids kc) ⟨fun hk ⟨a, b⟩ => ⟨RdF.lies.foot hk a, ExsV.lies.foot hk b⟩, fun ⟨a, b⟩ => ⟨RdF.lies.lt a, ExsV.lies.lt b⟩, fun hF ⟨a, b⟩ => ⟨RdF.lies.mono hF a, ExsV.lies.mono hF b⟩⟩ ⟨hk1, hk2⟩
  refine wc_seq ?_
  refine wc_region ?_
  refine wl_new .none rfl (nf_box rfl rfl) (fun b1 => ?_)
  refine wl_free .none rfl (yf_assign rfl) ?_
  refine wl_nil ?_
  refine wq_then ?_
  refine wc_seq ?_
  refine wc_region ?_
  refine wl_free .none rfl (yf_assign rfl) ?_
  refine wl_nil ?_
  refine wq_then ?_
  refine wc_cut (ι := Unit) (fun _ => [(1, .pointer (some ⟨b1, 0, none⟩)), (3, .bool false), (5, .bool (levOf s).isSome)]) (fun _ => Hp (fun _ => False) w_0 [(b1, bk 57 (exC k n s A kids.length cap))] [] (fun u => RdF F A kc u ∧ ExsV F u kids kc)) ?_ (fun _ => ?_)
  · skip
    refine wc_drawA 3 [1, 2, 0] (Blk b1 _) (by kernel_rfl) (by kernel_rfl) Blk.stab (fun w h => HpG.blk h (k := 0) rfl) (fun n0 hn0 => ?_)
    refine wd_at rfl ?_
    (refine wd_free ?_ .none rfl (yf_fieldAddr (off := 2) (sz := 0) rfl Tryz.underlying57 (by kernel_rfl) rfl) ?_; (· rfl);  skip)
    refine wd_at rfl ?_
    (refine wd_free ?_ .none rfl (yf_loadJ rfl rfl Tryz.underlying9 rfl) ?_; (· rfl);  skip)
    refine wd_at rfl ?_
    refine wd_levels (fun _ h => h.elim) (fun w w' h hx => Blk.onE h hx) .none rfl  (fun gl FL hFL => ?_)
    refine wd_endA ?_
    refine wa_step (k := 5) [3] (by kernel_rfl) (by simp) ⟨⟨_, rfl, ?_⟩, trivial⟩
    · skip
      refine wl_free .none rfl (yf_lookupS rfl rfl (fun w h => (HpG.x h).1.2.2) Tryz.underlying185 Tryz.underlying9 zero_int) ?_
      refine wl_nil ?_
      refine wq_any ?_
      refine wa_step (k := 4) [4] (by kernel_rfl) (by simp) ⟨⟨_, rfl, ?_⟩, trivial⟩
      · skip
        refine wl_free .none rfl (yf_move rfl) ?_
        refine wl_nil ?_
        refine wq_any ?_
        refine wa_step (k := 3) [5, 6] (by kernel_rfl) (by simp) ⟨⟨_, rfl, ?_⟩, ⟨_, rfl, ?_⟩, trivial⟩
        · skip
          refine wl_free .none rfl (yf_extract rfl rfl) ?_
          refine wl_nil ?_
          refine wq_any ?_
          refine wa_step (k := 2) [6, 7] (by kernel_rfl) (by simp) ⟨⟨_, rfl, ?_⟩, ⟨_, rfl, ?_⟩, trivial⟩
          · skip
            refine wl_free .none rfl (yf_extract rfl rfl) ?_
            refine wl_nil ?_
            refine wq_any ?_
            refine wa_step (k := 1) [7] (by kernel_rfl) (by simp) ⟨⟨_, rfl, ?_⟩, trivial⟩
            · skip
              refine wl_free .none rfl (yf_assign rfl) ?_
              refine wl_nil ?_
              refine wq_any ?_
              refine wa_step (k := 0) [8] (by kernel_rfl) (by simp) ⟨⟨_, rfl, ?_⟩, trivial⟩
              · skip
                refine wl_free .none rfl (yf_assign rfl) ?_
                refine wl_nil ?_
                refine wq_any ?_
                refine wa_end (by kernel_rfl) ?_
                refine wq_meet (ι := Unit) () (.cons rfl <| .cons rfl <| .cons rfl <| .nil) (fun w h => Hp.weakX h fun u hu => hu.2)
          · skip
            refine wl_free .none rfl (yf_assign rfl) ?_
            refine wl_nil ?_
            refine wq_any ?_
            refine wa_step (k := 1) [6] (by kernel_rfl) (by simp) ⟨⟨_, rfl, ?_⟩, trivial⟩
            · skip
              refine wl_free .none rfl (yf_extract rfl rfl) ?_
              refine wl_nil ?_
              refine wq_any ?_
              refine wa_step (k := 0) [8] (by kernel_rfl) (by simp) ⟨⟨_, rfl, ?_⟩, trivial⟩
              · skip
                refine wl_free .none rfl (yf_assign rfl) ?_
                refine wl_nil ?_
                refine wq_any ?_
                refine wa_end (by kernel_rfl) ?_
                refine wq_meet (ι := Unit) () (.cons rfl <| .cons rfl <| .cons rfl <| .nil) (fun w h => Hp.weakX h fun u hu => hu.2)
        · skip
          refine wl_free .none rfl (yf_extract rfl rfl) ?_
          refine wl_nil ?_
          refine wq_any ?_
          refine wa_step (k := 2) [5] (by kernel_rfl) (by simp) ⟨⟨_, rfl, ?_⟩, trivial⟩
          · skip
            refine wl_free .none rfl (yf_extract rfl rfl) ?_
            refine wl_nil ?_
            refine wq_any ?_
            refine wa_step (k := 1) [7] (by kernel_rfl) (by simp) ⟨⟨_, rfl, ?_⟩, trivial⟩
            · skip
              refine wl_free .none rfl (yf_assign rfl) ?_
              refine wl_nil ?_
              refine wq_any ?_
              refine wa_step (k := 0) [8] (by kernel_rfl) (by simp) ⟨⟨_, rfl, ?_⟩, trivial⟩
              · skip
                refine wl_free .none rfl (yf_assign rfl) ?_
                refine wl_nil ?_
                refine wq_any ?_
                refine wa_end (by kernel_rfl) ?_
                refine wq_meet (ι := Unit) () (.cons rfl <| .cons rfl <| .cons rfl <| .nil) (fun w h => Hp.weakX h fun u hu => hu.2)
  · skip
    refine wc_cut (ι := {b : Bool // b = okEx k s kids.length}) (fun b => [(1, .pointer (some ⟨b1, 0, none⟩)), (3, .bool b.1)]) (fun _ => Hp (fun _ => False) w_0 [(b1, bk 57 (exC k n s A kids.length cap))] [] (fun u => RdF F A kc u ∧ ExsV F u kids kc)) ?_ (fun b => ?_)
    · skip
      refine wc_seq ?_
      refine wc_region ?_
      refine wl_free .none rfl (yf_fieldAddr (off := 0) (sz := 0) rfl Tryz.underlying57 (by kernel_rfl) rfl) ?_
      refine wl_free .none rfl (yf_loadL 0 rfl rfl rfl Tryz.underlying3 rfl) ?_
      refine wl_nil ?_
      refine wq_then ?_
      refine wc_block ?_
      refine wc_seq ?_
      refine wc_seq ?_
      refine wc_weak (.cons (i := 1) rfl <| .cons (i := 3) rfl <| .cons (i := 5) rfl <| .cons (i := 14) rfl <| .nil) ?_
      refine wc_region ?_
      refine wl_free .none rfl (yf_eql rfl rfl) ?_
      refine wl_free .none rfl (yf_assign rfl) ?_
      refine wl_nil ?_
      refine wq_then ?_
      refine wc_cond rfl (fun h15 => ?_) (fun h15 => ?_)
      · replace h15 := eq_of_beq h15
        first
          | (omega)
          | (
            refine wc_skip ?_
            refine wq_then ?_
            refine wc_cond rfl (fun h15 => ?_) (fun h15 => ?_)
            · replace h15 := eq_of_beq h15
              first
                | (omega)
                | (
                  refine wc_weak (.cons (i := 1) rfl <| .cons (i := 3) rfl <| .cons (i := 5) rfl <| .cons (i := 14) rfl <| .cons (i := 15) rfl <| .nil) ?_
                  refine wc_region ?_
                  refine wl_free .none rfl (yf_fieldAddr (off := 2) (sz := 0) rfl Tryz.underlying57 (by kernel_rfl) rfl) ?_
                  refine wl_free .none rfl (yf_loadL 0 rfl rfl rfl Tryz.underlying9 rfl) ?_
                  refine wl_free .none rfl (yf_strs_eql rfl rfl Tryz.underlying9) ?_
                  refine wl_free .none rfl (yf_move rfl) ?_
                  refine wl_split 21 rfl (fun hg => ?_) (fun hg => ?_)
                  · skip
                    refine wl_free (.some rfl rfl) rfl (yf_fieldAddr (off := 3) (sz := 0) rfl Tryz.underlying57 (by kernel_rfl) rfl) ?_
                    refine wl_free (.some rfl rfl) rfl (yf_loadL 0 rfl rfl rfl Tryz.underlying55 rfl) ?_
                    refine wl_free (.some rfl rfl) rfl (yf_lenS rfl Tryz.underlying55) ?_
                    refine wl_free (.some rfl rfl) rfl (yf_eql rfl rfl) ?_
                    refine wl_free .none rfl (yf_pickT rfl rfl) ?_
                    refine wl_free .none rfl (yf_assign rfl) ?_
                    refine wl_nil ?_
                    refine wq_block ?_
                    refine wq_meet (ι := {b : Bool // b = okEx k s kids.length}) ⟨okEx k s kids.length, rfl⟩ (.cons rfl <| .cons (by
                      show some (Value.bool _) = some (Value.bool _)
                      congr 2
                      first
                        | (rw [okEx_1 (by omega)]; rw [Bool.eq_iff_iff]; simp_all; done)
                        | (rw [okEx_1 (by omega)]; rw [Bool.eq_iff_iff]; simp_all; omega)
                        | (rw [okEx_2 (by omega)]; rw [Bool.eq_iff_iff]; simp_all; done)
                        | (rw [okEx_2 (by omega)]; rw [Bool.eq_iff_iff]; simp_all; omega)
                        | (rw [okEx_3 (by omega)]; done)
                        | (rw [okEx_4 (by omega)]; rw [Bool.eq_iff_iff]; simp_all; done)
                        | (rw [okEx_4 (by omega)]; rw [Bool.eq_iff_iff]; simp_all; omega)
                        | (rw [okEx_6 (by omega)]; rw [Bool.eq_iff_iff]; simp_all; done)
                        | (rw [okEx_6 (by omega)]; rw [Bool.eq_iff_iff]; simp_all; omega)
                        | (rw [okEx_7 (by omega)]; rw [Bool.eq_iff_iff]; simp_all; done)
                        | (rw [okEx_7 (by omega)]; rw [Bool.eq_iff_iff]; simp_all; omega)
                        | (rw [okEx_0 (by omega)]; done)) <| .nil) (fun w h => Hp.drop h (by first | exact List.Sublist.refl _ | exact List.sublist_cons_self _ _) (List.Sublist.refl _))
                  · skip
                    refine wl_pass (.some rfl rfl rfl) rfl ?_
                    refine wl_pass (.some rfl rfl rfl) rfl ?_
                    refine wl_pass (.some rfl rfl rfl) rfl ?_
                    refine wl_pass (.some rfl rfl rfl) rfl ?_
                    refine wl_free .none rfl (yf_pickF rfl rfl) ?_
                    refine wl_free .none rfl (yf_assign rfl) ?_
                    refine wl_nil ?_
                    refine wq_block ?_
                    refine wq_meet (ι := {b : Bool // b = okEx k s kids.length}) ⟨okEx k s kids.length, rfl⟩ (.cons rfl <| .cons (by
                      show some (Value.bool _) = some (Value.bool _)
                      congr 2
                      first
                        | (rw [okEx_1 (by omega)]; rw [Bool.eq_iff_iff]; simp_all; done)
                        | (rw [okEx_1 (by omega)]; rw [Bool.eq_iff_iff]; simp_all; omega)
                        | (rw [okEx_2 (by omega)]; rw [Bool.eq_iff_iff]; simp_all; done)
                        | (rw [okEx_2 (by omega)]; rw [Bool.eq_iff_iff]; simp_all; omega)
                        | (rw [okEx_3 (by omega)]; done)
                        | (rw [okEx_4 (by omega)]; rw [Bool.eq_iff_iff]; simp_all; done)
                        | (rw [okEx_4 (by omega)]; rw [Bool.eq_iff_iff]; simp_all; omega)
                        | (rw [okEx_6 (by omega)]; rw [Bool.eq_iff_iff]; simp_all; done)
                        | (rw [okEx_6 (by omega)]; rw [Bool.eq_iff_iff]; simp_all; omega)
                        | (rw [okEx_7 (by omega)]; rw [Bool.eq_iff_iff]; simp_all; done)
                        | (rw [okEx_7 (by omega)]; rw [Bool.eq_iff_iff]; simp_all; omega)
                        | (rw [okEx_0 (by omega)]; done)) <| .nil) (fun w h => Hp.drop h (by first | exact List.Sublist.refl _ | exact List.sublist_cons_self _ _) (List.Sublist.refl _)))
            · replace h15 := beq_no h15
              first
                | (omega)
                | (
                  refine wc_seq ?_
                  refine wc_weak (.cons (i := 1) rfl <| .cons (i := 3) rfl <| .cons (i := 5) rfl <| .cons (i := 14) rfl <| .cons (i := 15) rfl <| .nil) ?_
                  refine wc_region ?_
                  refine wl_free .none rfl (yf_eql rfl rfl) ?_
                  refine wl_free .none rfl (yf_assign rfl) ?_
                  refine wl_nil ?_
                  refine wq_then ?_
                  refine wc_cond rfl (fun h27 => ?_) (fun h27 => ?_)
                  · replace h27 := eq_of_beq h27
                    refine wc_weak (.cons (i := 1) rfl <| .cons (i := 3) rfl <| .cons (i := 5) rfl <| .cons (i := 14) rfl <| .cons (i := 15) rfl <| .cons (i := 27) rfl <| .nil) ?_
                    refine wc_region ?_
                    refine wl_free .none rfl (yf_fieldAddr (off := 2) (sz := 0) rfl Tryz.underlying57 (by kernel_rfl) rfl) ?_
                    first | refine wl_free .none rfl (yf_loadL 0 rfl rfl rfl Tryz.underlying9 rfl) ?_ | refine wl_free .none rfl (yf_loadL 1 rfl rfl rfl Tryz.underlying9 rfl) ?_ | refine wl_free .none rfl (yf_loadL 2 rfl rfl rfl Tryz.underlying9 rfl) ?_ | refine wl_free .none rfl (yf_loadL 3 rfl rfl rfl Tryz.underlying9 rfl) ?_ | refine wl_free .none rfl (yf_loadL 4 rfl rfl rfl Tryz.underlying9 rfl) ?_ | refine wl_free .none rfl (yf_loadL 5 rfl rfl rfl Tryz.underlying9 rfl) ?_
                    refine wl_pure .none rfl  (v := .bool (isNameL s)) (by kernel_rfl) rfl (fun w hw => ident_any s w) ?_
                    refine wl_free .none rfl (yf_move rfl) ?_
                    refine wl_split 32 rfl (fun hg => ?_) (fun hg => ?_)
                    · skip
                      refine wl_free (.some rfl rfl) rfl (yf_fieldAddr (off := 3) (sz := 0) rfl Tryz.underlying57 (by kernel_rfl) rfl) ?_
                      first | refine wl_free (.some rfl rfl) rfl (yf_loadL 0 rfl rfl rfl Tryz.underlying55 rfl) ?_ | refine wl_free (.some rfl rfl) rfl (yf_loadL 1 rfl rfl rfl Tryz.underlying55 rfl) ?_ | refine wl_free (.some rfl rfl) rfl (yf_loadL 2 rfl rfl rfl Tryz.underlying55 rfl) ?_ | refine wl_free (.some rfl rfl) rfl (yf_loadL 3 rfl rfl rfl Tryz.underlying55 rfl) ?_ | refine wl_free (.some rfl rfl) rfl (yf_loadL 4 rfl rfl rfl Tryz.underlying55 rfl) ?_ | refine wl_free (.some rfl rfl) rfl (yf_loadL 5 rfl rfl rfl Tryz.underlying55 rfl) ?_
                      refine wl_free (.some rfl rfl) rfl (yf_lenS rfl Tryz.underlying55) ?_
                      refine wl_free (.some rfl rfl) rfl (yf_eql rfl rfl) ?_
                      refine wl_free .none rfl (yf_pickT rfl rfl) ?_
                      refine wl_free .none rfl (yf_assign rfl) ?_
                      refine wl_nil ?_
                      refine wq_block ?_
                      refine wq_meet (ι := {b : Bool // b = okEx k s kids.length}) ⟨okEx k s kids.length, rfl⟩ (.cons rfl <| .cons (by
                        show some (Value.bool _) = some (Value.bool _)
                        congr 2
                        first
                          | (rw [okEx_1 (by omega)]; rw [Bool.eq_iff_iff]; simp_all; done)
                          | (rw [okEx_1 (by omega)]; rw [Bool.eq_iff_iff]; simp_all; omega)
                          | (rw [okEx_2 (by omega)]; rw [Bool.eq_iff_iff]; simp_all; done)
                          | (rw [okEx_2 (by omega)]; rw [Bool.eq_iff_iff]; simp_all; omega)
                          | (rw [okEx_3 (by omega)]; done)
                          | (rw [okEx_4 (by omega)]; rw [Bool.eq_iff_iff]; simp_all; done)
                          | (rw [okEx_4 (by omega)]; rw [Bool.eq_iff_iff]; simp_all; omega)
                          | (rw [okEx_6 (by omega)]; rw [Bool.eq_iff_iff]; simp_all; done)
                          | (rw [okEx_6 (by omega)]; rw [Bool.eq_iff_iff]; simp_all; omega)
                          | (rw [okEx_7 (by omega)]; rw [Bool.eq_iff_iff]; simp_all; done)
                          | (rw [okEx_7 (by omega)]; rw [Bool.eq_iff_iff]; simp_all; omega)
                          | (rw [okEx_0 (by omega)]; done)) <| .nil) (fun w h => Hp.drop h (by first | exact List.Sublist.refl _ | exact List.sublist_cons_self _ _) (List.Sublist.refl _))
                    · skip
                      refine wl_pass (.some rfl rfl rfl) rfl ?_
                      refine wl_pass (.some rfl rfl rfl) rfl ?_
                      refine wl_pass (.some rfl rfl rfl) rfl ?_
                      refine wl_pass (.some rfl rfl rfl) rfl ?_
                      refine wl_free .none rfl (yf_pickF rfl rfl) ?_
                      refine wl_free .none rfl (yf_assign rfl) ?_
                      refine wl_nil ?_
                      refine wq_block ?_
                      refine wq_meet (ι := {b : Bool // b = okEx k s kids.length}) ⟨okEx k s kids.length, rfl⟩ (.cons rfl <| .cons (by
                        show some (Value.bool _) = some (Value.bool _)
                        congr 2
                        first
                          | (rw [okEx_1 (by omega)]; rw [Bool.eq_iff_iff]; simp_all; done)
                          | (rw [okEx_1 (by omega)]; rw [Bool.eq_iff_iff]; simp_all; omega)
                          | (rw [okEx_2 (by omega)]; rw [Bool.eq_iff_iff]; simp_all; done)
                          | (rw [okEx_2 (by omega)]; rw [Bool.eq_iff_iff]; simp_all; omega)
                          | (rw [okEx_3 (by omega)]; done)
                          | (rw [okEx_4 (by omega)]; rw [Bool.eq_iff_iff]; simp_all; done)
                          | (rw [okEx_4 (by omega)]; rw [Bool.eq_iff_iff]; simp_all; omega)
                          | (rw [okEx_6 (by omega)]; rw [Bool.eq_iff_iff]; simp_all; done)
                          | (rw [okEx_6 (by omega)]; rw [Bool.eq_iff_iff]; simp_all; omega)
                          | (rw [okEx_7 (by omega)]; rw [Bool.eq_iff_iff]; simp_all; done)
                          | (rw [okEx_7 (by omega)]; rw [Bool.eq_iff_iff]; simp_all; omega)
                          | (rw [okEx_0 (by omega)]; done)) <| .nil) (fun w h => Hp.drop h (by first | exact List.Sublist.refl _ | exact List.sublist_cons_self _ _) (List.Sublist.refl _))
                  · replace h27 := beq_no h27
                    refine wc_seq ?_
                    refine wc_weak (.cons (i := 1) rfl <| .cons (i := 3) rfl <| .cons (i := 5) rfl <| .cons (i := 14) rfl <| .cons (i := 15) rfl <| .cons (i := 27) rfl <| .nil) ?_
                    refine wc_region ?_
                    refine wl_free .none rfl (yf_eql rfl rfl) ?_
                    refine wl_free .none rfl (yf_assign rfl) ?_
                    refine wl_nil ?_
                    refine wq_then ?_
                    refine wc_cond rfl (fun h38 => ?_) (fun h38 => ?_)
                    · replace h38 := eq_of_beq h38
                      refine wc_weak (.cons (i := 1) rfl <| .cons (i := 3) rfl <| .cons (i := 5) rfl <| .cons (i := 14) rfl <| .cons (i := 15) rfl <| .cons (i := 27) rfl <| .cons (i := 38) rfl <| .nil) ?_
                      refine wc_region ?_
                      refine wl_free .none rfl (yf_fieldAddr (off := 2) (sz := 0) rfl Tryz.underlying57 (by kernel_rfl) rfl) ?_
                      first | refine wl_free .none rfl (yf_loadL 0 rfl rfl rfl Tryz.underlying9 rfl) ?_ | refine wl_free .none rfl (yf_loadL 1 rfl rfl rfl Tryz.underlying9 rfl) ?_ | refine wl_free .none rfl (yf_loadL 2 rfl rfl rfl Tryz.underlying9 rfl) ?_ | refine wl_free .none rfl (yf_loadL 3 rfl rfl rfl Tryz.underlying9 rfl) ?_ | refine wl_free .none rfl (yf_loadL 4 rfl rfl rfl Tryz.underlying9 rfl) ?_ | refine wl_free .none rfl (yf_loadL 5 rfl rfl rfl Tryz.underlying9 rfl) ?_
                      refine wl_pure .none rfl  (v := .bool (isNameL s)) (by kernel_rfl) rfl (fun w hw => ident_any s w) ?_
                      refine wl_free .none rfl (yf_assign rfl) ?_
                      refine wl_nil ?_
                      refine wq_block ?_
                      refine wq_meet (ι := {b : Bool // b = okEx k s kids.length}) ⟨okEx k s kids.length, rfl⟩ (.cons rfl <| .cons (by
                        show some (Value.bool _) = some (Value.bool _)
                        congr 2
                        first
                          | (rw [okEx_1 (by omega)]; rw [Bool.eq_iff_iff]; simp_all; done)
                          | (rw [okEx_1 (by omega)]; rw [Bool.eq_iff_iff]; simp_all; omega)
                          | (rw [okEx_2 (by omega)]; rw [Bool.eq_iff_iff]; simp_all; done)
                          | (rw [okEx_2 (by omega)]; rw [Bool.eq_iff_iff]; simp_all; omega)
                          | (rw [okEx_3 (by omega)]; done)
                          | (rw [okEx_4 (by omega)]; rw [Bool.eq_iff_iff]; simp_all; done)
                          | (rw [okEx_4 (by omega)]; rw [Bool.eq_iff_iff]; simp_all; omega)
                          | (rw [okEx_6 (by omega)]; rw [Bool.eq_iff_iff]; simp_all; done)
                          | (rw [okEx_6 (by omega)]; rw [Bool.eq_iff_iff]; simp_all; omega)
                          | (rw [okEx_7 (by omega)]; rw [Bool.eq_iff_iff]; simp_all; done)
                          | (rw [okEx_7 (by omega)]; rw [Bool.eq_iff_iff]; simp_all; omega)
                          | (rw [okEx_0 (by omega)]; done)) <| .nil) (fun w h => Hp.drop h (by first | exact List.Sublist.refl _ | exact List.sublist_cons_self _ _) (List.Sublist.refl _))
                    · replace h38 := beq_no h38
                      refine wc_seq ?_
                      refine wc_weak (.cons (i := 1) rfl <| .cons (i := 3) rfl <| .cons (i := 5) rfl <| .cons (i := 14) rfl <| .cons (i := 15) rfl <| .cons (i := 27) rfl <| .cons (i := 38) rfl <| .nil) ?_
                      refine wc_region ?_
                      refine wl_free .none rfl (yf_eql rfl rfl) ?_
                      refine wl_free .none rfl (yf_assign rfl) ?_
                      refine wl_nil ?_
                      refine wq_then ?_
                      refine wc_cond rfl (fun h43 => ?_) (fun h43 => ?_)
                      · replace h43 := eq_of_beq h43
                        refine wc_weak (.cons (i := 1) rfl <| .cons (i := 3) rfl <| .cons (i := 5) rfl <| .cons (i := 14) rfl <| .cons (i := 15) rfl <| .cons (i := 27) rfl <| .cons (i := 38) rfl <| .cons (i := 43) rfl <| .nil) ?_
                        refine wc_region ?_
                        refine wl_free .none rfl (yf_fieldAddr (off := 2) (sz := 0) rfl Tryz.underlying57 (by kernel_rfl) rfl) ?_
                        first | refine wl_free .none rfl (yf_loadL 0 rfl rfl rfl Tryz.underlying9 rfl) ?_ | refine wl_free .none rfl (yf_loadL 1 rfl rfl rfl Tryz.underlying9 rfl) ?_ | refine wl_free .none rfl (yf_loadL 2 rfl rfl rfl Tryz.underlying9 rfl) ?_ | refine wl_free .none rfl (yf_loadL 3 rfl rfl rfl Tryz.underlying9 rfl) ?_ | refine wl_free .none rfl (yf_loadL 4 rfl rfl rfl Tryz.underlying9 rfl) ?_ | refine wl_free .none rfl (yf_loadL 5 rfl rfl rfl Tryz.underlying9 rfl) ?_
                        refine wl_free .none rfl (yf_strs_eql rfl rfl Tryz.underlying9) ?_
                        refine wl_free .none rfl (yf_move rfl) ?_
                        refine wl_split 48 rfl (fun hg => ?_) (fun hg => ?_)
                        · skip
                          refine wl_free (.some rfl rfl) rfl (yf_fieldAddr (off := 3) (sz := 0) rfl Tryz.underlying57 (by kernel_rfl) rfl) ?_
                          first | refine wl_free (.some rfl rfl) rfl (yf_loadL 0 rfl rfl rfl Tryz.underlying55 rfl) ?_ | refine wl_free (.some rfl rfl) rfl (yf_loadL 1 rfl rfl rfl Tryz.underlying55 rfl) ?_ | refine wl_free (.some rfl rfl) rfl (yf_loadL 2 rfl rfl rfl Tryz.underlying55 rfl) ?_ | refine wl_free (.some rfl rfl) rfl (yf_loadL 3 rfl rfl rfl Tryz.underlying55 rfl) ?_ | refine wl_free (.some rfl rfl) rfl (yf_loadL 4 rfl rfl rfl Tryz.underlying55 rfl) ?_ | refine wl_free (.some rfl rfl) rfl (yf_loadL 5 rfl rfl rfl Tryz.underlying55 rfl) ?_
                          refine wl_free (.some rfl rfl) rfl (yf_lenS rfl Tryz.underlying55) ?_
                          refine wl_free (.some rfl rfl) rfl (yf_eql rfl rfl) ?_
                          refine wl_free .none rfl (yf_pickT rfl rfl) ?_
                          refine wl_free .none rfl (yf_assign rfl) ?_
                          refine wl_nil ?_
                          refine wq_block ?_
                          refine wq_meet (ι := {b : Bool // b = okEx k s kids.length}) ⟨okEx k s kids.length, rfl⟩ (.cons rfl <| .cons (by
                            show some (Value.bool _) = some (Value.bool _)
                            congr 2
                            first
                              | (rw [okEx_1 (by omega)]; rw [Bool.eq_iff_iff]; simp_all; done)
                              | (rw [okEx_1 (by omega)]; rw [Bool.eq_iff_iff]; simp_all; omega)
                              | (rw [okEx_2 (by omega)]; rw [Bool.eq_iff_iff]; simp_all; done)
                              | (rw [okEx_2 (by omega)]; rw [Bool.eq_iff_iff]; simp_all; omega)
                              | (rw [okEx_3 (by omega)]; done)
                              | (rw [okEx_4 (by omega)]; rw [Bool.eq_iff_iff]; simp_all; done)
                              | (rw [okEx_4 (by omega)]; rw [Bool.eq_iff_iff]; simp_all; omega)
                              | (rw [okEx_6 (by omega)]; rw [Bool.eq_iff_iff]; simp_all; done)
                              | (rw [okEx_6 (by omega)]; rw [Bool.eq_iff_iff]; simp_all; omega)
                              | (rw [okEx_7 (by omega)]; rw [Bool.eq_iff_iff]; simp_all; done)
                              | (rw [okEx_7 (by omega)]; rw [Bool.eq_iff_iff]; simp_all; omega)
                              | (rw [okEx_0 (by omega)]; done)) <| .nil) (fun w h => Hp.drop h (by first | exact List.Sublist.refl _ | exact List.sublist_cons_self _ _) (List.Sublist.refl _))
                        · skip
                          refine wl_pass (.some rfl rfl rfl) rfl ?_
                          refine wl_pass (.some rfl rfl rfl) rfl ?_
                          refine wl_pass (.some rfl rfl rfl) rfl ?_
                          refine wl_pass (.some rfl rfl rfl) rfl ?_
                          refine wl_free .none rfl (yf_pickF rfl rfl) ?_
                          refine wl_free .none rfl (yf_assign rfl) ?_
                          refine wl_nil ?_
                          refine wq_block ?_
                          refine wq_meet (ι := {b : Bool // b = okEx k s kids.length}) ⟨okEx k s kids.length, rfl⟩ (.cons rfl <| .cons (by
                            show some (Value.bool _) = some (Value.bool _)
                            congr 2
                            first
                              | (rw [okEx_1 (by omega)]; rw [Bool.eq_iff_iff]; simp_all; done)
                              | (rw [okEx_1 (by omega)]; rw [Bool.eq_iff_iff]; simp_all; omega)
                              | (rw [okEx_2 (by omega)]; rw [Bool.eq_iff_iff]; simp_all; done)
                              | (rw [okEx_2 (by omega)]; rw [Bool.eq_iff_iff]; simp_all; omega)
                              | (rw [okEx_3 (by omega)]; done)
                              | (rw [okEx_4 (by omega)]; rw [Bool.eq_iff_iff]; simp_all; done)
                              | (rw [okEx_4 (by omega)]; rw [Bool.eq_iff_iff]; simp_all; omega)
                              | (rw [okEx_6 (by omega)]; rw [Bool.eq_iff_iff]; simp_all; done)
                              | (rw [okEx_6 (by omega)]; rw [Bool.eq_iff_iff]; simp_all; omega)
                              | (rw [okEx_7 (by omega)]; rw [Bool.eq_iff_iff]; simp_all; done)
                              | (rw [okEx_7 (by omega)]; rw [Bool.eq_iff_iff]; simp_all; omega)
                              | (rw [okEx_0 (by omega)]; done)) <| .nil) (fun w h => Hp.drop h (by first | exact List.Sublist.refl _ | exact List.sublist_cons_self _ _) (List.Sublist.refl _))
                      · replace h43 := beq_no h43
                        refine wc_seq ?_
                        refine wc_weak (.cons (i := 1) rfl <| .cons (i := 3) rfl <| .cons (i := 5) rfl <| .cons (i := 14) rfl <| .cons (i := 15) rfl <| .cons (i := 27) rfl <| .cons (i := 38) rfl <| .cons (i := 43) rfl <| .nil) ?_
                        refine wc_region ?_
                        refine wl_free .none rfl (yf_eql rfl rfl) ?_
                        refine wl_free .none rfl (yf_assign rfl) ?_
                        refine wl_nil ?_
                        refine wq_then ?_
                        refine wc_cond rfl (fun h54 => ?_) (fun h54 => ?_)
                        · replace h54 := eq_of_beq h54
                          refine wc_weak (.cons (i := 1) rfl <| .cons (i := 3) rfl <| .cons (i := 5) rfl <| .cons (i := 14) rfl <| .cons (i := 15) rfl <| .cons (i := 27) rfl <| .cons (i := 38) rfl <| .cons (i := 43) rfl <| .cons (i := 54) rfl <| .nil) ?_
                          refine wc_region ?_
                          refine wl_new .none rfl (nf_bsn (z := .string ⟨#[]⟩) rfl rfl rfl rfl Tryz.underlying22 (by kernel_rfl) (by kernel_rfl) rfl rfl) (fun b56 => ?_)
                          refine wl_free .none rfl (yf_fieldAddr (off := 2) (sz := 0) rfl Tryz.underlying57 (by kernel_rfl) rfl) ?_
                          first | refine wl_free .none rfl (yf_loadL 0 rfl rfl rfl Tryz.underlying9 rfl) ?_ | refine wl_free .none rfl (yf_loadL 1 rfl rfl rfl Tryz.underlying9 rfl) ?_ | refine wl_free .none rfl (yf_loadL 2 rfl rfl rfl Tryz.underlying9 rfl) ?_ | refine wl_free .none rfl (yf_loadL 3 rfl rfl rfl Tryz.underlying9 rfl) ?_ | refine wl_free .none rfl (yf_loadL 4 rfl rfl rfl Tryz.underlying9 rfl) ?_ | refine wl_free .none rfl (yf_loadL 5 rfl rfl rfl Tryz.underlying9 rfl) ?_
                          refine wl_pure .none rfl  (v := .bool (decide (s ∈ unL3))) (by kernel_rfl) rfl (fun w hw => contains_any unL3 (by decide) s _ 3 w (mem3 w_0 hw)) ?_
                          refine wl_free .none rfl (yf_move rfl) ?_
                          refine wl_split 60 rfl (fun hg => ?_) (fun hg => ?_)
                          · skip
                            refine wl_free (.some rfl rfl) rfl (yf_fieldAddr (off := 3) (sz := 0) rfl Tryz.underlying57 (by kernel_rfl) rfl) ?_
                            first | refine wl_free (.some rfl rfl) rfl (yf_loadL 0 rfl rfl rfl Tryz.underlying55 rfl) ?_ | refine wl_free (.some rfl rfl) rfl (yf_loadL 1 rfl rfl rfl Tryz.underlying55 rfl) ?_ | refine wl_free (.some rfl rfl) rfl (yf_loadL 2 rfl rfl rfl Tryz.underlying55 rfl) ?_ | refine wl_free (.some rfl rfl) rfl (yf_loadL 3 rfl rfl rfl Tryz.underlying55 rfl) ?_ | refine wl_free (.some rfl rfl) rfl (yf_loadL 4 rfl rfl rfl Tryz.underlying55 rfl) ?_ | refine wl_free (.some rfl rfl) rfl (yf_loadL 5 rfl rfl rfl Tryz.underlying55 rfl) ?_
                            refine wl_free (.some rfl rfl) rfl (yf_lenS rfl Tryz.underlying55) ?_
                            refine wl_free (.some rfl rfl) rfl (yf_eql rfl rfl) ?_
                            refine wl_free .none rfl (yf_pickT rfl rfl) ?_
                            refine wl_free .none rfl (yf_assign rfl) ?_
                            refine wl_nil ?_
                            refine wq_block ?_
                            refine wq_meet (ι := {b : Bool // b = okEx k s kids.length}) ⟨okEx k s kids.length, rfl⟩ (.cons rfl <| .cons (by
                              show some (Value.bool _) = some (Value.bool _)
                              congr 2
                              first
                                | (rw [okEx_1 (by omega)]; rw [Bool.eq_iff_iff]; simp_all; done)
                                | (rw [okEx_1 (by omega)]; rw [Bool.eq_iff_iff]; simp_all; omega)
                                | (rw [okEx_2 (by omega)]; rw [Bool.eq_iff_iff]; simp_all; done)
                                | (rw [okEx_2 (by omega)]; rw [Bool.eq_iff_iff]; simp_all; omega)
                                | (rw [okEx_3 (by omega)]; done)
                                | (rw [okEx_4 (by omega)]; rw [Bool.eq_iff_iff]; simp_all; done)
                                | (rw [okEx_4 (by omega)]; rw [Bool.eq_iff_iff]; simp_all; omega)
                                | (rw [okEx_6 (by omega)]; rw [Bool.eq_iff_iff]; simp_all; done)
                                | (rw [okEx_6 (by omega)]; rw [Bool.eq_iff_iff]; simp_all; omega)
                                | (rw [okEx_7 (by omega)]; rw [Bool.eq_iff_iff]; simp_all; done)
                                | (rw [okEx_7 (by omega)]; rw [Bool.eq_iff_iff]; simp_all; omega)
                                | (rw [okEx_0 (by omega)]; done)) <| .nil) (fun w h => Hp.drop h (by first | exact List.Sublist.refl _ | exact List.sublist_cons_self _ _) (List.Sublist.refl _))
                          · skip
                            refine wl_pass (.some rfl rfl rfl) rfl ?_
                            refine wl_pass (.some rfl rfl rfl) rfl ?_
                            refine wl_pass (.some rfl rfl rfl) rfl ?_
                            refine wl_pass (.some rfl rfl rfl) rfl ?_
                            refine wl_free .none rfl (yf_pickF rfl rfl) ?_
                            refine wl_free .none rfl (yf_assign rfl) ?_
                            refine wl_nil ?_
                            refine wq_block ?_
                            refine wq_meet (ι := {b : Bool // b = okEx k s kids.length}) ⟨okEx k s kids.length, rfl⟩ (.cons rfl <| .cons (by
                              show some (Value.bool _) = some (Value.bool _)
                              congr 2
                              first
                                | (rw [okEx_1 (by omega)]; rw [Bool.eq_iff_iff]; simp_all; done)
                                | (rw [okEx_1 (by omega)]; rw [Bool.eq_iff_iff]; simp_all; omega)
                                | (rw [okEx_2 (by omega)]; rw [Bool.eq_iff_iff]; simp_all; done)
                                | (rw [okEx_2 (by omega)]; rw [Bool.eq_iff_iff]; simp_all; omega)
                                | (rw [okEx_3 (by omega)]; done)
                                | (rw [okEx_4 (by omega)]; rw [Bool.eq_iff_iff]; simp_all; done)
                                | (rw [okEx_4 (by omega)]; rw [Bool.eq_iff_iff]; simp_all; omega)
                                | (rw [okEx_6 (by omega)]; rw [Bool.eq_iff_iff]; simp_all; done)
                                | (rw [okEx_6 (by omega)]; rw [Bool.eq_iff_iff]; simp_all; omega)
                                | (rw [okEx_7 (by omega)]; rw [Bool.eq_iff_iff]; simp_all; done)
                                | (rw [okEx_7 (by omega)]; rw [Bool.eq_iff_iff]; simp_all; omega)
                                | (rw [okEx_0 (by omega)]; done)) <| .nil) (fun w h => Hp.drop h (by first | exact List.Sublist.refl _ | exact List.sublist_cons_self _ _) (List.Sublist.refl _))
                        · replace h54 := beq_no h54
                          refine wc_seq ?_
                          refine wc_weak (.cons (i := 1) rfl <| .cons (i := 3) rfl <| .cons (i := 5) rfl <| .cons (i := 14) rfl <| .cons (i := 15) rfl <| .cons (i := 27) rfl <| .cons (i := 38) rfl <| .cons (i := 43) rfl <| .cons (i := 54) rfl <| .nil) ?_
                          refine wc_region ?_
                          refine wl_free .none rfl (yf_eql rfl rfl) ?_
                          refine wl_free .none rfl (yf_assign rfl) ?_
                          refine wl_nil ?_
                          refine wq_then ?_
                          refine wc_cond rfl (fun h66 => ?_) (fun h66 => ?_)
                          · replace h66 := eq_of_beq h66
                            refine wc_weak (.cons (i := 1) rfl <| .cons (i := 3) rfl <| .cons (i := 5) rfl <| .cons (i := 14) rfl <| .cons (i := 15) rfl <| .cons (i := 27) rfl <| .cons (i := 38) rfl <| .cons (i := 43) rfl <| .cons (i := 54) rfl <| .cons (i := 66) rfl <| .nil) ?_
                            refine wc_region ?_
                            refine wl_free .none rfl (yf_move rfl) ?_
                            refine wl_free .none rfl (yf_move rfl) ?_
                            refine wl_split 69 rfl (fun hg => ?_) (fun hg => ?_)
                            · skip
                              refine wl_free (.some rfl rfl) rfl (yf_fieldAddr (off := 3) (sz := 0) rfl Tryz.underlying57 (by kernel_rfl) rfl) ?_
                              first | refine wl_free (.some rfl rfl) rfl (yf_loadL 0 rfl rfl rfl Tryz.underlying55 rfl) ?_ | refine wl_free (.some rfl rfl) rfl (yf_loadL 1 rfl rfl rfl Tryz.underlying55 rfl) ?_ | refine wl_free (.some rfl rfl) rfl (yf_loadL 2 rfl rfl rfl Tryz.underlying55 rfl) ?_ | refine wl_free (.some rfl rfl) rfl (yf_loadL 3 rfl rfl rfl Tryz.underlying55 rfl) ?_ | refine wl_free (.some rfl rfl) rfl (yf_loadL 4 rfl rfl rfl Tryz.underlying55 rfl) ?_ | refine wl_free (.some rfl rfl) rfl (yf_loadL 5 rfl rfl rfl Tryz.underlying55 rfl) ?_
                              refine wl_free (.some rfl rfl) rfl (yf_lenS rfl Tryz.underlying55) ?_
                              refine wl_free (.some rfl rfl) rfl (yf_eql rfl rfl) ?_
                              refine wl_free .none rfl (yf_pickT rfl rfl) ?_
                              refine wl_free .none rfl (yf_assign rfl) ?_
                              refine wl_nil ?_
                              refine wq_block ?_
                              refine wq_meet (ι := {b : Bool // b = okEx k s kids.length}) ⟨okEx k s kids.length, rfl⟩ (.cons rfl <| .cons (by
                                show some (Value.bool _) = some (Value.bool _)
                                congr 2
                                first
                                  | (rw [okEx_1 (by omega)]; rw [Bool.eq_iff_iff]; simp_all; done)
                                  | (rw [okEx_1 (by omega)]; rw [Bool.eq_iff_iff]; simp_all; omega)
                                  | (rw [okEx_2 (by omega)]; rw [Bool.eq_iff_iff]; simp_all; done)
                                  | (rw [okEx_2 (by omega)]; rw [Bool.eq_iff_iff]; simp_all; omega)
                                  | (rw [okEx_3 (by omega)]; done)
                                  | (rw [okEx_4 (by omega)]; rw [Bool.eq_iff_iff]; simp_all; done)
                                  | (rw [okEx_4 (by omega)]; rw [Bool.eq_iff_iff]; simp_all; omega)
                                  | (rw [okEx_6 (by omega)]; rw [Bool.eq_iff_iff]; simp_all; done)
                                  | (rw [okEx_6 (by omega)]; rw [Bool.eq_iff_iff]; simp_all; omega)
                                  | (rw [okEx_7 (by omega)]; rw [Bool.eq_iff_iff]; simp_all; done)
                                  | (rw [okEx_7 (by omega)]; rw [Bool.eq_iff_iff]; simp_all; omega)
                                  | (rw [okEx_0 (by omega)]; done)) <| .nil) (fun w h => Hp.drop h (by first | exact List.Sublist.refl _ | exact List.sublist_cons_self _ _) (List.Sublist.refl _))
                            · skip
                              refine wl_pass (.some rfl rfl rfl) rfl ?_
                              refine wl_pass (.some rfl rfl rfl) rfl ?_
                              refine wl_pass (.some rfl rfl rfl) rfl ?_
                              refine wl_pass (.some rfl rfl rfl) rfl ?_
                              refine wl_free .none rfl (yf_pickF rfl rfl) ?_
                              refine wl_free .none rfl (yf_assign rfl) ?_
                              refine wl_nil ?_
                              refine wq_block ?_
                              refine wq_meet (ι := {b : Bool // b = okEx k s kids.length}) ⟨okEx k s kids.length, rfl⟩ (.cons rfl <| .cons (by
                                show some (Value.bool _) = some (Value.bool _)
                                congr 2
                                first
                                  | (rw [okEx_1 (by omega)]; rw [Bool.eq_iff_iff]; simp_all; done)
                                  | (rw [okEx_1 (by omega)]; rw [Bool.eq_iff_iff]; simp_all; omega)
                                  | (rw [okEx_2 (by omega)]; rw [Bool.eq_iff_iff]; simp_all; done)
                                  | (rw [okEx_2 (by omega)]; rw [Bool.eq_iff_iff]; simp_all; omega)
                                  | (rw [okEx_3 (by omega)]; done)
                                  | (rw [okEx_4 (by omega)]; rw [Bool.eq_iff_iff]; simp_all; done)
                                  | (rw [okEx_4 (by omega)]; rw [Bool.eq_iff_iff]; simp_all; omega)
                                  | (rw [okEx_6 (by omega)]; rw [Bool.eq_iff_iff]; simp_all; done)
                                  | (rw [okEx_6 (by omega)]; rw [Bool.eq_iff_iff]; simp_all; omega)
                                  | (rw [okEx_7 (by omega)]; rw [Bool.eq_iff_iff]; simp_all; done)
                                  | (rw [okEx_7 (by omega)]; rw [Bool.eq_iff_iff]; simp_all; omega)
                                  | (rw [okEx_0 (by omega)]; done)) <| .nil) (fun w h => Hp.drop h (by first | exact List.Sublist.refl _ | exact List.sublist_cons_self _ _) (List.Sublist.refl _))
                          · replace h66 := beq_no h66
                            refine wc_skip ?_
                            refine wq_block ?_
                            refine wq_meet (ι := {b : Bool // b = okEx k s kids.length}) ⟨okEx k s kids.length, rfl⟩ (.cons rfl <| .cons (by
                              show some (Value.bool _) = some (Value.bool _)
                              congr 2
                              first
                                | (rw [okEx_1 (by omega)]; rw [Bool.eq_iff_iff]; simp_all; done)
                                | (rw [okEx_1 (by omega)]; rw [Bool.eq_iff_iff]; simp_all; omega)
                                | (rw [okEx_2 (by omega)]; rw [Bool.eq_iff_iff]; simp_all; done)
                                | (rw [okEx_2 (by omega)]; rw [Bool.eq_iff_iff]; simp_all; omega)
                                | (rw [okEx_3 (by omega)]; done)
                                | (rw [okEx_4 (by omega)]; rw [Bool.eq_iff_iff]; simp_all; done)
                                | (rw [okEx_4 (by omega)]; rw [Bool.eq_iff_iff]; simp_all; omega)
                                | (rw [okEx_6 (by omega)]; rw [Bool.eq_iff_iff]; simp_all; done)
                                | (rw [okEx_6 (by omega)]; rw [Bool.eq_iff_iff]; simp_all; omega)
                                | (rw [okEx_7 (by omega)]; rw [Bool.eq_iff_iff]; simp_all; done)
                                | (rw [okEx_7 (by omega)]; rw [Bool.eq_iff_iff]; simp_all; omega)
                                | (rw [okEx_0 (by omega)]; done)) <| .nil) (fun w h => Hp.drop h (by first | exact List.Sublist.refl _ | exact List.sublist_cons_self _ _) (List.Sublist.refl _))))
      · replace h15 := beq_no h15
        first
          | (omega)
          | (
            refine wc_weak (.cons (i := 1) rfl <| .cons (i := 3) rfl <| .cons (i := 5) rfl <| .cons (i := 14) rfl <| .cons (i := 15) rfl <| .nil) ?_
            refine wc_region ?_
            refine wl_free .none rfl (yf_eql rfl rfl) ?_
            refine wl_free .none rfl (yf_assign rfl) ?_
            refine wl_nil ?_
            refine wq_then ?_
            refine wc_cond rfl (fun h15 => ?_) (fun h15 => ?_)
            · replace h15 := eq_of_beq h15
              first
                | (omega)
                | (
                  refine wc_weak (.cons (i := 1) rfl <| .cons (i := 3) rfl <| .cons (i := 5) rfl <| .cons (i := 14) rfl <| .cons (i := 15) rfl <| .nil) ?_
                  refine wc_region ?_
                  refine wl_free .none rfl (yf_fieldAddr (off := 2) (sz := 0) rfl Tryz.underlying57 (by kernel_rfl) rfl) ?_
                  refine wl_free .none rfl (yf_loadL 0 rfl rfl rfl Tryz.underlying9 rfl) ?_
                  refine wl_free .none rfl (yf_strs_eql rfl rfl Tryz.underlying9) ?_
                  refine wl_free .none rfl (yf_move rfl) ?_
                  refine wl_split 21 rfl (fun hg => ?_) (fun hg => ?_)
                  · skip
                    refine wl_free (.some rfl rfl) rfl (yf_fieldAddr (off := 3) (sz := 0) rfl Tryz.underlying57 (by kernel_rfl) rfl) ?_
                    refine wl_free (.some rfl rfl) rfl (yf_loadL 0 rfl rfl rfl Tryz.underlying55 rfl) ?_
                    refine wl_free (.some rfl rfl) rfl (yf_lenS rfl Tryz.underlying55) ?_
                    refine wl_free (.some rfl rfl) rfl (yf_eql rfl rfl) ?_
                    refine wl_free .none rfl (yf_pickT rfl rfl) ?_
                    refine wl_free .none rfl (yf_assign rfl) ?_
                    refine wl_nil ?_
                    refine wq_block ?_
                    refine wq_meet (ι := {b : Bool // b = okEx k s kids.length}) ⟨okEx k s kids.length, rfl⟩ (.cons rfl <| .cons (by
                      show some (Value.bool _) = some (Value.bool _)
                      congr 2
                      first
                        | (rw [okEx_1 (by omega)]; rw [Bool.eq_iff_iff]; simp_all; done)
                        | (rw [okEx_1 (by omega)]; rw [Bool.eq_iff_iff]; simp_all; omega)
                        | (rw [okEx_2 (by omega)]; rw [Bool.eq_iff_iff]; simp_all; done)
                        | (rw [okEx_2 (by omega)]; rw [Bool.eq_iff_iff]; simp_all; omega)
                        | (rw [okEx_3 (by omega)]; done)
                        | (rw [okEx_4 (by omega)]; rw [Bool.eq_iff_iff]; simp_all; done)
                        | (rw [okEx_4 (by omega)]; rw [Bool.eq_iff_iff]; simp_all; omega)
                        | (rw [okEx_6 (by omega)]; rw [Bool.eq_iff_iff]; simp_all; done)
                        | (rw [okEx_6 (by omega)]; rw [Bool.eq_iff_iff]; simp_all; omega)
                        | (rw [okEx_7 (by omega)]; rw [Bool.eq_iff_iff]; simp_all; done)
                        | (rw [okEx_7 (by omega)]; rw [Bool.eq_iff_iff]; simp_all; omega)
                        | (rw [okEx_0 (by omega)]; done)) <| .nil) (fun w h => Hp.drop h (by first | exact List.Sublist.refl _ | exact List.sublist_cons_self _ _) (List.Sublist.refl _))
                  · skip
                    refine wl_pass (.some rfl rfl rfl) rfl ?_
                    refine wl_pass (.some rfl rfl rfl) rfl ?_
                    refine wl_pass (.some rfl rfl rfl) rfl ?_
                    refine wl_pass (.some rfl rfl rfl) rfl ?_
                    refine wl_free .none rfl (yf_pickF rfl rfl) ?_
                    refine wl_free .none rfl (yf_assign rfl) ?_
                    refine wl_nil ?_
                    refine wq_block ?_
                    refine wq_meet (ι := {b : Bool // b = okEx k s kids.length}) ⟨okEx k s kids.length, rfl⟩ (.cons rfl <| .cons (by
                      show some (Value.bool _) = some (Value.bool _)
                      congr 2
                      first
                        | (rw [okEx_1 (by omega)]; rw [Bool.eq_iff_iff]; simp_all; done)
                        | (rw [okEx_1 (by omega)]; rw [Bool.eq_iff_iff]; simp_all; omega)
                        | (rw [okEx_2 (by omega)]; rw [Bool.eq_iff_iff]; simp_all; done)
                        | (rw [okEx_2 (by omega)]; rw [Bool.eq_iff_iff]; simp_all; omega)
                        | (rw [okEx_3 (by omega)]; done)
                        | (rw [okEx_4 (by omega)]; rw [Bool.eq_iff_iff]; simp_all; done)
                        | (rw [okEx_4 (by omega)]; rw [Bool.eq_iff_iff]; simp_all; omega)
                        | (rw [okEx_6 (by omega)]; rw [Bool.eq_iff_iff]; simp_all; done)
                        | (rw [okEx_6 (by omega)]; rw [Bool.eq_iff_iff]; simp_all; omega)
                        | (rw [okEx_7 (by omega)]; rw [Bool.eq_iff_iff]; simp_all; done)
                        | (rw [okEx_7 (by omega)]; rw [Bool.eq_iff_iff]; simp_all; omega)
                        | (rw [okEx_0 (by omega)]; done)) <| .nil) (fun w h => Hp.drop h (by first | exact List.Sublist.refl _ | exact List.sublist_cons_self _ _) (List.Sublist.refl _)))
            · replace h15 := beq_no h15
              first
                | (omega)
                | (
                  refine wc_seq ?_
                  refine wc_weak (.cons (i := 1) rfl <| .cons (i := 3) rfl <| .cons (i := 5) rfl <| .cons (i := 14) rfl <| .cons (i := 15) rfl <| .nil) ?_
                  refine wc_region ?_
                  refine wl_free .none rfl (yf_eql rfl rfl) ?_
                  refine wl_free .none rfl (yf_assign rfl) ?_
                  refine wl_nil ?_
                  refine wq_then ?_
                  refine wc_cond rfl (fun h27 => ?_) (fun h27 => ?_)
                  · replace h27 := eq_of_beq h27
                    refine wc_weak (.cons (i := 1) rfl <| .cons (i := 3) rfl <| .cons (i := 5) rfl <| .cons (i := 14) rfl <| .cons (i := 15) rfl <| .cons (i := 27) rfl <| .nil) ?_
                    refine wc_region ?_
                    refine wl_free .none rfl (yf_fieldAddr (off := 2) (sz := 0) rfl Tryz.underlying57 (by kernel_rfl) rfl) ?_
                    refine wl_free .none rfl (yf_loadL 0 rfl rfl rfl Tryz.underlying9 rfl) ?_
                    refine wl_pure .none rfl  (v := .bool (isNameL s)) (by kernel_rfl) rfl (fun w hw => ident_any s w) ?_
                    refine wl_free .none rfl (yf_move rfl) ?_
                    refine wl_split 32 rfl (fun hg => ?_) (fun hg => ?_)
                    · skip
                      refine wl_free (.some rfl rfl) rfl (yf_fieldAddr (off := 3) (sz := 0) rfl Tryz.underlying57 (by kernel_rfl) rfl) ?_
                      refine wl_free (.some rfl rfl) rfl (yf_loadL 0 rfl rfl rfl Tryz.underlying55 rfl) ?_
                      refine wl_free (.some rfl rfl) rfl (yf_lenS rfl Tryz.underlying55) ?_
                      refine wl_free (.some rfl rfl) rfl (yf_eql rfl rfl) ?_
                      refine wl_free .none rfl (yf_pickT rfl rfl) ?_
                      refine wl_free .none rfl (yf_assign rfl) ?_
                      refine wl_nil ?_
                      refine wq_block ?_
                      refine wq_meet (ι := {b : Bool // b = okEx k s kids.length}) ⟨okEx k s kids.length, rfl⟩ (.cons rfl <| .cons (by
                        show some (Value.bool _) = some (Value.bool _)
                        congr 2
                        first
                          | (rw [okEx_1 (by omega)]; rw [Bool.eq_iff_iff]; simp_all; done)
                          | (rw [okEx_1 (by omega)]; rw [Bool.eq_iff_iff]; simp_all; omega)
                          | (rw [okEx_2 (by omega)]; rw [Bool.eq_iff_iff]; simp_all; done)
                          | (rw [okEx_2 (by omega)]; rw [Bool.eq_iff_iff]; simp_all; omega)
                          | (rw [okEx_3 (by omega)]; done)
                          | (rw [okEx_4 (by omega)]; rw [Bool.eq_iff_iff]; simp_all; done)
                          | (rw [okEx_4 (by omega)]; rw [Bool.eq_iff_iff]; simp_all; omega)
                          | (rw [okEx_6 (by omega)]; rw [Bool.eq_iff_iff]; simp_all; done)
                          | (rw [okEx_6 (by omega)]; rw [Bool.eq_iff_iff]; simp_all; omega)
                          | (rw [okEx_7 (by omega)]; rw [Bool.eq_iff_iff]; simp_all; done)
                          | (rw [okEx_7 (by omega)]; rw [Bool.eq_iff_iff]; simp_all; omega)
                          | (rw [okEx_0 (by omega)]; done)) <| .nil) (fun w h => Hp.drop h (by first | exact List.Sublist.refl _ | exact List.sublist_cons_self _ _) (List.Sublist.refl _))
                    · skip
                      refine wl_pass (.some rfl rfl rfl) rfl ?_
                      refine wl_pass (.some rfl rfl rfl) rfl ?_
                      refine wl_pass (.some rfl rfl rfl) rfl ?_
                      refine wl_pass (.some rfl rfl rfl) rfl ?_
                      refine wl_free .none rfl (yf_pickF rfl rfl) ?_
                      refine wl_free .none rfl (yf_assign rfl) ?_
                      refine wl_nil ?_
                      refine wq_block ?_
                      refine wq_meet (ι := {b : Bool // b = okEx k s kids.length}) ⟨okEx k s kids.length, rfl⟩ (.cons rfl <| .cons (by
                        show some (Value.bool _) = some (Value.bool _)
                        congr 2
                        first
                          | (rw [okEx_1 (by omega)]; rw [Bool.eq_iff_iff]; simp_all; done)
                          | (rw [okEx_1 (by omega)]; rw [Bool.eq_iff_iff]; simp_all; omega)
                          | (rw [okEx_2 (by omega)]; rw [Bool.eq_iff_iff]; simp_all; done)
                          | (rw [okEx_2 (by omega)]; rw [Bool.eq_iff_iff]; simp_all; omega)
                          | (rw [okEx_3 (by omega)]; done)
                          | (rw [okEx_4 (by omega)]; rw [Bool.eq_iff_iff]; simp_all; done)
                          | (rw [okEx_4 (by omega)]; rw [Bool.eq_iff_iff]; simp_all; omega)
                          | (rw [okEx_6 (by omega)]; rw [Bool.eq_iff_iff]; simp_all; done)
                          | (rw [okEx_6 (by omega)]; rw [Bool.eq_iff_iff]; simp_all; omega)
                          | (rw [okEx_7 (by omega)]; rw [Bool.eq_iff_iff]; simp_all; done)
                          | (rw [okEx_7 (by omega)]; rw [Bool.eq_iff_iff]; simp_all; omega)
                          | (rw [okEx_0 (by omega)]; done)) <| .nil) (fun w h => Hp.drop h (by first | exact List.Sublist.refl _ | exact List.sublist_cons_self _ _) (List.Sublist.refl _))
                  · replace h27 := beq_no h27
                    refine wc_seq ?_
                    refine wc_weak (.cons (i := 1) rfl <| .cons (i := 3) rfl <| .cons (i := 5) rfl <| .cons (i := 14) rfl <| .cons (i := 15) rfl <| .cons (i := 27) rfl <| .nil) ?_
                    refine wc_region ?_
                    refine wl_free .none rfl (yf_eql rfl rfl) ?_
                    refine wl_free .none rfl (yf_assign rfl) ?_
                    refine wl_nil ?_
                    refine wq_then ?_
                    refine wc_cond rfl (fun h38 => ?_) (fun h38 => ?_)
                    · replace h38 := eq_of_beq h38
                      refine wc_weak (.cons (i := 1) rfl <| .cons (i := 3) rfl <| .cons (i := 5) rfl <| .cons (i := 14) rfl <| .cons (i := 15) rfl <| .cons (i := 27) rfl <| .cons (i := 38) rfl <| .nil) ?_
                      refine wc_region ?_
                      refine wl_free .none rfl (yf_fieldAddr (off := 2) (sz := 0) rfl Tryz.underlying57 (by kernel_rfl) rfl) ?_
                      refine wl_free .none rfl (yf_loadL 0 rfl rfl rfl Tryz.underlying9 rfl) ?_
                      refine wl_pure .none rfl  (v := .bool (isNameL s)) (by kernel_rfl) rfl (fun w hw => ident_any s w) ?_
                      refine wl_free .none rfl (yf_assign rfl) ?_
                      refine wl_nil ?_
                      refine wq_block ?_
                      refine wq_meet (ι := {b : Bool // b = okEx k s kids.length}) ⟨okEx k s kids.length, rfl⟩ (.cons rfl <| .cons (by
                        show some (Value.bool _) = some (Value.bool _)
                        congr 2
                        first
                          | (rw [okEx_1 (by omega)]; rw [Bool.eq_iff_iff]; simp_all; done)
                          | (rw [okEx_1 (by omega)]; rw [Bool.eq_iff_iff]; simp_all; omega)
                          | (rw [okEx_2 (by omega)]; rw [Bool.eq_iff_iff]; simp_all; done)
                          | (rw [okEx_2 (by omega)]; rw [Bool.eq_iff_iff]; simp_all; omega)
                          | (rw [okEx_3 (by omega)]; done)
                          | (rw [okEx_4 (by omega)]; rw [Bool.eq_iff_iff]; simp_all; done)
                          | (rw [okEx_4 (by omega)]; rw [Bool.eq_iff_iff]; simp_all; omega)
                          | (rw [okEx_6 (by omega)]; rw [Bool.eq_iff_iff]; simp_all; done)
                          | (rw [okEx_6 (by omega)]; rw [Bool.eq_iff_iff]; simp_all; omega)
                          | (rw [okEx_7 (by omega)]; rw [Bool.eq_iff_iff]; simp_all; done)
                          | (rw [okEx_7 (by omega)]; rw [Bool.eq_iff_iff]; simp_all; omega)
                          | (rw [okEx_0 (by omega)]; done)) <| .nil) (fun w h => Hp.drop h (by first | exact List.Sublist.refl _ | exact List.sublist_cons_self _ _) (List.Sublist.refl _))
                    · replace h38 := beq_no h38
                      refine wc_seq ?_
                      refine wc_weak (.cons (i := 1) rfl <| .cons (i := 3) rfl <| .cons (i := 5) rfl <| .cons (i := 14) rfl <| .cons (i := 15) rfl <| .cons (i := 27) rfl <| .cons (i := 38) rfl <| .nil) ?_
                      refine wc_region ?_
                      refine wl_free .none rfl (yf_eql rfl rfl) ?_
                      refine wl_free .none rfl (yf_assign rfl) ?_
                      refine wl_nil ?_
                      refine wq_then ?_
                      refine wc_cond rfl (fun h43 => ?_) (fun h43 => ?_)
                      · replace h43 := eq_of_beq h43
                        refine wc_weak (.cons (i := 1) rfl <| .cons (i := 3) rfl <| .cons (i := 5) rfl <| .cons (i := 14) rfl <| .cons (i := 15) rfl <| .cons (i := 27) rfl <| .cons (i := 38) rfl <| .cons (i := 43) rfl <| .nil) ?_
                        refine wc_region ?_
                        refine wl_free .none rfl (yf_fieldAddr (off := 2) (sz := 0) rfl Tryz.underlying57 (by kernel_rfl) rfl) ?_
                        refine wl_free .none rfl (yf_loadL 0 rfl rfl rfl Tryz.underlying9 rfl) ?_
                        refine wl_free .none rfl (yf_strs_eql rfl rfl Tryz.underlying9) ?_
                        refine wl_free .none rfl (yf_move rfl) ?_
                        refine wl_split 48 rfl (fun hg => ?_) (fun hg => ?_)
                        · skip
                          refine wl_free (.some rfl rfl) rfl (yf_fieldAddr (off := 3) (sz := 0) rfl Tryz.underlying57 (by kernel_rfl) rfl) ?_
                          refine wl_free (.some rfl rfl) rfl (yf_loadL 0 rfl rfl rfl Tryz.underlying55 rfl) ?_
                          refine wl_free (.some rfl rfl) rfl (yf_lenS rfl Tryz.underlying55) ?_
                          refine wl_free (.some rfl rfl) rfl (yf_eql rfl rfl) ?_
                          refine wl_free .none rfl (yf_pickT rfl rfl) ?_
                          refine wl_free .none rfl (yf_assign rfl) ?_
                          refine wl_nil ?_
                          refine wq_block ?_
                          refine wq_meet (ι := {b : Bool // b = okEx k s kids.length}) ⟨okEx k s kids.length, rfl⟩ (.cons rfl <| .cons (by
                            show some (Value.bool _) = some (Value.bool _)
                            congr 2
                            first
                              | (rw [okEx_1 (by omega)]; rw [Bool.eq_iff_iff]; simp_all; done)
                              | (rw [okEx_1 (by omega)]; rw [Bool.eq_iff_iff]; simp_all; omega)
                              | (rw [okEx_2 (by omega)]; rw [Bool.eq_iff_iff]; simp_all; done)
                              | (rw [okEx_2 (by omega)]; rw [Bool.eq_iff_iff]; simp_all; omega)
                              | (rw [okEx_3 (by omega)]; done)
                              | (rw [okEx_4 (by omega)]; rw [Bool.eq_iff_iff]; simp_all; done)
                              | (rw [okEx_4 (by omega)]; rw [Bool.eq_iff_iff]; simp_all; omega)
                              | (rw [okEx_6 (by omega)]; rw [Bool.eq_iff_iff]; simp_all; done)
                              | (rw [okEx_6 (by omega)]; rw [Bool.eq_iff_iff]; simp_all; omega)
                              | (rw [okEx_7 (by omega)]; rw [Bool.eq_iff_iff]; simp_all; done)
                              | (rw [okEx_7 (by omega)]; rw [Bool.eq_iff_iff]; simp_all; omega)
                              | (rw [okEx_0 (by omega)]; done)) <| .nil) (fun w h => Hp.drop h (by first | exact List.Sublist.refl _ | exact List.sublist_cons_self _ _) (List.Sublist.refl _))
                        · skip
                          refine wl_pass (.some rfl rfl rfl) rfl ?_
                          refine wl_pass (.some rfl rfl rfl) rfl ?_
                          refine wl_pass (.some rfl rfl rfl) rfl ?_
                          refine wl_pass (.some rfl rfl rfl) rfl ?_
                          refine wl_free .none rfl (yf_pickF rfl rfl) ?_
                          refine wl_free .none rfl (yf_assign rfl) ?_
                          refine wl_nil ?_
                          refine wq_block ?_
                          refine wq_meet (ι := {b : Bool // b = okEx k s kids.length}) ⟨okEx k s kids.length, rfl⟩ (.cons rfl <| .cons (by
                            show some (Value.bool _) = some (Value.bool _)
                            congr 2
                            first
                              | (rw [okEx_1 (by omega)]; rw [Bool.eq_iff_iff]; simp_all; done)
                              | (rw [okEx_1 (by omega)]; rw [Bool.eq_iff_iff]; simp_all; omega)
                              | (rw [okEx_2 (by omega)]; rw [Bool.eq_iff_iff]; simp_all; done)
                              | (rw [okEx_2 (by omega)]; rw [Bool.eq_iff_iff]; simp_all; omega)
                              | (rw [okEx_3 (by omega)]; done)
                              | (rw [okEx_4 (by omega)]; rw [Bool.eq_iff_iff]; simp_all; done)
                              | (rw [okEx_4 (by omega)]; rw [Bool.eq_iff_iff]; simp_all; omega)
                              | (rw [okEx_6 (by omega)]; rw [Bool.eq_iff_iff]; simp_all; done)
                              | (rw [okEx_6 (by omega)]; rw [Bool.eq_iff_iff]; simp_all; omega)
                              | (rw [okEx_7 (by omega)]; rw [Bool.eq_iff_iff]; simp_all; done)
                              | (rw [okEx_7 (by omega)]; rw [Bool.eq_iff_iff]; simp_all; omega)
                              | (rw [okEx_0 (by omega)]; done)) <| .nil) (fun w h => Hp.drop h (by first | exact List.Sublist.refl _ | exact List.sublist_cons_self _ _) (List.Sublist.refl _))
                      · replace h43 := beq_no h43
                        refine wc_seq ?_
                        refine wc_weak (.cons (i := 1) rfl <| .cons (i := 3) rfl <| .cons (i := 5) rfl <| .cons (i := 14) rfl <| .cons (i := 15) rfl <| .cons (i := 27) rfl <| .cons (i := 38) rfl <| .cons (i := 43) rfl <| .nil) ?_
                        refine wc_region ?_
                        refine wl_free .none rfl (yf_eql rfl rfl) ?_
                        refine wl_free .none rfl (yf_assign rfl) ?_
                        refine wl_nil ?_
                        refine wq_then ?_
                        refine wc_cond rfl (fun h54 => ?_) (fun h54 => ?_)
                        · replace h54 := eq_of_beq h54
                          refine wc_weak (.cons (i := 1) rfl <| .cons (i := 3) rfl <| .cons (i := 5) rfl <| .cons (i := 14) rfl <| .cons (i := 15) rfl <| .cons (i := 27) rfl <| .cons (i := 38) rfl <| .cons (i := 43) rfl <| .cons (i := 54) rfl <| .nil) ?_
                          refine wc_region ?_
                          refine wl_new .none rfl (nf_bsn (z := .string ⟨#[]⟩) rfl rfl rfl rfl Tryz.underlying22 (by kernel_rfl) (by kernel_rfl) rfl rfl) (fun b56 => ?_)
                          refine wl_free .none rfl (yf_fieldAddr (off := 2) (sz := 0) rfl Tryz.underlying57 (by kernel_rfl) rfl) ?_
                          refine wl_free .none rfl (yf_loadL 1 rfl rfl rfl Tryz.underlying9 rfl) ?_
                          refine wl_pure .none rfl  (v := .bool (decide (s ∈ unL3))) (by kernel_rfl) rfl (fun w hw => contains_any unL3 (by decide) s _ 3 w (mem3 w_0 hw)) ?_
                          refine wl_free .none rfl (yf_move rfl) ?_
                          refine wl_split 60 rfl (fun hg => ?_) (fun hg => ?_)
                          · skip
                            refine wl_free (.some rfl rfl) rfl (yf_fieldAddr (off := 3) (sz := 0) rfl Tryz.underlying57 (by kernel_rfl) rfl) ?_
                            refine wl_free (.some rfl rfl) rfl (yf_loadL 1 rfl rfl rfl Tryz.underlying55 rfl) ?_
                            refine wl_free (.some rfl rfl) rfl (yf_lenS rfl Tryz.underlying55) ?_
                            refine wl_free (.some rfl rfl) rfl (yf_eql rfl rfl) ?_
                            refine wl_free .none rfl (yf_pickT rfl rfl) ?_
                            refine wl_free .none rfl (yf_assign rfl) ?_
                            refine wl_nil ?_
                            refine wq_block ?_
                            refine wq_meet (ι := {b : Bool // b = okEx k s kids.length}) ⟨okEx k s kids.length, rfl⟩ (.cons rfl <| .cons (by
                              show some (Value.bool _) = some (Value.bool _)
                              congr 2
                              first
                                | (rw [okEx_1 (by omega)]; rw [Bool.eq_iff_iff]; simp_all; done)
                                | (rw [okEx_1 (by omega)]; rw [Bool.eq_iff_iff]; simp_all; omega)
                                | (rw [okEx_2 (by omega)]; rw [Bool.eq_iff_iff]; simp_all; done)
                                | (rw [okEx_2 (by omega)]; rw [Bool.eq_iff_iff]; simp_all; omega)
                                | (rw [okEx_3 (by omega)]; done)
                                | (rw [okEx_4 (by omega)]; rw [Bool.eq_iff_iff]; simp_all; done)
                                | (rw [okEx_4 (by omega)]; rw [Bool.eq_iff_iff]; simp_all; omega)
                                | (rw [okEx_6 (by omega)]; rw [Bool.eq_iff_iff]; simp_all; done)
                                | (rw [okEx_6 (by omega)]; rw [Bool.eq_iff_iff]; simp_all; omega)
                                | (rw [okEx_7 (by omega)]; rw [Bool.eq_iff_iff]; simp_all; done)
                                | (rw [okEx_7 (by omega)]; rw [Bool.eq_iff_iff]; simp_all; omega)
                                | (rw [okEx_0 (by omega)]; done)) <| .nil) (fun w h => Hp.drop h (by first | exact List.Sublist.refl _ | exact List.sublist_cons_self _ _) (List.Sublist.refl _))
                          · skip
                            refine wl_pass (.some rfl rfl rfl) rfl ?_
                            refine wl_pass (.some rfl rfl rfl) rfl ?_
                            refine wl_pass (.some rfl rfl rfl) rfl ?_
                            refine wl_pass (.some rfl rfl rfl) rfl ?_
                            refine wl_free .none rfl (yf_pickF rfl rfl) ?_
                            refine wl_free .none rfl (yf_assign rfl) ?_
                            refine wl_nil ?_
                            refine wq_block ?_
                            refine wq_meet (ι := {b : Bool // b = okEx k s kids.length}) ⟨okEx k s kids.length, rfl⟩ (.cons rfl <| .cons (by
                              show some (Value.bool _) = some (Value.bool _)
                              congr 2
                              first
                                | (rw [okEx_1 (by omega)]; rw [Bool.eq_iff_iff]; simp_all; done)
                                | (rw [okEx_1 (by omega)]; rw [Bool.eq_iff_iff]; simp_all; omega)
                                | (rw [okEx_2 (by omega)]; rw [Bool.eq_iff_iff]; simp_all; done)
                                | (rw [okEx_2 (by omega)]; rw [Bool.eq_iff_iff]; simp_all; omega)
                                | (rw [okEx_3 (by omega)]; done)
                                | (rw [okEx_4 (by omega)]; rw [Bool.eq_iff_iff]; simp_all; done)
                                | (rw [okEx_4 (by omega)]; rw [Bool.eq_iff_iff]; simp_all; omega)
                                | (rw [okEx_6 (by omega)]; rw [Bool.eq_iff_iff]; simp_all; done)
                                | (rw [okEx_6 (by omega)]; rw [Bool.eq_iff_iff]; simp_all; omega)
                                | (rw [okEx_7 (by omega)]; rw [Bool.eq_iff_iff]; simp_all; done)
                                | (rw [okEx_7 (by omega)]; rw [Bool.eq_iff_iff]; simp_all; omega)
                                | (rw [okEx_0 (by omega)]; done)) <| .nil) (fun w h => Hp.drop h (by first | exact List.Sublist.refl _ | exact List.sublist_cons_self _ _) (List.Sublist.refl _))
                        · replace h54 := beq_no h54
                          refine wc_seq ?_
                          refine wc_weak (.cons (i := 1) rfl <| .cons (i := 3) rfl <| .cons (i := 5) rfl <| .cons (i := 14) rfl <| .cons (i := 15) rfl <| .cons (i := 27) rfl <| .cons (i := 38) rfl <| .cons (i := 43) rfl <| .cons (i := 54) rfl <| .nil) ?_
                          refine wc_region ?_
                          refine wl_free .none rfl (yf_eql rfl rfl) ?_
                          refine wl_free .none rfl (yf_assign rfl) ?_
                          refine wl_nil ?_
                          refine wq_then ?_
                          refine wc_cond rfl (fun h66 => ?_) (fun h66 => ?_)
                          · replace h66 := eq_of_beq h66
                            refine wc_weak (.cons (i := 1) rfl <| .cons (i := 3) rfl <| .cons (i := 5) rfl <| .cons (i := 14) rfl <| .cons (i := 15) rfl <| .cons (i := 27) rfl <| .cons (i := 38) rfl <| .cons (i := 43) rfl <| .cons (i := 54) rfl <| .cons (i := 66) rfl <| .nil) ?_
                            refine wc_region ?_
                            refine wl_free .none rfl (yf_move rfl) ?_
                            refine wl_free .none rfl (yf_move rfl) ?_
                            refine wl_split 69 rfl (fun hg => ?_) (fun hg => ?_)
                            · skip
                              refine wl_free (.some rfl rfl) rfl (yf_fieldAddr (off := 3) (sz := 0) rfl Tryz.underlying57 (by kernel_rfl) rfl) ?_
                              refine wl_free (.some rfl rfl) rfl (yf_loadL 0 rfl rfl rfl Tryz.underlying55 rfl) ?_
                              refine wl_free (.some rfl rfl) rfl (yf_lenS rfl Tryz.underlying55) ?_
                              refine wl_free (.some rfl rfl) rfl (yf_eql rfl rfl) ?_
                              refine wl_free .none rfl (yf_pickT rfl rfl) ?_
                              refine wl_free .none rfl (yf_assign rfl) ?_
                              refine wl_nil ?_
                              refine wq_block ?_
                              refine wq_meet (ι := {b : Bool // b = okEx k s kids.length}) ⟨okEx k s kids.length, rfl⟩ (.cons rfl <| .cons (by
                                show some (Value.bool _) = some (Value.bool _)
                                congr 2
                                first
                                  | (rw [okEx_1 (by omega)]; rw [Bool.eq_iff_iff]; simp_all; done)
                                  | (rw [okEx_1 (by omega)]; rw [Bool.eq_iff_iff]; simp_all; omega)
                                  | (rw [okEx_2 (by omega)]; rw [Bool.eq_iff_iff]; simp_all; done)
                                  | (rw [okEx_2 (by omega)]; rw [Bool.eq_iff_iff]; simp_all; omega)
                                  | (rw [okEx_3 (by omega)]; done)
                                  | (rw [okEx_4 (by omega)]; rw [Bool.eq_iff_iff]; simp_all; done)
                                  | (rw [okEx_4 (by omega)]; rw [Bool.eq_iff_iff]; simp_all; omega)
                                  | (rw [okEx_6 (by omega)]; rw [Bool.eq_iff_iff]; simp_all; done)
                                  | (rw [okEx_6 (by omega)]; rw [Bool.eq_iff_iff]; simp_all; omega)
                                  | (rw [okEx_7 (by omega)]; rw [Bool.eq_iff_iff]; simp_all; done)
                                  | (rw [okEx_7 (by omega)]; rw [Bool.eq_iff_iff]; simp_all; omega)
                                  | (rw [okEx_0 (by omega)]; done)) <| .nil) (fun w h => Hp.drop h (by first | exact List.Sublist.refl _ | exact List.sublist_cons_self _ _) (List.Sublist.refl _))
                            · skip
                              refine wl_pass (.some rfl rfl rfl) rfl ?_
                              refine wl_pass (.some rfl rfl rfl) rfl ?_
                              refine wl_pass (.some rfl rfl rfl) rfl ?_
                              refine wl_pass (.some rfl rfl rfl) rfl ?_
                              refine wl_free .none rfl (yf_pickF rfl rfl) ?_
                              refine wl_free .none rfl (yf_assign rfl) ?_
                              refine wl_nil ?_
                              refine wq_block ?_
                              refine wq_meet (ι := {b : Bool // b = okEx k s kids.length}) ⟨okEx k s kids.length, rfl⟩ (.cons rfl <| .cons (by
                                show some (Value.bool _) = some (Value.bool _)
                                congr 2
                                first
                                  | (rw [okEx_1 (by omega)]; rw [Bool.eq_iff_iff]; simp_all; done)
                                  | (rw [okEx_1 (by omega)]; rw [Bool.eq_iff_iff]; simp_all; omega)
                                  | (rw [okEx_2 (by omega)]; rw [Bool.eq_iff_iff]; simp_all; done)
                                  | (rw [okEx_2 (by omega)]; rw [Bool.eq_iff_iff]; simp_all; omega)
                                  | (rw [okEx_3 (by omega)]; done)
                                  | (rw [okEx_4 (by omega)]; rw [Bool.eq_iff_iff]; simp_all; done)
                                  | (rw [okEx_4 (by omega)]; rw [Bool.eq_iff_iff]; simp_all; omega)
                                  | (rw [okEx_6 (by omega)]; rw [Bool.eq_iff_iff]; simp_all; done)
                                  | (rw [okEx_6 (by omega)]; rw [Bool.eq_iff_iff]; simp_all; omega)
                                  | (rw [okEx_7 (by omega)]; rw [Bool.eq_iff_iff]; simp_all; done)
                                  | (rw [okEx_7 (by omega)]; rw [Bool.eq_iff_iff]; simp_all; omega)
                                  | (rw [okEx_0 (by omega)]; done)) <| .nil) (fun w h => Hp.drop h (by first | exact List.Sublist.refl _ | exact List.sublist_cons_self _ _) (List.Sublist.refl _))
                          · replace h66 := beq_no h66
                            refine wc_skip ?_
                            refine wq_block ?_
                            refine wq_meet (ι := {b : Bool // b = okEx k s kids.length}) ⟨okEx k s kids.length, rfl⟩ (.cons rfl <| .cons (by
                              show some (Value.bool _) = some (Value.bool _)
                              congr 2
                              first
                                | (rw [okEx_1 (by omega)]; rw [Bool.eq_iff_iff]; simp_all; done)
                                | (rw [okEx_1 (by omega)]; rw [Bool.eq_iff_iff]; simp_all; omega)
                                | (rw [okEx_2 (by omega)]; rw [Bool.eq_iff_iff]; simp_all; done)
                                | (rw [okEx_2 (by omega)]; rw [Bool.eq_iff_iff]; simp_all; omega)
                                | (rw [okEx_3 (by omega)]; done)
                                | (rw [okEx_4 (by omega)]; rw [Bool.eq_iff_iff]; simp_all; done)
                                | (rw [okEx_4 (by omega)]; rw [Bool.eq_iff_iff]; simp_all; omega)
                                | (rw [okEx_6 (by omega)]; rw [Bool.eq_iff_iff]; simp_all; done)
                                | (rw [okEx_6 (by omega)]; rw [Bool.eq_iff_iff]; simp_all; omega)
                                | (rw [okEx_7 (by omega)]; rw [Bool.eq_iff_iff]; simp_all; done)
                                | (rw [okEx_7 (by omega)]; rw [Bool.eq_iff_iff]; simp_all; omega)
                                | (rw [okEx_0 (by omega)]; done)) <| .nil) (fun w h => Hp.drop h (by first | exact List.Sublist.refl _ | exact List.sublist_cons_self _ _) (List.Sublist.refl _))))
    · obtain ⟨ok, hok⟩ := b
      dsimp only
      refine wc_seq ?_
      refine wc_region ?_
      refine wl_free .none rfl (yf_move rfl) ?_
      refine wl_free .none rfl (yf_move rfl) ?_
      refine wl_split 76 rfl (fun g2 => ?_) (fun g2 => ?_)
      · skip
        refine wl_free (.some rfl rfl) rfl (yf_fieldAddr (off := 0) (sz := 0) rfl Tryz.underlying57 (by kernel_rfl) rfl) ?_
        refine wl_free (.some rfl rfl) rfl (yf_loadL 0 rfl rfl rfl Tryz.underlying3 rfl) ?_
        refine wl_free (.some rfl rfl) rfl (yf_eql rfl rfl) ?_
        refine wl_free (.some rfl rfl) rfl (yf_move rfl) ?_
        refine wl_split 80 rfl (fun g6 => ?_) (fun g6 => ?_)
        · replace g6 := eq_of_beq g6
          refine wl_pass (.some rfl rfl rfl) rfl ?_
          refine wl_pass (.some rfl rfl rfl) rfl ?_
          refine wl_pass (.some rfl rfl rfl) rfl ?_
          refine wl_free (.some rfl rfl) rfl (yf_pickT rfl rfl) ?_
          refine wl_free .none rfl (yf_pickT rfl rfl) ?_
          refine wl_free .none rfl (yf_move rfl) ?_
          refine wl_free (.some rfl rfl) rfl (yf_fieldAddr (off := 3) (sz := 0) rfl Tryz.underlying57 (by kernel_rfl) rfl) ?_
          refine wl_free (.some rfl rfl) rfl (yf_loadL 0 rfl rfl rfl Tryz.underlying55 rfl) ?_
          refine wl_pure (.some rfl rfl) rfl  (v := .bool (kids.any fun x => !rightEx x)) (by kernel_rfl) rfl (fun w hw => containsE_any kids A cap hle kc (pr_right kids IH) w (HpG.x hw) trivial) ?_
          refine wl_free (.some rfl rfl) rfl (yf_not rfl) ?_
          refine wl_free .none rfl (yf_pickT rfl rfl) ?_
          refine wl_free .none rfl (yf_assign rfl) ?_
          refine wl_nil ?_
          refine wq_then ?_
          refine wc_ret ?_
          refine wq_ret1 rfl rfl (fun w hw => ?_)
          refine ⟨?_, (HpG.keep hw).ext⟩
          congr 2
          rw [← any_not, ← hok]
          generalize (kids.any fun x => !rightEx x) = z at *
          rw [Bool.eq_iff_iff]
          first
            | (simp_all; done)
            | (simp_all; omega)
        · replace g6 := beq_no g6
          refine wl_free (.some rfl rfl) rfl (yf_fieldAddr (off := 1) (sz := 0) rfl Tryz.underlying57 (by kernel_rfl) rfl) ?_
          refine wl_free (.some rfl rfl) rfl (yf_loadL 0 rfl rfl rfl Tryz.underlying50 rfl) ?_
          refine wl_free (.some rfl rfl) rfl (yf_eql rfl rfl) ?_
          refine wl_free (.some rfl rfl) rfl (yf_pickF rfl rfl) ?_
          refine wl_free .none rfl (yf_pickT rfl rfl) ?_
          refine wl_free .none rfl (yf_move rfl) ?_
          refine wl_split 86 rfl (fun g12 => ?_) (fun g12 => ?_)
          · replace g12 := eq_of_beq g12
            refine wl_free (.some rfl rfl) rfl (yf_fieldAddr (off := 3) (sz := 0) rfl Tryz.underlying57 (by kernel_rfl) rfl) ?_
            refine wl_free (.some rfl rfl) rfl (yf_loadL 0 rfl rfl rfl Tryz.underlying55 rfl) ?_
            refine wl_pure (.some rfl rfl) rfl  (v := .bool (kids.any fun x => !rightEx x)) (by kernel_rfl) rfl (fun w hw => containsE_any kids A cap hle kc (pr_right kids IH) w (HpG.x hw) trivial) ?_
            refine wl_free (.some rfl rfl) rfl (yf_not rfl) ?_
            refine wl_free .none rfl (yf_pickT rfl rfl) ?_
            refine wl_free .none rfl (yf_assign rfl) ?_
            refine wl_nil ?_
            refine wq_then ?_
            refine wc_ret ?_
            refine wq_ret1 rfl rfl (fun w hw => ?_)
            refine ⟨?_, (HpG.keep hw).ext⟩
            congr 2
            rw [← any_not, ← hok]
            generalize (kids.any fun x => !rightEx x) = z at *
            rw [Bool.eq_iff_iff]
            first
              | (simp_all; done)
              | (simp_all; omega)
          · replace g12 := beq_no g12
            refine wl_pass (.some rfl rfl rfl) rfl ?_
            refine wl_pass (.some rfl rfl rfl) rfl ?_
            refine wl_pass (.some rfl rfl rfl) rfl ?_
            refine wl_pass (.some rfl rfl rfl) rfl ?_
            refine wl_free .none rfl (yf_pickF rfl rfl) ?_
            refine wl_free .none rfl (yf_assign rfl) ?_
            refine wl_nil ?_
            refine wq_then ?_
            refine wc_ret ?_
            refine wq_ret1 rfl rfl (fun w hw => ?_)
            refine ⟨?_, (HpG.keep hw).ext⟩
            congr 2
            rw [← any_not, ← hok]
            generalize (kids.any fun x => !rightEx x) = z at *
            rw [Bool.eq_iff_iff]
            first
              | (simp_all; done)
              | (simp_all; omega)
      · skip
        refine wl_pass (.some rfl rfl rfl) rfl ?_
        refine wl_pass (.some rfl rfl rfl) rfl ?_
        refine wl_pass (.some rfl rfl rfl) rfl ?_
        refine wl_pass (.some rfl rfl rfl) rfl ?_
        refine wl_passU rfl rfl rfl ?_
        refine wl_passU rfl rfl rfl ?_
        refine wl_passU rfl rfl rfl ?_
        refine wl_pass (.some rfl rfl rfl) rfl ?_
        refine wl_free .none rfl (yf_pickF rfl rfl) ?_
        refine wl_free .none rfl (yf_move rfl) ?_
        refine wl_pass (.some rfl rfl rfl) rfl ?_
        refine wl_pass (.some rfl rfl rfl) rfl ?_
        refine wl_pass (.some rfl rfl rfl) rfl ?_
        refine wl_pass (.some rfl rfl rfl) rfl ?_
        refine wl_free .none rfl (yf_pickF rfl rfl) ?_
        refine wl_free .none rfl (yf_assign rfl) ?_
        refine wl_nil ?_
        refine wq_then ?_
        refine wc_ret ?_
        refine wq_ret1 rfl rfl (fun w hw => ?_)
        refine ⟨?_, (HpG.keep hw).ext⟩
        congr 2
        rw [← any_not, ← hok]
        generalize (kids.any fun x => !rightEx x) = z at *
        rw [Bool.eq_iff_iff]
        first
          | (simp_all; done)
          | (simp_all; omega)
theorem rightE_all : ∀ (N : Nat) (x : Ex), SizeOf.sizeOf x < N → RE x
  | 0, _, h => absurd h (by omega)
  | N + 1, .mk k n s kids, h => rightE_step k n s kids fun x hx => rightE_all N x (by have := sizeOf_kids (k := k) (n := n) (s := s) hx; omega)
theorem rightE_any (x : Ex) : RE x := rightE_all _ x (Nat.lt_succ_self _)
/-! ### Statements -/
theorem pr_right2 (l : List Ex) : PrE (.func (.func 132) #[] #[]) l (fun x => !rightEx x) (fun _ => True) := ⟨_, [], [], rfl, by kernel_rfl, fun _ _ _ _ => trivial, fun x hx F A cap w_0 h _ => by
  show Calls Tryz.prog 132 #[.agg (exOf x A cap).toArray] w_0 fun e w' => e = .returned (.bool (!rightEx x)) ∧ Ext w_0 w'
  refine calls_wc (args := [.agg (exOf x A cap).toArray]) Tryz.func132 rfl 6 rfl (Nat.le_of_ble_eq_true rfl) ?_
  refine wc_weak (.cons (i := 0) rfl <| .nil) ?_
  refine wc_conseq (H' := Hp (fun _ => False) w_0 [] [] (fun u => exsK F u x A cap)) (fun u hu => ?_) ?_
  · subst hu; exact Hp.startT exsK.lies h
  refine wc_seq ?_
  refine wc_region ?_
  refine wl_new .none rfl (nf_box rfl rfl) (fun b1 => ?_)
  refine wl_free .none rfl (yf_assign rfl) ?_
  refine wl_nil ?_
  refine wq_then ?_
  refine wc_seq ?_
  refine wc_region ?_
  refine wl_free .none rfl (yf_loadAllL 0 rfl rfl Tryz.underlying57 rfl (by kernel_rfl)) ?_
  refine wl_pure .none rfl  (v := .bool (rightEx x)) (by kernel_rfl) rfl (fun w hw => rightE_any x F A cap w (HpG.x hw)) ?_
  refine wl_free .none rfl (yf_not rfl) ?_
  refine wl_free .none rfl (yf_assign rfl) ?_
  refine wl_nil ?_
  refine wq_then ?_
  refine wc_ret ?_
  refine wq_ret1 rfl rfl (fun w hw => ?_)
  exact ⟨rfl, (HpG.keep hw).ext⟩
  ⟩
def RS (t : St) : Prop := ∀ F a w, stsK F w t a → Calls Tryz.prog 99 #[.agg (stOf t a).toArray] w fun e w' => e = .returned (.bool (rightSt t)) ∧ Ext w w'
theorem pr_rightS (l : List St) (h : ∀ x ∈ l, RS x) : PrS (.func (.func 98) #[] #[]) l (fun x => !rightSt x) (fun _ => True) := ⟨_, [], [], rfl, by kernel_rfl, fun _ _ _ _ => trivial, fun x hx F a w_0 hk _ => by
  show Calls Tryz.prog 98 #[.agg (stOf x a).toArray] w_0 fun e w' => e = .returned (.bool (!rightSt x)) ∧ Ext w_0 w'
  refine calls_wc (args := [.agg (stOf x a).toArray]) Tryz.func98 rfl 6 rfl (Nat.le_of_ble_eq_true rfl) ?_
  refine wc_weak (.cons (i := 0) rfl <| .nil) ?_
  refine wc_conseq (H' := Hp (fun _ => False) w_0 [] [] (fun u => stsK F u x a)) (fun u hu => ?_) ?_
  · subst hu; exact Hp.startT stsK.lies hk
  refine wc_seq ?_
  refine wc_region ?_
  refine wl_new .none rfl (nf_box rfl rfl) (fun b1 => ?_)
  refine wl_free .none rfl (yf_assign rfl) ?_
  refine wl_nil ?_
  refine wq_then ?_
  refine wc_seq ?_
  refine wc_region ?_
  refine wl_free .none rfl (yf_loadAllL 0 rfl rfl Tryz.underlying60 rfl (by kernel_rfl)) ?_
  refine wl_pure .none rfl  (v := .bool (rightSt x)) (by kernel_rfl) rfl (fun w hw => h x hx F a w (HpG.x hw)) ?_
  refine wl_free .none rfl (yf_not rfl) ?_
  refine wl_free .none rfl (yf_assign rfl) ?_
  refine wl_nil ?_
  refine wq_then ?_
  refine wc_ret ?_
  refine wq_ret1 rfl rfl (fun w hw => ?_)
  exact ⟨rfl, (HpG.keep hw).ext⟩
  ⟩
theorem any_notS (l : List St) : (!l.any fun x => !rightSt x) = rightSts l := by
  rw [rightSts_eq]
  induction l with
  | nil => rfl
  | cons x l ih => simp only [List.any_cons, List.all_cons, Bool.not_or, Bool.not_not, ih]
theorem rightB_any (l : List St) (h : ∀ x ∈ l, RS x) (F : Nat → Prop) (A : Option Addr) (cap : Nat) (w_0 : World) (hk : blkK F w_0 l A cap) : Calls Tryz.prog 57 #[.slice A l.length cap] w_0 fun e w' => e = .returned (.bool (rightSts l)) ∧ Ext w_0 w' := by
  obtain ⟨hcp, cs, hk⟩ := hk
  refine calls_wc (args := [.slice A l.length cap]) Tryz.func57 rfl 6 rfl (Nat.le_of_ble_eq_true rfl) ?_
  refine wc_weak (.cons (i := 0) rfl <| .nil) ?_
  refine wc_conseq (H' := Hp (fun _ => False) w_0 [] [] (fun u => RdF F A cs u ∧ StsV F u l cs)) (fun u hu => ?_) ?_
  · subst hu; exact Hp.startT (T := fun F u => RdF F A cs u ∧ StsV F u l cs) ⟨fun hk ⟨a, b⟩ => ⟨RdF.lies.foot hk a, StsV.lies.foot hk b⟩, fun ⟨a, b⟩ => ⟨RdF.lies.lt a, StsV.lies.lt b⟩, fun hF ⟨a, b⟩ => ⟨RdF.lies.mono hF a, StsV.lies.mono hF b⟩⟩ hk
  refine wc_seq ?_
  refine wc_region ?_
  refine wl_free .none rfl (yf_assign rfl) ?_
  refine wl_nil ?_
  refine wq_then ?_
  refine wc_seq ?_
  refine wc_region ?_
  refine wl_free .none rfl (yf_move rfl) ?_
  refine wl_pure .none rfl  (v := .bool (l.any fun x => !rightSt x)) (by kernel_rfl) rfl (fun w hw => containsS_any l A cap hcp cs (pr_rightS l h) w (HpG.x hw) trivial) ?_
  refine wl_free .none rfl (yf_not rfl) ?_
  refine wl_free .none rfl (yf_assign rfl) ?_
  refine wl_nil ?_
  refine wq_then ?_
  refine wc_ret ?_
  refine wq_ret1 rfl rfl (fun w hw => ?_)
  exact ⟨by rw [any_notS], (HpG.keep hw).ext⟩
end Go.Proofs.YtfpkpnkdnammnaaGreatDoor
