/- rightStmt, Right. -/
import Derived.Test.YtfpkpnkdnammnaaGreatDoorSyY
import Derived.Test.YtfpkpnkdnammnaaGreatDoorCutR
namespace Go.Proofs.YtfpkpnkdnammnaaGreatDoor
open Go.RowKit
structure StI where
  named : Bool
  ne : Nat
  nb : Nat
structure StIok (k : Nat) (i : StI) : Prop where
  named : i.named = decide (k = 1 ∨ k = 2)
  ne : i.ne = if k = 3 then 2 else 1
  nb : i.nb = if k = 4 then 2 else if k = 5 then 1 else 0
theorem okSt_eq {k : Nat} {i : StI} (h : StIok k i) (s : Bs) (es b c : Nat) : okSt k s es b c = (decide (1 ≤ k) && decide (k ≤ 8) && decide (es = i.ne) && (i.named && isNameL s || !i.named && decide (s = [])) && (decide (0 < i.nb) || decide (b = 0)) && (decide (1 < i.nb) || decide (c = 0))) := by
  obtain ⟨h1, h2, h3⟩ := h
  unfold okSt
  rw [h1, h2, h3]
  by_cases c1 : k = 1 ∨ k = 2
  · have e1 : ¬ (k = 4 ∨ k = 5) := by omega
    have e2 : k ≠ 4 := by omega
    have e3 : k ≠ 5 := by omega
    simp [c1, e2, e3]
  · by_cases c4 : k = 4
    · subst c4; simp
    · by_cases c5 : k = 5
      · subst c5; simp
      · simp [c1, c4, c5]
theorem rightSt_eq (k : Nat) (s : Bs) (es : List Ex) (b c : List St) : rightSt (.mk k s es b c) = (okSt k s es.length b.length c.length && rightExs es && rightSts b && rightSts c) := by simp only [rightSt]
set_option maxHeartbeats 4000000 in
set_option maxRecDepth 100000 in
theorem rightS_step (k : Nat) (s : Bs) (es : List Ex) (b c : List St) (hb : ∀ x ∈ b, RS x) (hc : ∀ x ∈ c, RS x) : RS (.mk k s es b c) := by
  intro F a w_0 h
  obtain ⟨A1, A2, A3, c1, c2, c3⟩ := a
  obtain ⟨p1, p2, p3, ⟨x1, h1, k1⟩, h2, h3⟩ := h
  dsimp only [St.exprs, St.body, St.els] at p1 p2 p3 h1 k1 h2 h3
  have hX : (RdF F A1 x1 w_0 ∧ ExsV F w_0 es x1) ∧ blkK F w_0 b A2 c2 ∧ blkK F w_0 c A3 c3 := ⟨⟨h1, k1⟩, ⟨p2, h2⟩, ⟨p3, h3⟩⟩
  have hT : Lies fun F u => (RdF F A1 x1 u ∧ ExsV F u es x1) ∧ blkK F u b A2 c2 ∧ blkK F u c A3 c3 := ⟨fun hk ⟨⟨a, b⟩, d, e⟩ => ⟨⟨RdF.lies.foot hk a, ExsV.lies.foot hk b⟩, blkK.lies.foot hk d, blkK.lies.foot hk e⟩, fun ⟨⟨a, b⟩, d, e⟩ => ⟨⟨RdF.lies.lt a, ExsV.lies.lt b⟩, blkK.lies.lt d, blkK.lies.lt e⟩, fun hF ⟨⟨a, b⟩, d, e⟩ => ⟨⟨RdF.lies.mono hF a, ExsV.lies.mono hF b⟩, blkK.lies.mono hF d, blkK.lies.mono hF e⟩⟩
  rw [rightSt_eq]
  refine calls_wc (args := [.agg (stC k s A1 es.length c1 A2 b.length c2 A3 c.length c3).toArray]) Tryz.func99 rfl 91 rfl (Nat.le_of_ble_eq_true rfl) ?_
  refine wc_weak (.cons (i := 0) rfl <| .nil) ?_
  refine wc_conseq (H' := Hp (fun _ => False) w_0 [] [] (fun u => (RdF F A1 x1 u ∧ ExsV F u es x1) ∧ blkK F u b A2 c2 ∧ blkK F u c A3 c3)) (fun u hu => ?_) ?_
  · subst hu; exact Hp.startT hT hX
  refine wc_seq ?_
  refine wc_region ?_
  refine wl_new .none rfl (nf_box rfl rfl) (fun b1 => ?_)
  refine wl_free .none rfl (yf_assign rfl) ?_
  refine wl_nil ?_
  refine wq_then ?_
  refine wc_seq ?_
  refine wc_region ?_
  refine wl_free .none rfl (yf_fieldAddr (off := 0) (sz := 0) rfl Tryz.underlying60 (by kernel_rfl) rfl) ?_
  refine wl_free .none rfl (yf_loadL 0 rfl rfl rfl Tryz.underlying3 rfl) ?_
  refine wl_free .none rfl (yf_eql rfl rfl) ?_
  refine wl_free .none rfl (yf_move rfl) ?_
  refine wl_split 9 rfl (fun g1 => ?_) (fun g1 => ?_)
  · replace g1 := eq_of_beq g1
    refine wl_pass (.some rfl rfl rfl) rfl ?_
    refine wl_pass (.some rfl rfl rfl) rfl ?_
    refine wl_pass (.some rfl rfl rfl) rfl ?_
    refine wl_free .none rfl (yf_pickT rfl rfl) ?_
    refine wl_free .none rfl (yf_assign rfl) ?_
    refine wl_nil ?_
    refine wq_then ?_
    refine wc_seq ?_
    refine wc_weak (.cons (i := 0) rfl <| .cons (i := 1) rfl <| .cons (i := 2) rfl <| .cons (i := 3) rfl <| .nil) ?_
    refine wc_region ?_
    refine wl_free .none rfl (yf_assign rfl) ?_
    refine wl_nil ?_
    refine wq_then ?_
    refine wc_cut (ι := Unit) (fun _ => [(1, .pointer (some ⟨b1, 0, none⟩)), (3, .bool (decide (k = 1 ∨ k = 2))), (4, .int .i64 (((if k = 3 then 2 else 1) : Nat) : Int))]) (fun _ => Hp (fun _ => False) w_0 [(b1, bk 60 (stC k s A1 es.length c1 A2 b.length c2 A3 c.length c3))] [] (fun u => (RdF F A1 x1 u ∧ ExsV F u es x1) ∧ blkK F u b A2 c2 ∧ blkK F u c A3 c3)) ?_ (fun _ => ?_)
    · skip
      refine wc_seq ?_
      refine wc_region ?_
      refine wl_free .none rfl (yf_fieldAddr (off := 0) (sz := 0) rfl Tryz.underlying60 (by kernel_rfl) rfl) ?_
      refine wl_free .none rfl (yf_loadL 0 rfl rfl rfl Tryz.underlying3 rfl) ?_
      refine wl_free .none rfl (yf_eql rfl rfl) ?_
      refine wl_nil ?_
      refine wq_then ?_
      refine wc_cond rfl (fun h16 => ?_) (fun h16 => ?_)
      · replace h16 := eq_of_beq h16
        first
          | (omega)
          | (
            refine wc_weak (.cons (i := 0) rfl <| .cons (i := 1) rfl <| .cons (i := 2) rfl <| .cons (i := 3) rfl <| .cons (i := 4) rfl <| .cons (i := 16) rfl <| .nil) ?_
            refine wc_region ?_
            refine wl_free .none rfl (yf_assign rfl) ?_
            refine wl_nil ?_
            refine wq_meet (ι := Unit) () (.cons rfl <| .cons (by
              show some (Value.bool _) = some (Value.bool _)
              congr 2
              rw [Bool.eq_iff_iff]
              first
                | (simp; done)
                | (simp; omega)
                | omega) <| .cons (by
              show some (Value.int .i64 _) = some (Value.int .i64 _)
              congr 2
              first
                | (rw [if_pos (by omega)]; rfl)
                | (rw [if_neg (by omega)]; rfl)) <| .nil) (fun w h => h))
      · replace h16 := beq_no h16
        first
          | (omega)
          | (
            refine wc_skip ?_
            refine wq_meet (ι := Unit) () (.cons rfl <| .cons (by
              show some (Value.bool _) = some (Value.bool _)
              congr 2
              rw [Bool.eq_iff_iff]
              first
                | (simp; done)
                | (simp; omega)
                | omega) <| .cons (by
              show some (Value.int .i64 _) = some (Value.int .i64 _)
              congr 2
              first
                | (rw [if_pos (by omega)]; rfl)
                | (rw [if_neg (by omega)]; rfl)) <| .nil) (fun w h => h))
    · skip
      refine wc_seq ?_
      refine wc_region ?_
      refine wl_free .none rfl (yf_assign rfl) ?_
      refine wl_nil ?_
      refine wq_then ?_
      refine wc_cut (ι := {i : StI // StIok k i}) (fun i => [(1, .pointer (some ⟨b1, 0, none⟩)), (3, .bool i.1.named), (4, .int .i64 i.1.ne), (5, .int .i64 i.1.nb)]) (fun _ => Hp (fun _ => False) w_0 [(b1, bk 60 (stC k s A1 es.length c1 A2 b.length c2 A3 c.length c3))] [] (fun u => (RdF F A1 x1 u ∧ ExsV F u es x1) ∧ blkK F u b A2 c2 ∧ blkK F u c A3 c3)) ?_ (fun i => ?_)
      · skip
        refine wc_seq ?_
        refine wc_region ?_
        refine wl_free .none rfl (yf_fieldAddr (off := 0) (sz := 0) rfl Tryz.underlying60 (by kernel_rfl) rfl) ?_
        refine wl_free .none rfl (yf_loadL 0 rfl rfl rfl Tryz.underlying3 rfl) ?_
        refine wl_nil ?_
        refine wq_then ?_
        refine wc_block ?_
        refine wc_seq ?_
        refine wc_weak (.cons (i := 1) rfl <| .cons (i := 3) rfl <| .cons (i := 4) rfl <| .cons (i := 5) rfl <| .cons (i := 18) rfl <| .nil) ?_
        refine wc_region ?_
        refine wl_free .none rfl (yf_eql rfl rfl) ?_
        refine wl_free .none rfl (yf_assign rfl) ?_
        refine wl_nil ?_
        refine wq_then ?_
        refine wc_cond rfl (fun h19 => ?_) (fun h19 => ?_)
        · replace h19 := eq_of_beq h19
          first
            | (omega)
            | (
              refine wc_weak (.cons (i := 1) rfl <| .cons (i := 3) rfl <| .cons (i := 4) rfl <| .cons (i := 5) rfl <| .cons (i := 18) rfl <| .cons (i := 19) rfl <| .nil) ?_
              refine wc_region ?_
              refine wl_free .none rfl (yf_assign rfl) ?_
              refine wl_nil ?_
              refine wq_block ?_
              refine wq_meet (ι := {i : StI // StIok k i}) ⟨⟨decide (k = 1 ∨ k = 2), if k = 3 then 2 else 1, if k = 4 then 2 else if k = 5 then 1 else 0⟩, ⟨rfl, rfl, rfl⟩⟩ (.cons rfl <| .cons rfl <| .cons rfl <| .cons (by
                show some (Value.int .i64 _) = some (Value.int .i64 _)
                dsimp only
                congr 2
                first
                  | (rw [if_pos (by omega)]; rfl)
                  | (rw [if_neg (by omega), if_pos (by omega)]; rfl)
                  | (rw [if_neg (by omega), if_neg (by omega)]; rfl)) <| .nil) (fun w h => h))
        · replace h19 := beq_no h19
          first
            | (omega)
            | (
              refine wc_seq ?_
              refine wc_weak (.cons (i := 1) rfl <| .cons (i := 3) rfl <| .cons (i := 4) rfl <| .cons (i := 5) rfl <| .cons (i := 18) rfl <| .cons (i := 19) rfl <| .nil) ?_
              refine wc_region ?_
              refine wl_free .none rfl (yf_eql rfl rfl) ?_
              refine wl_free .none rfl (yf_assign rfl) ?_
              refine wl_nil ?_
              refine wq_then ?_
              refine wc_cond rfl (fun h21 => ?_) (fun h21 => ?_)
              · replace h21 := eq_of_beq h21
                first
                  | (omega)
                  | (
                    refine wc_weak (.cons (i := 1) rfl <| .cons (i := 3) rfl <| .cons (i := 4) rfl <| .cons (i := 5) rfl <| .cons (i := 18) rfl <| .cons (i := 19) rfl <| .cons (i := 21) rfl <| .nil) ?_
                    refine wc_region ?_
                    refine wl_free .none rfl (yf_assign rfl) ?_
                    refine wl_nil ?_
                    refine wq_block ?_
                    refine wq_meet (ι := {i : StI // StIok k i}) ⟨⟨decide (k = 1 ∨ k = 2), if k = 3 then 2 else 1, if k = 4 then 2 else if k = 5 then 1 else 0⟩, ⟨rfl, rfl, rfl⟩⟩ (.cons rfl <| .cons rfl <| .cons rfl <| .cons (by
                      show some (Value.int .i64 _) = some (Value.int .i64 _)
                      dsimp only
                      congr 2
                      first
                        | (rw [if_pos (by omega)]; rfl)
                        | (rw [if_neg (by omega), if_pos (by omega)]; rfl)
                        | (rw [if_neg (by omega), if_neg (by omega)]; rfl)) <| .nil) (fun w h => h))
              · replace h21 := beq_no h21
                first
                  | (omega)
                  | (
                    refine wc_skip ?_
                    refine wq_block ?_
                    refine wq_meet (ι := {i : StI // StIok k i}) ⟨⟨decide (k = 1 ∨ k = 2), if k = 3 then 2 else 1, if k = 4 then 2 else if k = 5 then 1 else 0⟩, ⟨rfl, rfl, rfl⟩⟩ (.cons rfl <| .cons rfl <| .cons rfl <| .cons (by
                      show some (Value.int .i64 _) = some (Value.int .i64 _)
                      dsimp only
                      congr 2
                      first
                        | (rw [if_pos (by omega)]; rfl)
                        | (rw [if_neg (by omega), if_pos (by omega)]; rfl)
                        | (rw [if_neg (by omega), if_neg (by omega)]; rfl)) <| .nil) (fun w h => h)))
      · obtain ⟨⟨named, ne, nb⟩, hi⟩ := i
        dsimp only
        rw [okSt_eq hi]
        clear hi
        refine wc_seq ?_
        refine wc_region ?_
        refine wl_cut 32 (ι := Unit) (fun _ => [(1, .pointer (some ⟨b1, 0, none⟩)), (5, .int .i64 nb), (54, .bool (decide (1 ≤ k) && decide (k ≤ 8) && decide (es.length = ne) && (named && isNameL s || !named && decide (s = []))))]) (fun _ => Hp (fun _ => False) w_0 [(b1, bk 60 (stC k s A1 es.length c1 A2 b.length c2 A3 c.length c3))] [] (fun u => (RdF F A1 x1 u ∧ ExsV F u es x1) ∧ blkK F u b A2 c2 ∧ blkK F u c A3 c3)) ?_ (fun _ => ?_)
        · skip
          refine wl_free .none rfl (yf_fieldAddr (off := 0) (sz := 0) rfl Tryz.underlying60 (by kernel_rfl) rfl) ?_
          refine wl_free .none rfl (yf_loadL 0 rfl rfl rfl Tryz.underlying3 rfl) ?_
          refine wl_free .none rfl (yf_geq rfl rfl) ?_
          refine wl_free .none rfl (yf_move rfl) ?_
          refine wl_split 26 rfl (fun q4 => ?_) (fun q4 => ?_)
          · replace q4 := of_decide_eq_true q4
            refine wl_free (.some rfl rfl) rfl (yf_fieldAddr (off := 0) (sz := 0) rfl Tryz.underlying60 (by kernel_rfl) rfl) ?_
            refine wl_free (.some rfl rfl) rfl (yf_loadL 0 rfl rfl rfl Tryz.underlying3 rfl) ?_
            refine wl_free (.some rfl rfl) rfl (yf_leq rfl rfl) ?_
            refine wl_free .none rfl (yf_pickT rfl rfl) ?_
            refine wl_free .none rfl (yf_move rfl) ?_
            refine wl_split 31 rfl (fun q9 => ?_) (fun q9 => ?_)
            · replace q9 := of_decide_eq_true q9
              refine wl_free (.some rfl rfl) rfl (yf_fieldAddr (off := 2) (sz := 0) rfl Tryz.underlying60 (by kernel_rfl) rfl) ?_
              refine wl_free (.some rfl rfl) rfl (yf_loadL 0 rfl rfl rfl Tryz.underlying55 rfl) ?_
              refine wl_free (.some rfl rfl) rfl (yf_lenS rfl Tryz.underlying55) ?_
              refine wl_free (.some rfl rfl) rfl (yf_move rfl) ?_
              refine wl_free (.some rfl rfl) rfl (yf_eql rfl rfl) ?_
              refine wl_free .none rfl (yf_pickT rfl rfl) ?_
              refine wl_free .none rfl (yf_move rfl) ?_
              refine wl_split 38 rfl (fun q16 => ?_) (fun q16 => ?_)
              · replace q16 := eq_of_beq q16
                refine wl_free (.some rfl rfl) rfl (yf_move rfl) ?_
                refine wl_free (.some rfl rfl) rfl (yf_move rfl) ?_
                refine wl_split 40 rfl (fun q18 => ?_) (fun q18 => ?_)
                · skip
                  refine wl_free (.some rfl rfl) rfl (yf_fieldAddr (off := 1) (sz := 0) rfl Tryz.underlying60 (by kernel_rfl) rfl) ?_
                  refine wl_free (.some rfl rfl) rfl (yf_loadL 0 rfl rfl rfl Tryz.underlying9 rfl) ?_
                  refine wl_pure (.some rfl rfl) rfl  (v := .bool (isNameL s)) (by kernel_rfl) rfl (fun w hw => ident_any s w) ?_
                  refine wl_free (.some rfl rfl) rfl (yf_pickT rfl rfl) ?_
                  refine wl_free (.some rfl rfl) rfl (yf_move rfl) ?_
                  refine wl_split 45 rfl (fun q23 => ?_) (fun q23 => ?_)
                  · skip
                    refine wl_pass (.some rfl rfl rfl) rfl ?_
                    refine wl_pass (.some rfl rfl rfl) rfl ?_
                    refine wl_pass (.some rfl rfl rfl) rfl ?_
                    refine wl_passU rfl rfl rfl ?_
                    refine wl_passU rfl rfl rfl ?_
                    refine wl_passU rfl rfl rfl ?_
                    refine wl_pass (.some rfl rfl rfl) rfl ?_
                    refine wl_free (.some rfl rfl) rfl (yf_pickT rfl rfl) ?_
                    refine wl_free .none rfl (yf_pickT rfl rfl) ?_
                    refine wl_nil ?_
                    refine wq_cut (ι := Unit) () (.cons rfl <| .cons rfl <| .cons ?_ <| .nil) (fun w h => h)
                    show some (Value.bool _) = some (Value.bool _)
                    congr 2
                    rw [Bool.eq_iff_iff]
                    first
                      | (simp_all; done)
                      | (simp_all; omega)
                  · skip
                    refine wl_free (.some rfl rfl) rfl (yf_move rfl) ?_
                    refine wl_free (.some rfl rfl) rfl (yf_not rfl) ?_
                    refine wl_free (.some rfl rfl) rfl (yf_move rfl) ?_
                    refine wl_split 48 rfl (fun q26 => ?_) (fun q26 => ?_)
                    · skip
                      refine wl_free (.some rfl rfl) rfl (yf_fieldAddr (off := 1) (sz := 0) rfl Tryz.underlying60 (by kernel_rfl) rfl) ?_
                      refine wl_free (.some rfl rfl) rfl (yf_loadL 0 rfl rfl rfl Tryz.underlying9 rfl) ?_
                      refine wl_free (.some rfl rfl) rfl (yf_strs_eql rfl rfl Tryz.underlying9) ?_
                      refine wl_free (.some rfl rfl) rfl (yf_pickT rfl rfl) ?_
                      refine wl_free (.some rfl rfl) rfl (yf_pickF rfl rfl) ?_
                      refine wl_free .none rfl (yf_pickT rfl rfl) ?_
                      refine wl_nil ?_
                      refine wq_cut (ι := Unit) () (.cons rfl <| .cons rfl <| .cons ?_ <| .nil) (fun w h => h)
                      show some (Value.bool _) = some (Value.bool _)
                      congr 2
                      rw [Bool.eq_iff_iff]
                      first
                        | (simp_all; done)
                        | (simp_all; omega)
                    · skip
                      refine wl_pass (.some rfl rfl rfl) rfl ?_
                      refine wl_pass (.some rfl rfl rfl) rfl ?_
                      refine wl_pass (.some rfl rfl rfl) rfl ?_
                      refine wl_free (.some rfl rfl) rfl (yf_pickF rfl rfl) ?_
                      refine wl_free (.some rfl rfl) rfl (yf_pickF rfl rfl) ?_
                      refine wl_free .none rfl (yf_pickT rfl rfl) ?_
                      refine wl_nil ?_
                      refine wq_cut (ι := Unit) () (.cons rfl <| .cons rfl <| .cons ?_ <| .nil) (fun w h => h)
                      show some (Value.bool _) = some (Value.bool _)
                      congr 2
                      rw [Bool.eq_iff_iff]
                      first
                        | (simp_all; done)
                        | (simp_all; omega)
                · skip
                  refine wl_pass (.some rfl rfl rfl) rfl ?_
                  refine wl_pass (.some rfl rfl rfl) rfl ?_
                  refine wl_pass (.some rfl rfl rfl) rfl ?_
                  refine wl_free (.some rfl rfl) rfl (yf_pickF rfl rfl) ?_
                  refine wl_free (.some rfl rfl) rfl (yf_move rfl) ?_
                  refine wl_free (.some rfl rfl) rfl (yf_move rfl) ?_
                  refine wl_free (.some rfl rfl) rfl (yf_not rfl) ?_
                  refine wl_free (.some rfl rfl) rfl (yf_move rfl) ?_
                  refine wl_split 48 rfl (fun q26 => ?_) (fun q26 => ?_)
                  · skip
                    refine wl_free (.some rfl rfl) rfl (yf_fieldAddr (off := 1) (sz := 0) rfl Tryz.underlying60 (by kernel_rfl) rfl) ?_
                    refine wl_free (.some rfl rfl) rfl (yf_loadL 0 rfl rfl rfl Tryz.underlying9 rfl) ?_
                    refine wl_free (.some rfl rfl) rfl (yf_strs_eql rfl rfl Tryz.underlying9) ?_
                    refine wl_free (.some rfl rfl) rfl (yf_pickT rfl rfl) ?_
                    refine wl_free (.some rfl rfl) rfl (yf_pickF rfl rfl) ?_
                    refine wl_free .none rfl (yf_pickT rfl rfl) ?_
                    refine wl_nil ?_
                    refine wq_cut (ι := Unit) () (.cons rfl <| .cons rfl <| .cons ?_ <| .nil) (fun w h => h)
                    show some (Value.bool _) = some (Value.bool _)
                    congr 2
                    rw [Bool.eq_iff_iff]
                    first
                      | (simp_all; done)
                      | (simp_all; omega)
                  · skip
                    refine wl_pass (.some rfl rfl rfl) rfl ?_
                    refine wl_pass (.some rfl rfl rfl) rfl ?_
                    refine wl_pass (.some rfl rfl rfl) rfl ?_
                    refine wl_free (.some rfl rfl) rfl (yf_pickF rfl rfl) ?_
                    refine wl_free (.some rfl rfl) rfl (yf_pickF rfl rfl) ?_
                    refine wl_free .none rfl (yf_pickT rfl rfl) ?_
                    refine wl_nil ?_
                    refine wq_cut (ι := Unit) () (.cons rfl <| .cons rfl <| .cons ?_ <| .nil) (fun w h => h)
                    show some (Value.bool _) = some (Value.bool _)
                    congr 2
                    rw [Bool.eq_iff_iff]
                    first
                      | (simp_all; done)
                      | (simp_all; omega)
              · replace q16 := beq_no q16
                refine wl_pass (.some rfl rfl rfl) rfl ?_
                refine wl_pass (.some rfl rfl rfl) rfl ?_
                refine wl_passU rfl rfl rfl ?_
                refine wl_passU rfl rfl rfl ?_
                refine wl_passU rfl rfl rfl ?_
                refine wl_pass (.some rfl rfl rfl) rfl ?_
                refine wl_pass (.some rfl rfl rfl) rfl ?_
                refine wl_passU rfl rfl rfl ?_
                refine wl_passU rfl rfl rfl ?_
                refine wl_passU rfl rfl rfl ?_
                refine wl_passU rfl rfl rfl ?_
                refine wl_passU rfl rfl rfl ?_
                refine wl_passU rfl rfl rfl ?_
                refine wl_passU rfl rfl rfl ?_
                refine wl_pass (.some rfl rfl rfl) rfl ?_
                refine wl_free .none rfl (yf_pickF rfl rfl) ?_
                refine wl_nil ?_
                refine wq_cut (ι := Unit) () (.cons rfl <| .cons rfl <| .cons ?_ <| .nil) (fun w h => h)
                show some (Value.bool _) = some (Value.bool _)
                congr 2
                rw [Bool.eq_iff_iff]
                first
                  | (simp_all; done)
                  | (simp_all; omega)
            · replace q9 := of_decide_eq_false q9
              refine wl_pass (.some rfl rfl rfl) rfl ?_
              refine wl_pass (.some rfl rfl rfl) rfl ?_
              refine wl_pass (.some rfl rfl rfl) rfl ?_
              refine wl_pass (.some rfl rfl rfl) rfl ?_
              refine wl_pass (.some rfl rfl rfl) rfl ?_
              refine wl_free .none rfl (yf_pickF rfl rfl) ?_
              refine wl_free .none rfl (yf_move rfl) ?_
              refine wl_pass (.some rfl rfl rfl) rfl ?_
              refine wl_pass (.some rfl rfl rfl) rfl ?_
              refine wl_passU rfl rfl rfl ?_
              refine wl_passU rfl rfl rfl ?_
              refine wl_passU rfl rfl rfl ?_
              refine wl_pass (.some rfl rfl rfl) rfl ?_
              refine wl_pass (.some rfl rfl rfl) rfl ?_
              refine wl_passU rfl rfl rfl ?_
              refine wl_passU rfl rfl rfl ?_
              refine wl_passU rfl rfl rfl ?_
              refine wl_passU rfl rfl rfl ?_
              refine wl_passU rfl rfl rfl ?_
              refine wl_passU rfl rfl rfl ?_
              refine wl_passU rfl rfl rfl ?_
              refine wl_pass (.some rfl rfl rfl) rfl ?_
              refine wl_free .none rfl (yf_pickF rfl rfl) ?_
              refine wl_nil ?_
              refine wq_cut (ι := Unit) () (.cons rfl <| .cons rfl <| .cons ?_ <| .nil) (fun w h => h)
              show some (Value.bool _) = some (Value.bool _)
              congr 2
              rw [Bool.eq_iff_iff]
              first
                | (simp_all; done)
                | (simp_all; omega)
          · replace q4 := of_decide_eq_false q4
            refine wl_pass (.some rfl rfl rfl) rfl ?_
            refine wl_pass (.some rfl rfl rfl) rfl ?_
            refine wl_pass (.some rfl rfl rfl) rfl ?_
            refine wl_free .none rfl (yf_pickF rfl rfl) ?_
            refine wl_free .none rfl (yf_move rfl) ?_
            refine wl_pass (.some rfl rfl rfl) rfl ?_
            refine wl_pass (.some rfl rfl rfl) rfl ?_
            refine wl_pass (.some rfl rfl rfl) rfl ?_
            refine wl_pass (.some rfl rfl rfl) rfl ?_
            refine wl_pass (.some rfl rfl rfl) rfl ?_
            refine wl_free .none rfl (yf_pickF rfl rfl) ?_
            refine wl_free .none rfl (yf_move rfl) ?_
            refine wl_pass (.some rfl rfl rfl) rfl ?_
            refine wl_pass (.some rfl rfl rfl) rfl ?_
            refine wl_passU rfl rfl rfl ?_
            refine wl_passU rfl rfl rfl ?_
            refine wl_passU rfl rfl rfl ?_
            refine wl_pass (.some rfl rfl rfl) rfl ?_
            refine wl_pass (.some rfl rfl rfl) rfl ?_
            refine wl_passU rfl rfl rfl ?_
            refine wl_passU rfl rfl rfl ?_
            refine wl_passU rfl rfl rfl ?_
            refine wl_passU rfl rfl rfl ?_
            refine wl_passU rfl rfl rfl ?_
            refine wl_passU rfl rfl rfl ?_
            refine wl_passU rfl rfl rfl ?_
            refine wl_pass (.some rfl rfl rfl) rfl ?_
            refine wl_free .none rfl (yf_pickF rfl rfl) ?_
            refine wl_nil ?_
            refine wq_cut (ι := Unit) () (.cons rfl <| .cons rfl <| .cons ?_ <| .nil) (fun w h => h)
            show some (Value.bool _) = some (Value.bool _)
            congr 2
            rw [Bool.eq_iff_iff]
            first
              | (simp_all; done)
              | (simp_all; omega)
        · generalize hF : (decide (1 ≤ k) && decide (k ≤ 8) && decide (es.length = ne) && (named && isNameL s || !named && decide (s = []))) = F54
          refine wl_cut 20 (ι := Unit) (fun _ => [(1, .pointer (some ⟨b1, 0, none⟩)), (74, .bool (F54 && (decide (0 < nb) || decide (b.length = 0)) && (decide (1 < nb) || decide (c.length = 0))))]) (fun _ => Hp (fun _ => False) w_0 [(b1, bk 60 (stC k s A1 es.length c1 A2 b.length c2 A3 c.length c3))] [] (fun u => (RdF F A1 x1 u ∧ ExsV F u es x1) ∧ blkK F u b A2 c2 ∧ blkK F u c A3 c3)) ?_ (fun _ => ?_)
          · skip
            refine wl_free .none rfl (yf_move rfl) ?_
            refine wl_split 55 rfl (fun q33 => ?_) (fun q33 => ?_)
            · skip
              refine wl_free (.some rfl rfl) rfl (yf_move rfl) ?_
              refine wl_free (.some rfl rfl) rfl (yf_gtr rfl rfl) ?_
              refine wl_free (.some rfl rfl) rfl (yf_move rfl) ?_
              refine wl_split 58 rfl (fun q36 => ?_) (fun q36 => ?_)
              · replace q36 := of_decide_eq_true q36
                refine wl_pass (.some rfl rfl rfl) rfl ?_
                refine wl_pass (.some rfl rfl rfl) rfl ?_
                refine wl_pass (.some rfl rfl rfl) rfl ?_
                refine wl_pass (.some rfl rfl rfl) rfl ?_
                refine wl_free (.some rfl rfl) rfl (yf_pickT rfl rfl) ?_
                refine wl_free .none rfl (yf_pickT rfl rfl) ?_
                refine wl_free .none rfl (yf_move rfl) ?_
                refine wl_free (.some rfl rfl) rfl (yf_move rfl) ?_
                refine wl_free (.some rfl rfl) rfl (yf_gtr rfl rfl) ?_
                refine wl_free (.some rfl rfl) rfl (yf_move rfl) ?_
                refine wl_split 68 rfl (fun q46 => ?_) (fun q46 => ?_)
                · replace q46 := of_decide_eq_true q46
                  refine wl_pass (.some rfl rfl rfl) rfl ?_
                  refine wl_pass (.some rfl rfl rfl) rfl ?_
                  refine wl_pass (.some rfl rfl rfl) rfl ?_
                  refine wl_pass (.some rfl rfl rfl) rfl ?_
                  refine wl_free (.some rfl rfl) rfl (yf_pickT rfl rfl) ?_
                  refine wl_free .none rfl (yf_pickT rfl rfl) ?_
                  refine wl_nil ?_
                  refine wq_cut (ι := Unit) () (.cons rfl <| .cons ?_ <| .nil) (fun w h => h)
                  show some (Value.bool _) = some (Value.bool _)
                  congr 2
                  rw [Bool.eq_iff_iff]
                  first
                    | (simp_all; done)
                    | (simp_all; omega)
                · replace q46 := of_decide_eq_false q46
                  refine wl_free (.some rfl rfl) rfl (yf_fieldAddr (off := 4) (sz := 0) rfl Tryz.underlying60 (by kernel_rfl) rfl) ?_
                  refine wl_free (.some rfl rfl) rfl (yf_loadL 0 rfl rfl rfl Tryz.underlying58 rfl) ?_
                  refine wl_free (.some rfl rfl) rfl (yf_lenS rfl Tryz.underlying58) ?_
                  refine wl_free (.some rfl rfl) rfl (yf_eql rfl rfl) ?_
                  refine wl_free (.some rfl rfl) rfl (yf_pickF rfl rfl) ?_
                  refine wl_free .none rfl (yf_pickT rfl rfl) ?_
                  refine wl_nil ?_
                  refine wq_cut (ι := Unit) () (.cons rfl <| .cons ?_ <| .nil) (fun w h => h)
                  show some (Value.bool _) = some (Value.bool _)
                  congr 2
                  rw [Bool.eq_iff_iff]
                  first
                    | (simp_all; done)
                    | (simp_all; omega)
              · replace q36 := of_decide_eq_false q36
                refine wl_free (.some rfl rfl) rfl (yf_fieldAddr (off := 3) (sz := 0) rfl Tryz.underlying60 (by kernel_rfl) rfl) ?_
                refine wl_free (.some rfl rfl) rfl (yf_loadL 0 rfl rfl rfl Tryz.underlying58 rfl) ?_
                refine wl_free (.some rfl rfl) rfl (yf_lenS rfl Tryz.underlying58) ?_
                refine wl_free (.some rfl rfl) rfl (yf_eql rfl rfl) ?_
                refine wl_free (.some rfl rfl) rfl (yf_pickF rfl rfl) ?_
                refine wl_free .none rfl (yf_pickT rfl rfl) ?_
                refine wl_free .none rfl (yf_move rfl) ?_
                refine wl_split 65 rfl (fun q43 => ?_) (fun q43 => ?_)
                · replace q43 := eq_of_beq q43
                  refine wl_free (.some rfl rfl) rfl (yf_move rfl) ?_
                  refine wl_free (.some rfl rfl) rfl (yf_gtr rfl rfl) ?_
                  refine wl_free (.some rfl rfl) rfl (yf_move rfl) ?_
                  refine wl_split 68 rfl (fun q46 => ?_) (fun q46 => ?_)
                  · replace q46 := of_decide_eq_true q46
                    refine wl_pass (.some rfl rfl rfl) rfl ?_
                    refine wl_pass (.some rfl rfl rfl) rfl ?_
                    refine wl_pass (.some rfl rfl rfl) rfl ?_
                    refine wl_pass (.some rfl rfl rfl) rfl ?_
                    refine wl_free (.some rfl rfl) rfl (yf_pickT rfl rfl) ?_
                    refine wl_free .none rfl (yf_pickT rfl rfl) ?_
                    refine wl_nil ?_
                    refine wq_cut (ι := Unit) () (.cons rfl <| .cons ?_ <| .nil) (fun w h => h)
                    show some (Value.bool _) = some (Value.bool _)
                    congr 2
                    rw [Bool.eq_iff_iff]
                    first
                      | (simp_all; done)
                      | (simp_all; omega)
                  · replace q46 := of_decide_eq_false q46
                    refine wl_free (.some rfl rfl) rfl (yf_fieldAddr (off := 4) (sz := 0) rfl Tryz.underlying60 (by kernel_rfl) rfl) ?_
                    refine wl_free (.some rfl rfl) rfl (yf_loadL 0 rfl rfl rfl Tryz.underlying58 rfl) ?_
                    refine wl_free (.some rfl rfl) rfl (yf_lenS rfl Tryz.underlying58) ?_
                    refine wl_free (.some rfl rfl) rfl (yf_eql rfl rfl) ?_
                    refine wl_free (.some rfl rfl) rfl (yf_pickF rfl rfl) ?_
                    refine wl_free .none rfl (yf_pickT rfl rfl) ?_
                    refine wl_nil ?_
                    refine wq_cut (ι := Unit) () (.cons rfl <| .cons ?_ <| .nil) (fun w h => h)
                    show some (Value.bool _) = some (Value.bool _)
                    congr 2
                    rw [Bool.eq_iff_iff]
                    first
                      | (simp_all; done)
                      | (simp_all; omega)
                · replace q43 := beq_no q43
                  refine wl_pass (.some rfl rfl rfl) rfl ?_
                  refine wl_pass (.some rfl rfl rfl) rfl ?_
                  refine wl_pass (.some rfl rfl rfl) rfl ?_
                  refine wl_passU rfl rfl rfl ?_
                  refine wl_passU rfl rfl rfl ?_
                  refine wl_passU rfl rfl rfl ?_
                  refine wl_passU rfl rfl rfl ?_
                  refine wl_pass (.some rfl rfl rfl) rfl ?_
                  refine wl_free .none rfl (yf_pickF rfl rfl) ?_
                  refine wl_nil ?_
                  refine wq_cut (ι := Unit) () (.cons rfl <| .cons ?_ <| .nil) (fun w h => h)
                  show some (Value.bool _) = some (Value.bool _)
                  congr 2
                  rw [Bool.eq_iff_iff]
                  first
                    | (simp_all; done)
                    | (simp_all; omega)
            · skip
              refine wl_pass (.some rfl rfl rfl) rfl ?_
              refine wl_pass (.some rfl rfl rfl) rfl ?_
              refine wl_pass (.some rfl rfl rfl) rfl ?_
              refine wl_passU rfl rfl rfl ?_
              refine wl_passU rfl rfl rfl ?_
              refine wl_passU rfl rfl rfl ?_
              refine wl_passU rfl rfl rfl ?_
              refine wl_pass (.some rfl rfl rfl) rfl ?_
              refine wl_free .none rfl (yf_pickF rfl rfl) ?_
              refine wl_free .none rfl (yf_move rfl) ?_
              refine wl_pass (.some rfl rfl rfl) rfl ?_
              refine wl_pass (.some rfl rfl rfl) rfl ?_
              refine wl_pass (.some rfl rfl rfl) rfl ?_
              refine wl_passU rfl rfl rfl ?_
              refine wl_passU rfl rfl rfl ?_
              refine wl_passU rfl rfl rfl ?_
              refine wl_passU rfl rfl rfl ?_
              refine wl_pass (.some rfl rfl rfl) rfl ?_
              refine wl_free .none rfl (yf_pickF rfl rfl) ?_
              refine wl_nil ?_
              refine wq_cut (ι := Unit) () (.cons rfl <| .cons ?_ <| .nil) (fun w h => h)
              show some (Value.bool _) = some (Value.bool _)
              congr 2
              rw [Bool.eq_iff_iff]
              first
                | (simp_all; done)
                | (simp_all; omega)
          · generalize hG : (F54 && (decide (0 < nb) || decide (b.length = 0)) && (decide (1 < nb) || decide (c.length = 0))) = G74
            refine wl_free .none rfl (yf_move rfl) ?_
            refine wl_split 75 rfl (fun q53 => ?_) (fun q53 => ?_)
            · skip
              refine wl_free (.some rfl rfl) rfl (yf_fieldAddr (off := 2) (sz := 0) rfl Tryz.underlying60 (by kernel_rfl) rfl) ?_
              refine wl_free (.some rfl rfl) rfl (yf_loadL 0 rfl rfl rfl Tryz.underlying55 rfl) ?_
              refine wl_pure (.some rfl rfl) rfl  (v := .bool (es.any fun x => !rightEx x)) (by kernel_rfl) rfl (fun w hw => containsE_any es A1 c1 p1 x1 (pr_right2 es) w (HpG.x hw).1 trivial) ?_
              refine wl_free (.some rfl rfl) rfl (yf_not rfl) ?_
              refine wl_free .none rfl (yf_pickT rfl rfl) ?_
              refine wl_free .none rfl (yf_move rfl) ?_
              refine wl_split 81 rfl (fun q59 => ?_) (fun q59 => ?_)
              · skip
                refine wl_free (.some rfl rfl) rfl (yf_fieldAddr (off := 3) (sz := 0) rfl Tryz.underlying60 (by kernel_rfl) rfl) ?_
                refine wl_free (.some rfl rfl) rfl (yf_loadL 0 rfl rfl rfl Tryz.underlying58 rfl) ?_
                refine wl_pure (.some rfl rfl) rfl  (v := .bool (rightSts b)) (by kernel_rfl) rfl (fun w hw => rightB_any b hb F A2 c2 w (HpG.x hw).2.1) ?_
                refine wl_free .none rfl (yf_pickT rfl rfl) ?_
                refine wl_free .none rfl (yf_move rfl) ?_
                refine wl_split 86 rfl (fun q64 => ?_) (fun q64 => ?_)
                · skip
                  refine wl_free (.some rfl rfl) rfl (yf_fieldAddr (off := 4) (sz := 0) rfl Tryz.underlying60 (by kernel_rfl) rfl) ?_
                  refine wl_free (.some rfl rfl) rfl (yf_loadL 0 rfl rfl rfl Tryz.underlying58 rfl) ?_
                  refine wl_pure (.some rfl rfl) rfl  (v := .bool (rightSts c)) (by kernel_rfl) rfl (fun w hw => rightB_any c hc F A3 c3 w (HpG.x hw).2.2) ?_
                  refine wl_free .none rfl (yf_pickT rfl rfl) ?_
                  refine wl_free .none rfl (yf_assign rfl) ?_
                  refine wl_nil ?_
                  refine wq_then ?_
                  refine wc_ret ?_
                  refine wq_ret1 rfl rfl (fun w hw => ?_)
                  refine ⟨?_, (HpG.keep hw).ext⟩
                  congr 2
                  rw [← any_not]
                  generalize (es.any fun x => !rightEx x) = z at *
                  rw [Bool.eq_iff_iff]
                  first
                    | (simp_all; done)
                    | (simp_all; omega)
                · skip
                  refine wl_pass (.some rfl rfl rfl) rfl ?_
                  refine wl_pass (.some rfl rfl rfl) rfl ?_
                  refine wl_pass (.some rfl rfl rfl) rfl ?_
                  refine wl_free .none rfl (yf_pickF rfl rfl) ?_
                  refine wl_free .none rfl (yf_assign rfl) ?_
                  refine wl_nil ?_
                  refine wq_then ?_
                  refine wc_ret ?_
                  refine wq_ret1 rfl rfl (fun w hw => ?_)
                  refine ⟨?_, (HpG.keep hw).ext⟩
                  congr 2
                  rw [← any_not]
                  generalize (es.any fun x => !rightEx x) = z at *
                  rw [Bool.eq_iff_iff]
                  first
                    | (simp_all; done)
                    | (simp_all; omega)
              · skip
                refine wl_pass (.some rfl rfl rfl) rfl ?_
                refine wl_pass (.some rfl rfl rfl) rfl ?_
                refine wl_pass (.some rfl rfl rfl) rfl ?_
                refine wl_free .none rfl (yf_pickF rfl rfl) ?_
                refine wl_free .none rfl (yf_move rfl) ?_
                refine wl_pass (.some rfl rfl rfl) rfl ?_
                refine wl_pass (.some rfl rfl rfl) rfl ?_
                refine wl_pass (.some rfl rfl rfl) rfl ?_
                refine wl_free .none rfl (yf_pickF rfl rfl) ?_
                refine wl_free .none rfl (yf_assign rfl) ?_
                refine wl_nil ?_
                refine wq_then ?_
                refine wc_ret ?_
                refine wq_ret1 rfl rfl (fun w hw => ?_)
                refine ⟨?_, (HpG.keep hw).ext⟩
                congr 2
                rw [← any_not]
                generalize (es.any fun x => !rightEx x) = z at *
                rw [Bool.eq_iff_iff]
                first
                  | (simp_all; done)
                  | (simp_all; omega)
            · skip
              refine wl_pass (.some rfl rfl rfl) rfl ?_
              refine wl_pass (.some rfl rfl rfl) rfl ?_
              refine wl_pass (.some rfl rfl rfl) rfl ?_
              refine wl_pass (.some rfl rfl rfl) rfl ?_
              refine wl_free .none rfl (yf_pickF rfl rfl) ?_
              refine wl_free .none rfl (yf_move rfl) ?_
              refine wl_pass (.some rfl rfl rfl) rfl ?_
              refine wl_pass (.some rfl rfl rfl) rfl ?_
              refine wl_pass (.some rfl rfl rfl) rfl ?_
              refine wl_free .none rfl (yf_pickF rfl rfl) ?_
              refine wl_free .none rfl (yf_move rfl) ?_
              refine wl_pass (.some rfl rfl rfl) rfl ?_
              refine wl_pass (.some rfl rfl rfl) rfl ?_
              refine wl_pass (.some rfl rfl rfl) rfl ?_
              refine wl_free .none rfl (yf_pickF rfl rfl) ?_
              refine wl_free .none rfl (yf_assign rfl) ?_
              refine wl_nil ?_
              refine wq_then ?_
              refine wc_ret ?_
              refine wq_ret1 rfl rfl (fun w hw => ?_)
              refine ⟨?_, (HpG.keep hw).ext⟩
              congr 2
              rw [← any_not]
              generalize (es.any fun x => !rightEx x) = z at *
              rw [Bool.eq_iff_iff]
              first
                | (simp_all; done)
                | (simp_all; omega)
  · replace g1 := beq_no g1
    refine wl_free (.some rfl rfl) rfl (yf_fieldAddr (off := 0) (sz := 0) rfl Tryz.underlying60 (by kernel_rfl) rfl) ?_
    refine wl_free (.some rfl rfl) rfl (yf_loadL 0 rfl rfl rfl Tryz.underlying3 rfl) ?_
    refine wl_free (.some rfl rfl) rfl (yf_eql rfl rfl) ?_
    refine wl_free .none rfl (yf_pickF rfl rfl) ?_
    refine wl_free .none rfl (yf_assign rfl) ?_
    refine wl_nil ?_
    refine wq_then ?_
    refine wc_seq ?_
    refine wc_weak (.cons (i := 0) rfl <| .cons (i := 1) rfl <| .cons (i := 2) rfl <| .cons (i := 3) rfl <| .nil) ?_
    refine wc_region ?_
    refine wl_free .none rfl (yf_assign rfl) ?_
    refine wl_nil ?_
    refine wq_then ?_
    refine wc_cut (ι := Unit) (fun _ => [(1, .pointer (some ⟨b1, 0, none⟩)), (3, .bool (decide (k = 1 ∨ k = 2))), (4, .int .i64 (((if k = 3 then 2 else 1) : Nat) : Int))]) (fun _ => Hp (fun _ => False) w_0 [(b1, bk 60 (stC k s A1 es.length c1 A2 b.length c2 A3 c.length c3))] [] (fun u => (RdF F A1 x1 u ∧ ExsV F u es x1) ∧ blkK F u b A2 c2 ∧ blkK F u c A3 c3)) ?_ (fun _ => ?_)
    · skip
      refine wc_seq ?_
      refine wc_region ?_
      refine wl_free .none rfl (yf_fieldAddr (off := 0) (sz := 0) rfl Tryz.underlying60 (by kernel_rfl) rfl) ?_
      refine wl_free .none rfl (yf_loadL 0 rfl rfl rfl Tryz.underlying3 rfl) ?_
      refine wl_free .none rfl (yf_eql rfl rfl) ?_
      refine wl_nil ?_
      refine wq_then ?_
      refine wc_cond rfl (fun h16 => ?_) (fun h16 => ?_)
      · replace h16 := eq_of_beq h16
        first
          | (omega)
          | (
            refine wc_weak (.cons (i := 0) rfl <| .cons (i := 1) rfl <| .cons (i := 2) rfl <| .cons (i := 3) rfl <| .cons (i := 4) rfl <| .cons (i := 16) rfl <| .nil) ?_
            refine wc_region ?_
            refine wl_free .none rfl (yf_assign rfl) ?_
            refine wl_nil ?_
            refine wq_meet (ι := Unit) () (.cons rfl <| .cons (by
              show some (Value.bool _) = some (Value.bool _)
              congr 2
              rw [Bool.eq_iff_iff]
              first
                | (simp; done)
                | (simp; omega)
                | omega) <| .cons (by
              show some (Value.int .i64 _) = some (Value.int .i64 _)
              congr 2
              first
                | (rw [if_pos (by omega)]; rfl)
                | (rw [if_neg (by omega)]; rfl)) <| .nil) (fun w h => h))
      · replace h16 := beq_no h16
        first
          | (omega)
          | (
            refine wc_skip ?_
            refine wq_meet (ι := Unit) () (.cons rfl <| .cons (by
              show some (Value.bool _) = some (Value.bool _)
              congr 2
              rw [Bool.eq_iff_iff]
              first
                | (simp; done)
                | (simp; omega)
                | omega) <| .cons (by
              show some (Value.int .i64 _) = some (Value.int .i64 _)
              congr 2
              first
                | (rw [if_pos (by omega)]; rfl)
                | (rw [if_neg (by omega)]; rfl)) <| .nil) (fun w h => h))
    · skip
      refine wc_seq ?_
      refine wc_region ?_
      refine wl_free .none rfl (yf_assign rfl) ?_
      refine wl_nil ?_
      refine wq_then ?_
      refine wc_cut (ι := {i : StI // StIok k i}) (fun i => [(1, .pointer (some ⟨b1, 0, none⟩)), (3, .bool i.1.named), (4, .int .i64 i.1.ne), (5, .int .i64 i.1.nb)]) (fun _ => Hp (fun _ => False) w_0 [(b1, bk 60 (stC k s A1 es.length c1 A2 b.length c2 A3 c.length c3))] [] (fun u => (RdF F A1 x1 u ∧ ExsV F u es x1) ∧ blkK F u b A2 c2 ∧ blkK F u c A3 c3)) ?_ (fun i => ?_)
      · skip
        refine wc_seq ?_
        refine wc_region ?_
        refine wl_free .none rfl (yf_fieldAddr (off := 0) (sz := 0) rfl Tryz.underlying60 (by kernel_rfl) rfl) ?_
        refine wl_free .none rfl (yf_loadL 0 rfl rfl rfl Tryz.underlying3 rfl) ?_
        refine wl_nil ?_
        refine wq_then ?_
        refine wc_block ?_
        refine wc_seq ?_
        refine wc_weak (.cons (i := 1) rfl <| .cons (i := 3) rfl <| .cons (i := 4) rfl <| .cons (i := 5) rfl <| .cons (i := 18) rfl <| .nil) ?_
        refine wc_region ?_
        refine wl_free .none rfl (yf_eql rfl rfl) ?_
        refine wl_free .none rfl (yf_assign rfl) ?_
        refine wl_nil ?_
        refine wq_then ?_
        refine wc_cond rfl (fun h19 => ?_) (fun h19 => ?_)
        · replace h19 := eq_of_beq h19
          first
            | (omega)
            | (
              refine wc_weak (.cons (i := 1) rfl <| .cons (i := 3) rfl <| .cons (i := 4) rfl <| .cons (i := 5) rfl <| .cons (i := 18) rfl <| .cons (i := 19) rfl <| .nil) ?_
              refine wc_region ?_
              refine wl_free .none rfl (yf_assign rfl) ?_
              refine wl_nil ?_
              refine wq_block ?_
              refine wq_meet (ι := {i : StI // StIok k i}) ⟨⟨decide (k = 1 ∨ k = 2), if k = 3 then 2 else 1, if k = 4 then 2 else if k = 5 then 1 else 0⟩, ⟨rfl, rfl, rfl⟩⟩ (.cons rfl <| .cons rfl <| .cons rfl <| .cons (by
                show some (Value.int .i64 _) = some (Value.int .i64 _)
                dsimp only
                congr 2
                first
                  | (rw [if_pos (by omega)]; rfl)
                  | (rw [if_neg (by omega), if_pos (by omega)]; rfl)
                  | (rw [if_neg (by omega), if_neg (by omega)]; rfl)) <| .nil) (fun w h => h))
        · replace h19 := beq_no h19
          first
            | (omega)
            | (
              refine wc_seq ?_
              refine wc_weak (.cons (i := 1) rfl <| .cons (i := 3) rfl <| .cons (i := 4) rfl <| .cons (i := 5) rfl <| .cons (i := 18) rfl <| .cons (i := 19) rfl <| .nil) ?_
              refine wc_region ?_
              refine wl_free .none rfl (yf_eql rfl rfl) ?_
              refine wl_free .none rfl (yf_assign rfl) ?_
              refine wl_nil ?_
              refine wq_then ?_
              refine wc_cond rfl (fun h21 => ?_) (fun h21 => ?_)
              · replace h21 := eq_of_beq h21
                first
                  | (omega)
                  | (
                    refine wc_weak (.cons (i := 1) rfl <| .cons (i := 3) rfl <| .cons (i := 4) rfl <| .cons (i := 5) rfl <| .cons (i := 18) rfl <| .cons (i := 19) rfl <| .cons (i := 21) rfl <| .nil) ?_
                    refine wc_region ?_
                    refine wl_free .none rfl (yf_assign rfl) ?_
                    refine wl_nil ?_
                    refine wq_block ?_
                    refine wq_meet (ι := {i : StI // StIok k i}) ⟨⟨decide (k = 1 ∨ k = 2), if k = 3 then 2 else 1, if k = 4 then 2 else if k = 5 then 1 else 0⟩, ⟨rfl, rfl, rfl⟩⟩ (.cons rfl <| .cons rfl <| .cons rfl <| .cons (by
                      show some (Value.int .i64 _) = some (Value.int .i64 _)
                      dsimp only
                      congr 2
                      first
                        | (rw [if_pos (by omega)]; rfl)
                        | (rw [if_neg (by omega), if_pos (by omega)]; rfl)
                        | (rw [if_neg (by omega), if_neg (by omega)]; rfl)) <| .nil) (fun w h => h))
              · replace h21 := beq_no h21
                first
                  | (omega)
                  | (
                    refine wc_skip ?_
                    refine wq_block ?_
                    refine wq_meet (ι := {i : StI // StIok k i}) ⟨⟨decide (k = 1 ∨ k = 2), if k = 3 then 2 else 1, if k = 4 then 2 else if k = 5 then 1 else 0⟩, ⟨rfl, rfl, rfl⟩⟩ (.cons rfl <| .cons rfl <| .cons rfl <| .cons (by
                      show some (Value.int .i64 _) = some (Value.int .i64 _)
                      dsimp only
                      congr 2
                      first
                        | (rw [if_pos (by omega)]; rfl)
                        | (rw [if_neg (by omega), if_pos (by omega)]; rfl)
                        | (rw [if_neg (by omega), if_neg (by omega)]; rfl)) <| .nil) (fun w h => h)))
      · obtain ⟨⟨named, ne, nb⟩, hi⟩ := i
        dsimp only
        rw [okSt_eq hi]
        clear hi
        refine wc_seq ?_
        refine wc_region ?_
        refine wl_cut 32 (ι := Unit) (fun _ => [(1, .pointer (some ⟨b1, 0, none⟩)), (5, .int .i64 nb), (54, .bool (decide (1 ≤ k) && decide (k ≤ 8) && decide (es.length = ne) && (named && isNameL s || !named && decide (s = []))))]) (fun _ => Hp (fun _ => False) w_0 [(b1, bk 60 (stC k s A1 es.length c1 A2 b.length c2 A3 c.length c3))] [] (fun u => (RdF F A1 x1 u ∧ ExsV F u es x1) ∧ blkK F u b A2 c2 ∧ blkK F u c A3 c3)) ?_ (fun _ => ?_)
        · skip
          refine wl_free .none rfl (yf_fieldAddr (off := 0) (sz := 0) rfl Tryz.underlying60 (by kernel_rfl) rfl) ?_
          refine wl_free .none rfl (yf_loadL 0 rfl rfl rfl Tryz.underlying3 rfl) ?_
          refine wl_free .none rfl (yf_geq rfl rfl) ?_
          refine wl_free .none rfl (yf_move rfl) ?_
          refine wl_split 26 rfl (fun q4 => ?_) (fun q4 => ?_)
          · replace q4 := of_decide_eq_true q4
            refine wl_free (.some rfl rfl) rfl (yf_fieldAddr (off := 0) (sz := 0) rfl Tryz.underlying60 (by kernel_rfl) rfl) ?_
            refine wl_free (.some rfl rfl) rfl (yf_loadL 0 rfl rfl rfl Tryz.underlying3 rfl) ?_
            refine wl_free (.some rfl rfl) rfl (yf_leq rfl rfl) ?_
            refine wl_free .none rfl (yf_pickT rfl rfl) ?_
            refine wl_free .none rfl (yf_move rfl) ?_
            refine wl_split 31 rfl (fun q9 => ?_) (fun q9 => ?_)
            · replace q9 := of_decide_eq_true q9
              refine wl_free (.some rfl rfl) rfl (yf_fieldAddr (off := 2) (sz := 0) rfl Tryz.underlying60 (by kernel_rfl) rfl) ?_
              refine wl_free (.some rfl rfl) rfl (yf_loadL 0 rfl rfl rfl Tryz.underlying55 rfl) ?_
              refine wl_free (.some rfl rfl) rfl (yf_lenS rfl Tryz.underlying55) ?_
              refine wl_free (.some rfl rfl) rfl (yf_move rfl) ?_
              refine wl_free (.some rfl rfl) rfl (yf_eql rfl rfl) ?_
              refine wl_free .none rfl (yf_pickT rfl rfl) ?_
              refine wl_free .none rfl (yf_move rfl) ?_
              refine wl_split 38 rfl (fun q16 => ?_) (fun q16 => ?_)
              · replace q16 := eq_of_beq q16
                refine wl_free (.some rfl rfl) rfl (yf_move rfl) ?_
                refine wl_free (.some rfl rfl) rfl (yf_move rfl) ?_
                refine wl_split 40 rfl (fun q18 => ?_) (fun q18 => ?_)
                · skip
                  refine wl_free (.some rfl rfl) rfl (yf_fieldAddr (off := 1) (sz := 0) rfl Tryz.underlying60 (by kernel_rfl) rfl) ?_
                  refine wl_free (.some rfl rfl) rfl (yf_loadL 0 rfl rfl rfl Tryz.underlying9 rfl) ?_
                  refine wl_pure (.some rfl rfl) rfl  (v := .bool (isNameL s)) (by kernel_rfl) rfl (fun w hw => ident_any s w) ?_
                  refine wl_free (.some rfl rfl) rfl (yf_pickT rfl rfl) ?_
                  refine wl_free (.some rfl rfl) rfl (yf_move rfl) ?_
                  refine wl_split 45 rfl (fun q23 => ?_) (fun q23 => ?_)
                  · skip
                    refine wl_pass (.some rfl rfl rfl) rfl ?_
                    refine wl_pass (.some rfl rfl rfl) rfl ?_
                    refine wl_pass (.some rfl rfl rfl) rfl ?_
                    refine wl_passU rfl rfl rfl ?_
                    refine wl_passU rfl rfl rfl ?_
                    refine wl_passU rfl rfl rfl ?_
                    refine wl_pass (.some rfl rfl rfl) rfl ?_
                    refine wl_free (.some rfl rfl) rfl (yf_pickT rfl rfl) ?_
                    refine wl_free .none rfl (yf_pickT rfl rfl) ?_
                    refine wl_nil ?_
                    refine wq_cut (ι := Unit) () (.cons rfl <| .cons rfl <| .cons ?_ <| .nil) (fun w h => h)
                    show some (Value.bool _) = some (Value.bool _)
                    congr 2
                    rw [Bool.eq_iff_iff]
                    first
                      | (simp_all; done)
                      | (simp_all; omega)
                  · skip
                    refine wl_free (.some rfl rfl) rfl (yf_move rfl) ?_
                    refine wl_free (.some rfl rfl) rfl (yf_not rfl) ?_
                    refine wl_free (.some rfl rfl) rfl (yf_move rfl) ?_
                    refine wl_split 48 rfl (fun q26 => ?_) (fun q26 => ?_)
                    · skip
                      refine wl_free (.some rfl rfl) rfl (yf_fieldAddr (off := 1) (sz := 0) rfl Tryz.underlying60 (by kernel_rfl) rfl) ?_
                      refine wl_free (.some rfl rfl) rfl (yf_loadL 0 rfl rfl rfl Tryz.underlying9 rfl) ?_
                      refine wl_free (.some rfl rfl) rfl (yf_strs_eql rfl rfl Tryz.underlying9) ?_
                      refine wl_free (.some rfl rfl) rfl (yf_pickT rfl rfl) ?_
                      refine wl_free (.some rfl rfl) rfl (yf_pickF rfl rfl) ?_
                      refine wl_free .none rfl (yf_pickT rfl rfl) ?_
                      refine wl_nil ?_
                      refine wq_cut (ι := Unit) () (.cons rfl <| .cons rfl <| .cons ?_ <| .nil) (fun w h => h)
                      show some (Value.bool _) = some (Value.bool _)
                      congr 2
                      rw [Bool.eq_iff_iff]
                      first
                        | (simp_all; done)
                        | (simp_all; omega)
                    · skip
                      refine wl_pass (.some rfl rfl rfl) rfl ?_
                      refine wl_pass (.some rfl rfl rfl) rfl ?_
                      refine wl_pass (.some rfl rfl rfl) rfl ?_
                      refine wl_free (.some rfl rfl) rfl (yf_pickF rfl rfl) ?_
                      refine wl_free (.some rfl rfl) rfl (yf_pickF rfl rfl) ?_
                      refine wl_free .none rfl (yf_pickT rfl rfl) ?_
                      refine wl_nil ?_
                      refine wq_cut (ι := Unit) () (.cons rfl <| .cons rfl <| .cons ?_ <| .nil) (fun w h => h)
                      show some (Value.bool _) = some (Value.bool _)
                      congr 2
                      rw [Bool.eq_iff_iff]
                      first
                        | (simp_all; done)
                        | (simp_all; omega)
                · skip
                  refine wl_pass (.some rfl rfl rfl) rfl ?_
                  refine wl_pass (.some rfl rfl rfl) rfl ?_
                  refine wl_pass (.some rfl rfl rfl) rfl ?_
                  refine wl_free (.some rfl rfl) rfl (yf_pickF rfl rfl) ?_
                  refine wl_free (.some rfl rfl) rfl (yf_move rfl) ?_
                  refine wl_free (.some rfl rfl) rfl (yf_move rfl) ?_
                  refine wl_free (.some rfl rfl) rfl (yf_not rfl) ?_
                  refine wl_free (.some rfl rfl) rfl (yf_move rfl) ?_
                  refine wl_split 48 rfl (fun q26 => ?_) (fun q26 => ?_)
                  · skip
                    refine wl_free (.some rfl rfl) rfl (yf_fieldAddr (off := 1) (sz := 0) rfl Tryz.underlying60 (by kernel_rfl) rfl) ?_
                    refine wl_free (.some rfl rfl) rfl (yf_loadL 0 rfl rfl rfl Tryz.underlying9 rfl) ?_
                    refine wl_free (.some rfl rfl) rfl (yf_strs_eql rfl rfl Tryz.underlying9) ?_
                    refine wl_free (.some rfl rfl) rfl (yf_pickT rfl rfl) ?_
                    refine wl_free (.some rfl rfl) rfl (yf_pickF rfl rfl) ?_
                    refine wl_free .none rfl (yf_pickT rfl rfl) ?_
                    refine wl_nil ?_
                    refine wq_cut (ι := Unit) () (.cons rfl <| .cons rfl <| .cons ?_ <| .nil) (fun w h => h)
                    show some (Value.bool _) = some (Value.bool _)
                    congr 2
                    rw [Bool.eq_iff_iff]
                    first
                      | (simp_all; done)
                      | (simp_all; omega)
                  · skip
                    refine wl_pass (.some rfl rfl rfl) rfl ?_
                    refine wl_pass (.some rfl rfl rfl) rfl ?_
                    refine wl_pass (.some rfl rfl rfl) rfl ?_
                    refine wl_free (.some rfl rfl) rfl (yf_pickF rfl rfl) ?_
                    refine wl_free (.some rfl rfl) rfl (yf_pickF rfl rfl) ?_
                    refine wl_free .none rfl (yf_pickT rfl rfl) ?_
                    refine wl_nil ?_
                    refine wq_cut (ι := Unit) () (.cons rfl <| .cons rfl <| .cons ?_ <| .nil) (fun w h => h)
                    show some (Value.bool _) = some (Value.bool _)
                    congr 2
                    rw [Bool.eq_iff_iff]
                    first
                      | (simp_all; done)
                      | (simp_all; omega)
              · replace q16 := beq_no q16
                refine wl_pass (.some rfl rfl rfl) rfl ?_
                refine wl_pass (.some rfl rfl rfl) rfl ?_
                refine wl_passU rfl rfl rfl ?_
                refine wl_passU rfl rfl rfl ?_
                refine wl_passU rfl rfl rfl ?_
                refine wl_pass (.some rfl rfl rfl) rfl ?_
                refine wl_pass (.some rfl rfl rfl) rfl ?_
                refine wl_passU rfl rfl rfl ?_
                refine wl_passU rfl rfl rfl ?_
                refine wl_passU rfl rfl rfl ?_
                refine wl_passU rfl rfl rfl ?_
                refine wl_passU rfl rfl rfl ?_
                refine wl_passU rfl rfl rfl ?_
                refine wl_passU rfl rfl rfl ?_
                refine wl_pass (.some rfl rfl rfl) rfl ?_
                refine wl_free .none rfl (yf_pickF rfl rfl) ?_
                refine wl_nil ?_
                refine wq_cut (ι := Unit) () (.cons rfl <| .cons rfl <| .cons ?_ <| .nil) (fun w h => h)
                show some (Value.bool _) = some (Value.bool _)
                congr 2
                rw [Bool.eq_iff_iff]
                first
                  | (simp_all; done)
                  | (simp_all; omega)
            · replace q9 := of_decide_eq_false q9
              refine wl_pass (.some rfl rfl rfl) rfl ?_
              refine wl_pass (.some rfl rfl rfl) rfl ?_
              refine wl_pass (.some rfl rfl rfl) rfl ?_
              refine wl_pass (.some rfl rfl rfl) rfl ?_
              refine wl_pass (.some rfl rfl rfl) rfl ?_
              refine wl_free .none rfl (yf_pickF rfl rfl) ?_
              refine wl_free .none rfl (yf_move rfl) ?_
              refine wl_pass (.some rfl rfl rfl) rfl ?_
              refine wl_pass (.some rfl rfl rfl) rfl ?_
              refine wl_passU rfl rfl rfl ?_
              refine wl_passU rfl rfl rfl ?_
              refine wl_passU rfl rfl rfl ?_
              refine wl_pass (.some rfl rfl rfl) rfl ?_
              refine wl_pass (.some rfl rfl rfl) rfl ?_
              refine wl_passU rfl rfl rfl ?_
              refine wl_passU rfl rfl rfl ?_
              refine wl_passU rfl rfl rfl ?_
              refine wl_passU rfl rfl rfl ?_
              refine wl_passU rfl rfl rfl ?_
              refine wl_passU rfl rfl rfl ?_
              refine wl_passU rfl rfl rfl ?_
              refine wl_pass (.some rfl rfl rfl) rfl ?_
              refine wl_free .none rfl (yf_pickF rfl rfl) ?_
              refine wl_nil ?_
              refine wq_cut (ι := Unit) () (.cons rfl <| .cons rfl <| .cons ?_ <| .nil) (fun w h => h)
              show some (Value.bool _) = some (Value.bool _)
              congr 2
              rw [Bool.eq_iff_iff]
              first
                | (simp_all; done)
                | (simp_all; omega)
          · replace q4 := of_decide_eq_false q4
            refine wl_pass (.some rfl rfl rfl) rfl ?_
            refine wl_pass (.some rfl rfl rfl) rfl ?_
            refine wl_pass (.some rfl rfl rfl) rfl ?_
            refine wl_free .none rfl (yf_pickF rfl rfl) ?_
            refine wl_free .none rfl (yf_move rfl) ?_
            refine wl_pass (.some rfl rfl rfl) rfl ?_
            refine wl_pass (.some rfl rfl rfl) rfl ?_
            refine wl_pass (.some rfl rfl rfl) rfl ?_
            refine wl_pass (.some rfl rfl rfl) rfl ?_
            refine wl_pass (.some rfl rfl rfl) rfl ?_
            refine wl_free .none rfl (yf_pickF rfl rfl) ?_
            refine wl_free .none rfl (yf_move rfl) ?_
            refine wl_pass (.some rfl rfl rfl) rfl ?_
            refine wl_pass (.some rfl rfl rfl) rfl ?_
            refine wl_passU rfl rfl rfl ?_
            refine wl_passU rfl rfl rfl ?_
            refine wl_passU rfl rfl rfl ?_
            refine wl_pass (.some rfl rfl rfl) rfl ?_
            refine wl_pass (.some rfl rfl rfl) rfl ?_
            refine wl_passU rfl rfl rfl ?_
            refine wl_passU rfl rfl rfl ?_
            refine wl_passU rfl rfl rfl ?_
            refine wl_passU rfl rfl rfl ?_
            refine wl_passU rfl rfl rfl ?_
            refine wl_passU rfl rfl rfl ?_
            refine wl_passU rfl rfl rfl ?_
            refine wl_pass (.some rfl rfl rfl) rfl ?_
            refine wl_free .none rfl (yf_pickF rfl rfl) ?_
            refine wl_nil ?_
            refine wq_cut (ι := Unit) () (.cons rfl <| .cons rfl <| .cons ?_ <| .nil) (fun w h => h)
            show some (Value.bool _) = some (Value.bool _)
            congr 2
            rw [Bool.eq_iff_iff]
            first
              | (simp_all; done)
              | (simp_all; omega)
        · generalize hF : (decide (1 ≤ k) && decide (k ≤ 8) && decide (es.length = ne) && (named && isNameL s || !named && decide (s = []))) = F54
          refine wl_cut 20 (ι := Unit) (fun _ => [(1, .pointer (some ⟨b1, 0, none⟩)), (74, .bool (F54 && (decide (0 < nb) || decide (b.length = 0)) && (decide (1 < nb) || decide (c.length = 0))))]) (fun _ => Hp (fun _ => False) w_0 [(b1, bk 60 (stC k s A1 es.length c1 A2 b.length c2 A3 c.length c3))] [] (fun u => (RdF F A1 x1 u ∧ ExsV F u es x1) ∧ blkK F u b A2 c2 ∧ blkK F u c A3 c3)) ?_ (fun _ => ?_)
          · skip
            refine wl_free .none rfl (yf_move rfl) ?_
            refine wl_split 55 rfl (fun q33 => ?_) (fun q33 => ?_)
            · skip
              refine wl_free (.some rfl rfl) rfl (yf_move rfl) ?_
              refine wl_free (.some rfl rfl) rfl (yf_gtr rfl rfl) ?_
              refine wl_free (.some rfl rfl) rfl (yf_move rfl) ?_
              refine wl_split 58 rfl (fun q36 => ?_) (fun q36 => ?_)
              · replace q36 := of_decide_eq_true q36
                refine wl_pass (.some rfl rfl rfl) rfl ?_
                refine wl_pass (.some rfl rfl rfl) rfl ?_
                refine wl_pass (.some rfl rfl rfl) rfl ?_
                refine wl_pass (.some rfl rfl rfl) rfl ?_
                refine wl_free (.some rfl rfl) rfl (yf_pickT rfl rfl) ?_
                refine wl_free .none rfl (yf_pickT rfl rfl) ?_
                refine wl_free .none rfl (yf_move rfl) ?_
                refine wl_free (.some rfl rfl) rfl (yf_move rfl) ?_
                refine wl_free (.some rfl rfl) rfl (yf_gtr rfl rfl) ?_
                refine wl_free (.some rfl rfl) rfl (yf_move rfl) ?_
                refine wl_split 68 rfl (fun q46 => ?_) (fun q46 => ?_)
                · replace q46 := of_decide_eq_true q46
                  refine wl_pass (.some rfl rfl rfl) rfl ?_
                  refine wl_pass (.some rfl rfl rfl) rfl ?_
                  refine wl_pass (.some rfl rfl rfl) rfl ?_
                  refine wl_pass (.some rfl rfl rfl) rfl ?_
                  refine wl_free (.some rfl rfl) rfl (yf_pickT rfl rfl) ?_
                  refine wl_free .none rfl (yf_pickT rfl rfl) ?_
                  refine wl_nil ?_
                  refine wq_cut (ι := Unit) () (.cons rfl <| .cons ?_ <| .nil) (fun w h => h)
                  show some (Value.bool _) = some (Value.bool _)
                  congr 2
                  rw [Bool.eq_iff_iff]
                  first
                    | (simp_all; done)
                    | (simp_all; omega)
                · replace q46 := of_decide_eq_false q46
                  refine wl_free (.some rfl rfl) rfl (yf_fieldAddr (off := 4) (sz := 0) rfl Tryz.underlying60 (by kernel_rfl) rfl) ?_
                  refine wl_free (.some rfl rfl) rfl (yf_loadL 0 rfl rfl rfl Tryz.underlying58 rfl) ?_
                  refine wl_free (.some rfl rfl) rfl (yf_lenS rfl Tryz.underlying58) ?_
                  refine wl_free (.some rfl rfl) rfl (yf_eql rfl rfl) ?_
                  refine wl_free (.some rfl rfl) rfl (yf_pickF rfl rfl) ?_
                  refine wl_free .none rfl (yf_pickT rfl rfl) ?_
                  refine wl_nil ?_
                  refine wq_cut (ι := Unit) () (.cons rfl <| .cons ?_ <| .nil) (fun w h => h)
                  show some (Value.bool _) = some (Value.bool _)
                  congr 2
                  rw [Bool.eq_iff_iff]
                  first
                    | (simp_all; done)
                    | (simp_all; omega)
              · replace q36 := of_decide_eq_false q36
                refine wl_free (.some rfl rfl) rfl (yf_fieldAddr (off := 3) (sz := 0) rfl Tryz.underlying60 (by kernel_rfl) rfl) ?_
                refine wl_free (.some rfl rfl) rfl (yf_loadL 0 rfl rfl rfl Tryz.underlying58 rfl) ?_
                refine wl_free (.some rfl rfl) rfl (yf_lenS rfl Tryz.underlying58) ?_
                refine wl_free (.some rfl rfl) rfl (yf_eql rfl rfl) ?_
                refine wl_free (.some rfl rfl) rfl (yf_pickF rfl rfl) ?_
                refine wl_free .none rfl (yf_pickT rfl rfl) ?_
                refine wl_free .none rfl (yf_move rfl) ?_
                refine wl_split 65 rfl (fun q43 => ?_) (fun q43 => ?_)
                · replace q43 := eq_of_beq q43
                  refine wl_free (.some rfl rfl) rfl (yf_move rfl) ?_
                  refine wl_free (.some rfl rfl) rfl (yf_gtr rfl rfl) ?_
                  refine wl_free (.some rfl rfl) rfl (yf_move rfl) ?_
                  refine wl_split 68 rfl (fun q46 => ?_) (fun q46 => ?_)
                  · replace q46 := of_decide_eq_true q46
                    refine wl_pass (.some rfl rfl rfl) rfl ?_
                    refine wl_pass (.some rfl rfl rfl) rfl ?_
                    refine wl_pass (.some rfl rfl rfl) rfl ?_
                    refine wl_pass (.some rfl rfl rfl) rfl ?_
                    refine wl_free (.some rfl rfl) rfl (yf_pickT rfl rfl) ?_
                    refine wl_free .none rfl (yf_pickT rfl rfl) ?_
                    refine wl_nil ?_
                    refine wq_cut (ι := Unit) () (.cons rfl <| .cons ?_ <| .nil) (fun w h => h)
                    show some (Value.bool _) = some (Value.bool _)
                    congr 2
                    rw [Bool.eq_iff_iff]
                    first
                      | (simp_all; done)
                      | (simp_all; omega)
                  · replace q46 := of_decide_eq_false q46
                    refine wl_free (.some rfl rfl) rfl (yf_fieldAddr (off := 4) (sz := 0) rfl Tryz.underlying60 (by kernel_rfl) rfl) ?_
                    refine wl_free (.some rfl rfl) rfl (yf_loadL 0 rfl rfl rfl Tryz.underlying58 rfl) ?_
                    refine wl_free (.some rfl rfl) rfl (yf_lenS rfl Tryz.underlying58) ?_
                    refine wl_free (.some rfl rfl) rfl (yf_eql rfl rfl) ?_
                    refine wl_free (.some rfl rfl) rfl (yf_pickF rfl rfl) ?_
                    refine wl_free .none rfl (yf_pickT rfl rfl) ?_
                    refine wl_nil ?_
                    refine wq_cut (ι := Unit) () (.cons rfl <| .cons ?_ <| .nil) (fun w h => h)
                    show some (Value.bool _) = some (Value.bool _)
                    congr 2
                    rw [Bool.eq_iff_iff]
                    first
                      | (simp_all; done)
                      | (simp_all; omega)
                · replace q43 := beq_no q43
                  refine wl_pass (.some rfl rfl rfl) rfl ?_
                  refine wl_pass (.some rfl rfl rfl) rfl ?_
                  refine wl_pass (.some rfl rfl rfl) rfl ?_
                  refine wl_passU rfl rfl rfl ?_
                  refine wl_passU rfl rfl rfl ?_
                  refine wl_passU rfl rfl rfl ?_
                  refine wl_passU rfl rfl rfl ?_
                  refine wl_pass (.some rfl rfl rfl) rfl ?_
                  refine wl_free .none rfl (yf_pickF rfl rfl) ?_
                  refine wl_nil ?_
                  refine wq_cut (ι := Unit) () (.cons rfl <| .cons ?_ <| .nil) (fun w h => h)
                  show some (Value.bool _) = some (Value.bool _)
                  congr 2
                  rw [Bool.eq_iff_iff]
                  first
                    | (simp_all; done)
                    | (simp_all; omega)
            · skip
              refine wl_pass (.some rfl rfl rfl) rfl ?_
              refine wl_pass (.some rfl rfl rfl) rfl ?_
              refine wl_pass (.some rfl rfl rfl) rfl ?_
              refine wl_passU rfl rfl rfl ?_
              refine wl_passU rfl rfl rfl ?_
              refine wl_passU rfl rfl rfl ?_
              refine wl_passU rfl rfl rfl ?_
              refine wl_pass (.some rfl rfl rfl) rfl ?_
              refine wl_free .none rfl (yf_pickF rfl rfl) ?_
              refine wl_free .none rfl (yf_move rfl) ?_
              refine wl_pass (.some rfl rfl rfl) rfl ?_
              refine wl_pass (.some rfl rfl rfl) rfl ?_
              refine wl_pass (.some rfl rfl rfl) rfl ?_
              refine wl_passU rfl rfl rfl ?_
              refine wl_passU rfl rfl rfl ?_
              refine wl_passU rfl rfl rfl ?_
              refine wl_passU rfl rfl rfl ?_
              refine wl_pass (.some rfl rfl rfl) rfl ?_
              refine wl_free .none rfl (yf_pickF rfl rfl) ?_
              refine wl_nil ?_
              refine wq_cut (ι := Unit) () (.cons rfl <| .cons ?_ <| .nil) (fun w h => h)
              show some (Value.bool _) = some (Value.bool _)
              congr 2
              rw [Bool.eq_iff_iff]
              first
                | (simp_all; done)
                | (simp_all; omega)
          · generalize hG : (F54 && (decide (0 < nb) || decide (b.length = 0)) && (decide (1 < nb) || decide (c.length = 0))) = G74
            refine wl_free .none rfl (yf_move rfl) ?_
            refine wl_split 75 rfl (fun q53 => ?_) (fun q53 => ?_)
            · skip
              refine wl_free (.some rfl rfl) rfl (yf_fieldAddr (off := 2) (sz := 0) rfl Tryz.underlying60 (by kernel_rfl) rfl) ?_
              refine wl_free (.some rfl rfl) rfl (yf_loadL 0 rfl rfl rfl Tryz.underlying55 rfl) ?_
              refine wl_pure (.some rfl rfl) rfl  (v := .bool (es.any fun x => !rightEx x)) (by kernel_rfl) rfl (fun w hw => containsE_any es A1 c1 p1 x1 (pr_right2 es) w (HpG.x hw).1 trivial) ?_
              refine wl_free (.some rfl rfl) rfl (yf_not rfl) ?_
              refine wl_free .none rfl (yf_pickT rfl rfl) ?_
              refine wl_free .none rfl (yf_move rfl) ?_
              refine wl_split 81 rfl (fun q59 => ?_) (fun q59 => ?_)
              · skip
                refine wl_free (.some rfl rfl) rfl (yf_fieldAddr (off := 3) (sz := 0) rfl Tryz.underlying60 (by kernel_rfl) rfl) ?_
                refine wl_free (.some rfl rfl) rfl (yf_loadL 0 rfl rfl rfl Tryz.underlying58 rfl) ?_
                refine wl_pure (.some rfl rfl) rfl  (v := .bool (rightSts b)) (by kernel_rfl) rfl (fun w hw => rightB_any b hb F A2 c2 w (HpG.x hw).2.1) ?_
                refine wl_free .none rfl (yf_pickT rfl rfl) ?_
                refine wl_free .none rfl (yf_move rfl) ?_
                refine wl_split 86 rfl (fun q64 => ?_) (fun q64 => ?_)
                · skip
                  refine wl_free (.some rfl rfl) rfl (yf_fieldAddr (off := 4) (sz := 0) rfl Tryz.underlying60 (by kernel_rfl) rfl) ?_
                  refine wl_free (.some rfl rfl) rfl (yf_loadL 0 rfl rfl rfl Tryz.underlying58 rfl) ?_
                  refine wl_pure (.some rfl rfl) rfl  (v := .bool (rightSts c)) (by kernel_rfl) rfl (fun w hw => rightB_any c hc F A3 c3 w (HpG.x hw).2.2) ?_
                  refine wl_free .none rfl (yf_pickT rfl rfl) ?_
                  refine wl_free .none rfl (yf_assign rfl) ?_
                  refine wl_nil ?_
                  refine wq_then ?_
                  refine wc_ret ?_
                  refine wq_ret1 rfl rfl (fun w hw => ?_)
                  refine ⟨?_, (HpG.keep hw).ext⟩
                  congr 2
                  rw [← any_not]
                  generalize (es.any fun x => !rightEx x) = z at *
                  rw [Bool.eq_iff_iff]
                  first
                    | (simp_all; done)
                    | (simp_all; omega)
                · skip
                  refine wl_pass (.some rfl rfl rfl) rfl ?_
                  refine wl_pass (.some rfl rfl rfl) rfl ?_
                  refine wl_pass (.some rfl rfl rfl) rfl ?_
                  refine wl_free .none rfl (yf_pickF rfl rfl) ?_
                  refine wl_free .none rfl (yf_assign rfl) ?_
                  refine wl_nil ?_
                  refine wq_then ?_
                  refine wc_ret ?_
                  refine wq_ret1 rfl rfl (fun w hw => ?_)
                  refine ⟨?_, (HpG.keep hw).ext⟩
                  congr 2
                  rw [← any_not]
                  generalize (es.any fun x => !rightEx x) = z at *
                  rw [Bool.eq_iff_iff]
                  first
                    | (simp_all; done)
                    | (simp_all; omega)
              · skip
                refine wl_pass (.some rfl rfl rfl) rfl ?_
                refine wl_pass (.some rfl rfl rfl) rfl ?_
                refine wl_pass (.some rfl rfl rfl) rfl ?_
                refine wl_free .none rfl (yf_pickF rfl rfl) ?_
                refine wl_free .none rfl (yf_move rfl) ?_
                refine wl_pass (.some rfl rfl rfl) rfl ?_
                refine wl_pass (.some rfl rfl rfl) rfl ?_
                refine wl_pass (.some rfl rfl rfl) rfl ?_
                refine wl_free .none rfl (yf_pickF rfl rfl) ?_
                refine wl_free .none rfl (yf_assign rfl) ?_
                refine wl_nil ?_
                refine wq_then ?_
                refine wc_ret ?_
                refine wq_ret1 rfl rfl (fun w hw => ?_)
                refine ⟨?_, (HpG.keep hw).ext⟩
                congr 2
                rw [← any_not]
                generalize (es.any fun x => !rightEx x) = z at *
                rw [Bool.eq_iff_iff]
                first
                  | (simp_all; done)
                  | (simp_all; omega)
            · skip
              refine wl_pass (.some rfl rfl rfl) rfl ?_
              refine wl_pass (.some rfl rfl rfl) rfl ?_
              refine wl_pass (.some rfl rfl rfl) rfl ?_
              refine wl_pass (.some rfl rfl rfl) rfl ?_
              refine wl_free .none rfl (yf_pickF rfl rfl) ?_
              refine wl_free .none rfl (yf_move rfl) ?_
              refine wl_pass (.some rfl rfl rfl) rfl ?_
              refine wl_pass (.some rfl rfl rfl) rfl ?_
              refine wl_pass (.some rfl rfl rfl) rfl ?_
              refine wl_free .none rfl (yf_pickF rfl rfl) ?_
              refine wl_free .none rfl (yf_move rfl) ?_
              refine wl_pass (.some rfl rfl rfl) rfl ?_
              refine wl_pass (.some rfl rfl rfl) rfl ?_
              refine wl_pass (.some rfl rfl rfl) rfl ?_
              refine wl_free .none rfl (yf_pickF rfl rfl) ?_
              refine wl_free .none rfl (yf_assign rfl) ?_
              refine wl_nil ?_
              refine wq_then ?_
              refine wc_ret ?_
              refine wq_ret1 rfl rfl (fun w hw => ?_)
              refine ⟨?_, (HpG.keep hw).ext⟩
              congr 2
              rw [← any_not]
              generalize (es.any fun x => !rightEx x) = z at *
              rw [Bool.eq_iff_iff]
              first
                | (simp_all; done)
                | (simp_all; omega)
end Go.Proofs.YtfpkpnkdnammnaaGreatDoor
