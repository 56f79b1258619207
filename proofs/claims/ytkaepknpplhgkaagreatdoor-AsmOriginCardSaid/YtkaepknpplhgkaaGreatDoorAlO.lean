/- The law of origins. -/
import Derived.Test.YtkaepknpplhgkaaGreatDoorMag
import Derived.Test.YtkaepknpplhgkaaGreatDoorAlE
import Derived.Test.YtkaepknpplhgkaaGreatDoorAsG
namespace Go.Proofs.YtkaepknpplhgkaaGreatDoor
open Go.RowKit
theorem origin_any (k m n : Nat) (hm : m < 20) (hn : n < 20) : ∃ c, 0 < c.length ∧ ∀ org, org < 4294967296 → asmL (kindL k) (oText (kindL k) m n) org = (c, 0, 0) := by
  rcases kindL_12 k with h | h
  · rw [h]; exact origin_K hm hn
  · rw [h]; exact origin_Q hm hn
def jmpL (kind : Int) : Bs := if kind = 2 then [98, 101, 113, 32, 114, 49, 44, 32, 114, 50, 44, 32, 98, 10, 106, 97, 108, 32, 114, 48, 44, 32, 97, 10, 106, 97, 108, 32, 114, 51, 44, 32, 98, 10] else [106, 101, 113, 32, 98, 10, 106, 109, 112, 32, 97, 10, 99, 97, 108, 108, 32, 98, 10]
theorem jmpL_ln (kind : Int) : (jmpL kind).length ≤ 40 := by unfold jmpL; split <;> decide
theorem oText_is (kind : Int) (m n : Nat) : (((([97, 58, 10] ++ repB [104, 97, 108, 116, 10] m) ++ jmpL kind) ++ repB [98, 114, 101, 97, 107, 10] n) ++ [98, 58, 32, 114, 101, 116, 116]) = oText kind m n := by
  unfold oText jmpL oJ
  have e1 : (oHalt ++ [10] : Bs) = [104, 97, 108, 116, 10] := rfl
  have e2 : (oBrk ++ [10] : Bs) = [98, 114, 101, 97, 107, 10] := rfl
  rw [e1, e2]
  generalize repB [104, 97, 108, 116, 10] m = A
  generalize repB [98, 114, 101, 97, 107, 10] n = B
  split <;> simp [oA, oEnd]
set_option maxHeartbeats 2000000 in
set_option maxRecDepth 100000 in
theorem origin_law (k o0 o1 x0 x1 : Nat) (_hk : k < 256) (h0 : o0 < 4294967296) (h1 : o1 < 4294967296) (w_0 : World) (hw0 : WOk w_0) : Calls Tryz.prog 8 #[.int .u8 k, .agg #[.int .u32 o0, .int .u32 o1], .agg #[.int .u8 x0, .int .u8 x1]] w_0 fun e w' => e = .returned (.bool true) ∧ Ext w_0 w' := by
  obtain ⟨m, hm⟩ : ∃ m, m = x0 % 20 := ⟨_, rfl⟩
  obtain ⟨n, hn⟩ : ∃ n, n = x1 % 20 := ⟨_, rfl⟩
  have hm20 : m < 20 := by omega
  have hn20 : n < 20 := by omega
  obtain ⟨c, hc0, hc⟩ := origin_any k m n hm20 hn20
  have hcx : ∀ x : Nat, ((c.length : Int) > 0) := fun _ => by omega
  have hA1000 : m ≤ 1000 := by omega
  have hB1000 : n ≤ 1000 := by omega
  have hAl : ([104, 97, 108, 116, 10] : Bs).length ≤ 1000 := by decide
  have hBl : ([98, 114, 101, 97, 107, 10] : Bs).length ≤ 1000 := by decide
  have hlA : (repB [104, 97, 108, 116, 10] m).length ≤ 1000 := by rw [repB_len, show ([104, 97, 108, 116, 10] : Bs).length = 5 from rfl]; omega
  have hlB : (repB [98, 114, 101, 97, 107, 10] n).length ≤ 1000 := by rw [repB_len, show ([98, 114, 101, 97, 107, 10] : Bs).length = 6 from rfl]; omega
  have hlJ := jmpL_ln (kindL k)
  refine calls_wc (args := [Value.int .u8 k, Value.agg [Value.int .u32 o0, Value.int .u32 o1].toArray, Value.agg [Value.int .u8 x0, Value.int .u8 x1].toArray]) Tryz.func8 rfl 82 rfl (Nat.le_of_ble_eq_true rfl) ?_
  refine wc_weak (.cons (i := 0) rfl <| .cons (i := 1) rfl <| .cons (i := 2) rfl <| .nil) ?_
  refine wc_conseq (H' := Hp (fun _ => False) w_0 [] [] (fun _ => True)) (fun u hu => ?_) ?_
  · subst hu; exact Hp.start0
  refine wc_seq ?_
  refine wc_region ?_
  refine wl_new .none rfl (nf_box rfl rfl) (fun b4 => ?_)
  refine wl_new .none rfl (nf_box rfl rfl) (fun b5 => ?_)
  refine wl_free .none rfl (yf_assign rfl) ?_
  refine wl_nil ?_
  refine wq_then ?_
  refine wc_seq ?_
  refine wc_region ?_
  refine wl_pure .none rfl  (v := .bool true) (by kernel_rfl) rfl (fun w hw => sanity_any w (hw0.ext hw.ext0)) ?_
  refine wl_free .none rfl (yf_assign rfl) ?_
  refine wl_nil ?_
  refine wq_then ?_
  refine wc_seq ?_
  refine wc_weak (.cons (i := 0) rfl <| .cons (i := 1) rfl <| .cons (i := 2) rfl <| .cons (i := 4) rfl <| .cons (i := 5) rfl <| .cons (i := 6) rfl <| .cons (i := 7) rfl <| .nil) ?_
  refine wc_region ?_
  refine wl_free .none rfl (yf_assign rfl) ?_
  refine wl_nil ?_
  refine wq_then ?_
  refine wc_cut (ι := Unit) (fun _ => [(0, .int .u8 k), (4, .pointer (some ⟨b4, 0, none⟩)), (5, .pointer (some ⟨b5, 0, none⟩)), (6, .bool false), (7, .bool true), (8, .string ⟨(jmpL (kindL k)).toArray⟩)]) (fun _ => Hp (fun _ => False) w_0 [(b5, bk 33 [.int .u8 x0, .int .u8 x1]), (b4, bk 56 [.int .u32 o0, .int .u32 o1])] [] (fun _ => True)) ?_ (fun _ => ?_)
  · skip
    refine wc_seq ?_
    refine wc_region ?_
    refine wl_free .none rfl (yf_move rfl) ?_
    refine wl_pure .none rfl  (v := .int .i64 (kindL k)) (by kernel_rfl) rfl (fun w hw => kind_any k w) ?_
    refine wl_free .none rfl (yf_eql rfl rfl) ?_
    refine wl_nil ?_
    refine wq_then ?_
    refine wc_cond rfl (fun h19 => ?_) (fun h19 => ?_)
    · replace h19 := eq_of_beq h19
      refine wc_weak (.cons (i := 0) rfl <| .cons (i := 1) rfl <| .cons (i := 2) rfl <| .cons (i := 4) rfl <| .cons (i := 5) rfl <| .cons (i := 6) rfl <| .cons (i := 7) rfl <| .cons (i := 8) rfl <| .cons (i := 19) rfl <| .nil) ?_
      refine wc_region ?_
      refine wl_free .none rfl (yf_assign rfl) ?_
      refine wl_nil ?_
      exact wq_meet (ι := Unit) () (.cons rfl <| .cons rfl <| .cons rfl <| .cons rfl <| .cons rfl <| .consE rfl (by unfold jmpL; rw [if_pos h19]) <| .nil) (fun w h => h)
    · replace h19 := beq_no h19
      refine wc_skip ?_
      exact wq_meet (ι := Unit) () (.cons rfl <| .cons rfl <| .cons rfl <| .cons rfl <| .cons rfl <| .consE rfl (by unfold jmpL; rw [if_neg h19]) <| .nil) (fun w h => h)
  · skip
    refine wc_seq ?_
    refine wc_drawN [0, 1, 2, 3, 4, 5, 6, 7, 8, 9, 10, 11, 12, 13, 14, 15] (Blk b5 (bk 33 [.int .u8 x0, .int .u8 x1])) (by kernel_rfl) (by kernel_rfl) Blk.stab (fun w h => HpG.blk h (k := 0) rfl) (fun n0 hn0 => ?_)
    refine wd_at rfl ?_
    (refine wd_free ?_ .none rfl (yf_indexAddrA (j := 0) (es := 1) rfl rfl Tryz.underlying33 (by kernel_rfl) rfl ?_ rfl) ?_; (· rfl); (· first | decide | omega | (simp; done) | (simp; omega)); skip)
    refine wd_at rfl ?_
    (refine wd_free ?_ .none rfl (yf_loadJ rfl rfl Tryz.underlying5 rfl) ?_; (· rfl);  skip)
    refine wd_at rfl ?_
    (refine wd_free ?_ .none rfl (yf_rem rfl rfl ?_ ((tmodN x0 20 (by decide)).trans (by rw [← hm]))) ?_; (· rfl); (· first | decide | omega); skip)
    refine wd_at rfl ?_
    (refine wd_free ?_ .none rfl (yf_conv rfl (by kernel_rfl) Tryz.underlying3 (i64_in _ ?_ ?_)) ?_; (· rfl); (· omega); (· omega); skip)
    refine wd_at rfl ?_
    refine wd_pure .none rfl  (v := .string ⟨(repB [104, 97, 108, 116, 10] m).toArray⟩) (by kernel_rfl) rfl (fun w w' h hx => h.onE hx) (fun w hw => repeat_any [104, 97, 108, 116, 10] m hA1000 hAl w) ?_
    refine wd_at rfl ?_
    (refine wd_free ?_ .none rfl (yf_str_add rfl rfl ?_) ?_; (· rfl); (· (rw [show ([97, 58, 10] : Bs).length = 3 from rfl]; omega)); skip)
    refine wd_at rfl ?_
    (refine wd_free ?_ .none rfl (yf_move rfl) ?_; (· rfl);  skip)
    refine wd_at rfl ?_
    (refine wd_free ?_ .none rfl (yf_str_add rfl rfl ?_) ?_; (· rfl); (· (rw [List.length_append, show ([97, 58, 10] : Bs).length = 3 from rfl]; omega)); skip)
    refine wd_at rfl ?_
    (refine wd_free ?_ .none rfl (yf_indexAddrA (j := 1) (es := 1) rfl rfl Tryz.underlying33 (by kernel_rfl) rfl ?_ rfl) ?_; (· rfl); (· first | decide | omega | (simp; done) | (simp; omega)); skip)
    refine wd_at rfl ?_
    (refine wd_free ?_ .none rfl (yf_loadJ rfl rfl Tryz.underlying5 rfl) ?_; (· rfl);  skip)
    refine wd_at rfl ?_
    (refine wd_free ?_ .none rfl (yf_rem rfl rfl ?_ ((tmodN x1 20 (by decide)).trans (by rw [← hn]))) ?_; (· rfl); (· first | decide | omega); skip)
    refine wd_at rfl ?_
    (refine wd_free ?_ .none rfl (yf_conv rfl (by kernel_rfl) Tryz.underlying3 (i64_in _ ?_ ?_)) ?_; (· rfl); (· omega); (· omega); skip)
    refine wd_at rfl ?_
    refine wd_pure .none rfl  (v := .string ⟨(repB [98, 114, 101, 97, 107, 10] n).toArray⟩) (by kernel_rfl) rfl (fun w w' h hx => h.onE hx) (fun w hw => repeat_any [98, 114, 101, 97, 107, 10] n hB1000 hBl w) ?_
    refine wd_at rfl ?_
    (refine wd_free ?_ .none rfl (yf_str_add rfl rfl ?_) ?_; (· rfl); (· (rw [List.length_append, List.length_append, show ([97, 58, 10] : Bs).length = 3 from rfl]; omega)); skip)
    refine wd_at rfl ?_
    (refine wd_free ?_ .none rfl (yf_str_add rfl rfl ?_) ?_; (· rfl); (· (rw [List.length_append, List.length_append, List.length_append, show ([97, 58, 10] : Bs).length = 3 from rfl, show ([98, 58, 32, 114, 101, 116, 116] : Bs).length = 7 from rfl]; omega)); skip)
    refine wd_at rfl ?_
    (refine wd_free ?_ .none rfl (yf_assign rfl) ?_; (· rfl);  skip)
    refine wd_endH ?_
    refine wq_then ?_
    refine wc_seq ?_
    refine wc_weak (.cons (i := 0) rfl <| .cons (i := 4) rfl <| .cons (i := 5) rfl <| .cons (i := 6) rfl <| .cons (i := 7) rfl <| .cons (i := 8) rfl <| .cons (i := 9) rfl <| .nil) ?_
    refine wc_drawN [0, 1, 2, 3, 4, 5, 6, 7, 8, 9, 10, 11, 12] (Blk b4 (bk 56 [.int .u32 o0, .int .u32 o1])) (by kernel_rfl) (by kernel_rfl) Blk.stab (fun w h => HpG.blk h (k := 1) rfl) (fun n0 hn0 => ?_)
    refine wd_at rfl ?_
    (refine wd_free ?_ .none rfl (yf_move rfl) ?_; (· rfl);  skip)
    refine wd_at rfl ?_
    refine wd_pure .none rfl  (v := .int .i64 (kindL k)) (by kernel_rfl) rfl (fun w w' h hx => h.onE hx) (fun w hw => kind_any k w) ?_
    refine wd_at rfl ?_
    (refine wd_free ?_ .none rfl (yf_move rfl) ?_; (· rfl);  skip)
    refine wd_at rfl ?_
    (refine wd_free ?_ .none rfl (yf_indexAddrA (j := 0) (es := 1) rfl rfl Tryz.underlying56 (by kernel_rfl) rfl ?_ rfl) ?_; (· rfl); (· first | decide | omega | (simp; done) | (simp; omega)); skip)
    refine wd_at rfl ?_
    (refine wd_free ?_ .none rfl (yf_loadJ rfl rfl Tryz.underlying22 rfl) ?_; (· rfl);  skip)
    refine wd_at rfl ?_
    refine wd_pure .none rfl  (by kernel_rfl) rfl (fun w w' h hx => h.onE hx) (fun w hw => asm_is (c := c) (n := 0) (e := 0) (by rw [oText_is]; exact hc o0 h0) h0 (hw0.ext hw.ext0)) ?_
    refine wd_at rfl ?_
    (refine wd_free ?_ .none rfl (yf_move rfl) ?_; (· rfl);  skip)
    refine wd_at rfl ?_
    (refine wd_free ?_ .none rfl (yf_extract rfl rfl) ?_; (· rfl);  skip)
    refine wd_at rfl ?_
    (refine wd_free ?_ .none rfl (yf_extract rfl rfl) ?_; (· rfl);  skip)
    refine wd_at rfl ?_
    (refine wd_free ?_ .none rfl (yf_extract rfl rfl) ?_; (· rfl);  skip)
    refine wd_at rfl ?_
    (refine wd_free ?_ .none rfl (yf_assign rfl) ?_; (· rfl);  skip)
    refine wd_at rfl ?_
    (refine wd_free ?_ .none rfl (yf_assign rfl) ?_; (· rfl);  skip)
    refine wd_at rfl ?_
    (refine wd_free ?_ .none rfl (yf_assign rfl) ?_; (· rfl);  skip)
    refine wd_endH ?_
    refine wq_then ?_
    refine wc_seq ?_
    refine wc_weak (.cons (i := 0) rfl <| .cons (i := 4) rfl <| .cons (i := 5) rfl <| .cons (i := 6) rfl <| .cons (i := 7) rfl <| .cons (i := 8) rfl <| .cons (i := 9) rfl <| .cons (i := 10) rfl <| .cons (i := 11) rfl <| .cons (i := 12) rfl <| .nil) ?_
    refine wc_drawN [0, 1, 2, 3, 4, 5, 6, 7, 8, 9, 10, 11, 12] (Blk b4 (bk 56 [.int .u32 o0, .int .u32 o1])) (by kernel_rfl) (by kernel_rfl) Blk.stab (fun w h => HpG.blk h (k := 1) rfl) (fun n0 hn0 => ?_)
    refine wd_at rfl ?_
    (refine wd_free ?_ .none rfl (yf_move rfl) ?_; (· rfl);  skip)
    refine wd_at rfl ?_
    refine wd_pure .none rfl  (v := .int .i64 (kindL k)) (by kernel_rfl) rfl (fun w w' h hx => h.onE hx) (fun w hw => kind_any k w) ?_
    refine wd_at rfl ?_
    (refine wd_free ?_ .none rfl (yf_move rfl) ?_; (· rfl);  skip)
    refine wd_at rfl ?_
    (refine wd_free ?_ .none rfl (yf_indexAddrA (j := 1) (es := 1) rfl rfl Tryz.underlying56 (by kernel_rfl) rfl ?_ rfl) ?_; (· rfl); (· first | decide | omega | (simp; done) | (simp; omega)); skip)
    refine wd_at rfl ?_
    (refine wd_free ?_ .none rfl (yf_loadJ rfl rfl Tryz.underlying22 rfl) ?_; (· rfl);  skip)
    refine wd_at rfl ?_
    refine wd_pure .none rfl  (by kernel_rfl) rfl (fun w w' h hx => h.onE hx) (fun w hw => asm_is (c := c) (n := 0) (e := 0) (by rw [oText_is]; exact hc o1 h1) h1 (hw0.ext hw.ext0)) ?_
    refine wd_at rfl ?_
    (refine wd_free ?_ .none rfl (yf_move rfl) ?_; (· rfl);  skip)
    refine wd_at rfl ?_
    (refine wd_free ?_ .none rfl (yf_extract rfl rfl) ?_; (· rfl);  skip)
    refine wd_at rfl ?_
    (refine wd_free ?_ .none rfl (yf_extract rfl rfl) ?_; (· rfl);  skip)
    refine wd_at rfl ?_
    (refine wd_free ?_ .none rfl (yf_extract rfl rfl) ?_; (· rfl);  skip)
    refine wd_at rfl ?_
    (refine wd_free ?_ .none rfl (yf_assign rfl) ?_; (· rfl);  skip)
    refine wd_at rfl ?_
    (refine wd_free ?_ .none rfl (yf_assign rfl) ?_; (· rfl);  skip)
    refine wd_at rfl ?_
    (refine wd_free ?_ .none rfl (yf_assign rfl) ?_; (· rfl);  skip)
    refine wd_endH ?_
    refine wq_then ?_
    refine wc_seq ?_
    refine wc_weak (.cons (i := 0) rfl <| .cons (i := 4) rfl <| .cons (i := 5) rfl <| .cons (i := 6) rfl <| .cons (i := 7) rfl <| .cons (i := 8) rfl <| .cons (i := 9) rfl <| .cons (i := 10) rfl <| .cons (i := 11) rfl <| .cons (i := 12) rfl <| .cons (i := 13) rfl <| .cons (i := 14) rfl <| .cons (i := 15) rfl <| .nil) ?_
    refine wc_region ?_
    refine wl_free .none rfl (yf_move rfl) ?_
    refine wl_free .none rfl (yf_move rfl) ?_
    refine wl_split 56 rfl (fun hb => ?_) (fun hb => ?_)
    · skip
      refine wl_free (.some rfl rfl) rfl (yf_move rfl) ?_
      refine wl_free (.some rfl rfl) rfl (yf_eql rfl rfl) ?_
      refine wl_free .none rfl (yf_pickT rfl rfl) ?_
      refine wl_free .none rfl (yf_move rfl) ?_
      refine wl_split 60 rfl (fun hb => ?_) (fun hb => ?_)
      · replace hb := eq_of_beq hb
        refine wl_free (.some rfl rfl) rfl (yf_move rfl) ?_
        refine wl_free (.some rfl rfl) rfl (yf_eql rfl rfl) ?_
        refine wl_free .none rfl (yf_pickT rfl rfl) ?_
        refine wl_free .none rfl (yf_move rfl) ?_
        refine wl_split 64 rfl (fun hb => ?_) (fun hb => ?_)
        · replace hb := eq_of_beq hb
          refine wl_free (.some rfl rfl) rfl (yf_move rfl) ?_
          refine wl_free (.some rfl rfl) rfl (yf_eql rfl rfl) ?_
          refine wl_free .none rfl (yf_pickT rfl rfl) ?_
          refine wl_free .none rfl (yf_move rfl) ?_
          refine wl_split 68 rfl (fun hb => ?_) (fun hb => ?_)
          · replace hb := eq_of_beq hb
            refine wl_free (.some rfl rfl) rfl (yf_move rfl) ?_
            refine wl_free (.some rfl rfl) rfl (yf_eql rfl rfl) ?_
            refine wl_free .none rfl (yf_pickT rfl rfl) ?_
            refine wl_free .none rfl (yf_move rfl) ?_
            refine wl_split 72 rfl (fun hb => ?_) (fun hb => ?_)
            · replace hb := eq_of_beq hb
              refine wl_free (.some rfl rfl) rfl (yf_move rfl) ?_
              refine wl_free (.some rfl rfl) rfl (yf_move rfl) ?_
              refine wl_free (.some rfl rfl) rfl (yf_strs_eql rfl rfl Tryz.underlying9) ?_
              refine wl_free .none rfl (yf_pickT rfl rfl) ?_
              refine wl_free .none rfl (yf_move rfl) ?_
              refine wl_split 77 rfl (fun hb => ?_) (fun hb => ?_)
              · skip
                refine wl_free (.some rfl rfl) rfl (yf_move rfl) ?_
                refine wl_free (.some rfl rfl) rfl (yf_lenL rfl Tryz.underlying9) ?_
                refine wl_free (.some rfl rfl) rfl (yf_gtr rfl rfl) ?_
                refine wl_free .none rfl (yf_pickT rfl rfl) ?_
                refine wl_free .none rfl (yf_assign rfl) ?_
                refine wl_nil ?_
                refine wq_then ?_
                refine wc_ret ?_
                refine wq_ret1 rfl rfl (fun w hw => ?_)
                exact ⟨by simp; omega, hw.ext0⟩
              · skip
                first | exact absurd hb (by decide) | exact absurd hb (by simp)
            · replace hb := beq_no hb
              first | exact absurd hb (by decide) | exact absurd hb (by simp)
          · replace hb := beq_no hb
            first | exact absurd hb (by decide) | exact absurd hb (by simp)
        · replace hb := beq_no hb
          first | exact absurd hb (by decide) | exact absurd hb (by simp)
      · replace hb := beq_no hb
        first | exact absurd hb (by decide) | exact absurd hb (by simp)
    · skip
      first | exact absurd hb (by decide) | exact absurd hb (by simp)
end Go.Proofs.YtkaepknpplhgkaaGreatDoor
