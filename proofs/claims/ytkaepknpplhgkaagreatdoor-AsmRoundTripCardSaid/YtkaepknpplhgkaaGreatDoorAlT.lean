/- The law of the round trip. -/
import Derived.Test.YtkaepknpplhgkaaGreatDoorMai
namespace Go.Proofs.YtkaepknpplhgkaaGreatDoor
open Go.RowKit
theorem short_any (s:Bs) (hs:s.length≤9223372036854775807) (k:Nat) (hk:k≤1000000000) (w_0:World):Calls Tryz.prog 16 #[.string ⟨s.toArray⟩,.int .i64 k] w_0 fun e w'=>e=.returned (.string ⟨(s.take k).toArray⟩)∧Ext w_0 w':=by
 refine zP (args:=[.string ⟨s.toArray⟩,.int .i64 k]) Tryz.func16 M 11 M (Nat.le_of_ble_eq_true M)<|Z2 0 1 M M<|zU (H':=Hp (fun _=>False) w_0 [] [] (fun _=>True)) (fun u hu=>?_) ?_
 ·subst hu;exact Hp.start0
 refine zX<|zZ<|Za rfl rfl<|ZX<|zZ<|Zm rfl rfl<|Zm rfl rfl<|ZF rfl (wD rfl Tryz.underlying9)<|Zm rfl rfl<|ZF rfl (yf_min rfl rfl)<|ZF rfl (yf_strHi (c:=s.take k) rfl rfl Tryz.underlying9 (by split<;>omega) (by split<;>omega) (by split<;>first|(rw[Int.toNat_natCast,List.take_of_length_le (Nat.le_refl s.length),List.take_of_length_le (show s.length≤k by omega)])|rw[Int.toNat_natCast])) ?_;refine Za M M<|ZT<|zS<|zO M M (fun w hw=>?_);exact⟨rfl,hw.ext0⟩
theorem trip_law (n:Nat) (s:Bs) (hs:s.length≤9223372036854775807) (org:Nat) (ho:org<4294967296) (w_0:World) (hw0:WOk w_0):Calls Tryz.prog 13 #[.int .u8 n,.string ⟨s.toArray⟩,.int .u32 org] w_0 fun e w'=>e=.returned (.bool true)∧Ext w_0 w':=by
 obtain⟨code,hcode⟩:∃c,c=s.take 1000:=⟨_,rfl⟩;have hcl:code.length≤1000:=by rw[hcode];exact List.length_take_le ..
 have hk:=kindL_12 n;have hdl:=disA_len hk code org;have hrt:=round_trip hk code org (by omega) (by omega);refine zP (args:=[.int .u8 n,.string ⟨s.toArray⟩,.int .u32 org]) Tryz.func13 M 41 M (Nat.le_of_ble_eq_true M)<|Z3 0 1 2 M M M<|zU (H':=Hp (fun _=>False) w_0 [] [] (fun _=>True)) (fun u hu=>?_) ?_
 ·subst hu;exact Hp.start0
 refine zX<|zZ<|Za M M<|ZX<|zZ<|zI .none M  (v:=.bool true) (by kernel_rfl) M (fun w hw=>sanity_any w (hw0.ext hw.ext0)) ?_;refine Za M M<|ZX<|Z5r 0 1 2 6 7 M M M M M<|Zm M M<|zI .none M  (v:=.string ⟨code.toArray⟩) (by kernel_rfl) M (fun w hw=>by rw[hcode];exact short_any s hs 1000 (by decide) w) ?_;refine Za M M<|ZX<|Z5r 0 1 2 6 7 M M M M M<|Zm M M<|zI .none M  (v:=.int .i64 (kindL n)) (by kernel_rfl) M (fun w hw=>kind_any n w) ?_;refine Zm M M<|zI .none M  (v:=.int .i64 (kindL n)) (by kernel_rfl) M (fun w hw=>kind_any n w) ?_;refine Zm M M<|Zm M M<|zI .none M  (v:=.string ⟨(disA (kindL n) code org).toArray⟩) (by kernel_rfl) M (fun w hw=>dis_any (kindL n) code (by omega) org ho w (hw0.ext hw.ext0)) ?_;refine Zm M M<|zI .none M  (v:=.tuple #[.string ⟨code.toArray⟩,.int .i64 0,.int .i64 0]) (by kernel_rfl) M (fun w hw=>asm_is hrt ho (hw0.ext hw.ext0)) ?_;refine Zm M M<|ZF M (zJ M M)<|ZF M (zJ M M)<|ZF M (zJ M M)<|Za M M<|Za M M<|Za M M<|ZX<|Z8r 0 1 2 6 7 8 9 10 M M M M M M M M<|Zm M M<|Zm M M<|zA 28 M (fun hb=>?_) (fun hb=>?_)
 ·refine ZG M M M (zG M)<|ZG M M M (zG M)<|ZG M M M (xS M M Tryz.underlying9)<|ZF M (zB M M)<|Zm M M<|zA 33 M (fun hb=>?_) (fun hb=>?_)
  ·refine ZG M M M (zG M)<|ZG M M M (yO M M)<|ZF M (zB M M)<|Zm M M<|zA 37 M (fun hb=>?_) (fun hb=>?_)
   ·replace hb:=eq_of_beq hb;refine ZG M M M (zG M)<|ZG M M M (yO M M)<|ZF M (zB M M)<|Za M M<|ZT<|zS<|zO M M (fun w hw=>?_);exact⟨rfl,hw.ext0⟩
   ·replace hb:=yA hb;exact absurd M hb
  ·exact absurd (decide_eq_true M) (by rw[hb];decide)
 ·cases hb
end Go.Proofs.YtkaepknpplhgkaaGreatDoor
