/- The law of Right. -/
import Derived.Test.YtfpkpnkdnammnaaGreatDoorLq1
import Derived.Test.YtfpkpnkdnammnaaGreatDoorMgO
import Derived.Test.YtfpkpnkdnammnaaGreatDoorMgN
namespace Go.Proofs.YtfpkpnkdnammnaaGreatDoor
open Go.RowKit
theorem print_sml {fs:List Fn} (h:∀f∈fs,Sml f) (hl:fs.length≤4) (F:Nat→Prop) (A:Option Addr) (c:Nat) (w:World) (hT:TbN w) (hP:PgK F w fs A c):Calls Tryz.prog 23 #[.agg [Value.slice A fs.length c].toArray] w fun e w'=>e=.returned (.string ⟨(tQ fs).toArray⟩)∧Ext w w' :=
 print_any fs F A c w (fun f hf=>(h f hf).u) (fun f hf=>by
  have h1:=(h f hf).pr;have h2:=(h f hf).z;have h3:=stNs_z 1 f.body
  omega) (print_z h hl) hT hP
set_option maxHeartbeats 4000000 in
set_option maxRecDepth 100000 in
theorem right_law (l:List Int) (lA:Option Addr) (lc:Nat) (K n q:Int) (hn1:-9223372036854775808≤n) (hn2:n≤9223372036854775807) (hl:l.length≤9223372036854775807) {F:Nat→Prop} (w_0:World) (hv:sD w_0) (hT:TbN w_0) (hL:RdF F lA (sI l) w_0) :
  Calls Tryz.prog 7 #[.slice lA l.length lc,.agg [Value.int .i64 K,.int .i64 n,.int .i64 q].toArray] w_0 fun e w'=>e=.returned (.bool true)∧Ext w_0 w':=by
 have hne:vT (vH l) K n q≠[]:=fun e=>by
  have h1:=turnedL_len (vH l) K n q;have h2:=(madeL_len l).1;rw[e] at h1;simp at h1;omega
 have hl4:(vT (vH l) K n q).length≤4:=by rw[turnedL_len];exact (madeL_len l).2
 refine yS (args:=[.slice lA l.length lc,.agg [Value.int .i64 K,.int .i64 n,.int .i64 q].toArray]) Tryz.func7 V 35 V (Nat.le_of_ble_eq_true V)<|Z2 0 1 V V<|yX (H':=Hp (fun _=>False) w_0 [] [] (fun _=>True)) (fun u hu=>?_) ?_
 ·subst hu;exact Hp.start0
 refine zY<|zX<|zD .none V (wK V V) (fun b3=>?_);refine Za V V<|ZX<|zX<|yP .none V  (v:=.bool true) (by kernel_rfl) V (fun w hw=>sanity_any w (hv.ext (HpG.keep hw).ext) (hT.ext (HpG.keep hw).ext)) ?_;refine Za V V<|ZX<|Z5r 0 1 3 4 5 V V V V V<|Zm V V<|wl_callZ .none V  (by kernel_rfl) V (fun w hw=>made_z hl hL (HpG.keep hw).ext) (fun ⟨Ap,cp⟩ v1 hp1 hw1=>?_);have hb3:=HpG.blk hw1 (k:=0) rfl;refine zD .none V (yN (z:=.agg #[.slice none 0 0]) (cs:=[.slice none 0 0]) (by kernel_rfl) V) (fun b6=>?_);refine ZR 0 V V V V V (by kernel_rfl) ?_;refine ZX<|Z6 0 1 3 4 5 6 V V V V V V<|wc_freeze (fun v2 hw2=>?_);have hb6:=HpG.blk hw2 (k:=0) rfl;replace hb3:=(HpG.x hw2).blk hb3;have hp2:=(HpG.x hw2).get PgK.lies hp1;refine zX<|ZF V (YF.anti (vZ V Tryz.underlying32 V (by kernel_rfl)) (fun u h=>(HpG.x h).blk hb6)) ?_;refine ZF V (YF.anti (vZ V Tryz.underlying37 V (by kernel_rfl)) (fun u h=>(HpG.x h).blk hb3)) ?_;refine wl_callZ .none V  (by kernel_rfl) V (fun w hw=>turned_z hn1 hn2 hp2 (HpG.x hw) (madeL_size l)) (fun ⟨Ax,cx⟩ v3 hx3 hw3=>?_);refine zD .none V (yN (z:=.agg #[.slice none 0 0]) (cs:=[.slice none 0 0]) (by kernel_rfl) V) (fun b7=>?_);refine ZR 0 V V V V V (by kernel_rfl) ?_;refine ZX<|Z7 0 1 3 4 5 6 7 V V V V V V V<|wc_freeze (fun v4 hw4=>?_);have hb7:=HpG.blk hw4 (k:=0) rfl;replace hb6:=(HpG.x hw4).blk ((HpG.x hw3).blk hb6);have hp4:=(HpG.x hw4).get PgK.lies ((HpG.x hw3).get PgK.lies hp2);have hx4:=(HpG.x hw4).get PgK.lies hx3;refine zX<|ZF V (YF.anti (vZ V Tryz.underlying32 V (by kernel_rfl)) (fun u h=>(HpG.x h).blk hb7)) ?_;refine yP .none V  (v:=.bool (vY (vT (vH l) K n q))) (by kernel_rfl) V (fun w hw=>rJ (vT (vH l) K n q) _ Ax cx w ((HpG.x hw).get PgK.lies hx4)) ?_;refine Za V V<|ZX<|Z8r 0 1 3 4 5 6 7 8 V V V V V V V V<|Zm V V<|Zm V V<|zC 18 V (fun g2=>?_) (fun g2=>?_)
 ·refine ZG V V V (YF.anti (vZ V Tryz.underlying32 V (by kernel_rfl)) (fun u h=>(HpG.x h).blk hb6)) ?_;refine yP (.some V V) V  (v:=.bool true) (by kernel_rfl) V (fun w hw=>(rJ (vH l) _ Ap cp w ((HpG.x hw).get PgK.lies hp4)).mono fun _ _ ⟨e1,e2⟩=>⟨by rw[e1,made_right],e2⟩) ?_;refine ZF V (zN V V)<|Zm V V<|zC 22 V (fun g6=>?_) (fun g6=>?_)
  ·refine ZG V V V (zK V)<|ZG V V V (YF.anti (vZ V Tryz.underlying32 V (by kernel_rfl)) (fun u h=>(HpG.x h).blk hb7)) ?_;refine yP (.some V V) V  (v:=.bool (vY (vT (vH l) K n q))) (by kernel_rfl) V (fun w hw=>rright_any (vT (vH l) K n q) _ Ax cx w ((HpG.x hw).get PgK.lies hx4)) ?_;refine ZG V V V (yf_bool_eql V V Tryz.underlying4)<|ZF V (zN V V)<|Zm V V<|zC 28 V (fun g12=>?_) (fun g12=>?_)
   ·refine ZG V V V (YF.anti (vZ V Tryz.underlying32 V (by kernel_rfl)) (fun u h=>(HpG.x h).blk hb7)) ?_;refine yP (.some V V) V  (v:=.string ⟨(tQ (vT (vH l) K n q)).toArray⟩) (by kernel_rfl) V (fun w hw=>print_sml (turned_sml l K n q) hl4 _ Ax cx w (hT.ext (HpG.keep hw).ext) ((HpG.x hw).get PgK.lies hx4)) ?_;refine ZG V V V (yf_strs_neq V V Tryz.underlying9)<|ZG V V V (zK V)<|ZG V V V (yf_bool_eql V V Tryz.underlying4)<|ZF V (zN V V)<|Za V V<|ZT<|zH<|zA V V (fun w hw=>?_)
    exact⟨by
     congr 2;have h9:=printL_ne hne
     cases hr:vY (vT (vH l) K n q)<;>rw[hr] at h9<;>simp at h9<;>simp[h9],(HpG.keep hw).ext⟩
   ·exact absurd g12 (by simp)
  ·cases g6
 ·cases g2
end Go.Proofs.YtfpkpnkdnammnaaGreatDoor
