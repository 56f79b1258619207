import Derived.Test.YtfpkpnkdnammnaaGreatDoorMgl
import Derived.Test.YtfpkpnkdnammnaaGreatDoorMgd
import Derived.Test.YtfpkpnkdnammnaaGreatDoorMgt
import Derived.Test.YtfpkpnkdnammnaaGreatDoorMgq
namespace Go.Proofs.YtfpkpnkdnammnaaGreatDoor
open Go.RowKit
theorem parse_s {fs:List Fn}{s:Bs}(h:pW 100000 s=some (fs,0,0)) (hl:s.length≤1000000000000) {w:World}(hv:qG w):Calls Tryz.prog 25 #[.string ⟨s.toArray⟩] w fun e w'=>∃i:Option Addr×Nat,e=.returned (.tuple #[.agg #[.slice i.1 fs.length i.2],.int .i64 0,.int .i64 0])∧Ext w w'∧PgK (fun _=>True) w' fs i.1 i.2 :=
 (qM s (by omega) 100000 (by decide) _ h w hv).mono fun _ _ ⟨A,cap,e1,e2,e3⟩=>⟨(A,cap),e1,e2,PgK.lies.mono (fun _ _=>trivial) e3⟩
set_option maxHeartbeats 4000000 in
set_option maxRecDepth 100000 in
theorem blanks_law (l:List Int) (lA:Option Addr) (lc:Nat) (hl:l.length≤9223372036854775807) (b:Int) (hb1:-9223372036854775808≤b) (hb2:b≤9223372036854775807) {F:Nat→Prop}(w_0:World) (hv:qG w_0) (hT:TbN w_0) (hL:RdF F lA (qK l) w_0) :
  Calls Tryz.prog 9 #[.slice lA l.length lc,.int .i64 b] w_0 fun e w'=>e=.returned (.bool true)∧Ext w_0 w':=by
 have hml:∀f∈vH l,Sml f:=fun f hf=>(made_sml l f hf).1;have hm4:(vH l).length≤4:=(madeL_len l).2;have hpl:=print_zz hml hm4;obtain⟨hsl,hpar⟩:=blanks_plain l hb1 hb2;obtain⟨T,htT⟩:∃T,rW (xH (vH l))=T:=⟨_,rfl⟩
 have hsN:spN (T.map (·.text))≤6500000000:=by
  have:=rtok_spN _ 0 (xH (vH l)) rfl;rw[← htT];exact Kx this (by omega)
 have hTn:T.length≤1600000001:=by
  obtain⟨m,h1,h2,_⟩:=rtokL_pos (xH (vH l));rw[htT] at h1;omega
 rw[htT] at hsl hpar;obtain⟨sa,hsa⟩:∃sa,spF 0 (T.map (·.text)) b=sa:=⟨_,rfl⟩;rw[hsa] at hsl hpar;refine yW (args:=[.slice lA l.length lc,.int .i64 b]) Tryz.func9 V 38 V (Jn V)<|Z2 0 1 V V<|zD (H':=Hp (fun _=>False) w_0 [] [] (fun _=>True)) (fun u hu=>?_) ?_
 ·subst hu;exact Hp.start0
 refine zY<|zX<|Za V V<|ZX<|zX<|yT .none V  (v:=.bool true) (by kernel_rfl) V (fun w hw=>sanity_any w (hv.ext (Jq hw).ext) (hT.ext (Jq hw).ext)) ?_;refine Za V V<|ZX<|Z4r 0 1 4 5 V V V V<|Zm V V<|wl_callZ .none V  (by kernel_rfl) V (fun w hw=>made_z hl hL (Jq hw).ext) (fun ⟨Ap,cp⟩ v1 hp1 hw1=>?_);refine zC .none V (yL (z:=Jb) (cs:=Jh) (by kernel_rfl) V) (fun b6=>?_);refine ZR 0 V V V V V (by kernel_rfl) ?_;refine ZX<|Z5 0 1 4 5 6 V V V V V<|wc_freeze (fun v2 hw2=>?_);have hb6:=HpG.blk hw2 (k:=0) rfl;have hp2:=(HpG.x hw2).get PgK.lies hp1;refine zX<|ZF V (YF.anti (sE V U32 V (by kernel_rfl)) (fun u h=>(HpG.x h).blk hb6)) ?_;refine yT .none V  (v:=.string ⟨(xH (vH l)).toArray⟩) (by kernel_rfl) V (fun w hw=>rprint_sml hml hm4 _ Ap cp w ((HpG.x hw).get PgK.lies hp2)) ?_;refine wl_callZ .none V  (by kernel_rfl) V (fun w hw=>(rtokens_any (xH (vH l)) (by omega) w).mono (fun e w' (h:∃g cap,_)=>show ∃i:Nat×Nat,e=.returned (.slice (some ⟨i.1,0,none⟩) T.length i.2)∧Ext w w'∧(T.length≤i.2∧RdF (fun _=>True) (some ⟨i.1,0,none⟩) (vE T) w') from let ⟨g,cap,e1,e2,e3,e4⟩:=h;⟨(g,cap),by rw[← htT];exact e1,e3,by rw[← htT];exact e2,by rw[← htT];exact RdF.lies.mono (fun _ _=>trivial) e4⟩)) (fun ⟨g,cap⟩ v3 ⟨hcap,ht3⟩ hw3=>?_);refine Za V V<|ZX<|Z6 0 1 4 5 6 7 V V V V V V<|wc_freeze (fun v4 hw4=>?_);replace hb6:=(HpG.x hw4).blk ((HpG.x hw3).blk hb6);have hp4:=(HpG.x hw4).get PgK.lies ((HpG.x hw3).get PgK.lies hp2);have ht4:=(HpG.x hw4).get RdF.lies ht3;refine zX<|Zm V V<|Zm V V ?_
 refine yT .none V  (v:=.string ⟨sa.toArray⟩) (by kernel_rfl) V (fun w hw=>by
  have h9:=spaced_any T b hb1 hb2 (some ⟨g,0,none⟩) cap (by omega) w ((HpG.x hw).get RdF.lies ht4);rw[hsa] at h9
  exact h9) ?_
 refine ZF rfl (zF rfl rfl (by first|omega|simp<;>omega)) ?_;refine wl_callZ .none V  (by kernel_rfl) V (fun w hw=>parse_s hpar (by rw[Ji,Jj,Jk];omega) (hv.ext (Jq hw).ext)) (fun ⟨Aq,cq⟩ v5 hq5 hw5=>?_);refine Zm V V<|ZF V (xO V V)<|ZF V (xO V V)<|ZF V (xO V V)<|zC .none V (yL (z:=Jb) (cs:=Jh) (by kernel_rfl) V) (fun b8=>?_);refine ZR 0 V V V V V (by kernel_rfl) ?_;refine Za V V<|Za V V<|ZX<|Z8 0 1 4 5 6 7 8 10 V V V V V V V V<|wc_freeze (fun v6 hw6=>?_);have hb8:=HpG.blk hw6 (k:=0) rfl;replace hb6:=(HpG.x hw6).blk ((HpG.x hw5).blk hb6);have hp6:=(HpG.x hw6).get PgK.lies ((HpG.x hw5).get PgK.lies hp4);have hq6:=(HpG.x hw6).get PgK.lies hq5;refine zX<|ZF V (YF.anti (sE V U32 V (by kernel_rfl)) (fun u h=>(HpG.x h).blk hb8)) ?_;refine ZF V (YF.anti (sE V U32 V (by kernel_rfl)) (fun u h=>(HpG.x h).blk hb6)) ?_;refine yT .none V  (v:=.bool true) (by kernel_rfl) V (fun w hw=>(equal_any (vH l) (vH l) _ Aq Ap cq cp w ((HpG.x hw).get PgK.lies hq6) ((HpG.x hw).get PgK.lies hp6)).mono fun _ _ ⟨e1,e2⟩=>⟨by rw[e1,rG rfl],e2⟩) ?_;refine Za V V<|ZX<|Z9r 0 1 4 5 6 7 8 10 11 V V V V V V V V V<|Zm V V<|Zm V V<|zG 31 V (fun g2=>?_) (fun g2=>?_)
 ·refine ZG V V V (zR V)<|ZG V V V (yS V V)<|ZF V (zP V V)<|Zm V V<|zG 35 V (fun g6=>?_) (fun g6=>?_)
  ·replace g6:=Jw g6;refine ZG V V V (zR V)<|ZF V (zP V V)<|Za V V<|ZT<|zK<|zI V V (fun w hw=>?_);exact⟨rfl,(Jq hw).ext⟩
  ·replace g6:=yN g6;exact absurd V g6
 ·cases g2
end Go.Proofs.YtfpkpnkdnammnaaGreatDoor
