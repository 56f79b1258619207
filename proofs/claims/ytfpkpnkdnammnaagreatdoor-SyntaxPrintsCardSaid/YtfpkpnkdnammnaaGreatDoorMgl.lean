/- The law of Equal. -/
import Derived.Test.YtfpkpnkdnammnaaGreatDoorMgX
import Derived.Test.YtfpkpnkdnammnaaGreatDoorLwZ
import Derived.Test.YtfpkpnkdnammnaaGreatDoorSs1
import Derived.Test.YtfpkpnkdnammnaaGreatDoorMgO
import Derived.Test.YtfpkpnkdnammnaaGreatDoorMgN
import Derived.Test.YtfpkpnkdnammnaaGreatDoorMgr
namespace Go.Proofs.YtfpkpnkdnammnaaGreatDoor
open Go.RowKit
theorem hdG_par (l:List Int):∀(n:Nat) (acc:List Fn) (a:Nat),(∀f∈acc,f.params.length≤4)→∀f∈(hdG l n acc a).1,f.params.length≤4
 | 0,_,_,h=>h
 | n+1,acc,a,h=>by
  rw[hdG_step];refine hdG_par l n _ _ fun f hf=>?_;rcases List.mem_append.1 hf with hf|hf
  ·exact h f hf
  ·have:f=⟨fnnL.getD acc.length [],rB.take (if acc.length=0 then 0 else nxV l a 5),[]⟩:=by simpa using hf
   subst this;show (rB.take _).length≤4;rw[List.length_take];exact Nat.min_le_right _ _
theorem bdG_par (l:List Int) (fs:List Fn) (hfs:∀f∈fs,f.params.length≤4):∀(n:Nat) (acc:List Fn) (a:Nat),(∀f∈acc,f.params.length≤4∧f.body.length≤10)→∀f∈(bdG l fs n acc a).1,f.params.length≤4∧f.body.length≤10
 | 0,_,_,h=>h
 | n+1,acc,a,h=>by
  rw[bdG_step];refine bdG_par l fs hfs n _ _ fun f hf=>?_;rcases List.mem_append.1 hf with hf|hf
  ·exact h f hf
  ·have:=List.mem_singleton.1 hf;subst this;refine⟨?_,stsG_len 3 _⟩;show (fs.getD acc.length uX).params.length≤4;rw[List.getD_eq_getElem?_getD]
   cases hi:fs[acc.length]? with
   | none=>exact Nat.zero_le _
   | some g=>exact hfs g (List.mem_of_getElem? hi)
theorem bdG_len (l:List Int) (fs:List Fn):∀(n:Nat) (acc:List Fn) (a:Nat),(bdG l fs n acc a).1.length=acc.length+n
 | 0,_,_=>rfl
 | n+1,acc,a=>by rw[bdG_step,bdG_len l fs n,List.length_append];simp;omega
theorem madeL_len (l:List Int):1≤(uO l).length∧(uO l).length≤4:=by
 have hv4:nxV l 0 4<4:=wF _ _ (by decide);have h:(uO l).length=0+(1+nxV l 0 4):=bdG_len l _ _ [] _;omega
theorem madeL_size (l:List Int):(uO l).length≤1000000∧∀f∈uO l,f.params.length≤1000000∧f.body.length≤1000000 :=
 ⟨Nat.le_trans (madeL_len l).2 (by decide),fun f hf=>by
  have:=bdG_par l _ (hdG_par l (1+nxV l 0 4) [] (nxA l 0) (fun _ h=>by cases h)) (1+nxV l 0 4) [] _ (fun _ h=>by cases h) f hf
  omega⟩
theorem made_z {l:List Int} {lA:Option Addr} {lc:Nat} {F:Nat→Prop} {w_0 w:World} (hl:l.length≤9223372036854775807) (h:RdF F lA (sF l) w_0) (hx:Ext w_0 w):Calls Tryz.prog 19 #[.slice lA l.length lc] w fun e w'=>∃i:Option Addr×Nat,e=.returned (.agg [Value.slice i.1 (uO l).length i.2].toArray)∧Ext w w'∧PgK (fun _=>True) w' (uO l) i.1 i.2 :=
 (made_walk l lA lc hl F w (RdF.lies.ext h hx)).mono fun _ _ ⟨A,cap,e1,e2,e3⟩=>⟨(A,cap),e1,e2,PgK.lies.mono (fun _ _=>trivial) e3⟩
theorem turned_z {fs:List Fn} {K n q:Int} (hn1:-9223372036854775808≤n) (hn2:n≤9223372036854775807) {A:Option Addr} {c:Nat} {v w:World} (h:PgK (fun _=>True) v fs A c) (hs:xE (fun _=>True) v w) (hz:fs.length≤1000000∧∀f∈fs,f.params.length≤1000000∧f.body.length≤1000000):Calls Tryz.prog 22 #[.agg [Value.slice A fs.length c].toArray,.agg [Value.int .i64 K,.int .i64 n,.int .i64 q].toArray] w fun e w'=>∃i:Option Addr×Nat,e=.returned (.agg [Value.slice i.1 (uP fs K n q).length i.2].toArray)∧Ext w w'∧PgK (fun _=>True) w' (uP fs K n q) i.1 i.2 :=
 (turned_any fs K n q hn1 hn2 _ A c w (hs.get PgK.lies h) hz.1 hz.2).mono fun _ _ ⟨A,cap,e1,e2,e3⟩=>⟨(A,cap),e1,e2,PgK.lies.mono (fun _ _=>trivial) e3⟩
end Go.Proofs.YtfpkpnkdnammnaaGreatDoor
/- The law of Right. -/
namespace Go.Proofs.YtfpkpnkdnammnaaGreatDoor
open Go.RowKit
theorem print_sml {fs:List Fn} (h:∀f∈fs,Sml f) (hl:fs.length≤4) (F:Nat→Prop) (A:Option Addr) (c:Nat) (w:World) (hT:TbN w) (hP:PgK F w fs A c):Calls Tryz.prog 23 #[.agg [Value.slice A fs.length c].toArray] w fun e w'=>e=.returned (.string ⟨(vM fs).toArray⟩)∧Ext w w' :=
 print_any fs F A c w (fun f hf=>(h f hf).u) (fun f hf=>by
  have h1:=(h f hf).pr;have h2:=(h f hf).z;have h3:=stNs_z 1 f.body
  omega) (print_z h hl) hT hP
end Go.Proofs.YtfpkpnkdnammnaaGreatDoor
/- The law of Print. -/
namespace Go.Proofs.YtfpkpnkdnammnaaGreatDoor
open Go.RowKit
theorem rprint_sml {fs:List Fn} (h:∀f∈fs,Sml f) (hl:fs.length≤4) (F:Nat→Prop) (A:Option Addr) (c:Nat) (w:World) (hP:PgK F w fs A c):Calls Tryz.prog 18 #[.agg [Value.slice A fs.length c].toArray] w fun e w'=>e=.returned (.string ⟨(vM fs).toArray⟩)∧Ext w w' :=
 rprint_any fs F A c w (fun f hf=>(h f hf).u) (fun f hf=>by
  have h2:=(h f hf).z;have h3:=stNs_z 1 f.body
  omega) (print_z h hl) hP
set_option maxHeartbeats 4000000 in
set_option maxRecDepth 100000 in
theorem prints_law (l:List Int) (lA:Option Addr) (lc:Nat) (K n q:Int) (hn1:-9223372036854775808≤n) (hn2:n≤9223372036854775807) (hl:l.length≤9223372036854775807) {F:Nat→Prop} (w_0:World) (hv:sA w_0) (hT:TbN w_0) (hL:RdF F lA (sF l) w_0) :
  Calls Tryz.prog 5 #[.slice lA l.length lc,.agg [Value.int .i64 K,.int .i64 n,.int .i64 q].toArray] w_0 fun e w'=>e=.returned (.bool true)∧Ext w_0 w':=by
 have hml:∀f∈uO l,Sml f:=fun f hf=>(made_sml l f hf).1;have hm4:(uO l).length≤4:=(madeL_len l).2;have hl4:(uP (uO l) K n q).length≤4:=by rw[turnedL_len];exact hm4
 refine yS (args:=[.slice lA l.length lc,.agg [Value.int .i64 K,.int .i64 n,.int .i64 q].toArray]) Tryz.func5 V 29 V (Nat.le_of_ble_eq_true V)<|Z2 0 1 V V<|yX (H':=Hp (fun _=>False) w_0 [] [] (fun _=>True)) (fun u hu=>?_) ?_
 ·subst hu;exact Hp.start0
 refine zY<|zX<|zD .none V (wR V V) (fun b3=>?_);refine Za V V<|ZX<|zX<|yO .none V  (v:=.bool true) (by kernel_rfl) V (fun w hw=>sanity_any w (hv.ext (HpG.keep hw).ext) (hT.ext (HpG.keep hw).ext)) ?_;refine Za V V<|ZX<|Z5r 0 1 3 4 5 V V V V V<|Zm V V<|wl_callZ .none V  (by kernel_rfl) V (fun w hw=>made_z hl hL (HpG.keep hw).ext) (fun ⟨Ap,cp⟩ v1 hp1 hw1=>?_);have hb3:=HpG.blk hw1 (k:=0) rfl;refine zD .none V (yJ (z:=.agg #[.slice none 0 0]) (cs:=[.slice none 0 0]) (by kernel_rfl) V) (fun b6=>?_);refine ZR 0 V V V V V (by kernel_rfl) ?_;refine ZX<|Z6 0 1 3 4 5 6 V V V V V V<|wc_freeze (fun v2 hw2=>?_);have hb6:=HpG.blk hw2 (k:=0) rfl;replace hb3:=(HpG.x hw2).blk hb3;have hp2:=(HpG.x hw2).get PgK.lies hp1;refine zX<|ZF V (YF.anti (vY V Tryz.underlying32 V (by kernel_rfl)) (fun u h=>(HpG.x h).blk hb6)) ?_;refine ZF V (YF.anti (vY V Tryz.underlying37 V (by kernel_rfl)) (fun u h=>(HpG.x h).blk hb3)) ?_;refine wl_callZ .none V  (by kernel_rfl) V (fun w hw=>turned_z hn1 hn2 hp2 (HpG.x hw) (madeL_size l)) (fun ⟨Ax,cx⟩ v3 hx3 hw3=>?_);refine zD .none V (yJ (z:=.agg #[.slice none 0 0]) (cs:=[.slice none 0 0]) (by kernel_rfl) V) (fun b7=>?_);refine ZR 0 V V V V V (by kernel_rfl) ?_;refine ZX<|Z7 0 1 3 4 5 6 7 V V V V V V V<|wc_freeze (fun v4 hw4=>?_);have hb7:=HpG.blk hw4 (k:=0) rfl;replace hb6:=(HpG.x hw4).blk ((HpG.x hw3).blk hb6);have hp4:=(HpG.x hw4).get PgK.lies ((HpG.x hw3).get PgK.lies hp2);have hx4:=(HpG.x hw4).get PgK.lies hx3;refine wc_drawN [0,1,2,3,4,5,6,7,8,9,10,11,12,13,14,15] (xE (fun _=>True) v4) (by kernel_rfl) (by kernel_rfl) xE.stab (fun w h=>HpG.x h) (fun n0 hn0=>?_);refine Zd V V V (zK V)<|Zd V V V (zK V)<|wd_split 15 V (fun g2=>?_) (fun g2=>?_)
 ·refine yI V ?_;(refine yE ?_ (.some rfl rfl) rfl (YF.anti (vY rfl Tryz.underlying32 rfl (by kernel_rfl)) (fun u h=>h.blk hb6)) ?_;(· rfl);skip);refine yI V<|vP (.some V V) V  (v:=.string ⟨(vM (uO l)).toArray⟩) (by kernel_rfl) V (fun w w' h hx=>h.ext hx) (fun w hw=>print_sml hml hm4 _ Ap cp w (hT.ext (HpG.keep hw).ext) ((HpG.x hw).get PgK.lies hp4)) ?_;refine yI V ?_;(refine yE ?_ (.some rfl rfl) rfl (YF.anti (vY rfl Tryz.underlying32 rfl (by kernel_rfl)) (fun u h=>h.blk hb6)) ?_;(· rfl);skip);refine yI V<|vP (.some V V) V  (v:=.string ⟨(vM (uO l)).toArray⟩) (by kernel_rfl) V (fun w w' h hx=>h.ext hx) (fun w hw=>rprint_sml hml hm4 _ Ap cp w ((HpG.x hw).get PgK.lies hp4)) ?_;refine yI V ?_;(refine yE ?_ (.some rfl rfl) rfl (xN rfl rfl Tryz.underlying9) ?_;(· rfl);skip);refine Zd V V V (zM V V)<|Zd V V V (zK V)<|wd_split 22 V (fun g9=>?_) (fun g9=>?_)
  ·refine yI V ?_;(refine yE ?_ (.some rfl rfl) rfl (YF.anti (vY rfl Tryz.underlying32 rfl (by kernel_rfl)) (fun u h=>h.blk hb7)) ?_;(· rfl);skip);refine yI V<|vP (.some V V) V  (v:=.string ⟨(vM (uP (uO l) K n q)).toArray⟩) (by kernel_rfl) V (fun w w' h hx=>h.ext hx) (fun w hw=>print_sml (turned_sml l K n q) hl4 _ Ax cx w (hT.ext (HpG.keep hw).ext) ((HpG.x hw).get PgK.lies hx4)) ?_;refine yI V ?_;(refine yE ?_ (.some rfl rfl) rfl (YF.anti (vY rfl Tryz.underlying32 rfl (by kernel_rfl)) (fun u h=>h.blk hb7)) ?_;(· rfl);skip);refine yI V<|vP (.some V V) V  (v:=.string ⟨(vM (uP (uO l) K n q)).toArray⟩) (by kernel_rfl) V (fun w w' h hx=>h.ext hx) (fun w hw=>rprint_sml (turned_sml l K n q) hl4 _ Ax cx w ((HpG.x hw).get PgK.lies hx4)) ?_;refine yI V ?_;(refine yE ?_ (.some rfl rfl) rfl (xN rfl rfl Tryz.underlying9) ?_;(· rfl);skip);refine Zd V V V (zM V V)<|Zd V V V (vL V)<|wd_endH<|zO<|zH<|zA V V (fun w hw=>?_);exact⟨by simp,(HpG.keep hw).ext⟩
  ·exact absurd g9 (by simp)
 ·cases g2
end Go.Proofs.YtfpkpnkdnammnaaGreatDoor
