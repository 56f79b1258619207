/- The law of Equal. -/
import Derived.Test.YtfpkpnkdnammnaaGreatDoorMgX
import Derived.Test.YtfpkpnkdnammnaaGreatDoorLwZ
import Derived.Test.YtfpkpnkdnammnaaGreatDoorSs1
import Derived.Test.YtfpkpnkdnammnaaGreatDoorMgN
import Derived.Test.YtfpkpnkdnammnaaGreatDoorMgr
import Derived.Test.YtfpkpnkdnammnaaGreatDoorMgb
import Derived.Test.YtfpkpnkdnammnaaGreatDoorMgO
namespace Go.Proofs.YtfpkpnkdnammnaaGreatDoor
open Go.RowKit
theorem hdG_par (l:List Int):∀(n:Nat) (acc:List Fn) (a:Nat),(∀f∈acc,f.params.length≤4)→∀f∈(hdG l n acc a).1,f.params.length≤4
 | 0,_,_,h=>h
 | n+1,acc,a,h=>by
  rw[hdG_step];refine hdG_par l n _ _ fun f hf=>?_;rcases List.mem_append.1 hf with hf|hf
  ·exact h f hf
  ·have:f=⟨fnnL.getD acc.length [],pX.take (if acc.length=0 then 0 else nxV l a 5),[]⟩:=by simpa using hf
   subst this;show (pX.take _).length≤4;rw[List.length_take];exact Nat.min_le_right _ _
theorem bdG_par (l:List Int) (fs:List Fn) (hfs:∀f∈fs,f.params.length≤4):∀(n:Nat) (acc:List Fn) (a:Nat),(∀f∈acc,f.params.length≤4∧f.body.length≤10)→∀f∈(bdG l fs n acc a).1,f.params.length≤4∧f.body.length≤10
 | 0,_,_,h=>h
 | n+1,acc,a,h=>by
  rw[bdG_step];refine bdG_par l fs hfs n _ _ fun f hf=>?_;rcases List.mem_append.1 hf with hf|hf
  ·exact h f hf
  ·have:=List.mem_singleton.1 hf;subst this;refine⟨?_,stsG_len 3 _⟩;show (fs.getD acc.length uV).params.length≤4;rw[List.getD_eq_getElem?_getD]
   cases hi:fs[acc.length]? with
   | none=>exact Nat.zero_le _
   | some g=>exact hfs g (List.mem_of_getElem? hi)
theorem bdG_len (l:List Int) (fs:List Fn):∀(n:Nat) (acc:List Fn) (a:Nat),(bdG l fs n acc a).1.length=acc.length+n
 | 0,_,_=>rfl
 | n+1,acc,a=>by rw[bdG_step,bdG_len l fs n,List.length_append];simp;omega
theorem madeL_len (l:List Int):1≤(vV l).length∧(vV l).length≤4:=by
 have hv4:nxV l 0 4<4:=wD _ _ (by decide);have h:(vV l).length=0+(1+nxV l 0 4):=bdG_len l _ _ [] _;omega
theorem madeL_size (l:List Int):(vV l).length≤1000000∧∀f∈vV l,f.params.length≤1000000∧f.body.length≤1000000 :=
 ⟨Nat.le_trans (madeL_len l).2 (by decide),fun f hf=>by
  have:=bdG_par l _ (hdG_par l (1+nxV l 0 4) [] (nxA l 0) (fun _ h=>by cases h)) (1+nxV l 0 4) [] _ (fun _ h=>by cases h) f hf
  omega⟩
theorem made_z {l:List Int}{lA:Option Addr}{lc:Nat}{F:Nat→Prop}{w_0 w:World}(hl:l.length≤9223372036854775807) (h:RdF F lA (rB l) w_0) (hx:Ext w_0 w):Calls Tryz.prog 19 #[.slice lA l.length lc] w fun e w'=>∃i:Option Addr×Nat,e=.returned (.agg [Value.slice i.1 (vV l).length i.2].toArray)∧Ext w w'∧PgK (fun _=>True) w' (vV l) i.1 i.2 :=
 (made_walk l lA lc hl F w (RdF.lies.ext h hx)).mono fun _ _ ⟨A,cap,e1,e2,e3⟩=>⟨(A,cap),e1,e2,PgK.lies.mono (fun _ _=>trivial) e3⟩
end Go.Proofs.YtfpkpnkdnammnaaGreatDoor
/- How long a source may be. -/
namespace Go.Proofs.YtfpkpnkdnammnaaGreatDoor
theorem wr_z {all:Bool}{k:Nat}{s:Bs}{m:Int}{t:Bs}{n:Nat}(h:t.length+2≤n):(wr all k s m t).length≤n:=by
 unfold wr
 split
 ·simp only[List.length_append,List.length_cons,List.length_nil];omega
 ·omega
mutual
theorem rtx_z (all:Bool):∀(x:Ex),exU x=true→(rtx all x).length+2≤zE x
 | .mk k n s kids,h=>by
  simp only[exU,Bool.and_eq_true,decide_eq_true_eq] at h;have hd:(Lib.decDigits n).length≤10:=dec_len (by omega) (by decide);have h1:=rtxs_z all kids h.2;have h2:=rtxHS_z all kids 0 0 h.2;have h3:=rtxHS_z all kids 8 0 h.2;have h4:=rtxHS_z all kids (uG s) (uG s+1) h.2;have hj:(Lib.join (rtxs all kids) [44,32]).length≤zEs kids:=Nat.le_trans (join_z [44,32] (rtxs all kids)) h1;simp only[rtx,zE]
  by_cases k1:k=1
  ·rw[if_pos k1];omega
  rw[if_neg k1]
  by_cases k2:k=2
  ·rw[if_pos k2];omega
  rw[if_neg k2]
  by_cases k3:k=3
  ·rw[if_pos k3];simp only[List.length_append,List.length_cons,List.length_nil];omega
  rw[if_neg k3]
  by_cases k4:k=4
  ·rw[if_pos k4];simp only[List.length_append,List.length_cons,List.length_nil];omega
  rw[if_neg k4]
  by_cases k5:k=5
  ·rw[if_pos k5];simp only[List.length_cons,List.length_nil];omega
  rw[if_neg k5]
  by_cases k6:k=6
  ·rw[if_pos k6];simp only[List.length_append];omega
  rw[if_neg k6];simp only[List.length_append,List.length_cons,List.length_nil];omega
theorem rtxs_z (all:Bool):∀(l:List Ex),exUs l=true→((rtxs all l).map fun x=>x.length+2).sum≤zEs l
 | [],_=>Nat.le_refl _
 | x::l,h=>by
  simp only[exUs,Bool.and_eq_true] at h;have h1:=wr_z (all:=all) (k:=x.kind) (s:=x.name) (m:=0) (rtx_z all x h.1);have h2:=rtxs_z all l h.2;simp only[rtxs,zEs,List.map_cons,List.sum_cons];omega
theorem rtxHS_z (all:Bool):∀(l:List Ex) (a b:Int),exUs l=true→(rtxH all l a).length+(rtxS all l b).length≤zEs l
 | [],_,_,_=>Nat.le_refl _
 | [x],a,b,h=>by
  simp only[exUs,Bool.and_eq_true] at h;have h1:=wr_z (all:=all) (k:=x.kind) (s:=x.name) (m:=a) (rtx_z all x h.1);simp only[rtxH,rtxS,zEs,List.length_nil];omega
 | x::y::l,a,b,h=>by
  simp only[exUs,Bool.and_eq_true] at h;have h1:=wr_z (all:=all) (k:=x.kind) (s:=x.name) (m:=a) (rtx_z all x h.1);have h2:=wr_z (all:=all) (k:=y.kind) (s:=y.name) (m:=b) (rtx_z all y h.2.1);simp only[rtxH,rtxS,zEs];omega
end
theorem ind_z (d:Nat):(Lib.repeatL [32,32] d:Bs).length=2*d:=by
 rw[Lib.repeatL_length];show d*2=2*d;omega
mutual
theorem rLn_z (all:Bool):∀(d:Nat) (x:St),stU x=true→(rLn all d x).length≤zS d x
 | d,.mk k s es b c,h=>by
  simp only[stU,Bool.and_eq_true] at h;have h2:=rtxHS_z all es 0 0 h.1.1;have hb:=rLs_z all (d+1) b h.1.2;have hc:=rLs_z all (d+1) c h.2;simp only[rLn,zS];rw[List.length_append,ind_z]
  by_cases k1:k=1
  ·rw[if_pos k1];simp only[List.length_append,List.length_cons,List.length_nil];omega
  rw[if_neg k1]
  by_cases k2:k=2
  ·rw[if_pos k2];simp only[List.length_append,List.length_cons,List.length_nil];omega
  rw[if_neg k2]
  by_cases k3:k=3
  ·rw[if_pos k3];simp only[List.length_append,List.length_cons,List.length_nil];omega
  rw[if_neg k3]
  by_cases k4:k=4
  ·rw[if_pos k4];simp only[List.length_append,List.length_cons,List.length_nil,ind_z]
   split
   ·simp only[List.length_append,List.length_cons,List.length_nil,ind_z];omega
   ·simp only[List.length_nil];omega
  rw[if_neg k4]
  by_cases k5:k=5
  ·rw[if_pos k5];simp only[List.length_append,List.length_cons,List.length_nil,ind_z];omega
  rw[if_neg k5]
  by_cases k6:k=6
  ·rw[if_pos k6];simp only[List.length_append,List.length_cons,List.length_nil];omega
  rw[if_neg k6]
  by_cases k7:k=7
  ·rw[if_pos k7];simp only[List.length_append,List.length_cons,List.length_nil];omega
  rw[if_neg k7]
  by_cases k8:k=8
  ·rw[if_pos k8];simp only[List.length_append,List.length_cons,List.length_nil];omega
  rw[if_neg k8];simp only[List.length_nil];omega
theorem rLs_z (all:Bool):∀(d:Nat) (l:List St),stsU l=true→(rLs all d l).length≤zB d l
 | _,[],_=>by simp[rLs]
 | d,x::l,h=>by
  simp only[stsU,Bool.and_eq_true] at h;have h1:=rLn_z all d x h.1;have h2:=rLs_z all d l h.2;simp only[rLs,zB,List.length_append];omega
end
theorem rFn_z (all:Bool) {f:Fn}(h:Sml f):(rFn all f).length≤400000000:=by
 have h1:=rLs_z all 1 f.body h.u;have h2:=h.z;have h3:=h.nm;have hj:=join_z [44,32] f.params
 have hs:∀l:List Bs,(∀x∈l,x.length≤12)→(l.map fun x=>x.length+2).sum≤14*l.length:=by
  intro l
  induction l with
  | nil=>intro _;exact Nat.le_refl _
  | cons x l ih =>
   intro hx;have:=hx x (by simp);have:=ih fun y hy=>hx y (List.mem_cons_of_mem _ hy);simp only[List.map_cons,List.sum_cons,List.length_cons];omega
 have hp:=hs f.params h.pn;have hpr:=h.pr;have hj2:(Lib.join f.params [44,32]).length≤14*f.params.length:=Nat.le_trans hj hp;unfold rFn;simp only[List.length_append,List.length_cons,List.length_nil];omega
theorem rSrc_z (all:Bool) {fs:List Fn}(h:∀f∈fs,Sml f) (hl:fs.length≤4):(qW all fs).length≤1000000000000:=by
 have:∀l:List Fn,(∀f∈l,Sml f)→((l.map (rFn all)).flatten).length≤l.length*400000000:=by
  intro l
  induction l with
  | nil=>intro _;exact Nat.le_refl _
  | cons x l ih =>
   intro hx;have h1:=rFn_z all (hx x (by simp));have h2:=ih fun y hy=>hx y (List.mem_cons_of_mem _ hy);rw[List.map_cons,List.flatten_cons,List.length_append,List.length_cons,Nat.succ_mul];omega
 have h1:=this fs h;unfold qW;omega
end Go.Proofs.YtfpkpnkdnammnaaGreatDoor
/- The law of parentheses. -/
namespace Go.Proofs.YtfpkpnkdnammnaaGreatDoor
open Go.RowKit
/-- Parsing a source: what was printed comes back. -/
theorem parse_z {fs:List Fn}{all:Bool}(hr:vY fs=true) (hu:∀f∈fs,stsU f.body=true) (hl:(qW all fs).length≤16384) {w:World}(hv:qX w):Calls Tryz.prog 25 #[.string ⟨(qW all fs).toArray⟩] w fun e w'=>∃i:Option Addr×Nat,e=.returned (.tuple #[.agg #[.slice i.1 fs.length i.2],.int .i64 0,.int .i64 0])∧Ext w w'∧PgK (fun _=>True) w' fs i.1 i.2 :=
 (rD (qW all fs) (by omega) 100000 (by decide) _ (src_back hr hu hl) w hv).mono fun _ _ ⟨A,cap,e1,e2,e3⟩=>⟨(A,cap),e1,e2,PgK.lies.mono (fun _ _=>trivial) e3⟩
end Go.Proofs.YtfpkpnkdnammnaaGreatDoor
/- The law of Right. -/
namespace Go.Proofs.YtfpkpnkdnammnaaGreatDoor
open Go.RowKit
theorem print_sml {fs:List Fn}(h:∀f∈fs,Sml f) (hl:fs.length≤4) (F:Nat→Prop) (A:Option Addr) (c:Nat) (w:World) (hT:TbN w) (hP:PgK F w fs A c):Calls Tryz.prog 23 #[.agg [Value.slice A fs.length c].toArray] w fun e w'=>e=.returned (.string ⟨(sC fs).toArray⟩)∧Ext w w' :=
 print_any fs F A c w (fun f hf=>(h f hf).u) (fun f hf=>by
  have h1:=(h f hf).pr;have h2:=(h f hf).z;have h3:=stNs_z 1 f.body
  omega) (print_z h hl) hT hP
end Go.Proofs.YtfpkpnkdnammnaaGreatDoor
/- The law of printing and parsing. -/
namespace Go.Proofs.YtfpkpnkdnammnaaGreatDoor
open Go.RowKit
/-- A known block lies outside all that is kept. -/
theorem HpG.outside {G B:Nat→Prop}{w0 v w:World}{L:List (Nat×Obj)}{R:List Rw}{k g:Nat}{o:Obj}(h:HpG G B w0 L R (xF (fun _=>True) v) w) (hk:L[k]? = some (g,o)):v.heap.size≤g:=by
 refine Nat.le_of_not_lt fun hlt=>?_;obtain⟨F,hF,hX⟩:=h.foot;have hg:w.heap[g]? = some o:=h.own _ (List.mem_of_getElem? hk);have hgl:g<w.heap.size:=(Array.getElem?_eq_some_iff.1 hg).1
 obtain⟨o',ho'⟩:∃o':Obj,o'≠o:=by
  by_cases e:o=bk 0 []
  ·exact⟨bk 1 [],fun h=>by rw[e] at h;simp[bk] at h⟩
  ·exact⟨bk 0 [],fun h=>e h.symm⟩
 have hu:=hX { w with heap:=w.heap.set! g o' } fun j hj=>by
  have hne:j≠g:=fun e=>(hF j hj).2.2.1 (List.mem_append_left _ (List.mem_map.2 ⟨_,List.mem_of_getElem? hk,e.symm⟩));show (w.heap.set! g o')[j]? = _;rw[Array.set!_eq_setIfInBounds,Array.getElem?_setIfInBounds_ne hne.symm]
 have h1:=hu g trivial hlt;have h2:=HpG.x h g trivial hlt;rw[← h2,hg] at h1;have h3:(w.heap.set! g o')[g]? = some o':=by rw[Array.set!_eq_setIfInBounds,Array.getElem?_setIfInBounds_self_of_lt hgl]
 have h4:(w.heap.set! g o')[g]? = some o:=h1;rw[h3] at h4;exact ho' (Option.some.inj h4)
/-- A kept block is one's own again. -/
theorem Hp.own {w0 v w:World}{b:Nat}{o:Obj}(h:Hp (fun _=>False) w0 [] [] (xF (fun _=>True) v) w) (hb:Blk b o v) (h0:w0.heap.size≤b):Hp (fun _=>False) w0 [(b,o)] [] (xF (fun k=>k≠b) v) w:=by
 have hs:=HpG.x h;have hbw:Blk b o w:=hs.blk hb;refine⟨h.keep,fun p hp=>?_,fun p hp=>?_,fun _ h=>(by cases h),by simp[wJ],fun _ _=>trivial,fun k=>k≠b∧k<v.heap.size,fun k hk=>⟨?_,id,fun hm=>?_,trivial⟩,fun u hu k hk hv=>?_⟩
 ·cases List.mem_singleton.1 hp;exact hbw
 ·cases List.mem_singleton.1 hp;exact .inl h0
 ·have:=hs k trivial hk.2;rw[Array.getElem?_eq_getElem hk.2] at this;exact (Array.getElem?_eq_some_iff.1 this).1
 ·simp[wJ] at hm;exact hk.1 hm
 ·rw[hu k ⟨hk,hv⟩];exact hs k trivial hv
theorem xF.blkN {v u:World}{b b':Nat}{o:Obj}(h:xF (fun k=>k≠b') v u) (hb:Blk b o v) (hn:b≠b'):Blk b o u:=by
 unfold Blk at hb ⊢;rw[h b hn (Array.getElem?_eq_some_iff.1 hb).1];exact hb
theorem Blk.lt {b:Nat}{o:Obj}{w:World}(h:Blk b o w):b<w.heap.size:=(Array.getElem?_eq_some_iff.1 h).1
set_option maxHeartbeats 4000000 in
set_option maxRecDepth 100000 in
theorem inverts_law (l:List Int) (lA:Option Addr) (lc:Nat) (K n q:Int) (hn1:-9223372036854775808≤n) (hn2:n≤9223372036854775807) (hl:l.length≤9223372036854775807) {F:Nat→Prop}(w_0:World) (hv:qX w_0) (hT:TbN w_0) (hL:RdF F lA (rB l) w_0) :
  Calls Tryz.prog 6 #[.slice lA l.length lc,.agg [Value.int .i64 K,.int .i64 n,.int .i64 q].toArray] w_0 fun e w'=>e=.returned (.bool true)∧Ext w_0 w':=by
 have hml:∀f∈vV l,Sml f:=fun f hf=>(made_sml l f hf).1;have hm4:(vV l).length≤4:=(madeL_len l).2;have hmr:=made_right l;have hxl:=turned_sml l K n q;have hx4':(vN (vV l) K n q).length≤4:=by rw[turnedL_len];exact hm4
 obtain⟨ps,hps⟩:∃ps,ps=if vY (vN (vV l) K n q)=true then vN (vV l) K n q else vV l:=⟨_,rfl⟩;refine yR (args:=[.slice lA l.length lc,.agg [Value.int .i64 K,.int .i64 n,.int .i64 q].toArray]) Tryz.func6 V 57 V (Nat.le_of_ble_eq_true V)<|Z2 0 1 V V<|yY (H':=Hp (fun _=>False) w_0 [] [] (fun _=>True)) (fun u hu=>?_) ?_
 ·subst hu;exact Hp.start0
 refine zY<|zX<|zC .none V (wL V V) (fun b3=>?_);refine Za V V<|ZX<|zX<|yM .none V  (v:=.bool true) (by kernel_rfl) V (fun w hw=>sanity_any w (hv.ext (HpG.keep hw).ext) (hT.ext (HpG.keep hw).ext)) ?_;refine Za V V<|ZX<|Z5r 0 1 3 4 5 V V V V V<|Zm V V<|wl_callZ .none V  (by kernel_rfl) V (fun w hw=>made_z hl hL (HpG.keep hw).ext) (fun ⟨Ap,cp⟩ v1 hp1 hw1=>?_);have hb3:=HpG.blk hw1 (k:=0) rfl;refine zC .none V (yJ (z:=.agg #[.slice none 0 0]) (cs:=[.slice none 0 0]) (by kernel_rfl) V) (fun b6=>?_);refine ZR 0 V V V V V (by kernel_rfl) ?_;refine ZX<|Z6 0 1 3 4 5 6 V V V V V V<|wc_freeze (fun v2 hw2=>?_);have hb6:=HpG.blk hw2 (k:=0) rfl;have h06:=HpG.mineL hw2 (j:=0) rfl id;have ho6:=HpG.outside hw2 (k:=0) rfl;replace hb3:=(HpG.x hw2).blk hb3;have hp2:PgK (fun k=>k≠b6) v2 (vV l) Ap cp:=PgK.lies.mono (fun k hk e=>by have:=hk.2;omega) (PgK.lies.foot (F:=fun k=>True∧k<v1.heap.size) (w:=v1) (fun k hk=>HpG.x hw2 k trivial hk.2) (PgK.lies.lt hp1));refine zX<|ZF V (YF.anti (vW V U32 V (by kernel_rfl)) (fun u h=>(HpG.x h).blk hb6)) ?_;refine ZF V (YF.anti (vW V U37 V (by kernel_rfl)) (fun u h=>(HpG.x h).blk hb3)) ?_;refine wl_callZ (val:=fun (i:Option Addr×Nat)=>.agg [Value.slice i.1 (vN (vV l) K n q).length i.2].toArray) (Φ:=fun (i:Option Addr×Nat) w'=>PgK (fun k=>k≠b6) w' (vN (vV l) K n q) i.1 i.2) .none V  (by kernel_rfl) V (fun w hw=>(turned_any (vV l) K n q hn1 hn2 (fun k=>k≠b6) Ap cp w (PgK.lies.foot (F:=fun k=>k≠b6∧k<v2.heap.size) (fun k hk=>HpG.x hw k trivial hk.2) (PgK.lies.lt hp2) |> PgK.lies.mono (fun _ h=>h.1)) (madeL_size l).1 (madeL_size l).2).mono fun _ _ ⟨A,cap,e1,e2,e3⟩=>⟨(A,cap),e1,e2,PgK.lies.mono (fun k hk=>hk.elim id (fun h e=>by have:=((HpG.x hw).blk hb6).lt;omega)) e3⟩) (fun ⟨Ax,cx⟩ v3 hx3 hw3=>?_);refine zC .none V (yJ (z:=.agg #[.slice none 0 0]) (cs:=[.slice none 0 0]) (by kernel_rfl) V) (fun b7=>?_);refine ZR 0 V V V V V (by kernel_rfl) ?_;refine ZX<|Z7 0 1 3 4 5 6 7 V V V V V V V<|wc_freeze (fun v4 hw4=>?_);have hb7:=HpG.blk hw4 (k:=0) rfl;have ho7:=HpG.outside hw4 (k:=0) rfl;have hb63:=(HpG.x hw3).blk hb6;have h67:b7≠b6:=fun e=>by have:=hb63.lt;omega
 have hb64:=(HpG.x hw4).blk hb63;have hp4:PgK (fun k=>k≠b6) v4 (vV l) Ap cp:=PgK.lies.mono (fun _ h=>h.1) (PgK.lies.foot (F:=fun k=>k≠b6∧k<v3.heap.size) (fun k hk=>HpG.x hw4 k trivial hk.2) (PgK.lies.lt (PgK.lies.mono (fun _ h=>h.1) (PgK.lies.foot (F:=fun k=>k≠b6∧k<v2.heap.size) (fun k hk=>HpG.x hw3 k trivial hk.2) (PgK.lies.lt hp2)))));have hx4:PgK (fun k=>k≠b6) v4 (vN (vV l) K n q) Ax cx:=PgK.lies.mono (fun _ h=>h.1) (PgK.lies.foot (F:=fun k=>k≠b6∧k<v3.heap.size) (fun k hk=>HpG.x hw4 k trivial hk.2) (PgK.lies.lt hx3));refine zX<|ZF V (YF.anti (vW V U32 V (by kernel_rfl)) (fun u h=>(HpG.x h).blk hb7)) ?_;refine yM .none V  (v:=.bool (vY (vN (vV l) K n q))) (by kernel_rfl) V (fun w hw=>rright_any (vN (vV l) K n q) _ Ax cx w ((HpG.x hw).get PgK.lies (PgK.lies.mono (fun _ _=>trivial) hx4))) ?_;refine Za V V<|ZT<|wQ (ι:={i:Option Addr×Nat // PgK (fun k=>k≠b6) v4 ps i.1 i.2}) (fun _=>[(5,.bool true),(6,.pointer (some ⟨b6,0,none⟩))]) (fun i=>Hp (fun _=>False) w_0 [(b6,bk 32 [.slice i.1.1 ps.length i.1.2])] [] (xF (fun k=>k≠b6) v4)) ?_ (fun i=>?_)
 ·refine zY<|Z8 0 1 3 4 5 6 7 8 V V V V V V V V<|yY (H':=Hp (fun _=>False) w_0 [(b6,bk 32 [.slice Ap (vV l).length cp])] [] (xF (fun k=>k≠b6) v4)) (fun w h=>Hp.own h hb64 h06) ?_;refine zX<|Zm V V<|ZT<|zN V (fun h22=>?_) (fun h22=>?_)
  ·have hpx:ps=vN (vV l) K n q:=by rw[hps,if_pos h22]
   rw[hpx];refine zX<|ZF V (yB (cs:=[Value.slice Ax (vN (vV l) K n q).length cx]) V U32 V (by kernel_rfl) (fun w h j v hv=>by rw[Nat.zero_add,cell_of_row w b7 j _ _ _ ((HpG.x h).blkN hb7 h67),List.getElem?_toArray];exact hv)) ?_;refine ZR 0 V V V V V (by kernel_rfl) ?_;refine zW<|yT (ι:={i:Option Addr×Nat // PgK (fun k=>k≠b6) v4 (vN (vV l) K n q) i.1 i.2}) ⟨(Ax,cx),hx4⟩ (O2 V V) (fun w h=>h)
  ·have hpx:ps=vV l:=by rw[hps,if_neg (by rw[h22];simp)]
   rw[hpx];refine yZ<|yT (ι:={i:Option Addr×Nat // PgK (fun k=>k≠b6) v4 (vV l) i.1 i.2}) ⟨(Ap,cp),hp4⟩ (O2 V V) (fun w h=>h)
 ·obtain⟨⟨A,c⟩,hP⟩:=i;dsimp only at hP ⊢
  have hpr:vY ps=true:=by
   rw[hps]
   split
   ·assumption
   ·exact hmr
  have hps4:ps.length≤4:=by
   rw[hps]
   split
   ·exact hx4'
   ·exact hm4
  have hpsl:∀f∈ps,Sml f:=by
   rw[hps]
   split
   ·exact hxl
   ·exact hml
  have hpu:∀f∈ps,stsU f.body=true:=fun f hf=>(hpsl f hf).u;have hpz:=rSrc_z false hpsl hps4;have hpe:=rSrc_eq hpr;clear hps;refine wc_freeze (fun v5 hw5=>?_);have hb65:=HpG.blk hw5 (k:=0) rfl;have hP5:PgK (fun _=>True) v5 ps A c:=PgK.lies.mono (fun _ _=>trivial) (PgK.lies.foot (F:=fun k=>k≠b6∧k<v4.heap.size) (fun k hk=>HpG.x hw5 k hk.1 hk.2) (PgK.lies.lt hP));refine zY<|zX<|ZF V (YF.anti (vW V U32 V (by kernel_rfl)) (fun u h=>(HpG.x h).blk hb65)) ?_;refine yM .none V  (v:=.string ⟨(qW false ps).toArray⟩) (by kernel_rfl) V (fun w hw=>by rw[hpe];exact print_sml hpsl hps4 _ A c w (hT.ext (HpG.keep hw).ext) ((HpG.x hw).get PgK.lies hP5)) ?_;refine Za V V<|ZX<|zY<|Z3r 5 6 9 V V V<|Zm V V<|ZF V (uC V U9)<|ZF V (wF V V)<|ZT<|zN V (fun hc=>?_) (fun hc=>?_)
  ·replace hc:=of_decide_eq_true hc;refine zY<|Z4r 5 6 9 28 V V V V<|Zm V V<|Za V V<|ZT<|zI<|zU<|zD V V (fun w hw=>?_);exact⟨rfl,(HpG.keep hw).ext⟩
  ·replace hc:=of_decide_eq_false hc;refine yZ<|zM<|zY<|Z4r 5 6 9 28 V V V V<|Zm V V<|wl_callZ .none V  (by kernel_rfl) V (fun w hw=>parse_z (all:=false) hpr hpu (by omega) (hv.ext (HpG.keep hw).ext)) (fun ⟨Aq,cq⟩ v6 hq6 hw6=>?_);refine Zm V V<|ZF V (xK V V)<|ZF V (xK V V)<|ZF V (xK V V)<|zC .none V (yJ (z:=.agg #[.slice none 0 0]) (cs:=[.slice none 0 0]) (by kernel_rfl) V) (fun b10=>?_);refine ZR 0 V V V V V (by kernel_rfl) ?_;refine Za V V<|Za V V<|ZX<|Z7 5 6 9 10 11 12 28 V V V V V V V<|wc_freeze (fun v7 hw7=>?_);have hb10:=HpG.blk hw7 (k:=0) rfl;have hb67:=(HpG.x hw7).blk ((HpG.x hw6).blk hb65);have hP7:=(HpG.x hw7).get PgK.lies ((HpG.x hw6).get PgK.lies hP5);have hq7:=(HpG.x hw7).get PgK.lies hq6;refine zX<|ZF V (YF.anti (vW V U32 V (by kernel_rfl)) (fun u h=>(HpG.x h).blk hb10)) ?_;refine ZF V (YF.anti (vW V U32 V (by kernel_rfl)) (fun u h=>(HpG.x h).blk hb67)) ?_;refine yM .none V  (v:=.bool true) (by kernel_rfl) V (fun w hw=>(equal_any ps ps _ Aq A cq c w ((HpG.x hw).get PgK.lies hq7) ((HpG.x hw).get PgK.lies hP7)).mono fun _ _ ⟨e1,e2⟩=>⟨by rw[e1,rY rfl],e2⟩) ?_;refine Za V V<|ZX<|Z8r 5 6 9 10 11 12 13 28 V V V V V V V V<|Zm V V<|Zm V V<|zA 40 V (fun g2=>?_) (fun g2=>?_)
   ·refine ZG V V V (zP V)<|ZG V V V (yN V V)<|ZF V (zO V V)<|Zm V V<|zA 44 V (fun g6=>?_) (fun g6=>?_)
    ·replace g6:=eq_of_beq g6;refine ZG V V V (zP V)<|ZG V V V (yN V V)<|ZF V (zO V V)<|Zm V V<|zA 48 V (fun g10=>?_) (fun g10=>?_)
     ·replace g10:=eq_of_beq g10;refine ZG V V V (zP V)<|ZF V (zO V V)<|Zm V V<|zA 51 V (fun g13=>?_) (fun g13=>?_)
      ·refine ZG V V V (YF.anti (vW V U32 V (by kernel_rfl)) (fun u h=>(HpG.x h).blk hb10)) ?_;refine yM (.some V V) V  (v:=.string ⟨(qW false ps).toArray⟩) (by kernel_rfl) V (fun w hw=>by rw[hpe];exact print_sml hpsl hps4 _ Aq cq w (hT.ext (HpG.keep hw).ext) ((HpG.x hw).get PgK.lies hq7)) ?_;refine ZG V V V (zP V)<|ZG V V V (xM V V U9)<|ZF V (zO V V)<|Za V V<|ZT<|zI<|zD V V (fun w hw=>?_);exact⟨by simp,(HpG.keep hw).ext⟩
      ·cases g13
     ·replace g10:=yI g10;exact absurd V g10
    ·replace g6:=yI g6;exact absurd V g6
   ·cases g2
end Go.Proofs.YtfpkpnkdnammnaaGreatDoor
