/- The law of Equal. -/
import Derived.Test.YtfpkpnkdnammnaaGreatDoorMgX
import Derived.Test.YtfpkpnkdnammnaaGreatDoorLwZ
import Derived.Test.YtfpkpnkdnammnaaGreatDoorSs1
import Derived.Test.YtfpkpnkdnammnaaGreatDoorMgN
import Derived.Test.YtfpkpnkdnammnaaGreatDoorMgr
import Derived.Test.YtfpkpnkdnammnaaGreatDoorMgb
namespace Go.Proofs.YtfpkpnkdnammnaaGreatDoor
open Go.RowKit
theorem bdG_len (l:List Int) (fs:List Fn):∀(n:Nat) (acc:List Fn) (a:Nat),(bdG l fs n acc a).1.length=acc.length+n
 | 0,_,_=>rfl
 | n+1,acc,a=>by rw[bdG_step,bdG_len l fs n,List.length_append];simp;omega
theorem madeL_len (l:List Int):1≤(tI l).length∧(tI l).length≤4:=by
 have hv4:nxV l 0 4<4:=wS _ _ (by decide);have h:(tI l).length=0+(1+nxV l 0 4):=bdG_len l _ _ [] _;omega
theorem made_z {l:List Int}{lA:Option Addr}{lc:Nat}{F:Nat→Prop}{w_0 w:World}(hl:l.length≤9223372036854775807) (h:RdF F lA (sA l) w_0) (hx:Ext w_0 w):Calls Tryz.prog 19 #[.slice lA l.length lc] w fun e w'=>∃i:Option Addr×Nat,e=.returned (.agg [Value.slice i.1 (tI l).length i.2].toArray)∧Ext w w'∧PgK (fun _=>True) w' (tI l) i.1 i.2 :=
 (made_walk l lA lc hl F w (RdF.lies.ext h hx)).mono fun _ _ ⟨A,cap,e1,e2,e3⟩=>⟨(A,cap),e1,e2,PgK.lies.mono (fun _ _=>trivial) e3⟩
end Go.Proofs.YtfpkpnkdnammnaaGreatDoor
/- How long a source may be. -/
namespace Go.Proofs.YtfpkpnkdnammnaaGreatDoor
theorem wr_z {all:Bool}{k:Nat}{s:Bs}{m:Int}{t:Bs}{n:Nat}(h:t.length+2≤n):(wr all k s m t).length≤n:=by
 unfold wr
 split
 ·simp only[List.length_append,List.length_cons,List.length_nil];omega
 ·omega
mutual
theorem rtx_z (all:Bool):∀(x:Ex),exU x=true→(rtx all x).length+2≤zE x
 | .mk k n s kids,h=>by
  simp only[exU,Bool.and_eq_true,decide_eq_true_eq] at h;have hd:(Lib.decDigits n).length≤10:=dec_len (by omega) (by decide);have h1:=rtxs_z all kids h.2;have h2:=rtxHS_z all kids 0 0 h.2;have h3:=rtxHS_z all kids 8 0 h.2;have h4:=rtxHS_z all kids (wG s) (wG s+1) h.2;have hj:(Lib.join (rtxs all kids) [44,32]).length≤zEs kids:=Nat.le_trans (join_z [44,32] (rtxs all kids)) h1;simp only[rtx,zE]
  by_cases k1:k=1
  ·rw[if_pos k1];omega
  rw[if_neg k1]
  by_cases k2:k=2
  ·rw[if_pos k2];omega
  rw[if_neg k2]
  by_cases k3:k=3
  ·rw[if_pos k3];simp only[List.length_append,List.length_cons,List.length_nil];omega
  rw[if_neg k3]
  by_cases k4:k=4
  ·rw[if_pos k4];simp only[List.length_append,List.length_cons,List.length_nil];omega
  rw[if_neg k4]
  by_cases k5:k=5
  ·rw[if_pos k5];simp only[List.length_cons,List.length_nil];omega
  rw[if_neg k5]
  by_cases k6:k=6
  ·rw[if_pos k6];simp only[List.length_append];omega
  rw[if_neg k6];simp only[List.length_append,List.length_cons,List.length_nil];omega
theorem rtxs_z (all:Bool):∀(l:List Ex),exUs l=true→((rtxs all l).map fun x=>x.length+2).sum≤zEs l
 | [],_=>Nat.le_refl _
 | x::l,h=>by
  simp only[exUs,Bool.and_eq_true] at h;have h1:=wr_z (all:=all) (k:=x.kind) (s:=x.name) (m:=0) (rtx_z all x h.1);have h2:=rtxs_z all l h.2;simp only[rtxs,zEs,List.map_cons,List.sum_cons];omega
theorem rtxHS_z (all:Bool):∀(l:List Ex) (a b:Int),exUs l=true→(rtxH all l a).length+(rtxS all l b).length≤zEs l
 | [],_,_,_=>Nat.le_refl _
 | [x],a,b,h=>by
  simp only[exUs,Bool.and_eq_true] at h;have h1:=wr_z (all:=all) (k:=x.kind) (s:=x.name) (m:=a) (rtx_z all x h.1);simp only[rtxH,rtxS,zEs,List.length_nil];omega
 | x::y::l,a,b,h=>by
  simp only[exUs,Bool.and_eq_true] at h;have h1:=wr_z (all:=all) (k:=x.kind) (s:=x.name) (m:=a) (rtx_z all x h.1);have h2:=wr_z (all:=all) (k:=y.kind) (s:=y.name) (m:=b) (rtx_z all y h.2.1);simp only[rtxH,rtxS,zEs];omega
end
theorem ind_z (d:Nat):(Lib.repeatL [32,32] d:Bs).length=2*d:=by
 rw[Lib.repeatL_length];show d*2=2*d;omega
mutual
theorem rLn_z (all:Bool):∀(d:Nat) (x:St),stU x=true→(rLn all d x).length≤zS d x
 | d,.mk k s es b c,h=>by
  simp only[stU,Bool.and_eq_true] at h;have h2:=rtxHS_z all es 0 0 h.1.1;have hb:=rLs_z all (d+1) b h.1.2;have hc:=rLs_z all (d+1) c h.2;simp only[rLn,zS];rw[List.length_append,ind_z]
  by_cases k1:k=1
  ·rw[if_pos k1];simp only[List.length_append,List.length_cons,List.length_nil];omega
  rw[if_neg k1]
  by_cases k2:k=2
  ·rw[if_pos k2];simp only[List.length_append,List.length_cons,List.length_nil];omega
  rw[if_neg k2]
  by_cases k3:k=3
  ·rw[if_pos k3];simp only[List.length_append,List.length_cons,List.length_nil];omega
  rw[if_neg k3]
  by_cases k4:k=4
  ·rw[if_pos k4];simp only[List.length_append,List.length_cons,List.length_nil,ind_z]
   split
   ·simp only[List.length_append,List.length_cons,List.length_nil,ind_z];omega
   ·simp only[List.length_nil];omega
  rw[if_neg k4]
  by_cases k5:k=5
  ·rw[if_pos k5];simp only[List.length_append,List.length_cons,List.length_nil,ind_z];omega
  rw[if_neg k5]
  by_cases k6:k=6
  ·rw[if_pos k6];simp only[List.length_append,List.length_cons,List.length_nil];omega
  rw[if_neg k6]
  by_cases k7:k=7
  ·rw[if_pos k7];simp only[List.length_append,List.length_cons,List.length_nil];omega
  rw[if_neg k7]
  by_cases k8:k=8
  ·rw[if_pos k8];simp only[List.length_append,List.length_cons,List.length_nil];omega
  rw[if_neg k8];simp only[List.length_nil];omega
theorem rLs_z (all:Bool):∀(d:Nat) (l:List St),stsU l=true→(rLs all d l).length≤zB d l
 | _,[],_=>by simp[rLs]
 | d,x::l,h=>by
  simp only[stsU,Bool.and_eq_true] at h;have h1:=rLn_z all d x h.1;have h2:=rLs_z all d l h.2;simp only[rLs,zB,List.length_append];omega
end
theorem rFn_z (all:Bool) {f:Fn}(h:Sml f):(rFn all f).length≤400000000:=by
 have h1:=rLs_z all 1 f.body h.u;have h2:=h.z;have h3:=h.nm;have hj:=join_z [44,32] f.params
 have hs:∀l:List Bs,(∀x∈l,x.length≤12)→(l.map fun x=>x.length+2).sum≤14*l.length:=by
  intro l
  induction l with
  | nil=>intro _;exact Nat.le_refl _
  | cons x l ih =>
   intro hx;have:=hx x (by simp);have:=ih fun y hy=>hx y (List.mem_cons_of_mem _ hy);simp only[List.map_cons,List.sum_cons,List.length_cons];omega
 have hp:=hs f.params h.pn;have hpr:=h.pr;have hj2:(Lib.join f.params [44,32]).length≤14*f.params.length:=Nat.le_trans hj hp;unfold rFn;simp only[List.length_append,List.length_cons,List.length_nil];omega
theorem rSrc_z (all:Bool) {fs:List Fn}(h:∀f∈fs,Sml f) (hl:fs.length≤4):(tA all fs).length≤1000000000000:=by
 have:∀l:List Fn,(∀f∈l,Sml f)→((l.map (rFn all)).flatten).length≤l.length*400000000:=by
  intro l
  induction l with
  | nil=>intro _;exact Nat.le_refl _
  | cons x l ih =>
   intro hx;have h1:=rFn_z all (hx x (by simp));have h2:=ih fun y hy=>hx y (List.mem_cons_of_mem _ hy);rw[List.map_cons,List.flatten_cons,List.length_append,List.length_cons,Nat.succ_mul];omega
 have h1:=this fs h;unfold tA;omega
end Go.Proofs.YtfpkpnkdnammnaaGreatDoor
/- The law of parentheses. -/
namespace Go.Proofs.YtfpkpnkdnammnaaGreatDoor
open Go.RowKit
/-- Parsing a source: what was printed comes back. -/
theorem parse_z {fs:List Fn}{all:Bool}(hr:vW fs=true) (hu:∀f∈fs,stsU f.body=true) (hl:(tA all fs).length≤16384) {w:World}(hv:rX w):Calls Tryz.prog 25 #[.string ⟨(tA all fs).toArray⟩] w fun e w'=>∃i:Option Addr×Nat,e=.returned (.tuple #[.agg #[.slice i.1 fs.length i.2],.int .i64 0,.int .i64 0])∧Ext w w'∧PgK (fun _=>True) w' fs i.1 i.2 :=
 (sB (tA all fs) (by omega) 100000 (by decide) _ (src_back hr hu hl) w hv).mono fun _ _ ⟨A,cap,e1,e2,e3⟩=>⟨(A,cap),e1,e2,PgK.lies.mono (fun _ _=>trivial) e3⟩
set_option maxHeartbeats 4000000 in
set_option maxRecDepth 100000 in
theorem parens_law (l:List Int) (lA:Option Addr) (lc:Nat) (hl:l.length≤9223372036854775807) {F:Nat→Prop}(w_0:World) (hv:rX w_0) (hT:TbN w_0) (hL:RdF F lA (sA l) w_0) :
  Calls Tryz.prog 10 #[.slice lA l.length lc] w_0 fun e w'=>e=.returned (.bool true)∧Ext w_0 w':=by
 have hml:∀f∈tI l,Sml f:=fun f hf=>(made_sml l f hf).1;have hm4:(tI l).length≤4:=(madeL_len l).2;have hmr:=made_right l;have hmu:∀f∈tI l,stsU f.body=true:=fun f hf=>(hml f hf).u;have hsz:=rSrc_z true hml hm4;refine yV (args:=[.slice lA l.length lc]) Tryz.func10 V 36 V (Nat.le_of_ble_eq_true V)<|Z1 0 V<|zF (H':=Hp (fun _=>False) w_0 [] [] (fun _=>True)) (fun u hu=>?_) ?_
 ·subst hu;exact Hp.start0
 refine zY<|zX<|Za V V<|ZX<|zX<|yP .none V  (v:=.bool true) (by kernel_rfl) V (fun w hw=>sanity_any w (hv.ext (HpG.keep hw).ext) (hT.ext (HpG.keep hw).ext)) ?_;refine Za V V<|ZX<|Z3r 0 2 3 V V V<|Zm V V<|wl_callZ .none V  (by kernel_rfl) V (fun w hw=>made_z hl hL (HpG.keep hw).ext) (fun ⟨Ap,cp⟩ v1 hp1 hw1=>?_);refine zG .none V (yJ (z:=.agg #[.slice none 0 0]) (cs:=[.slice none 0 0]) (by kernel_rfl) V) (fun b4=>?_);refine ZR 0 V V V V V (by kernel_rfl) ?_;refine ZX<|Z4 0 2 3 4 V V V V<|wc_freeze (fun v2 hw2=>?_);have hb4:=HpG.blk hw2 (k:=0) rfl;have hp2:=(HpG.x hw2).get PgK.lies hp1;refine zX<|ZF V (YF.anti (tV V U32 V (by kernel_rfl)) (fun u h=>(HpG.x h).blk hb4)) ?_
 refine yP .none V  (v:=.string ⟨(tA true (tI l)).toArray⟩) (by kernel_rfl) V (fun w hw=>rsource_any true (tI l) _ Ap cp w hmr hmu (fun f hf=>by
  have h2:=(hml f hf).z;have h3:=stNs_z 1 f.body
  omega) hsz ((HpG.x hw).get PgK.lies hp2)) ?_
 refine Za V V<|ZX<|zY<|Z5r 0 2 3 4 5 V V V V V<|Zm V V<|ZF V (tR V U9)<|ZF V (wT V V)<|ZT<|zP V (fun hc=>?_) (fun hc=>?_)
 ·replace hc:=of_decide_eq_true hc;refine zY<|Z6r 0 2 3 4 5 17 V V V V V V<|Zm V V<|Za V V<|ZT<|zL<|zU<|zH V V (fun w hw=>?_);exact⟨rfl,(HpG.keep hw).ext⟩
 ·replace hc:=of_decide_eq_false hc;refine zD<|zQ<|zY<|Z6r 0 2 3 4 5 17 V V V V V V<|Zm V V<|wl_callZ .none V  (by kernel_rfl) V (fun w hw=>parse_z (all:=true) hmr hmu (by omega) (hv.ext (HpG.keep hw).ext)) (fun ⟨Aq,cq⟩ v3 hq3 hw3=>?_);refine Zm V V<|ZF V (xR V V)<|ZF V (xR V V)<|ZF V (xR V V)<|zG .none V (yJ (z:=.agg #[.slice none 0 0]) (cs:=[.slice none 0 0]) (by kernel_rfl) V) (fun b6=>?_);refine ZR 0 V V V V V (by kernel_rfl) ?_;refine Za V V<|Za V V<|ZX<|Z8 0 2 3 4 5 6 8 17 V V V V V V V V<|wc_freeze (fun v4 hw4=>?_);have hb6:=HpG.blk hw4 (k:=0) rfl;replace hb4:=(HpG.x hw4).blk ((HpG.x hw3).blk hb4);have hp4:=(HpG.x hw4).get PgK.lies ((HpG.x hw3).get PgK.lies hp2);have hq4:=(HpG.x hw4).get PgK.lies hq3;refine zX<|ZF V (YF.anti (tV V U32 V (by kernel_rfl)) (fun u h=>(HpG.x h).blk hb6)) ?_;refine ZF V (YF.anti (tV V U32 V (by kernel_rfl)) (fun u h=>(HpG.x h).blk hb4)) ?_;refine yP .none V  (v:=.bool true) (by kernel_rfl) V (fun w hw=>(equal_any (tI l) (tI l) _ Aq Ap cq cp w ((HpG.x hw).get PgK.lies hq4) ((HpG.x hw).get PgK.lies hp4)).mono fun _ _ ⟨e1,e2⟩=>⟨by rw[e1,sT rfl],e2⟩) ?_;refine Za V V<|ZX<|Z9r 0 2 3 4 5 6 8 9 17 V V V V V V V V V<|Zm V V<|Zm V V<|zA 29 V (fun g2=>?_) (fun g2=>?_)
  ·refine ZG V V V (zT V)<|ZG V V V (yO V V)<|ZF V (zN V V)<|Zm V V<|zA 33 V (fun g6=>?_) (fun g6=>?_)
   ·replace g6:=eq_of_beq g6;refine ZG V V V (zT V)<|ZF V (zN V V)<|Za V V<|ZT<|zL<|zH V V (fun w hw=>?_);exact⟨rfl,(HpG.keep hw).ext⟩
   ·replace g6:=yK g6;exact absurd V g6
  ·cases g2
end Go.Proofs.YtfpkpnkdnammnaaGreatDoor
