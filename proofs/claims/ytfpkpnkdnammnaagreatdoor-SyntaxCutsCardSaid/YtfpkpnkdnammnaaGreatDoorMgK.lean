import Derived.Test.YtfpkpnkdnammnaaGreatDoorSyX
import Derived.Test.YtfpkpnkdnammnaaGreatDoorMgw
import Derived.Test.YtfpkpnkdnammnaaGreatDoorSz1
set_option maxRecDepth 100000
set_option maxHeartbeats 4000000
namespace Go.Proofs.YtfpkpnkdnammnaaGreatDoor
open Go.RowKit
structure CS where
 (An:Option Addr)
 (cn:Nat)
 (nm:List Bs)
 (nodes vars:Nat)
 (deep:Bool)
 (err:Nat)
structure PgA where
 A:Option Addr
 len:Nat
 cap:Nat
abbrev ckC (p:PgA) (c:CS):List Value:=[.slice p.A p.len p.cap,.slice c.An c.nm.length c.cn,.int .i64 c.nodes,.int .i64 c.vars,.bool c.deep,.int .i64 c.err]
abbrev cO (p:PgA) (c:CS):Obj:=bk 100 (ckC p c)
theorem Hp.startC {p:PgA}{w:World}{cb:Nat}{c:CS}{T:(Nat→Prop)→World→Prop}(hT:Lies T) {F:Nat→Prop}(hF:∀k,F k→k≠cb) (h:T F w) (hb:w.heap[cb]? = some (cO p c)):Hp (fun k=>k=cb) w [(cb,cO p c)] [] (T F) w :=
 Hp.startB hb ⟨fun k=>F k∧k<w.heap.size,fun k hk=>⟨hk.2,hF k hk.1⟩,fun u hu=>hT.mono (fun _ hk=>hk.1) (hT.foot (F:=fun k=>F k∧k<w.heap.size) hu (hT.lt h))⟩
def wN (F:Nat→Prop) (w0:World):World→Prop:=fun u=>∀k,F k→k<w0.heap.size→u.heap[k]? = w0.heap[k]?
theorem wN.get {F:Nat→Prop}{w0 w:World}{T:(Nat→Prop)→World→Prop}(hs:wN F w0 w) (hT:Lies T) (h:T F w0):T F w :=
 hT.mono (fun _ h=>h.1) (hT.foot (F:=fun k=>F k∧k<w0.heap.size) (fun k hk=>hs k hk.1 hk.2) (hT.lt h))
theorem Hp.startS {p:PgA}{w:World}{cb:Nat}{c:CS}{F:Nat→Prop}(hF:∀k,F k→k≠cb) (hb:w.heap[cb]? = some (cO p c)):Hp (fun k=>k=cb) w [(cb,cO p c)] [] (wN F w) w :=
 Hp.startB hb ⟨fun k=>F k∧k<w.heap.size,fun k hk=>⟨hk.2,hF k hk.1⟩,fun u hu k h1 h2=>hu k ⟨h1,h2⟩⟩
theorem stsK.blk {F:Nat→Prop}{w:World}{t:St}{a:StA}(h:stsK F w t a):wQ F w t.body a.A2 a.c2∧wQ F w t.els a.A3 a.c3:=⟨⟨h.p2,h.h2⟩,h.p3,h.h3⟩
theorem oW (p:PgA) (c:CS) (e:Nat) (cb:Nat) (w_0:World) (hb:w_0.heap[cb]? = some (cO p c)):Calls Tryz.prog 102 #[.pointer (some ⟨cb,0,none⟩),.int .i64 e] w_0 fun x w'=>x=.returned (.tuple #[])∧Keep (fun j=>j=cb) w_0 w'∧w'.heap[cb]? = some (cO p { c with err:=vM c.err e }):=by
 refine yV (args:=[.pointer (some ⟨cb,0,none⟩),.int .i64 e]) Tryz.func102 V 13 V (Jn V)<|Z2 0 1 V V<|zD (H':=Hp (fun k=>k=cb) w_0 [(cb,cO p c)] [] (fun _=>True)) (fun u hu=>?_) ?_
 ·subst hu;exact Hp.startB0 hb
 refine zY<|zX<|Zm V V<|Zn V V<|ZF V (zZ (off:=5) (sz:=0) V U100 (by kernel_rfl) V) ?_;refine ZF V (zW 0 V V V U41 V)<|ZF V (yS V V)<|ZT<|zT V (fun h8=>?_) (fun h8=>?_)
 ·replace h8:=Jw h8;refine Z3r 0 1 8 V V V<|Zm V V<|Zm V V<|Zn V V<|ZF V (zZ (off:=5) (sz:=0) V U100 (by kernel_rfl) V) ?_;refine ZS 0 V V V V V (by kernel_rfl) ?_;refine zU<|xI V (fun w hw=>?_);exact⟨rfl,Jq hw,by first|(rw[vM,Kp (by omega)];exact HpG.blkL (j:=0) hw rfl)|(rw[vM,Ko (by omega)];exact HpG.blkL (j:=0) hw rfl)⟩
 ·replace h8:=yP h8;refine zG<|xI V (fun w hw=>?_);exact⟨rfl,Jq hw,by first|(rw[vM,Kp (by omega)];exact HpG.blkL (j:=0) hw rfl)|(rw[vM,Ko (by omega)];exact HpG.blkL (j:=0) hw rfl)⟩
def ME (x:Ex):Prop:=∀(p:PgA) (c:CS) (F:Nat→Prop) (A:Option Addr) (cap cb:Nat) (w:World),c.nodes+exN x≤1000000000000000000→(∀k,F k→k≠cb)→w.heap[cb]? = some (cO p c)→xT F w x A cap →
 Calls Tryz.prog 134 #[.pointer (some ⟨cb,0,none⟩),.agg (xL x A cap).toArray] w fun e w'=>e=.returned (.int .i64 (exD x))∧Keep (fun j=>j=cb) w w'∧w'.heap[cb]? = some (cO p { c with nodes:=c.nodes+exN x,deep:=c.deep||decide (8<exD x) })
theorem measure_step (k n:Nat) (s:Bs) (kids:List Ex) (IH:∀x∈kids,ME x):ME (.mk k n s kids):=by
 intro p c F A cap cb w_0 hN hF hb h;obtain⟨hle,kc,hk1,hk2⟩:=h;dsimp only[Ex.kids] at hk2 hle;have hlt:=hle.lt;simp only[exN] at hN;have hD:=exD_le (.mk k n s kids);simp only[exN,exD] at hD
 have hA:0<kids.length→∃b off,A=some ⟨b,off,none⟩:=fun h0=>by
  obtain⟨b,off,e,_⟩:=hk1 (by rw[hk2.len];omega);exact⟨b,off,e⟩
 have hdv:(c.deep||decide (8<1+exDs kids))=(bif (c.deep||decide (8<exDs kids)) then true else decide ((8:Int)<((1+exDs kids:Nat):Int))):=by
  cases c.deep
  ·rw[Bool.false_or,Bool.false_or,show decide ((8:Int)<((1+exDs kids:Nat):Int))=decide (8<1+exDs kids) from decide_eq_decide.2 (by omega)]
   by_cases h1:8<exDs kids
   ·rw[Kv h1,Kv (show 8<1+exDs kids by omega)];rfl
   ·rw[Kw h1];rfl
  ·rfl
 refine yV (args:=[.pointer (some ⟨cb,0,none⟩),.agg (exC k n s A kids.length cap).toArray]) Tryz.func134 V 42 V (Jn V)<|Z2 0 1 V V<|zD (H':=Hp (fun k=>k=cb) w_0 [(cb,cO p c)] [] (fun u=>RdF F A kc u∧ExsV F u kids kc)) (fun u hu=>?_) ?_
 ·subst hu;exact Hp.startC (T:=fun F u=>RdF F A kc u∧ExsV F u kids kc) ⟨fun hk ⟨a,b⟩=>⟨RdF.lies.foot hk a,ExsV.lies.foot hk b⟩,fun ⟨a,b⟩=>⟨RdF.lies.lt a,ExsV.lies.lt b⟩,fun hF ⟨a,b⟩=>⟨RdF.lies.mono hF a,ExsV.lies.mono hF b⟩⟩ hF ⟨hk1,hk2⟩ hb
 refine zY<|zX<|zC .none V (vY V V) (fun b3=>?_);refine Za V V<|ZX<|zX<|Zm V V<|Zn V V<|ZF V (Y100x2 V) ?_;refine ZF V (zW 1 V V V U3 V)<|ZF V (yI V V (show IntKind.i64.wrap ((c.nodes:Int)+1)=((c.nodes+1:Nat):Int) from by rw[i64_in _ (by omega) (by omega)];simp)) ?_;refine Zn V V<|ZF V (Y100x2 V) ?_;refine ZS 1 V V V V V (by kernel_rfl) ?_;refine ZX<|Z4r 0 1 3 4 V V V V<|Za V V<|ZX<|zY<|zX<|ZF V (Y57x3 V) ?_;refine ZF rfl (zW 0 rfl rfl rfl U55 rfl)<|ZF rfl (yM rfl U55)<|Zm rfl rfl<|ZT<|yY<|xV (ι:={i:Nat // i≤kids.length}) (fun i=>[(0,.pointer (some ⟨cb,0,none⟩)),(3,.pointer (some ⟨b3,0,none⟩)),(5,.int .i64 (exDs (kids.take i.1))),(16,.slice A kids.length cap),(17,.int .i64 kids.length),(18,.int .i64 i.1)]) (fun i=>Hp (fun k=>k=cb) w_0 [(b3,bk 57 (exC k n s A kids.length cap)),(cb,cO p { c with nodes:=c.nodes+(1+exNs (kids.take i.1)),deep:=c.deep||decide (8<exDs (kids.take i.1)) })] [] (fun u=>RdF F A kc u∧ExsV F u kids kc)) (fun i=>kids.length-i.1) ⟨0,Kl _⟩ ?_ ?_ (fun i=>?_)
 ·exact .cons V<|.cons V<|.cons V<|.cons V<|.cons V<|.cons V<|.nil
 ·intro w h;simp only[List.take_zero,exNs,exDs,Nat.add_zero,Nat.not_lt_zero,decide_false,Bool.or_false];exact h
 obtain⟨i,hi⟩:=i;dsimp only;refine zY<|zX<|ZF V (xS V V)<|ZX<|zT V (fun hc=>?_) (fun hc=>?_)
 ·replace hc:=Jo hc;obtain⟨b,off,rfl⟩:=hA (by omega);have hil:i<kids.length:=by omega
  obtain⟨x,hx⟩:∃x,kids[i]? = some x:=⟨kids[i],Jt hil⟩;have hxm:=Ju hx;obtain⟨A1,cap1,hfix⟩:=hk2.fix hx;have ht:=wF hx
  have hN2:exNs (kids.take i)+exN x≤exNs kids:=by
   have:=uP (kids.take (i+1)) (kids.drop (i+1));rw[List.take_append_drop,ht,uP] at this;simp only[exNs] at this;omega
  refine zG<|zQ<|zY<|yY<|zY<|zX<|ZF rfl (zJ (es:=4) rfl rfl U55 (by kernel_rfl) rfl (by first|decide|omega|(simp;done)|(simp;omega)) rfl) ?_
  refine ZF V (yD (cs:=xL x A1 cap1) V U57 V (by kernel_rfl) (fun w h j v hv=>by
  have h2:=(hfix F w (HpG.x h).2).2 j v hv
  exact RdF.part (HpG.x h).1 (Jm.1 h2).1 (by omega) h2)) ?_
  refine zC .none V (yK (z:=.agg #[.int .i64 0,.int .u32 0,.string ⟨#[]⟩,.slice none 0 0]) (cs:=Je) (by kernel_rfl) V) (fun b7=>?_);refine ZR 0 V V V V V (by kernel_rfl) ?_;refine ZT<|Z8r 0 3 5 7 16 17 18 19 V V V V V V V V<|Zm V V<|Zm V V<|ZF V (yX 0 V V U57 V (by kernel_rfl)) ?_;refine vV (ι:=Unit) (C:=fun _=>True) (val:=fun _=>.int .i64 (exD x)) (ob':=fun _=>cO p { c with nodes:=c.nodes+(1+exNs (kids.take (i+1))),deep:=c.deep||decide (8<exDs (kids.take (i+1))) }) .none rfl  2 (by kernel_rfl) rfl rfl (fun w h1 hw=>(IH x hxm p _ F A1 cap1 cb w (by dsimp only;omega) hF h1 (hfix F w (HpG.x hw).2).1).mono fun e w' ⟨e1,e2,e3⟩=>⟨(),trivial,e1,e2,?_⟩) (fun _ _=>?_)
  ·rw[e3,ht,uP,qW];simp only[exNs,exDs,Nat.add_zero];congr 3
   ·omega
   ·rw[Bool.or_assoc];congr 1;rw[Jl];simp;omega
  refine ZF V (yf_max V V)<|Za V V<|zU<|zM<|zQ<|Z8r 0 3 5 7 16 17 18 19 V V V V V V V V<|ZF V (yI V V (i64_in _ (by omega) (by omega))) ?_;refine Zm V V<|zU<|yC (ι:={i:Nat // i≤kids.length}) ⟨i+1,by omega⟩ (by show kids.length-(i+1)<kids.length-i;omega) (.cons V<|.cons V<|.cons ?_<|.cons V<|.cons V<|.cons V<|.nil) (fun w h=>Hp.drop h (Js _ _) (Jr _));show some (Value.int .i64 _)=some (Value.int .i64 _);dsimp only;rw[ht,qW];simp only[exDs];congr 2
  split<;>omega
 ·replace hc:=Jp hc;have hie:i=kids.length:=by omega
  subst hie;rw[Kh] at *;refine xY<|zN<|zN<|xZ<|zQ<|zY<|zX<|Zm V V<|Zm V V<|Zn V V<|ZF V (Y100x4 V) ?_;refine ZF V (zW 1 V V V Tryz.underlying4 V)<|Zm V V<|zH 33 V (fun h86=>?_) (fun h86=>?_)
  ·refine ZP V<|ZP V<|ZP V<|ZF V (zP V V)<|Zn V V<|ZF V (Y100x4 V) ?_;refine ZS 1 V V V V V (by kernel_rfl) ?_;refine ZX<|Z7r 0 3 5 16 17 18 19 V V V V V V V<|Zm V V<|ZF V (yI V V (show IntKind.i64.wrap ((exDs kids:Int)+1)=((1+exDs kids:Nat):Int) from by rw[i64_in _ (by omega) (by omega)];simp;omega)) ?_;refine Za V V<|ZT<|zK<|zI V V (fun w hw=>?_);refine⟨by simp only[exD],Jq hw,?_⟩;rw[HpG.blkL (j:=1) hw rfl,show exD (.mk k n s kids)=1+exDs kids by simp only[exD],show exN (.mk k n s kids)=1+exNs kids by simp only[exN]];dsimp only at h86 ⊢;rw[hdv,h86];rfl
  ·refine ZG V V V (zO V)<|ZG V V V (yI V V (show IntKind.i64.wrap ((exDs kids:Int)+1)=((1+exDs kids:Nat):Int) from by rw[i64_in _ (by omega) (by omega)];simp;omega)) ?_;refine ZG V V V (wO V V)<|ZF V (zL V V)<|Zn V V<|ZF V (Y100x4 V) ?_;refine ZS 1 V V V V V (by kernel_rfl) ?_;refine ZX<|Z7r 0 3 5 16 17 18 19 V V V V V V V<|Zm V V<|ZF V (yI V V (show IntKind.i64.wrap ((exDs kids:Int)+1)=((1+exDs kids:Nat):Int) from by rw[i64_in _ (by omega) (by omega)];simp;omega)) ?_;refine Za V V<|ZT<|zK<|zI V V (fun w hw=>?_);refine⟨by simp only[exD],Jq hw,?_⟩;rw[HpG.blkL (j:=1) hw rfl,show exD (.mk k n s kids)=1+exDs kids by simp only[exD],show exN (.mk k n s kids)=1+exNs kids by simp only[exN]];dsimp only at h86 ⊢;rw[hdv,h86];rfl
theorem measure_all:∀x:Ex,ME x:=by
 have key:∀(N:Nat) (x:Ex),SizeOf.sizeOf x<N→ME x:=by
  intro N
  induction N with
  | zero=>exact fun x h=>absurd h (by omega)
  | succ N ih =>
   intro x h
   cases x with
   | mk k n s kids=>exact measure_step k n s kids (fun y hy=>ih y (by have:=List.sizeOf_lt_of_mem hy;simp only[Ex.mk.sizeOf_spec] at h;omega))
 exact fun x=>key _ x (Nat.lt_succ_self _)
end Go.Proofs.YtfpkpnkdnammnaaGreatDoor
namespace Go.Proofs.YtfpkpnkdnammnaaGreatDoor
open Go.RowKit
theorem exNs_take {l:List Ex}{i:Nat}{x:Ex}(hx:l[i]? = some x):exNs (l.take i)+exN x≤exNs l:=by
 have:=uP (l.take (i+1)) (l.drop (i+1));rw[List.take_append_drop,wF hx,uP] at this;simp only[exNs] at this;omega
theorem stNs_take {l:List St}{i:Nat}{x:St}(hx:l[i]? = some x):stNs (l.take i)+stN x≤stNs l:=by
 have:=sB (l.take (i+1)) (l.drop (i+1));rw[List.take_append_drop,wF hx,sB] at this;simp only[stNs] at this;omega
theorem stVs_take {l:List St}{i:Nat}{x:St}(hx:l[i]? = some x):stVs (l.take i)+stV x≤stVs l:=by
 have:=rB (l.take (i+1)) (l.drop (i+1));rw[List.take_append_drop,wF hx,rB] at this;simp only[stVs] at this;omega
theorem deep_bif (c:Bool) (d:Nat):(c||decide (8<d))=(bif c then true else decide ((8:Int)<(d:Int))):=by
 cases c
 ·rw[Bool.false_or,show decide ((8:Int)<(d:Int))=decide (8<d) from decide_eq_decide.2 (by omega)];rfl
 ·rfl
theorem oX {n:Nat}(h:n≤1000000000000000000):IntKind.i64.wrap ((n:Int)+1)=((n+1:Nat):Int):=by rw[i64_in _ (by omega) (by omega)];simp
def MB (l:List St):Prop:=∀(p:PgA) (c:CS) (F:Nat→Prop) (A:Option Addr) (cap cb d:Nat) (w:World),c.nodes+stNs l≤1000000000000000000→c.vars+stVs l≤1000000000000000000→d+stNs l≤1000000000000000000→(∀k,F k→k≠cb)→w.heap[cb]? = some (cO p c)→wQ F w l A cap →
 Calls Tryz.prog 101 #[.pointer (some ⟨cb,0,none⟩),.slice A l.length cap,.int .i64 d] w fun e w'=>e=.returned (.tuple #[])∧Keep (fun j=>j=cb) w w'∧w'.heap[cb]? = some (cO p { c with nodes:=c.nodes+stNs l,vars:=c.vars+stVs l,deep:=c.deep||stsBad d l })
theorem count_step (l:List St) (IH:∀x∈l,MB x.body∧MB x.els):MB l:=by
 intro p c F A cap cb d w_0 hN hV hD hF hb h;have hle:=h.1;have hlt:=hle.lt;obtain⟨_,xs,hk1,hk2⟩:=h
 have hA:0<l.length→∃b off,A=some ⟨b,off,none⟩:=fun h0=>by
  obtain⟨b,off,e,_⟩:=hk1 (by rw[hk2.len];omega);exact⟨b,off,e⟩
 refine yV (args:=[.pointer (some ⟨cb,0,none⟩),.slice A l.length cap,.int .i64 d]) Tryz.func101 V 68 V (Jn V)<|Z3 0 1 2 V V V<|zD (H':=Hp (fun k=>k=cb) w_0 [(cb,cO p c)] [] (wN F w_0)) (fun u hu=>?_) ?_
 ·subst hu;exact Hp.startS hF hb
 refine zY<|zX<|Zm rfl rfl<|ZF rfl (yM rfl U58)<|Zm rfl rfl<|ZT<|yY<|xV (ι:={i:Nat // i≤l.length}) (fun i=>[(0,.pointer (some ⟨cb,0,none⟩)),(2,.int .i64 d),(10,.slice A l.length cap),(11,.int .i64 l.length),(12,.int .i64 i.1)]) (fun i=>Hp (fun k=>k=cb) w_0 [(cb,cO p { c with nodes:=c.nodes+stNs (l.take i.1),vars:=c.vars+stVs (l.take i.1),deep:=c.deep||stsBad d (l.take i.1) })] [] (wN F w_0)) (fun i=>l.length-i.1) ⟨0,Kl _⟩ ?_ ?_ (fun i=>?_)
 ·exact .cons V<|.cons V<|.cons V<|.cons V<|.cons V<|.nil
 ·intro w h;simp only[List.take_zero,stNs,stVs,stsBad,Nat.add_zero,Bool.or_false];exact h
 obtain⟨i,hi⟩:=i;dsimp only;refine zY<|zX<|ZF V (xS V V)<|ZX<|zT V (fun hc=>?_) (fun hc=>?_)
 ·replace hc:=Jo hc;obtain⟨g0,o0,rfl⟩:=hA (by omega);have hil:i<l.length:=by omega
  obtain⟨x,hx⟩:∃x,l[i]? = some x:=⟨l[i],Jt hil⟩;have hxm:=Ju hx;obtain⟨a,hfix⟩:=hk2.fix hx;have hxk:=(hfix F w_0 hk2).1;have hcell:=(hfix F w_0 hk2).2;have ht:=wF hx;have hN2:=stNs_take hx;have hV2:=stVs_take hx
  cases x with
  | mk k s es b c'=>?_
  have hI:=IH _ hxm;obtain⟨A1,A2,A3,c1,c2,c3⟩:=a;obtain⟨p1,p2,p3,⟨x1,h1,k1⟩,h2,h3⟩:=hxk;dsimp only[St.exprs,St.body,St.els] at p1 p2 p3 h1 k1 h2 h3 hI
  have hA1:0<es.length→∃b off,A1=some ⟨b,off,none⟩:=fun h0=>by
   obtain⟨b,off,e,_⟩:=h1 (by rw[k1.len];omega);exact⟨b,off,e⟩
  have hel:=p1.lt;simp only[stN,stV] at hN2 hV2;generalize hn0:stNs (l.take i)=n0 at hN2 ⊢;generalize hv0:stVs (l.take i)=v0 at hV2 ⊢;generalize hd0:stsBad d (l.take i)=d0;refine zG<|zQ<|zY<|yY<|zY<|zX<|ZF rfl (zJ (es:=5) rfl rfl U58 (by kernel_rfl) rfl (by first|decide|omega|(simp;done)|(simp;omega)) rfl) ?_;refine ZF V (yD (cs:=stC k s A1 es.length c1 A2 b.length c2 A3 c'.length c3) V U60 V (by kernel_rfl) (fun w h j v hv=>RdF.part ((HpG.x h).get RdF.lies hk1) (Jm.1 (hcell j v hv)).1 (by omega) (hcell j v hv))) ?_;refine zC .none V (yK (z:=.agg #[.int .i64 0,.string ⟨#[]⟩,.slice none 0 0,.slice none 0 0,.slice none 0 0]) (cs:=Jf) (by kernel_rfl) V) (fun b7=>?_);refine ZR 0 V V V V V (by kernel_rfl) ?_;refine ZX<|Z7r 0 2 7 10 11 12 13 V V V V V V V<|Zm V V<|Zn V V<|ZF V (Y100x2 V) ?_;refine ZF V (zW 1 V V V U3 V)<|ZF V (yI V V (oX (n:=c.nodes+n0) (by omega))) ?_;refine Zn V V<|ZF V (Y100x2 V) ?_;refine ZS 1 V V V V V (by kernel_rfl) ?_;refine ZT<|xA (ι:=Unit) (fun _=>[(0,.pointer (some ⟨cb,0,none⟩)),(2,.int .i64 d),(7,.pointer (some ⟨b7,0,none⟩)),(10,.slice (some ⟨g0,o0,none⟩) l.length cap),(11,.int .i64 l.length),(12,.int .i64 i)]) (fun _=>Hp (fun k=>k=cb) w_0 [(b7,bk 60 (stC k s A1 es.length c1 A2 b.length c2 A3 c'.length c3)),(cb,cO p { c with nodes:=c.nodes+n0+1,vars:=c.vars+v0,deep:=(c.deep||d0)||decide (8<d) })] [] (wN F w_0)) ?_ (fun _=>?_)
  ·refine Z7r 0 2 7 10 11 12 13 V V V V V V V<|Zm V V<|Zm V V<|Zn V V<|ZF V (Y100x4 V) ?_;refine ZF V (zW 1 V V V Tryz.underlying4 V)<|Zm V V<|zH 28 V (fun h46=>?_) (fun h46=>?_)
   ·refine ZP V<|ZP V<|ZF V (zP V V)<|Zn V V<|ZF V (Y100x4 V) ?_;refine ZS 1 V V V V V (by kernel_rfl) ?_;refine zU<|zA (ι:=Unit) () (O6 V V V V V V) (fun w h=>?_);dsimp only at h46;rw[deep_bif,h46];exact h
   ·refine ZG V V V (zO V)<|ZG V V V (wO V V)<|ZF V (zL V V)<|Zn V V<|ZF V (Y100x4 V) ?_;refine ZS 1 V V V V V (by kernel_rfl) ?_;refine zU<|zA (ι:=Unit) () (O6 V V V V V V) (fun w h=>?_);dsimp only at h46;rw[deep_bif,h46];exact h
  ·refine xA (ι:=Unit) (fun _=>[(0,.pointer (some ⟨cb,0,none⟩)),(2,.int .i64 d),(7,.pointer (some ⟨b7,0,none⟩)),(10,.slice (some ⟨g0,o0,none⟩) l.length cap),(11,.int .i64 l.length),(12,.int .i64 i)]) (fun _=>Hp (fun k=>k=cb) w_0 [(b7,bk 60 (stC k s A1 es.length c1 A2 b.length c2 A3 c'.length c3)),(cb,cO p { c with nodes:=c.nodes+n0+1,vars:=c.vars+v0+(if k=1 then 1 else 0),deep:=(c.deep||d0)||decide (8<d) })] [] (wN F w_0)) ?_ (fun _=>?_)
   ·refine zY<|zX<|ZF V (Y60x0 V) ?_;refine ZF V (zW 0 V V V U3 V)<|ZF V (yS V V)<|ZT<|zT V (fun hc=>?_) (fun hc=>?_)
    ·replace hc:=Jw hc;have hk1:k=1:=by omega
     rw[Kp hk1] at hV2;refine Z7r 0 2 7 10 11 12 36 V V V V V V V<|Zm V V<|Zn V V<|ZF V (Y100x3 V) ?_;refine ZF V (zW 1 V V V U3 V)<|ZF V (yI V V (oX (n:=c.vars+v0) (by omega))) ?_;refine Zn V V<|ZF V (Y100x3 V) ?_;refine ZS 1 V V V V V (by kernel_rfl) ?_;refine zU<|zA (ι:=Unit) () (O6 V V V V V V) (fun w h=>?_);rw[Kp hk1];exact h
    ·replace hc:=yP hc;have hk1:k≠1:=by omega
     refine zG<|zA (ι:=Unit) () (O6 V V V V V V) (fun w h=>?_);rw[Ko hk1];exact h
   ·refine zY<|zY<|zX<|ZF V (Y60x2 V) ?_;refine ZF rfl (zW 0 rfl rfl rfl U55 rfl)<|ZF rfl (yM rfl U55)<|Zm rfl rfl<|ZT<|yY<|xV (ι:={j:Nat // j≤es.length}) (fun j=>[(0,.pointer (some ⟨cb,0,none⟩)),(2,.int .i64 d),(7,.pointer (some ⟨b7,0,none⟩)),(10,.slice (some ⟨g0,o0,none⟩) l.length cap),(11,.int .i64 l.length),(12,.int .i64 i),(45,.slice A1 es.length c1),(46,.int .i64 es.length),(47,.int .i64 j.1)]) (fun j=>Hp (fun k=>k=cb) w_0 [(b7,bk 60 (stC k s A1 es.length c1 A2 b.length c2 A3 c'.length c3)),(cb,cO p { c with nodes:=c.nodes+n0+1+exNs (es.take j.1),vars:=c.vars+v0+(if k=1 then 1 else 0),deep:=((c.deep||d0)||decide (8<d))||decide (8<exDs (es.take j.1)) })] [] (wN F w_0)) (fun j=>es.length-j.1) ⟨0,Kl _⟩ ?_ ?_ (fun j=>?_)
    ·exact .cons V<|.cons V<|.cons V<|.cons V<|.cons V<|.cons V<|.cons V<|.cons V<|.cons V<|.nil
    ·intro w h;simp only[List.take_zero,exNs,exDs,Nat.add_zero,Nat.not_lt_zero,decide_false,Bool.or_false];exact h
    obtain⟨j,hj⟩:=j;dsimp only;refine zY<|zX<|ZF V (xS V V)<|ZX<|zT V (fun hc=>?_) (fun hc=>?_)
    ·replace hc:=Jo hc;obtain⟨b1,off1,rfl⟩:=hA1 (by omega);have hjl:j<es.length:=by omega
     obtain⟨y,hy⟩:∃y,es[j]? = some y:=⟨es[j],Jt hjl⟩;obtain⟨B1,cap1,hfixe⟩:=k1.fix hy;have hyk:=(hfixe F w_0 k1).1;have hcelle:=(hfixe F w_0 k1).2;have hte:=wF hy;have hNe:=exNs_take hy;refine zG<|zQ<|zY<|yY<|zY<|zX<|ZF rfl (zJ (es:=4) rfl rfl U55 (by kernel_rfl) rfl (by first|decide|omega|(simp;done)|(simp;omega)) rfl) ?_;refine ZF V (yD (cs:=xL y B1 cap1) V U57 V (by kernel_rfl) (fun w h j v hv=>RdF.part ((HpG.x h).get RdF.lies h1) (Jm.1 (hcelle j v hv)).1 (by omega) (hcelle j v hv))) ?_;refine zC .none V (yK (z:=.agg #[.int .i64 0,.int .u32 0,.string ⟨#[]⟩,.slice none 0 0]) (cs:=Je) (by kernel_rfl) V) (fun b9=>?_);refine ZR 0 V V V V V (by kernel_rfl) ?_;refine ZT<|Z11r 0 2 7 9 10 11 12 45 46 47 48 V V V V V V V V V V V<|Zm V V<|ZF V (yX 0 V V U57 V (by kernel_rfl)) ?_;refine vV (ι:=Unit) (C:=fun _=>True) (val:=fun _=>.int .i64 (exD y)) (ob':=fun _=>cO p { c with nodes:=c.nodes+n0+1+exNs (es.take (j+1)),vars:=c.vars+v0+(if k=1 then 1 else 0),deep:=((c.deep||d0)||decide (8<d))||decide (8<exDs (es.take (j+1))) }) .none rfl  2 (by kernel_rfl) rfl rfl (fun w h1 hw=>(measure_all y p _ F B1 cap1 cb w (by dsimp only;omega) hF h1 ((HpG.x hw).get xT.lies hyk)).mono fun e w' ⟨e1,e2,e3⟩=>⟨(),trivial,e1,e2,?_⟩) (fun _ _=>?_)
     ·rw[e3,hte,uP,qW];simp only[exNs,exDs,Nat.add_zero];congr 3
      ·omega
      ·rw[Bool.or_assoc];congr 1;rw[Jl];simp;omega
     refine zU<|zM<|zQ<|Z11r 0 2 7 9 10 11 12 45 46 47 48 V V V V V V V V V V V<|ZF V (yI V V (i64_in _ (by omega) (by omega))) ?_;refine Zm V V<|zU<|yC (ι:={j:Nat // j≤es.length}) ⟨j+1,by omega⟩ (by show es.length-(j+1)<es.length-j;omega) (O9 V V V V V V V V V) (fun w h=>Hp.drop h (Js _ _) (Jr _))
    ·replace hc:=Jp hc;have hje:j=es.length:=by omega
     subst hje;rw[Kh];refine xY<|zN<|zN<|xZ<|zQ<|zY<|zX<|Zm V V<|ZF V (Y60x3 V) ?_;refine ZF V (zW 0 V V V U58 V)<|Zm V V<|ZF V (yI V V (oX (n:=d) (by omega))) ?_;refine vV (ι:=Unit) (C:=fun _=>True) (val:=fun _=>.tuple #[]) (ob':=fun _=>cO p { c with nodes:=c.nodes+n0+1+exNs es+stNs b,vars:=c.vars+v0+(if k=1 then 1 else 0)+stVs b,deep:=((c.deep||d0)||decide (8<d))||decide (8<exDs es)||stsBad (d+1) b }) .none rfl  1 (by kernel_rfl) rfl rfl (fun w h1 hw=>(hI.1 p _ F A2 c2 cb (d+1) w (by dsimp only;omega) (by dsimp only;omega) (by omega) hF h1 ((HpG.x hw).get wQ.lies ⟨p2,h2⟩)).mono fun e w' ⟨e1,e2,e3⟩=>⟨(),trivial,e1,e2,e3⟩) (fun _ _=>?_);refine ZT<|Z10r 0 2 7 10 11 12 45 46 47 48 V V V V V V V V V V<|Zm V V<|ZF V (Y60x4 V) ?_;refine ZF V (zW 0 V V V U58 V)<|Zm V V<|ZF V (yI V V (oX (n:=d) (by omega))) ?_;refine vV (ι:=Unit) (C:=fun _=>True) (val:=fun _=>.tuple #[]) (ob':=fun _=>cO p { c with nodes:=c.nodes+stNs (l.take (i+1)),vars:=c.vars+stVs (l.take (i+1)),deep:=c.deep||stsBad d (l.take (i+1)) }) .none rfl  1 (by kernel_rfl) rfl rfl (fun w h1 hw=>(hI.2 p _ F A3 c3 cb (d+1) w (by dsimp only;omega) (by dsimp only;omega) (by omega) hF h1 ((HpG.x hw).get wQ.lies ⟨p3,h3⟩)).mono fun e w' ⟨e1,e2,e3⟩=>⟨(),trivial,e1,e2,?_⟩) (fun _ _=>?_)
     ·rw[e3,ht,sB,rB,stsBad_append,hn0,hv0,hd0];simp only[stNs,stVs,stsBad,stN,stV,stBad,Nat.add_zero,Bool.or_false,Bool.or_assoc];congr 3<;>omega
     refine zU<|zM<|zQ<|Z10r 0 2 7 10 11 12 45 46 47 48 V V V V V V V V V V<|ZF V (yI V V (i64_in _ (by omega) (by omega))) ?_;refine Zm V V<|zU<|yC (ι:={i:Nat // i≤l.length}) ⟨i+1,by omega⟩ (by show l.length-(i+1)<l.length-i;omega) (O5 V V V V V) (fun w h=>Hp.drop h (Js _ _) (Jr _))
 ·replace hc:=Jp hc;have hie:i=l.length:=by omega
  subst hie;rw[Kh];refine xY<|zN<|zN<|xZ<|xI V (fun w hw=>?_);exact⟨rfl,Jq hw,HpG.blkL (j:=0) hw rfl⟩
end Go.Proofs.YtfpkpnkdnammnaaGreatDoor
namespace Go.Proofs.YtfpkpnkdnammnaaGreatDoor
open Go.RowKit
theorem count_all:∀(N:Nat) (x:St),SizeOf.sizeOf x<N→MB x.body∧MB x.els
 | 0,_,h=>absurd h (by omega)
 | N+1,.mk k s es b c,h=>⟨count_step b fun x hx=>count_all N x (by have:=vF (k:=k) (s:=s) (es:=es) (c:=c) (.inl hx);omega),count_step c fun x hx=>count_all N x (by have:=vF (k:=k) (s:=s) (es:=es) (b:=b) (.inr hx);omega)⟩
theorem count_any (l:List St):MB l:=count_step l fun x _=>count_all _ x (Nat.lt_succ_self _)
theorem pr_find (l:List Fn) (s:Bs) (g:Nat):PrF (.func (.func 100) #[] #[.pointer (some ⟨g,0,none⟩)]) l (fun x=>decide (x.name=s)) (Blk g (bk 9 [.string ⟨s.toArray⟩])):=⟨_,[],[.pointer (some ⟨g,0,none⟩)],rfl,by kernel_rfl,fun _ _ h hb=>Blk.onE hb h,fun x hx F a w_0 hk hY=>by
 show Calls Tryz.prog 100 #[.agg (rG x a).toArray,.pointer (some ⟨g,0,none⟩)] w_0 fun e w'=>e=.returned (.bool (decide (x.name=s)))∧Ext w_0 w';refine yV (args:=[.agg (rG x a).toArray,.pointer (some ⟨g,0,none⟩)]) Tryz.func100 V 8 V (Jn V)<|Z2 0 1 V V<|zD (H':=Hp (fun _=>False) w_0 [] [] (Blk g (bk 9 [.string ⟨s.toArray⟩]))) (fun u hu=>?_) ?_
 ·subst hu;exact Hp.start ⟨fun k=>k=g,fun k hk=>by subst hk;exact⟨(Jv.1 hY).1,id⟩,fun u hu=>(hu g V).trans hY⟩
 refine zY<|zX<|zC .none V (vY V V) (fun b2=>?_);refine Za V V<|ZX<|zX<|ZF V (Y62x0 V) ?_;refine ZF V (zW 0 V V V U9 V)<|ZF V (yO (v:=.string ⟨s.toArray⟩) V U9 V (fun u h=>by rw[cell_of_row u g _ _ _ _ (HpG.x h)];rfl)) ?_;refine ZF V (xU V V U9)<|Za V V<|ZT<|zK<|zI V V (fun w hw=>?_);exact⟨rfl,(Jq hw).ext⟩
 ⟩
theorem Hp.startC2 {p:PgA}{w:World}{cb:Nat}{c:CS}{F:Nat→Prop}(hb:w.heap[cb]? = some (cO p c)):Hp (fun _=>False) w [] [] (fun u=>Blk cb (cO p c) u∧wN F w u) w :=
 Hp.start ⟨fun k=>k=cb∨(F k∧k<w.heap.size),fun k hk=>⟨hk.elim (fun e=>e▸(Jv.1 hb).1) (fun h=>h.2),id⟩,fun u hu=>⟨(hu cb (.inl rfl)).trans hb,fun k h1 h2=>hu k (.inr ⟨h1,h2⟩)⟩⟩
theorem find_any (p:PgA) (c:CS) (fs:List Fn) (hp:p.len=fs.length) (F:Nat→Prop) (cb:Nat) (s:Bs) (w_0:World) (hb:w_0.heap[cb]? = some (cO p c)) (h:PgK F w_0 fs p.A p.cap):Calls Tryz.prog 58 #[.pointer (some ⟨cb,0,none⟩),.string ⟨s.toArray⟩] w_0 fun e w'=>e=.returned (.int .i64 (tG fs s))∧Ext w_0 w':=by
 obtain⟨A,len,cap⟩:=p;dsimp only at hp h;subst hp;have hh:=h;obtain⟨hcp,cs,hk1,hk2⟩:=hh;refine yV (args:=[.pointer (some ⟨cb,0,none⟩),.string ⟨s.toArray⟩]) Tryz.func58 V 12 V (Jn V)<|Z2 0 1 V V<|zD (H':=Hp (fun _=>False) w_0 [] [] (fun u=>Blk cb (cO ⟨A,fs.length,cap⟩ c) u∧wN F w_0 u)) (fun u hu=>?_) ?_
 ·subst hu;exact Hp.startC2 hb
 refine zY<|zX<|zC .none V (vY V V) (fun b3=>?_);refine Za V V<|ZX<|zX<|Zm V V<|Zn V V<|ZF V (zZ (off:=0) (sz:=0) V U100 (by kernel_rfl) V) ?_;refine ZF V (Y32x0 V) ?_;refine ZF V (yO (v:=.slice A fs.length cap) V U30 V (fun u h=>by rw[cell_of_row u cb _ _ _ _ (HpG.x h).1];rfl)) ?_;refine ZF V (pU V V)<|yT .none V  (v:=.int .i64 (tG fs s)) (by kernel_rfl) V (fun w hw=>indexF_any fs A cap hcp cs (pr_find fs s b3) w ⟨(HpG.x hw).2.get RdF.lies hk1,(HpG.x hw).2.get FnsV.lies hk2⟩ (HpG.blk hw (k:=0) V)) ?_;refine Za V V<|ZT<|zK<|zI V V (fun w hw=>?_);exact⟨rfl,(Jq hw).ext⟩
theorem variable_any (p:PgA) (c:CS) (hn:c.nm.length≤1000000000000) (F:Nat→Prop) (cb:Nat) (hF:∀k,F k→k≠cb) (s:Bs) (w_0:World) (hb:w_0.heap[cb]? = some (cO p c)) (h:RdF F c.An (xX c.nm) w_0):Calls Tryz.prog 135 #[.pointer (some ⟨cb,0,none⟩),.string ⟨s.toArray⟩] w_0 fun e w'=>e=.returned (.tuple #[])∧Keep (fun j=>j=cb) w_0 w'∧w'.heap[cb]? = some (cO p { c with err:=if s∈c.nm then c.err else vM c.err 21 }):=by
 refine yV (args:=[.pointer (some ⟨cb,0,none⟩),.string ⟨s.toArray⟩]) Tryz.func135 V 13 V (Jn V)<|Z2 0 1 V V<|zD (H':=Hp (fun k=>k=cb) w_0 [(cb,cO p c)] [] (wN F w_0)) (fun u hu=>?_) ?_
 ·subst hu;exact Hp.startS hF hb
 refine zY<|zX<|Zm V V<|Zn V V<|ZF V (Y100x1 V) ?_;refine ZF V (zW 0 V V V U22 V)<|Zm V V<|yT .none V  (v:=.bool (decide (s∈c.nm))) (by kernel_rfl) V (fun w hw=>tZ c.nm (by omega) s c.An c.cn w ((HpG.x hw).get RdF.lies h)) ?_;refine ZF V (xJ V)<|ZT<|zT V (fun h10=>?_) (fun h10=>?_)
 ·refine Z3r 0 1 10 V V V<|Zm V V<|vV (ι:=Unit) (C:=fun _=>True) (val:=fun _=>.tuple #[]) (ob':=fun _=>cO p { c with err:=vM c.err 21 }) .none V  0 (by kernel_rfl) V V (fun w h1 hw=>(oW p c 21 cb w h1).mono fun e w' ⟨e1,e2,e3⟩=>⟨(),trivial,e1,e2,e3⟩) (fun _ _=>?_);refine zU<|xI V (fun w hw=>?_)
  by_cases hs:s∈c.nm
  ·first
   | (exfalso;simp[hs] at h10;done)
   | exact⟨rfl,Jq hw,by rw[Kp hs];exact HpG.blkL (j:=0) hw rfl⟩
  ·first
   | (exfalso;simp[hs] at h10;done)
   | exact⟨rfl,Jq hw,by rw[Ko hs];exact HpG.blkL (j:=0) hw rfl⟩
 ·refine zG<|xI V (fun w hw=>?_)
  by_cases hs:s∈c.nm
  ·first
   | (exfalso;simp[hs] at h10;done)
   | exact⟨rfl,Jq hw,by rw[Kp hs];exact HpG.blkL (j:=0) hw rfl⟩
  ·first
   | (exfalso;simp[hs] at h10;done)
   | exact⟨rfl,Jq hw,by rw[Ko hs];exact HpG.blkL (j:=0) hw rfl⟩
theorem idxQ_some {α:Type}{q:α→Bool}:∀{l:List α},¬rH q l<0→∃i x,rH q l=(i:Nat)∧l[i]? = some x∧q x=true
 | [],h=>absurd (show rH q ([]:List α)<0 by unfold rH;omega) h
 | y::l,h=>by
  by_cases hy:q y=true
  ·exact⟨0,y,by unfold rH;rw[Kp hy];rfl,rfl,hy⟩
  ·have hl:¬rH q l<0:=fun hc=>h (by unfold rH;rw[Ko hy,Kp hc];omega);obtain⟨i,x,h1,h2,h3⟩:=idxQ_some hl;exact⟨i+1,x,by unfold rH;rw[Ko hy,Ko hl,h1];simp,h2,h3⟩
def er0 (fs:List Fn) (nm:List Bs) (k:Nat) (s:Bs) (n err:Nat):Nat :=
 if k=2 then (if s∈nm then err else vM err 21)
 else if k=3 then (if tG fs s<0 then vM err 21 else if (fs.getD (tG fs s).toNat noFn).params.length≠n then vM err 23 else err)
 else err
def CE (x:Ex):Prop:=∀(p:PgA) (c:CS) (fs:List Fn) (F:Nat→Prop) (A:Option Addr) (cap cb:Nat) (w:World),p.len=fs.length→c.nm.length≤1000000000000→(∀k,F k→k≠cb)→w.heap[cb]? = some (cO p c)→PgK F w fs p.A p.cap→RdF F c.An (xX c.nm) w→xT F w x A cap →
 Calls Tryz.prog 136 #[.pointer (some ⟨cb,0,none⟩),.agg (xL x A cap).toArray] w fun e w'=>e=.returned (.tuple #[])∧Keep (fun j=>j=cb) w w'∧w'.heap[cb]? = some (cO p { c with err:=erE fs c.nm x c.err })
theorem expr_step (k n:Nat) (s:Bs) (kids:List Ex) (IH:∀x∈kids,CE x):CE (.mk k n s kids):=by
 intro p c fs F A cap cb w_0 hp hn hF hb hP hR h;obtain⟨hle,kc,hk1,hk2⟩:=h;dsimp only[Ex.kids] at hk2 hle;have hlt:=hle.lt
 have hA:0<kids.length→∃b off,A=some ⟨b,off,none⟩:=fun h0=>by
  obtain⟨b,off,e,_⟩:=hk1 (by rw[hk2.len];omega);exact⟨b,off,e⟩
 obtain⟨Ap,lp,cp⟩:=p;dsimp only at hp hP;subst hp;have hPc:=hP;obtain⟨hcp,fcs,hf1,hf2⟩:=hPc
 have hAp:0<fs.length→∃b off,Ap=some ⟨b,off,none⟩:=fun h0=>by
  obtain⟨b,off,e,_⟩:=hf1 (by rw[hf2.len];omega);exact⟨b,off,e⟩
 have her:erE fs c.nm (.mk k n s kids) c.err=erEs fs c.nm kids (er0 fs c.nm k s kids.length c.err):=by simp only[erE,er0]
 rw[her];refine yV (args:=[.pointer (some ⟨cb,0,none⟩),.agg (exC k n s A kids.length cap).toArray]) Tryz.func136 V 52 V (Jn V)<|Z2 0 1 V V<|zD (H':=Hp (fun k=>k=cb) w_0 [(cb,cO ⟨Ap,fs.length,cp⟩ c)] [] (wN F w_0)) (fun u hu=>?_) ?_
 ·subst hu;exact Hp.startS hF hb
 refine zY<|zX<|zC .none V (vY V V) (fun b3=>?_);refine ZT<|xA (ι:=Unit) (fun _=>[(0,.pointer (some ⟨cb,0,none⟩)),(3,.pointer (some ⟨b3,0,none⟩))]) (fun _=>Hp (fun k=>k=cb) w_0 [(b3,bk 57 (exC k n s A kids.length cap)),(cb,cO ⟨Ap,fs.length,cp⟩ { c with err:=er0 fs c.nm k s kids.length c.err })] [] (wN F w_0)) ?_ (fun _=>?_)
 ·refine zY<|zX<|ZF V (Y57x0 V) ?_;refine ZF V (zW 0 V V V U3 V)<|ZT<|yY<|zY<|Z4r 0 1 3 8 V V V V<|ZF V (yS V V)<|Za V V<|ZT<|zT V (fun hc=>?_) (fun hc=>?_)
  ·replace hc:=Jw hc;have hk2':k=2:=by omega
   refine Z5r 0 1 3 8 9 V V V V V<|Zm V V<|ZF V (Y57x2 V) ?_;refine ZF V (zW 0 V V V U9 V)<|vV (ι:=Unit) (C:=fun _=>True) (val:=fun _=>.tuple #[]) (ob':=fun _=>cO ⟨Ap,fs.length,cp⟩ { c with err:=if s∈c.nm then c.err else vM c.err 21 }) .none V  1 (by kernel_rfl) V V (fun w h1 hw=>(variable_any _ c hn F cb hF s w h1 ((HpG.x hw).get RdF.lies hR)).mono fun e w' ⟨e1,e2,e3⟩=>⟨(),trivial,e1,e2,e3⟩) (fun _ _=>?_);refine zU<|zM<|zA (ι:=Unit) () (O2 V V) (fun w h=>?_);unfold er0;rw[Kp hk2'];exact h
  ·replace hc:=yP hc;have hk2':k≠2:=by omega
   refine zY<|Z5r 0 1 3 8 9 V V V V V<|ZF V (yS V V)<|Za V V<|ZT<|zT V (fun hc=>?_) (fun hc=>?_)
   ·replace hc:=Jw hc;have hk3:k=3:=by omega
    refine zY<|Z6r 0 1 3 8 9 15 V V V V V V<|Zm V V<|ZF V (Y57x2 V) ?_;refine ZF V (zW 0 V V V U9 V)<|yT .none V  (v:=.int .i64 (tG fs s)) (by kernel_rfl) V (fun w hw=>find_any _ c fs V F cb s w (HpG.blkL hw (j:=1) V) ((HpG.x hw).get PgK.lies hP)) ?_;refine Za V V<|ZX<|Z7r 0 1 3 4 8 9 15 V V V V V V V<|Zm V V<|ZF V (xS V V)<|ZT<|zT V (fun h22=>?_) (fun h22=>?_)
    ·replace h22:=Jo h22;have h22':tG fs s<0:=by simpa using h22
     refine Z8r 0 1 3 4 8 9 15 22 V V V V V V V V<|Zm V V<|vV (ι:=Unit) (C:=fun _=>True) (val:=fun _=>.tuple #[]) (ob':=fun _=>cO ⟨Ap,fs.length,cp⟩ { c with err:=vM c.err 21 }) .none V  1 (by kernel_rfl) V V (fun w h1 hw=>(oW _ c 21 cb w h1).mono fun e w' ⟨e1,e2,e3⟩=>⟨(),trivial,e1,e2,e3⟩) (fun _ _=>?_);refine zU<|zM<|zA (ι:=Unit) () (O2 V V) (fun w h=>?_);unfold er0;rw[Ko hk2',Kp hk3,Kp h22'];exact h
    ·replace h22:=Jp h22;have h22':¬tG fs s<0:=by simpa using h22
     obtain⟨i,y,hfi,hy,_⟩:=idxQ_some h22';have hil:=(Jm.1 hy).1;obtain⟨g0,o0,rfl⟩:=hAp (by omega);obtain⟨a,hfix⟩:=hf2.fix hy;have hcell:=(hfix F w_0 hf2).2;have hfi:tG fs s=(i:Nat):=hfi;have hgd:fs.getD (tG fs s).toNat noFn=y:=by rw[hfi,Int.toNat_natCast,Ka,hy];rfl
     rw[hfi];refine zY<|Z8 0 1 3 4 8 9 15 22 V V V V V V V V<|wc_draw0 [0,1,2,3,4,5,6,7,8,9,10,11,12,13] _ (by kernel_rfl) (by kernel_rfl) Ky Ky (fun _ h=>HpG.drew h) (fun _ h=>h) ?_;refine Zd V V V (zO V)<|Zd V V V (yR V)<|Zd V V V (zZ (off:=0) (sz:=0) V U100 (by kernel_rfl) V) ?_;refine Zd V V V (Y32x0 V) ?_;refine Zd rfl rfl rfl (zW 1 rfl rfl rfl U30 rfl)<|Zd rfl rfl rfl (zO rfl)<|Zd rfl rfl rfl (zJ (es:=3) rfl rfl U30 (by kernel_rfl) rfl (by first|decide|omega|(simp;done)|(simp;omega)) rfl) ?_;refine Zd V V V (Y62x1 V) ?_;refine Zd V V V (yO (v:=.slice a.A1 y.params.length a.c1) V U22 V (fun w h=>RdF.part ((HpG.x h).get RdF.lies hf1) (Jm.1 (hcell 1 _ V)).1 (by omega) (hcell 1 _ V))) ?_;refine Zd V V V (yM V U22)<|Zd V V V (Y57x3 V) ?_;refine Zd V V V (zW 0 V V V U55 V)<|Zd V V V (yM V U55)<|Zd V V V (sW V V)<|wd_end<|zQ<|zT V (fun h38=>?_) (fun h38=>?_)
     ·replace h38:=tQ h38;refine Z9r 0 1 3 4 8 9 15 22 38 V V V V V V V V V<|Zm V V<|vV (ι:=Unit) (C:=fun _=>True) (val:=fun _=>.tuple #[]) (ob':=fun _=>cO ⟨some ⟨g0,o0,none⟩,fs.length,cp⟩ { c with err:=vM c.err 23 }) .none V  1 (by kernel_rfl) V V (fun w h1 hw=>(oW _ c 23 cb w h1).mono fun e w' ⟨e1,e2,e3⟩=>⟨(),trivial,e1,e2,e3⟩) (fun _ _=>?_);refine zU<|zM<|zA (ι:=Unit) () (O2 V V) (fun w h=>?_);have h38':¬y.params.length=kids.length:=by intro e;simp[e] at h38
      unfold er0;rw[Ko hk2',Kp hk3,Ko h22',hgd,Kp h38'];exact h
     ·replace h38:=rO h38;refine zG<|zM<|zA (ι:=Unit) () (O2 V V) (fun w h=>?_);have h38':¬y.params.length≠kids.length:=fun e=>e (by omega);unfold er0;rw[Ko hk2',Kp hk3,Ko h22',hgd,Ko h38'];exact h
   ·replace hc:=yP hc;have hk3:k≠3:=by omega
    refine zG<|zM<|zA (ι:=Unit) () (O2 V V) (fun w h=>?_);unfold er0;rw[Ko hk2',Ko hk3];exact h
 ·refine zY<|zX<|ZF V (Y57x3 V) ?_;refine ZF V (zW 0 V V V U55 V)<|ZF V (yM V U55)<|Zm V V<|ZT<|yY<|xV (ι:={i:Nat // i≤kids.length}) (fun i=>[(0,.pointer (some ⟨cb,0,none⟩)),(42,.slice A kids.length cap),(43,.int .i64 kids.length),(44,.int .i64 i.1)]) (fun i=>Hp (fun k=>k=cb) w_0 [(cb,cO ⟨Ap,fs.length,cp⟩ { c with err:=erEs fs c.nm (kids.take i.1) (er0 fs c.nm k s kids.length c.err) })] [] (wN F w_0)) (fun i=>kids.length-i.1) ⟨0,Kl _⟩ ?_ ?_ (fun i=>?_)
  ·exact .cons V<|.cons V<|.cons V<|.cons V<|.nil
  ·intro w h;simp only[List.take_zero,erEs];exact Hp.drop h (Js _ _) (Jr _)
  obtain⟨i,hi⟩:=i;dsimp only;refine zY<|zX<|ZF V (xS V V)<|ZX<|zT V (fun hc=>?_) (fun hc=>?_)
  ·replace hc:=Jo hc;obtain⟨b,off,rfl⟩:=hA (by omega);have hil:i<kids.length:=by omega
   obtain⟨x,hx⟩:∃x,kids[i]? = some x:=⟨kids[i],Jt hil⟩;have hxm:=Ju hx;obtain⟨A1,cap1,hfix⟩:=hk2.fix hx;have hxk:=(hfix F w_0 hk2).1;have hcell:=(hfix F w_0 hk2).2;have ht:=wF hx;refine zG<|zQ<|zY<|yY<|zY<|zX<|ZF rfl (zJ (es:=4) rfl rfl U55 (by kernel_rfl) rfl (by first|decide|omega|(simp;done)|(simp;omega)) rfl) ?_;refine ZF V (yD (cs:=xL x A1 cap1) V U57 V (by kernel_rfl) (fun w h j v hv=>RdF.part ((HpG.x h).get RdF.lies hk1) (Jm.1 (hcell j v hv)).1 (by omega) (hcell j v hv))) ?_;refine zC .none V (yK (z:=.agg #[.int .i64 0,.int .u32 0,.string ⟨#[]⟩,.slice none 0 0]) (cs:=Je) (by kernel_rfl) V) (fun b6=>?_);refine ZR 0 V V V V V (by kernel_rfl) ?_;refine ZT<|Z6r 0 6 42 43 44 45 V V V V V V<|Zm V V<|ZF V (yX 0 V V U57 V (by kernel_rfl)) ?_;refine vV (ι:=Unit) (C:=fun _=>True) (val:=fun _=>.tuple #[]) (ob':=fun _=>cO ⟨Ap,fs.length,cp⟩ { c with err:=erEs fs c.nm (kids.take (i+1)) (er0 fs c.nm k s kids.length c.err) }) .none V  1 (by kernel_rfl) V V (fun w h1 hw=>(IH x hxm ⟨Ap,fs.length,cp⟩ { c with err:=erEs fs c.nm (kids.take i) (er0 fs c.nm k s kids.length c.err) } fs F A1 cap1 cb w V hn hF h1 ((HpG.x hw).get PgK.lies hP) ((HpG.x hw).get RdF.lies hR) ((HpG.x hw).get xT.lies hxk)).mono fun e w' ⟨e1,e2,e3⟩=>⟨(),trivial,e1,e2,?_⟩) (fun _ _=>?_)
   ·rw[e3,ht,erEs_append];simp only[erEs]
   refine zU<|zM<|zQ<|Z6r 0 6 42 43 44 45 V V V V V V<|ZF V (yI V V (i64_in _ (by omega) (by omega))) ?_;refine Zm V V<|zU<|yC (ι:={i:Nat // i≤kids.length}) ⟨i+1,by omega⟩ (by show kids.length-(i+1)<kids.length-i;omega) (O4 V V V V) (fun w h=>Hp.drop h (Js _ _) (Jr _))
  ·replace hc:=Jp hc;have hie:i=kids.length:=by omega
   subst hie;rw[Kh];refine xY<|zN<|zN<|xZ<|xI V (fun w hw=>?_);exact⟨rfl,Jq hw,HpG.blkL (j:=0) hw rfl⟩
theorem cexpr_all:∀x:Ex,CE x:=by
 have key:∀(N:Nat) (x:Ex),SizeOf.sizeOf x<N→CE x:=by
  intro N
  induction N with
  | zero=>exact fun x h=>absurd h (by omega)
  | succ N ih =>
   intro x h
   cases x with
   | mk k n s kids=>exact expr_step k n s kids (fun y hy=>ih y (by have:=tM (k:=k) (n:=n) (s:=s) hy;omega))
 exact fun x=>key _ x (Nat.lt_succ_self _)
end Go.Proofs.YtfpkpnkdnammnaaGreatDoor
namespace Go.Proofs.YtfpkpnkdnammnaaGreatDoor
open Go.RowKit
abbrev nmR (c:CS):Rw:=⟨.slice c.An c.nm.length c.cn,9,1,c.nm.length,xX c.nm⟩
def CS.up (c:CS) (An:Option Addr) (cn:Nat) (q:List Bs×Nat):CS:={ c with An:=An,cn:=cn,nm:=q.1,err:=q.2 }
theorem HpG.rowN {G B:Nat→Prop}{w0 w:World}{L:List (Nat×Obj)}{R:List Rw}{X:World→Prop}(h:HpG G B w0 L R X w) {i j g:Nat}{ob:Obj}{A:Option Addr}{E size len cap:Nat}{xs:List Value}(hj:R[j]? = some ⟨.slice A len cap,E,size,len,xs⟩) (hi:L[i]? = some (g,ob)):RdF (fun k=>k≠g) A xs w:=fun h0=>by
 obtain⟨b,off,e,h1,h2,h3⟩:=HpG.rowF h hj h0;subst e;refine⟨b,off,rfl,fun e=>?_,h2,h3⟩;subst e;have hn:=(List.nodup_append.1 h.nd).2.2;exact hn b (List.mem_map.2 ⟨_,Ju hi,rfl⟩) b (List.mem_filterMap.2 ⟨_,Ju hj,rfl⟩) rfl
theorem strs_one' (l:List Bs) (s:Bs):xX (l++[s])=xX l++[.string ⟨s.toArray⟩]:=by simp[xX]
theorem declare_any (p:PgA) (c:CS) (hn:c.nm.length≤1000000000000) (cb:Nat) (s:Bs) {w0:World}{X:World→Prop}(w_0:World) (h:Hp (fun _=>False) w0 [(cb,cO p c)] [nmR c] X w_0):Calls Tryz.prog 103 #[.pointer (some ⟨cb,0,none⟩),.string ⟨s.toArray⟩] w_0 fun e w'=>∃An cn,e=.returned (.tuple #[])∧Hp (fun _=>False) w0 [(cb,cO p (c.up An cn (tX (c.nm,c.err) s)))] [nmR (c.up An cn (tX (c.nm,c.err) s))] X w':=by
 refine yV (args:=[.pointer (some ⟨cb,0,none⟩),.string ⟨s.toArray⟩]) Tryz.func103 V 22 V (Jn V)<|Z2 0 1 V V<|zD (H':=Hp (fun _=>False) w0 [(cb,cO p c)] [nmR c] X) (fun u hu=>?_) ?_
 ·subst hu;exact h
 refine zY<|zY<|zX<|Zm V V<|Zn V V<|ZF V (Y100x1 V) ?_;refine ZF V (zW 0 V V V U22 V)<|Zm V V<|yT .none V  (v:=.bool (decide (s∈c.nm))) (by kernel_rfl) V (fun w hw=>tZ c.nm (by omega) s c.An c.cn w (HpG.rowF hw (j:=0) V)) ?_;refine ZT<|zT V (fun h9=>?_) (fun h9=>?_)
 ·refine Z3r 0 1 9 V V V<|Zm V V<|vV (ι:=Unit) (C:=fun _=>True) (val:=fun _=>.tuple #[]) (ob':=fun _=>cO p { c with err:=vM c.err 22 }) .none V  0 (by kernel_rfl) V V (fun w h1 hw=>(oW p c 22 cb w h1).mono fun e w' ⟨e1,e2,e3⟩=>⟨(),trivial,e1,e2,e3⟩) (fun _ _=>?_);refine ZT<|Z3r 0 1 9 V V V<|Zm V V<|Zm V V<|Zn V V<|ZF V (Y100x1 V) ?_;refine ZF V (zW 0 V V V U22 V)<|Zm V V<|zC .none V (xR (z:=Ja) V V U22 (by kernel_rfl) (by kernel_rfl) V V) (fun b18=>?_);refine uO (z:=Ja) (bytes:=16) 0 0 .none V V V V V U22 (by kernel_rfl) V V V V V (by omega) (by omega) (fun a19 c19 h19=>?_);refine Zn V V<|ZF V (Y100x1 V) ?_;refine ZS 1 V V V V V (by kernel_rfl) ?_;refine zU<|xI V (fun w hw=>?_);refine⟨some ⟨a19,0,none⟩,c19,rfl,?_⟩;have hw2:=Hp.drop hw (Js _ _) (Jr _);dsimp only[cO,ckC,nmR,CS.up,tX];rw[Ji,strs_one']
  by_cases hs:s∈c.nm
  ·first
   | (exfalso;simp[hs] at h9;done)
   | (rw[Kp hs];exact hw2)
  ·first
   | (exfalso;simp[hs] at h9;done)
   | (rw[Ko hs];exact hw2)
 ·refine zG<|zQ<|Z3r 0 1 9 V V V<|Zm V V<|Zm V V<|Zn V V<|ZF V (Y100x1 V) ?_;refine ZF V (zW 0 V V V U22 V)<|Zm V V<|zC .none V (xR (z:=Ja) V V U22 (by kernel_rfl) (by kernel_rfl) V V) (fun b18=>?_);refine uO (z:=Ja) (bytes:=16) 0 0 .none V V V V V U22 (by kernel_rfl) V V V V V (by omega) (by omega) (fun a19 c19 h19=>?_);refine Zn V V<|ZF V (Y100x1 V) ?_;refine ZS 1 V V V V V (by kernel_rfl) ?_;refine zU<|xI V (fun w hw=>?_);refine⟨some ⟨a19,0,none⟩,c19,rfl,?_⟩;have hw2:=Hp.drop hw (Js _ _) (Jr _);dsimp only[cO,ckC,nmR,CS.up,tX];rw[Ji,strs_one']
  by_cases hs:s∈c.nm
  ·first
   | (exfalso;simp[hs] at h9;done)
   | (rw[Kp hs];exact hw2)
  ·first
   | (exfalso;simp[hs] at h9;done)
   | (rw[Ko hs];exact hw2)
theorem declC_len (p:List Bs×Nat) (s:Bs):(tX p s).1.length=p.1.length+1:=by simp[tX]
theorem ckB_len (fs:List Fn):∀(l:List St) (p:List Bs×Nat),(ckB fs l p).1.length=p.1.length+stVs l:=by
 have key:∀(N:Nat),(∀x:St,SizeOf.sizeOf x<N→∀p,(ckS fs x p).1.length=p.1.length+stV x)∧(∀l:List St,SizeOf.sizeOf l<N→∀p,(ckB fs l p).1.length=p.1.length+stVs l):=by
  intro N
  induction N with
  | zero=>exact⟨fun _ h=>absurd h (by omega),fun _ h=>absurd h (by omega)⟩
  | succ N ih =>
   refine⟨fun x h p=>?_,fun l h p=>?_⟩
   ·cases x with
    | mk k s es b c =>
     simp only[St.mk.sizeOf_spec] at h;simp only[ckS,stV];rw[ih.2 c (by omega),ih.2 b (by omega)]
     by_cases hk:k=1
     ·rw[Kp hk,Kp hk,declC_len];dsimp only;omega
     ·rw[Ko hk,Ko hk];dsimp only;omega
   ·cases l with
    | nil=>simp[ckB,stVs]
    | cons x l =>
     simp only[List.cons.sizeOf_spec] at h;simp only[ckB,stVs];rw[ih.2 l (by omega),ih.1 x (by omega)];omega
 exact fun l p=>(key _).2 l (Nat.lt_succ_self _) p
def BK (l:List St):Prop:=∀(p:PgA) (c:CS) (fs:List Fn) (F:Nat→Prop) (A:Option Addr) (cap cb:Nat) (w0 v0:World) (X:World→Prop) (w:World),p.len=fs.length→c.nm.length+stVs l≤1000000000000→(∀k,F k→k≠cb)→PgK F v0 fs p.A p.cap→wQ F v0 l A cap→(∀w,X w→wN F v0 w)→Hp (fun _=>False) w0 [(cb,cO p c)] [nmR c] X w →
 Calls Tryz.prog 104 #[.pointer (some ⟨cb,0,none⟩),.slice A l.length cap] w fun e w'=>∃An cn,e=.returned (.tuple #[])∧Hp (fun _=>False) w0 [(cb,cO p (c.up An cn (ckB fs l (c.nm,c.err))))] [nmR (c.up An cn (ckB fs l (c.nm,c.err)))] X w'
def er1 (nm:List Bs) (k:Nat) (s:Bs) (e:Nat):Nat:=if k=2∧s∉nm then vM e 21 else e
def dc1 (nm:List Bs) (k:Nat) (s:Bs) (e:Nat):List Bs×Nat:=if k=1 then tX (nm,e) s else (nm,e)
theorem ckS_eq (fs:List Fn) (k:Nat) (s:Bs) (es:List Ex) (b c:List St) (nm:List Bs) (e:Nat):ckS fs (.mk k s es b c) (nm,e)=ckB fs c (ckB fs b (dc1 nm k s (erEs fs nm es (er1 nm k s e)))):=by simp only[ckS,dc1,er1]
theorem block_step (l:List St) (IH:∀x∈l,BK x.body∧BK x.els):BK l:=by
 intro p c fs F A cap cb w0 v0 X w_0 hp hn hF hP h hX hH;have hle:=h.1;have hlt:=hle.lt;obtain⟨_,xs,hk1,hk2⟩:=h
 have hA:0<l.length→∃b off,A=some ⟨b,off,none⟩:=fun h0=>by
  obtain⟨b,off,e,_⟩:=hk1 (by rw[hk2.len];omega);exact⟨b,off,e⟩
 have hPw:∀w,wN F v0 w→PgK (fun k=>k≠cb) w fs p.A p.cap:=fun w hs=>PgK.lies.mono hF (hs.get PgK.lies hP);refine yV (args:=[.pointer (some ⟨cb,0,none⟩),.slice A l.length cap]) Tryz.func104 V 48 V (Jn V)<|Z2 0 1 V V<|zD (H':=Hp (fun _=>False) w0 [(cb,cO p c)] [nmR c] X) (fun u hu=>?_) ?_
 ·subst hu;exact hH
 refine zY<|zX<|Zm V V<|ZF V (yM V U58)<|Zm V V<|ZT<|yY<|xV (ι:={j:Nat×Option Addr×Nat // j.1≤l.length}) (fun j=>[(0,.pointer (some ⟨cb,0,none⟩)),(8,.slice A l.length cap),(9,.int .i64 l.length),(10,.int .i64 j.1.1)]) (fun j=>Hp (fun _=>False) w0 [(cb,cO p (c.up j.1.2.1 j.1.2.2 (ckB fs (l.take j.1.1) (c.nm,c.err))))] [nmR (c.up j.1.2.1 j.1.2.2 (ckB fs (l.take j.1.1) (c.nm,c.err)))] X) (fun j=>l.length-j.1.1) ⟨(0,c.An,c.cn),Kl _⟩ ?_ ?_ (fun j=>?_)
 ·exact .cons V<|.cons V<|.cons V<|.cons V<|.nil
 ·intro w h;dsimp only;simp only[List.take_zero,ckB];exact h
 obtain⟨⟨i,An,cn⟩,hi⟩:=j;dsimp only at hi ⊢;refine zY<|zX<|ZF V (xS V V)<|ZX<|zT V (fun hc=>?_) (fun hc=>?_)
 ·replace hc:=Jo hc;obtain⟨g0,o0,rfl⟩:=hA (by omega);have hil:i<l.length:=by omega
  obtain⟨x,hx⟩:∃x,l[i]? = some x:=⟨l[i],Jt hil⟩;have hxm:=Ju hx;obtain⟨a,hfix⟩:=hk2.fix hx;have hxk:=(hfix F v0 hk2).1;have hcell:=(hfix F v0 hk2).2;have ht:=wF hx;have hV2:=stVs_take hx;have hql:=ckB_len fs (l.take i) (c.nm,c.err);have hnx:ckB fs (l.take (i+1)) (c.nm,c.err)=ckS fs x (ckB fs (l.take i) (c.nm,c.err)):=by rw[ht,ckB_append];simp only[ckB]
  rw[hnx.symm.trans hnx] at hnx;generalize ckB fs (l.take i) (c.nm,c.err)=q at hql hnx ⊢;obtain⟨nm,e0⟩:=q
  cases x with
  | mk k s es b c'=>?_
  have hI:=IH _ hxm;rw[ckS_eq] at hnx;obtain⟨A1,A2,A3,c1,c2,c3⟩:=a;obtain⟨p1,p2,p3,⟨x1,h1,k1⟩,h2,h3⟩:=hxk;dsimp only[St.exprs,St.body,St.els] at p1 p2 p3 h1 k1 h2 h3 hI;dsimp only at hql
  have hA1:0<es.length→∃b off,A1=some ⟨b,off,none⟩:=fun h0=>by
   obtain⟨b,off,e,_⟩:=h1 (by rw[k1.len];omega);exact⟨b,off,e⟩
  have hel:=p1.lt;simp only[stV] at hV2;have hnml:nm.length≤1000000000000:=by omega
  refine zG<|zQ<|zY<|yY<|xA (ι:=Nat) (fun b5=>[(0,.pointer (some ⟨cb,0,none⟩)),(5,.pointer (some ⟨b5,0,none⟩)),(8,.slice (some ⟨g0,o0,none⟩) l.length cap),(9,.int .i64 l.length),(10,.int .i64 i)]) (fun b5=>Hp (fun _=>False) w0 [(cb,cO p (c.up An cn (nm,e0)))] [nmR (c.up An cn (nm,e0))] (fun u=>Blk b5 (bk 60 (stC k s A1 es.length c1 A2 b.length c2 A3 c'.length c3)) u∧X u)) ?_ (fun b5=>?_)
  ·refine zX<|ZF rfl (zJ (es:=5) rfl rfl U58 (by kernel_rfl) rfl (by first|decide|omega|(simp;done)|(simp;omega)) rfl) ?_;refine ZF V (yD (cs:=stC k s A1 es.length c1 A2 b.length c2 A3 c'.length c3) V U60 V (by kernel_rfl) (fun w h j v hv=>RdF.part ((hX _ (HpG.x h)).get RdF.lies hk1) (Jm.1 (hcell j v hv)).1 (by omega) (hcell j v hv))) ?_;refine zC .none V (yK (z:=.agg #[.int .i64 0,.string ⟨#[]⟩,.slice none 0 0,.slice none 0 0,.slice none 0 0]) (cs:=Jf) (by kernel_rfl) V) (fun b5=>?_);refine ZR 0 V V V V V (by kernel_rfl) ?_;refine zU<|zA (ι:=Nat) b5 (O5 V V V V V) (fun w h=>Hp.toX h id)
  ·refine xA (ι:=Unit) (fun _=>[(0,.pointer (some ⟨cb,0,none⟩)),(5,.pointer (some ⟨b5,0,none⟩)),(8,.slice (some ⟨g0,o0,none⟩) l.length cap),(9,.int .i64 l.length),(10,.int .i64 i)]) (fun _=>Hp (fun _=>False) w0 [(cb,cO p (c.up An cn (nm,er1 nm k s e0)))] [nmR (c.up An cn (nm,er1 nm k s e0))] (fun u=>Blk b5 (bk 60 (stC k s A1 es.length c1 A2 b.length c2 A3 c'.length c3)) u∧X u)) ?_ (fun _=>?_)
   ·refine zY<|zX<|ZF V (Y60x0 V) ?_;refine ZF V (yO (v:=.int .i64 k) V U3 V (fun u h=>by rw[cell_of_row u b5 _ _ _ _ (HpG.x h).1];rfl)) ?_;refine ZF V (yS V V)<|ZT<|zT V (fun hc=>?_) (fun hc=>?_)
    ·replace hc:=Jw hc;have hk2':k=2:=by omega
     refine Z6r 0 5 8 9 10 16 V V V V V V<|Zm V V<|ZF V (Y60x1 V) ?_;refine ZF V (yO (v:=.string ⟨s.toArray⟩) V U9 V (fun u h=>by rw[cell_of_row u b5 _ _ _ _ (HpG.x h).1];rfl)) ?_;refine vV (ι:=Unit) (C:=fun _=>True) (val:=fun _=>.tuple #[]) (ob':=fun _=>cO p (c.up An cn (nm,er1 nm k s e0))) .none V  0 (by kernel_rfl) V V (fun w h1 hw=>(variable_any p (c.up An cn (nm,e0)) hnml (fun k=>k≠cb) cb (fun _ h=>h) s w h1 (HpG.rowN hw (i:=0) (j:=0) V V)).mono fun e w' ⟨e1,e2,e3⟩=>⟨(),trivial,e1,e2,?_⟩) (fun _ _=>?_)
     ·rw[e3];unfold er1 CS.up;dsimp only
      by_cases hs:s∈nm
      ·rw[Kp hs,Ko (fun h=>h.2 hs)]
      ·rw[Ko hs,Kp ⟨hk2',hs⟩]
     refine zU<|zA (ι:=Unit) () (O5 V V V V V) (fun w h=>h)
    ·replace hc:=yP hc;have hk2':k≠2:=by omega
     refine zG<|zA (ι:=Unit) () (O5 V V V V V) (fun w h=>?_);rw[show er1 nm k s e0=e0 from Ko (fun h=>hk2' h.1)];exact h
   ·refine zY<|zY<|zX<|ZF V (Y60x2 V) ?_;refine ZF V (yO (v:=.slice A1 es.length c1) V U55 V (fun u h=>by rw[cell_of_row u b5 _ _ _ _ (HpG.x h).1];rfl)) ?_;refine ZF V (yM V U55)<|Zm V V<|ZT<|yY<|xV (ι:={j:Nat // j≤es.length}) (fun j=>[(0,.pointer (some ⟨cb,0,none⟩)),(5,.pointer (some ⟨b5,0,none⟩)),(8,.slice (some ⟨g0,o0,none⟩) l.length cap),(9,.int .i64 l.length),(10,.int .i64 i),(22,.slice A1 es.length c1),(23,.int .i64 es.length),(24,.int .i64 j.1)]) (fun j=>Hp (fun _=>False) w0 [(cb,cO p (c.up An cn (nm,erEs fs nm (es.take j.1) (er1 nm k s e0))))] [nmR (c.up An cn (nm,erEs fs nm (es.take j.1) (er1 nm k s e0)))] (fun u=>Blk b5 (bk 60 (stC k s A1 es.length c1 A2 b.length c2 A3 c'.length c3)) u∧X u)) (fun j=>es.length-j.1) ⟨0,Kl _⟩ ?_ ?_ (fun j=>?_)
    ·exact .cons V<|.cons V<|.cons V<|.cons V<|.cons V<|.cons V<|.cons V<|.cons V<|.nil
    ·intro w h;simp only[List.take_zero,erEs];exact h
    obtain⟨j,hj⟩:=j;dsimp only;refine zY<|zX<|ZF V (xS V V)<|ZX<|zT V (fun hc=>?_) (fun hc=>?_)
    ·replace hc:=Jo hc;obtain⟨g1,o1,rfl⟩:=hA1 (by omega);have hjl:j<es.length:=by omega
     obtain⟨y,hy⟩:∃y,es[j]? = some y:=⟨es[j],Jt hjl⟩;obtain⟨B1,cap1,hfixe⟩:=k1.fix hy;have hyk:=(hfixe F v0 k1).1;have hcelle:=(hfixe F v0 k1).2;have hte:=wF hy;refine zG<|zQ<|zY<|yY<|zY<|zX<|ZF rfl (zJ (es:=4) rfl rfl U55 (by kernel_rfl) rfl (by first|decide|omega|(simp;done)|(simp;omega)) rfl) ?_;refine ZF V (yD (cs:=xL y B1 cap1) V U57 V (by kernel_rfl) (fun w h j v hv=>RdF.part ((hX _ (HpG.x h).2).get RdF.lies h1) (Jm.1 (hcelle j v hv)).1 (by omega) (hcelle j v hv))) ?_;refine zC .none V (yK (z:=.agg #[.int .i64 0,.int .u32 0,.string ⟨#[]⟩,.slice none 0 0]) (cs:=Je) (by kernel_rfl) V) (fun b7=>?_);refine ZR 0 V V V V V (by kernel_rfl) ?_;refine ZT<|Z10r 0 5 7 8 9 10 22 23 24 25 V V V V V V V V V V<|Zm V V<|ZF V (yX 0 V V U57 V (by kernel_rfl)) ?_;refine vV (ι:=Unit) (C:=fun _=>True) (val:=fun _=>.tuple #[]) (ob':=fun _=>cO p (c.up An cn (nm,erEs fs nm (es.take (j+1)) (er1 nm k s e0)))) .none V  1 (by kernel_rfl) V V (fun w h1 hw=>(cexpr_all y p (c.up An cn (nm,erEs fs nm (es.take j) (er1 nm k s e0))) fs (fun k=>k≠cb) B1 cap1 cb w hp hnml (fun _ h=>h) h1 (hPw w (hX _ (HpG.x hw).2)) (HpG.rowN hw (i:=1) (j:=0) V V) (xT.lies.mono hF ((hX _ (HpG.x hw).2).get xT.lies hyk))).mono fun e w' ⟨e1,e2,e3⟩=>⟨(),trivial,e1,e2,?_⟩) (fun _ _=>?_)
     ·rw[e3,hte,erEs_append];simp only[erEs];rfl
     refine zU<|zM<|zQ<|Z10r 0 5 7 8 9 10 22 23 24 25 V V V V V V V V V V<|ZF V (yI V V (i64_in _ (by omega) (by omega))) ?_;refine Zm V V<|zU<|yC (ι:={j:Nat // j≤es.length}) ⟨j+1,by omega⟩ (by show es.length-(j+1)<es.length-j;omega) (O8 V V V V V V V V) (fun w h=>Hp.drop h (Js _ _) (Jr _))
    ·replace hc:=Jp hc;have hje:j=es.length:=by omega
     subst hje;rw[Kh];generalize erEs fs nm es (er1 nm k s e0)=e2 at hnx ⊢;refine xY<|zN<|zN<|xZ<|zQ<|xA (ι:=Option Addr×Nat) (fun _=>[(0,.pointer (some ⟨cb,0,none⟩)),(5,.pointer (some ⟨b5,0,none⟩)),(8,.slice (some ⟨g0,o0,none⟩) l.length cap),(9,.int .i64 l.length),(10,.int .i64 i)]) (fun a=>Hp (fun _=>False) w0 [(cb,cO p (c.up a.1 a.2 (dc1 nm k s e2)))] [nmR (c.up a.1 a.2 (dc1 nm k s e2))] (fun u=>Blk b5 (bk 60 (stC k s A1 es.length c1 A2 b.length c2 A3 c'.length c3)) u∧X u)) ?_ (fun a=>?_)
     ·refine zY<|zX<|ZF V (Y60x0 V) ?_;refine ZF V (yO (v:=.int .i64 k) V U3 V (fun u h=>by rw[cell_of_row u b5 _ _ _ _ (HpG.x h).1];rfl)) ?_;refine ZF V (yS V V)<|ZT<|zT V (fun hc=>?_) (fun hc=>?_)
      ·replace hc:=Jw hc;have hk1':k=1:=by omega
       rw[Kp hk1'] at hV2;refine Z10r 0 5 8 9 10 22 23 24 25 34 V V V V V V V V V V<|Zm V V<|ZF V (Y60x1 V) ?_;refine ZF V (yO (v:=.string ⟨s.toArray⟩) V U9 V (fun u h=>by rw[cell_of_row u b5 _ _ _ _ (HpG.x h).1];rfl)) ?_;refine xQ (ι:=Option Addr×Nat) (val:=fun _=>.tuple #[]) (H':=fun a=>Hp (fun _=>False) w0 [(cb,cO p (c.up a.1 a.2 (dc1 nm k s e2)))] [nmR (c.up a.1 a.2 (dc1 nm k s e2))] (fun u=>Blk b5 (bk 60 (stC k s A1 es.length c1 A2 b.length c2 A3 c'.length c3)) u∧X u)) .none V  (vT (by kernel_rfl) V (fun w hw=>(declare_any p (c.up An cn (nm,e2)) hnml cb s w hw).mono fun e w' ⟨An',cn',e1,e3⟩=>⟨_,e1,(An',cn'),rfl,by rw[show dc1 nm k s e2=tX (nm,e2) s from Kp hk1'];exact e3⟩)) (fun a=>?_);obtain⟨An',cn'⟩:=a;dsimp only;refine zU<|zA (ι:=Option Addr×Nat) (An',cn') (O5 V V V V V) (fun w h=>h)
      ·replace hc:=yP hc;have hk1':k≠1:=by omega
       refine zG<|zA (ι:=Option Addr×Nat) (An,cn) (O5 V V V V V) (fun w h=>?_);rw[show dc1 nm k s e2=(nm,e2) from Ko hk1'];exact h
     ·obtain⟨An2,cn2⟩:=a;dsimp only
      have hdl:(dc1 nm k s e2).1.length=nm.length+(if k=1 then 1 else 0):=by
       unfold dc1
       by_cases hk:k=1
       ·rw[Kp hk,Kp hk,declC_len]
       ·rw[Ko hk,Ko hk];rfl
      refine zY<|zX<|Zm V V<|ZF V (Y60x3 V) ?_;refine ZF V (yO (v:=.slice A2 b.length c2) V U58 V (fun u h=>by rw[cell_of_row u b5 _ _ _ _ (HpG.x h).1];rfl)) ?_;refine xQ (ι:=Option Addr×Nat) (val:=fun _=>.tuple #[]) (H':=fun a=>Hp (fun _=>False) w0 [(cb,cO p (c.up a.1 a.2 (ckB fs b (dc1 nm k s e2))))] [nmR (c.up a.1 a.2 (ckB fs b (dc1 nm k s e2)))] (fun u=>Blk b5 (bk 60 (stC k s A1 es.length c1 A2 b.length c2 A3 c'.length c3)) u∧X u)) .none V  (vT (by kernel_rfl) V (fun w hw=>(hI.1 p (c.up An2 cn2 (dc1 nm k s e2)) fs F A2 c2 cb w0 v0 _ w hp (by show (dc1 nm k s e2).1.length+_≤_;omega) hF hP ⟨p2,h2⟩ (fun w h=>hX w h.2) hw).mono fun e w' ⟨An',cn',e1,e3⟩=>⟨_,e1,(An',cn'),rfl,e3⟩)) (fun a=>?_);obtain⟨An3,cn3⟩:=a;dsimp only;refine ZT<|Z5r 0 5 8 9 10 V V V V V<|Zm V V<|ZF V (Y60x4 V) ?_;refine ZF V (yO (v:=.slice A3 c'.length c3) V U58 V (fun u h=>by rw[cell_of_row u b5 _ _ _ _ (HpG.x h).1];rfl)) ?_;refine xQ (ι:=Option Addr×Nat) (val:=fun _=>.tuple #[]) (H':=fun a=>Hp (fun _=>False) w0 [(cb,cO p (c.up a.1 a.2 (ckB fs (l.take (i+1)) (c.nm,c.err))))] [nmR (c.up a.1 a.2 (ckB fs (l.take (i+1)) (c.nm,c.err)))] (fun u=>Blk b5 (bk 60 (stC k s A1 es.length c1 A2 b.length c2 A3 c'.length c3)) u∧X u)) .none V  (vT (by kernel_rfl) V (fun w hw=>(hI.2 p (c.up An3 cn3 (ckB fs b (dc1 nm k s e2))) fs F A3 c3 cb w0 v0 _ w hp (by show (ckB fs b (dc1 nm k s e2)).1.length+_≤_;rw[ckB_len];omega) hF hP ⟨p3,h3⟩ (fun w h=>hX w h.2) hw).mono fun e w' ⟨An',cn',e1,e3⟩=>⟨_,e1,(An',cn'),rfl,by rw[hnx];exact e3⟩)) (fun a=>?_);obtain⟨An4,cn4⟩:=a;dsimp only;refine zU<|zM<|zQ<|Z5r 0 5 8 9 10 V V V V V<|ZF V (yI V V (i64_in _ (by omega) (by omega))) ?_;refine Zm V V<|zU<|yC (ι:={j:Nat×Option Addr×Nat // j.1≤l.length}) ⟨(i+1,An4,cn4),by show i+1≤_;omega⟩ (by show l.length-(i+1)<l.length-i;omega) (O4 V V V V) (fun w h=>Hp.weakX h fun u hu=>hu.2)
 ·replace hc:=Jp hc;have hie:i=l.length:=by omega
  subst hie;rw[Kh];refine xY<|zN<|zN<|xZ<|xI V (fun w hw=>?_);exact⟨An,cn,rfl,hw⟩
theorem cblock_all:∀(N:Nat) (x:St),SizeOf.sizeOf x<N→BK x.body∧BK x.els
 | 0,_,h=>absurd h (by omega)
 | N+1,.mk k s es b c,h=>⟨block_step b fun x hx=>cblock_all N x (by have:=vF (k:=k) (s:=s) (es:=es) (c:=c) (.inl hx);omega),block_step c fun x hx=>cblock_all N x (by have:=vF (k:=k) (s:=s) (es:=es) (b:=b) (.inr hx);omega)⟩
theorem cblock_any (l:List St):BK l:=block_step l fun x _=>cblock_all _ x (Nat.lt_succ_self _)
end Go.Proofs.YtfpkpnkdnammnaaGreatDoor
namespace Go.Proofs.YtfpkpnkdnammnaaGreatDoor
open Go.RowKit
theorem foldD_len (l:List Bs):∀(q:List Bs×Nat),(l.foldl tX q).1.length=q.1.length+l.length:=by
 induction l with
 | nil=>simp
 | cons x l ih=>intro q;rw[List.foldl_cons,ih,declC_len,Jj];omega
theorem wd_store1 {P:Program}{ops:Array Oper}{Q:Exit→Act→World→Prop}{n:Nat}{m:List (Nat×Value)}{ty:TypeId}{J:World→Prop}{G B:Nat→Prop}{w0:World}{L:List (Nat×Obj)}{R:List Rw}{X:World→Prop}{σ:List Nat}{pos:String}{af:Array Edge}{gd:Option (Nat×Bool)}{x y:Operand}{t T g o:Nat}{cs:List Value}{v:Value}(k:Nat) (hg:Gd ops m gd) (hx:ev m x=some (.pointer (some ⟨g,o,none⟩))) (hy:ev m y=some v) (hk:L[k]? = some (g,bk T cs)) (h1:v.oneCell'=true) (ho:o<cs.length) (hs':(P.info? t).map (·.size)=some 1)
  (hJ:∀w w',HpG G B w0 L R X w→J w→Keep (fun j=>j=g) w w'→J w') (h:WD P ops J Q σ G n m (HpG G B w0 (L.set k (g,bk T (cs.set o v))) R X)):WDo P ops J Q ⟨none,.store t x y,ty,pos,af,gd⟩ σ G n m (HpG G B w0 L R X) :=
 wd_chain0 (ι:=Unit) (val:=fun _=>undef) (H':=fun _=>HpG G B w0 (L.set k (g,bk T (cs.set o v))) R X) rfl (fun _ _ e=>by cases e) hg (fun _=>Ky)
  (fun _ w _ _ _ _ hs hw hj=>(ch_store hs hx hy h1 ho hs' (hw.own _ (Ju hk))).mono fun u w' ⟨e1,e2,e3⟩=>⟨e2.mono fun j _ hjg=>by subst hjg;exact hw.inG j (List.mem_append_left _ (List.mem_map.2 ⟨_,Ju hk,rfl⟩)),hJ w w' hw hj e2,(),e1,hw.turn hk e2 e3⟩) fun _=>h
def many (np vs ns:Nat) (deep:Bool):Bool:=decide (4<np∨12<np+vs∨400<ns∨deep=true)
theorem cfunction_any (p:PgA) (c:CS) (fs:List Fn) (f:Fn) (a:FnA) (F:Nat→Prop) (cb:Nat) (w0 v0:World) (X:World→Prop) (w_0:World) (hp:p.len=fs.length) (hN:f.params.length+stNs f.body+stVs f.body≤1000000000000) (hF:∀k,F k→k≠cb) (hP:PgK F v0 fs p.A p.cap) (hf:fnsK F v0 f a) (hX:∀w,X w→wN F v0 w) (hH:Hp (fun _=>False) w0 [(cb,cO p c)] [nmR c] X w_0) :
  Calls Tryz.prog 59 #[.pointer (some ⟨cb,0,none⟩),.agg (rG f a).toArray] w_0 fun e w'=>∃c':CS,(c'.deep,c'.err)=ckF fs (c.deep,c.err) f∧e=.returned (.tuple #[])∧Hp (fun _=>False) w0 [(cb,cO p c')] [nmR c'] X w':=by
 obtain⟨nm,ps,body⟩:=f;obtain⟨A1,A2,c1,c2⟩:=a;obtain⟨p1,p2,h1,h2⟩:=hf;dsimp only at p1 p2 h1 h2 hN;have hlt:=p1.lt
 have hA:0<ps.length→∃b off,A1=some ⟨b,off,none⟩:=fun h0=>by
  obtain⟨b,off,e,_⟩:=h1 (by rw[strs_len];omega);exact⟨b,off,e⟩
 refine yV (args:=[.pointer (some ⟨cb,0,none⟩),.agg (fnC nm A1 ps.length c1 A2 body.length c2).toArray]) Tryz.func59 V 63 V (Jn V)<|Z2 0 1 V V<|zD (H':=Hp (fun _=>False) w0 [(cb,cO p c)] [nmR c] X) (fun u hu=>?_) ?_
 ·subst hu;exact hH
 refine zY<|zX<|zC .none V (vY V V) (fun b3=>?_);refine ZT<|xA (ι:=Unit) (fun _=>[(0,.pointer (some ⟨cb,0,none⟩)),(3,.pointer (some ⟨b3,0,none⟩))]) (fun _=>Hp (fun _=>False) w0 [(cb,cO p { c with An:=none,cn:=0,nm:=[],nodes:=0,vars:=ps.length })] [nmR { c with An:=none,cn:=0,nm:=[],nodes:=0,vars:=ps.length }] (fun u=>Blk b3 (bk 62 (fnC nm A1 ps.length c1 A2 body.length c2)) u∧X u)) ?_ (fun _=>?_)
 ·refine wR 12 [0,1,2,3,4,5,6,7,8,9,10,11] (Blk b3 _) (by kernel_rfl) (by kernel_rfl) Blk.stab (fun w h=>HpG.blk h (k:=0) V) (fun n0 hn0=>?_);refine Zd V V V (zO V)<|Zd V V V (zO V)<|Zd V V V (zO V)<|Zd V V V (Y62x1 V) ?_;refine Zd V V V (yO (v:=.slice A1 ps.length c1) V U22 V (fun u h=>by rw[cell_of_row u b3 _ _ _ _ h];rfl)) ?_;refine Zd V V V (yM V U22)<|Zd V V V (yR V)<|Zd V V V (Y100x1 V) ?_;refine xF V<|wd_store1 1 .none V V V V (by simp) (by kernel_rfl) (fun w w' hw hj hk=>hj.keep hk (HpG.ne hw (i:=0) (j:=1) V V V)) ?_;refine Zd V V V (yR V)<|Zd V V V (Y100x2 V) ?_;refine xF V<|wd_store1 1 .none V V V V (by simp) (by kernel_rfl) (fun w w' hw hj hk=>hj.keep hk (HpG.ne hw (i:=0) (j:=1) V V V)) ?_;refine wL ?_;simp only[Jz,Ke];refine Zn V V<|ZF V (Y100x3 V) ?_;refine ZS 1 V V V V V (by kernel_rfl) ?_;refine zU<|zA (ι:=Unit) () (O2 V V) (fun w h=>Hp.toX (Hp.drop (Hp.nil h 9 1) (Jr _) (.cons_cons _ (Kf _))) id)
 ·refine zY<|zX<|Zm V V<|ZF V (Y62x2 V) ?_;refine ZF V (yO (v:=.slice A2 body.length c2) V U58 V (fun u h=>by rw[cell_of_row u b3 _ _ _ _ (HpG.x h).1];rfl)) ?_;refine vV (ι:=Unit) (C:=fun _=>True) (val:=fun _=>.tuple #[]) (ob':=fun _=>cO p { c with An:=none,cn:=0,nm:=[],nodes:=stNs body,vars:=ps.length+stVs body,deep:=c.deep||stsBad 1 body }) .none rfl  0 (by kernel_rfl) rfl rfl (fun w h1 hw=>(count_any body p { c with An:=none,cn:=0,nm:=[],nodes:=0,vars:=ps.length } F A2 c2 cb 1 w (by dsimp only;omega) (by dsimp only;omega) (by omega) hF h1 ((hX _ (HpG.x hw).2).get wQ.lies ⟨p2,h2⟩)).mono fun e w' ⟨e1,e2,e3⟩=>⟨(),trivial,e1,e2,by rw[e3];dsimp only;rw[Kk]⟩) (fun _ _=>?_);generalize hdp:(c.deep||stsBad 1 body)=dp;refine ZT<|xA (ι:=Unit) (fun _=>[(0,.pointer (some ⟨cb,0,none⟩)),(3,.pointer (some ⟨b3,0,none⟩))]) (fun _=>Hp (fun _=>False) w0 [(cb,cO p { c with An:=none,cn:=0,nm:=[],nodes:=stNs body,vars:=ps.length+stVs body,deep:=dp,err:=if many ps.length (stVs body) (stNs body) dp=true then vM c.err 2 else c.err })] [nmR { c with An:=none,cn:=0,nm:=[],nodes:=stNs body,vars:=ps.length+stVs body,deep:=dp,err:=if many ps.length (stVs body) (stNs body) dp=true then vM c.err 2 else c.err }] (fun u=>Blk b3 (bk 62 (fnC nm A1 ps.length c1 A2 body.length c2)) u∧X u)) ?_ (fun _=>?_)
  ·refine xA (ι:=Unit) (fun _=>[(0,.pointer (some ⟨cb,0,none⟩)),(3,.pointer (some ⟨b3,0,none⟩)),(45,.bool (many ps.length (stVs body) (stNs body) dp))]) (fun _=>Hp (fun _=>False) w0 [(cb,cO p { c with An:=none,cn:=0,nm:=[],nodes:=stNs body,vars:=ps.length+stVs body,deep:=dp })] [nmR { c with An:=none,cn:=0,nm:=[],nodes:=stNs body,vars:=ps.length+stVs body,deep:=dp }] (fun u=>Blk b3 (bk 62 (fnC nm A1 ps.length c1 A2 body.length c2)) u∧X u)) ?_ (fun _=>?_)
   ·refine Z2r 0 3 V V<|ZF V (Y62x1 V) ?_;refine ZF V (yO (v:=.slice A1 ps.length c1) V U22 V (fun u h=>by rw[cell_of_row u b3 _ _ _ _ (HpG.x h).1];rfl)) ?_;refine ZF V (yM V U22)<|ZF V (wO V V)<|Zm V V<|zH 26 V (fun g5=>?_) (fun g5=>?_)
    ·replace g5:=Jo g5;refine ZP V<|ZP V<|ZP V<|ZP V<|ZP V<|ZF V (zP V V)<|Zm V V<|ZP V<|ZP V<|ZP V<|ZP V<|ZP V<|ZF V (zP V V)<|Zm V V<|ZP V<|ZP V<|ZP V<|ZP V<|ZF V (zP V V)<|zU<|zA (ι:=Unit) () (.cons V<|.cons V<|.cons ?_<|.nil) (fun w h=>h);show some (Value.bool _)=some (Value.bool _);refine congrArg some (congrArg Value.bool ?_);unfold many
     try dsimp only at g12
     try dsimp only at g19
     first
     | (symm;rw[Kn];exact .inl (by omega))
     | (symm;rw[Kn];exact .inr (.inl (by omega)))
     | (symm;rw[Kn];exact .inr (.inr (.inl (by omega))))
     | (
       try dsimp only
       rw[Jl,Kn]
       exact⟨fun h=>.inr (.inr (.inr h)),fun h=>by
        rcases h with h|h|h|h
        ·exact absurd h (by omega)
        ·exact absurd h (by omega)
        ·exact absurd h (by omega)
        ·exact h⟩)
    ·replace g5:=Jp g5;refine ZG V V V (zO V)<|ZG V V V (yR V)<|ZG V V V (Y100x3 V) ?_;refine ZG V V V (zW 0 V V V U3 V)<|ZG V V V (wO V V)<|ZF V (zL V V)<|Zm V V<|zH 33 V (fun g12=>?_) (fun g12=>?_)
     ·replace g12:=Jo g12;refine ZP V<|ZP V<|ZP V<|ZP V<|ZP V<|ZF V (zP V V)<|Zm V V<|ZP V<|ZP V<|ZP V<|ZP V<|ZF V (zP V V)<|zU<|zA (ι:=Unit) () (.cons V<|.cons V<|.cons ?_<|.nil) (fun w h=>h);show some (Value.bool _)=some (Value.bool _);refine congrArg some (congrArg Value.bool ?_);unfold many
      try dsimp only at g12
      try dsimp only at g19
      first
      | (symm;rw[Kn];exact .inl (by omega))
      | (symm;rw[Kn];exact .inr (.inl (by omega)))
      | (symm;rw[Kn];exact .inr (.inr (.inl (by omega))))
      | (
        try dsimp only
        rw[Jl,Kn]
        exact⟨fun h=>.inr (.inr (.inr h)),fun h=>by
         rcases h with h|h|h|h
         ·exact absurd h (by omega)
         ·exact absurd h (by omega)
         ·exact absurd h (by omega)
         ·exact h⟩)
     ·replace g12:=Jp g12;refine ZG V V V (zO V)<|ZG V V V (yR V)<|ZG V V V (Y100x2 V) ?_;refine ZG V V V (zW 0 V V V U3 V)<|ZG V V V (wO V V)<|ZF V (zL V V)<|Zm V V<|zH 40 V (fun g19=>?_) (fun g19=>?_)
      ·replace g19:=Jo g19;refine ZP V<|ZP V<|ZP V<|ZP V<|ZF V (zP V V)<|zU<|zA (ι:=Unit) () (.cons V<|.cons V<|.cons ?_<|.nil) (fun w h=>h);show some (Value.bool _)=some (Value.bool _);refine congrArg some (congrArg Value.bool ?_);unfold many
       try dsimp only at g12
       try dsimp only at g19
       first
       | (symm;rw[Kn];exact .inl (by omega))
       | (symm;rw[Kn];exact .inr (.inl (by omega)))
       | (symm;rw[Kn];exact .inr (.inr (.inl (by omega))))
       | (
         try dsimp only
         rw[Jl,Kn]
         exact⟨fun h=>.inr (.inr (.inr h)),fun h=>by
          rcases h with h|h|h|h
          ·exact absurd h (by omega)
          ·exact absurd h (by omega)
          ·exact absurd h (by omega)
          ·exact h⟩)
      ·replace g19:=Jp g19;refine ZG V V V (zO V)<|ZG V V V (yR V)<|ZG V V V (Y100x4 V) ?_;refine ZG V V V (zW 0 V V V Tryz.underlying4 V)<|ZF V (zL V V)<|zU<|zA (ι:=Unit) () (.cons V<|.cons V<|.cons ?_<|.nil) (fun w h=>h);show some (Value.bool _)=some (Value.bool _);refine congrArg some (congrArg Value.bool ?_);unfold many
       try dsimp only at g12
       try dsimp only at g19
       first
       | (symm;rw[Kn];exact .inl (by omega))
       | (symm;rw[Kn];exact .inr (.inl (by omega)))
       | (symm;rw[Kn];exact .inr (.inr (.inl (by omega))))
       | (
         try dsimp only
         rw[Jl,Kn]
         exact⟨fun h=>.inr (.inr (.inr h)),fun h=>by
          rcases h with h|h|h|h
          ·exact absurd h (by omega)
          ·exact absurd h (by omega)
          ·exact absurd h (by omega)
          ·exact h⟩)
   ·refine zT V (fun h45=>?_) (fun h45=>?_)
    ·refine zX<|Zm V V<|vV (ι:=Unit) (C:=fun _=>True) (val:=fun _=>.tuple #[]) (ob':=fun _=>cO p { c with An:=none,cn:=0,nm:=[],nodes:=stNs body,vars:=ps.length+stVs body,deep:=dp,err:=vM c.err 2 }) .none V  0 (by kernel_rfl) V V (fun w h1 hw=>(oW p _ 2 cb w h1).mono fun e w' ⟨e1,e2,e3⟩=>⟨(),trivial,e1,e2,e3⟩) (fun _ _=>?_);refine zU<|zA (ι:=Unit) () (O2 V V) (fun w h=>?_);rw[Kp h45];exact h
    ·refine zG<|zA (ι:=Unit) () (O2 V V) (fun w h=>?_);rw[Ko (by simpa using h45)];exact h
  ·generalize he1:(if many ps.length (stVs body) (stNs body) dp=true then vM c.err 2 else c.err)=e1;generalize hc1:({ c with An:=none,cn:=0,nm:=[],nodes:=stNs body,vars:=ps.length+stVs body,deep:=dp,err:=e1 }:CS)=c';have hcd:c'.deep=dp:=by rw[← hc1]
   have hce:c'.err=e1:=by rw[← hc1]
   have hcn:c'.nm=[]:=by rw[← hc1]
   refine zY<|zY<|zX<|ZF V (Y62x1 V) ?_;refine ZF V (yO (v:=.slice A1 ps.length c1) V U22 V (fun u h=>by rw[cell_of_row u b3 _ _ _ _ (HpG.x h).1];rfl)) ?_;refine ZF V (yM V U22)<|Zm V V<|ZT<|yY<|xV (ι:={j:Nat×Option Addr×Nat // j.1≤ps.length}) (fun j=>[(0,.pointer (some ⟨cb,0,none⟩)),(3,.pointer (some ⟨b3,0,none⟩)),(49,.slice A1 ps.length c1),(50,.int .i64 ps.length),(51,.int .i64 j.1.1)]) (fun j=>Hp (fun _=>False) w0 [(cb,cO p (c'.up j.1.2.1 j.1.2.2 ((ps.take j.1.1).foldl tX ([],e1))))] [nmR (c'.up j.1.2.1 j.1.2.2 ((ps.take j.1.1).foldl tX ([],e1)))] (fun u=>Blk b3 (bk 62 (fnC nm A1 ps.length c1 A2 body.length c2)) u∧X u)) (fun j=>ps.length-j.1.1) ⟨(0,none,0),Kl _⟩ ?_ ?_ (fun j=>?_)
   ·exact .cons V<|.cons V<|.cons V<|.cons V<|.cons V<|.nil
   ·intro w h;dsimp only;simp only[List.take_zero,List.foldl_nil];rw[show c'.up none 0 ([],e1)=c' by rw[← hc1];rfl];exact h
   obtain⟨⟨i,An,cn⟩,hi⟩:=j;dsimp only at hi ⊢;refine zY<|zX<|ZF V (xS V V)<|ZX<|zT V (fun hc=>?_) (fun hc=>?_)
   ·replace hc:=Jo hc;obtain⟨g0,o0,rfl⟩:=hA (by omega);have hil:i<ps.length:=by omega
    obtain⟨x,hx⟩:∃x,ps[i]? = some x:=⟨ps[i],Jt hil⟩;have hql:=foldD_len (ps.take i) ([],e1);have hqt:(ps.take i).length≤ps.length:=List.length_take_le' ..;dsimp only[List.length_nil] at hql;have hnx:(ps.take (i+1)).foldl tX ([],e1)=tX ((ps.take i).foldl tX ([],e1)) x:=by rw[wF hx,List.foldl_append];rfl
    refine zG<|zQ<|zY<|yY<|zY<|zX<|ZF rfl (zJ (es:=1) rfl rfl U22 (by kernel_rfl) rfl (by first|decide|omega|(simp;done)|(simp;omega)) rfl) ?_;refine ZF V (yO (v:=.string ⟨x.toArray⟩) V U9 V (fun w h=>RdF.part ((hX _ (HpG.x h).2).get RdF.lies h1) (by rw[strs_len];exact hil) (by omega) (rU hx))) ?_;refine Za V V<|ZT<|Z7r 0 3 5 49 50 51 52 V V V V V V V<|Zm V V<|Zm V V<|xQ (ι:=Option Addr×Nat) (val:=fun _=>.tuple #[]) (H':=fun a=>Hp (fun _=>False) w0 [(cb,cO p (c'.up a.1 a.2 ((ps.take (i+1)).foldl tX ([],e1))))] [nmR (c'.up a.1 a.2 ((ps.take (i+1)).foldl tX ([],e1)))] (fun u=>Blk b3 (bk 62 (fnC nm (some ⟨g0,o0,none⟩) ps.length c1 A2 body.length c2)) u∧X u)) .none V  (vT (by kernel_rfl) V (fun w hw=>(declare_any p (c'.up An cn ((ps.take i).foldl tX ([],e1))) (by show ((ps.take i).foldl tX ([],e1)).1.length≤_;omega) cb x w hw).mono fun e w' ⟨An',cn',e1,e3⟩=>⟨_,e1,(An',cn'),rfl,by rw[hnx];exact e3⟩)) (fun a=>?_);obtain⟨An',cn'⟩:=a;dsimp only;refine zU<|zM<|zQ<|Z7r 0 3 5 49 50 51 52 V V V V V V V<|ZF V (yI V V (i64_in _ (by omega) (by omega))) ?_;refine Zm V V<|zU<|yC (ι:={j:Nat×Option Addr×Nat // j.1≤ps.length}) ⟨(i+1,An',cn'),by show i+1≤_;omega⟩ (by show ps.length-(i+1)<ps.length-i;omega) (O5 V V V V V) (fun w h=>h)
   ·replace hc:=Jp hc;have hie:i=ps.length:=by omega
    subst hie;rw[Kh];have hql:=foldD_len ps ([],e1);dsimp only[List.length_nil] at hql;refine xY<|zN<|zN<|xZ<|zQ<|zX<|Zm V V<|ZF V (Y62x2 V) ?_;refine ZF V (yO (v:=.slice A2 body.length c2) V U58 V (fun u h=>by rw[cell_of_row u b3 _ _ _ _ (HpG.x h).1];rfl)) ?_;refine xQ (ι:=Option Addr×Nat) (val:=fun _=>.tuple #[]) (H':=fun a=>Hp (fun _=>False) w0 [(cb,cO p (c'.up a.1 a.2 (ckB fs body (ps.foldl tX ([],e1)))))] [nmR (c'.up a.1 a.2 (ckB fs body (ps.foldl tX ([],e1))))] (fun u=>Blk b3 (bk 62 (fnC nm A1 ps.length c1 A2 body.length c2)) u∧X u)) .none V  (vT (by kernel_rfl) V (fun w hw=>(cblock_any body p (c'.up An cn (ps.foldl tX ([],e1))) fs F A2 c2 cb w0 v0 _ w hp (by show (ps.foldl tX ([],e1)).1.length+_≤_;omega) hF hP ⟨p2,h2⟩ (fun w h=>hX w h.2) hw).mono fun e w' ⟨An',cn',e1,e3⟩=>⟨_,e1,(An',cn'),rfl,e3⟩)) (fun a=>?_);obtain⟨An',cn'⟩:=a;dsimp only;refine zU<|xI V (fun w hw=>?_);refine⟨c'.up An' cn' (ckB fs body (ps.foldl tX ([],e1))),?_,rfl,Hp.weakX hw fun u hu=>hu.2⟩;unfold ckF CS.up;dsimp only;rw[hcd,← he1,← hdp];simp only[many,Kn]
end Go.Proofs.YtfpkpnkdnammnaaGreatDoor
namespace Go.Proofs.YtfpkpnkdnammnaaGreatDoor
open Go.RowKit
theorem Hp.startSame {w:World}{F:Nat→Prop}:Hp (fun _=>False) w [] [] (wN F w) w :=
 Hp.start ⟨fun k=>F k∧k<w.heap.size,fun k hk=>⟨hk.2,id⟩,fun u hu k h1 h2=>hu k ⟨h1,h2⟩⟩
abbrev cs0:CS:=⟨none,0,[],0,0,false,0⟩
structure CkJ where
 i:Nat
 c:CS
structure CkOk (fs:List Fn) (j:CkJ):Prop where
 i:j.i≤fs.length
 run:(j.c.deep,j.c.err)=(fs.take j.i).foldl (ckF fs) (false,0)
structure OnOk (fs:List Fn) (i:Nat):Prop where
 le:i≤fs.length
 no:∀j,j<i→tG fs (fs.getD j noFn).name=(j:Nat)
theorem check_any (fs:List Fn) (F:Nat→Prop) (A:Option Addr) (cap:Nat) (w_0:World) (hN:∀f∈fs,f.params.length+stNs f.body+stVs f.body≤1000000000000) (hP:PgK F w_0 fs A cap):Calls Tryz.prog 28 #[.agg [Value.slice A fs.length cap].toArray] w_0 fun e w'=>e=.returned (.int .i64 (checkP fs))∧Ext w_0 w':=by
 have hP0:=hP;obtain⟨hcp,xs,hk1,hk2⟩:=hP0;have hlt:=hcp.lt;have hFw:∀k,(fun k=>F k∧k<w_0.heap.size) k→k<w_0.heap.size:=fun k h=>h.2;have hPl:PgK (fun k=>F k∧k<w_0.heap.size) w_0 fs A cap:=PgK.lies.lt hP
 have hA:0<fs.length→∃b off,A=some ⟨b,off,none⟩:=fun h0=>by
  obtain⟨b,off,e,_⟩:=hk1 (by rw[hk2.len];omega);exact⟨b,off,e⟩
 have hSame:∀w,wN F w_0 w→wN (fun k=>F k∧k<w_0.heap.size) w_0 w:=fun w h k h1 h2=>h k h1.1 h2;refine yV (args:=[Value.agg [Value.slice A fs.length cap].toArray]) Tryz.func28 V 61 V (Jn V)<|Z1 0 V<|zD (H':=Hp (fun _=>False) w_0 [] [] (wN F w_0)) (fun u hu=>?_) ?_
 ·subst hu;exact Hp.startSame
 refine zY<|zX<|zC .none V (vY V V) (fun b1=>?_);refine Za V V<|ZX<|zY<|zX<|ZF V (yX 0 V V U32 V (by kernel_rfl)) ?_;refine yT .none V  (v:=.bool (wD fs)) (by kernel_rfl) V (fun w hw=>right_any fs F A cap w ((HpG.x hw).get PgK.lies hP)) ?_;refine ZF V (xJ V)<|ZT<|zT V (fun h11=>?_) (fun h11=>?_)
 ·have hr:wD fs=false:=by simpa using h11
  refine zY<|Z4r 0 1 2 11 V V V V<|Za V V<|ZT<|zK<|zV<|zI V V (fun w hw=>?_);exact⟨by rw[show checkP fs=1 from Kp hr];rfl,(Jq hw).ext⟩
 ·have hr:¬wD fs=false:=by simpa using h11
  refine zG<|zQ<|zY<|zY<|Z4r 0 1 2 11 V V V V<|ZF V (Y32x0 V) ?_;refine ZF V (zW 0 V V V U30 V)<|ZF V (yM V U30)<|ZF V (wO V V)<|ZT<|zT V (fun h15=>?_) (fun h15=>?_)
  ·replace h15:=Jo h15;have hl:16<fs.length:=by omega
   refine zY<|Z5r 0 1 2 11 15 V V V V V<|Za V V<|ZT<|zK<|zV<|zI V V (fun w hw=>?_);exact⟨by rw[show checkP fs=2 from (Ko hr).trans (Kp hl)];rfl,(Jq hw).ext⟩
  ·replace h15:=Jp h15;have hl:¬16<fs.length:=by omega
   refine zG<|zQ<|zY<|Z5r 0 1 2 11 15 V V V V V<|ZF V (yX 0 V V U32 V (by kernel_rfl)) ?_;refine ZF V (yQ [.slice none 0 0,.slice none 0 0,.int .i64 0,.int .i64 0,.bool false,.int .i64 0] [(0,1),(1,1),(2,1),(3,1),(4,1),(5,1)] V (by kernel_rfl) (by kernel_rfl) V) ?_;refine zC .none V (vY V V) (fun b18=>?_);refine Za V V<|ZX<|zY<|Z6r 0 1 2 3 11 15 V V V V V V<|ZF V (Y32x0 V) ?_;refine ZF V (zW 1 V V V U30 V)<|ZF V (yM V U30)<|Zm V V<|ZT<|yY<|xV (ι:={i:Nat // OnOk fs i}) (fun i=>[(1,.pointer (some ⟨b1,0,none⟩)),(3,.pointer (some ⟨b18,0,none⟩)),(20,.slice A fs.length cap),(21,.int .i64 fs.length),(22,.int .i64 i.1)]) (fun _=>Hp (fun _=>False) w_0 [(b18,cO ⟨A,fs.length,cap⟩ cs0),(b1,bk 32 [.slice A fs.length cap])] [] (wN F w_0)) (fun i=>fs.length-i.1) ⟨0,⟨Kl _,fun _ h=>absurd h (by omega)⟩⟩ ?_ ?_ (fun i=>?_)
   ·exact .cons V<|.cons V<|.cons V<|.cons V<|.cons V<|.nil
   ·exact fun w h=>h
   obtain⟨i,hi,hno⟩:=i;dsimp only;refine zY<|zX<|ZF V (xS V V)<|ZX<|zT V (fun hc=>?_) (fun hc=>?_)
   ·replace hc:=Jo hc;obtain⟨g0,o0,rfl⟩:=hA (by omega);have hil:i<fs.length:=by omega
    obtain⟨x,hx⟩:∃x,fs[i]? = some x:=⟨fs[i],Jt hil⟩;obtain⟨a,hfix⟩:=hk2.fix hx;have hcell:=(hfix F w_0 hk2).2;have hgx:fs.getD i noFn=x:=by rw[Ka,hx];rfl
    refine zG<|zQ<|zY<|yY<|zY<|zX<|Zm rfl rfl<|ZF rfl (zJ (es:=3) rfl rfl U30 (by kernel_rfl) rfl (by first|decide|omega|(simp;done)|(simp;omega)) rfl) ?_;refine ZF V (yD (cs:=rG x a) V U62 V (by kernel_rfl) (fun w h j v hv=>RdF.part ((HpG.x h).get RdF.lies hk1) (Jm.1 (hcell j v hv)).1 (by omega) (hcell j v hv))) ?_;refine zC .none V (yK (z:=.agg #[.string ⟨#[]⟩,.slice none 0 0,.slice none 0 0]) (cs:=Jg) (by kernel_rfl) V) (fun b5=>?_);refine Za V V<|ZR 0 V V V V V (by kernel_rfl) ?_;refine ZX<|Z8r 1 3 4 5 20 21 22 23 V V V V V V V V<|Zm V V<|ZF V (Y62x0 V) ?_;refine ZF V (zW 0 V V V U9 V)<|yT .none V  (v:=.int .i64 (tG fs x.name)) (by kernel_rfl) V (fun w hw=>find_any _ cs0 fs V F b18 x.name w (HpG.blkL hw (j:=1) V) ((HpG.x hw).get PgK.lies hP)) ?_;refine Zm V V<|ZF V (sW V V)<|ZT<|zT V (fun h32=>?_) (fun h32=>?_)
    ·replace h32:=tQ h32;refine zY<|Z9r 1 3 4 5 20 21 22 23 32 V V V V V V V V V<|Za V V<|ZT<|zK<|zR<|zV<|zV<|zR<|zV<|zI V V (fun w hw=>?_);refine⟨?_,(Jq hw).ext⟩;rw[show checkP fs=22 from (Ko hr).trans ((Ko hl).trans (Kp (List.any_eq_true.2 ⟨i,List.mem_range.2 hil,by rw[hgx,Kn];exact h32⟩)))];rfl
    ·replace h32:=rO h32;have h32':tG fs x.name=(i:Nat):=by simpa using h32
     refine zG<|zM<|zQ<|Z9r 1 3 4 5 20 21 22 23 32 V V V V V V V V V<|ZF V (yI V V (i64_in _ (by omega) (by omega))) ?_;refine Zm V V<|zU<|yC (ι:={i:Nat // OnOk fs i}) ⟨i+1,⟨by omega,fun j hj=>?_⟩⟩ (by show fs.length-(i+1)<fs.length-i;omega) (O5 V V V V V) (fun w h=>Hp.drop h (Js _ _) (Jr _));rcases Nat.lt_or_ge j i with h1|h1
     ·exact hno j h1
     ·have:j=i:=by omega
      subst this;rw[hgx];exact h32'
   ·replace hc:=Jp hc;have hie:i=fs.length:=by omega
    subst hie
    have hon:¬(List.range fs.length).any (fun i=>decide (tG fs (fs.getD i noFn).name≠i))=true:=by
     rw[List.any_eq_true]
     rintro⟨j,hj,hd⟩
     exact Jo hd (hno j (List.mem_range.1 hj))
    refine xY<|zN<|zN<|xZ<|zQ<|zY<|zX<|Zm V V<|yT .none V  (v:=.int .i64 (tG fs [109,97,105,110])) (by kernel_rfl) V (fun w hw=>find_any _ cs0 fs V F b18 [109,97,105,110] w (HpG.blkL hw (j:=0) V) ((HpG.x hw).get PgK.lies hP)) ?_;refine Za V V<|ZX<|zY<|Z7r 1 3 6 20 21 22 23 V V V V V V V<|Zm V V<|ZF V (xS V V)<|ZT<|zT V (fun h37=>?_) (fun h37=>?_)
    ·replace h37:=Jo h37;have hm:tG fs [109,97,105,110]<0:=by simpa using h37
     refine zY<|Z8r 1 3 6 20 21 22 23 37 V V V V V V V V<|Za V V<|ZT<|zK<|zV<|zI V V (fun w hw=>?_);exact⟨by rw[show checkP fs=21 from (Ko hr).trans ((Ko hl).trans ((Ko hon).trans (Kp hm)))];rfl,(Jq hw).ext⟩
    ·replace h37:=Jp h37;have hm:¬tG fs [109,97,105,110]<0:=by simpa using h37
     obtain⟨i,y,hfi,hy,_⟩:=idxQ_some hm;have hil:=(Jm.1 hy).1;obtain⟨g0,o0,rfl⟩:=hA (by omega);obtain⟨a,hfix⟩:=hk2.fix hy;have hcell:=(hfix F w_0 hk2).2;have hfi:tG fs [109,97,105,110]=(i:Nat):=hfi;have hgd:fs.getD (tG fs [109,97,105,110]).toNat noFn=y:=by rw[hfi,Int.toNat_natCast,Ka,hy];rfl
     rw[hfi];refine zG<|zQ<|zY<|zY<|Z8r 1 3 6 20 21 22 23 37 V V V V V V V V<|ZF V (Y32x0 V) ?_;refine ZF rfl (zW 1 rfl rfl rfl U30 rfl)<|Zm rfl rfl<|ZF rfl (zJ (es:=3) rfl rfl U30 (by kernel_rfl) rfl (by first|decide|omega|(simp;done)|(simp;omega)) rfl) ?_;refine ZF V (Y62x1 V) ?_;refine ZF V (yO (v:=.slice a.A1 y.params.length a.c1) V U22 V (fun w h=>RdF.part ((HpG.x h).get RdF.lies hk1) (Jm.1 (hcell 1 _ V)).1 (by omega) (hcell 1 _ V))) ?_;refine ZF V (yM V U22)<|ZF V (wO V V)<|ZT<|zT V (fun h45=>?_) (fun h45=>?_)
     ·replace h45:=Jo h45;have hy0:0<(fs.getD (tG fs [109,97,105,110]).toNat noFn).params.length:=by rw[hgd];omega
      refine zY<|Z9r 1 3 6 20 21 22 23 37 45 V V V V V V V V V<|Za V V<|ZT<|zK<|zV<|zI V V (fun w hw=>?_);exact⟨by rw[show checkP fs=23 from (Ko hr).trans ((Ko hl).trans ((Ko hon).trans ((Ko hm).trans (Kp hy0))))];rfl,(Jq hw).ext⟩
     ·replace h45:=Jp h45;have hy0:¬0<(fs.getD (tG fs [109,97,105,110]).toNat noFn).params.length:=by rw[hgd];omega
      refine zG<|zQ<|zY<|zY<|Z9r 1 3 6 20 21 22 23 37 45 V V V V V V V V V<|ZF V (Y32x0 V) ?_;refine ZF V (zW 1 V V V U30 V)<|ZF V (yM V U30)<|Zm V V<|ZT<|yY<|xV (ι:={j:CkJ // CkOk fs j}) (fun j=>[(3,.pointer (some ⟨b18,0,none⟩)),(47,.slice (some ⟨g0,o0,none⟩) fs.length cap),(48,.int .i64 fs.length),(49,.int .i64 j.1.i)]) (fun j=>Hp (fun _=>False) w_0 [(b18,cO ⟨some ⟨g0,o0,none⟩,fs.length,cap⟩ j.1.c)] [nmR j.1.c] (wN F w_0)) (fun j=>fs.length-j.1.i) ⟨⟨0,cs0⟩,⟨Kl _,rfl⟩⟩ ?_ ?_ (fun j=>?_)
      ·exact .cons V<|.cons V<|.cons V<|.cons V<|.nil
      ·exact fun w h=>Hp.nil (Hp.drop h (.cons_cons _ (Kf _)) (Jr _)) 9 1
      obtain⟨⟨i,c⟩,hi,hrun⟩:=j;dsimp only at hi hrun ⊢;refine zY<|zX<|ZF V (xS V V)<|ZX<|zT V (fun hc=>?_) (fun hc=>?_)
      ·replace hc:=Jo hc;have hil:i<fs.length:=by omega
       obtain⟨x,hx⟩:∃x,fs[i]? = some x:=⟨fs[i],Jt hil⟩;obtain⟨a,hfix⟩:=hk2.fix hx;have hcell:=(hfix F w_0 hk2).2;have hxk:=(hfix F w_0 hk2).1;refine zG<|zQ<|zY<|yY<|zY<|zX<|ZF rfl (zJ (es:=3) rfl rfl U30 (by kernel_rfl) rfl (by first|decide|omega|(simp;done)|(simp;omega)) rfl) ?_;refine ZF V (yD (cs:=rG x a) V U62 V (by kernel_rfl) (fun w h j v hv=>RdF.part ((HpG.x h).get RdF.lies hk1) (Jm.1 (hcell j v hv)).1 (by omega) (hcell j v hv))) ?_;refine zC .none V (yK (z:=.agg #[.string ⟨#[]⟩,.slice none 0 0,.slice none 0 0]) (cs:=Jg) (by kernel_rfl) V) (fun b8=>?_);refine ZR 0 V V V V V (by kernel_rfl) ?_;refine ZT<|Z6r 3 8 47 48 49 50 V V V V V V<|Zm V V<|ZF V (yX 0 V V U62 V (by kernel_rfl)) ?_;refine xQ (ι:={c':CS // (c'.deep,c'.err)=ckF fs (c.deep,c.err) x}) (val:=fun _=>.tuple #[]) (H':=fun c'=>Hp (fun _=>False) w_0 [(b18,cO ⟨some ⟨g0,o0,none⟩,fs.length,cap⟩ c'.1)] [nmR c'.1] (fun u=>Blk b8 (bk 62 (rG x a)) u∧wN F w_0 u)) .none V  (vT (by kernel_rfl) V (fun w hw=>(cfunction_any ⟨some ⟨g0,o0,none⟩,fs.length,cap⟩ c fs x a (fun k=>F k∧k<w_0.heap.size) b18 w_0 w_0 _ w V (hN x (Ju hx)) (fun k hk e=>by have:=HpG.mineL hw (j:=1) V id;omega) hPl (fnsK.lies.lt hxk) (fun w h=>hSame w h.2) (Hp.toX hw id)).mono fun e w' ⟨c',e1,e2,e3⟩=>⟨_,e2,⟨c',e1⟩,rfl,e3⟩)) (fun c'=>?_);obtain⟨c',hc'⟩:=c';dsimp only;refine zU<|zM<|zQ<|Z6r 3 8 47 48 49 50 V V V V V V<|ZF V (yI V V (i64_in _ (by omega) (by omega))) ?_;refine Zm V V<|zU<|yC (ι:={j:CkJ // CkOk fs j}) ⟨⟨i+1,c'⟩,⟨hil,by dsimp only;rw[wF hx,List.foldl_append,← hrun,hc'];rfl⟩⟩ (by show fs.length-(i+1)<fs.length-i;omega) (O4 V V V V) (fun w h=>Hp.weakX h fun u hu=>hu.2)
      ·replace hc:=Jp hc;have hie:i=fs.length:=by omega
       subst hie;rw[Kh] at hrun;refine xY<|zN<|zN<|xZ<|zQ<|zY<|zX<|Zm V V<|Zn V V<|ZF V (zZ (off:=5) (sz:=0) V U100 (by kernel_rfl) V) ?_;refine ZF V (zW 0 V V V U41 V)<|Za V V<|ZT<|zK<|zI V V (fun w hw=>?_);exact⟨by rw[show checkP fs=c.err from (Ko hr).trans ((Ko hl).trans ((Ko hon).trans ((Ko hm).trans ((Ko hy0).trans (by rw[← hrun])))))],(Jq hw).ext⟩
end Go.Proofs.YtfpkpnkdnammnaaGreatDoor
