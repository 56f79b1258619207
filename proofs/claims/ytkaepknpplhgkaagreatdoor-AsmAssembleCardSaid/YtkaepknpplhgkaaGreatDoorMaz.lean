import Derived.Test.YtkaepknpplhgkaaGreatDoorMay
import Derived.Test.YtkaepknpplhgkaaGreatDoorMap
import Derived.Test.YtkaepknpplhgkaaGreatDoorMar
set_option maxRecDepth 100000
set_option maxHeartbeats 2000000
namespace Go.Proofs.YtkaepknpplhgkaaGreatDoor
open Go.RowKit
theorem RdF.adr {F:Nat→Prop}{A:Option Addr}{cs:List Value}{w:World}(h:RdF F A cs w):∃g o,0<cs.length→A=some ⟨g,o,none⟩:=by
 by_cases h0:0<cs.length
 ·obtain⟨g,o,e,_⟩:=h h0;exact⟨g,o,fun _=>e⟩
 exact⟨0,0,fun h9=>absurd h9 h0⟩
theorem opc_adr {F:Nat→Prop}{A:Option Addr}{l:List AOp}{w:World}(h:RdF F A (vI l) w):∃g o,0<l.length→A=some ⟨g,o,none⟩:=by
 obtain⟨g,o,e⟩:=h.adr;exact⟨g,o,fun h0=>e (by rw[opsC_len];omega)⟩
theorem uU {F:Nat→Prop}{A:Option Addr}{l:List AOp}{w:World}{g o:Nat}(hA:0<l.length→A=some ⟨g,o,none⟩) {k:Nat}{x:AOp}(hx:l[k]? = some x) (h:RdF F A (vI l) w) (j:Nat) {v:Value}(hj:(aoC x)[j]? = some v):w.cell? ⟨g,o+k*6+j,none⟩=some v:=by
 have hk:=(Kg.1 hx).1;rw[hA (by omega)] at h;have h9:=opsC_at hx j v hj;exact h.part (Kg.1 h9).1 (by omega) h9
theorem u3c_adr {F:Nat→Prop}{A:Option Addr}{v:List Nat}{w:World}(h:RdF F A (uS v) w):∃g o,0<v.length→A=some ⟨g,o,none⟩:=by
 obtain⟨g,o,e⟩:=h.adr;exact⟨g,o,fun h0=>e (by unfold uS;rw[Ak];exact h0)⟩
theorem qA {F:Nat→Prop}{A:Option Addr}{v:List Nat}{w:World}{g o:Nat}(hA:0<v.length→A=some ⟨g,o,none⟩) {k:Nat}{x:Nat}(hx:v[k]? = some x) (h:RdF F A (uS v) w):w.cell? ⟨g,o+k*1,none⟩=some (.int .u32 (x:Nat)):=by
 have hk:=(Kg.1 hx).1;rw[hA (by omega)] at h;exact h.part (i:=k) (by unfold uS;rw[Ak];exact hk) (by omega) (by unfold uS;rw[List.getElem?_map,hx];rfl)
theorem vO {A:Option Addr}{g o n c:Nat}(h:A=some ⟨g,o,none⟩):some (Value.slice A n c)=some (Value.slice (some ⟨g,o,none⟩) n c):=by rw[h]
theorem getDA {α:Type}{l:List α}{k:Nat}{x d:α}(h:l[k]? = some x):l.getD k d=x:=by rw[Ku,h];rfl
theorem kop_sel {s:RSt}(hs:RsOk s):(kopN s<0∧tN s.op s.suf s.shape=none)∨∃sel f,∃o:Nat,tN s.op s.suf s.shape=some (sel,f)∧kopN s=(o:Nat)∧o<131∧opK sel s.l=(o:Nat):=by
 unfold kopN
 cases h:tN s.op s.suf s.shape with
 | none=>exact .inl ⟨(show (-1:Int)<0 by decide),rfl⟩
 | some p =>
  obtain⟨sel,f⟩:=p;have:=opK_rngR h s.l (by rw[hs.sh,sI]);have e:opK sel s.l=((opK sel s.l).toNat:Nat):=by omega
  exact .inr ⟨sel,f,(opK sel s.l).toNat,rfl,e,by omega,e⟩
theorem wsizeS_any (kind:Int) (s:RSt) (hs:RsOk s) (A:Option Addr) (c:Nat) (z a:Int) (hc:s.l.length≤c) (F:Nat→Prop) (w_0:World) (hX:RdF F A (vI s.l) w_0):Calls Tryz.prog 49 #[.int .i64 kind,.agg (rsC s A c z a).toArray] w_0 fun e w'=>e=.returned (.int .i64 (wQ kind s))∧Ext w_0 w':=by
 have hop:=hs.op;have hsu:=hs.su;have hn:=hs.n;obtain⟨gA,oA,hAe⟩:=opc_adr hX;generalize hv:wQ kind s=v;unfold wQ at hv;refine zN (args:=[.int .i64 kind,.agg (rsC s A c z a).toArray]) Tryz.func49 M 45 M (Kh M)<|Z2 0 1 M<|zG (H':=Jy w_0 [] [] (RdF F A (vI s.l))) (fun u hu=>?_) ?_;subst hu;exact Hp.startRd hX;refine zX<|zZ<|zA .none M (yQ M M) fun b3=>Za M M<|ZX<|zX<|zZ<|ZF M (Y119x1 M) ?_;refine Zl 0 M U9 M<|ZF M (yZ M M U9)<|ZT<|zT M (fun h8=>?_) (fun h8=>?_)
 ·rw[Ah (Ki h8)] at hv;refine zX<|Z5r 0 1 3 4 8 M<|Za M M<|ZT<|zK<|zW<|yY M M fun w hw=>⟨by rw[← hv],(Kk hw).ext⟩
 skip;rw[Ag (Kj h8)] at hv;refine zR<|zV<|zX<|zX<|Z5r 0 1 3 4 8 M<|ZF M (Zo 0 M U119 M)<|Zu (v:=.bool (uB s)) M (fun w hw=>wdata_any s hs A c z a w)<|ZT<|zT M (fun h10=>?_) (fun h10=>?_)
 ·rw[Ah h10] at hv
  have hl0:0<s.l.length:=by
   unfold uB at h10;simp only[Ab,Bool.not_eq_true',decide_eq_false_iff_not] at h10;have h9:=h10.2.1;rw[hs.sh] at h9
   cases hl:s.l with
   | nil=>rw[hl] at h9;exact absurd M h9
   | cons x r=>simp
  refine zX<|zX<|Z6r 0 1 3 4 8 10 M<|ZF M (Y119x1 M) ?_;refine Zl 0 M U9 M<|ZF M (Y119x2 M) ?_;refine Zl 0 M U9 M<|ZF M (yB M M (by (show s.op.length+s.suf.length≤_;omega))) ?_;refine ZT<|zJ<|zX<|Z7r 0 1 3 4 8 10 15 M<|ZF M (yZ M M U9)<|Za M M<|ZT<|zT M (fun h16=>?_) (fun h16=>?_)
  ·rw[Ah (show s.w=tT from Ki h16)] at hv;refine zX<|Z8r 0 1 3 4 8 10 15 16 M<|ZF M (Y119x4 M) ?_;refine Zl 0 M U117 M<|ZF M (yK M U117)<|Za M M<|ZT<|zK<|zM<|zW<|zW<|yY M M fun w hw=>⟨by rw[← hv],(Kk hw).ext⟩
  skip;rw[Ag (show ¬s.w=tT from Kj h16)] at hv;refine zX<|Z8r 0 1 3 4 8 10 15 16 M<|ZF M (yZ M M U9)<|Za M M<|ZT<|zT M (fun h21=>?_) (fun h21=>?_)
  ·rw[Ah (show s.w=uT from Ki h21)] at hv;have hv:(4:Int)*(s.l.length:Nat)=v:=by rw[← hv];omega
   refine zX<|Z9r 0 1 3 4 8 10 15 16 21 M<|ZF M (Y119x4 M) ?_;refine Zl 0 M U117 M<|ZF M (yK M U117)<|ZF M (vE M M (i64_in _ (by omega) (by omega)))<|Za M M<|ZT<|zK<|zM<|zW<|zW<|yY M M fun w hw=>⟨by rw[← hv],(Kk hw).ext⟩
  skip;rw[Ag (show ¬s.w=uT from Kj h21)] at hv;obtain⟨o0,ho0⟩:∃o,s.l[0]? = some o:=⟨s.l[0]'hl0,Kn _⟩;have hor:=(hs.ok o0 (Ko ho0)).n;rw[getDA ho0] at hv;refine zR<|zH<|zV<|zX<|Z9r 0 1 3 4 8 10 15 16 21 M<|ZF M (Y119x4 M) ?_;refine Zl 0 M U117 M<|ZF M (Zi (j:=0) (es:=6) (g:=gA) (o:=oA) (len:=s.l.length) (cap:=c) (vO (hAe hl0)) M Tryz.underlying117 M (by omega) M) ?_;refine ZF M (Y125x3 M) ?_;refine ZF M (zL (v:=.int .u32 o0.n) M U22 M (fun w hw=>uU hAe ho0 (HpG.x hw) 3 M))<|ZF M (Zc M U3 (i64_in _ (by omega) (by omega)))<|Za M M<|ZT<|zK<|zW<|yY M M fun w hw=>⟨by rw[← hv],(Kk hw).ext⟩
 skip;rw[Ag (by rw[h10];simp)] at hv;refine zR<|zV<|zX<|zX<|Z6r 0 1 3 4 8 10 M<|Zm M M<|Ze M<|ZT<|zT M (fun h34=>?_) (fun h34=>?_)
 ·replace h34:=Kq h34;rw[Ah h34] at hv;refine zX<|zX<|Z7r 0 1 3 4 8 10 34 M<|ZF M (Zo 0 M U119 M)<|Zu (v:=.int .i64 (qopN s)) M (fun w hw=>wqop_any s A c z a w)<|ZF M (yR M M)<|ZT<|zT M (fun h37=>?_) (fun h37=>?_)
  ·replace h37:=Ki h37
   have hv:(-1:Int)=v:=by
    unfold qopN at h37
    cases hq:pL s.op s.suf s.shape with
    | none=>rw[hq] at hv;exact hv
    | some z=>rw[hq] at h37;dsimp only at h37;omega
   refine zX<|Z8r 0 1 3 4 8 10 34 37 M<|Za M M<|ZT<|zK<|zW<|zW<|yY M M fun w hw=>⟨by rw[← hv],(Kk hw).ext⟩
  replace h37:=Kj h37
  have hv:(4:Int)=v:=by
   unfold qopN at h37
   cases hq:pL s.op s.suf s.shape with
   | none=>rw[hq] at h37;exact absurd (show (-1:Int)<0 by decide) h37
   | some z=>rw[hq] at hv;exact hv
  refine zR<|zV<|zX<|Z8r 0 1 3 4 8 10 34 37 M<|Za M M<|ZT<|zK<|zW<|yY M M fun w hw=>⟨by rw[← hv],(Kk hw).ext⟩
 replace h34:=yT h34;rw[Ag h34] at hv;refine zR<|zV<|zX<|Z7r 0 1 3 4 8 10 34 M<|ZF M (Zo 0 M U119 M)<|Zu (v:=.int .i64 (kopN s)) M (fun w hw=>wkop_any s hs A c z a hc F w (HpG.x hw))<|Za M M<|ZX<|zX<|Z8r 0 1 3 4 5 8 10 34 M<|Zm M M<|ZF M (yR M M)<|ZT<|zT M (fun h41=>?_) (fun h41=>?_)
 ·replace h41:=Ki h41
  have hv:(-1:Int)=v:=by
   rcases kop_sel hs with ⟨_,h⟩|⟨sel,f,o,_,h,_⟩;rw[h] at hv;exact hv;omega
  refine zX<|Z9r 0 1 3 4 5 8 10 34 41 M<|Za M M<|ZT<|zK<|zW<|yY M M fun w hw=>⟨by rw[← hv],(Kk hw).ext⟩
 replace h41:=Kj h41;obtain⟨sel,f,o,hk,hko,ho,hoe⟩:=(kop_sel hs).resolve_left (fun h=>h41 h.1);rw[hk] at hv;have hv:((szN (fmN (opK sel s.l)):Nat):Int)=v:=hv;rw[hoe] at hv;rw[hko];refine zR<|zV<|zX<|Z9r 0 1 3 4 5 8 10 34 41 M<|Zm M M<|ZF M (Zc M U5 (Zu8 _))<|Zu (v:=.int .i64 ((szN (fmN ((o:Nat):Int)):Nat):Int)) M (fun w hw=>rsize_any o (by omega) w)<|Za M M<|ZU M M fun w hw=>⟨by rw[← hv],(Kk hw).ext⟩
end Go.Proofs.YtkaepknpplhgkaaGreatDoor
namespace Go.Proofs.YtkaepknpplhgkaaGreatDoor
open Go.RowKit
theorem Hp.startRd2 {F F':Nat→Prop}{A A':Option Addr}{cs cs':List Value}{w:World}(hX:RdF F A cs w) (hX':RdF F' A' cs' w):Jy w [] [] (fun u=>RdF F A cs u∧RdF F' A' cs' u) w :=
 Hp.start ⟨fun k=>k<w.heap.size,fun k hk=>⟨hk,id⟩,fun u' hu'=>⟨RdF.lies.mono (fun _ h=>h.1) (RdF.lies.foot (F:=fun k=>F k∧k<w.heap.size) (fun k hk=>hu' k hk.2) (RdF.lies.lt hX)),RdF.lies.mono (fun _ h=>h.1) (RdF.lies.foot (F:=fun k=>F' k∧k<w.heap.size) (fun k hk=>hu' k hk.2) (RdF.lies.lt hX'))⟩⟩
theorem shp_hd {l:List AOp}(hok:∀o∈l,OpR o) {o:AOp}(h:l[0]? = some o):(xR l).headD 0=114↔o.kind=114:=by
 cases l with
 | nil=>cases h
 | cons x r =>
  cases h;have hk:=(hok o (by simp)).kd;show byL o.kind=114↔_
  constructor
  ·intro e;have:=byL_k hk;rw[e] at this;have e2:((114:UInt8).toNat:Int)=114:=rfl;omega
  intro e;rw[e];rfl
theorem kiR_base (f:Nat) (hf:f=1∨f=2) (op:Int) (sh:Bs) (l:List AOp) (v:List Nat) (at_:Nat):kiR f op sh l v at_=⟨op,if sh.headD 0=114 then (l.getD 0 uN).r else 0,0,-1,0,0,szN f⟩:=by
 rcases hf with rfl|rfl<;>rfl
abbrev kinH (w_0:World) (b8 b6 b3:Nat) (i:KI) (o:Obj) (F:Nat→Prop) (A:Option Addr) (l:List AOp) (F':Nat→Prop) (VA:Option Addr) (v:List Nat):World→Prop:=Jy w_0 [(b8,kiO i),(b6,kiO ⟨0,0,0,0,0,0,0⟩),(b3,o)] [] (fun u=>RdF F A (vI l) u∧RdF F' VA (uS v) u)
theorem wkins_any (s:RSt) (hs:RsOk s) (A:Option Addr) (c:Nat) (z a:Int) (hc:s.l.length≤c) {sel:KSel}{fil:KFil}{o:Nat}(hk:tN s.op s.suf s.shape=some (sel,fil)) (hko:kopN s=(o:Nat)) (ho:o<131) (hoe:opK sel s.l=(o:Nat)) (v:List Nat) (hvl:v.length=s.l.length) (h32:∀x∈v,x<4294967296) (VA:Option Addr) (vc at_:Nat) (hat:at_<4294967296) (F F':Nat→Prop) (w_0:World) (hX:RdF F A (vI s.l) w_0) (hV:RdF F' VA (uS v) w_0) :
  Calls Tryz.prog 141 #[.agg (rsC s A c z a).toArray,.slice VA v.length vc,.int .u32 at_] w_0 fun e w'=>e=.returned (.agg (kiC (kiR (fmN (o:Nat)) (o:Nat) s.shape s.l v at_)).toArray)∧Ext w_0 w':=by
 have hn:=hs.n;obtain⟨gA,oA,hAe⟩:=opc_adr hX;obtain⟨gV,oV,hVe⟩:=u3c_adr hV;obtain⟨_,hsh,hf0⟩:=ksel_fil hk s.l (by rw[hs.sh,sI]);rw[hoe] at hsh hf0;have hflt:=fmN_lt ((o:Nat):Int);have hll:s.l.length=(shpN (fmN ((o:Nat):Int))).length:=by rw[← hsh,hs.sh,sI]
 have hfm:=fun w=>vM ((o:Nat):Int) w;have hsz:=fun w=>rsize_any o (by omega) w;generalize hD:(if s.shape.headD 0=114 then (s.l.getD 0 uN).r else 0)=D;generalize hv:kiR (fmN ((o:Nat):Int)) ((o:Nat):Int) s.shape s.l v at_=r
 have hsz6:∀f,szN f≤7:=fun f=>by
  unfold szN
  by_cases h:f<13
  ·have h9:((List.range 13).all fun f=>decide ([0,1,2,2,3,6,3,7,2,5,2,2,2].getD f 0≤7))=true:=by decide
   exact Ki (uF h9 f h)
  rw[Ku,List.getElem?_eq_none (by simp;omega)];exact Ad _
 have hszf:=hsz6 (fmN ((o:Nat):Int));generalize fmN ((o:Nat):Int)=f at *;refine zN (args:=[.agg (rsC s A c z a).toArray,.slice VA v.length vc,.int .u32 at_]) Tryz.func141 M 106 M (Kh M)<|Z3 0 1 2 M<|zG (H':=Jy w_0 [] [] (fun u=>RdF F A (vI s.l) u∧RdF F' VA (uS v) u)) (fun u hu=>?_) ?_;subst hu;exact Hp.startRd2 hX hV;refine zX<|zZ<|zA .none M (yQ M M) fun b3=>Zt (z:=Jc) (cs:=Jm) M fun b6=>ZX<|zZ<|ZF M (Zo 1 M U119 M) ?_
 refine Zu (v:=.int .i64 ((o:Nat):Int)) M (fun w hw=>by
   have:=wkop_any s hs A c z a hc F w (HpG.x hw).1;rw[hko] at this
   exact this) ?_
 refine Za M M<|ZX<|Z6r 0 1 2 3 6 7 M<|Zm M M<|Zm M M<|ZF M (Zc M U5 (Zu8 _))<|Zu (v:=.int .i64 ((szN f:Nat):Int)) M (fun w hw=>hsz w)<|ZF M (Zb [.int .i64 0,.int .i64 0,.int .i64 0,.int .i64 0,.int .i64 0,.int .u32 0,.int .i64 0] [(0,1),(1,1),(2,1),(3,1),(4,1),(5,1),(6,1)] M)<|Zt (z:=Jc) (cs:=Jm) M fun b8=>ZR 0 M<|ZT<|zB (ι:=Unit) (fun _=>[(1,.slice VA v.length vc),(2,.int .u32 at_),(3,Jx b3),(6,Jx b6),(7,.int .i64 ((o:Nat):Int)),(8,Jx b8)]) (fun _=>kinH w_0 b8 b6 b3 ⟨(o:Nat),D,0,-1,0,0,szN f⟩ (rsB s A c z a) F A s.l F' VA v) ?_ (fun _=>?_)
 ·refine zX<|Z7r 0 1 2 3 6 7 8 M<|ZF M (Y119x4 M) ?_;refine Zl 2 M U117 M<|ZF M (yK M U117)<|ZF M (vS M M)<|Zm M M<|zQ 20 M (fun g5=>?_) (fun g5=>?_)
  ·replace g5:=Ki g5;obtain⟨o0,ho0⟩:∃o,s.l[0]? = some o:=⟨s.l[0]'(by omega),Kn _⟩;have hA1:=hAe (by omega);have hk0:s.shape.headD 0=114↔o0.kind=114:=by rw[hs.sh];exact shp_hd hs.ok ho0
   rw[getDA ho0] at hD;refine ZG M M M (Y119x4 M) ?_;refine ZG M M M (yU 2 M M M U117 M)<|ZG M M M (Zi (j:=0) (es:=6) (g:=gA) (o:=oA) (len:=s.l.length) (cap:=c) (vO hA1) M Tryz.underlying117 M (by omega) M) ?_;refine ZG M M M (Y125x0 M) ?_;refine ZG M M M (zL (v:=.int .u8 o0.kind) M U5 M (fun w hw=>uU hAe ho0 (HpG.x hw).1 0 M))<|Zx M<|Zh M<|ZT<|zT M (fun h27=>?_) (fun h27=>?_)
   ·replace h27:=Kq h27;rw[Ah (hk0.2 (by omega))] at hD;refine Z8r 0 1 2 3 6 7 8 27 M<|ZF M (Y119x4 M) ?_;refine Zl 2 M U117 M<|ZF M (Zi (j:=0) (es:=6) (g:=gA) (o:=oA) (len:=s.l.length) (cap:=c) (vO hA1) M Tryz.underlying117 M (by omega) M) ?_;refine ZF M (Y125x1 M) ?_;refine ZF M (zL (v:=.int .i64 o0.r) M U3 M (fun w hw=>uU hAe ho0 (HpG.x hw).1 1 M))<|ZF M (Y35x1 M) ?_;refine ZS 0 M<|zS ?_;exact zU () (O6 M) (fun w h=>by rw[← hD];exact h)
   replace h27:=yT h27;rw[Ag (fun h=>h27 (by have:=hk0.1 h;omega))] at hD;refine zR ?_;exact zU () (O6 M) (fun w h=>by rw[← hD];exact h)
  replace g5:=Kj g5
  have hD:D=0:=by
   rw[← hD,Ag];rw[hs.sh,List.length_eq_zero_iff.1 (show s.l.length=0 by omega)]
   decide
  refine ZP M<|ZP M<|ZP M<|ZP M<|ZP M<|ZP M<|Zf M<|ZT<|zD M<|zR ?_;exact zU () (O6 M) (fun w h=>by rw[hD];exact h)
 skip;refine zX<|zX<|zZ<|Zm M M<|Zu (v:=.int .i64 ((f:Nat):Int)) M (fun w hw=>hfm w)<|ZT<|zJ<|zX<|Z7r 1 2 3 6 7 8 35 M<|Ze M<|Za M M<|ZT<|zT M (fun h36=>?_) (fun h36=>?_)
 ·replace h36:=Kq h36;obtain rfl:f=3:=by omega
  have hll:s.l.length=2:=hll;obtain⟨o1,ho1⟩:∃o,s.l[1]? = some o:=⟨s.l[1]'(by omega),Kn _⟩;have hA1:=hAe (by omega);have hv:(⟨(o:Nat),D,o1.r,-1,0,0,szN 3⟩:KI)=r:=by rw[← hv,← hD,← getDA (d:=uN) ho1];rfl
  refine Z8r 1 2 3 6 7 8 35 36 M<|ZF M (Y119x4 M) ?_;refine Zl 2 M U117 M<|ZF M (Zi (j:=1) (es:=6) (g:=gA) (o:=oA) (len:=s.l.length) (cap:=c) (vO hA1) M Tryz.underlying117 M (by omega) M) ?_;refine ZF M (Y125x1 M) ?_;refine ZF M (zL (v:=.int .i64 o1.r) M U3 M (fun w hw=>uU hAe ho1 (HpG.x hw).1 1 M))<|ZF M (Y35x2 M) ?_;refine ZS 0 M<|zS<|zH<|zV<|zX<|Z8r 1 2 3 6 7 8 35 36 M<|ZF M (Zo 0 M U35 M)<|ZR 1 M<|ZT<|zK<|yS M M 1 M U35 M (by kernel_rfl) (fun w hw=>?_);subst hv;exact⟨rfl,(Kk hw).ext⟩
 replace h36:=yT h36;refine zB (ι:={y:Bool // y=true↔(f=4∨f=5)}) (fun y=>[(1,.slice VA v.length vc),(2,.int .u32 at_),(3,Jx b3),(6,Jx b6),(7,.int .i64 ((o:Nat):Int)),(8,Jx b8),(35,.int .i64 ((f:Nat):Int)),(44,.bool y.1)]) (fun _=>kinH w_0 b8 b6 b3 ⟨(o:Nat),D,0,-1,0,0,szN f⟩ (rsB s A c z a) F A s.l F' VA v) ?_ (fun y=>?_)
 ·refine zX<|Z8r 1 2 3 6 7 8 35 36 M<|Ze M<|Za M M<|ZT<|zT M (fun h44=>?_) (fun h44=>?_)
  ·replace h44:=Kq h44;refine zR ?_;exact zU ⟨true,⟨fun _=>.inl (by omega),fun _=>rfl⟩⟩ (.cons M<|.cons M<|.cons M<|.cons M<|.cons M<|.cons M<|.cons M<|.consE M (by rw[h44];rfl)<|.nil) Jz
  replace h44:=yT h44;refine Z9r 1 2 3 6 7 8 35 36 44 M<|Ze M<|Za M M<|zS ?_;exact zU ⟨((f:Nat):Int)==5,⟨fun h=>.inr (by have:=Kq h;omega),fun h=>Am.2 (by omega)⟩⟩ (O8 M) Jz
 obtain⟨y,hy44⟩:=y;dsimp only;refine zT M (fun h44=>?_) (fun h44=>?_)
 ·have h44':=hy44.1 h44;have hll:s.l.length=2:=by rcases h44' with rfl|rfl<;>exact hll
  obtain⟨x,hx⟩:∃o,v[1]? = some o:=⟨v[1]'(by omega),Kn _⟩;have hV1:=hVe (by omega);have hx32:=h32 x (Ko hx);have hv:(⟨(o:Nat),D,0,-1,0,x,szN f⟩:KI)=r:=by rcases h44' with rfl|rfl<;>(rw[← hv,← hD,← getDA (d:=0) hx];rfl)
  refine zZ<|Zm M M<|ZF M (Zi (j:=1) (es:=1) (g:=gV) (o:=oV) (len:=v.length) (cap:=vc) (vO hV1) M Tryz.underlying51 M (by omega) M) ?_;refine ZF M (zL (v:=.int .u32 (x:Nat)) M U22 M (fun w hw=>qA hVe hx (HpG.x hw).2))<|ZF M (Y35x5 M) ?_;refine ZS 0 M<|zS<|zH<|zV<|zX<|Z8r 1 2 3 6 7 8 35 44 M<|ZF M (Zo 0 M U35 M)<|ZR 1 M<|ZT<|zK<|yS M M 1 M U35 M (by kernel_rfl) (fun w hw=>?_);subst hv;exact⟨rfl,(Kk hw).ext⟩
 skip;have h44':¬(f=4∨f=5):=fun h=>Bool.false_ne_true (h44.symm.trans (hy44.2 h));refine zB (ι:={y:Bool // y=true↔(f=6∨f=7)}) (fun y=>[(1,.slice VA v.length vc),(2,.int .u32 at_),(3,Jx b3),(6,Jx b6),(7,.int .i64 ((o:Nat):Int)),(8,Jx b8),(35,.int .i64 ((f:Nat):Int)),(51,.bool y.1)]) (fun _=>kinH w_0 b8 b6 b3 ⟨(o:Nat),D,0,-1,0,0,szN f⟩ (rsB s A c z a) F A s.l F' VA v) ?_ (fun y=>?_)
 ·refine zX<|zZ<|Ze M<|Za M M<|ZT<|zT M (fun h51=>?_) (fun h51=>?_)
  ·replace h51:=Kq h51;refine zR ?_;exact zU ⟨true,⟨fun _=>.inl (by omega),fun _=>rfl⟩⟩ (.cons M<|.cons M<|.cons M<|.cons M<|.cons M<|.cons M<|.cons M<|.consE M (by rw[h51];rfl)<|.nil) Jz
  replace h51:=yT h51;refine Z9r 1 2 3 6 7 8 35 44 51 M<|Ze M<|Za M M<|zS ?_;exact zU ⟨((f:Nat):Int)==7,⟨fun h=>.inr (by have:=Kq h;omega),fun h=>Am.2 (by omega)⟩⟩ (O8 M) Jz
 obtain⟨y,hy51⟩:=y;dsimp only;refine zT M (fun h51=>?_) (fun h51=>?_)
 ·have h51':=hy51.1 h51;have hll:s.l.length=2:=by rcases h51' with rfl|rfl<;>exact hll
  obtain⟨o1,ho1⟩:∃o,s.l[1]? = some o:=⟨s.l[1]'(by omega),Kn _⟩;have hA1:=hAe (by omega);have hv:(⟨(o:Nat),D,o1.r,o1.index,o1.scale,o1.n,szN f⟩:KI)=r:=by rcases h51' with rfl|rfl<;>(rw[← hv,← hD,← getDA (d:=uN) ho1];rfl)
  refine zX<|zZ<|ZF M (Y119x4 M) ?_;refine Zl 2 M U117 M<|ZF M (Zi (j:=1) (es:=6) (g:=gA) (o:=oA) (len:=s.l.length) (cap:=c) (vO hA1) M Tryz.underlying117 M (by omega) M) ?_;refine ZF M (Y125x1 M) ?_;refine ZF M (zL (v:=.int .i64 o1.r) M U3 M (fun w hw=>uU hAe ho1 (HpG.x hw).1 1 M))<|ZF M (Y35x2 M) ?_;refine ZS 0 M<|ZX<|Z8r 1 2 3 6 7 8 35 51 M<|ZF M (Y119x4 M) ?_;refine Zl 2 M U117 M<|ZF M (Zi (j:=1) (es:=6) (g:=gA) (o:=oA) (len:=s.l.length) (cap:=c) (vO hA1) M Tryz.underlying117 M (by omega) M) ?_;refine ZF M (Y125x3 M) ?_;refine ZF M (zL (v:=.int .u32 o1.n) M U22 M (fun w hw=>uU hAe ho1 (HpG.x hw).1 3 M))<|ZF M (Y35x5 M) ?_;refine ZS 0 M<|ZX<|Z8r 1 2 3 6 7 8 35 51 M<|ZF M (Y119x4 M) ?_;refine Zl 2 M U117 M<|ZF M (Zi (j:=1) (es:=6) (g:=gA) (o:=oA) (len:=s.l.length) (cap:=c) (vO hA1) M Tryz.underlying117 M (by omega) M) ?_;refine ZF M (zY (off:=4) (sz:=0) M U125 (by kernel_rfl) M) ?_;refine ZF M (zL (v:=.int .i64 o1.index) M U3 M (fun w hw=>uU hAe ho1 (HpG.x hw).1 4 M))<|ZF M (Y35x3 M) ?_;refine ZS 0 M<|ZT<|Z8r 1 2 3 6 7 8 35 51 M<|ZF M (Y119x4 M) ?_;refine Zl 2 M U117 M<|ZF M (Zi (j:=1) (es:=6) (g:=gA) (o:=oA) (len:=s.l.length) (cap:=c) (vO hA1) M Tryz.underlying117 M (by omega) M) ?_;refine ZF M (zY (off:=5) (sz:=0) M U125 (by kernel_rfl) M) ?_;refine ZF M (zL (v:=.int .i64 o1.scale) M U3 M (fun w hw=>uU hAe ho1 (HpG.x hw).1 5 M))<|ZF M (Y35x4 M) ?_;refine ZS 0 M<|zS<|zH<|zV<|zX<|Z8r 1 2 3 6 7 8 35 51 M<|ZF M (Zo 0 M U35 M)<|ZR 1 M<|ZT<|zK<|yS M M 1 M U35 M (by kernel_rfl) (fun w hw=>?_);subst hv;exact⟨rfl,(Kk hw).ext⟩
 skip;have h51':¬(f=6∨f=7):=fun h=>Bool.false_ne_true (h51.symm.trans (hy51.2 h));refine zB (ι:={y:Bool // y=true↔(f=8∨f=9)}) (fun y=>[(1,.slice VA v.length vc),(2,.int .u32 at_),(3,Jx b3),(6,Jx b6),(7,.int .i64 ((o:Nat):Int)),(8,Jx b8),(35,.int .i64 ((f:Nat):Int)),(78,.bool y.1)]) (fun _=>kinH w_0 b8 b6 b3 ⟨(o:Nat),D,0,-1,0,0,szN f⟩ (rsB s A c z a) F A s.l F' VA v) ?_ (fun y=>?_)
 ·refine zX<|zZ<|Ze M<|Za M M<|ZT<|zT M (fun h78=>?_) (fun h78=>?_)
  ·replace h78:=Kq h78;refine zR ?_;exact zU ⟨true,⟨fun _=>.inl (by omega),fun _=>rfl⟩⟩ (.cons M<|.cons M<|.cons M<|.cons M<|.cons M<|.cons M<|.cons M<|.consE M (by rw[h78];rfl)<|.nil) Jz
  replace h78:=yT h78;refine Z9r 1 2 3 6 7 8 35 51 78 M<|Ze M<|Za M M<|zS ?_;exact zU ⟨((f:Nat):Int)==9,⟨fun h=>.inr (by have:=Kq h;omega),fun h=>Am.2 (by omega)⟩⟩ (O8 M) Jz
 obtain⟨y,hy78⟩:=y;dsimp only;refine zT M (fun h78=>?_) (fun h78=>?_)
 ·have h78':=hy78.1 h78;have hll:s.l.length=1:=by rcases h78' with rfl|rfl<;>exact hll
  obtain⟨x,hx⟩:∃o,v[0]? = some o:=⟨v[0]'(by omega),Kn _⟩;have hV1:=hVe (by omega);have hx32:=h32 x (Ko hx);have hv:(⟨(o:Nat),D,0,-1,0,subW (subW x at_) (szN f),szN f⟩:KI)=r:=by rcases h78' with rfl|rfl<;>(rw[← hv,← hD,← getDA (d:=0) hx];rfl)
  refine wc_still 10 (by kernel_rfl) (by kernel_rfl) (fun _ h=>HpG.drew h)<|yO .none M (yW M)<|yO .none M (Zi (j:=0) (es:=1) (g:=gV) (o:=oV) (len:=v.length) (cap:=vc) (vO hV1) M Tryz.underlying51 M (by omega) M) ?_;refine yO .none M (zL (v:=.int .u32 (x:Nat)) M U22 M (fun w hw=>qA hVe hx (HpG.x hw).2))<|yO .none M (yW M)<|yO .none M (vL M M (subW_w hx32 hat))<|yO .none M (Y35x6 M) ?_;refine yO .none M (yU 0 M M M U3 M)<|yO .none M (Zc M U22 (show IntKind.u32.wrap ((szN f:Nat):Int)=((szN f:Nat):Int) from qV _ (by omega) (by omega)))<|yO .none M (vL M M (subW_w (pE _ _) (by omega)))<|yO .none M (Y35x5 M) ?_;refine wt_tail<|ZS 0 M<|zS<|zH<|zV<|zX<|Z8r 1 2 3 6 7 8 35 78 M<|ZF M (Zo 0 M U35 M)<|ZR 1 M<|ZT<|zK<|yS M M 1 M U35 M (by kernel_rfl) (fun w hw=>?_);subst hv;exact⟨rfl,(Kk hw).ext⟩
 skip;have h78':¬(f=8∨f=9):=fun h=>Bool.false_ne_true (h78.symm.trans (hy78.2 h));refine zX<|zZ<|Ze M<|Za M M<|ZT<|zT M (fun h91=>?_) (fun h91=>?_)
 ·replace h91:=Kq h91;obtain rfl:f=10:=by omega
  have hll:s.l.length=1:=hll;obtain⟨x,hx⟩:∃o,v[0]? = some o:=⟨v[0]'(by omega),Kn _⟩;have hV1:=hVe (by omega);have hx32:=h32 x (Ko hx);have hv:(⟨(o:Nat),D,0,-1,0,x,szN 10⟩:KI)=r:=by rw[← hv,← hD,← getDA (d:=0) hx];rfl
  refine Z9r 1 2 3 6 7 8 35 78 91 M<|Zm M M<|ZF M (Zi (j:=0) (es:=1) (g:=gV) (o:=oV) (len:=v.length) (cap:=vc) (vO hV1) M Tryz.underlying51 M (by omega) M) ?_;refine ZF M (zL (v:=.int .u32 (x:Nat)) M U22 M (fun w hw=>qA hVe hx (HpG.x hw).2))<|ZF M (Y35x5 M) ?_;refine ZS 0 M<|zS<|zH<|zV<|zX<|Z9r 1 2 3 6 7 8 35 78 91 M<|ZF M (Zo 0 M U35 M)<|ZR 1 M<|ZT<|zK<|yS M M 1 M U35 M (by kernel_rfl) (fun w hw=>?_);subst hv;exact⟨rfl,(Kk hw).ext⟩
 replace h91:=yT h91;refine zB (ι:={y:Bool // y=true↔(f=11∨f=12)}) (fun y=>[(1,.slice VA v.length vc),(2,.int .u32 at_),(3,Jx b3),(6,Jx b6),(7,.int .i64 ((o:Nat):Int)),(8,Jx b8),(35,.int .i64 ((f:Nat):Int)),(97,.bool y.1)]) (fun _=>kinH w_0 b8 b6 b3 ⟨(o:Nat),D,0,-1,0,0,szN f⟩ (rsB s A c z a) F A s.l F' VA v) ?_ (fun y=>?_)
 ·refine zX<|Z9r 1 2 3 6 7 8 35 78 91 M<|Ze M<|Za M M<|ZT<|zT M (fun h97=>?_) (fun h97=>?_)
  ·replace h97:=Kq h97;refine zR ?_;exact zU ⟨true,⟨fun _=>.inl (by omega),fun _=>rfl⟩⟩ (.cons M<|.cons M<|.cons M<|.cons M<|.cons M<|.cons M<|.cons M<|.consE M (by rw[h97];rfl)<|.nil) Jz
  replace h97:=yT h97;refine Z10r 1 2 3 6 7 8 35 78 91 97 M<|Ze M<|Za M M<|zS ?_;exact zU ⟨((f:Nat):Int)==12,⟨fun h=>.inr (by have:=Kq h;omega),fun h=>Am.2 (by omega)⟩⟩ (O8 M) Jz
 obtain⟨y,hy97⟩:=y;dsimp only;refine zT M (fun h97=>?_) (fun h97=>?_)
 ·have h97':=hy97.1 h97;have hll:s.l.length=2:=by rcases h97' with rfl|rfl<;>exact hll
  obtain⟨x,hx⟩:∃o,v[1]? = some o:=⟨v[1]'(by omega),Kn _⟩;have hV1:=hVe (by omega);have hx32:=h32 x (Ko hx);have hv:(⟨(o:Nat),D,(x:Nat),-1,0,0,szN f⟩:KI)=r:=by rcases h97' with rfl|rfl<;>(rw[← hv,← hD,← getDA (d:=0) hx];rfl)
  refine zZ<|Zm M M<|ZF M (Zi (j:=1) (es:=1) (g:=gV) (o:=oV) (len:=v.length) (cap:=vc) (vO hV1) M Tryz.underlying51 M (by omega) M) ?_;refine ZF M (zL (v:=.int .u32 (x:Nat)) M U22 M (fun w hw=>qA hVe hx (HpG.x hw).2))<|ZF M (Zc M U3 (i64_in _ (by omega) (by omega)))<|ZF M (Y35x2 M) ?_;refine ZS 0 M<|zS<|zH<|zV<|zX<|Z8r 1 2 3 6 7 8 35 97 M<|ZF M (Zo 0 M U35 M)<|ZR 1 M<|ZT<|zK<|yS M M 1 M U35 M (by kernel_rfl) (fun w hw=>?_);subst hv;exact⟨rfl,(Kk hw).ext⟩
 skip;have h97':¬(f=11∨f=12):=fun h=>Bool.false_ne_true (h97.symm.trans (hy97.2 h));have hv:(⟨(o:Nat),D,0,-1,0,0,szN f⟩:KI)=r:=by rw[← hv,← hD,kiR_base f (by omega)]
 refine zR<|zH<|zV<|zX<|zZ<|ZF M (Zo 0 M U35 M)<|ZR 1 M<|ZT<|zK<|yS M M 1 M U35 M (by kernel_rfl) (fun w hw=>?_);subst hv;exact⟨rfl,(Kk hw).ext⟩
end Go.Proofs.YtkaepknpplhgkaaGreatDoor
namespace Go.Proofs.YtkaepknpplhgkaaGreatDoor
open Go.RowKit
def fQ (l:List AOp) (k i:Nat):Int:=if i<k then rgOL l i else 0
abbrev rqC (l:List AOp) (k:Nat):List Value:=[.int .i64 (fQ l k 0),.int .i64 (fQ l k 1),.int .i64 (fQ l k 2)]
theorem fQ_ne {l:List AOp}{k i:Nat}(h:i≠k):fQ l (k+1) i=fQ l k i:=by
 unfold fQ
 by_cases h1:i<k
 rw[Ah h1,Ah (by omega)];rw[Ag h1,Ag (by omega)]
theorem fQ_eq (l:List AOp) (k:Nat):fQ l (k+1) k=rgOL l k∧fQ l k k=0:=by
 unfold fQ;exact⟨Ah (by omega),Ag (by omega)⟩
theorem rq_set {l:List AOp}{k:Nat}(hk:k<3) {r:Int}(h:rgOL l k=r):(rqC l k).set (0+k*1) (.int .i64 r)=rqC l (k+1):=by
 subst h
 match k,hk with
 | 0,_=>unfold rqC;rw[(fQ_eq l 0).1,fQ_ne (l:=l) (k:=0) (i:=1) (by decide),fQ_ne (l:=l) (k:=0) (i:=2) (by decide)];rfl
 | 1,_=>unfold rqC;rw[(fQ_eq l 1).1,fQ_ne (l:=l) (k:=1) (i:=0) (by decide),fQ_ne (l:=l) (k:=1) (i:=2) (by decide)];rfl
 | 2,_=>unfold rqC;rw[(fQ_eq l 2).1,fQ_ne (l:=l) (k:=2) (i:=0) (by decide),fQ_ne (l:=l) (k:=2) (i:=1) (by decide)];rfl
theorem fQ_skip {l:List AOp}{k:Nat}(h:rgOL l k=0) (i:Nat):fQ l k i=fQ l (k+1) i:=by
 by_cases e:i=k
 subst e;rw[(fQ_eq l i).1,(fQ_eq l i).2,h];exact (fQ_ne e).symm
theorem fQ_fin (l:List AOp) (i:Nat):fQ l l.length i=rgOL l i:=by
 unfold fQ
 by_cases h:i<l.length
 exact Ah h;rw[Ag h];unfold rgOL;rw[Ku,List.getElem?_eq_none (by omega)];rfl
theorem imR_at {l:List AOp}{v:List Nat}{k m x:Nat}{o:AOp}(ho:l[k]? = some o) (hx:v[k]? = some x):imR (l.drop k) (v.drop k) m=imR (l.drop (k+1)) (v.drop (k+1)) (if o.kind=118 then x else if o.kind=109 then o.n else m):=by
 rw[rG ho,rG hx];rfl
theorem quo4 (n:Nat) (_h:n<4294967296):IntKind.u32.wrap (((n:Nat):Int).tdiv 4)=((n/4:Nat):Int):=by
 rw[Int.tdiv_eq_ediv_of_nonneg (Int.natCast_nonneg _),u32w];omega
theorem rem4 (n:Nat):((n:Nat):Int).tmod 4=((n%4:Nat):Int):=by
 rw[Int.tmod_eq_emod_of_nonneg (Int.natCast_nonneg _)];rfl
abbrev qinH (w_0:World) (b9 b8 b6 b3:Nat) (r:List Value) (i:QI) (o:Obj) (F:Nat→Prop) (A:Option Addr) (l:List AOp) (F':Nat→Prop) (VA:Option Addr) (v:List Nat):World→Prop:=Jy w_0 [(b9,bk 228 r),(b8,bk 74 (qiC i)),(b6,bk 74 (qiC ⟨0,0,0,0,0⟩)),(b3,o)] [] (fun u=>RdF F A (vI l) u∧RdF F' VA (uS v) u)
theorem wqins_any (s:RSt) (hs:RsOk s) (A:Option Addr) (c:Nat) (z a:Int) (hc:s.l.length≤c) {q:Nat}(hq:qopN s=(q:Nat)) (hl3:s.l.length≤3) (v:List Nat) (hvl:v.length=s.l.length) (h32:∀x∈v,x<4294967296) (VA:Option Addr) (vc at_:Nat) (hat:at_<4294967296) (F F':Nat→Prop) (w_0:World) (hX:RdF F A (vI s.l) w_0) (hV:RdF F' VA (uS v) w_0) :
  Calls Tryz.prog 139 #[.agg (rsC s A c z a).toArray,.slice VA v.length vc,.int .u32 at_] w_0 fun e w'=>e=.returned (.tuple #[.agg (qiC (jqR (qiR (q:Nat) s.l v) at_)).toArray,.bool (!decide (pI (q:Nat)=true∧subW (qiR (q:Nat) s.l v).imm at_%4≠0))])∧(qiR (q:Nat) s.l v).imm<4294967296∧Ext w_0 w':=by
 obtain⟨gA,oA,hAe⟩:=opc_adr hX;obtain⟨gV,oV,hVe⟩:=u3c_adr hV;refine zN (args:=[.agg (rsC s A c z a).toArray,.slice VA v.length vc,.int .u32 at_]) Tryz.func139 M 104 M (Kh M)<|Z3 0 1 2 M<|zG (H':=Jy w_0 [] [] (fun u=>RdF F A (vI s.l) u∧RdF F' VA (uS v) u)) (fun u hu=>?_) ?_;subst hu;exact Hp.startRd2 hX hV;refine zX<|zZ<|zA .none M (yQ M M) fun b3=>Zt (z:=Jf) (cs:=Jp) M fun b6=>Za M M<|ZX<|zZ<|ZF M (Zo 1 M U119 M) ?_
 refine Zu (v:=.int .i64 ((q:Nat):Int)) M (fun w hw=>by
   have:=wqop_any s A c z a w;rw[hq] at this
   exact this) ?_
 refine ZF M (Zb [.int .i64 0,.int .i64 0,.int .i64 0,.int .i64 0,.int .u32 0] [(0,1),(1,1),(2,1),(3,1),(4,1)] M)<|Zt (z:=Jf) (cs:=Jp) M fun b8=>ZR 0 M<|ZX<|Z7r 0 1 2 3 6 7 8 M<|ZF M (wM (cells:=#[.int .i64 0,.int .i64 0,.int .i64 0]) M (by kernel_rfl))<|Zt (z:=.agg #[.int .i64 0,.int .i64 0,.int .i64 0]) (cs:=[.int .i64 0,.int .i64 0,.int .i64 0]) M fun b9=>ZR 0 M<|ZX<|Z8 0 1 2 3 6 7 8 9 M<|zG (H':=qinH w_0 b9 b8 b6 b3 (rqC s.l 0) ⟨(q:Nat),0,0,0,0⟩ (rsB s A c z a) F A s.l F' VA v) Jz<|zZ<|Za M M<|ZX<|zX<|zZ<|Za M M<|ZT<|zJ<|yF (ι:={p:Nat×Nat // p.1≤s.l.length∧imR (s.l.drop p.1) (v.drop p.1) p.2=imR s.l v 0∧p.2<4294967296}) (fun p=>[(1,.slice VA v.length vc),(2,.int .u32 at_),(3,Jx b3),(6,Jx b6),(8,Jx b8),(9,Jx b9),(10,.int .u32 (p.1.2:Nat)),(11,.int .i64 ((p.1.1:Nat):Int))]) (fun p=>qinH w_0 b9 b8 b6 b3 (rqC s.l p.1.1) ⟨(q:Nat),0,0,0,0⟩ (rsB s A c z a) F A s.l F' VA v) (fun p=>s.l.length-p.1.1) ⟨(0,0),Ad _,rfl,by decide⟩ (O8 M) Jz (fun p=>?_);obtain⟨⟨k,m⟩,hkle,him,hm32⟩:=p;dsimp only at hkle him hm32 ⊢;refine zX<|zX<|zZ<|Zm M M<|ZF M (Y119x4 M) ?_;refine Zl 3 M U117 M<|ZF M (yK M U117)<|ZF M (yR M M)<|ZT<|zT M (fun h20=>?_) (fun h20=>?_)
 ·replace h20:=Ki h20;obtain⟨o,ho⟩:∃o,s.l[k]? = some o:=⟨s.l[k]'(by omega),Kn _⟩;obtain⟨x,hx⟩:∃o,v[k]? = some o:=⟨v[k]'(by omega),Kn _⟩;have hA1:=hAe (by omega);have hV1:=hVe (by omega);have hx32:=h32 x (Ko hx);have hor:=hs.ok o (Ko ho);have hrg:rgOL s.l k=if o.kind=118 then 0 else o.r:=by unfold rgOL;rw[getDA ho]
  rw[imR_at ho hx] at him;refine zR<|zV<|zX<|zJ<|zX<|zX<|Z9r 1 2 3 6 8 9 10 11 20 M<|ZF M (Y119x4 M) ?_;refine Zl 3 M U117 M<|Zm M M<|ZF M (Zi (j:=k) (es:=6) (g:=gA) (o:=oA) (len:=s.l.length) (cap:=c) (vO hA1) M Tryz.underlying117 M (by omega) M) ?_;refine ZF M (Y125x0 M) ?_;refine ZF M (zL (v:=.int .u8 o.kind) M U5 M (fun w hw=>uU hAe ho (HpG.x hw).1 0 M))<|Ze M<|ZT<|zT M (fun h29=>?_) (fun h29=>?_)
  ·replace h29:=Kq h29;rw[Ah (show o.kind=118 by omega)] at him hrg;refine Z10r 1 2 3 6 8 9 10 11 20 29 M<|Zm M M<|Zm M M<|ZF M (Zi (j:=k) (es:=1) (g:=gV) (o:=oV) (len:=v.length) (cap:=vc) (vO hV1) M Tryz.underlying51 M (by omega) M) ?_;refine ZF M (zL (v:=.int .u32 (x:Nat)) M U22 M (fun w hw=>qA hVe hx (HpG.x hw).2))<|Za M M<|ZX<|Z10r 1 2 3 6 8 9 10 11 20 29 M<|ZF M (Y119x4 M) ?_;refine Zl 3 M U117 M<|Zm M M<|ZF M (Zi (j:=k) (es:=6) (g:=gA) (o:=oA) (len:=s.l.length) (cap:=c) (vO hA1) M Tryz.underlying117 M (by omega) M) ?_;refine ZF M (Y125x0 M) ?_;refine ZF M (zL (v:=.int .u8 o.kind) M U5 M (fun w hw=>uU hAe ho (HpG.x hw).1 0 M))<|Ze M<|ZT<|zT M (fun h48=>?_) (fun h48=>?_)
   ·replace h48:=Kq h48;omega
   replace h48:=yT h48;refine zR<|zH<|zV<|Z11r 1 2 3 6 8 9 10 11 20 29 48 M<|Zm M M<|ZF M (zF M M (i64_in _ (by omega) (by omega)))<|Za M M<|zS ?_
   exact yV ⟨(k+1,x),by show k+1≤_;omega,him,hx32⟩ (by show s.l.length-(k+1)<s.l.length-k;omega) (O8 M) (fun w h=>by
    dsimp only;unfold rqC;rw[← fQ_skip hrg,← fQ_skip hrg,← fQ_skip hrg]
    exact h)
  replace h29:=yT h29;rw[Ag (show ¬o.kind=118 by omega)] at him hrg;refine Z10r 1 2 3 6 8 9 10 11 20 29 M<|Zm M M<|ZF M (Y119x4 M) ?_;refine Zl 3 M U117 M<|Zm M M<|ZF M (Zi (j:=k) (es:=6) (g:=gA) (o:=oA) (len:=s.l.length) (cap:=c) (vO hA1) M Tryz.underlying117 M (by omega) M) ?_;refine ZF M (Y125x1 M) ?_;refine ZF M (zL (v:=.int .i64 o.r) M U3 M (fun w hw=>uU hAe ho (HpG.x hw).1 1 M))<|ZF M (Zj (j:=k) (es:=1) (len:=3) M M Tryz.underlying228 M (by omega) M) ?_;refine yP .none (wA 0 M M M M (by rw[Nat.blt_eq];show 0+k*1<3;omega) (by kernel_rfl)) (fun _=>?_);refine ZX<|Z10r 1 2 3 6 8 9 10 11 20 29 M<|ZF M (Y119x4 M) ?_;refine Zl 3 M U117 M<|Zm M M<|ZF M (Zi (j:=k) (es:=6) (g:=gA) (o:=oA) (len:=s.l.length) (cap:=c) (vO hA1) M Tryz.underlying117 M (by omega) M) ?_;refine ZF M (Y125x0 M) ?_;refine ZF M (zL (v:=.int .u8 o.kind) M U5 M (fun w hw=>uU hAe ho (HpG.x hw).1 0 M))<|Ze M<|ZT<|zT M (fun h48=>?_) (fun h48=>?_)
  ·replace h48:=Kq h48;rw[Ah (show o.kind=109 by omega)] at him;refine Z11r 1 2 3 6 8 9 10 11 20 29 48 M<|ZF M (Y119x4 M) ?_;refine Zl 3 M U117 M<|Zm M M<|ZF M (Zi (j:=k) (es:=6) (g:=gA) (o:=oA) (len:=s.l.length) (cap:=c) (vO hA1) M Tryz.underlying117 M (by omega) M) ?_;refine ZF M (Y125x3 M) ?_;refine ZF M (zL (v:=.int .u32 o.n) M U22 M (fun w hw=>uU hAe ho (HpG.x hw).1 3 M))<|Za M M<|zS<|zH<|zV<|Z11r 1 2 3 6 8 9 10 11 20 29 48 M<|Zm M M<|ZF M (zF M M (i64_in _ (by omega) (by omega)))<|Za M M<|zS ?_
   exact yV ⟨(k+1,o.n),by show k+1≤_;omega,him,hor.n⟩ (by show s.l.length-(k+1)<s.l.length-k;omega) (O8 M) (fun w h=>by
    dsimp only;rw[← rq_set (by omega) hrg]
    exact h)
  replace h48:=yT h48;rw[Ag (show ¬o.kind=109 by omega)] at him;refine zR<|zH<|zV<|Z11r 1 2 3 6 8 9 10 11 20 29 48 M<|Zm M M<|ZF M (zF M M (i64_in _ (by omega) (by omega)))<|Za M M<|zS ?_
  exact yV ⟨(k+1,m),by show k+1≤_;omega,him,hm32⟩ (by show s.l.length-(k+1)<s.l.length-k;omega) (O8 M) (fun w h=>by
   dsimp only;rw[← rq_set (by omega) hrg]
   exact h)
 replace h20:=Kj h20;obtain rfl:k=s.l.length:=by omega
 rw[List.drop_length] at him;have him:m=imR s.l v 0:=him;obtain⟨R0,hR0⟩:∃R,R=rgOL s.l 0:=⟨_,rfl⟩;obtain⟨R1,hR1⟩:∃R,R=rgOL s.l 1:=⟨_,rfl⟩;obtain⟨R2,hR2⟩:∃R,R=rgOL s.l 2:=⟨_,rfl⟩;refine yM<|zP<|zP<|yN<|zV<|zX<|Z9 1 2 3 6 8 9 10 11 20 M<|zG (H':=qinH w_0 b9 b8 b6 b3 [.int .i64 R0,.int .i64 R1,.int .i64 R2] ⟨(q:Nat),0,0,0,0⟩ (rsB s A c z a) F A s.l F' VA v) (fun w h=>by rw[hR0,hR1,hR2,← fQ_fin,← fQ_fin,← fQ_fin];exact h) ?_;refine zZ<|ZF rfl (Zj (j:=0) (es:=1) rfl rfl U228 rfl (by first|omega|simp<;>omega) rfl) ?_;refine Zl 0 M U3 M<|ZF M (Y74x1 M) ?_;refine ZS 1 rfl<|ZX<|Z9r 1 2 3 6 8 9 10 11 20 rfl<|ZF rfl (Zj (j:=1) (es:=1) rfl rfl U228 rfl (by first|omega|simp<;>omega) rfl) ?_;refine Zl 0 M U3 M<|ZF M (Y74x2 M) ?_;refine ZS 1 rfl<|ZX<|Z9r 1 2 3 6 8 9 10 11 20 rfl<|ZF rfl (Zj (j:=2) (es:=1) rfl rfl U228 rfl (by first|omega|simp<;>omega) rfl) ?_;refine Zl 0 M U3 M<|ZF M (Y74x3 M) ?_;refine ZS 1 M<|ZX<|Z9r 1 2 3 6 8 9 10 11 20 M<|Zm M M<|ZF M (Y74x4 M) ?_;refine ZS 1 M<|ZT<|zB (ι:={i:QI // qiR (q:Nat) s.l v=i∧i.op=(q:Nat)∧i.imm=m}) (fun i=>[(2,.int .u32 at_),(6,Jx b6),(8,Jx b8),(9,Jx b9),(10,.int .u32 (m:Nat))]) (fun i=>qinH w_0 b9 b8 b6 b3 [.int .i64 R0,.int .i64 R1,.int .i64 R2] i.1 (rsB s A c z a) F A s.l F' VA v) ?_ (fun i=>?_)
 ·refine zB (ι:={y:Bool // y=true↔(((q:Nat):Int)=52∨((q:Nat):Int)=54)}) (fun y=>[(2,.int .u32 at_),(6,Jx b6),(8,Jx b8),(9,Jx b9),(10,.int .u32 (m:Nat)),(73,.bool y.1)]) (fun _=>qinH w_0 b9 b8 b6 b3 [.int .i64 R0,.int .i64 R1,.int .i64 R2] ⟨(q:Nat),R0,R1,R2,m⟩ (rsB s A c z a) F A s.l F' VA v) ?_ (fun y=>?_)
  ·refine Z9 1 2 3 6 8 9 10 11 20 M<|zG (H':=qinH w_0 b9 b8 b6 b3 [.int .i64 R0,.int .i64 R1,.int .i64 R2] ⟨(q:Nat),R0,R1,R2,m⟩ (rsB s A c z a) F A s.l F' VA v) Jz<|zZ<|ZF M (Y74x0 M) ?_;refine Zl 1 M U3 M<|Ze M<|Zm M M<|zQ 69 M (fun g4=>?_) (fun g4=>?_)
   ·replace g4:=Kq g4;refine ZP M<|ZP M<|ZP M<|Zh M<|zS ?_;exact zU ⟨true,⟨fun _=>.inl g4,fun _=>rfl⟩⟩ (O6 M) Jz
   replace g4:=yT g4;refine ZG M M M (Y74x0 M) ?_;refine ZG M M M (yU 1 M M M U3 M)<|Zx M<|Zf M<|zS ?_;exact zU ⟨_,⟨fun h=>.inr (Kq h),fun h=>Am.2 (h.resolve_left g4)⟩⟩ (O6 M) Jz
  obtain⟨y,hy⟩:=y;dsimp only;refine zT M (fun h73=>?_) (fun h73=>?_)
  ·have hqi:qiR (q:Nat) s.l v=⟨(q:Nat),0,R0,R2,m⟩:=by unfold qiR;rw[Ah (hy.1 h73),Ah (hy.1 h73),hR0,hR2,him]
   refine zX<|zZ<|ZF M (Y74x1 M) ?_;refine ZS 1 rfl<|ZT<|Z6r 2 6 8 9 10 73 rfl<|ZF rfl (Zj (j:=0) (es:=1) rfl rfl U228 rfl (by first|omega|simp<;>omega) rfl) ?_;refine Zl 0 M U3 M<|ZF M (Y74x2 M) ?_;refine ZS 1 M<|zS ?_;exact zU ⟨_,hqi,rfl,rfl⟩ (O5 M) Jz
  skip
  have hqi:qiR (q:Nat) s.l v=⟨(q:Nat),R0,R1,R2,m⟩:=by
   have h9:=fun h=>Bool.false_ne_true (h73.symm.trans (hy.2 h));unfold qiR;rw[Ag h9,Ag h9,hR0,hR1,hR2,him]
  refine zR ?_;exact zU ⟨_,hqi,rfl,rfl⟩ (O5 M) Jz
 obtain⟨⟨q',D,A2,B2,m'⟩,hqi,e1,e2⟩:=i;dsimp only at e1 e2 ⊢;subst e1;subst e2;rw[hqi];refine zX<|zB (ι:={y:Bool // y=true↔pI (q:Nat)=true}) (fun y=>[(2,.int .u32 at_),(6,Jx b6),(8,Jx b8),(9,Jx b9),(10,.int .u32 (m':Nat)),(90,.bool y.1)]) (fun _=>qinH w_0 b9 b8 b6 b3 [.int .i64 R0,.int .i64 R1,.int .i64 R2] ⟨(q:Nat),D,A2,B2,m'⟩ (rsB s A c z a) F A s.l F' VA v) ?_ (fun y=>?_)
 ·refine zZ<|ZF M (Y74x0 M) ?_;refine Zl 1 M U3 M<|Ze M<|Zm M M<|zQ 81 M (fun g4=>?_) (fun g4=>?_)
  ·replace g4:=Kq g4;refine ZP M<|ZP M<|ZP M<|ZP M<|zE M M M<|zE M M M<|zE M M M<|ZP M<|Zh M<|zS ?_;exact zU ⟨true,⟨fun _=>by unfold pI;rw[An (show ((q:Nat):Int)=40 from g4)];simp,fun _=>rfl⟩⟩ (O6 M) Jz
  replace g4:=yT g4;refine ZG M M M (Y74x0 M) ?_;refine ZG M M M (yU 1 M M M U3 M)<|ZG M M M (yC M M)<|Zv M<|zQ 85 M (fun g8=>?_) (fun g8=>?_)
  ·replace g8:=Ki g8;refine ZG M M M (Y74x0 M) ?_;refine ZG M M M (yU 1 M M M U3 M)<|ZG M M M (xE M M)<|ZG M M M (yA M M)<|Zf M<|zS ?_;have g8':(32:Int)≤(q:Nat):=g8;exact zU ⟨decide (((q:Nat):Int)≤37),by unfold pI;rw[Ao (show ¬((q:Nat):Int)=40 from g4),Bool.or_false,decide_eq_true_iff,decide_eq_true_iff];omega⟩ (O6 M) Jz
  replace g8:=Kj g8;refine ZP M<|ZP M<|ZP M<|ZG M M M (yD M M)<|Zf M<|zS ?_;have g8':¬(32:Int)≤(q:Nat):=g8
  exact zU ⟨false,⟨fun h=>(by cases h),fun h=>by
   unfold pI at h;rw[Ao (show ¬((q:Nat):Int)=40 from g4),Bool.or_false,decide_eq_true_iff] at h
   omega⟩⟩ (O6 rfl) Jz
 obtain⟨y,hy⟩:=y;dsimp only;refine zT M (fun h90=>?_) (fun h90=>?_)
 ·have hj:=hy.1 h90;have hsub:=pE m' at_;refine zX<|zZ<|Zm rfl rfl<|Zm rfl rfl<|ZF rfl (vL rfl rfl (subW_w hm32 hat))<|ZF rfl (yf_quo rfl rfl (by first|decide|omega) (quo4 _ hsub)) ?_;refine Zu (v:=.int .u32 ((sxL (subW m' at_/4) 30:Nat):Int)) M (fun w hw=>rsign_any (subW m' at_/4) 30 (by omega) (by decide) w)<|ZF M (Y74x4 M) ?_;refine ZS 1 rfl<|ZX<|Z6r 2 6 8 9 10 90 rfl<|ZF rfl (Zo 1 rfl U74 rfl)<|Zm rfl rfl<|Zm rfl rfl<|ZF rfl (vL rfl rfl (subW_w hm32 hat))<|ZF rfl (yf_rem rfl rfl (by first|decide|omega) (rem4 _)) ?_;refine Ze M<|ZR 2 M<|Za M M<|ZT<|zK<|zW<|xG M M M 2 M Tryz.underlying74 M (by kernel_rfl) (fun w hw=>?_);refine⟨?_,hm32,(Kk hw).ext⟩;unfold jqR;rw[Ah hj]
  have e:(((subW m' at_%4:Nat):Int)==0)=!decide (pI ((q:Nat):Int)=true∧subW m' at_%4≠0):=by
   by_cases h4:subW m' at_%4=0
   rw[h4,Ao (fun h=>h.2 rfl)];rfl;rw[An ⟨hj,h4⟩,Bool.not_true];exact beq_eq_false_iff_ne.2 (by omega)
  rw[← e];rfl
 skip;have hj:¬pI ((q:Nat):Int)=true:=fun h=>Bool.false_ne_true (h90.symm.trans (hy.2 h));refine zR<|zV<|zX<|zZ<|ZF M (Zo 1 M U74 M)<|ZR 2 M<|Za M M<|ZT<|zK<|xG M M M 2 M Tryz.underlying74 M (by kernel_rfl) (fun w hw=>?_);refine⟨?_,hm32,(Kk hw).ext⟩;unfold jqR;rw[Ag hj,Ao (fun h=>hj h.1)];rfl
end Go.Proofs.YtkaepknpplhgkaaGreatDoor
namespace Go.Proofs.YtkaepknpplhgkaaGreatDoor
open Go.RowKit
theorem putL_at (n i:Nat) (hi:i<4):(wS n 4)[i]? = some (byL (n/2 ^ (8*i)%256)):=by
 rw[putL_four]
 match i,hi with
 | 0,_=>show some _=some _;rw[Nat.pow_zero,Nat.div_one]
 | 1,_=>rfl
 | 2,_=>show some _=some _;rw[Nat.div_div_eq_div_mul]
 | 3,_=>show some _=some _;rw[Nat.div_div_eq_div_mul,Nat.div_div_eq_div_mul]
theorem shr_u (n b:Nat) (hb:b≤32):((n:Nat):Int).fdiv (2 ^ (min ((b:Nat):Int).toNat IntKind.u32.bits))=((n/2 ^ b:Nat):Int):=by
 rw[Int.toNat_natCast,show min b IntKind.u32.bits=b from Nat.min_eq_left hb,Int.fdiv_eq_ediv_of_nonneg _ (Int.le_of_lt (Int.pow_pos (by decide)))];rw[Int.natCast_ediv,Int.natCast_pow];rfl
theorem wput_any (n:Nat) (_hn:n<4294967296) (w_0:World):Calls Tryz.prog 140 #[.int .u32 n,.int .i64 4] w_0 fun e w'=>e=.returned (.string ⟨(wS n 4).toArray⟩)∧Ext w_0 w':=by
 have hl4:(wS n 4).length=4:=rfl;refine zN (args:=[.int .u32 n,.int .i64 4]) Tryz.func140 M 26 M (Kh M)<|Z2 0 1 M<|Z0<|zX<|zZ<|Za M M<|ZX<|zZ<|Za M M<|ZX<|zX<|zZ<|Za M M<|ZT<|zJ<|yF (ι:={i:Nat // i≤4}) (fun i=>[(0,.int .u32 n),(1,.int .i64 4),(5,.string ⟨((wS n 4).take i.1).toArray⟩),(6,.int .i64 ((i.1:Nat):Int))]) (fun _=>Jy w_0 [] [] (fun _=>True)) (fun i=>4-i.1) ⟨0,Ad _⟩ (O4 M) Jz (fun i=>?_);obtain⟨i,hi⟩:=i;dsimp only;refine zX<|zX<|zZ<|Zm M M<|Zm M M<|ZF M (yR M M)<|Zm M M<|zQ 10 M (fun g4=>?_) (fun g4=>?_)
 ·replace g4:=Ki g4;have hat:=putL_at n i (by omega);have htk:((wS n 4).take i).length=i:=by rw[Aa];omega
  refine Zv M<|ZG M M M (yR M M)<|Zh M<|ZT<|zT M (fun h13=>?_) (fun h13=>?_)
  ·replace h13:=Ki h13;refine zR<|zV<|zX<|zJ<|Z5r 0 1 5 6 13 M<|Zm M M<|Zm M M<|Zm M M<|ZF M (vE M M (show IntKind.i64.wrap (8*((i:Nat):Int))=((8*i:Nat):Int) by rw[i64_in _ (by omega) (by omega)];omega)) ?_;refine ZF rfl (qE rfl rfl (by first|decide|omega) (shr_u n (8*i) (by omega))) ?_;refine ZF M (Zc M U5 (low8 (n/2 ^ (8*i))))<|Zs (z:=.int .u8 0) M U53 (fun b22=>?_)
   refine ZF M (sO 0 [byL (n/2 ^ (8*i)%256)] M M Tryz.underlying53 Tryz.underlying5 Tryz.underlying9 M (qX _)) ?_
   refine ZF M (yB M M (by (rw[htk];show i+1≤_;omega))) ?_;refine Za M M<|zS<|zH<|zV<|Z5r 0 1 5 6 13 M<|Zm M M<|ZF M (zF M M (i64_in _ (by omega) (by omega)))<|Za M M<|zS ?_;exact yV ⟨i+1,by omega⟩ (by show 4-(i+1)<4-i;omega) (.cons M<|.cons M<|.consE M (by dsimp only;rw[List.take_add_one,hat];rfl)<|.cons M<|.nil) (fun w h=>Hp.drop h (.cons _ (.refl _)) (.refl _))
  replace h13:=Kj h13;omega
 replace g4:=Kj g4;obtain rfl:i=4:=by omega
 refine ZP M<|ZP M<|Zf M<|ZT<|zD M<|yM<|zP<|zP<|yN<|zV<|zX<|Z5r 0 1 5 6 13 M<|Zm M M<|Za M M<|ZU M M fun w hw=>⟨rfl,(Kk hw).ext⟩
end Go.Proofs.YtkaepknpplhgkaaGreatDoor
namespace Go.Proofs.YtkaepknpplhgkaaGreatDoor
open Go.RowKit
theorem cell_stab {g o:Nat}{v:Value}:tY (fun w=>w.cell? ⟨g,o,none⟩=some v):=fun w ob h=>(World.cell?_of_block (Below.heap_alloc w ob _ (World.block_lt_of_cell? _ _ h))).trans h
theorem kiR_imm {f:Nat}{op:Int}{sh:Bs}{l:List AOp}{v:List Nat}{a:Nat}(hl:∀o∈l,OpR o) (hv:∀x∈v,x<4294967296):(kiR f op sh l v a).imm<4294967296:=by
 have h1:∀k,v.getD k 0<4294967296:=fun k=>by
  rw[Ku]
  cases h:v[k]? with
  | none=>show 0<4294967296;decide
  | some x=>exact hv x (Ko h)
 have h2:∀k,(l.getD k uN).n<4294967296:=fun k=>by
  rw[Ku]
  cases h:l[k]? with
  | none=>show 0<4294967296;decide
  | some x=>exact (hl x (Ko h)).n
 unfold kiR;dsimp only
 split
 show 0<4294967296;decide;exact h1 1;exact h1 1;exact h2 1;exact h2 1;exact pE _ _;exact pE _ _;exact h1 0;show 0<4294967296;decide;show 0<4294967296;decide;show 0<4294967296;decide
theorem jqR_imm {i:QI}{a:Nat}(h:i.imm<4294967296):(jqR i a).imm<4294967296:=by
 unfold jqR
 split
 ·show sxL (subW i.imm a/4) 30<4294967296;unfold sxL;have:=pE i.imm a;have h30:(2:Nat) ^ 30=1073741824:=rfl;have h29:(2:Nat) ^ (30-1)=536870912:=rfl;rw[h30,h29]
  split<;>omega
 exact h
theorem imR_lt {l:List AOp}(hl:∀o∈l,OpR o):∀{v:List Nat}{m:Nat},(∀x∈v,x<4294967296)→m<4294967296→imR l v m<4294967296:=by
 induction l with
 | nil=>intro v m _ h;exact h
 | cons o l ih =>
  intro v m hv hm;refine ih (fun x hx=>hl x (Ky _ hx)) (fun x hx=>hv x (List.mem_of_mem_drop hx)) ?_
  split
  ·cases v with
   | nil=>show 0<4294967296;decide
   | cons x r=>exact hv x (by simp)
  split
  exact (hl o (by simp)).n;exact hm
def cdQx (x:Option Nat):Except Nat Bs:=match x with
 | some w=>.ok (wS w 4)
 | none=>.error 13
def CodPost (r:Except Nat Bs) (w:World) (e:Ending) (w':World):Prop:=Ext w w'∧match r with
 | .ok c=>e=.returned (.tuple #[.string ⟨c.toArray⟩,.int .i64 0])
 | .error k=>e=.returned (.tuple #[.string ⟨#[]⟩,.int .i64 (k:Nat)])
theorem andR_nil {x:Except Nat Bs}:x=yG x fun r=>.ok ([]++r):=by cases x<;>rfl
theorem andR_app {x:Except Nat Bs}{a b:Bs}:(yG (yG x fun r=>.ok (b++r)) fun r=>.ok (a++r))=yG x fun r=>.ok ((a++b)++r):=by
 cases x with
 | error e=>rfl
 | ok r=>show Except.ok (a++(b++r))=Except.ok ((a++b)++r);rw[Kv]
theorem wcode_any (kind:Int) (s:RSt) (hs:RsOk s) (A:Option Addr) (c:Nat) (z a:Int) (hc:s.l.length≤c) (hsz:¬wQ kind s<0) (v:List Nat) (hvl:v.length=s.l.length) (h32:∀x∈v,x<4294967296) (hzr:s.op≠[]→uB s=true→s.w=xT→v.getD 0 0≤65536) (VA:Option Addr) (vc at_:Nat) (hat:at_<4294967296) (F F':Nat→Prop) (w_0:World) (hX:RdF F A (vI s.l) w_0) (hV:RdF F' VA (uS v) w_0) :
  Calls Tryz.prog 51 #[.int .i64 kind,.agg (rsC s A c z a).toArray,.slice VA v.length vc,.int .u32 at_] w_0 (CodPost (nV kind s v at_) w_0):=by
 have hop:=hs.op;have hsu:=hs.su;have hn:=hs.n;obtain⟨gV,oV,hVe⟩:=u3c_adr hV;generalize hr:nV kind s v at_=r;unfold nV at hr;refine zN (args:=[.int .i64 kind,.agg (rsC s A c z a).toArray,.slice VA v.length vc,.int .u32 at_]) Tryz.func51 M 125 M (Kh M)<|Z4 0 1 2 3 M<|zG (H':=Jy w_0 [] [] (fun u=>RdF F A (vI s.l) u∧RdF F' VA (uS v) u)) (fun u hu=>?_) ?_;subst hu;exact Hp.startRd2 hX hV;refine zX<|zZ<|zA .none M (yQ M M) fun b5=>Za M M<|Za M M<|ZX<|zX<|zZ<|ZF M (Y119x1 M) ?_;refine Zl 0 M U9 M<|ZF M (yZ M M U9)<|ZT<|zT M (fun h20=>?_) (fun h20=>?_)
 ·rw[Ah (Ki h20)] at hr;refine zX<|Z8r 0 1 2 3 5 8 9 20 M<|Za M M<|Za M M<|ZT<|zK<|zW<|uW M M M (fun w hw=>?_);subst hr;exact⟨(Kk hw).ext,rfl⟩
 skip;have h20:=Kj h20;rw[Ag h20] at hr;refine zR<|zV<|zX<|zX<|Z8r 0 1 2 3 5 8 9 20 M<|ZF M (Zo 0 M U119 M)<|Zu (v:=.bool (uB s)) M (fun w hw=>wdata_any s hs A c z a w)<|ZT<|zT M (fun h22=>?_) (fun h22=>?_)
 ·rw[Ah h22] at hr
  have hl0:0<s.l.length:=by
   have h10:=h22;unfold uB at h10;simp only[Ab,Bool.not_eq_true',decide_eq_false_iff_not] at h10;have h9:=h10.2.1;rw[hs.sh] at h9
   cases hl:s.l with
   | nil=>rw[hl] at h9;exact absurd M h9
   | cons x r=>simp
  have hV1:=hVe (by omega);obtain⟨W,hW⟩:∃W,W=s.w:=⟨_,rfl⟩;have hWe:s.op++s.suf=W:=hW.symm
  have hWb:W=tT∨W=uT∨W=xT:=by
   have h10:=h22;unfold uB at h10;simp only[Ab,Bool.or_eq_true,Af] at h10;rw[hW];rcases h10.2.2 with h|h|h;exact .inl h;exact .inr (.inl h);exact .inr (.inr h.1)
  rw[← hW] at hr;refine zX<|Z9r 0 1 2 3 5 8 9 20 22 M<|ZF M (Y119x1 M) ?_;refine Zl 0 M U9 M<|ZF M (Y119x2 M) ?_;refine Zl 0 M U9 M<|ZF M (yB M M (by (show s.op.length+s.suf.length≤_;omega))) ?_;rw[hWe];refine Za M M<|ZX<|zX<|Z10r 0 1 2 3 5 8 9 10 20 22 M<|Zm M M<|ZF M (yZ M M U9)<|ZT<|zT M (fun h29=>?_) (fun h29=>?_)
  ·have h29:W=xT:=Ki h29;rw[Ah h29] at hr;obtain⟨x,hx⟩:∃x,v[0]? = some x:=⟨v[0]'(by omega),Kn _⟩;have hzr:=hzr h20 h22 (hW.symm.trans h29);rw[getDA hx] at hzr hr;refine zX<|Z11r 0 1 2 3 5 8 9 10 20 22 29 M<|Zm M M<|ZF M (Zi (j:=0) (es:=1) (g:=gV) (o:=oV) (len:=v.length) (cap:=vc) (vO hV1) M Tryz.underlying51 M (by omega) M) ?_;refine ZF M (zL (v:=.int .u32 (x:Nat)) M U22 M (fun w hw=>qA hVe hx (HpG.x hw).2))<|ZF M (Zc M U3 (show IntKind.i64.wrap ((x:Nat):Int)=((x:Nat):Int) from i64_in _ (by omega) (by omega)))<|zA .none M  (nf_makeSlice (l:=x) (z:=.int .u8 0) (size:=1) (bytes:=1) (cs:=u8L (List.replicate x 0)) M Tryz.underlying53 (by kernel_rfl) (made_u8 x) (by omega) (by omega) (by omega)) (fun b34=>?_)
   refine ZF M (oF (List.replicate x 0) M (fun w hw=>HpG.blk hw (k:=0) M) Tryz.underlying53 Tryz.underlying5 Tryz.underlying9 (List.length_replicate ..) (fun j hj=>by unfold u8L;rw[List.getElem?_map,Ac,Kn hj];rfl)) ?_
   refine Za M M<|Za M M<|ZT<|zK<|zW<|zW<|uW M M M (fun w hw=>?_);subst hr;exact⟨(Kk hw).ext,rfl⟩
  skip;have h29:¬W=xT:=Kj h29;rw[Ag h29] at hr;refine zR<|zV<|zX<|Z11r 0 1 2 3 5 8 9 10 20 22 29 M<|zA .none M  (nf_bs0F (size:=1) Tryz.underlying53 (by kernel_rfl)) fun b36=>Za M M<|ZX<|zX<|Z12r 0 1 2 3 5 8 9 10 11 20 22 29 M<|Za M M<|ZT<|zJ<|yF (ι:={p:Nat×Bs×(Nat×Nat) // (p.1≤v.length∧p.2.1.length≤4*p.1)∧r=yG (bytA (decide (W=uT)) (v.drop p.1)) fun r=>.ok (p.2.1++r)}) (fun p=>[(2,.slice VA v.length vc),(10,.string ⟨W.toArray⟩),(11,.slice (some ⟨p.1.2.2.1,0,none⟩) p.1.2.1.length p.1.2.2.2),(12,.int .i64 ((p.1.1:Nat):Int))]) (fun p=>Jy w_0 [] [rwG p.1.2.2.1 p.1.2.2.2 p.1.2.1] (fun u=>RdF F A (vI s.l) u∧RdF F' VA (uS v) u)) (fun p=>v.length-p.1.1) ⟨(0,[],(b36,0)),⟨Ad _,Ae _⟩,by rw[← hr,Kx];exact andR_nil⟩ (O4 M) (fun w h=>Hp.drop (Hp.toRow (k:=0) h (HpG.mineL (j:=0) h M fun h=>h) M (by decide)) (.cons _ (.refl _)) (.refl _)) (fun p=>?_);obtain⟨⟨k,out,⟨g,cg⟩⟩,⟨hk,hko⟩,hcd⟩:=p;dsimp only at hk hko hcd ⊢;refine zX<|zX<|zZ<|Zm M M<|Zm M M<|ZF M (yK M U51)<|ZF M (yR M M)<|ZT<|zT M (fun h40=>?_) (fun h40=>?_)
  ·replace h40:=Ki h40;obtain⟨x,hx⟩:∃x,v[k]? = some x:=⟨v[k]'(by omega),Kn _⟩;have hx32:=h32 x (Ko hx);have hcell:∀w,RdF F' VA (uS v) w→w.cell? ⟨gV,oV+k*1,none⟩=some (.int .u32 (x:Nat)):=fun w h=>qA hVe hx h;rw[rG hx,bytA_cons] at hcd;refine zR<|zV<|zX<|zJ<|zX<|zB (ι:={y:Bool // y=true↔(decide (W=uT)=false∧255<x∧wE x 8=false)}) (fun y=>[(2,.slice VA v.length vc),(10,.string ⟨W.toArray⟩),(11,.slice (some ⟨g,0,none⟩) out.length cg),(12,.int .i64 ((k:Nat):Int)),(59,.bool y.1)]) (fun _=>Jy w_0 [] [rwG g cg out] (fun u=>RdF F A (vI s.l) u∧RdF F' VA (uS v) u)) ?_ (fun y=>?_)
   ·refine Z5r 2 10 11 12 40 M<|Zm M M<|ZF M (yZ M M U9)<|Zm M M<|zQ 45 M (fun g3=>?_) (fun g3=>?_)
    ·have hb:W=tT:=Ki g3;have hnw:decide (W=uT)=false:=by rw[hb];decide
     refine Zv M<|Zv M<|ZG M M M (Zi (j:=k) (es:=1) (g:=gV) (o:=oV) (len:=v.length) (cap:=vc) (vO hV1) M Tryz.underlying51 M (by omega) M) ?_;refine ZG M M M (zL (v:=.int .u32 (x:Nat)) M U22 M (fun w hw=>hcell w (HpG.x hw).2))<|ZG M M M (yC M M)<|Zh M<|Zm M M<|zQ 52 M (fun g10=>?_) (fun g10=>?_)
     ·replace g10:=Ki g10;refine Zv M<|Zv M<|ZG M M M (Zi (j:=k) (es:=1) (g:=gV) (o:=oV) (len:=v.length) (cap:=vc) (vO hV1) M Tryz.underlying51 M (by omega) M) ?_;refine ZG M M M (zL (v:=.int .u32 (x:Nat)) M U22 M (fun w hw=>hcell w (HpG.x hw).2))<|xW (.some M M) M  (v:=.bool (wE x 8)) (by kernel_rfl) M (fun w hw=>wsigned_any x w)<|ZG M M M (xO M)<|Zh M<|zS<|zU ⟨!(wE x 8),⟨fun h=>⟨hnw,by omega,?_⟩,fun h=>by rw[h.2.2];rfl⟩⟩ (O5 M) Jz
      cases hf:wE x 8 with
      | false=>rfl
      | true=>rw[hf] at h;exact absurd h (by decide)
     replace g10:=Kj g10;refine ZP M<|ZP M<|ZP M<|ZP M<|ZP M<|ZP M<|Zf M<|zS ?_;exact zU ⟨false,⟨fun h=>(by cases h),fun h=>absurd h.2.1 (by omega)⟩⟩ (O5 M) Jz
    skip
    have hb:W=uT:=by
     rcases hWb with h|h|h;exact absurd h (Kj g3);exact h;exact absurd h h29
    refine ZP M<|ZP M<|ZP M<|ZP M<|ZP M<|Zf M<|Zm M M<|ZP M<|ZP M<|ZP M<|ZP M<|ZP M<|ZP M<|Zf M<|zS ?_;exact zU ⟨false,⟨fun h=>(by cases h),fun h=>by rw[hb] at h;exact absurd h.1 (by decide)⟩⟩ (O5 M) Jz
   obtain⟨y,hy⟩:=y;dsimp only;refine zT M (fun h59=>?_) (fun h59=>?_)
   ·rw[Ah (hy.1 h59)] at hcd;have hcd:r=.error 13:=hcd;refine zX<|zZ<|Za M M<|Za M M<|ZT<|zK<|zW<|zM<|zW<|zW<|zM<|zW<|zW<|uW M M M (fun w hw=>?_);subst hcd;exact⟨(Kk hw).ext,rfl⟩
   skip;rw[Ag (fun h=>Bool.false_ne_true (h59.symm.trans (hy.2 h))),andR_app] at hcd;refine zR<|zV<|zX<|zZ<|Zm M M<|Zm M M<|Zm M M<|ZF M (Zi (j:=k) (es:=1) (g:=gV) (o:=oV) (len:=v.length) (cap:=vc) (vO hV1) M Tryz.underlying51 M (by omega) M) ?_;refine ZF M (zL (v:=.int .u32 (x:Nat)) M U22 M (fun w hw=>hcell w (HpG.x hw).2))<|ZF M (Zc M U5 (low8 x))<|Zs (z:=.int .u8 0) M U53 fun b66=>xY (ι:=Nat×Nat) (val:=fun q=>.slice (some ⟨q.1,0,none⟩) (out++[byL (x%256)]).length q.2) (H':=fun q=>Jy w_0 [(b66,bk 5 (Lib.byteCells [byL (x%256)]))] [rwG q.1 q.2 (out++[byL (x%256)])] (fun u=>RdF F A (vI s.l) u∧RdF F' VA (uS v) u)) .none M  (tM (c:=[byL (x%256)]) 0 M (fun w hw=>uA (j:=0) M hw) (Nat.succ_pos _) M M (by show out.length+1≤_;omega)) (fun q=>?_);refine Za M M<|ZX<|Z5r 2 10 11 12 59 M<|Zm M M<|ZF M (yZ M M U9)<|ZT<|zT M (fun h69=>?_) (fun h69=>?_)
   ·have h69:decide (W=uT)=true:=h69;rw[h69] at hcd;refine Z6 2 10 11 12 59 69 M<|uY 20 [0,1,2,3,4,5,6,7,8,9,10,11,12,13,14,15,16,17,18,19] (fun w=>w.cell? ⟨gV,oV+k*1,none⟩=some (.int .u32 (x:Nat))) (by kernel_rfl) (by kernel_rfl) cell_stab (fun w h=>hcell w (HpG.x h).2) (fun n0 hn0=>?_);refine Zd M M M (yW M)<|Zd M M M (yW M)<|Zd M M M (yW M)<|Zd M M M (Zi (j:=k) (es:=1) (g:=gV) (o:=oV) (len:=v.length) (cap:=vc) (vO hV1) M Tryz.underlying51 M (by omega) M) ?_;refine Zd rfl rfl rfl (zL (v:=.int .u32 (x:Nat)) rfl U22 rfl (fun w hw=>hw))<|Zd rfl rfl rfl (qE rfl rfl (by first|decide|omega) (shr_u x 8 (by decide))) ?_;refine Zd M M M (Zc M U5 (low8 (x/2 ^ 8)))<|Zd M M M (yW M)<|Zd M M M (yW M)<|Zd M M M (Zi (j:=k) (es:=1) (g:=gV) (o:=oV) (len:=v.length) (cap:=vc) (vO hV1) M Tryz.underlying51 M (by omega) M) ?_;refine Zd rfl rfl rfl (zL (v:=.int .u32 (x:Nat)) rfl U22 rfl (fun w hw=>hw))<|Zd rfl rfl rfl (qE rfl rfl (by first|decide|omega) (shr_u x 16 (by decide))) ?_;refine Zd M M M (Zc M U5 (low8 (x/2 ^ 16)))<|Zd M M M (yW M)<|Zd M M M (yW M)<|Zd M M M (Zi (j:=k) (es:=1) (g:=gV) (o:=oV) (len:=v.length) (cap:=vc) (vO hV1) M Tryz.underlying51 M (by omega) M) ?_;refine Zd rfl rfl rfl (zL (v:=.int .u32 (x:Nat)) rfl U22 rfl (fun w hw=>hw))<|Zd rfl rfl rfl (qE rfl rfl (by first|decide|omega) (shr_u x 24 (by decide))) ?_;refine Zd M M M (Zc M U5 (low8 (x/2 ^ 24)))<|vP M<|wd_newH ?_ .none M (fun k hk=>Kr hk hn0) (tX (z:=.int .u8 0) M M M M U53 (by kernel_rfl) (by kernel_rfl) M M) (fun b89 hb89=>?_);rfl;refine uE ?_;simp only[Kt,Kx];refine xY (ι:=Nat×Nat) (val:=fun q=>.slice (some ⟨q.1,0,none⟩) ((out++[byL (x%256)])++[byL (x/2 ^ 8%256),byL (x/2 ^ 16%256),byL (x/2 ^ 24%256)]).length q.2) (H':=fun q=>Jy w_0 [(b89,bk 5 (Lib.byteCells [byL (x/2 ^ 8%256),byL (x/2 ^ 16%256),byL (x/2 ^ 24%256)])),(b66,bk 5 (Lib.byteCells [byL (x%256)]))] [rwG q.1 q.2 ((out++[byL (x%256)])++[byL (x/2 ^ 8%256),byL (x/2 ^ 16%256),byL (x/2 ^ 24%256)])] (fun u=>RdF F A (vI s.l) u∧RdF F' VA (uS v) u)) .none M  (tM (c:=[byL (x/2 ^ 8%256),byL (x/2 ^ 16%256),byL (x/2 ^ 24%256)]) 0 M (fun w hw=>uA (j:=0) M hw) (Nat.succ_pos _) M M (by rw[Kb];show out.length+1+3≤_;omega)) (fun q2=>?_);refine Za M M<|zS<|zH<|zV<|Z6r 2 10 11 12 59 69 M<|Zm M M<|ZF M (zF M M (i64_in _ (by omega) (by omega)))<|Za M M<|zS ?_
    have e4:(out++[byL (x%256)])++[byL (x/2 ^ 8%256),byL (x/2 ^ 16%256),byL (x/2 ^ 24%256)]=out++wS x 4:=by
     rw[putL_four,Kv,Nat.div_div_eq_div_mul,Nat.div_div_eq_div_mul];rfl
    rw[e4];exact yV ⟨(k+1,out++wS x 4,(q2.1,q2.2)),⟨by show k+1≤_;omega,by rw[Kb];show out.length+4≤4*(k+1);omega⟩,by rw[h69];exact hcd⟩ (by show v.length-(k+1)<v.length-k;omega) (O4 M) (fun w h=>Hp.drop h (.cons _ (.cons _ (.refl _))) (.refl _))
   skip;have h69:decide (W=uT)=false:=h69;rw[h69] at hcd;refine zR<|zH<|zV<|Z6r 2 10 11 12 59 69 M<|Zm M M<|ZF M (zF M M (i64_in _ (by omega) (by omega)))<|Za M M<|zS ?_;exact yV ⟨(k+1,out++wS x 1,(q.1,q.2)),⟨by show k+1≤_;omega,by rw[Kb];show out.length+1≤4*(k+1);omega⟩,by rw[h69];exact hcd⟩ (by show v.length-(k+1)<v.length-k;omega) (O4 M) (fun w h=>Hp.drop h (.cons _ (.refl _)) (.refl _))
  replace h40:=Kj h40;obtain rfl:k=v.length:=by omega
  rw[List.drop_length] at hcd;have hcd:r=.ok out:=by rw[hcd];show Except.ok (out++[])=_;rw[Al]
  refine yM<|zP<|zP<|yN<|zV<|zX<|Z5r 2 10 11 12 40 M<|Zm M M ?_
  refine ZF M (wG 0 M M) ?_
  refine Za M M<|Za M M<|ZT<|zK<|zW<|uW M M M (fun w hw=>?_);subst hcd;exact⟨(Kk hw).ext,rfl⟩
 skip;rw[Ag (by rw[h22];simp)] at hr;refine zR<|zV<|zX<|zX<|Z9r 0 1 2 3 5 8 9 20 22 M<|Zm M M<|Ze M<|ZT<|zT M (fun h94=>?_) (fun h94=>?_)
 ·replace h94:=Kq h94;rw[Ah h94] at hr
  obtain⟨q,hqz⟩:∃q,pL s.op s.suf s.shape=some q:=by
   cases hq:pL s.op s.suf s.shape with
   | some q=>exact⟨q,rfl⟩
   | none =>
    refine absurd ?_ hsz;unfold wQ;rw[Ag h20,Ag (by rw[h22];simp),Ah h94,hq]
    decide
  have hqn:qopN s=(q:Nat):=by unfold qopN;rw[hqz]
  have hl3:=(qop_l (fun o ho=>(hs.ok o ho).kd) (by rw[← hs.sh];exact hqz)).1;rw[hqz] at hr;have him:(qiR (q:Nat) s.l v).imm<4294967296:=imR_lt hs.ok h32 (by decide);obtain⟨J,hJ⟩:∃J,J=jqR (qiR (q:Nat) s.l v) at_:=⟨_,rfl⟩;have hJi:J.imm<4294967296:=by rw[hJ];exact jqR_imm him
  obtain⟨y,hy⟩:∃y,y=!decide (pI (q:Nat)=true∧subW (qiR (q:Nat) s.l v).imm at_%4≠0):=⟨_,rfl⟩
  have hr:r=if y=false then Except.error 13 else cdQx (tD J):=by
   rw[← hr,hJ,hy]
   by_cases hc9:pI (q:Nat)=true∧subW (qiR (q:Nat) s.l v).imm at_%4≠0
   rw[An hc9];exact Ah hc9;rw[Ao hc9];refine (Ag hc9).trans ?_;cases tD (jqR (qiR (q:Nat) s.l v) at_)<;>rfl
  refine zX<|Z10r 0 1 2 3 5 8 9 20 22 94 M<|ZF M (Zo 0 M U119 M)<|Zm M M<|Zm M M<|Zu (v:=.tuple #[.agg (qiC J).toArray,.bool y]) M (fun w hw=>(wqins_any s hs A c z a hc hqn hl3 v hvl h32 VA vc at_ hat F F' w (HpG.x hw).1 (HpG.x hw).2).mono fun e w' ⟨k1,_,k3⟩=>⟨by rw[k1,hJ,hy],k3⟩) ?_;refine Zm M M<|ZF M (zC M M)<|ZF M (zC M M)<|Zt (z:=Jf) (cs:=Jp) M fun b13=>ZR 0 M<|Za M M<|ZX<|Z12r 0 1 2 3 5 8 9 13 14 20 22 94 M<|ZF M (Zo 0 M U74 M)<|Zu (v:=.tuple #[.int .u32 ((tD J).getD 0),.int .i64 (if uK J=true then 0 else 12)]) M (fun w hw=>rencodeQ_any J hJi w)<|Zm M M<|ZF M (zC M M)<|ZF M (zC M M)<|Za M M<|Za M M<|ZX<|zX<|Z14r 0 1 2 3 5 8 9 13 14 15 16 20 22 94 M<|Zm M M<|ZF M (xO M)<|Zm M M<|zQ 109 M (fun g3=>?_) (fun g3=>?_)
  ·obtain rfl:y=false:=by
    cases y with
    | false=>rfl
    | true=>exact absurd g3 (by decide)
   have hcd:r=.error 13:=hr;refine ZP M<|ZP M<|Zh M<|ZT<|wY M<|zX<|Z15r 0 1 2 3 5 8 9 13 14 15 16 20 22 94 112 M<|Za M M<|Za M M<|ZT<|zK<|zW<|zW<|uW M M M (fun w hw=>?_);subst hcd;exact⟨(Kk hw).ext,rfl⟩
  skip
  obtain rfl:y=true:=by
   cases y with
   | true=>rfl
   | false=>exact absurd g3 (by decide)
  rw[Ag (by decide)] at hr;refine Zv M<|ZG M M M (xF M M)<|Zf M<|ZT<|zT M (fun h112=>?_) (fun h112=>?_)
  ·replace h112:=xD h112
   have hcd:r=.error 13:=by
    rw[hr];unfold uK at h112
    cases hq:tD J with
    | none=>rfl
    | some c=>rw[hq] at h112;exact absurd M h112
   refine zX<|Z15r 0 1 2 3 5 8 9 13 14 15 16 20 22 94 112 M<|Za M M<|Za M M<|ZT<|zK<|zW<|zW<|uW M M M (fun w hw=>?_);subst hcd;exact⟨(Kk hw).ext,rfl⟩
  replace h112:=wJ h112
  obtain⟨W,hW⟩:∃x,tD J=some x:=by
   unfold uK at h112
   cases hq:tD J with
   | none=>rw[hq] at h112;exact absurd h112 (by decide)
   | some c=>exact⟨c,rfl⟩
  have hcd:r=.ok (wS W 4):=by rw[hr,hW];rfl
  refine zR<|zV<|zX<|Z15r 0 1 2 3 5 8 9 13 14 15 16 20 22 94 112 M<|Zm M M<|xW .none M  (v:=.string ⟨(wS W 4).toArray⟩) (by kernel_rfl) (by rw[hW];rfl) (fun w hw=>wput_any W (encQ_lt hW) w) ?_;refine Za M M<|Za M M<|ZT<|zK<|zW<|uW M M M (fun w hw=>?_);subst hcd;exact⟨(Kk hw).ext,rfl⟩
 replace h94:=yT h94;rw[Ag h94] at hr
 obtain⟨sel,fil,o,hk,hko,ho,hoe⟩:=(kop_sel hs).resolve_left (fun h=>by
  refine absurd ?_ hsz;unfold wQ;rw[Ag h20,Ag (by rw[h22];simp),Ag h94,h.2];show (-1:Int)<0
  decide)
 rw[hk] at hr;dsimp only at hr;rw[hoe] at hr;have hIi:(kiR (fmN ((o:Nat):Int)) ((o:Nat):Int) s.shape s.l v at_).imm<4294967296:=kiR_imm hs.ok h32;have hkin:=fun w h1 h2=>wkins_any s hs A c z a hc hk hko ho hoe v hvl h32 VA vc at_ hat F F' w h1 h2;generalize kiR (fmN ((o:Nat):Int)) ((o:Nat):Int) s.shape s.l v at_=I at hr hIi hkin;refine zR<|zV<|zX<|Z10r 0 1 2 3 5 8 9 20 22 94 M<|ZF M (Zo 0 M U119 M)<|Zm M M<|Zm M M<|Zu (v:=.agg (kiC I).toArray) M (fun w hw=>hkin w (HpG.x hw).1 (HpG.x hw).2)<|Zu (v:=.agg #[.string ⟨((tW I).getD []).toArray⟩,.int .i64 (if wW I=true then 0 else 12)]) M (fun w hw=>rencode_any I hIi w)<|Zt (z:=.agg #[.string ⟨#[]⟩,.int .i64 0]) (cs:=Jt) M fun b17=>ZR 0 M<|ZX<|zX<|Z11r 0 1 2 3 5 8 9 17 20 22 94 M<|ZF M (zY (off:=1) (sz:=0) M Tryz.underlying70 (by kernel_rfl) M) ?_;refine Zl 0 M U25 M<|ZF M (xF M M)<|ZT<|zT M (fun h122=>?_) (fun h122=>?_)
 ·replace h122:=xD h122
  have hcd:r=.error 13:=by
   rw[← hr];unfold wW at h122
   cases hq:tW I with
   | none=>rfl
   | some c=>rw[hq] at h122;exact absurd M h122
  refine zX<|Z12r 0 1 2 3 5 8 9 17 20 22 94 122 M<|Za M M<|Za M M<|ZT<|zK<|zW<|uW M M M (fun w hw=>?_);subst hcd;exact⟨(Kk hw).ext,rfl⟩
 replace h122:=wJ h122
 obtain⟨W,hW⟩:∃x,tW I=some x:=by
  unfold wW at h122
  cases hq:tW I with
  | none=>rw[hq] at h122;exact absurd h122 (by decide)
  | some c=>exact⟨c,rfl⟩
 have hcd:r=.ok W:=by rw[← hr,hW];rfl
 refine zR<|zV<|zX<|Z12r 0 1 2 3 5 8 9 17 20 22 94 122 M<|ZF M (zY (off:=0) (sz:=0) M Tryz.underlying70 (by kernel_rfl) M) ?_;refine Zl 0 M U9 M<|Za M M<|Za M M<|ZT<|zK<|uW M M M (fun w hw=>?_);subst hcd;exact⟨(Kk hw).ext,by rw[hW];rfl⟩
end Go.Proofs.YtkaepknpplhgkaaGreatDoor
