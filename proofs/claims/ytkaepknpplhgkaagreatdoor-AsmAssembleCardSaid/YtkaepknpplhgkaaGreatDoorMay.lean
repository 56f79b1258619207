import Derived.Test.YtkaepknpplhgkaaGreatDoorMax
import Derived.Test.YtkaepknpplhgkaaGreatDoorMaX
import Derived.Test.YtkaepknpplhgkaaGreatDoorMaf
import Derived.Test.YtkaepknpplhgkaaGreatDoorMav
import Derived.Test.YtkaepknpplhgkaaGreatDoorMan
import Derived.Test.YtkaepknpplhgkaaGreatDoorMas
set_option maxRecDepth 100000
set_option maxHeartbeats 2000000
namespace Go.Proofs.YtkaepknpplhgkaaGreatDoor
open Go.RowKit
abbrev TV.drop (V:TV) (f:Nat):TV:=⟨V.l.drop f,V.g,V.off+3*f,V.cap-f⟩
abbrev TV.take (V:TV) (n:Nat):TV:=⟨V.l.take n,V.g,V.off,V.cap⟩
theorem TvX.drop {V:TV}{w:World}(h:TvX V w) (f:Nat):TvX (V.drop f) w:=fun k t ht j v hv=>by
 rw[List.getElem?_drop] at ht;have:=h (f+k) t ht j v hv;show w.cell? ⟨V.g,V.off+3*f+3*k+j,none⟩=some v;rw[show V.off+3*f+3*k+j=V.off+3*(f+k)+j by omega];exact this
theorem TvX.take {V:TV}{w:World}(h:TvX V w) (n:Nat):TvX (V.take n) w:=fun k t ht j v hv=>by
 have ht:(V.l.take n)[k]? = some t:=ht;rw[List.getElem?_take] at ht
 split at ht
 exact h k t ht j v hv
 ·cases ht
theorem TvA.drop {V:TV}{A:Option Addr}(h:TvA V A) (f:Nat):TvA (V.drop f) (sV A V.cap f 3):=⟨by have:=h.cap;show (V.l.drop f).length≤V.cap-f;rw[Kw];omega,Ap (Nat.sub_le _ _) h.big,fun hl=>by
  have hl:V.l.drop f≠[]:=hl;have h1:f<V.l.length:=Nat.lt_of_not_le fun h9=>hl (Aj h9);have:=h.cap;unfold sV;rw[Ag (by omega),h.at_ (fun e=>by rw[e] at h1;simp at h1)];show some (Addr.add _ _)=_
  simp[Addr.add,Nat.mul_comm],fun t ht=>h.ok t (List.mem_of_mem_drop ht)⟩
theorem TvA.take {V:TV}{A:Option Addr}(h:TvA V A) (n:Nat):TvA (V.take n) A:=⟨by have:=h.cap;show (V.l.take n).length≤V.cap;rw[Aa];omega,h.big,fun hl=>h.at_ (fun e=>hl (by show V.l.take n=[];rw[e];simp)),fun t ht=>h.ok t (List.mem_of_mem_take ht)⟩
theorem TvA.tk {V:TV}{A:Option Addr}(h:TvA V A):∀t∈V.l,TkOk t:=fun t ht=>⟨(h.ok t ht).2.2,(h.ok t ht).2.1⟩
theorem opr_ok {kind:Int}{V:TV}{A:Option Addr}(h:TvA V A) {o:AOp}(ho:qN kind V.l=some o):OpR o:=by
 unfold qN at ho
 cases hp:opA kind V.l with
 | error e=>rw[hp] at ho;cases ho
 | ok a =>
  obtain⟨y,q⟩:=a;rw[hp] at ho
  cases q with
  | nil=>cases ho;exact opA_ok h.tk hp
  | cons t q=>cases ho
theorem namB_nme (s:Bs):nQ s=nmeR s:=by
 unfold nQ nmeR
 by_cases h:32<s.length∨(46:UInt8)∈s∨uC s=true
 rw[An h,Ao (fun h9=>h9 h)];rfl;rw[Ao h,An h];rfl
abbrev rsC (s:RSt) (A:Option Addr) (cap:Nat) (z a:Int):List Value:=[.string ⟨s.label.toArray⟩,.string ⟨s.op.toArray⟩,.string ⟨s.suf.toArray⟩,.string ⟨s.shape.toArray⟩,.slice A s.l.length cap,.int .i64 z,.int .i64 a]
abbrev rsO (s:RSt) (A:Option Addr) (cap:Nat):Obj:=bk 119 (rsC s A cap 0 0)
structure RsOk (s:RSt):Prop where
 sh:s.shape=xR s.l
 ok:∀o∈s.l,OpR o
 lb:s.label.length≤2000000
 op:s.op.length≤2000000
 su:s.suf.length≤2000000
 n:s.l.length≤2000001
def sX (r:Option RSt) (w:World) (e:Ending) (w':World):Prop:=Ext w w'∧∃s A cap b,e=.returned (.tuple #[.agg (rsC s A cap 0 0).toArray,.bool b])∧RsOk s∧RdF (fun k=>w.heap.size≤k) A (vI s.l) w'∧Cp s.l.length cap∧match r with
 | some x=>b=true∧s=x
 | none=>b=false
theorem sX.no {r:Option RSt}{w w':World}{e:Ending}{s:RSt}{A:Option Addr}{cap:Nat}(h:Ext w w') (hs:RsOk s) (hA:RdF (fun k=>w.heap.size≤k) A (vI s.l) w') (hc:Cp s.l.length cap) (hr:none=r) (he:e=.returned (.tuple #[.agg (rsC s A cap 0 0).toArray,.bool false])):sX r w e w':=⟨h,s,A,cap,false,he,hs,hA,hc,by rw[← hr]⟩
theorem sX.yes {r:Option RSt}{w w':World}{e:Ending}{s:RSt}{A:Option Addr}{cap:Nat}(h:Ext w w') (hs:RsOk s) (hA:RdF (fun k=>w.heap.size≤k) A (vI s.l) w') (hc:Cp s.l.length cap) (hr:some s=r) (he:e=.returned (.tuple #[.agg (rsC s A cap 0 0).toArray,.bool true])):sX r w e w':=⟨h,s,A,cap,true,he,hs,hA,hc,by rw[← hr];exact⟨rfl,rfl⟩⟩
theorem RsOk.nil {lb:Bs}(h:lb.length≤2000000):RsOk ⟨lb,[],[],[],[]⟩:=⟨rfl,(fun _ h=>by cases h),h,Ad _,Ad _,Ad _⟩
theorem splW_len (w:Bs):(yH w).1.length≤w.length∧(yH w).2.length≤w.length:=by
 unfold yH
 split
 exact⟨by rw[Aa];omega,by rw[Kw];omega⟩;exact⟨Ae _,Ad _⟩
theorem splW_f {w:Bs}(h:¬(2<w.length∧w.getD (w.length-2) 0=46)):(yH w).1=w∧(yH w).2=[]:=by
 unfold yH;rw[Ag h];exact⟨rfl,rfl⟩
theorem one_cellN {k:Nat}(h:k<256):∀j (hj:j<[byL k].length),([.int .u8 (k:Nat)]:List Value)[0+j]? = some (.int .u8 ([byL k][j].toNat:Int)):=fun j hj=>by
 have:j=0:=by simp at hj;omega
 subst this;show some (Value.int .u8 (k:Nat))=some (Value.int .u8 ((byL k).toNat:Int));rw[byL_k h]
theorem OpR.kd {o:AOp}(h:OpR o):o.kind<256:=by rcases h.k with h|h|h<;>omega
theorem opsR_cons (kind:Int) (p:List ATk) (ps:List (List ATk)):rQ kind (p::ps)=match qN kind p with
 | none=>none
 | some o=>(rQ kind ps).map fun l=>o::l:=by
 rw[rQ]
 cases qN kind p with
 | none=>rfl
 | some o=>cases rQ kind ps<;>rfl
structure PsI (kind:Int) (l:List ATk) (ps:List (Nat×Nat)) (k:Nat) (acc:List AOp):Prop where
 le:k≤ps.length
 n:acc.length=k
 ok:∀o∈acc,OpR o
 e:rQ kind (prtL l ps)=(rQ kind (prtL l (ps.drop k))).map fun r=>acc++r
theorem PsI.zero (kind:Int) (l:List ATk) (ps:List (Nat×Nat)):PsI kind l ps 0 []:=⟨Ad _,rfl,(fun _ h=>by cases h),by rw[Kx];cases rQ kind (prtL l ps)<;>rfl⟩
theorem PsI.bad {kind:Int}{l:List ATk}{ps:List (Nat×Nat)}{k:Nat}{acc:List AOp}{p:Nat×Nat}(h:PsI kind l ps k acc) (hp:ps[k]? = some p) (ho:qN kind ((l.drop p.1).take p.2)=none):rQ kind (prtL l ps)=none:=by
 obtain⟨h1,h2⟩:=Kg.1 hp;rw[h.e,List.drop_eq_getElem_cons h1,h2];unfold prtL;rw[Ai,opsR_cons,ho];rfl
theorem PsI.on {kind:Int}{l:List ATk}{ps:List (Nat×Nat)}{k:Nat}{acc:List AOp}{p:Nat×Nat}{o:AOp}(h:PsI kind l ps k acc) (hp:ps[k]? = some p) (ho:qN kind ((l.drop p.1).take p.2)=some o) (hk:OpR o):PsI kind l ps (k+1) (acc++[o]):=by
 obtain⟨h1,h2⟩:=Kg.1 hp;refine⟨h1,by rw[Kb,h.n];rfl,fun x hx=>(Aq.1 hx).elim (h.ok x) fun h=>by rw[Ar.1 h];exact hk,?_⟩;rw[h.e,List.drop_eq_getElem_cons h1,h2];unfold prtL;rw[Ai,opsR_cons,ho];dsimp only
 cases rQ kind (List.map (fun p=>(l.drop p.1).take p.2) (ps.drop (k+1))) with
 | none=>rfl
 | some r=>show some (acc++o::r)=some (acc++[o]++r);rw[Kv];rfl
theorem PsI.fin {kind:Int}{l:List ATk}{ps:List (Nat×Nat)}{acc:List AOp}(h:PsI kind l ps ps.length acc):rQ kind (prtL l ps)=some acc:=by
 rw[h.e,List.drop_length];show some (acc++[])=_;rw[Al]
theorem splA_ne:∀l:List ATk,tP l≠[]
 | []=>by simp[tP]
 | t::r=>by
  rw[tP]
  split
  simp
  split<;>simp
theorem prt_len (l:List ATk) (ps:List (Nat×Nat)):(prtL l ps).length=ps.length:=by unfold prtL;rw[Ak]
theorem splA_le:∀l:List ATk,(tP l).length≤l.length+1
 | []=>Ae _
 | t::r=>by
  have ih:=splA_le r;rw[tP]
  split
  rw[Kc,Kc];omega
  split
  rw[Kc,Kc];show 0+1≤_;omega
  ·next h=>rw[h] at ih;rw[Kc,Kc] at *;omega
end Go.Proofs.YtkaepknpplhgkaaGreatDoor
namespace Go.Proofs.YtkaepknpplhgkaaGreatDoor
open Go.RowKit
theorem rbod_nil (kind:Int) (lb:Bs) {l:List ATk}(h:l=[]):pB kind lb l=some ⟨lb,[],[],[],[]⟩:=by subst h;rfl
theorem rbod_cons (kind:Int) (lb:Bs) {l:List ATk}{t:ATk}(h:l[0]? = some t):pB kind lb l=if t.kind≠119 then none else
  if l.drop 1=[] then some ⟨lb,(yH t.s).1,(yH t.s).2,[],[]⟩ else
  match rQ kind (tP (l.drop 1)) with
  | none=>none
  | some os=>if t.s=xT∧¬((l.drop 1).length=1∧((l.drop 1).headD ⟨0,[],0⟩).kind=48) then none else some ⟨lb,(yH t.s).1,(yH t.s).2,xR os,os⟩:=by
 cases l with
 | nil=>cases h
 | cons x r=>cases h;rfl
abbrev rwO (A:Option Addr) (cap:Nat) (acc:List AOp):Rw:=⟨.slice A acc.length cap,125,6,acc.length,vI acc⟩
structure PaI (kind:Int) (V V':TV) (A':Option Addr) (lb:Bs) (q:Option RSt):Prop where
 a:TvA V' A'
 x:∀w,TvX V w→TvX V' w
 b:lb.length≤2000000
 e:pB kind lb V'.l=q
 n:V'.l.length≤2000000
theorem wparse_any (kind:Int) (V:TV) (A:Option Addr) (hA:TvA V A) (hlen:V.l.length≤2000000) (w_0:World) (hX:TvX V w_0):Calls Tryz.prog 48 #[.int .i64 kind,.slice A V.l.length V.cap] w_0 (sX (qZ kind V.l) w_0):=by
 have hcp:=hA.cap;have hbg:=hA.big;unfold maxLen at hbg;generalize hq:qZ kind V.l=q;refine zN (args:=[.int .i64 kind,.slice A V.l.length V.cap]) Tryz.func48 M 133 M (Kh M)<|Z2 0 1 M<|zG (H':=Jy w_0 [] [] (TvX V)) (fun u hu=>?_) ?_;subst hu;exact Hp.startTv hX;refine zX<|zZ<|Zt (z:=.agg #[.string ⟨#[]⟩,.string ⟨#[]⟩,.string ⟨#[]⟩,.string ⟨#[]⟩,.slice none 0 0,.int .i64 0,.int .i64 0]) (cs:=Jw) M fun b4=>Za M M<|ZX<|zZ<|ZF M (Zb [.string ⟨#[]⟩,.string ⟨#[]⟩,.string ⟨#[]⟩,.string ⟨#[]⟩,.slice none 0 0,.int .i64 0,.int .i64 0] [(0,1),(1,1),(2,1),(3,1),(4,1),(5,1),(6,1)] M)<|Zt (z:=.agg #[.string ⟨#[]⟩,.string ⟨#[]⟩,.string ⟨#[]⟩,.string ⟨#[]⟩,.slice none 0 0,.int .i64 0,.int .i64 0]) (cs:=Jw) M fun b6=>ZR 0 M<|ZT<|zB (ι:={x:Bs×TV×Option Addr // PaI kind V x.2.1 x.2.2 x.1 q}) (fun x=>[(0,.int .i64 kind),(1,.slice x.1.2.2 x.1.2.1.l.length x.1.2.1.cap),(4,Jx b4),(6,Jx b6)]) (fun x=>Jy w_0 [(b6,rsO ⟨x.1.1,[],[],[],[]⟩ none 0),(b4,rsO ⟨[],[],[],[],[]⟩ none 0)] [] (TvX V)) ?_ (fun x=>?_)
 ·refine zX<|Z5 0 1 4 5 6 M<|zG (H':=Jy w_0 [(b6,rsO ⟨[],[],[],[],[]⟩ none 0),(b4,rsO ⟨[],[],[],[],[]⟩ none 0)] [] (TvX V)) Jz<|zZ<|Zm M M<|Zu (v:=.bool (isA [58] (V.l.drop 1))) M (fun w hw=>uQ V A hA 1 [58] w (HpG.x hw))<|ZT<|zT M (fun h14=>?_) (fun h14=>?_)
  ·have hl1:=isA_lt h14;obtain⟨t,ht⟩:∃t,V.l[0]? = some t:=⟨V.l[0]'(by omega),Kn _⟩;have hA2:=hA.at_ (fun e=>by rw[e] at ht;cases ht);have hok:=hA.ok t (Ko ht);have htk:=rkd_1 hok.1
   have hq:(if t.kind=119∧nQ t.s=true then pB kind t.s (V.l.drop 2) else none)=q:=by
    rw[← hq,namB_nme];unfold qZ;rw[Ah h14]
    revert ht
    generalize V.l=l;intro ht
    cases l with
    | nil=>cases ht
    | cons y r=>cases ht;rfl
   refine zX<|zB (ι:={z:Bool // z=false↔(t.kind=119∧nQ t.s=true)}) (fun z=>[(0,.int .i64 kind),(1,.slice A V.l.length V.cap),(4,Jx b4),(6,Jx b6),(27,.bool z.1)]) (fun _=>Jy w_0 [(b6,rsO ⟨[],[],[],[],[]⟩ none 0),(b4,rsO ⟨[],[],[],[],[]⟩ none 0)] [] (TvX V)) ?_ (fun z=>?_)
   ·refine Z6r 0 1 4 5 6 14 M<|Zm M M<|ZF M (Zi (j:=0) (es:=3) (g:=V.g) (o:=V.off) (len:=V.l.length) (cap:=V.cap) (congrArg (fun z=>some (Value.slice z V.l.length V.cap)) hA2) M Tryz.underlying113 M (by omega) M) ?_;refine ZF M (Y190x0 M) ?_;refine ZF M (zL (v:=.int .i64 (rkd t.kind)) M U3 M (fun w hw=>(HpG.x hw) 0 t ht 0 _ M))<|ZF M (xF M M)<|Zm M M<|zQ 20 M (fun g6=>?_) (fun g6=>?_)
    ·replace g6:=xD g6;refine ZP M<|ZP M<|ZP M<|ZP M<|ZP M<|ZP M<|Zh M<|zS ?_;exact zU ⟨true,⟨fun h=>(by cases h),fun h=>absurd (htk.1.2 h.1) g6⟩⟩ (O5 M) Jz
    replace g6:=wJ g6;refine Zv M<|ZG M M M (Zi (j:=0) (es:=3) (g:=V.g) (o:=V.off) (len:=V.l.length) (cap:=V.cap) (congrArg (fun z=>some (Value.slice z V.l.length V.cap)) hA2) M Tryz.underlying113 M (by omega) M) ?_;refine ZG M M M (Y190x1 M) ?_;refine ZG M M M (zL (v:=.string ⟨t.s.toArray⟩) M U9 M (fun w hw=>(HpG.x hw) 0 t ht 1 _ M))<|xW (.some M M) M  (v:=.bool (nQ t.s)) (by kernel_rfl) M (fun w hw=>wname_any t.s (by omega) w)<|ZG M M M (xO M)<|Zf M<|zS ?_
    exact zU ⟨_,⟨fun h=>⟨htk.1.1 g6,by cases hb:nQ t.s with
      | true=>rfl
      | false=>rw[hb] at h;exact absurd h (by decide)⟩,fun h=>by rw[h.2]⟩⟩ (O5 M) Jz
   obtain⟨z,hz⟩:=z;dsimp only;refine zT M (fun h27=>?_) (fun h27=>?_)
   ·rw[Ag (fun h=>by rw[hz.2 h] at h27;cases h27)] at hq;refine zX<|zZ<|ZF M (Zo 0 M U119 M)<|ZR 1 M<|Za M M<|ZT<|zK<|zW<|zW<|xG M M M 1 M Tryz.underlying119 M (by kernel_rfl) fun w hw=>sX.no (Kk hw).ext (RsOk.nil (Ad _)) RdF.nil cp00 hq rfl
   skip;obtain⟨h119,hnm⟩:=hz.1 h27;rw[Ah ⟨h119,hnm⟩] at hq;refine zR<|zV<|zX<|zZ<|Zm M M<|ZF M (Zi (j:=0) (es:=3) (g:=V.g) (o:=V.off) (len:=V.l.length) (cap:=V.cap) (congrArg (fun z=>some (Value.slice z V.l.length V.cap)) hA2) M Tryz.underlying113 M (by omega) M) ?_;refine ZF M (Y190x1 M) ?_;refine ZF M (zL (v:=.string ⟨t.s.toArray⟩) M U9 M (fun w hw=>(HpG.x hw) 0 t ht 1 _ M))<|ZF M (Y119x0 M) ?_;refine ZS 0 M<|ZT<|Z5r 0 1 4 6 27 M<|Zm M M<|ZF M (qF (size:=3) (i:=2) M M Tryz.underlying113 (by kernel_rfl) M (by omega)) ?_;refine Za M M<|zS<|zU ⟨(t.s,V.drop 2,sV A V.cap 2 3),⟨hA.drop 2,fun w h=>h.drop 2,hok.2.1,hq,by show (V.l.drop 2).length≤_;rw[Kw];omega⟩⟩ (.cons M<|.consE M (by show _=Value.slice (sV A V.cap 2 3) (V.l.drop 2).length (V.cap-2);rw[Kw])<|.cons M<|.cons M<|.nil) Jz
  skip
  have hq:pB kind [] V.l=q:=by
   rw[← hq];unfold qZ;rw[Ag (by rw[h14];simp)]
  refine zR ?_;exact zU ⟨([],V,A),⟨hA,fun w h=>h,Ad _,hq,hlen⟩⟩ (O4 M) Jz
 obtain⟨⟨lb,V1,A1⟩,h1⟩:=x;dsimp only at h1 ⊢;clear hq;have hq:=h1.e;have hn1:=h1.n;have hlb:=h1.b;have hA1:=h1.a;have hcp1:=hA1.cap;have hbg1:=hA1.big;unfold maxLen at hbg1;refine zX<|zX<|zZ<|Zm M M<|ZF M (yK M U113)<|Ze M<|ZT<|zT M (fun h38=>?_) (fun h38=>?_)
 ·replace h38:=Kq h38;have hq:=(rbod_nil kind lb (List.length_eq_zero_iff.1 (show V1.l.length=0 by omega))).symm.trans hq;refine zX<|Z5r 0 1 4 6 38 M<|ZF M (Zo 0 M U119 M)<|ZR 1 M<|Za M M<|ZT<|zK<|zW<|xG M M M 1 M Tryz.underlying119 M (by kernel_rfl) fun w hw=>sX.yes (Kk hw).ext (RsOk.nil hlb) RdF.nil cp00 hq rfl
 replace h38:=yT h38;obtain⟨t,ht⟩:∃t,V1.l[0]? = some t:=⟨V1.l[0]'(by omega),Kn _⟩;have hA2:=hA1.at_ (fun e=>by rw[e] at ht;cases ht);have hok:=hA1.ok t (Ko ht);have htk:=rkd_1 hok.1;rw[rbod_cons kind lb ht] at hq;refine zR<|zV<|zX<|zX<|Z5r 0 1 4 6 38 M<|Zm M M<|ZF M (Zi (j:=0) (es:=3) (g:=V1.g) (o:=V1.off) (len:=V1.l.length) (cap:=V1.cap) (congrArg (fun z=>some (Value.slice z V1.l.length V1.cap)) hA2) M Tryz.underlying113 M (by omega) M) ?_;refine ZF M (Y190x0 M) ?_;refine ZF M (zL (v:=.int .i64 (rkd t.kind)) M U3 M (fun w hw=>(h1.x w (HpG.x hw)) 0 t ht 0 _ M))<|ZF M (xF M M)<|ZT<|zT M (fun h44=>?_) (fun h44=>?_)
 ·replace h44:=xD h44;rw[Ah (fun e=>h44 (htk.1.2 e))] at hq;refine zX<|Z6r 0 1 4 6 38 44 M<|ZF M (Zo 0 M U119 M)<|ZR 1 M<|Za M M<|ZT<|zK<|zW<|xG M M M 1 M Tryz.underlying119 M (by kernel_rfl) fun w hw=>sX.no (Kk hw).ext (RsOk.nil hlb) RdF.nil cp00 hq rfl
 replace h44:=wJ h44;rw[Ag (fun e=>e (htk.1.1 h44))] at hq;have hspl:=splW_len t.s;refine zR<|zV<|zX<|Z6r 0 1 4 6 38 44 M<|Zm M M<|ZF M (Zi (j:=0) (es:=3) (g:=V1.g) (o:=V1.off) (len:=V1.l.length) (cap:=V1.cap) (congrArg (fun z=>some (Value.slice z V1.l.length V1.cap)) hA2) M Tryz.underlying113 M (by omega) M) ?_;refine ZF M (Y190x1 M) ?_;refine ZF M (zL (v:=.string ⟨t.s.toArray⟩) M U9 M (fun w hw=>(h1.x w (HpG.x hw)) 0 t ht 1 _ M))<|ZF M (Y119x1 M) ?_;refine ZS 0 M<|ZX<|Z6r 0 1 4 6 38 44 M<|ZF M (Y119x1 M) ?_;refine Zl 0 M U9 M<|ZF M (wZ M U9)<|Za M M<|ZT<|zB (ι:=Unit) (fun _=>[(0,.int .i64 kind),(1,.slice A1 V1.l.length V1.cap),(4,Jx b4),(6,Jx b6)]) (fun _=>Jy w_0 [(b6,rsO ⟨lb,(yH t.s).1,(yH t.s).2,[],[]⟩ none 0),(b4,rsO ⟨[],[],[],[],[]⟩ none 0)] [] (TvX V)) ?_ (fun _=>?_)
 ·refine zB (ι:={z:Bool // z=true↔(2<t.s.length∧t.s.getD (t.s.length-2) 0=46)}) (fun z=>[(0,.int .i64 kind),(1,.slice A1 V1.l.length V1.cap),(4,Jx b4),(6,Jx b6),(7,.int .i64 ((t.s.length:Nat):Int)),(63,.bool z.1)]) (fun _=>Jy w_0 [(b6,rsO ⟨lb,t.s,[],[],[]⟩ none 0),(b4,rsO ⟨[],[],[],[],[]⟩ none 0)] [] (TvX V)) ?_ (fun z=>?_)
  ·refine Z7r 0 1 4 6 7 38 44 M<|Zm M M<|ZF M (vS M M)<|Zm M M<|zQ 56 M (fun g3=>?_) (fun g3=>?_)
   ·replace g3:=Ki g3;obtain⟨c,hc⟩:∃c,t.s[t.s.length-2]? = some c:=⟨t.s[t.s.length-2]'(by omega),Kn _⟩;have hcd:t.s.getD (t.s.length-2) 0=c:=by rw[Ku,hc];rfl
    refine ZG M M M (Y119x1 M) ?_;refine ZG M M M (yU 0 M M M U9 M)<|Zv M<|ZG M M M (vL M M (show IntKind.i64.wrap ((t.s.length:Int)-2)=((t.s.length-2:Nat):Int) by rw[i64_in _ (by omega) (by omega)];omega)) ?_;refine ZG M M M (xX M M U9 M hc)<|Zx M<|Zh M<|zS ?_;exact zU ⟨_,⟨fun h=>⟨by omega,by rw[hcd];exact (xC 46).2 (Kq h)⟩,fun h=>Am.2 ((xC 46).1 (hcd.symm.trans h.2))⟩⟩ (O6 M) Jz
   replace g3:=Kj g3;refine ZP M<|ZP M<|ZP M<|ZP M<|ZP M<|ZP M<|Zf M<|zS ?_;exact zU ⟨false,⟨fun h=>(by cases h),fun h=>absurd h.1 (by omega)⟩⟩ (O6 M) Jz
  obtain⟨z,hz⟩:=z;dsimp only;refine zT M (fun h63=>?_) (fun h63=>?_)
  ·have h63':=hz.1 h63;have hsp:(yH t.s).1=t.s.take (t.s.length-2)∧(yH t.s).2=t.s.drop (t.s.length-2):=by unfold yH;rw[Ah h63'];exact⟨rfl,rfl⟩
   refine zX<|zZ<|ZF M (Y119x1 M) ?_;refine Zl 0 M U9 M<|Zm M M<|ZF M (vL M M (show IntKind.i64.wrap ((t.s.length:Int)-2)=((t.s.length-2:Nat):Int) by rw[i64_in _ (by omega) (by omega)];omega)) ?_;refine ZF rfl (rD rfl rfl U9 (by first|omega|(dsimp only;omega)) (by first|omega|(dsimp only;omega)) rfl) ?_;refine ZF M (Y119x2 M) ?_;refine ZS 0 M<|ZT<|Z6r 0 1 4 6 7 63 M<|ZF M (Y119x1 M) ?_;refine Zl 0 M U9 M<|Zm M M<|ZF M (vL M M (show IntKind.i64.wrap ((t.s.length:Int)-2)=((t.s.length-2:Nat):Int) by rw[i64_in _ (by omega) (by omega)];omega)) ?_;refine ZF rfl (yf_strHi rfl rfl U9 (by first|omega|(dsimp only;omega)) (by first|omega|(dsimp only;omega)) rfl) ?_;refine ZF M (Y119x1 M) ?_;refine ZS 0 M<|zS ?_;exact zU () (O4 M) (fun w h=>by rw[hsp.1,hsp.2];exact h)
  skip;have hsp:=splW_f (w:=t.s) (fun h=>by rw[hz.2 h] at h63;cases h63);refine zR ?_;exact zU () (O4 M) (fun w h=>by rw[hsp.1,hsp.2];exact h)
 have hsb:RsOk ⟨lb,(yH t.s).1,(yH t.s).2,[],[]⟩:=⟨rfl,(fun _ h=>by cases h),hlb,by show (yH t.s).1.length≤_;omega,by show (yH t.s).2.length≤_;omega,Ad _⟩;refine zX<|zX<|zZ<|Zm M M<|ZF M (yK M U113)<|Ze M<|ZT<|zT M (fun h78=>?_) (fun h78=>?_)
 ·replace h78:=Kq h78;rw[Ah (Aj (by omega))] at hq;refine zX<|Z5r 0 1 4 6 78 M<|ZF M (Zo 0 M U119 M)<|ZR 1 M<|Za M M<|ZT<|zK<|zW<|xG M M M 1 M Tryz.underlying119 M (by kernel_rfl) fun w hw=>sX.yes (Kk hw).ext hsb RdF.nil cp00 hq rfl
 replace h78:=yT h78;rw[Ag (fun e=>by have:=List.drop_eq_nil_iff.1 e;omega)] at hq;refine zR<|zV<|zX<|Z5r 0 1 4 6 78 M<|Zm M M<|ZF M (qF (size:=3) (i:=1) M M Tryz.underlying113 (by kernel_rfl) M (by omega)) ?_
 refine yI (ι:=List (Nat×Nat)×(Nat×Nat)×Nat) (C:=fun i=>Cp i.1.length i.2.2∧tP (V1.l.drop 1)=prtL (V1.l.drop 1) i.1∧∀p∈i.1,p.1+p.2≤(V1.l.drop 1).length) (val:=fun i=>.slice (some ⟨i.2.1.1,i.2.1.2,none⟩) i.1.length i.2.2) (TT:=fun i F=>RdF F (some ⟨i.2.1.1,i.2.1.2,none⟩) (sptC (V1.drop 1) (sV A1 V1.cap 1 3) i.1)) .none M  (by kernel_rfl) M (fun _ h=>h.elim) (fun _=>RdF.lies) (fun w hw=>by
   have h9:=wsplit_any (V1.drop 1) (sV A1 V1.cap 1 3) (hA1.drop 1) (by show (V1.l.drop 1).length≤_;rw[Kw];omega) w ((h1.x w (HpG.x hw)).drop 1);have e9:(V1.drop 1).l.length=V1.l.length-1:=Kw;rw[e9] at h9;refine h9.mono fun e w' ⟨k1,ps,B,cap,k2,k3,k4,k5,k6⟩=>?_
   obtain⟨b,off,rfl,_⟩:=k4 (by
    rw[sptC,Ak];have e1:=prt_len (V1.l.drop 1) ps;rw[← k5] at e1;have e2:=splA_ne (V1.l.drop 1)
    cases hp:tP (V1.l.drop 1) with
    | nil=>exact absurd hp e2
    | cons _ _=>rw[hp,Kc] at e1;omega)
   exact⟨(ps,(b,off),cap),⟨k3,k5,k6⟩,k2,k1,k4⟩) (fun iS FS hCS hFS=>?_)
 obtain⟨ps,⟨bS,oS⟩,capS⟩:=iS;obtain⟨hCc,hCe,hCb⟩:=hCS;dsimp only at hCc hCe hCb ⊢;rw[hCe] at hq
 have hpl:ps.length≤2000001:=by
  have e1:=prt_len (V1.l.drop 1) ps;rw[← hCe] at e1;have e2:=splA_le (V1.l.drop 1);rw[Kw] at e2;omega
 have hCl:=hCc.lt;refine Za M M<|ZX<|zX<|Z6r 0 1 4 6 8 78 M<|Za M M<|ZT<|zJ<|yF (ι:={j:Nat×(List AOp×(Option Addr×Nat)) // PsI kind (V1.l.drop 1) ps j.1 j.2.1∧j.2.1.length≤j.2.2.2}) (fun j=>[(0,.int .i64 kind),(1,.slice A1 V1.l.length V1.cap),(4,Jx b4),(6,Jx b6),(8,.slice (some ⟨bS,oS,none⟩) ps.length capS),(9,.int .i64 ((j.1.1:Nat):Int))]) (fun j=>Jy w_0 [(b6,rsO ⟨lb,(yH t.s).1,(yH t.s).2,xR j.1.2.1,j.1.2.1⟩ j.1.2.2.1 j.1.2.2.2),(b4,rsO ⟨[],[],[],[],[]⟩ none 0)] [rwO j.1.2.2.1 j.1.2.2.2 j.1.2.1] (fun u=>RdF FS (some ⟨bS,oS,none⟩) (sptC (V1.drop 1) (sV A1 V1.cap 1 3) ps) u∧TvX V u)) (fun j=>ps.length-j.1.1) ⟨(0,([],(none,0))),PsI.zero _ _ _,Ae _⟩ (O6 M) (fun w h=>Hp.nil h _ _) (fun j=>?_);obtain⟨⟨k,⟨acc,⟨B7,cap7⟩⟩⟩,hI,hc7⟩:=j;dsimp only at hI hc7 ⊢;have hkle:=hI.le;have hacn:=hI.n;have hsa:RsOk ⟨lb,(yH t.s).1,(yH t.s).2,xR acc,acc⟩:=⟨rfl,hI.ok,hlb,hsb.op,hsb.su,by show acc.length≤_;omega⟩;refine zX<|zX<|zZ<|Zm M M<|Zm M M<|ZF M (yK M U193)<|ZF M (yR M M)<|ZT<|zT M (fun h86=>?_) (fun h86=>?_)
 ·replace h86:=Ki h86;obtain⟨p,hp⟩:∃p,ps[k]? = some p:=⟨ps[k]'(by omega),Kn _⟩;have hpb:=hCb p (Ko hp);have hAp:=((hA1.drop 1).drop p.1).take p.2;obtain⟨Vp,hVp⟩:∃Z,Z=((V1.drop 1).drop p.1).take p.2:=⟨_,rfl⟩;have hVl:Vp.l=(((V1.l.drop 1).drop p.1).take p.2):=by rw[hVp]
  have hVn:Vp.l.length=p.2:=by rw[hVl,Aa,Kw];omega
  have hVc:Vp.cap=V1.cap-1-p.1:=by rw[hVp]
  have hVx:∀w,TvX V w→TvX Vp w:=fun w h=>by rw[hVp];exact (((h1.x w h).drop 1).drop p.1).take p.2
  rw[← hVp] at hAp;have hAp:TvA Vp (sV (sV A1 V1.cap 1 3) (V1.cap-1) p.1 3):=hAp
  have hpv:(sptC (V1.drop 1) (sV A1 V1.cap 1 3) ps)[k]? = some (.slice (sV (sV A1 V1.cap 1 3) (V1.cap-1) p.1 3) Vp.l.length Vp.cap):=by
   rw[sptC,List.getElem?_map,hp,hVn,hVc];rfl
  refine zR<|zV<|zX<|zJ<|zX<|Z7r 0 1 4 6 8 9 86 rfl<|Zm rfl rfl<|Zm rfl rfl<|Zm rfl rfl<|ZF rfl (Zi (es:=1) rfl rfl U193 rfl (by first|omega|simp<;>omega) rfl) ?_;refine ZF M (zL (v:=.slice (sV (sV A1 V1.cap 1 3) (V1.cap-1) p.1 3) Vp.l.length Vp.cap) M U113 M (fun w hw=>RdF.part (HpG.x hw).1 (i:=k) (by rw[sptC,Ak];omega) (by rw[Nat.mul_one]) hpv)) ?_;refine wl_pureE (ι:=AOp×Bool) (C:=fun x=>match qN kind Vp.l with|some y=>x.2=true∧x.1=y|none=>x.2=false) (val:=fun x=>.tuple #[.agg (aoC x.1).toArray,.bool x.2]) .none rfl  (by kernel_rfl) rfl (fun w hw=>(woperand_any kind Vp _ hAp w (hVx w (HpG.x hw).2)).mono fun e w' ⟨h1,o,b,h2,h3⟩=>⟨(o,b),h3,h2,h1⟩) (fun x hx=>?_);obtain⟨o,b⟩:=x;dsimp only at hx ⊢;refine Zm M M<|ZF M (zC M M)<|ZF M (zC M M)<|Zt (z:=.agg #[.int .u8 0,.int .i64 0,.string ⟨#[]⟩,.int .u32 0,.int .i64 0,.int .i64 0]) (cs:=Jk) M fun b10=>ZR 0 M<|Za M M<|ZX<|zX<|Z9 0 1 4 6 8 9 10 11 86 M<|zG (H':=Jy w_0 [(b10,obO o),(b6,rsO ⟨lb,(yH t.s).1,(yH t.s).2,xR acc,acc⟩ B7 cap7),(b4,rsO ⟨[],[],[],[],[]⟩ none 0)] [rwO B7 cap7 acc] (fun u=>RdF FS (some ⟨bS,oS,none⟩) (sptC (V1.drop 1) (sV A1 V1.cap 1 3) ps) u∧TvX V u)) Jz<|zZ<|Zm M M<|ZF M (xO M)<|ZT<|zT M (fun h99=>?_) (fun h99=>?_)
  ·obtain rfl:b=false:=by
    cases b with
    | false=>rfl
    | true=>exact absurd h99 (by decide)
   have ho:qN kind Vp.l=none:=by
    cases ho:qN kind Vp.l with
    | none=>rfl
    | some y=>rw[ho] at hx;exact absurd hx.1 (by decide)
   rw[hVl] at ho;rw[hI.bad hp ho] at hq;have hq:none=q:=hq;refine zX<|Z10r 0 1 4 6 8 9 10 11 86 99 M<|ZF M (Zo 1 M U119 M)<|ZR 2 M<|Za M M<|ZT<|zK<|zW<|zM<|zW<|zW<|zM<|zW<|xG M M M 2 M Tryz.underlying119 M (by kernel_rfl) fun w hw=>sX.no (Kk hw).ext hsa (HpG.rowF (j:=0) hw M) (HpG.rowCp (j:=0) hw M) hq rfl
  skip
  obtain rfl:b=true:=by
   cases b with
   | true=>rfl
   | false=>exact absurd h99 (by decide)
  have ho:qN kind Vp.l=some o:=by
   cases ho:qN kind Vp.l with
   | none=>rw[ho] at hx;cases hx
   | some y=>rw[ho] at hx;rw[hx.2]
  have hor:=opr_ok hAp ho;rw[hVl] at ho;have hI2:=hI.on hp ho hor;refine zR<|zV<|zX<|Z10r 0 1 4 6 8 9 10 11 86 99 M<|ZF M (Y119x4 M) ?_;refine Zl 1 M U117 M<|ZF M (Zo 0 M U125 M)<|Zs (z:=.agg #[.int .u8 0,.int .i64 0,.string ⟨#[]⟩,.int .u32 0,.int .i64 0,.int .i64 0]) M U117 fun b104=>wN (z:=.agg #[.int .u8 0,.int .i64 0,.string ⟨#[]⟩,.int .u32 0,.int .i64 0,.int .i64 0]) (bytes:=56) 0 0 .none M M M M M U117 (by kernel_rfl) M M M M M (by omega) (by omega) fun a105 c105 h105=>ZF M (Y119x4 M) ?_;refine ZS 2 M<|ZT<|Z10r 0 1 4 6 8 9 10 11 86 99 M<|ZF M (Y119x3 M) ?_;refine Zl 2 M U9 M<|ZF M (Y125x0 M) ?_;refine Zl 1 M U5 M<|Zs (z:=.int .u8 0) M U53 (fun b111=>?_)
  refine ZF M (sO 0 [byL o.kind] M M Tryz.underlying53 Tryz.underlying5 Tryz.underlying9 M (one_cellN hor.kd)) ?_
  refine ZF M (yB M M (by (rw[sI];show acc.length+1≤_;omega))) ?_;refine ZF M (Y119x3 M) ?_;refine ZS 3 M<|zS<|zH<|zV<|Z10r 0 1 4 6 8 9 10 11 86 99 M<|Zm M M<|ZF M (zF M M (i64_in _ (by omega) (by omega)))<|Za M M<|zS<|yV ⟨(k+1,(acc++[o],(some ⟨a105,0,none⟩,c105))),hI2,by rw[Kb];exact h105⟩ (by show ps.length-(k+1)<ps.length-k;omega) (O6 M) (fun w h=>?_);dsimp only;unfold rsO rsC rwO;dsimp only;rw[shpA_snoc,Kb,opsC_snoc];exact Hp.drop h (.cons _ (.cons _ (.cons _ (.refl _)))) (.refl _)
 replace h86:=Kj h86;obtain rfl:k=ps.length:=by omega
 rw[hI.fin] at hq;dsimp only at hq;refine yM<|zP<|zP<|yN<|zV<|zX<|zX<|Z7r 0 1 4 6 8 9 86 M<|ZF M (Y119x1 M) ?_;refine Zl 0 M U9 M<|ZF M (Y119x2 M) ?_;refine Zl 0 M U9 M<|ZF M (yB M M (by (show (yH t.s).1.length+(yH t.s).2.length≤_;omega))) ?_;refine ZF M (yZ M M U9)<|ZT<|zT M (fun h120=>?_) (fun h120=>?_)
 ·have h120:=Ki h120;rw[pX] at h120;refine zX<|Z8 0 1 4 6 8 9 86 120 M ?_;cases h28:(((V1.l.length:Nat):Int)==2)
  ·rw[Ah ⟨h120,fun h=>by
    have:=h.1;rw[Kw] at this;rw[show ((V1.l.length:Nat):Int)=2 by omega] at h28
    exact absurd h28 (by decide)⟩] at hq
   refine oC (γ:=Unit) [(1,.slice A1 V1.l.length V1.cap),(4,Jx b4),(6,Jx b6)] [(0,121,fun g=>.agg (rsC ⟨lb,(yH t.s).1,(yH t.s).2,xR acc,acc⟩ B7 cap7 0 0).toArray),(1,122,fun g=>.slice A1 V1.l.length V1.cap),(2,123,fun g=>.int .i64 ((V1.l.length:Nat):Int)),(3,124,fun g=>.bool false),(4,125,fun g=>.bool false),(5,126,fun g=>undef),(6,127,fun g=>undef),(7,128,fun g=>undef),(8,129,fun g=>undef),(9,130,fun g=>undef),(10,131,fun g=>.bool false),(12,5,fun g=>.bool false)] (fun D g=>Jy w_0 [(b6,rsO ⟨lb,(yH t.s).1,(yH t.s).2,xR acc,acc⟩ B7 cap7),(b4,bif D 11 then rsO ⟨lb,(yH t.s).1,(yH t.s).2,xR acc,acc⟩ B7 cap7 else rsO ⟨[],[],[],[],[]⟩ none 0)] [rwO B7 cap7 acc] (fun u=>RdF FS (some ⟨bS,oS,none⟩) (sptC (V1.drop 1) (sV A1 V1.cap 1 3) ps) u∧TvX V u)) [[],[],[1],[2],[3],[4],[4],[4],[4],[4],[4,9],[0],[10]] () (by kernel_rfl) (by kernel_rfl) (by kernel_rfl) (O3 M) (fun D w h hw=>by have h9:=h 11 (by decide);simp only[h9];exact Hp.drew hw) ⟨?_,?_,?_,?_,?_,?_,?_,?_,?_,?_,?_,?_,?_,trivial⟩ (fun g=>?_)
   ·intro D g hD hd;refine .inl ⟨.none,?_⟩
    first|(refine zI (v:=.agg (rsC ⟨lb,(yH t.s).1,(yH t.s).2,xR acc,acc⟩ B7 cap7 0 0).toArray) ?_ rfl Jz;refine Zo 0 rfl U119 rfl)|(refine zI (v:=.agg (rsC ⟨lb,(yH t.s).1,(yH t.s).2,xR acc,acc⟩ B7 cap7 0 0).toArray) ?_ rfl Jz;refine Zo 1 rfl U119 rfl)|(refine zI (v:=.agg (rsC ⟨lb,(yH t.s).1,(yH t.s).2,xR acc,acc⟩ B7 cap7 0 0).toArray) ?_ rfl Jz;refine Zo 2 rfl U119 rfl)|(refine zI (v:=.agg (rsC ⟨lb,(yH t.s).1,(yH t.s).2,xR acc,acc⟩ B7 cap7 0 0).toArray) ?_ rfl Jz;refine Zo 3 rfl U119 rfl)|(refine zI (v:=.agg (rsC ⟨lb,(yH t.s).1,(yH t.s).2,xR acc,acc⟩ B7 cap7 0 0).toArray) ?_ rfl Jz;refine Zo 4 rfl U119 rfl)|(refine zI (v:=.agg (rsC ⟨lb,(yH t.s).1,(yH t.s).2,xR acc,acc⟩ B7 cap7 0 0).toArray) ?_ rfl Jz;refine Zo 5 rfl U119 rfl)
   ·intro D g hD hd;refine .inl ⟨.none,?_⟩;refine zI (v:=.slice A1 V1.l.length V1.cap) ?_ M Jz;refine yW rfl
   ·intro D g hD hd;have hd1:D 1=true:=hd 1 (by simp);refine .inl ⟨.none,?_⟩;refine zI (v:=.int .i64 ((V1.l.length:Nat):Int)) ?_ M Jz;refine yK M U113
   ·intro D g hD hd;have hd2:D 2=true:=hd 2 (by simp);refine .inl ⟨.none,?_⟩;refine zI (v:=.bool false) ?_ M Jz;rw[← h28];exact oW M M
   ·intro D g hD hd;have hd3:D 3=true:=hd 3 (by simp);refine .inl ⟨.none,?_⟩;refine zI (v:=.bool false) ?_ M Jz;refine yW rfl
   ·intro D g hD hd;have hd4:D 4=true:=hd 4 (by simp);exact .inr ⟨.some M M rfl,fun w h=>⟨g,rfl,wU.refl,Jz w h⟩⟩
   ·intro D g hD hd;have hd4:D 4=true:=hd 4 (by simp);exact .inr ⟨.some M M rfl,fun w h=>⟨g,rfl,wU.refl,Jz w h⟩⟩
   ·intro D g hD hd;have hd4:D 4=true:=hd 4 (by simp);exact .inr ⟨.some M M rfl,fun w h=>⟨g,rfl,wU.refl,Jz w h⟩⟩
   ·intro D g hD hd;have hd4:D 4=true:=hd 4 (by simp);exact .inr ⟨.some M M rfl,fun w h=>⟨g,rfl,wU.refl,Jz w h⟩⟩
   ·intro D g hD hd;have hd4:D 4=true:=hd 4 (by simp);exact .inr ⟨.some M M rfl,fun w h=>⟨g,rfl,wU.refl,Jz w h⟩⟩
   ·intro D g hD hd;have hd4:D 4=true:=hd 4 (by simp);have hd9:D 9=true:=hd 9 (by simp);refine .inl ⟨.none,?_⟩;exact zI (v:=.bool false) (yD M M) M Jz
   ·intro D g hD hd;have hd0:D 0=true:=hd 0 (by simp);refine .inl ⟨.none,?_⟩;refine uO (val:=fun _:Unit=>undef) (H':=fun _=>Jy w_0 [(b6,rsO ⟨lb,(yH t.s).1,(yH t.s).2,xR acc,acc⟩ B7 cap7),(b4,rsO ⟨lb,(yH t.s).1,(yH t.s).2,xR acc,acc⟩ B7 cap7)] [rwO B7 cap7 acc] (fun u=>RdF FS (some ⟨bS,oS,none⟩) (sptC (V1.drop 1) (sV A1 V1.cap 1 3) ps) u∧TvX V u)) ?_ (fun _ w hw=>⟨g,trivial,wU.refl,hw⟩);simp only[hD,cond_false];exact vG (seg:=rsC ⟨lb,(yH t.s).1,(yH t.s).2,xR acc,acc⟩ B7 cap7 0 0) (cs:=rsC ⟨[],[],[],[],[]⟩ none 0 0 0) (o:=0) (g:=b4) (T:=119) 1 M M M M M (by kernel_rfl)
   ·intro D g hD hd;have hd10:D 10=true:=hd 10 (by simp);refine .inl ⟨.none,?_⟩;refine zI (v:=.bool false) ?_ M Jz;refine wD rfl
   skip;refine wq_to (m':=[(1,.slice A1 V1.l.length V1.cap),(4,Jx b4),(6,Jx b6),(5,.bool false)]) (H':=Jy w_0 [(b6,rsO ⟨lb,(yH t.s).1,(yH t.s).2,xR acc,acc⟩ B7 cap7),(b4,rsO ⟨lb,(yH t.s).1,(yH t.s).2,xR acc,acc⟩ B7 cap7)] [rwO B7 cap7 acc] (fun u=>RdF FS (some ⟨bS,oS,none⟩) (sptC (V1.drop 1) (sV A1 V1.cap 1 3) ps) u∧TvX V u)) ?_ (O4 M) Jz;refine zV<|zK<|zW<|xG M M M 1 M Tryz.underlying119 M (by kernel_rfl) fun w hw=>sX.no (Kk hw).ext hsa (HpG.rowF (j:=0) hw M) (HpG.rowCp (j:=0) hw M) hq rfl
  skip;have h28':=Kq h28;obtain⟨t1,ht1⟩:∃t,V1.l[1]? = some t:=⟨V1.l[1]'(by omega),Kn _⟩;have hok1:=hA1.ok t1 (Ko ht1);have htk1:=rkd_1 hok1.1
  have hhd:(V1.l.drop 1).headD ⟨0,[],0⟩=t1:=by
   revert ht1
   generalize V1.l=l;intro ht1
   match l,ht1 with
   | a::b::r,h=>cases h;rfl
  rw[hhd] at hq;refine oC (γ:=Unit) [(1,.slice A1 V1.l.length V1.cap),(4,Jx b4),(6,Jx b6)] [(0,121,fun g=>.agg (rsC ⟨lb,(yH t.s).1,(yH t.s).2,xR acc,acc⟩ B7 cap7 0 0).toArray),(1,122,fun g=>.slice A1 V1.l.length V1.cap),(2,123,fun g=>.int .i64 ((V1.l.length:Nat):Int)),(3,124,fun g=>.bool true),(4,125,fun g=>.bool true),(5,126,fun g=>.slice A1 V1.l.length V1.cap),(6,127,fun g=>.pointer (some ⟨V1.g,V1.off+1*3,none⟩)),(7,128,fun g=>.pointer (some ⟨V1.g,V1.off+1*3,none⟩)),(8,129,fun g=>.int .i64 (rkd t1.kind)),(9,130,fun g=>.bool (rkd t1.kind==2)),(10,131,fun g=>.bool (rkd t1.kind==2)),(12,5,fun g=>.bool (rkd t1.kind==2))] (fun D g=>Jy w_0 [(b6,rsO ⟨lb,(yH t.s).1,(yH t.s).2,xR acc,acc⟩ B7 cap7),(b4,bif D 11 then rsO ⟨lb,(yH t.s).1,(yH t.s).2,xR acc,acc⟩ B7 cap7 else rsO ⟨[],[],[],[],[]⟩ none 0)] [rwO B7 cap7 acc] (fun u=>RdF FS (some ⟨bS,oS,none⟩) (sptC (V1.drop 1) (sV A1 V1.cap 1 3) ps) u∧TvX V u)) [[],[],[1],[2],[3],[4],[4,5],[4,6],[4,7],[4,8],[4,9],[0],[10]] () (by kernel_rfl) (by kernel_rfl) (by kernel_rfl) (O3 M) (fun D w h hw=>by have h9:=h 11 (by decide);simp only[h9];exact Hp.drew hw) ⟨?_,?_,?_,?_,?_,?_,?_,?_,?_,?_,?_,?_,?_,trivial⟩ (fun g=>?_)
  ·intro D g hD hd;refine .inl ⟨.none,?_⟩
   first|(refine zI (v:=.agg (rsC ⟨lb,(yH t.s).1,(yH t.s).2,xR acc,acc⟩ B7 cap7 0 0).toArray) ?_ rfl Jz;refine Zo 0 rfl U119 rfl)|(refine zI (v:=.agg (rsC ⟨lb,(yH t.s).1,(yH t.s).2,xR acc,acc⟩ B7 cap7 0 0).toArray) ?_ rfl Jz;refine Zo 1 rfl U119 rfl)|(refine zI (v:=.agg (rsC ⟨lb,(yH t.s).1,(yH t.s).2,xR acc,acc⟩ B7 cap7 0 0).toArray) ?_ rfl Jz;refine Zo 2 rfl U119 rfl)|(refine zI (v:=.agg (rsC ⟨lb,(yH t.s).1,(yH t.s).2,xR acc,acc⟩ B7 cap7 0 0).toArray) ?_ rfl Jz;refine Zo 3 rfl U119 rfl)|(refine zI (v:=.agg (rsC ⟨lb,(yH t.s).1,(yH t.s).2,xR acc,acc⟩ B7 cap7 0 0).toArray) ?_ rfl Jz;refine Zo 4 rfl U119 rfl)|(refine zI (v:=.agg (rsC ⟨lb,(yH t.s).1,(yH t.s).2,xR acc,acc⟩ B7 cap7 0 0).toArray) ?_ rfl Jz;refine Zo 5 rfl U119 rfl)
  ·intro D g hD hd;refine .inl ⟨.none,?_⟩;refine zI (v:=.slice A1 V1.l.length V1.cap) ?_ M Jz;refine yW rfl
  ·intro D g hD hd;have hd1:D 1=true:=hd 1 (by simp);refine .inl ⟨.none,?_⟩;refine zI (v:=.int .i64 ((V1.l.length:Nat):Int)) ?_ M Jz;refine yK M U113
  ·intro D g hD hd;have hd2:D 2=true:=hd 2 (by simp);refine .inl ⟨.none,?_⟩;refine zI (v:=.bool true) ?_ M Jz;rw[← h28];exact oW M M
  ·intro D g hD hd;have hd3:D 3=true:=hd 3 (by simp);refine .inl ⟨.none,?_⟩;refine zI (v:=.bool true) ?_ M Jz;refine yW rfl
  ·intro D g hD hd;have hd4:D 4=true:=hd 4 (by simp);refine .inl ⟨.some M rfl,?_⟩;refine zI (v:=.slice A1 V1.l.length V1.cap) ?_ M Jz;refine yW rfl
  ·intro D g hD hd;have hd4:D 4=true:=hd 4 (by simp);have hd5:D 5=true:=hd 5 (by simp);refine .inl ⟨.some M rfl,?_⟩;refine zI (v:=.pointer (some ⟨V1.g,V1.off+1*3,none⟩)) ?_ M Jz;refine Zi (j:=1) (es:=3) (g:=V1.g) (o:=V1.off) (len:=V1.l.length) (cap:=V1.cap) (congrArg (fun z=>some (Value.slice z V1.l.length V1.cap)) hA2) M Tryz.underlying113 M (by omega) rfl
  ·intro D g hD hd;have hd4:D 4=true:=hd 4 (by simp);have hd6:D 6=true:=hd 6 (by simp);refine .inl ⟨.some M rfl,?_⟩;refine zI (v:=.pointer (some ⟨V1.g,V1.off+1*3,none⟩)) ?_ M Jz;refine zY (off:=0) (sz:=0) M U190 (by kernel_rfl) rfl
  ·intro D g hD hd;have hd4:D 4=true:=hd 4 (by simp);have hd7:D 7=true:=hd 7 (by simp);refine .inl ⟨.some M rfl,?_⟩;refine zI (v:=.int .i64 (rkd t1.kind)) ?_ M Jz;refine zL (v:=.int .i64 (rkd t1.kind)) M U3 M (fun w hw=>(h1.x w (HpG.x hw).2) 1 t1 ht1 0 _ M)
  ·intro D g hD hd;have hd4:D 4=true:=hd 4 (by simp);have hd8:D 8=true:=hd 8 (by simp);refine .inl ⟨.some M rfl,?_⟩;refine zI (v:=.bool (rkd t1.kind==2)) ?_ M Jz;refine oW M M
  ·intro D g hD hd;have hd4:D 4=true:=hd 4 (by simp);have hd9:D 9=true:=hd 9 (by simp);refine .inl ⟨.none,?_⟩;exact zI (v:=.bool (rkd t1.kind==2)) (yA M M) M Jz
  ·intro D g hD hd;have hd0:D 0=true:=hd 0 (by simp);refine .inl ⟨.none,?_⟩;refine uO (val:=fun _:Unit=>undef) (H':=fun _=>Jy w_0 [(b6,rsO ⟨lb,(yH t.s).1,(yH t.s).2,xR acc,acc⟩ B7 cap7),(b4,rsO ⟨lb,(yH t.s).1,(yH t.s).2,xR acc,acc⟩ B7 cap7)] [rwO B7 cap7 acc] (fun u=>RdF FS (some ⟨bS,oS,none⟩) (sptC (V1.drop 1) (sV A1 V1.cap 1 3) ps) u∧TvX V u)) ?_ (fun _ w hw=>⟨g,trivial,wU.refl,hw⟩);simp only[hD,cond_false];exact vG (seg:=rsC ⟨lb,(yH t.s).1,(yH t.s).2,xR acc,acc⟩ B7 cap7 0 0) (cs:=rsC ⟨[],[],[],[],[]⟩ none 0 0 0) (o:=0) (g:=b4) (T:=119) 1 M M M M M (by kernel_rfl)
  ·intro D g hD hd;have hd10:D 10=true:=hd 10 (by simp);refine .inl ⟨.none,?_⟩;refine zI (v:=.bool (rkd t1.kind==2)) ?_ M Jz;refine wD rfl
  skip;refine wq_to (m':=[(1,.slice A1 V1.l.length V1.cap),(4,Jx b4),(6,Jx b6),(5,.bool (rkd t1.kind==2))]) (H':=Jy w_0 [(b6,rsO ⟨lb,(yH t.s).1,(yH t.s).2,xR acc,acc⟩ B7 cap7),(b4,rsO ⟨lb,(yH t.s).1,(yH t.s).2,xR acc,acc⟩ B7 cap7)] [rwO B7 cap7 acc] (fun u=>RdF FS (some ⟨bS,oS,none⟩) (sptC (V1.drop 1) (sV A1 V1.cap 1 3) ps) u∧TvX V u)) ?_ (O4 M) Jz;refine zV<|zK<|zW<|xG M M M 1 M Tryz.underlying119 M (by kernel_rfl) (fun w hw=>?_);refine⟨(Kk hw).ext,_,_,_,_,rfl,hsa,HpG.rowF (j:=0) hw rfl,HpG.rowCp (j:=0) hw rfl,?_⟩
  by_cases h48:t1.kind=48
  ·rw[Ag (fun h=>h.2 ⟨by rw[Kw];omega,h48⟩)] at hq;subst hq;exact⟨Am.2 (htk1.2.1.2 h48),rfl⟩
  rw[Ah ⟨h120,fun h=>h48 h.2⟩] at hq;subst hq;exact beq_eq_false_iff_ne.2 (fun h=>h48 (htk1.2.1.1 h))
 skip;have h120:=Kj h120;rw[pX] at h120;rw[Ag (fun h=>h120 h.1)] at hq;refine zR<|zV<|zX<|Z8r 0 1 4 6 8 9 86 120 M<|ZF M (Zo 0 M U119 M)<|ZR 1 M<|Za M M<|ZT<|zK<|xG M M M 1 M Tryz.underlying119 M (by kernel_rfl) fun w hw=>sX.yes (Kk hw).ext hsa (HpG.rowF (j:=0) hw M) (HpG.rowCp (j:=0) hw M) hq rfl
end Go.Proofs.YtkaepknpplhgkaaGreatDoor
namespace Go.Proofs.YtkaepknpplhgkaaGreatDoor
open Go.RowKit
theorem Hp.startRd {F:Nat→Prop}{A:Option Addr}{cs:List Value}{w:World}(hX:RdF F A cs w):Jy w [] [] (RdF F A cs) w :=
 Hp.start ⟨fun k=>F k∧k<w.heap.size,fun k hk=>⟨hk.2,id⟩,fun u' hu'=>RdF.lies.mono (fun _ h=>h.1) (RdF.lies.foot (F:=fun k=>F k∧k<w.heap.size) (fun k hk=>hu' k hk) (RdF.lies.lt hX))⟩
theorem Blk.sr {b:Nat}{l:List Bs}{w:World}(h:Blk b (uV l) w):SrX l b 0 w:=fun k s hs=>by
 have:=Blk.cell h (o:=0+k*1) (sK hs);rw[Nat.mul_one] at this;exact this
def plnN (l:List Bs) (op suf:Bs) (first:Nat):Int:=if xB l op<0∨suf≠[] then -1 else first+xB l op
theorem rX (l:List Bs) (s:RSt) (A:Option Addr) (c:Nat) (z a:Int) (first:Nat) (hf:first≤1000) (g off cap:Nat) (hcp:l.length≤cap) (hbg:cap≤1000) (w_0:World) (hg:g<w_0.heap.size) (hX:SrX l g off w_0):Calls Tryz.prog 186 #[.slice (some ⟨g,off,none⟩) l.length cap,.agg (rsC s A c z a).toArray,.int .i64 first] w_0 fun e w'=>e=.returned (.int .i64 (plnN l s.op s.suf first))∧Ext w_0 w':=by
 have hge:=plcR_ge l s.op;generalize hv:plnN l s.op s.suf first=v;unfold plnN at hv;refine zN (args:=[.slice (some ⟨g,off,none⟩) l.length cap,.agg (rsC s A c z a).toArray,.int .i64 first]) Tryz.func186 M 22 M (Kh M)<|Z3 0 1 2 M<|zG (H':=Jy w_0 [] [] (SrX l g off)) (fun u hu=>?_) ?_;subst hu;exact Hp.start ⟨fun k=>k=g,fun k hk=>⟨by rw[hk];exact hg,id⟩,fun u hu=>hX.foot (hu _ M)⟩;refine zX<|zZ<|zA .none M (yQ M M) fun b4=>Za M M<|ZX<|zZ<|Zm M M<|ZF M (Y119x1 M) ?_;refine Zl 0 M U9 M<|Zu (v:=.int .i64 (xB l s.op)) M (fun w hw=>wplace_any l s.op g off cap hcp (by omega) w (Kr hg (HpG.size hw)) (HpG.x hw))<|Za M M<|ZX<|zX<|Z6r 0 1 2 4 6 7 M<|Zm M M<|ZF M (yR M M)<|Zm M M<|zQ 14 M (fun g3=>?_) (fun g3=>?_)
 ·replace g3:=Ki g3;rw[Ah (.inl g3)] at hv;refine ZP M<|ZP M<|ZP M<|Zh M<|ZT<|wY M<|zX<|Z7r 0 1 2 4 6 7 18 M<|Za M M<|ZT<|zK<|zW<|yY M M fun w hw=>⟨by rw[← hv],(Kk hw).ext⟩
 replace g3:=Kj g3;refine ZG M M M (Y119x2 M) ?_;refine ZG M M M (yU 0 M M M U9 M)<|ZG M M M (uL M M U9)<|Zf M<|ZT<|zT M (fun h18=>?_) (fun h18=>?_)
 ·rw[Ah (.inr (by simpa using h18))] at hv;refine zX<|Z7r 0 1 2 4 6 7 18 M<|Za M M<|ZT<|zK<|zW<|yY M M fun w hw=>⟨by rw[← hv],(Kk hw).ext⟩
 skip;rw[Ag (fun h=>h.elim (fun h=>by omega) fun h=>by simp[h] at h18)] at hv;refine zR<|zV<|zX<|Z7r 0 1 2 4 6 7 18 M<|Zm M M<|Zm M M<|ZF M (zF M M (i64_in _ (by omega) (by omega)))<|Za M M<|ZU M M fun w hw=>⟨by rw[← hv],(Kk hw).ext⟩
theorem wcondof_any (s:Bs) (w_0:World):Calls Tryz.prog 187 #[.string ⟨s.toArray⟩] w_0 fun e w'=>e=.returned (.int .i64 (xB wO s))∧Ext w_0 w':=by
 have hcl:wO.length=14:=rfl;refine zN (args:=[.string ⟨s.toArray⟩]) Tryz.func187 M 16 M (Kh M)<|Z1 0 M<|Z0<|zX<|zZ<|Za M M<|ZX<|zZ<|Zu (v:=.agg (wO.map fun x=>.string ⟨x.toArray⟩).toArray) M (fun w hw=>rcnames_any w) ?_;refine Zt (z:=.agg #[.string ⟨#[]⟩,.string ⟨#[]⟩,.string ⟨#[]⟩,.string ⟨#[]⟩,.string ⟨#[]⟩,.string ⟨#[]⟩,.string ⟨#[]⟩,.string ⟨#[]⟩,.string ⟨#[]⟩,.string ⟨#[]⟩,.string ⟨#[]⟩,.string ⟨#[]⟩,.string ⟨#[]⟩,.string ⟨#[]⟩]) (cs:=Jq) M fun b3=>ZR 0 M<|ZX<|zX<|Z3r 0 2 3 M<|Za M M<|ZT<|zJ<|yF (ι:={i:Nat // i≤14∧plcG s (wO.drop i) i=xB wO s}) (fun i=>[(0,.string ⟨s.toArray⟩),(3,Jx b3),(4,.int .i64 ((i.1:Nat):Int))]) (fun _=>Jy w_0 [(b3,bk 44 (wO.map fun x=>.string ⟨x.toArray⟩))] [] (fun _=>True)) (fun i=>14-i.1) ⟨0,Ad _,rfl⟩ (O3 M) Jz (fun i=>?_);obtain⟨i,hile,hi⟩:=i;dsimp only;refine zX<|zX<|zZ<|Zm M M<|ZF M (yR M M)<|ZT<|zT M (fun h7=>?_) (fun h7=>?_)
 ·replace h7:=Ki h7;obtain⟨x,hx⟩:∃x,wO[i]? = some x:=⟨wO[i]'(by omega),Kn _⟩
  have hde:wO.drop i=x::wO.drop (i+1):=by
   obtain⟨h1,h2⟩:=Kg.1 hx;rw[List.drop_eq_getElem_cons h1,h2]
  rw[hde] at hi;have hi:(if x=s then ((i:Nat):Int) else plcG s (wO.drop (i+1)) (i+1))=xB wO s:=hi;refine zR<|zV<|zX<|zJ<|zX<|Z4r 0 3 4 7 M<|Zm M M<|ZF M (Zj (j:=i) (es:=1) (len:=14) M M Tryz.underlying44 M (by omega) M) ?_;refine ZF M (zL (v:=.string ⟨x.toArray⟩) M U9 M (fun w hw=>HpG.cell (k:=0) (cs:=wO.map fun x=>.string ⟨x.toArray⟩) hw M (by rw[List.getElem?_map,Ac,Nat.mul_one,hx];rfl))) ?_;refine Zm M M<|ZF M (yZ M M U9)<|ZT<|zT M (fun h14=>?_) (fun h14=>?_)
  ·rw[Ah (Ki h14)] at hi;refine zX<|Z5r 0 3 4 7 14 M<|Zm M M<|Za M M<|ZT<|zK<|zM<|zW<|zW<|zM<|zW<|yY M M fun w hw=>⟨by rw[← hi],(Kk hw).ext⟩
  skip;rw[Ag (Kj h14)] at hi;refine zR<|zH<|zV<|Z5r 0 3 4 7 14 M<|Zm M M<|ZF M (zF M M (i64_in _ (by omega) (by omega)))<|Za M M<|zS ?_;exact yV ⟨i+1,by omega,hi⟩ (by show 14-(i+1)<14-i;omega) (O3 M) Jz
 replace h7:=Kj h7;obtain rfl:i=14:=by omega
 have hi:(-1:Int)=xB wO s:=hi;refine yM<|zP<|zP<|yN<|zV<|zX<|Z4r 0 3 4 7 M<|Za M M<|ZU M M fun w hw=>⟨by rw[← hi],(Kk hw).ext⟩
theorem wdata_any (s:RSt) (hs:RsOk s) (A:Option Addr) (c:Nat) (z a:Int) (w_0:World):Calls Tryz.prog 135 #[.agg (rsC s A c z a).toArray] w_0 fun e w'=>e=.returned (.bool (uB s))∧Ext w_0 w':=by
 have hsl:s.shape.length≤2000001:=by rw[hs.sh,sI];exact hs.n
 have hop:=hs.op;have hsu:=hs.su;generalize hv:uB s=v;unfold uB at hv;refine zN (args:=[.agg (rsC s A c z a).toArray]) Tryz.func135 M 44 M (Kh M)<|Z1 0 M<|Z0<|zX<|zZ<|zA .none M (yQ M M) fun b1=>Za M M<|ZX<|zX<|zZ<|Za M M<|ZT<|zJ<|yF (ι:={i:Nat // i≤s.shape.length∧∀j,j<i→s.shape[j]? = some 118}) (fun i=>[(1,Jx b1),(3,.int .i64 ((i.1:Nat):Int))]) (fun _=>Jy w_0 [(b1,bk 119 (rsC s A c z a))] [] (fun _=>True)) (fun i=>s.shape.length-i.1) ⟨0,Ad _,fun j h=>absurd h (by omega)⟩ (O2 M) Jz (fun i=>?_);obtain⟨i,hile,hi⟩:=i;dsimp only;refine zX<|zX<|zZ<|Zm M M<|ZF M (Y119x3 M) ?_;refine Zl 0 M U9 M<|ZF M (wZ M U9)<|ZF M (yR M M)<|ZT<|zT M (fun h9=>?_) (fun h9=>?_)
 ·replace h9:=Ki h9;obtain⟨x,hx⟩:∃x,s.shape[i]? = some x:=⟨s.shape[i]'(by omega),Kn _⟩;refine zR<|zV<|zX<|zJ<|zX<|Z3r 1 3 9 M<|ZF M (Y119x3 M) ?_;refine Zl 0 M U9 M<|Zm M M<|ZF M (xX M M U9 M hx)<|ZF M (xF M M)<|ZT<|zT M (fun h16=>?_) (fun h16=>?_)
  ·replace h16:=xD h16
   have hall:s.shape.all (fun c=>decide (c=118))=false:=by
    rw[List.all_eq_false];exact⟨x,Ko hx,by simp;exact fun e=>h16 ((xC 118).1 e)⟩
   rw[hall] at hv;refine zX<|Z4r 1 3 9 16 M<|Za M M<|ZT<|zK<|zM<|zW<|zW<|zM<|zW<|yY M M fun w hw=>⟨by rw[← hv];rfl,(Kk hw).ext⟩
  replace h16:=wJ h16;obtain rfl:x=118:=(xC 118).2 h16;refine zR<|zH<|zV<|Z4r 1 3 9 16 M<|Zm M M<|ZF M (zF M M (i64_in _ (by omega) (by omega)))<|Za M M<|zS ?_
  exact yV ⟨i+1,by omega,fun j hj=>by
   rcases Nat.lt_or_ge j i with h|h;exact hi j h;obtain rfl:j=i:=by omega
   exact hx⟩ (by show s.shape.length-(i+1)<s.shape.length-i;omega) (O2 rfl) Jz
 replace h9:=Kj h9;obtain rfl:i=s.shape.length:=by omega
 have hall:s.shape.all (fun c=>decide (c=118))=true:=by
  rw[List.all_eq_true];intro y hy;obtain⟨j,hj,e⟩:=List.getElem_of_mem hy;have:=hi j hj;rw[Kn hj,e] at this;exact An (Option.some.inj this)
 rw[hall,Bool.true_and] at hv;refine yM<|zP<|zP<|yN<|zV<|zX<|Z3r 1 3 9 M<|ZF M (Y119x1 M) ?_;refine Zl 0 M U9 M<|ZF M (Y119x2 M) ?_;refine Zl 0 M U9 M<|ZF M (yB M M (by (show s.op.length+s.suf.length≤_;omega))) ?_;refine Za M M<|ZX<|Z4r 1 3 4 9 M<|ZF M (Y119x3 M) ?_;refine Zl 0 M U9 M<|ZF M (wZ M U9)<|ZF M (vS M M)<|Zm M M<|zQ 26 M (fun g5=>?_) (fun g5=>?_)
 ·replace g5:=Ki g5;rw[Ao (show ¬s.shape=[] from fun e=>by rw[e] at g5;exact absurd g5 (by decide))] at hv;refine Zv M<|ZG M M M (yZ M M U9)<|Zv M<|zQ 29 M (fun g8=>?_) (fun g8=>?_)
  ·rw[show decide (s.w=tT)=true from g8] at hv;refine ZP M<|ZP M<|ZG M M M (yA M M)<|Zv M<|ZP M<|ZP M<|ZP M<|zE M M M<|zE M M M<|zE M M M<|zE M M M<|ZP M<|ZG M M M (yA M M)<|Zh M<|Za M M<|ZU M M fun w hw=>⟨by rw[← hv];rfl,(Kk hw).ext⟩
  skip;rw[show decide (s.w=tT)=false from g8] at hv;refine Zv M<|ZG M M M (yZ M M U9)<|ZG M M M (yD M M)<|Zv M<|zQ 33 M (fun g12=>?_) (fun g12=>?_)
  ·rw[show decide (s.w=uT)=true from g12] at hv;refine ZP M<|ZP M<|ZP M<|zE M M M<|zE M M M<|zE M M M<|zE M M M<|ZP M<|ZG M M M (yA M M)<|Zh M<|Za M M<|ZU M M fun w hw=>⟨by rw[← hv];rfl,(Kk hw).ext⟩
  skip;rw[show decide (s.w=uT)=false from g12] at hv;refine Zv M<|ZG M M M (yZ M M U9)<|Zv M<|zQ 36 M (fun g15=>?_) (fun g15=>?_)
  ·have hz:s.w=xT:=Ki g15;rw[show decide (s.w=xT∧s.shape.length=1)=(((s.shape.length:Nat):Int)==1) by rw[Kf,decide_eq_true_iff,Am];exact⟨fun h=>by omega,fun h=>⟨hz,by omega⟩⟩] at hv;refine ZG M M M (Y119x3 M) ?_;refine ZG M M M (yU 0 M M M U9 M)<|ZG M M M (wZ M U9)<|Zx M<|ZG M M M (yA M M)<|ZG M M M (yD M M)<|Zh M<|Za M M<|ZU M M fun w hw=>⟨by rw[← hv];rfl,(Kk hw).ext⟩
  skip;have hz:¬s.w=xT:=Kj g15;rw[Ao (fun h=>hz h.1)] at hv;refine ZP M<|ZP M<|ZP M<|ZP M<|ZG M M M (yD M M)<|ZG M M M (yD M M)<|Zh M<|Za M M<|ZU M M fun w hw=>⟨by rw[← hv];rfl,(Kk hw).ext⟩
 replace g5:=Kj g5;rw[An (show s.shape=[] from List.length_eq_zero_iff.1 (by omega))] at hv;refine ZP M<|ZP M<|ZP M<|zE M M M<|zE M M M<|ZP M<|ZP M<|zE M M M<|zE M M M<|zE M M M<|zE M M M<|zE M M M<|zE M M M<|zE M M M<|zE M M M<|ZP M<|Zf M<|Za M M<|ZU M M fun w hw=>⟨by rw[← hv];rfl,(Kk hw).ext⟩
end Go.Proofs.YtkaepknpplhgkaaGreatDoor
namespace Go.Proofs.YtkaepknpplhgkaaGreatDoor
open Go.RowKit
abbrev rsB (s:RSt) (A:Option Addr) (c:Nat) (z a:Int):Obj:=bk 119 (rsC s A c z a)
def qopN (s:RSt):Int:=match pL s.op s.suf s.shape with
 | none=>-1
 | some z=>(z:Nat)
theorem qnm_known {z:Nat}(hz:z<64) (h:decide (pK z=[])=false):(wV ((z:Nat):Int)).known=true:=by
 have h1:((List.range 64).all fun z=>decide (pK z=[])||(wV ((z:Nat):Int)).known)=true:=by kernel_rfl
 have:=uF h1 z hz;rw[h] at this;exact this
theorem qop_hit {s:RSt}{o:Nat}(ho:o<64) (hall:∀z,z<o→qopG s.op s.suf s.shape z=false) (h:qopG s.op s.suf s.shape o=true):qopN s=(o:Nat):=by
 unfold qopN
 have:pL s.op s.suf s.shape=some o:=by
  unfold pL;rw[List.find?_range_eq_some];exact⟨h,List.mem_range.2 ho,fun j hj=>by rw[hall j hj];rfl⟩
 rw[this]
theorem qop_miss {s:RSt}(hall:∀z,z<64→qopG s.op s.suf s.shape z=false):qopN s=-1:=by
 unfold qopN
 have:pL s.op s.suf s.shape=none:=by
  unfold pL;rw[List.find?_eq_none];intro z hz;rw[hall z (List.mem_range.1 hz)];simp
 rw[this]
theorem wqop_any (s:RSt) (A:Option Addr) (c:Nat) (z a:Int) (w_0:World):Calls Tryz.prog 136 #[.agg (rsC s A c z a).toArray] w_0 fun e w'=>e=.returned (.int .i64 (qopN s))∧Ext w_0 w':=by
 refine zN (args:=[.agg (rsC s A c z a).toArray]) Tryz.func136 M 35 M (Kh M)<|Z1 0 M<|Z0<|zX<|zZ<|zA .none M (yQ M M) fun b1=>Za M M<|ZX<|zZ<|Zu (v:=.agg (strC qnL).toArray) M (fun w hw=>rqnames_any w)<|Zt (z:=.agg (Array.replicate 64 (.string ⟨#[]⟩))) (cs:=Jv) M fun b3=>ZR 0 M<|ZX<|zX<|Z4 0 1 2 3 M<|zG (H':=Jy w_0 [(b3,arQ qnL),(b1,rsB s A c z a)] [] (fun _=>True)) Jz<|zZ<|Za M M<|ZT<|zJ<|yF (ι:={o:Nat // o≤64∧∀z,z<o→qopG s.op s.suf s.shape z=false}) (fun o=>[(1,Jx b1),(3,Jx b3),(4,.int .i64 ((o.1:Nat):Int))]) (fun _=>Jy w_0 [(b3,arQ qnL),(b1,rsB s A c z a)] [] (fun _=>True)) (fun o=>64-o.1) ⟨0,Ad _,fun z h=>absurd h (by omega)⟩ (O3 M) Jz (fun o=>?_);obtain⟨o,hole,hall⟩:=o;dsimp only;refine zX<|zX<|zZ<|Zm M M<|ZF M (yR M M)<|ZT<|zT M (fun h7=>?_) (fun h7=>?_)
 ·replace h7:=Ki h7;have ho:o<64:=by omega
  have hqv:(strC qnL)[0+o*1]? = some (.string ⟨(pK o).toArray⟩):=by rw[List.getElem?_map,Ac,Nat.mul_one,qnL_at ho];rfl
  refine zR<|zV<|zX<|zJ<|zX<|Z4 1 3 4 7 M<|oD [0,1,2,3,4,5,6,7,8,9,10,11,12,13,14,15,16,17,18,19,20,21,22,23] (J2 b1 b3 (rsB s A c z a) (arQ qnL)) (by kernel_rfl) (by kernel_rfl) J2.stab (fun w h=>⟨HpG.blk h (k:=1) rfl,HpG.blk h (k:=0) rfl⟩) (fun n0 hn0=>?_);refine Zd M M M (yW M)<|Zd M M M (Zj (j:=o) (es:=1) (len:=64) M M Tryz.underlying156 M ho M) ?_;refine Zd M M M (zL (v:=.string ⟨(pK o).toArray⟩) M U9 M (fun w hw=>Blk.cell hw.2 hqv))<|Zd M M M (uL M M U9)<|Zd M M M (yW M)<|wd_split 14 M (fun g5=>?_) (fun g5=>?_)
  ·have e4:decide (pK o=[])=false:=by simpa using g5
   refine vP M<|wd_free M (.some M M) M (yW M)<|Zg M M M M M (Zj (j:=o) (es:=1) (len:=64) M M Tryz.underlying156 M ho M) ?_;refine Zg M M M M M (zL (v:=.string ⟨(pK o).toArray⟩) M U9 M (fun w hw=>Blk.cell hw.2 hqv))<|Zg M M M M M (Y119x1 M) ?_;refine Zg M M M M M (zL (v:=.string ⟨s.op.toArray⟩) M U9 M (fun w hw=>Blk.cell hw.1 M))<|Zg M M M M M (yZ M M U9)<|Zd M M M (yA M M)<|Zd M M M (yW M)<|wd_split 22 M (fun g13=>?_) (fun g13=>?_)
   ·refine vP M<|wd_free M (.some M M) M (Y119x2 M) ?_;refine Zg M M M M M (zL (v:=.string ⟨s.suf.toArray⟩) M U9 M (fun w hw=>Blk.cell hw.1 M))<|Zg M M M M M (yZ M M U9)<|Zd M M M (yA M M)<|Zd M M M (yW M)<|wd_split 27 M (fun g18=>?_) (fun g18=>?_)
    ·refine vP M<|wd_free M (.some M M) M (yW M)<|vP M<|wd_pure (.some M M) M  (v:=.string ⟨(rS o).toArray⟩) (by kernel_rfl) M J2.ext (fun w hw=>rshape_any o (qnm_known ho e4) w)<|Zg M M M M M (Y119x3 M) ?_;refine Zg M M M M M (zL (v:=.string ⟨s.shape.toArray⟩) M U9 M (fun w hw=>Blk.cell hw.1 M))<|Zg M M M M M (yZ M M U9)<|Zd M M M (yA M M)<|qQ<|zV<|zT M (fun h33=>?_) (fun h33=>?_)
     ·have hq:qopG s.op s.suf s.shape o=true:=by unfold qopG;rw[e4,g13,show decide (s.suf=[])=true from g18,h33];rfl
      refine zX<|Z5r 1 3 4 7 33 M<|Zm M M<|Za M M<|ZT<|zK<|zM<|zW<|zW<|zM<|zW<|yY M M fun w hw=>⟨by rw[qop_hit ho hall hq],(Kk hw).ext⟩
     skip;have hq:qopG s.op s.suf s.shape o=false:=by unfold qopG;rw[e4,g13,show decide (s.suf=[])=true from g18,h33];rfl
     refine zR<|zH<|zV<|Z5r 1 3 4 7 33 M<|Zm M M<|ZF M (zF M M (i64_in _ (by omega) (by omega)))<|Za M M<|zS ?_
     exact yV ⟨o+1,ho,fun z hz=>by
      rcases Nat.lt_or_ge z o with h|h;exact hall z h;obtain rfl:z=o:=by omega
      exact hq⟩ (by show 64-(o+1)<64-o;omega) (O3 rfl) Jz
    skip;have hq:qopG s.op s.suf s.shape o=false:=by unfold qopG;rw[e4,g13,show decide (s.suf=[])=false from g18];rfl
    refine ZD M M<|ZD M M<|ZD M M<|ZD M M<|ZD M M<|Zd M M M (yD M M)<|qQ<|zV<|zD M<|zR<|zH<|zV<|Z5r 1 3 4 7 33 M<|Zm M M<|ZF M (zF M M (i64_in _ (by omega) (by omega)))<|Za M M<|zS ?_
    exact yV ⟨o+1,ho,fun z hz=>by
     rcases Nat.lt_or_ge z o with h|h;exact hall z h;obtain rfl:z=o:=by omega
     exact hq⟩ (by show 64-(o+1)<64-o;omega) (O3 rfl) Jz
   skip;have hq:qopG s.op s.suf s.shape o=false:=by unfold qopG;rw[e4,g13];rfl
   refine ZD M M<|ZD M M<|ZD M M<|Zd M M M (yD M M)<|Zd M M M (yW M)<|ZD M M<|ZD M M<|ZD M M<|ZD M M<|ZD M M<|Zd M M M (yD M M)<|qQ<|zV<|zD M<|zR<|zH<|zV<|Z5r 1 3 4 7 33 M<|Zm M M<|ZF M (zF M M (i64_in _ (by omega) (by omega)))<|Za M M<|zS ?_
   exact yV ⟨o+1,ho,fun z hz=>by
    rcases Nat.lt_or_ge z o with h|h;exact hall z h;obtain rfl:z=o:=by omega
    exact hq⟩ (by show 64-(o+1)<64-o;omega) (O3 rfl) Jz
  skip;have hq:qopG s.op s.suf s.shape o=false:=by unfold qopG;rw[show decide (pK o=[])=true by simpa using g5];rfl
  refine ZD M M<|ZD M M<|ZD M M<|ZD M M<|ZD M M<|ZD M M<|Zd M M M (yD M M)<|Zd M M M (yW M)<|ZD M M<|ZD M M<|ZD M M<|Zd M M M (yD M M)<|Zd M M M (yW M)<|ZD M M<|ZD M M<|ZD M M<|ZD M M<|ZD M M<|Zd M M M (yD M M)<|qQ<|zV<|zD M<|zR<|zH<|zV<|Z5r 1 3 4 7 33 M<|Zm M M<|ZF M (zF M M (i64_in _ (by omega) (by omega)))<|Za M M<|zS ?_
  exact yV ⟨o+1,ho,fun z hz=>by
   rcases Nat.lt_or_ge z o with h|h;exact hall z h;obtain rfl:z=o:=by omega
   exact hq⟩ (by show 64-(o+1)<64-o;omega) (O3 rfl) Jz
 replace h7:=Kj h7;obtain rfl:o=64:=by omega
 refine yM<|zP<|zP<|yN<|zV<|zX<|Z4r 1 3 4 7 M<|Za M M<|ZU M M fun w hw=>⟨by rw[qop_miss hall],(Kk hw).ext⟩
def kopO (x:Option (KSel×KFil)) (l:List AOp):Int:=match x with
 | none=>-1
 | some p=>opK p.1 l
def kopN (s:RSt):Int:=kopO (tN s.op s.suf s.shape) s.l
theorem nN (l:List Bs) (op suf:Bs) (first:Nat) (fil:KFil) (os:List AOp):kopO (plnR l op suf first fil) os=plnN l op suf first:=by
 unfold plnR plnN
 split<;>rfl
theorem shp_two {l:List AOp}{x y:UInt8}(h:xR l=[x,y]):∃o1 o2,l=[o1,o2]:=by
 match l,h with
 | [],h=>cases h
 | [a],h=>cases h
 | [a,b],_=>exact⟨a,b,rfl⟩
 | a::b::c::r,h=>cases h
end Go.Proofs.YtkaepknpplhgkaaGreatDoor
namespace Go.Proofs.YtkaepknpplhgkaaGreatDoor
open Go.RowKit
theorem wkop_any (s:RSt) (hs:RsOk s) (A:Option Addr) (c:Nat) (z a:Int) (hc:s.l.length≤c) (F:Nat→Prop) (w_0:World) (hX:RdF F A (vI s.l) w_0):Calls Tryz.prog 137 #[.agg (rsC s A c z a).toArray] w_0 fun e w'=>e=.returned (.int .i64 (kopN s))∧Ext w_0 w':=by
 have hop:=hs.op;have hsh:=hs.sh;have hok:=hs.ok;have hpa:=plcR_ge ariL s.op;have hpm:=plcR_ge accL s.op;have hpc:=plcR_ge wO (s.op.drop 1);have hla:ariL.length=15:=rfl;have hlm:accL.length=7:=rfl;have hlc:wO.length=14:=rfl;generalize hv:kopN s=v;unfold kopN tN at hv;refine zN (args:=[.agg (rsC s A c z a).toArray]) Tryz.func137 M 154 M (Kh M)<|Z1 0 M<|zG (H':=Jy w_0 [] [] (RdF F A (vI s.l))) (fun u hu=>?_) ?_;subst hu;exact Hp.startRd hX;refine zX<|zZ<|zA .none M (yQ M M) fun b1=>Za M M<|ZX<|zX<|zZ<|ZF M (Y119x3 M) ?_;refine Zl 0 M U9 M<|ZT<|zJ<|zX<|Z4r 0 1 2 7 M<|ZF M (yZ M M U9)<|Za M M<|ZT<|zT M (fun h8=>?_) (fun h8=>?_)
 ·rw[Ah (Ki h8),nN] at hv;refine zX<|Z5 0 1 2 7 8 M<|uY 2 [0,1] (Blk b1 (rsB s A c z a)) (by kernel_rfl) (by kernel_rfl) Blk.stab (fun w h=>HpG.blk h (k:=0) M) (fun n0 hn0=>?_);refine vP M<|qC (ι:=Nat) (C:=fun _=>True) (val:=fun b=>.slice (some ⟨b,0,none⟩) 5 5) (TT:=fun b=>Bl7 b (uV noneL)) .none M  (by kernel_rfl) M (fun _ h=>h.elim) (fun _=>Bl7.lies) (fun w w' h hx=>h.onE hx) (fun w hw=>none_rf w) (fun bn Fn _ hFn=>?_);refine Zd M M M (xL (cs:=rsC s A c z a) M U119 M (by kernel_rfl) (fun w hw j v hj=>Blk.cell hw (by rw[Ac];exact hj))) ?_;refine uE ?_;simp only[Kt,Kx];refine Zu (v:=.int .i64 (plnN noneL s.op s.suf 0)) M (fun w hw=>rX noneL s A c z a 0 (by omega) bn 0 5 (Ae _) (by decide) w (HpG.x hw).1.2.lt (Blk.sr (HpG.x hw).1.2))<|Za M M<|ZT<|zK<|zM<|zW<|yY M M fun w hw=>⟨by rw[← hv],(Kk hw).ext⟩
 skip;rw[Ag (Kj h8)] at hv;refine zX<|Z5r 0 1 2 7 8 M<|ZF M (yZ M M U9)<|Za M M<|ZT<|zT M (fun h13=>?_) (fun h13=>?_)
 ·rw[Ah (Ki h13),nN] at hv;refine zX<|Z6 0 1 2 7 8 13 M<|uY 2 [0,1] (Blk b1 (rsB s A c z a)) (by kernel_rfl) (by kernel_rfl) Blk.stab (fun w h=>HpG.blk h (k:=0) M) (fun n0 hn0=>?_);refine vP M<|qC (ι:=Nat) (C:=fun _=>True) (val:=fun b=>.slice (some ⟨b,0,none⟩) 6 6) (TT:=fun b=>Bl7 b (uV singL)) .none M  (by kernel_rfl) M (fun _ h=>h.elim) (fun _=>Bl7.lies) (fun w w' h hx=>h.onE hx) (fun w hw=>single_rf w) (fun bn Fn _ hFn=>?_);refine Zd M M M (xL (cs:=rsC s A c z a) M U119 M (by kernel_rfl) (fun w hw j v hj=>Blk.cell hw (by rw[Ac];exact hj))) ?_;refine uE ?_;simp only[Kt,Kx];refine Zu (v:=.int .i64 (plnN singL s.op s.suf 16)) M (fun w hw=>rX singL s A c z a 16 (by omega) bn 0 6 (Ae _) (by decide) w (HpG.x hw).1.2.lt (Blk.sr (HpG.x hw).1.2))<|Za M M<|ZT<|zK<|zM<|zW<|yY M M fun w hw=>⟨by rw[← hv],(Kk hw).ext⟩
 skip;rw[Ag (Kj h13)] at hv;refine zX<|Z6r 0 1 2 7 8 13 M<|ZF M (yZ M M U9)<|Za M M<|ZT<|zT M (fun h18=>?_) (fun h18=>?_)
 ·rw[Ah (Ki h18),nN] at hv;refine zX<|Z7 0 1 2 7 8 13 18 M<|uY 2 [0,1] (Blk b1 (rsB s A c z a)) (by kernel_rfl) (by kernel_rfl) Blk.stab (fun w h=>HpG.blk h (k:=0) M) (fun n0 hn0=>?_);refine vP M<|qC (ι:=Nat) (C:=fun _=>True) (val:=fun b=>.slice (some ⟨b,0,none⟩) 15 15) (TT:=fun b=>Bl7 b (uV ariL)) .none M  (by kernel_rfl) M (fun _ h=>h.elim) (fun _=>Bl7.lies) (fun w w' h hx=>h.onE hx) (fun w hw=>arith_rf w) (fun bn Fn _ hFn=>?_);refine Zd M M M (xL (cs:=rsC s A c z a) M U119 M (by kernel_rfl) (fun w hw j v hj=>Blk.cell hw (by rw[Ac];exact hj))) ?_;refine uE ?_;simp only[Kt,Kx];refine Zu (v:=.int .i64 (plnN ariL s.op s.suf 32)) M (fun w hw=>rX ariL s A c z a 32 (by omega) bn 0 15 (Ae _) (by decide) w (HpG.x hw).1.2.lt (Blk.sr (HpG.x hw).1.2))<|Za M M<|ZT<|zK<|zM<|zW<|yY M M fun w hw=>⟨by rw[← hv],(Kk hw).ext⟩
 skip;rw[Ag (Kj h18)] at hv;refine zX<|Z7r 0 1 2 7 8 13 18 M<|ZF M (yZ M M U9)<|Za M M<|ZT<|zT M (fun h23=>?_) (fun h23=>?_)
 ·rw[Ah (Ki h23)] at hv;refine zX<|zB (ι:={z:Bool // z=true↔(s.op=[106,109,112]∨s.op=[99,97,108,108])}) (fun y=>[(1,Jx b1),(32,.bool y.1)]) (fun _=>Jy w_0 [(b1,rsB s A c z a)] [] (RdF F A (vI s.l))) ?_ (fun y=>?_)
  ·refine Z8r 0 1 2 7 8 13 18 23 M<|ZF M (Y119x1 M) ?_;refine Zl 0 M U9 M<|ZF M (yZ M M U9)<|Zm M M<|zQ 28 M (fun g4=>?_) (fun g4=>?_)
   ·refine ZP M<|ZP M<|ZP M<|Zh M<|zS ?_;exact zU ⟨true,⟨fun _=>.inl (Ki g4),fun _=>rfl⟩⟩ (O2 M) Jz
   skip;refine ZG M M M (Y119x1 M) ?_;refine ZG M M M (yU 0 M M M U9 M)<|ZG M M M (yZ M M U9)<|Zf M<|zS ?_;exact zU ⟨_,⟨fun h=>.inr (Ki h),fun h=>An (h.resolve_left (Kj g4))⟩⟩ (O2 M) Jz
  obtain⟨y,hy⟩:=y;dsimp only;refine zT M (fun h32=>?_) (fun h32=>?_)
  ·rw[Ah (hy.1 h32),nN] at hv;refine zX<|zZ<|zA .none M (pU (z:=Jg) M M M M U59 (by kernel_rfl) (by kernel_rfl) M M M) fun b33=>ZF M (Zo 1 M U119 M)<|Zu (v:=.int .i64 (plnN jmpR s.op s.suf 112)) M (fun w hw=>rX jmpR s A c z a 112 (by omega) b33 0 2 (Ae _) (by decide) w (HpG.blk hw (k:=0) M).lt (Blk.sr (l:=jmpR) (HpG.blk hw (k:=0) M))) ?_;refine Za M M<|ZT<|zK<|zW<|zM<|zW<|yY M M fun w hw=>⟨by rw[← hv],(Kk hw).ext⟩
  skip;rw[Ag (fun h=>by rw[hy.2 h] at h32;cases h32)] at hv;refine zR<|zV<|zX<|zB (ι:={y:Bool // y=true↔(1<s.op.length∧s.op.headD 0=106∧¬xB wO (s.op.drop 1)<0∧s.suf=[])}) (fun y=>[(1,Jx b1),(57,.bool y.1)]) (fun _=>Jy w_0 [(b1,rsB s A c z a)] [] (RdF F A (vI s.l))) ?_ (fun y=>?_)
  ·refine zZ<|ZF M (Y119x1 M) ?_;refine Zl 0 M U9 M<|ZF M (wZ M U9)<|ZF M (vS M M)<|Zm M M<|zQ 40 M (fun g5=>?_) (fun g5=>?_)
   ·replace g5:=Ki g5;obtain⟨x,hx⟩:∃x,s.op[0]? = some x:=⟨s.op[0]'(by omega),Kn _⟩
    have hhd:s.op.headD 0=x:=by
     revert hx
     generalize s.op=l;intro hx
     cases l with
     | nil=>cases hx
     | cons y r=>cases hx;rfl
    refine ZG M M M (Y119x1 M) ?_;refine ZG M M M (yU 0 M M M U9 M)<|ZG M M M (xX M M U9 M hx)<|Zx M<|Zh M<|Zm M M<|zQ 46 M (fun g11=>?_) (fun g11=>?_)
    ·replace g11:=Kq g11;have hxe:x=106:=(xC 106).2 g11;refine ZG M M M (Y119x1 M) ?_;refine ZG M M M (yU 0 M M M U9 M)<|ZG M M M (rD M M U9 (by omega) (by omega) M)<|xW (.some M M) M  (v:=.int .i64 (xB wO (s.op.drop 1))) (by kernel_rfl) M (fun w hw=>wcondof_any _ w)<|ZG M M M (yC M M)<|Zh M<|Zm M M<|zQ 53 M (fun g18=>?_) (fun g18=>?_)
     ·replace g18:=Ki g18;refine ZG M M M (Y119x2 M) ?_;refine ZG M M M (yU 0 M M M U9 M)<|ZG M M M (yZ M M U9)<|Zh M<|zS ?_;exact zU ⟨_,⟨fun h=>⟨by omega,by rw[hhd];exact hxe,by omega,Ki h⟩,fun h=>An h.2.2.2⟩⟩ (O2 M) Jz
     replace g18:=Kj g18;refine ZP M<|ZP M<|ZP M<|Zf M<|zS ?_;exact zU ⟨false,⟨fun h=>(by cases h),fun h=>absurd (by omega) g18⟩⟩ (O2 M) Jz
    replace g11:=yT g11;have hxe:¬x=106:=fun e=>g11 ((xC 106).1 e);refine ZP M<|ZP M<|ZP M<|ZP M<|ZP M<|Zf M<|Zm M M<|ZP M<|ZP M<|ZP M<|Zf M<|zS ?_;exact zU ⟨false,⟨fun h=>(by cases h),fun h=>absurd (hhd.symm.trans h.2.1) hxe⟩⟩ (O2 M) Jz
   replace g5:=Kj g5;refine ZP M<|ZP M<|ZP M<|ZP M<|Zf M<|Zm M M<|ZP M<|ZP M<|ZP M<|ZP M<|ZP M<|Zf M<|Zm M M<|ZP M<|ZP M<|ZP M<|Zf M<|zS ?_;exact zU ⟨false,⟨fun h=>(by cases h),fun h=>absurd h.1 (by omega)⟩⟩ (O2 M) Jz
  obtain⟨y,hy⟩:=y;dsimp only;refine zT M (fun h57=>?_) (fun h57=>?_)
  ·have h57':=hy.1 h57;rw[Ah h57'] at hv;have hv:(96:Int)+xB wO (s.op.drop 1)=v:=hv;have hl1:=h57'.1;refine zX<|zZ<|ZF M (Y119x1 M) ?_;refine Zl 0 M U9 M<|ZF M (rD M M U9 (by omega) (by omega) M)<|Zu (v:=.int .i64 (xB wO (s.op.drop 1))) M (fun w hw=>wcondof_any _ w)<|ZF M (zF M M (i64_in _ (by omega) (by omega)))<|Za M M<|ZT<|zK<|zW<|zM<|zW<|yY M M fun w hw=>⟨by rw[← hv],(Kk hw).ext⟩
  skip;rw[Ag (fun h=>by rw[hy.2 h] at h57;cases h57),nN] at hv;refine zR<|zV<|zX<|zZ<|Zs (z:=Jg) M U59 fun b63=>ZF M (Zo 1 M U119 M)<|Zu (v:=.int .i64 (plnN sysL s.op s.suf 128)) M (fun w hw=>rX sysL s A c z a 128 (by omega) b63 0 1 (Ae _) (by decide) w (HpG.blk hw (k:=0) M).lt (Blk.sr (l:=sysL) (HpG.blk hw (k:=0) M))) ?_;refine Za M M<|ZT<|zK<|zM<|zW<|yY M M fun w hw=>⟨by rw[← hv],(Kk hw).ext⟩
 skip;rw[Ag (Kj h23)] at hv;refine zX<|Z8r 0 1 2 7 8 13 18 23 M<|ZF M (yZ M M U9)<|Za M M<|ZT<|zT M (fun h66=>?_) (fun h66=>?_)
 ·have h66:=Ki h66;rw[Ah h66] at hv;obtain⟨o1,o2,hl⟩:=shp_two (hsh.symm.trans h66);have hl2:s.l.length=2:=by rw[hl];rfl
  obtain⟨gA,oA,rfl,_⟩:=hX (by rw[opsC_len];omega);have ho2:s.l[1]? = some o2:=by rw[hl];rfl
  have hor:=hok o2 (Ko ho2)
  have hcell:∀j v,(aoC o2)[j]? = some v→∀w,RdF F (some ⟨gA,oA,none⟩) (vI s.l) w→w.cell? ⟨gA,oA+1*6+j,none⟩=some v:=fun j v hj w h=>by
   have h9:=opsC_at ho2 j v hj;exact h.part (Kg.1 h9).1 (by omega) h9
  refine zX<|Z9 0 1 2 7 8 13 18 23 66 M<|uY 3 [0,1,2] (Blk b1 (rsB s (some ⟨gA,oA,none⟩) c z a)) (by kernel_rfl) (by kernel_rfl) Blk.stab (fun w h=>HpG.blk h (k:=0) M) (fun n0 hn0=>?_);refine vP M<|qC (ι:=Nat) (C:=fun _=>True) (val:=fun b=>.slice (some ⟨b,0,none⟩) 15 15) (TT:=fun b=>Bl7 b (uV ariL)) .none M  (by kernel_rfl) M (fun _ h=>h.elim) (fun _=>Bl7.lies) (fun w w' h hx=>h.onE hx) (fun w hw=>arith_rf w) (fun bn Fn _ hFn=>?_);refine Zd M M M (Y119x1 M) ?_;refine Zd M M M (zL (v:=.string ⟨s.op.toArray⟩) M U9 M (fun w hw=>Blk.cell hw M))<|uE ?_;simp only[Kt,Kx];refine Zu (v:=.int .i64 (xB ariL s.op)) M (fun w hw=>wplace_any ariL s.op bn 0 15 (Ae _) (by decide) w (HpG.x hw).1.2.lt (Blk.sr (HpG.x hw).1.2))<|Za M M<|ZX<|zX<|Z10r 0 1 2 3 7 8 13 18 23 66 M<|Zm M M<|ZF M (yR M M)<|ZT<|zT M (fun h73=>?_) (fun h73=>?_)
  ·replace h73:=Ki h73;rw[Ah h73,nN] at hv;refine zX<|Z11r 0 1 2 3 7 8 13 18 23 66 73 M<|zA .none M (pU (z:=Jg) M M M M U59 (by kernel_rfl) (by kernel_rfl) M M M) fun b74=>ZF M (Zo 1 M U119 M)<|Zu (v:=.int .i64 (plnN gscL s.op s.suf 129)) M (fun w hw=>rX gscL s _ c z a 129 (by omega) b74 0 2 (Ae _) (by decide) w (HpG.blk hw (k:=0) M).lt (Blk.sr (l:=gscL) (HpG.blk hw (k:=0) M))) ?_;refine Za M M<|ZT<|zK<|zW<|zM<|zW<|yY M M fun w hw=>⟨by rw[← hv],(Kk hw).ext⟩
  replace h73:=Kj h73;rw[Ag (by omega)] at hv;refine zR<|zV<|zB (ι:={y:Bool // y=true↔(o2.name=[]∧wE o2.n 8=true)}) (fun y=>[(1,Jx b1),(3,.int .i64 (xB ariL s.op)),(4,.bool y.1)]) (fun _=>Jy w_0 [(b1,rsB s (some ⟨gA,oA,none⟩) c z a)] [] (RdF F (some ⟨gA,oA,none⟩) (vI s.l))) ?_ (fun y=>?_)
  ·refine Z11 0 1 2 3 7 8 13 18 23 66 73 M<|zG (H':=Jy w_0 [(b1,rsB s (some ⟨gA,oA,none⟩) c z a)] [] (RdF F (some ⟨gA,oA,none⟩) (vI s.l))) (fun w h=>Hp.weakX h fun u hu=>hu.2) ?_;refine zZ<|ZF M (Y119x4 M) ?_;refine Zl 0 rfl U117 rfl<|ZF rfl (Zi (j:=1) (es:=6) rfl rfl U117 rfl (by first|omega|simp<;>omega) rfl) ?_;refine ZF M (zY (off:=2) (sz:=0) M U125 (by kernel_rfl) M) ?_;refine ZF M (zL (v:=.string ⟨o2.name.toArray⟩) M U9 M (fun w hw=>hcell 2 _ M w (HpG.x hw)))<|ZF M (yZ M M U9)<|Zm M M<|zQ 83 M (fun g7=>?_) (fun g7=>?_)
   ·refine ZG M M M (Y119x4 M) ?_;refine ZG rfl rfl rfl (yU 0 rfl rfl rfl U117 rfl)<|ZG rfl rfl rfl (Zi (j:=1) (es:=6) rfl rfl U117 rfl (by first|omega|simp<;>omega) rfl) ?_;refine ZG M M M (Y125x3 M) ?_;refine ZG M M M (zL (v:=.int .u32 o2.n) M U22 M (fun w hw=>hcell 3 _ M w (HpG.x hw)))<|xW (.some M M) M  (v:=.bool (wE o2.n 8)) (by kernel_rfl) M (fun w hw=>wsigned_any o2.n w)<|Zh M<|Za M M<|zS ?_;exact zU ⟨_,⟨fun h=>⟨Ki g7,h⟩,fun h=>h.2⟩⟩ (O3 M) Jz
   skip;refine ZP M<|ZP M<|ZP M<|ZP M<|ZP M<|ZP M<|Zf M<|Za M M<|zS ?_;exact zU ⟨false,⟨fun h=>(by cases h),fun h=>absurd h.1 (Kj g7)⟩⟩ (O3 M) Jz
  obtain⟨y,hy⟩:=y;dsimp only;refine zX<|zB (ι:={x:Bool // x=true↔(s.suf=[46,98]∨(s.suf=[]∧y=true))}) (fun x=>[(1,Jx b1),(3,.int .i64 (xB ariL s.op)),(101,.bool x.1)]) (fun _=>Jy w_0 [(b1,rsB s (some ⟨gA,oA,none⟩) c z a)] [] (RdF F (some ⟨gA,oA,none⟩) (vI s.l))) ?_ (fun x=>?_)
  ·refine zZ<|ZF M (Y119x2 M) ?_;refine Zl 0 M U9 M<|ZF M (yZ M M U9)<|Zm M M<|zQ 94 M (fun g4=>?_) (fun g4=>?_)
   ·refine ZP M<|ZP M<|ZP M<|ZP M<|zE M M M<|ZP M<|Zh M<|zS ?_;exact zU ⟨true,⟨fun _=>.inl (Ki g4),fun _=>rfl⟩⟩ (O3 M) Jz
   skip;refine ZG M M M (Y119x2 M) ?_;refine ZG M M M (yU 0 M M M U9 M)<|ZG M M M (yZ M M U9)<|Zv M<|zQ 98 M (fun g8=>?_) (fun g8=>?_)
   ·refine Zv M<|ZG M M M (yA M M)<|Zf M<|zS ?_;exact zU ⟨_,⟨fun h=>.inr ⟨Ki g8,h⟩,fun h=>(h.resolve_left (Kj g4)).2⟩⟩ (O3 M) Jz
   skip;refine ZP M<|ZG M M M (yD M M)<|Zf M<|zS ?_;exact zU ⟨false,⟨fun h=>(by cases h),fun h=>absurd (h.resolve_left (Kj g4)).1 (Kj g8)⟩⟩ (O3 M) Jz
  obtain⟨x,hx⟩:=x;dsimp only;refine zT M (fun h101=>?_) (fun h101=>?_)
  ·have hv:(48:Int)+xB ariL s.op=v:=by
    rcases hx.1 h101 with h|⟨h,h9⟩;rw[Ah h] at hv;exact hv;rw[Ag (by rw[h];decide),Ag (by rw[h];decide),Ah h] at hv;rw[← hv]
    show _=(match s.l[1]? with
     | some o=>if o.name=[]∧wE o.n 8=true then (48:Int)+((xB ariL s.op).toNat:Nat) else 64+((xB ariL s.op).toNat:Nat)
     | none=>0)
    rw[ho2];dsimp only;rw[Ah (hy.1 h9)];omega
   refine zX<|zZ<|Zm M M<|ZF M (zF M M (i64_in _ (by omega) (by omega)))<|Za M M<|ZT<|zK<|zW<|zM<|zW<|yY M M fun w hw=>⟨by rw[← hv],(Kk hw).ext⟩
  skip;have hn:=fun h=>Bool.false_ne_true (h101.symm.trans (hx.2 h));rw[Ag (fun h=>hn (.inl h))] at hv;refine zR<|zV<|zB (ι:={x:Bool // x=true↔(s.suf=[46,119]∨s.suf=[])}) (fun x=>[(1,Jx b1),(3,.int .i64 (xB ariL s.op)),(111,.bool x.1)]) (fun _=>Jy w_0 [(b1,rsB s (some ⟨gA,oA,none⟩) c z a)] [] (RdF F (some ⟨gA,oA,none⟩) (vI s.l))) ?_ (fun x=>?_)
  ·refine zZ<|ZF M (Y119x2 M) ?_;refine Zl 0 M U9 M<|ZF M (yZ M M U9)<|Zm M M<|zQ 107 M (fun g4=>?_) (fun g4=>?_)
   ·refine ZP M<|ZP M<|ZP M<|Zh M<|zS ?_;exact zU ⟨true,⟨fun _=>.inl (Ki g4),fun _=>rfl⟩⟩ (O3 M) Jz
   skip;refine ZG M M M (Y119x2 M) ?_;refine ZG M M M (yU 0 M M M U9 M)<|ZG M M M (yZ M M U9)<|Zf M<|zS ?_;exact zU ⟨_,⟨fun h=>.inr (Ki h),fun h=>An (h.resolve_left (Kj g4))⟩⟩ (O3 M) Jz
  obtain⟨x2,hx2⟩:=x;dsimp only;refine zT M (fun h111=>?_) (fun h111=>?_)
  ·have hv:(64:Int)+xB ariL s.op=v:=by
    rcases hx2.1 h111 with h|h;rw[Ah h] at hv;exact hv;rw[Ag (by rw[h];decide),Ah h] at hv;rw[← hv]
    show _=(match s.l[1]? with
     | some o=>if o.name=[]∧wE o.n 8=true then (48:Int)+((xB ariL s.op).toNat:Nat) else 64+((xB ariL s.op).toNat:Nat)
     | none=>0)
    rw[ho2];dsimp only;rw[Ag (fun h9=>hn (.inr ⟨h,hy.2 h9⟩))];omega
   refine zX<|zZ<|Zm M M<|ZF M (zF M M (i64_in _ (by omega) (by omega)))<|Za M M<|ZT<|zK<|zM<|zW<|yY M M fun w hw=>⟨by rw[← hv],(Kk hw).ext⟩
  skip
  have hv:(-1:Int)=v:=by
   rw[Ag (fun h=>by rw[hx2.2 (.inl h)] at h111;cases h111),Ag (fun h=>by rw[hx2.2 (.inr h)] at h111;cases h111)] at hv;exact hv
  refine zR<|zH<|zV<|zX<|zZ<|Za M M<|ZU M M fun w hw=>⟨by rw[← hv],(Kk hw).ext⟩
 skip;rw[Ag (Kj h66)] at hv;refine zX<|Z9r 0 1 2 7 8 13 18 23 66 M<|ZF M (yZ M M U9)<|Za M M<|ZT<|zT M (fun h114=>?_) (fun h114=>?_)
 ·have h114:=Ki h114;rw[Ah h114] at hv;obtain⟨o1,o2,hl⟩:=shp_two (hsh.symm.trans h114);have hl2:s.l.length=2:=by rw[hl];rfl
  obtain⟨gA,oA,rfl,_⟩:=hX (by rw[opsC_len];omega);have ho2:s.l[1]? = some o2:=by rw[hl];rfl
  have hcell:∀j v,(aoC o2)[j]? = some v→∀w,RdF F (some ⟨gA,oA,none⟩) (vI s.l) w→w.cell? ⟨gA,oA+1*6+j,none⟩=some v:=fun j v hj w h=>by
   have h9:=opsC_at ho2 j v hj;exact h.part (Kg.1 h9).1 (by omega) h9
  refine zX<|Z10 0 1 2 7 8 13 18 23 66 114 M<|uY 3 [0,1,2] (Blk b1 (rsB s (some ⟨gA,oA,none⟩) c z a)) (by kernel_rfl) (by kernel_rfl) Blk.stab (fun w h=>HpG.blk h (k:=0) M) (fun n0 hn0=>?_);refine vP M<|qC (ι:=Nat) (C:=fun _=>True) (val:=fun b=>.slice (some ⟨b,0,none⟩) 7 7) (TT:=fun b=>Bl7 b (uV accL)) .none M  (by kernel_rfl) M (fun _ h=>h.elim) (fun _=>Bl7.lies) (fun w w' h hx=>h.onE hx) (fun w hw=>mem_rf w) (fun bn Fn _ hFn=>?_);refine Zd M M M (Y119x1 M) ?_;refine Zd M M M (zL (v:=.string ⟨s.op.toArray⟩) M U9 M (fun w hw=>Blk.cell hw M))<|uE ?_;simp only[Kt,Kx];refine Zu (v:=.int .i64 (xB accL s.op)) M (fun w hw=>wplace_any accL s.op bn 0 7 (Ae _) (by decide) w (HpG.x hw).1.2.lt (Blk.sr (HpG.x hw).1.2))<|Za M M<|ZX<|zX<|Z11r 0 1 2 5 7 8 13 18 23 66 114 M<|Zm M M<|ZF M (yR M M)<|ZT<|zT M (fun h121=>?_) (fun h121=>?_)
  ·replace h121:=Ki h121;rw[Ah h121] at hv;have hv:(-1:Int)=v:=hv;refine zX<|Z12r 0 1 2 5 7 8 13 18 23 66 114 121 M<|Za M M<|ZT<|zK<|zW<|zM<|zW<|yY M M fun w hw=>⟨by rw[← hv],(Kk hw).ext⟩
  replace h121:=Kj h121;rw[Ag (by omega)] at hv;refine zR<|zV<|zX<|zB (ι:={x:Bool // x=true↔(s.suf=[46,120]∨(s.suf=[]∧(0≤o2.index∨wE o2.n 8=false)))}) (fun x=>[(1,Jx b1),(5,.int .i64 (xB accL s.op)),(146,.bool x.1)]) (fun _=>Jy w_0 [(b1,rsB s (some ⟨gA,oA,none⟩) c z a)] [] (RdF F (some ⟨gA,oA,none⟩) (vI s.l))) ?_ (fun x=>?_)
  ·refine Z12 0 1 2 5 7 8 13 18 23 66 114 121 M<|zG (H':=Jy w_0 [(b1,rsB s (some ⟨gA,oA,none⟩) c z a)] [] (RdF F (some ⟨gA,oA,none⟩) (vI s.l))) (fun w h=>Hp.weakX h fun u hu=>hu.2) ?_;refine zZ<|ZF M (Y119x2 M) ?_;refine Zl 0 M U9 M<|ZF M (yZ M M U9)<|Zm M M<|zQ 125 M (fun g4=>?_) (fun g4=>?_)
   ·refine ZP M<|ZP M<|ZP M<|ZP M<|zE M M M<|zE M M M<|zE M M M<|zE M M M<|zE M M M<|zE M M M<|zE M M M<|zE M M M<|zE M M M<|zE M M M<|zE M M M<|zE M M M<|zE M M M<|zE M M M<|zE M M M<|ZP M<|Zh M<|zS ?_;exact zU ⟨true,⟨fun _=>.inl (Ki g4),fun _=>rfl⟩⟩ (O3 M) Jz
   skip;refine ZG M M M (Y119x2 M) ?_;refine ZG M M M (yU 0 M M M U9 M)<|ZG M M M (yZ M M U9)<|Zv M<|zQ 129 M (fun g8=>?_) (fun g8=>?_)
   ·refine ZG M M M (Y119x4 M) ?_;refine ZG rfl rfl rfl (yU 0 rfl rfl rfl U117 rfl)<|ZG rfl rfl rfl (Zi (j:=1) (es:=6) rfl rfl U117 rfl (by first|omega|simp<;>omega) rfl) ?_;refine ZG M M M (zY (off:=4) (sz:=0) M U125 (by kernel_rfl) M) ?_;refine ZG M M M (zL (v:=.int .i64 o2.index) M U3 M (fun w hw=>hcell 4 _ M w (HpG.x hw)))<|ZG M M M (yC M M)<|Zv M<|zQ 136 M (fun g15=>?_) (fun g15=>?_)
    ·replace g15:=Ki g15;refine ZP M<|ZP M<|ZP M<|ZP M<|ZP M<|ZP M<|ZP M<|ZG M M M (yA M M)<|ZG M M M (yA M M)<|Zf M<|zS ?_;exact zU ⟨true,⟨fun _=>.inr ⟨Ki g8,.inl g15⟩,fun _=>rfl⟩⟩ (O3 M) Jz
    replace g15:=Kj g15;refine ZG M M M (Y119x4 M) ?_;refine ZG rfl rfl rfl (yU 0 rfl rfl rfl U117 rfl)<|ZG rfl rfl rfl (Zi (j:=1) (es:=6) rfl rfl U117 rfl (by first|omega|simp<;>omega) rfl) ?_;refine ZG M M M (Y125x3 M) ?_;refine ZG M M M (zL (v:=.int .u32 o2.n) M U22 M (fun w hw=>hcell 3 _ M w (HpG.x hw)))<|xW (.some M M) M  (v:=.bool (wE o2.n 8)) (by kernel_rfl) M (fun w hw=>wsigned_any o2.n w)<|ZG M M M (xO M)<|ZG M M M (yD M M)<|ZG M M M (yA M M)<|Zf M<|zS<|zU ⟨!(wE o2.n 8),⟨fun h=>.inr ⟨Ki g8,.inr ?_⟩,fun h=>?_⟩⟩ (O3 M) Jz
    ·cases hf:wE o2.n 8 with
     | false=>rfl
     | true=>rw[hf] at h;exact absurd h (by decide)
    rw[((h.resolve_left (Kj g4)).2.resolve_left g15)];rfl
   skip;refine ZP M<|ZP M<|ZP M<|ZP M<|ZP M<|ZP M<|ZP M<|zE M M M<|zE M M M<|zE M M M<|zE M M M<|zE M M M<|zE M M M<|zE M M M<|ZP M<|ZG M M M (yD M M)<|Zf M<|zS ?_;exact zU ⟨false,⟨fun h=>(by cases h),fun h=>absurd (h.resolve_left (Kj g4)).1 (Kj g8)⟩⟩ (O3 M) Jz
  obtain⟨x,hx⟩:=x;dsimp only;refine zT M (fun h146=>?_) (fun h146=>?_)
  ·have hv:(88:Int)+xB accL s.op=v:=by
    rcases hx.1 h146 with h|⟨h,h9⟩;rw[Ah h] at hv;exact hv;rw[Ag (by rw[h];decide),Ah h] at hv;rw[← hv]
    show _=(match s.l[1]? with
     | some o=>if o.index<0∧wE o.n 8=true then (80:Int)+((xB accL s.op).toNat:Nat) else 88+((xB accL s.op).toNat:Nat)
     | none=>0)
    rw[ho2];dsimp only;rw[Ag (fun h8=>h9.elim (fun h7=>by omega) fun h7=>by rw[h7] at h8;cases h8.2)];omega
   refine zX<|zZ<|Zm M M<|ZF M (zF M M (i64_in _ (by omega) (by omega)))<|Za M M<|ZT<|zK<|zW<|zM<|zW<|yY M M fun w hw=>⟨by rw[← hv],(Kk hw).ext⟩
  skip;have hn:=fun h=>Bool.false_ne_true (h146.symm.trans (hx.2 h));rw[Ag (fun h=>hn (.inl h))] at hv;refine zR<|zV<|zX<|zZ<|ZF M (Y119x2 M) ?_;refine Zl 0 M U9 M<|ZF M (yZ M M U9)<|ZT<|zT M (fun h151=>?_) (fun h151=>?_)
  ·have h151:=Ki h151
   have hv:(80:Int)+xB accL s.op=v:=by
    rw[Ah h151] at hv;rw[← hv]
    show _=(match s.l[1]? with
     | some o=>if o.index<0∧wE o.n 8=true then (80:Int)+((xB accL s.op).toNat:Nat) else 88+((xB accL s.op).toNat:Nat)
     | none=>0)
    rw[ho2];dsimp only
    rw[Ah ⟨Int.lt_of_not_ge fun h=>hn (.inr ⟨h151,.inl h⟩),by
     cases hf:wE o2.n 8 with
     | true=>rfl
     | false=>exact absurd (.inr ⟨h151,.inr hf⟩) hn⟩];omega
   refine zX<|Z4r 1 5 146 151 M<|Zm M M<|ZF M (zF M M (i64_in _ (by omega) (by omega)))<|Za M M<|ZT<|zK<|zM<|zW<|yY M M fun w hw=>⟨by rw[← hv],(Kk hw).ext⟩
  skip
  have hv:(-1:Int)=v:=by
   rw[Ag (Kj h151)] at hv;exact hv
  refine zR<|zH<|zV<|zX<|Z4r 1 5 146 151 M<|Za M M<|ZU M M fun w hw=>⟨by rw[← hv],(Kk hw).ext⟩
 skip;rw[Ag (Kj h114)] at hv;have hv:(-1:Int)=v:=hv;refine zR<|zH<|zV<|zX<|Z10r 0 1 2 7 8 13 18 23 66 114 M<|Za M M<|ZU M M fun w hw=>⟨by rw[← hv],(Kk hw).ext⟩
end Go.Proofs.YtkaepknpplhgkaaGreatDoor
