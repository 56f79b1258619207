import Derived.Test.YtkaepknpplhgkaaGreatDoorMae
import Derived.WideLaws
import Derived.Laws.Pointers
import Derived.Laws.Externs
import Derived.Lib.Builder
import Derived.Lib.AppendStr
import Derived.Lib.UnsafeStr
set_option maxRecDepth 100000
set_option maxHeartbeats 1000000
namespace Go.Proofs.YtkaepknpplhgkaaGreatDoor
open Go.RowKit
theorem lexD_len:∀(k:Nat) (s:Bs),s.length<k→∀l,vV s=.ok l→l.length≤s.length
 | 0,_,h,_,_=>absurd h (by omega)
 | k+1,[],_,l,he=>by rw[nP] at he;cases he;exact Ae _
 | k+1,c::r,h,l,he=>by
  have hlen:(c::r).length=r.length+1:=rfl;rw[nO] at he
  split at he
  have:=lexD_len k r (by omega) l he;omega
  split at he
  ·next hw =>
   obtain⟨l',h1,h2⟩:=yL he;cases h2
   have h0:1≤((c::r).takeWhile wF).length:=by
    have:wF c=true:=by
     unfold wF;rcases hw with h|h|h;rw[h];rfl;subst h;rfl;subst h;rfl
    rw[List.takeWhile_cons,Ah this];simp
   have:=lexD_len k _ (by rw[Kw];omega) l' h1;rw[Kw] at this;show l'.length+1≤_;omega
  split at he
  ·next hd =>
   obtain⟨n,hn,he⟩:=yL he;obtain⟨l',h1,h2⟩:=yL he;cases h2
   have h0:1≤((c::r).takeWhile tZ).length:=by
    rw[List.takeWhile_cons,Ah (by unfold tZ;rw[hd];simp)];simp
   have:=lexD_len k _ (by rw[Kw];omega) l' h1;rw[Kw] at this;show l'.length+1≤_;omega
  split at he
  ·obtain⟨l',h1,h2⟩:=yL he;cases h2;have:=lexD_len k r (by omega) l' h1;show l'.length+1≤_;omega
  ·cases he
theorem toksC_at:∀{l:List ATk}{k:Nat}{t:ATk},l[k]? = some t→∀(j:Nat) v,(tkC t)[j]? = some v→(rB l)[3*k+j]? = some v
 | [],_,_,h=>by cases h
 | x::l,0,t,h=>by
  cases h;intro j v hj;have:=(Kg.1 hj).1;show (tkC x++rB l)[3*0+j]? = _;rw[show 3*0+j=j by omega,List.getElem?_append_left this];exact hj
 | x::l,k+1,t,h=>by
  intro j v hj;have:=toksC_at (l:=l) (k:=k) (by simpa using h) j v hj;have hl:(tkC x).length=3:=rfl;show (tkC x++rB l)[3*(k+1)+j]? = _;rw[List.getElem?_append_right (by omega),hl,show 3*(k+1)+j-3=3*k+j by omega];exact this
def pvOf (kind:Int) (l:List ATk) (A:Option Addr) (cap:Nat):PV:=match A with
 | some a=>⟨kind,l,a.block,a.off,cap⟩
 | none=>⟨kind,l,0,0,cap⟩
theorem pv_ok {kind:Int}{l:List ATk}{A:Option Addr}{cap:Nat}{F:Nat→Prop}{w:World}(hc:Cp l.length cap) (hr:RdF F A (rB l) w):PAt (pvOf kind l A cap) 0 A∧TkX (pvOf kind l A cap) w∧(pvOf kind l A cap).kind=kind∧(pvOf kind l A cap).l=l∧(pvOf kind l A cap).cap=cap:=by
 have hk:(pvOf kind l A cap).kind=kind∧(pvOf kind l A cap).l=l∧(pvOf kind l A cap).cap=cap:=by unfold pvOf;cases A<;>exact⟨rfl,rfl,rfl⟩
 refine⟨⟨Ad _,by rw[hk.2.1,hk.2.2];exact hc.1,by rw[hk.2.2];exact hc.2,fun h=>?_⟩,fun k t ht j v hv=>?_,hk⟩
 ·rw[hk.2.1] at h;obtain⟨g,o,rfl,_⟩:=hr (by rw[toksC_len];omega);rfl
 rw[hk.2.1] at ht;have h1:=toksC_at ht j v hv;obtain⟨g,o,rfl,_,_,h2⟩:=hr (by have:=(Kg.1 h1).1;omega);have:=h2 (3*k+j) (Kg.1 h1).1;show w.cell? ⟨g,o+3*k+j,none⟩=some v;rw[Nat.add_assoc,this,Ku,h1];rfl
end Go.Proofs.YtkaepknpplhgkaaGreatDoor
namespace Go.Proofs.YtkaepknpplhgkaaGreatDoor
open Go.RowKit
section
variable {P:Program}{n:Fr}{m:List (Nat×Value)}{ty:TypeId}{H:World→Prop}
def isE:Value→Bool
 | .nilIface=>false
 | _=>true
theorem yf_neqNil {x:Operand}{t t':TypeId}{v:Value}(hx:ev m x=some v) (hv:v=.nilIface∨∃u p,v=.iface u p) (ht:P.underlying t=some (.interface (P.methodsAt t))):YF P (.binOp .neq t x (.const .nilIface) t') ty n m H (.bool (isE v)):=fun a w d pos af g hs hw=>by
 have e0:a.eval (.const .nilIface)=.nilIface:=rfl;rcases hv with rfl|⟨u,p,rfl⟩
 ·have:=run_neq_nil_nil (P:=P) w t ht;have e:eqGuard .neq t x (.const .nilIface) .nilIface .nilIface=pure ():=by cases x<;>rfl
  simp[Yl,execOp,hs.ev hx,e0,this,isE,e]
 have:=run_neq_held_nil (P:=P) w t u p ht;simp[Yl,execOp,hs.ev hx,e0,this,isE,eqGuard_at_iface]
theorem yf_assertI {x:Operand}{xt t:TypeId}{k:IntKind}{v:Value}(hx:ev m x=some (.iface t v)) (ht:P.underlying t=some (.int k)):YF P (.typeAssert x xt t false) ty n m H v:=fun _ w d pos af g hs hw=>by
 simp[Yl,execOp,hs.ev hx,Instr.typeAssert,run_underlying ht]
end
theorem rec_idle (p q:Addr) (w:World):CallsD Tryz.prog 38 #[.pointer (some p),.pointer (some q)] .returning w fun e u' w'=>e=.returned (.tuple #[])∧u'=.returning∧w'=w:=by
 refine callsD_of_wpS Tryz.func38 M fun c₀ cs hu=>?_;apply wpS_seq;apply wpS_region;simp[wpOpsS,go_sem,recoverD,hu,Tryz.ntmps38,Exit.thenS];refine wpS_of_wp<|(?_:WC Tryz.prog _ (fun e a' w'=>bodyPostS Tryz.prog Tryz.f38 c₀ cs (fun e u' w'=>e=Ending.returned (Value.tuple #[])∧u'=FrameMode.returning∧w'=w) e a' (c₀::cs) w') ⟨8,[]⟩ [(2,.nilIface)] (fun u=>u=w)) _ w ⟨by simp,rfl,fun i v h=>?_⟩ rfl
 ·refine zX<|zZ<|Zm M M<|ZF M (yf_neqNil M (.inl M) (by kernel_rfl))<|ZT<|zD M<|zR ?_;intro a u hs hw;subst hw;refine⟨hs.dfr,.returning,?_,.tuple #[],?_,rfl,rfl,rfl⟩
  ·cases c₀;simp_all
  simp[results,Tryz.results38]
 by_cases h2:i=2
 subst h2;cases h;rfl;rw[vB (fun e=>h2 e.symm)] at h;cases h
theorem rec_err (b6 b8:Nat) (x y:Value) (k:Nat) (w_0:World) (h6:w_0.heap[b6]? = some (bk 9 [x])) (h8:w_0.heap[b8]? = some (bk 25 [y])) (hne:b6≠b8):CallsD Tryz.prog 38 #[Jx b6,Jx b8] (.panicking (pan (qK k))) w_0 fun e u' w'=>e=.returned (.tuple #[])∧u'=.panicking [{ v:=qK k,recovered:=true }]∧Keep (fun j=>j=b6∨j=b8) w_0 w'∧w'.heap[b6]? = some (bk 9 [.string ⟨#[]⟩])∧w'.heap[b8]? = some (bk 25 [.int .i64 k]):=by
 refine callsD_of_wpS Tryz.func38 M fun c₀ cs hu=>?_;apply wpS_seq;apply wpS_region;simp[wpOpsS,go_sem,recoverD,hu,Tryz.ntmps38,Exit.thenS];refine wpS_of_wp<|(?_:WC Tryz.prog _ _ ⟨8,[]⟩ [(0,Jx b6),(1,Jx b8),(2,qK k)] (fun u=>u=w_0)) _ w_0 ⟨by simp,rfl,fun i v h=>?_⟩ rfl
 ·refine zX<|zZ<|Zm M M<|ZF M (yf_neqNil M (.inr ⟨_,_,rfl⟩) (by kernel_rfl))<|ZT<|wY M<|zG (H':=Hp (fun j=>j=b6∨j=b8) w_0 [(b6,bk 9 [x]),(b8,bk 25 [y])] [] (fun _=>True)) (fun u hu=>by subst hu;exact Hp.start2 h6 h8 hne ⟨fun _=>False,fun _ h=>h.elim,fun _ _=>trivial⟩) ?_;refine qB (γ:=Unit) [(0,Jx b6),(1,Jx b8),(2,qK k)] [(0,6,fun _=>qK k),(1,7,fun _=>.int .i64 k)] (fun D _ w=>Hp (fun j=>j=b6∨j=b8) w_0 [(b6,bk 9 [bif D 2 then .string ⟨#[]⟩ else x]),(b8,bk 25 [bif D 3 then .int .i64 k else y])] [] (fun _=>True) w) [[],[0],[],[1]] () (by kernel_rfl) (by kernel_rfl) (by kernel_rfl) (O3 M) (fun D w h hw=>by rw[h 2 (by decide),h 3 (by decide)];exact Hp.drew hw) ⟨?_,?_,?_,?_,trivial⟩ (fun g=>?_)
  ·intro D g hD hd;exact zI (yW M) M Jz
  ·intro D g hD hd;exact zI (v:=.int .i64 k) (yf_assertI (show ev _ _=some (.iface 25 (.int .i64 k)) from M) Tryz.underlying25) M Jz
  ·intro D g hD hd;exact uO (wA 0 M M M M M (by kernel_rfl)) (fun _ w hw=>⟨g,trivial,wU.refl,hw⟩)
  ·intro D g hD hd;exact uO (wA 1 M M M M M (by kernel_rfl)) (fun _ w hw=>⟨g,trivial,wU.refl,hw⟩)
  intro a u hs hw;refine⟨hs.dfr,.panicking [{ v:=qK k,recovered:=true }],?_,.tuple #[],?_,rfl,rfl,Kk hw,HpG.blkL (j:=0) hw rfl,HpG.blkL (j:=1) hw rfl⟩;rfl;simp[results,Tryz.results38]
 by_cases h0:i=0
 subst h0;cases h;rfl
 by_cases h1:i=1
 subst h1;rw[vB (by decide)] at h;cases h;rfl
 by_cases h2:i=2
 subst h2;rw[vB (by decide),vB (by decide)] at h;cases h;rfl;rw[vB (fun e=>h0 e.symm),vB (fun e=>h1 e.symm),vB (fun e=>h2 e.symm)] at h;cases h
end Go.Proofs.YtkaepknpplhgkaaGreatDoor
namespace Go.Proofs.YtkaepknpplhgkaaGreatDoor
open Go.RowKit
theorem loadV {P:Program}{t:TypeId}{d:TypeDesc}{g:Nat}{v:Value}{w:World}(ht:P.underlying t=some d) (hd:d.isRow=false) (hc:w.cell? ⟨g,0,none⟩=some v):(loadVar t ⟨g,0,none⟩).run P w=.ok v w:=by
 have hagg:(isAgg t).run P w=.ok false w:=by
  unfold isAgg;rw[Sem.run_bind,run_underlying ht w];cases d<;>simp_all
 simp[loadVar,hagg,hc]
section
variable {n:Fr}{m:List (Nat×Value)}{H:World→Prop}{R:Ending→World→Prop}{b6 b8:Nat}{u:Value}
theorem res_asm {a:Act}{w:World}{x y:Value}(h6:a.tmps[6]? = some (Jx b6)) (h7:a.tmps[7]? = some u) (h8:a.tmps[8]? = some (Jx b8)) (w6:w.heap[b6]? = some (bk 9 [x])) (w8:w.heap[b8]? = some (bk 25 [y])) :
  (results Tryz.f17 a.tmps).run Tryz.prog w=.ok (.tuple #[x,u,y]) w:=by
 have l6:=loadV (P:=Tryz.prog) (w:=w) (g:=b6) (v:=x) Tryz.underlying9 rfl (Blk.cell w6 rfl);have l8:=loadV (P:=Tryz.prog) (w:=w) (g:=b8) (v:=y) Tryz.underlying25 rfl (Blk.cell w8 rfl);simp[results,Tryz.results17,h6,h7,h8,asAddr,l6,l8]
theorem wq_dieD {k:Nat}(h6:look m 6=some (Jx b6)) (h7:look m 7=some u) (h8:look m 8=some (Jx b8)) (hz:n.D=[dfr 38 [Jx b6,Jx b8]]) (hne:b6≠b8)
  (hH:∀w,H w→(∃x,w.heap[b6]? = some (bk 9 [x]))∧(∃y,w.heap[b8]? = some (bk 25 [y])))
  (h:∀w w',H w→Keep (fun j=>j=b6∨j=b8) w w'→R (.returned (.tuple #[.string ⟨#[]⟩,u,.int .i64 k])) w'):WQ (bodyPostD Tryz.prog Tryz.f17 R) (.panic (pan (qK k))) n m H:=fun a w hs hw=>by
 show Leaves _ _ _ _ a.defers _ w;rw[hs.dfr,hz];obtain⟨⟨x,e6⟩,⟨y,e8⟩⟩:=hH w hw;refine leaves_cons (f:=38) (args:=#[Jx b6,Jx b8]) (by simp) (by simp[go_sem]) ?_;refine (rec_err b6 b8 x y k w e6 e8 hne).mono ?_
 rintro e u' w' ⟨rfl,rfl,hk,f6,f8⟩
 show Leaves _ _ _ _ [] (settle _) w';exact⟨_,res_asm (hs.get 6 _ h6) (hs.get 7 _ h7) (hs.get 8 _ h8) f6 f8,h w w' hw hk⟩
theorem wq_endD {x y:Value}(h6:look m 6=some (Jx b6)) (h7:look m 7=some u) (h8:look m 8=some (Jx b8)) (hz:n.D=[dfr 38 [Jx b6,Jx b8]])
  (hH:∀w,H w→w.heap[b6]? = some (bk 9 [x])∧w.heap[b8]? = some (bk 25 [y]))
  (h:∀w,H w→R (.returned (.tuple #[x,u,y])) w):WQ (bodyPostD Tryz.prog Tryz.f17 R) .ret n m H:=fun a w hs hw=>by
 show Leaves _ _ _ _ a.defers _ w;rw[hs.dfr,hz];obtain⟨e6,e8⟩:=hH w hw;refine leaves_cons (f:=38) (args:=#[Jx b6,Jx b8]) (by simp) (by simp[go_sem]) ?_;refine (rec_idle ⟨b6,0,none⟩ ⟨b8,0,none⟩ w).mono ?_
 rintro e u' w' ⟨rfl,rfl,rfl⟩
 show Leaves _ _ _ _ [] (settle _) w';exact⟨_,res_asm (hs.get 6 _ h6) (hs.get 7 _ h7) (hs.get 8 _ h8) e6 e8,h w' hw⟩
theorem wq_endN {x y:Value}(h6:look m 6=some (Jx b6)) (h7:look m 7=some u) (h8:look m 8=some (Jx b8)) (hz:n.D=[])
  (hH:∀w,H w→w.heap[b6]? = some (bk 9 [x])∧w.heap[b8]? = some (bk 25 [y]))
  (h:∀w,H w→R (.returned (.tuple #[x,u,y])) w):WQ (bodyPostD Tryz.prog Tryz.f17 R) .ret n m H:=fun a w hs hw=>by
 show Leaves _ _ _ _ a.defers _ w;rw[hs.dfr,hz];obtain⟨e6,e8⟩:=hH w hw;exact⟨_,res_asm (hs.get 6 _ h6) (hs.get 7 _ h7) (hs.get 8 _ h8) e6 e8,h w hw⟩
end
theorem nM {w0 w w':World}{b6 b8:Nat}(h1:Keep (fun _=>False) w0 w) (h2:Keep (fun j=>j=b6∨j=b8) w w') (h6:w0.heap.size≤b6) (h8:w0.heap.size≤b8):Ext w0 w' :=
 rZ ⟨h2.os.trans h1.os,h2.tape.trans h1.tape,h2.output.trans h1.output,Ap h1.size h2.size,fun k hk _=>(h2.block k (Kr hk h1.size) (fun e=>by omega)).trans (h1.block k hk id)⟩
section
variable {P:Program}{ops:Array Oper}{Q:Exit→Act→World→Prop}{n:Fr}{m:List (Nat×Value)}{ty:TypeId}{w0:World}{L:List (Nat×Obj)}{R:List Rw}{X:World→Prop}{rest:List Oper}{d:Nat}{pos:String}{af:Array Edge}{gd:Option (Nat×Bool)}
theorem wl_callS {ι:Type}{f:FuncId}{args:List Operand}{ats:Array TypeId}{vs:List Value}{val:ι→Value}{TT:ι→(Nat→Prop)→World→Prop}(F0:Nat→Prop) (v0:World) (hS:∀u,X u→Same F0 v0 u) (hlt:∀k,F0 k→k<v0.heap.size) (hg:Gd ops m gd) (hd:Nat.blt d n=true) (hf:goes P f=true) (ha:evl m args=some vs) (hT:∀i,Lies (TT i))
  (hC:∀w,Jy w0 L R X w→Calls P f vs.toArray w fun e w'=>∃i,e=.returned (val i)∧Ext w w'∧TT i (fun k=>F0 k∨w.heap.size≤k) w')
  (h:∀i,WL P ops Q rest n ((d,val i)::m) (Jy w0 L R (fun u=>TT i (fun k=>F0 k∨w0.heap.size≤k) u∧X u))):WL P ops Q (⟨some d,.call { callee:=.value (.func f),args:=args.toArray,argTypes:=ats },ty,pos,af,gd⟩::rest) n m (Jy w0 L R X) :=
 xY (ι:=ι) (val:=val) (H':=fun i=>Jy w0 L R (fun u=>TT i (fun k=>F0 k∨w0.heap.size≤k) u∧X u)) hg hd
  (rF hf ha fun w hw=>(hC w hw).mono fun _ w' ⟨i,e1,e2,e3⟩=>by
   have h1:Jy w0 L R X w':=HpG.onE hw e2;obtain⟨Fx,hFx,hX⟩:=HpG.foot h1;refine⟨_,e1,i,rfl,Kk h1,HpG.own h1,HpG.mine h1,HpG.rows h1,HpG.nd h1,HpG.inG h1,fun k=>Fx k∨(w.heap.size≤k∧k<w'.heap.size),fun k hk=>?_,fun u hu=>⟨?_,hX u fun k hk=>hu k (.inl hk)⟩⟩
   ·rcases hk with hk|hk;exact hFx k hk;exact⟨hk.2,id,fun hm=>by have:=HpG.lt hw k hm;omega,trivial⟩
   refine (hT i).mono (F:=fun k=>(F0 k∨w.heap.size≤k)∧k<w'.heap.size) (fun k hk=>hk.1.imp id (Ap (HpG.size hw))) ((hT i).foot (fun k hk=>?_) ((hT i).lt e3));rcases hk.1 with hk0|hk0;rw[hS u (hX u fun j hj=>hu j (.inl hj)) k hk0 (hlt k hk0),hS w' (HpG.x h1) k hk0 (hlt k hk0)]
   exact hu k (.inr ⟨hk0,hk.2⟩)) h
end
end Go.Proofs.YtkaepknpplhgkaaGreatDoor
namespace Go.Proofs.YtkaepknpplhgkaaGreatDoor
open Go.RowKit
theorem tailA_sub {P:ATk→Prop}{o o':AOp}{l l':List ATk}(hl:∀t∈l,P t) (h:vA o l=.ok (o',l')):∀t∈l',P t:=by
 rw[tailA_eq] at h;obtain⟨⟨n,l1⟩,h1,h2⟩:=yL h;dsimp only at h2
 have h3:∀t∈l1,P t:=by
  split at h1
  ·obtain⟨⟨t,l2⟩,h3,h4⟩:=yL h1;cases h4;obtain⟨_,rfl⟩:=vY h3;exact xJ (xJ hl 1) 1
  split at h1
  ·obtain⟨⟨t,l2⟩,h3,h4⟩:=yL h1;cases h4;obtain⟨_,rfl⟩:=vY h3;exact xJ (xJ hl 1) 1
  ·cases h1;exact hl
 split at h2
 ·cases h2;exact xJ h3 1
 ·cases h2
theorem memA_sub {P:ATk→Prop}{kind:Int}{o:AOp}{l l':List ATk}(hl:∀t∈l,P t) (h:sB kind l=.ok (o,l')):∀t∈l',P t:=by
 rw[memA_eq] at h;obtain⟨⟨r1,l1⟩,h1,h⟩:=yL h;obtain⟨_,_,_,_,rfl⟩:=rgA_ok h1;have hl1:=xJ hl 1;dsimp only at h
 split at h
 ·obtain⟨⟨r2,l2⟩,h2,h⟩:=yL h;obtain⟨_,_,_,_,rfl⟩:=rgA_ok h2;have hl2:=xJ (xJ hl1 1) 1;dsimp only at h
  split at h
  ·obtain⟨⟨t,l3⟩,h3,h⟩:=yL h;obtain⟨_,rfl⟩:=vY h3;dsimp only at h
   split at h
   exact tailA_sub (xJ (xJ hl2 1) 1) h
   ·cases h
  exact tailA_sub hl2 h
 exact tailA_sub hl1 h
theorem opA_sub {P:ATk→Prop}{kind:Int}{o:AOp}{l l':List ATk}(hl:∀t∈l,P t) (h:opA kind l=.ok (o,l')):∀t∈l',P t:=by
 rw[opA_eq] at h
 split at h
 exact memA_sub (xJ hl 1) h
 split at h
 ·obtain⟨⟨t,l1⟩,h1,h⟩:=yL h;cases h;obtain⟨_,rfl⟩:=vY h1;exact xJ (xJ hl 1) 1
 split at h
 ·obtain⟨⟨t,l1⟩,h1,h⟩:=yL h;cases h;obtain⟨_,rfl⟩:=vY h1;exact xJ hl 1
 obtain⟨⟨t,l1⟩,h1,h⟩:=yL h;obtain⟨_,rfl⟩:=vY h1;dsimp only at h
 split at h
 ·cases h;exact xJ hl 1
 obtain⟨x,_,h⟩:=yL h;cases h;exact xJ hl 1
theorem opsF_ok (kind:Int):∀(f:Nat) (first:Bool) (acc:List AOp) (l:List ATk) (os:List AOp),(∀t∈l,TkOk t)→(∀o∈acc,OpR o)→oM kind f first acc l=.ok os→(∀o∈os,OpR o)∧os.length≤acc.length+l.length
 | 0,_,acc,l,os,_,ha,h=>by cases h;exact⟨ha,Nat.le_add_right _ _⟩
 | f+1,first,acc,l,os,hl,ha,h=>by
  rw[opsF_eq] at h
  split at h
  ·cases h;exact⟨ha,Nat.le_add_right _ _⟩
  split at h
  ·cases h
  obtain⟨⟨o,l'⟩,h1,h2⟩:=yL h;have hd:∀t∈(if first=true then l else l.drop 1),TkOk t:=by split;exact hl;exact xJ hl 1
  have h3:=opA_lt h1;have h4:=opA_ok hd h1;have hlen:(if first=true then l else l.drop 1).length≤l.length:=by split;exact Ae _;rw[Kw];omega
  have hsub:∀t∈l',TkOk t:=opA_sub hd h1;have:=opsF_ok kind f false (acc++[o]) l' os hsub (fun x hx=>(Aq.1 hx).elim (ha x) fun h=>by rw[Ar.1 h];exact h4) h2;refine⟨this.1,?_⟩;have h5:=this.2;rw[Kb] at h5;have e1:[o].length=1:=rfl;omega
theorem no_zero {k:Bs}{kind:Int}:wR k (if kind=2 then oJ else xS)≠some .zero:=fun h=>by
 have h1:(xS.all fun p=>!decide (p.2=.zero))=true:=by decide
 have h2:(oJ.all fun p=>!decide (p.2=.zero))=true:=by decide
 have hm:=qG h
 split at hm
 have:=List.all_eq_true.1 h2 _ hm;simp at this;have:=List.all_eq_true.1 h1 _ hm;simp at this
theorem find_zero {kind:Int}{op sh:Bs}{n:Nat}(h:wI kind op sh n=some .zero):op=xT:=by
 unfold wI at h
 cases hd:qI op with
 | none=>rw[hd] at h;exact absurd h no_zero
 | some f =>
  rw[hd] at h;dsimp only at h
  split at h
  ·cases h
  ·cases h;unfold qI at hd
   split at hd
   ·cases hd
   split at hd
   ·cases hd
   split at hd
   ·next hz=>exact hz
   ·cases hd
theorem ops_num1 {kind:Int}{t:ATk}{os:List AOp}(ht:t.kind=48) (h:oM kind 2 true [] [t]=.ok os):∃o,os=[o]∧o.name=[]:=by
 have h1:isA [91] [t]=false:=by rw[nL,ht];rfl
 have h2:isA [45] [t]=false:=by rw[nL,ht];rfl
 rw[opsF_eq,Ag (by simp),Ag (by simp),Ah rfl,opA_eq,h1,h2,Ag (by simp),Ag (by simp),Ah ⟨t,rfl,ht⟩,rU,Ah ht] at h;have h3:Except.ok [⟨118,0,[],t.n,0,0⟩]=Except.ok (ε:=Nat) os:=h;cases h3;exact⟨_,rfl,rfl⟩
structure StOk (st:ASt):Prop where
 sh:st.shape=xR st.l
 ok:∀o∈st.l,OpR o
 n:st.l.length≤2000000
 f:match st.form with
  | none=>st.l=[]∧st.size=0
  | some f=>FitA f st.l∧st.size=sizeA f st.l∧(f=.zero→∃o,st.l=[o]∧o.name=[])
theorem stmA_ok {kind:Int}{lb:Bs}{l:List ATk}{st:ASt}(hl:∀t∈l,TkOk t) (hn:l.length≤2000000) (h:stmA kind lb l=.ok st):StOk st∧st.label=lb∧st.at_=0:=by
 by_cases h0:l=[]
 ·rw[stmA_eq,Ah h0] at h;cases h;exact⟨⟨rfl,fun _ h=>(by cases h),Ad _,rfl,rfl⟩,rfl,rfl⟩
 rw[stmA_F _ _ h0] at h;obtain⟨⟨t,l1⟩,h1,h⟩:=yL h;obtain⟨os,h2,h⟩:=yL h;dsimp only at h2 h;obtain⟨_,e1⟩:=vY h1;have hl1:∀t∈l1,TkOk t:=by rw[e1];exact xJ hl 1
 obtain⟨h3,h4⟩:=opsF_ok kind _ _ _ _ _ hl1 (fun _ h=>by cases h) h2
 have h5:os.length≤2000000:=by
  have e2:([]:List AOp).length=0:=rfl;have e3:l1.length≤l.length:=by rw[e1,Kw];omega
  omega
 unfold stmF at h
 cases hf:wI kind t.s (xR os) os.length with
 | none=>rw[hf] at h;cases h
 | some f =>
  rw[hf] at h;dsimp only at h
  split at h
  ·cases h
  ·next hz =>
   cases h;refine⟨⟨rfl,h3,h5,findA_fit h3 hf,rfl,fun e=>?_⟩,rfl,rfl⟩;subst e;have hk:=find_zero hf;have hlit:l1.length=1∧(l1.headD ⟨0,[],0⟩).kind=48:=Classical.byContradiction fun hn=>hz ⟨hk,Ao hn⟩
   match l1,hlit,h2 with
   | [t1],hlit,h2=>exact ops_num1 hlit.2 h2
theorem parA_ok {kind:Int}{l:List ATk}{st:ASt}(hl:∀t∈l,TkOk t) (hn:l.length≤2000000) (h:nR kind l=.ok st):StOk st∧st.at_=0:=by
 unfold nR at h
 split at h
 ·obtain⟨⟨t,l1⟩,h1,h⟩:=yL h;obtain⟨x,_,h⟩:=yL h;obtain⟨_,e1⟩:=vY h1;dsimp only at h;have:=stmA_ok (by rw[e1];exact xJ (xJ hl 1) 1) (by rw[e1,Kw,Kw];omega) h;exact⟨this.1,this.2.2⟩
 have:=stmA_ok hl hn h;exact⟨this.1,this.2.2⟩
end Go.Proofs.YtkaepknpplhgkaaGreatDoor
namespace Go.Proofs.YtkaepknpplhgkaaGreatDoor
open Go.RowKit
def stsC (l:List SV):List Value:=l.flatMap svC
theorem stsC_snoc (l:List SV) (S:SV):stsC (l++[S])=stsC l++svC S:=by unfold stsC;rw[List.flatMap_append];simp
theorem stsC_at:∀{l:List SV}{k:Nat}{S:SV},l[k]? = some S→∀(j:Nat) v,(svC S)[j]? = some v→(stsC l)[7*k+j]? = some v
 | [],_,_,h=>by cases h
 | x::l,0,S,h=>by
  cases h;intro j v hj;have:=(Kg.1 hj).1;show (svC x++stsC l)[7*0+j]? = _;rw[show 7*0+j=j by omega,List.getElem?_append_left this];exact hj
 | x::l,k+1,S,h=>by
  intro j v hj;have:=stsC_at (l:=l) (k:=k) (by simpa using h) j v hj;have hl:(svC x).length=7:=rfl;show (svC x++stsC l)[7*(k+1)+j]? = _;rw[List.getElem?_append_right (by omega),hl,show 7*(k+1)+j-7=7*k+j by omega];exact this
def lbC (l:List (Bs×Nat)):List (Bs×Value):=l.map fun p=>(p.1,.int .u32 (p.2:Nat))
theorem lbC_snoc (l:List (Bs×Nat)) (k:Bs) (v:Nat):lbC (l++[(k,v)])=lbC l++[(k,.int .u32 (v:Nat))]:=by unfold lbC;rw[List.map_append];rfl
theorem lb_look (k:Bs):∀l:List (Bs×Nat),wB k (lbC l)=(tO k l).map fun v=>.int .u32 (v:Nat)
 | []=>rfl
 | (x,v)::l=>by
  show (if k=x then some (Value.int .u32 (v:Nat)) else wB k (lbC l))=_;rw[tO]
  by_cases h:k=x
  rw[Ah h,Ah h];rfl;rw[Ag h,Ag h];exact lb_look k l
theorem lb_some (k:Bs) (l:List (Bs×Nat)):(wB k (lbC l)).isSome=(tO k l).isSome:=by rw[lb_look,Option.isSome_map]
structure StsP (acc:List ASt) (Ss:List SV) (F:Nat→Prop) (w:World):Prop where
 len:Ss.length=acc.length
 all:∀(i:Nat) (st:ASt) (S:SV),acc[i]? = some st→Ss[i]? = some S→StP st S F w∧S.a=st.at_
theorem StsP.lies {acc:List ASt}{Ss:List SV}:Lies (StsP acc Ss):=⟨fun hk h=>⟨h.len,fun i st S h1 h2=>⟨StP.lies.foot hk (h.all i st S h1 h2).1,(h.all i st S h1 h2).2⟩⟩,fun h=>⟨h.len,fun i st S h1 h2=>⟨StP.lies.lt (h.all i st S h1 h2).1,(h.all i st S h1 h2).2⟩⟩,fun hF h=>⟨h.len,fun i st S h1 h2=>⟨StP.lies.mono hF (h.all i st S h1 h2).1,(h.all i st S h1 h2).2⟩⟩⟩
theorem StsP.nil {F:Nat→Prop}{w:World}:StsP [] [] F w:=⟨rfl,fun _ _ _ h=>by cases h⟩
theorem StsP.snoc {acc:List ASt}{Ss:List SV}{F:Nat→Prop}{w:World}{st:ASt}{S:SV}(h:StsP acc Ss F w) (hs:StP st S F w) (ha:S.a=st.at_):StsP (acc++[st]) (Ss++[S]) F w :=
 ⟨by simp[h.len],fun i t U h1 h2=>by
  rcases Nat.lt_trichotomy i acc.length with hi|hi|hi
  ·rw[List.getElem?_append_left hi] at h1;rw[List.getElem?_append_left (by rw[h.len];exact hi)] at h2;exact h.all i t U h1 h2
  ·subst hi;rw[List.getElem?_append_right (Ae _),Nat.sub_self] at h1;rw[List.getElem?_append_right (by rw[h.len];exact Ae _),h.len,Nat.sub_self] at h2;cases h1;cases h2;exact⟨hs,ha⟩
  rw[List.getElem?_eq_none (by simp;omega)] at h1;cases h1⟩
theorem StP.place {st:ASt}{S:SV}{F:Nat→Prop}{w:World}(h:StP st S F w) (a:Nat):StP { st with at_:=a } { S with a:=(a:Nat) } F w:=⟨h.lb,h.op,h.sh,h.l,h.z,h.x,h.f⟩
theorem StOk.place {st:ASt}(h:StOk st) (a:Nat):StOk { st with at_:=a }:=⟨h.sh,h.ok,h.n,h.f⟩
structure P1 where
 k:Nat
 at_:Nat
 labels:List (Bs×Nat)
 acc:List ASt
 Ss:List SV
 A:Option Addr
 cap:Nat
 line:Int
structure P1I (kind:Int) (org:Nat) (l:List Bs) (R0:Except (Nat×Nat) (List ASt×List (Bs×Nat))) (p:P1):Prop where
 le:p.k≤l.length
 e:pasF kind org (l.drop p.k) p.k p.at_ p.labels p.acc=R0
 a:p.at_≤65536
 n:p.Ss.length=p.acc.length
 ok:∀st∈p.acc,StOk st∧st.size≤65536∧st.at_≤65536
 c:p.acc.length≤p.k
abbrev rwT (Ss:List SV) (A:Option Addr) (cap:Nat):Rw:=⟨.slice A Ss.length cap,91,7,Ss.length,stsC Ss⟩
theorem linA_le:∀(t:Bs),(xK t).length≤t.length+1∧∀s∈xK t,s.length≤t.length
 | []=>⟨Ae _,fun s h=>by rw[Ar.1 h];exact Ae _⟩
 | c::r=>by
  obtain⟨h1,h2⟩:=linA_le r;rw[xK]
  cases hl:xK r with
  | nil=>exact⟨by simp,fun s h=>by rw[Ar.1 h];simp⟩
  | cons x l =>
   rw[hl] at h1 h2;dsimp only;have hx:=h2 x (Ks ..)
   split
   ·refine⟨by simp at h1 ⊢;omega,fun s h=>?_⟩;rcases List.mem_cons.1 h with rfl|h;exact Ad _;have:=h2 s h;simp;omega
   refine⟨by simp at h1 ⊢;omega,fun s h=>?_⟩;rcases List.mem_cons.1 h with rfl|h;simp;omega;have:=h2 s (Ky _ h);simp;omega
theorem rG {α:Type}{l:List α}{k:Nat}{x:α}(h:l[k]? = some x):l.drop k=x::l.drop (k+1):=by
 obtain⟨h1,h2⟩:=Kg.1 h;rw[List.drop_eq_getElem_cons h1,h2]
theorem asmL_err {kind:Int}{text:Bs}{org k e:Nat}(hk:kind=1∨kind=2) (hl:text.length≤1048576) (h:pasF kind org (xK text) 0 0 [] []=.error (k,e)):oH kind text org=([],k,e):=by
 unfold oH;rw[Ag (by omega),Ag (by omega),h]
end Go.Proofs.YtkaepknpplhgkaaGreatDoor
namespace Go.Proofs.YtkaepknpplhgkaaGreatDoor
open Go.RowKit
section
variable {P:Program}{n:Fr}{m:List (Nat×Value)}{ty:TypeId}{H:World→Prop}
theorem yf_neSame {x y:Operand}{t t' te:TypeId}{p:Addr}(hx:ev m x=some (.pointer (some p))) (hy:ev m y=some (.pointer (some p))) (ht:P.underlying t=some (.pointer te)) (hte:(P.info? te).isSome=true):YF P (.binOp .neq t x y t') ty n m H (.bool false):=fun _ w d pos af g hs hw=>by
 obtain⟨j,hj⟩:=Option.isSome_iff_exists.1 hte;have:=Lib.run_neq_ptr_same (P:=P) w p ht hj;simp[Yl,execOp,hs.ev hx,hs.ev hy,Result.andThen,eqGuard_at_pointer,this]
theorem yf_toUnsafe {x:Operand}{src dst t e:TypeId}{g cells k:Nat}(hx:ev m x=some (.pointer (some ⟨g,0,none⟩))) (hs':P.underlying src=some (.pointer t)) (hd:P.underlying dst=some .unsafePointer) (ht:(P.info? t).map (·.size)=some (k+1)) (hsh:∀w,H w→w.shape? g=some (e,cells+1)):YF P (.convert src dst x) ty n m H (.pointer (some ⟨g,0,none⟩)):=fun _ w d pos af gd hs hw=>by
 obtain⟨j,hj,hjs⟩:=Option.map_eq_some_iff.1 ht;have:=Lib.run_to_unsafe (P:=P) w ⟨g,0,none⟩ hs' hd hj (by rw[hjs];omega) (hsh w hw) (Nat.succ_pos _);simp[Yl,execOp,hs.ev hx,Result.andThen,this]
theorem yf_fromUnsafe {x:Operand}{src dst u e:TypeId}{g cells:Nat}(hx:ev m x=some (.pointer (some ⟨g,0,none⟩))) (hs':P.underlying src=some .unsafePointer) (hd:P.underlying dst=some (.pointer u)) (hu:(P.info? u).isSome=true) (hsh:∀w,H w→w.shape? g=some (e,cells)) (hl:liesAt P P.depth e (cells/P.cellsOf e) 0 u 1=true):YF P (.convert src dst x) ty n m H (.pointer (some ⟨g,0,none⟩)):=fun _ w d pos af gd hs hw=>by
 obtain⟨j,hj⟩:=Option.isSome_iff_exists.1 hu;have:=Lib.run_from_unsafe (P:=P) w ⟨g,0,none⟩ hs' hd hj (hsh w hw) hl;simp[Yl,execOp,hs.ev hx,Result.andThen,this]
theorem yf_noEscape {args:List Operand}{ats:Array TypeId}{f:FuncId}{v:Value}(hf:(P.funcs[f]?).isSome=true) (h1:(((P.funcs[f]?).getD default).name == "runtime.NumGoroutine")=false) (h2:((P.funcs[f]?).getD default).body.isNone=true) (h3:Extern.findNext ((P.funcs[f]?).getD default)=none) (h4:Extern.find ((P.funcs[f]?).getD default)=some Extern.AbiNoEscape.same) (hx:evl m args=some [v]):YF P (.call { callee:=.value (.func f),args:=args.toArray,argTypes:=ats }) ty n m H v:=fun _ w d pos af gd hs hw=>by
 obtain⟨fn,hfn⟩:=Option.isSome_iff_exists.1 hf;rw[hfn] at h1 h2 h3 h4;have hc:=run_callFunc_extern (P:=P) hfn h1 h2 h3 h4 #[v] w;rw[Lib.run_noEscape] at hc;have:=oX hs hx;simp[Yl,execOp,resolve,Act.eval,Deferred.ofValue,invoke,Result.andThen,this,hc]
theorem yf_sliceData {x:Operand}{t:TypeId}{a:Addr}{k c:Nat}(hx:ev m x=some (.slice (some a) k c)) (hc:c≠0):YF P (.call { callee:=.builtin .unsafeSliceData,args:=#[x],argTypes:=#[t] }) ty n m H (.pointer (some a)):=fun _ w d pos af g hs hw=>by
 have:=Lib.run_unsafeSliceData_row (P:=P) (w:=w) #[t] ty a k c hc;simp[Yl,execOp,resolve,invoke,builtin,hs.ev hx,Result.andThen,this]
theorem yf_sliceData0 {x:Operand}{t:TypeId}{k c:Nat}(hx:ev m x=some (.slice none k c)):YF P (.call { callee:=.builtin .unsafeSliceData,args:=#[x],argTypes:=#[t] }) ty n m H (.pointer none):=fun _ w d pos af g hs hw=>by
 have:=Lib.run_unsafeSliceData_nil (P:=P) (w:=w) #[t] ty k c;simp[Yl,execOp,resolve,invoke,builtin,hs.ev hx,Result.andThen,this]
theorem yf_unsafeStr0 {x y:Operand}{t1 t2:TypeId}{p:Option Addr}(hx:ev m x=some (.pointer p)) (hy:ev m y=some (.int .i64 0)):YF P (.call { callee:=.builtin .unsafeString,args:=#[x,y],argTypes:=#[t1,t2] }) ty n m H (.string ⟨#[]⟩):=fun _ w d pos af g hs hw=>by
 have:=Lib.run_unsafeString_none (P:=P) (w:=w) t1 t2 ty p;simp[Yl,execOp,resolve,invoke,builtin,hs.ev hx,hs.ev hy,Result.andThen,this];rfl
end
theorem app_str {P:Program}{w:World}{base:Nat}{t u ty e:TypeId}{i:TypeInfo}(ht:P.underlying t=some (.slice e)) (hu:P.underlying u=some .string) (hi:P.info? e=some i) (hz:i.zero=some (.int .u8 0)) (h1:i.size=1) (h2:i.bytes=1) {v:Value}{n:Nat}{xs:List Value}(ho:w.ownsRow base e 1 v n xs) (s:ByteArray) (hl:n+s.size≤140737488355328) (hb:base≤w.heap.size) :
  ∃v' w',(Builtin.append_ #[t,u] ty #[v,.string s]).run P w=.ok v' w'∧w'.ownsRow base e 1 v' (n+s.size) (xs++Lib.strCells s)∧w.grownBy w' v.ownBlock∧(v'.ownBlock=v.ownBlock∨∀b,v'.ownBlock=some b→w.heap.size≤b)∧(v'=.slice none 0 0↔v=.slice none 0 0∧s.size=0):=by
 have hm:n+s.size≤maxLen:=by unfold maxLen;omega
 obtain⟨v',w',hr,k2,k3,k4⟩:=Lib.run_append_own_string (P:=P) w base t u ty e i ht hu hi hz h1 h2 v n xs ho s hm hl hb;refine⟨v',w',hr,k2,k3,?_,k4⟩;rcases ho.2 with ⟨rfl,rfl⟩|⟨g,cap,cur,rfl,hg0,hg,hnc,hcm,hcs,htk⟩
 ·obtain⟨v2,w2,hr2,k,_,_⟩:=Lib.run_append_own_string (P:=P) w w.heap.size t u ty e i ht hu hi hz h1 h2 _ 0 [] (World.ownsRow_nil w _ e 1) s hm hl (Ae _);rw[hr] at hr2;injection hr2 with e1 e2;subst e1;subst e2;exact .inr fun b hb'=>(k.lt b hb').1
 by_cases hroom:n+s.size≤cap
 ·have hcs2:cur.size=cap:=by simpa using hcs
  have hr2:=Lib.run_append_room_string (P:=P) w t u ty e i ht hu hi h1 g n cap cur hg s hroom (by omega);rw[hr] at hr2;injection hr2 with e1 e2;subst e1;exact .inl rfl
 have hxl:xs.length=n:=by simpa using ho.1
 have hr2:=Lib.run_append_grow_string (P:=P) w t u ty e i (.int .u8 0) ht hu hi hz ⟨g,0,none⟩ n cap xs (by rw[h1];simpa using hxl) (ho.cells (g:=g) rfl) s (by omega) (by omega) (by rw[h2];exact growslice_fits (by omega) (by omega));rw[hr] at hr2;injection hr2 with e1 e2;subst e1
 exact .inr fun b hb'=>by
  have:b=w.heap.size:=by simpa [Value.ownBlock] using hb'.symm
  omega
abbrev bdO (p v:Value):Obj:=bk 98 [p,v]
abbrev rwB (A:Option Addr) (cap:Nat) (l:Bs):Rw:=⟨.slice A l.length cap,5,1,l.length,Lib.byteCells l⟩
theorem bdO_shape {w:World}{b:Nat}{p v:Value}(h:w.heap[b]? = some (bdO p v)):w.shape? b=some (98,1+1):=by simp[World.shape?,h]
theorem copyCheck_any (b:Nat) (q:Option Addr) (v:Value) (hp:q=none∨q=some ⟨b,0,none⟩) (w_0:World) (hb:w_0.heap[b]? = some (bdO (.pointer q) v)):Calls Tryz.prog 127 #[.pointer (some ⟨b,0,none⟩)] w_0 fun e w'=>e=.returned (.tuple #[])∧Keep (fun j=>j=b) w_0 w'∧w'.heap[b]? = some (bdO (.pointer (some ⟨b,0,none⟩)) v):=by
 refine zN (args:=[.pointer (some ⟨b,0,none⟩)]) Tryz.func127 M 20 M (Kh M)<|Z1 0 M<|zG (H':=Hp (fun k=>k=b) w_0 [(b,bdO (.pointer q) v)] [] (fun _=>True)) (fun u hu=>?_) ?_;subst hu;exact Hp.startB0 hb;refine zX<|zZ<|Zm M M<|Zn M M<|ZF M (zY (off:=0) (sz:=0) M Tryz.underlying98 (by kernel_rfl) M) ?_;refine Zl 0 M Tryz.underlying96 M<|ZF M (yf_eqNil M M Tryz.underlying96)<|ZT<|zT M (fun h6=>?_) (fun h6=>?_)
 ·refine Z2r 0 6 M<|Zm M M<|Zm M M<|ZF M (yf_toUnsafe (k:=1) M Tryz.underlying96 Tryz.underlying223 (by kernel_rfl) (fun w h=>bdO_shape (HpG.blkL h (j:=0) M))) ?_;refine ZF M (yf_noEscape (by kernel_rfl) (by kernel_rfl) (by kernel_rfl) (by kernel_rfl) (by kernel_rfl) M)<|ZF M (yf_fromUnsafe M Tryz.underlying223 Tryz.underlying96 (by kernel_rfl) (fun w h=>bdO_shape (HpG.blkL h (j:=0) M)) (by kernel_rfl))<|Zn M M<|ZF M (zY (off:=0) (sz:=0) M Tryz.underlying98 (by kernel_rfl) M) ?_;refine ZS 0 M<|zS<|vJ M fun w hw=>⟨rfl,Kk hw,HpG.blkL (j:=0) hw rfl⟩
 skip;obtain rfl:q=some ⟨b,0,none⟩:=hp.resolve_left (fun e=>by subst e;simp at h6);refine zX<|Z2r 0 6 M<|Zm M M<|Zn M M<|ZF M (zY (off:=0) (sz:=0) M Tryz.underlying98 (by kernel_rfl) M) ?_;refine Zl 0 M Tryz.underlying96 M<|Zm M M<|ZF M (yf_neSame M M Tryz.underlying96 (by kernel_rfl))<|ZT<|zT M (fun hc=>?_) (fun hc=>?_)
 ·cases hc
 skip;refine zR<|vJ M fun w hw=>⟨rfl,Kk hw,HpG.blkL (j:=0) hw rfl⟩
theorem set2 {L:List (Nat×Obj)}{k:Nat}{x y:Nat×Obj}(h:L[k]? = some x):(L.set k y)[k]? = some y:=by
 have:=(Kg.1 h).1;simp[this]
theorem write_any {B:Nat→Prop}{w0:World}{L:List (Nat×Obj)}{R:List Rw}{X:World→Prop}{b cap:Nat}{q A:Option Addr}{l:Bs}(k j:Nat) (s:Bs) (hq:q=none∨q=some ⟨b,0,none⟩) (hk:L[k]? = some (b,bdO (.pointer q) (.slice A l.length cap))) (hj:R[j]? = some (rwB A cap l)) (hA:l=[]→A=none) (hl:l.length+s.length≤140737488355328) (w_0:World) (h:Hp B w0 L R X w_0) :
  Calls Tryz.prog 44 #[.pointer (some ⟨b,0,none⟩),.string ⟨s.toArray⟩] w_0 fun e w'=>e=.returned (.tuple #[.int .i64 s.length,.nilIface])∧∃A' cap',(l++s=[]→A'=none)∧Hp B w0 (L.set k (b,bdO (.pointer (some ⟨b,0,none⟩)) (.slice A' (l++s).length cap'))) (R.set j (rwB A' cap' (l++s))) X w':=by
 have hk1:(L.set k (b,bdO (.pointer (some ⟨b,0,none⟩)) (.slice A l.length cap)))[k]? = some (b,bdO (.pointer (some ⟨b,0,none⟩)) (.slice A l.length cap)):=set2 hk;refine zN (args:=[.pointer (some ⟨b,0,none⟩),.string ⟨s.toArray⟩]) Tryz.func44 M 19 M (Kh M)<|Z2 0 1 M<|zG (H':=Hp B w0 L R X) (fun u hu=>?_) ?_;subst hu;exact h;refine zX<|zZ<|Za M M<|Za M M<|ZX<|zZ<|Zm M M<|xY (ι:=Unit) (val:=fun _=>.tuple #[]) (H':=fun _=>Hp B w0 (L.set k (b,bdO (.pointer (some ⟨b,0,none⟩)) (.slice A l.length cap))) R X) .none M  (rF (by kernel_rfl) M (fun w hw=>(copyCheck_any b q _ hq w (HpG.own hw _ (Ko hk))).mono fun e w' ⟨e1,e2,e3⟩=>⟨_,e1,(),rfl,HpG.turn hw hk e2 e3⟩)) (fun _=>?_);refine ZX<|Z4r 0 1 4 5 M<|Zm M M<|Zm M M<|Zn M M<|ZF M (Y98x1 M) ?_;refine ZF M (yU k M hk1 M U53 M)<|Zm M M<|xY (ι:={i:Option Addr×Nat // l++s=[]→i.1=none}) (val:=fun i=>.slice i.1.1 (l++s).length i.1.2) (H':=fun i=>Hp B w0 (L.set k (b,bdO (.pointer (some ⟨b,0,none⟩)) (.slice A l.length cap))) (R.set j (rwB i.1.1 i.1.2 (l++s))) X) .none M  (fun a w d pos af gd hs hw=>?_) (fun i=>?_)
 ·have hown:=HpG.rows hw _ (Ko hj);have hmap:(Tryz.prog.info? 5).map (fun i=>(i.zero,i.size,i.bytes))=some (some (.int .u8 0),1,1):=by kernel_rfl
  obtain⟨i,hq',hii⟩:=Option.map_eq_some_iff.1 hmap;obtain⟨hz,hs1,hb1⟩:i.zero=some (.int .u8 0)∧i.size=1∧i.bytes=1:=by simpa using hii
  obtain⟨v',w',hr,ho',hgr,hblk,hnil⟩:=app_str (P:=Tryz.prog) (w:=w) (base:=w0.heap.size) (t:=53) (u:=9) (ty:=53) (e:=5) (i:=i) Tryz.underlying53 Tryz.underlying9 hq' hz hs1 hb1 hown ⟨s.toArray⟩ (by simpa [ByteArray.size] using hl) (HpG.size hw);have e8:Lib.byteCells (l++s)=Lib.byteCells l++Lib.strCells ⟨s.toArray⟩:=by simp[Lib.byteCells,Lib.strCells]
  have ho2:w'.ownsRow w0.heap.size 5 1 v' (l++s).length (Lib.byteCells (l++s)):=by
   rw[Kb,e8];simpa [ByteArray.size] using ho'
  obtain⟨A',c',rfl⟩:∃A c,v'=.slice A (l++s).length c:=by
   rcases ho2.2 with ⟨e1,e2⟩|⟨g,cap,cur,e1,_⟩;exact⟨none,0,by rw[e1,e2]⟩;exact⟨_,_,e1⟩
  have hnone:l++s=[]→A'=none:=fun e=>by
   obtain⟨rfl,rfl⟩:=List.append_eq_nil_iff.1 e
   have hv:Value.slice A ([]:Bs).length cap=.slice none 0 0:=by
    rcases hown.2 with ⟨e1,_⟩|⟨g,c,cur,e1,_⟩;exact e1;rw[hA rfl] at e1;cases e1
   have:=hnil.2 ⟨hv,rfl⟩;injection this
  have ex:=hs.ev (x:=.tmp 12) rfl;have ey:=hs.ev (x:=.tmp 13) rfl
  have hrun:(execOp a.eval ⟨d,.call { callee:=.builtin .append,args:=#[.tmp 12,.tmp 13],argTypes:=#[53,9] },53,pos,af,gd⟩).run Tryz.prog w=.ok (.value (.slice A' (l++s).length c')) w':=by
   simp[execOp,resolve,invoke,builtin,ex,ey,hr]
  unfold Ch;rw[hrun];exact⟨⟨(A',c'),hnone⟩,rfl,Hp.row hw hj hgr ho2 hblk⟩
 obtain⟨⟨A',c'⟩,hnone⟩:=i;dsimp only at hnone ⊢;refine Zn M M<|ZF M (Y98x1 M) ?_;refine yP .none (wA k M M hk1 M M (by kernel_rfl)) fun _=>ZX<|Z4r 0 1 4 5 M<|Zm M M<|ZF M (wZ M U9)<|Za M M<|Za M M<|ZT<|zK<|uW M M M (fun w hw=>?_);refine⟨rfl,A',c',hnone,?_⟩;have:=hw;rw[List.set_set] at this;exact this
theorem Hp.freeRow {B:Nat→Prop}{w0 w w':World}{L:List (Nat×Obj)}{r:Rw}{X:World→Prop}{g:Nat}(h:Hp B w0 L [r] X w) (hg:r.v.ownBlock=some g) (hk:Keep (fun j=>j=g) w w'):Hp B w0 L [] X w':=by
 have hown:=(HpG.rows h r (List.mem_singleton_self _)).lt g hg;have hb:g∈uR L [r]:=List.mem_append_right _ (by simp[hg]);have hnd:=HpG.nd h;have hgL:g∉L.map (·.1):=fun hm=>(List.nodup_append.1 hnd).2.2 g hm g (by simp[hg]) rfl;have hlt:=HpG.lt h;obtain⟨F,hF,hX⟩:=HpG.foot h;refine⟨?_,fun p hp=>?_,HpG.mine h,fun s hs=>(by cases hs),?_,fun _ _=>trivial,F,fun j hj=>?_,fun u hu=>hX u fun j hj=>?_⟩;exact⟨hk.os.trans (Kk h).os,hk.tape.trans (Kk h).tape,hk.output.trans (Kk h).output,Ap (Kk h).size hk.size,fun j hj hB=>(hk.block j (Kr hj (Kk h).size) (fun e=>by omega)).trans ((Kk h).block j hj hB)⟩
 ·have hp1:p.1∈L.map (·.1):=List.mem_map.2 ⟨p,hp,rfl⟩;rw[hk.block p.1 (hlt _ (List.mem_append_left _ hp1)) (fun e=>hgL (e▸hp1))];exact HpG.own h p hp
 ·simpa [uR] using (List.nodup_append.1 hnd).1
 ·obtain⟨a,b,c,d⟩:=hF j hj;refine⟨Kr a hk.size,b,fun hm=>c ?_,trivial⟩;have:j∈L.map (·.1):=by simpa [uR] using hm
  exact List.mem_append_left _ this
 obtain⟨a,b,c,d⟩:=hF j hj;rw[hu j hj,hk.block j a (fun e=>c (e▸hb))]
theorem keep_freeze (w:World) (g n:Nat):Keep (fun j=>j=g) w (w.freeze ⟨g,0,none⟩ n):=by
 unfold World.freeze
 split
 exact Keep.refl _ _
 exact⟨rfl,rfl,rfl,by simp,fun k hk hne=>by
  simp only[Array.getElem?_modify]
  rw[Ag (fun e=>hne e.symm)]⟩

theorem str_some {B:Nat→Prop}{w0:World}{L:List (Nat×Obj)}{X:World→Prop}{b cap:Nat}{q A:Option Addr}{l:Bs}(k:Nat) (hne:l≠[]) (hk:L[k]? = some (b,bdO (.pointer q) (.slice A l.length cap))) (w_0:World) (h:Hp B w0 L [rwB A cap l] X w_0) :
  Calls Tryz.prog 45 #[.pointer (some ⟨b,0,none⟩)] w_0 fun e w'=>e=.returned (.string ⟨l.toArray⟩)∧Hp B w0 L [] X w':=by
 have hl0:l.length≠0:=by simpa using hne
 obtain⟨g,rfl,hcap⟩:∃g,A=some ⟨g,0,none⟩∧l.length≤cap:=by
  rcases (HpG.rows h _ (List.mem_singleton_self _)).2 with ⟨_,e2⟩|⟨g,c,cur,e1,_,_,e2,_⟩;exact absurd e2 hl0;injection e1 with e1 _ e3;exact⟨g,e1,by omega⟩
 refine zN (args:=[.pointer (some ⟨b,0,none⟩)]) Tryz.func45 M 14 M (Kh M)<|Z1 0 M<|zG (H':=Hp B w0 L [rwB (some ⟨g,0,none⟩) cap l] X) (fun u hu=>?_) ?_;subst hu;exact h;refine zX<|zZ<|Za M M<|ZX<|wc_still 10 (by kernel_rfl) (by kernel_rfl) (fun _ h=>HpG.drew h)<|yO .none M (yW M)<|yO .none M (xV M)<|yO .none M (Y98x1 M) ?_;refine yO .none M (yU k M hk M U53 M)<|yO .none M  (yf_sliceData M (by omega))<|yO .none M (yW M)<|yO .none M (xV M)<|yO .none M (Y98x1 M) ?_;refine yO .none M (yU k M hk M U53 M)<|yO .none M (yK M U53)<|wt_tail<|xY (ι:=Unit) (val:=fun _=>.string ⟨l.toArray⟩) (H':=fun _=>Hp B w0 L [] X) .none M  (fun a w d2 pos af gd hs hw=>?_) (fun _=>?_)
 ·obtain⟨cur,hg1,hg,hcs,htake,hcm⟩:∃cur,w0.heap.size≤g∧w.heap[g]? = some (.cells cur 5 (0,0))∧cur.size=cap∧cur.toList.take l.length=Lib.byteCells l∧cap≤maxLen:=by
   rcases (HpG.rows hw _ (List.mem_singleton_self _)).2 with ⟨e1,_⟩|⟨g2,cap2,cur,e1,hg1,hg2,_,e3',e4,e5⟩
   ·cases e1
   injection e1 with e1 _ e3;injection e1 with e1;injection e1 with e1;subst e1;subst e3;exact⟨cur,hg1,hg2,by simpa using e4,by simpa using e5,e3'⟩
  have hcm:l.length≤9223372036854775807:=by
   unfold maxLen at hcm;omega
  have hUS:=Lib.run_unsafeString_row (P:=Tryz.prog) w 188 3 9 5 Tryz.underlying188 (by kernel_rfl) g cur.size (by simp[World.shape?,hg]) l hne (by omega) hcm (fun j x hx=>by
   have hjl:=(Kg.1 hx).1;rw[Addr.add_mid,Ac,cell_of_row w g j _ _ _ hg];have e:=congrArg (fun z:List Value=>z[j]?) htake;simp only[List.getElem?_take,Ah hjl] at e;rw[← Array.getElem?_toList,e]
   simp[Lib.byteCells,hx])
  have ex:=hs.ev (x:=.tmp 7) rfl;have ey:=hs.ev (x:=.tmp 12) rfl
  have hrun:(execOp a.eval ⟨d2,.call { callee:=.builtin .unsafeString,args:=#[.tmp 7,.tmp 12],argTypes:=#[188,3] },9,pos,af,gd⟩).run Tryz.prog w=.ok (.value (.string ⟨l.toArray⟩)) (w.freeze ⟨g,0,none⟩ l.length):=by
   simp[execOp,resolve,invoke,builtin,ex,ey,hUS]
  unfold Ch;rw[hrun];exact⟨(),rfl,Hp.freeRow hw M (keep_freeze w g l.length)⟩
 refine Za M M<|ZU M M fun w hw=>⟨rfl,hw⟩
theorem str_none {B:Nat→Prop}{w0:World}{L:List (Nat×Obj)}{R:List Rw}{X:World→Prop}{b cap:Nat}{q:Option Addr}(k:Nat) (hk:L[k]? = some (b,bdO (.pointer q) (.slice none 0 cap))) (w_0:World) (h:Hp B w0 L R X w_0):Calls Tryz.prog 45 #[.pointer (some ⟨b,0,none⟩)] w_0 fun e w'=>e=.returned (.string ⟨#[]⟩)∧Hp B w0 L [] X w':=by
 refine zN (args:=[.pointer (some ⟨b,0,none⟩)]) Tryz.func45 M 14 M (Kh M)<|Z1 0 M<|zG (H':=Hp B w0 L R X) (fun u hu=>?_) ?_;subst hu;exact h;refine zX<|zZ<|Za M M<|ZX<|wc_still 10 (by kernel_rfl) (by kernel_rfl) (fun _ h=>HpG.drew h)<|yO .none M (yW M)<|yO .none M (xV M)<|yO .none M (Y98x1 M) ?_;refine yO .none M (yU k M hk M U53 M)<|yO .none M  (yf_sliceData0 M)<|yO .none M (yW M)<|yO .none M (xV M)<|yO .none M (Y98x1 M) ?_;refine yO .none M (yU k M hk M U53 M)<|yO .none M (yK M U53)<|wt_tail<|tU .none M  (yf_unsafeStr0 M M)<|Za M M<|ZU M M fun w hw=>⟨rfl,Hp.drop hw (Kl _) (List.nil_sublist _)⟩
theorem str_any {B:Nat→Prop}{w0:World}{L:List (Nat×Obj)}{X:World→Prop}{b cap:Nat}{q A:Option Addr}{l:Bs}(k:Nat) (hA:l=[]→A=none) (hk:L[k]? = some (b,bdO (.pointer q) (.slice A l.length cap))) (w_0:World) (h:Hp B w0 L [rwB A cap l] X w_0) :
  Calls Tryz.prog 45 #[.pointer (some ⟨b,0,none⟩)] w_0 fun e w'=>e=.returned (.string ⟨l.toArray⟩)∧Hp B w0 L [] X w':=by
 by_cases hl:l=[]
 ·have:=hA hl;subst hl;subst this;exact str_none k hk w_0 h
 exact str_some k hl hk w_0 h
end Go.Proofs.YtkaepknpplhgkaaGreatDoor
namespace Go.Proofs.YtkaepknpplhgkaaGreatDoor
open Go.RowKit
section
variable {B:Nat→Prop}{w0:World}{L:List (Nat×Obj)}{R:List Rw}{X:World→Prop}{P:Program}{ops:Array Oper}{Q:Exit→Act→World→Prop}{n:Fr}{m:List (Nat×Value)}{ty:TypeId}{ι:Type}{C:ι→Prop}{rest:List Oper}{d:Nat}{pos:String}{af:Array Edge}{gd:Option (Nat×Bool)}{f:FuncId}{args:List Operand}{ats:Array TypeId}{vs:List Value}{val:ι→Value}{TT:ι→(Nat→Prop)→World→Prop}
theorem wl_callXS (hg:Gd ops m gd) (hd:Nat.blt d n=true) (hf:goes P f=true) (ha:evl m args=some vs) (hB:∀k,B k→k<w0.heap.size) (hT:∀i,Lies (TT i))
  (hC:∀w,Hp B w0 L R X w→Calls P f vs.toArray w fun e w'=>∃i,C i∧e=.returned (val i)∧Ext w w'∧TT i (fun k=>w.heap.size≤k) w')
  (h:∀i F v,C i→(∀k,F k→w0.heap.size≤k∧k<v.heap.size)→TT i F v→WL P ops Q rest n ((d,val i)::m) (Hp B w0 L R (fun u=>Same F v u∧X u))):WL P ops Q (⟨some d,.call { callee:=.value (.func f),args:=args.toArray,argTypes:=ats },ty,pos,af,gd⟩::rest) n m (Hp B w0 L R X) :=
 xY (ι:={i:ι×(Nat→Prop)×World // C i.1∧(∀k,i.2.1 k→w0.heap.size≤k∧k<i.2.2.heap.size)∧TT i.1 i.2.1 i.2.2}) (val:=fun i=>val i.1.1) (H':=fun i=>Hp B w0 L R (fun u=>Same i.1.2.1 i.1.2.2 u∧X u)) hg hd
  (rF hf ha fun w hw=>(hC w hw).mono fun _ w' ⟨i,c,e1,e2,e4⟩=>by
   refine⟨_,e1,⟨(i,(fun k=>w.heap.size≤k∧k<w'.heap.size),w'),c,fun k hk=>⟨Ap (HpG.size hw) hk.1,hk.2⟩,(hT i).lt e4⟩,rfl,?_⟩;refine Hp.addX (HpG.onE hw e2) ⟨fun k=>w.heap.size≤k∧k<w'.heap.size,fun k hk=>⟨hk.2,fun hb=>?_,fun hm=>?_⟩,fun u hu k hk _=>hu k hk⟩;have:=hB k hb;have:=HpG.size hw;omega
   have:=HpG.lt hw k hm;omega) fun i=>h i.1.1 i.1.2.1 i.1.2.2 i.2.1 i.2.2.1 i.2.2.2
end
def stepF (kind:Int) (org:Nat) (r:List Bs) (k at_:Nat) (labels:List (Bs×Nat)) (acc:List ASt) (x:Except Nat ASt):Except (Nat×Nat) (List ASt×List (Bs×Nat)):=match x with
 | .error e=>.error (k+1,e)
 | .ok st=>if st.label≠[]∧(tO st.label labels).isSome=true then .error (k+1,22) else if 65536<at_+st.size then .error (k+1,2) else pasF kind org r (k+1) (at_+st.size) (if st.label≠[] then labels++[(st.label,(org+at_)%4294967296)] else labels) (acc++[{ st with at_:=at_ }])
theorem pasF_cons (kind:Int) (org:Nat) (x:Bs) (r:List Bs) (k at_:Nat) (labels:List (Bs×Nat)) (acc:List ASt):pasF kind org (x::r) k at_ labels acc=stepF kind org r k at_ labels acc (yG (rN x) (nR kind)):=rfl
theorem parse_call {kind:Int}{tl:List ATk}{A:Option Addr}{cap:Nat}{F:Nat→Prop}{lF:List (Bs×AFm)}{bF:Nat}{vsF:List (Value×Value)}{F0:Nat→Prop}{w:World}(hc:Cp tl.length cap) (hT:∀t∈tl,TkOk t) (hlen:tl.length≤2000000) (hF:∀k,wR k lF=wR k (if kind=2 then oJ else xS)) (hr:RdF F A (rB tl) w) (hX0:vR lF bF vsF F0 w) :
  Calls Tryz.prog 42 #[.int .i64 kind,.map (some bF),.slice A tl.length cap] w (PsPost F0 (nR kind tl) w):=by
 obtain⟨h1,h2,h3,h4,h5⟩:=pv_ok (kind:=kind) hc hr;have:=parse_any (pvOf kind tl A cap) (by rw[h4];exact hT) (by rw[h4];exact hlen) A h1 lF bF vsF F0 (by rw[h3];exact hF) w h2 hX0;rw[h3,h4,h5] at this;exact this
theorem lexA_ok {x:Bs}{tl:List ATk}(hx:x.length≤2000000) (h:rN x=.ok tl):(∀t∈tl,TkOk t)∧tl.length≤2000000:=by
 have hc:(xM x).length≤x.length:=(List.takeWhile_sublist _).length_le;have h:vV (xM x)=.ok tl:=h;exact⟨lexD_tk _ (xM x) (Nat.lt_succ_self _) (by omega) tl h,Ap (lexD_len _ (xM x) (Nat.lt_succ_self _) tl h) (by omega)⟩
theorem StOk.lt {st:ASt}(h:StOk st):st.size<4294967296:=by
 have hf:=h.f
 cases e:st.form with
 | none=>rw[e] at hf;have:=hf.2;omega
 | some f =>
  rw[e] at hf;obtain⟨h1,h2,_⟩:=hf;have hn:=h.n;rw[h2]
  cases f with
  | byte=>show st.l.length<_;omega
  | word=>show 4*st.l.length<_;omega
  | zero =>
   show (st.l.getD 0 uN).n<_;have h1:st.l.length=1:=h1
   match st.l,h1,h.ok with
   | [o],_,ho=>exact (ho o (List.mem_singleton_self _)).n
  | k sel fil=>show uD _<_;have:=sizeK_le (opK sel st.l%256);omega
  | q op=>show 4<4294967296;omega
theorem zero_u32:∀w:World,(zeroValue 22).run Tryz.prog w=.ok (.int .u32 0) w:=fun w=>by kernel_rfl
theorem u32_sum (a b:Nat):IntKind.u32.wrap ((a:Int)+(b:Int))=(((a+b)%4294967296:Nat):Int):=by rw[u32w];omega
theorem labA_none {x:Bs}{l:List (Bs×Nat)}:wB x (lbC l)=none↔(tO x l).isSome=false:=by
 rw[lb_look,Option.map_eq_none_iff];cases tO x l<;>simp
end Go.Proofs.YtkaepknpplhgkaaGreatDoor
namespace Go.Proofs.YtkaepknpplhgkaaGreatDoor
open Go.RowKit
theorem wc_exX {P:Program}{c:Code}{Q:Exit→Act→World→Prop}{n:Fr}{m:List (Nat×Value)}{H:World→Prop}{ι:Type}{T:ι→World→Prop}(hH:∀w,H w→∃i,T i w) (h:∀i,WC P c Q n m (fun w=>H w∧T i w)):WC P c Q n m H :=
 wc_ex (fun w hw=>let ⟨i,hi⟩:=hH w hw;⟨i,hw,hi⟩) h
def stepO (org:Nat) (labels:List (Bs×Nat)) (r:List ASt) (j:Nat) (out:Bs) (x:Except Nat Bs):Except (Nat×Nat) Bs:=match x with
 | .error e=>.error (j+1,e)
 | .ok c=>outF org labels r (j+1) (out++c)
def codeS (org:Nat) (s:ASt) (v:List Nat):Except Nat Bs:=match s.form with
 | some f=>sT f s.shape s.l v ((org+s.at_)%4294967296)
 | none=>.ok []
theorem outF_step (org:Nat) (labels:List (Bs×Nat)) (s:ASt) (r:List ASt) (j:Nat) (out:Bs):outF org labels (s::r) j out=stepO org labels r j out (yG (wP labels s.l) (codeS org s)):=rfl
theorem asmL_err2 {kind:Int}{text:Bs}{org k e:Nat}{l:List ASt}{labels:List (Bs×Nat)}(hk:kind=1∨kind=2) (hl:text.length≤1048576) (h:pasF kind org (xK text) 0 0 [] []=.ok (l,labels)) (h2:outF org labels l 0 []=.error (k,e)):oH kind text org=([],k,e):=by
 unfold oH;rw[Ag (by omega),Ag (by omega),h];dsimp only;rw[h2]
theorem asmL_ok {kind:Int}{text out:Bs}{org:Nat}{l:List ASt}{labels:List (Bs×Nat)}(hk:kind=1∨kind=2) (hl:text.length≤1048576) (h:pasF kind org (xK text) 0 0 [] []=.ok (l,labels)) (h2:outF org labels l 0 []=.ok out):oH kind text org=(out,0,0):=by
 unfold oH;rw[Ag (by omega),Ag (by omega),h];dsimp only;rw[h2]
theorem pasF_lab (kind:Int) (org:Nat):∀(r:List Bs) (k at_:Nat) (labels:List (Bs×Nat)) (acc l:List ASt) (ls:List (Bs×Nat)),(∀p∈labels,p.2<4294967296)→pasF kind org r k at_ labels acc=.ok (l,ls)→∀p∈ls,p.2<4294967296
 | [],k,at_,labels,acc,l,ls,h,e=>by
  have e:Except.ok (ε:=Nat×Nat) (acc,labels)=.ok (l,ls):=e;cases e;exact h
 | x::r,k,at_,labels,acc,l,ls,h,e=>by
  rw[pasF_cons] at e;unfold stepF at e
  split at e
  ·cases e
  ·next st _ =>
   split at e
   ·cases e
   split at e
   ·cases e
   refine pasF_lab kind org r _ _ _ _ l ls ?_ e
   split
   ·intro p hp;rcases Aq.1 hp with hp|hp;exact h p hp;rw[Ar.1 hp];exact Nat.mod_lt _ (by decide)
   exact h
theorem labA_lt {x:Bs}{v:Nat}:∀{l:List (Bs×Nat)},(∀p∈l,p.2<4294967296)→tO x l=some v→v<4294967296
 | [],_,h=>by cases h
 | (y,a)::r,hl,h=>by
  rw[tO] at h
  split at h
  ·cases h;exact hl _ (Ks ..)
  exact labA_lt (fun p hp=>hl p (Ky _ hp)) h
theorem putLn (n k:Nat):(wS n k).length=k:=by
 induction k generalizing n with
 | zero=>rfl
 | succ k ih=>show (wS (n/256) k).length+1=_;rw[ih]
theorem putF_ln (i:KI) (f:Fld):(putF i f).length≤4:=by
 cases f with
 | full=>show (wS i.imm 4).length≤4;rw[putLn];exact Ae _
 | index=>unfold putF;dsimp only;split<;>exact Kh rfl
 | reg=>simp[putF]
 | pair=>simp[putF]
 | small=>simp[putF]
 | plain=>simp[putF]
theorem putK_ln (i:KI):∀l:List Fld,(vF i l).length≤4*l.length
 | []=>Ae _
 | f::r=>by
  have e:vF i (f::r)=putF i f++vF i r:=rfl;have:=putF_ln i f;have:=putK_ln i r;rw[e,Kb,Kc];omega
theorem fmtF_ln:∀(op:Int) (l:List (Int×Int×Nat×List Fld)),(∀p∈l,p.2.2.2.length≤3)→∀n fs,fmtF op l=some (n,fs)→fs.length≤3
 | _,[],_,_,_,h=>by cases h
 | op,(a,b,n,l)::r,hl,n',fs,h=>by
  rw[fmtF] at h
  split at h
  ·cases h;exact hl _ (Ks ..)
  exact fmtF_ln op r (fun p hp=>hl p (Ky _ hp)) n' fs h
theorem encK_ln {i:KI}{c:Bs}(h:tW i=some c):c.length≤13:=by
 unfold tW at h
 split at h
 ·cases h
 ·next n l hf =>
  split at h
  ·cases h;have h1:=fmtF_ln i.op fmtL (by decide) n l hf;have h2:=putK_ln i l;rw[Kc];omega
  ·cases h
theorem bytA_ln (word:Bool):∀(v:List Nat) (c:Bs),bytA word v=.ok c→c.length≤4*v.length
 | [],c,h=>by
  have h:Except.ok (ε:=Nat) []=.ok c:=h;cases h;exact Ae _
 | x::v,c,h=>by
  rw[bytA_cons] at h
  split at h
  ·cases h
  obtain⟨r,h1,h2⟩:=yL h;cases h2;have:=bytA_ln word v r h1;have hz:wsz word≤4:=by unfold wsz;split<;>omega
  rw[Kb,putLn,Kc];omega
theorem codeA_ln {f:AFm}{sh:Bs}{l:List AOp}{v:List Nat}{a:Nat}{c:Bs}(h:sT f sh l v a=.ok c) (hv:v.length≤2000000) (hz:f=.zero→v.getD 0 0≤65536):c.length≤8000000:=by
 cases f with
 | byte=>have:=bytA_ln _ _ _ h;omega
 | word=>have:=bytA_ln _ _ _ h;omega
 | zero =>
  have h:Except.ok (ε:=Nat) (List.replicate (v.getD 0 0) (0:UInt8))=.ok c:=h;cases h;have:=hz rfl;rw[List.length_replicate];omega
 | k sel fil =>
  unfold sT at h;dsimp only at h
  split at h
  ·next c' he=>cases h;have:=encK_ln he;omega
  ·cases h
 | q op =>
  unfold sT at h;dsimp only at h
  split at h
  ·split at h
   ·split at h
    ·cases h;rw[putLn];omega
    ·cases h
   ·cases h
  split at h
  ·cases h;rw[putLn];omega
  ·cases h
theorem sW (labels:List (Bs×Nat)) (o:AOp) (l:List AOp):wP labels (o::l)=if o.name≠[] then (match tO o.name labels with
   | some a=>yG (wP labels l) fun r=>.ok (a::r)
   | none=>.error 14) else yG (wP labels l) fun r=>.ok (o.n::r):=rfl
theorem andR_step {x:Except Nat (List Nat)}{done:List Nat}{a:Nat}:yG (yG x fun r=>.ok (a::r)) (fun r=>.ok (done++r))=yG x (fun r=>Except.ok ((done++[a])++r)):=by
 cases x with
 | error e=>rfl
 | ok r=>show Except.ok _=Except.ok _;rw[Kv];rfl
abbrev u32O (v:List Nat):Obj:=bk 22 (uS v)
theorem u32C_ln (v:List Nat):(uS v).length=v.length:=by unfold uS;rw[Ak]
theorem made_u32 (n:Nat):madeCells (Value.int .u32 0).cells (n*1)=(uS (List.replicate n 0)).toArray:=by
 show madeCells #[Value.int .u32 0] (n*1)=_;rw[made_one,Nat.mul_one,uS,List.map_replicate];rfl
theorem set_u32 {done t:List Nat}{n x y:Nat}(hn:done.length=n):(uS (done++y::t)).set (0+n*1) (.int .u32 (x:Nat))=uS (done++x::t):=by
 unfold uS;rw[List.map_append,List.map_append,List.set_append_right _ _ (by rw[Ak];omega),Ak,hn,show 0+n*1-n=0 by omega];rfl
theorem rep_succ {len n:Nat}(h:n<len):List.replicate (len-n) 0=0::List.replicate (len-(n+1)) 0:=by
 rw[show len-n=(len-(n+1))+1 by omega,List.replicate_succ]
structure P2 where
 j:Nat
 out:Bs
 q:Option Addr
 BA:Option Addr
 bc:Nat
 line:Int
structure P2I (org:Nat) (labels:List (Bs×Nat)) (l:List ASt) (R1:Except (Nat×Nat) Bs) (b:Nat) (p:P2):Prop where
 le:p.j≤l.length
 e:outF org labels (l.drop p.j) p.j p.out=R1
 q:p.q=none∨p.q=some ⟨b,0,none⟩
 a:p.out=[]→p.BA=none
 n:p.out.length≤8000000*p.j
structure P3I (labels:List (Bs×Nat)) (l:List AOp) (p:Nat×List Nat):Prop where
 le:p.1≤l.length
 n:p.2.length=p.1
 e:yG (wP labels (l.drop p.1)) (fun r=>.ok (p.2++r))=wP labels l
 lt:∀x∈p.2,x<4294967296
end Go.Proofs.YtkaepknpplhgkaaGreatDoor
namespace Go.Proofs.YtkaepknpplhgkaaGreatDoor
open Go.RowKit
def AsmPost (kind:Int) (text:Bs) (org:Nat) (w:World) (e:Ending) (w':World):Prop:=Ext w w'∧e=.returned (.tuple #[.string ⟨(oH kind text org).1.toArray⟩,.int .i64 ((oH kind text org).2.1:Nat),.int .i64 ((oH kind text org).2.2:Nat)])
theorem assemble_any (kind:Int) (text:Bs) (org:Nat) (_ho:org<4294967296) (w_0:World) (hm:MxL w_0) (ht:AsT w_0) :
  Calls Tryz.prog 17 #[.int .i64 kind,.string ⟨text.toArray⟩,.int .u32 org] w_0 (AsmPost kind text org w_0):=by
 unfold AsmPost;generalize hr:oH kind text org=r;refine calls_wcD (args:=[.int .i64 kind,.string ⟨text.toArray⟩,.int .u32 org]) Tryz.func17 M 152 M (Kh M)<|Z3 0 1 2 M<|zG (H':=Jy w_0 [] [] (fun u=>MxL u∧AsT u)) (fun u hu=>?_) ?_;subst hu;exact Hp.start ⟨fun k=>k=Tryz.laysM145_ren.g 1∨k=asG,fun k hk=>(by rcases hk with rfl|rfl;exact⟨hm.lt,id⟩;exact⟨ht.lt,id⟩),fun u' hu'=>⟨hm.foot (hu' _ (.inl rfl)),ht.foot (hu' _ (.inr rfl))⟩⟩;refine zX<|zZ<|Zt (z:=Jg) (cs:=[.string ⟨#[]⟩]) M fun b6=>Za M M<|Zt (z:=.int .i64 0) (cs:=Jj) M fun b8=>ZX<|zB (ι:={z:Bool // z=true↔(kind≠1∧kind≠2)}) (fun z=>[(0,.int .i64 kind),(1,.string ⟨text.toArray⟩),(2,.int .u32 org),(6,Jx b6),(7,.int .i64 0),(8,Jx b8),(31,.bool z.1)]) (fun _=>Jy w_0 [(b8,bk 25 [.int .i64 0]),(b6,bk 9 [.string ⟨#[]⟩])] [] (fun u=>MxL u∧AsT u)) ?_ (fun z=>?_)
 ·refine zZ<|Zm M M<|ZF M (xF M M)<|Zm M M<|zQ 28 M (fun g1=>?_) (fun g1=>?_)
  ·replace g1:=xD g1;refine Zv M<|ZG M M M (xF M M)<|Zh M<|zS<|zU (ι:={z:Bool // z=true↔(kind≠1∧kind≠2)}) ⟨(kind != 2),⟨fun h=>⟨g1,bne_iff_ne.1 h⟩,fun h=>bne_iff_ne.2 h.2⟩⟩ (O7 M) Jz
  replace g1:=wJ g1;refine ZP M<|ZP M<|Zf M<|zS<|zU (ι:={z:Bool // z=true↔(kind≠1∧kind≠2)}) ⟨false,⟨fun h=>(by cases h),fun h=>absurd g1 (by simpa using h.1)⟩⟩ (O7 M) Jz
 obtain⟨z,hz⟩:=z;dsimp only;refine zT M (fun h31=>?_) (fun h31=>?_)
 ·have hr:r=([],0,1):=by rw[← hr];unfold oH;exact Ah (hz.1 h31)
  refine zX<|zZ<|ZS 1 M<|Za M M<|ZS 0 M<|ZT<|zK<|zW<|wq_endN (b6:=b6) (b8:=b8) M M M M (fun w hw=>⟨HpG.blk hw (k:=1) rfl,HpG.blk hw (k:=0) rfl⟩) (fun w hw=>?_);exact⟨rZ (Kk hw),by rw[hr];rfl⟩
 skip
 have hk12:kind=1∨kind=2:=by
  refine Classical.byContradiction fun hn=>?_;rw[hz.2 ⟨fun e=>hn (.inl e),fun e=>hn (.inr e)⟩] at h31;cases h31
 refine zR<|zV<|zX<|zX<|zZ<|Zm M M<|ZF M (wZ M U9)<|ZF M (vS M M)<|ZT<|zT M (fun h34=>?_) (fun h34=>?_)
 ·replace h34:=Ki h34;have hr:r=([],0,2):=by rw[← hr];unfold oH;rw[Ag (by omega),Ah (by omega)]
  refine zX<|Z8r 0 1 2 6 7 8 31 34 M<|ZS 1 M<|Za M M<|ZS 0 M<|ZT<|zK<|zW<|wq_endN (b6:=b6) (b8:=b8) M M M M (fun w hw=>⟨HpG.blk hw (k:=1) rfl,HpG.blk hw (k:=0) rfl⟩) (fun w hw=>?_);exact⟨rZ (Kk hw),by rw[hr];rfl⟩
 replace h34:=Kj h34;have hln:text.length≤1048576:=by omega
 refine zR<|zV<|zX<|Z8r 0 1 2 6 7 8 31 34 M<|ZF M (wX M M)<|wl_defer .none M<|ZX<|Z8r 0 1 2 6 7 8 31 34 M<|wl_callXS (ι:=Nat×List (Value×Value)) (C:=fun _=>True) (val:=fun i=>.map (some i.1)) (TT:=fun i=>vR xS i.1 i.2) .none M  (by kernel_rfl) M (fun _ h=>h.elim) (fun _=>vR.lies) (fun w hw=>(formsK_any w (HpG.x hw).2).mono fun e w' ⟨b,vs,e1,e2,e3⟩=>⟨(b,vs),trivial,e1,e2,e3⟩) (fun iK FK vK _ hFK hKX=>?_);refine Za M M<|ZT<|zB (ι:={p:(List (Bs×AFm)×Nat×List (Value×Value))×(Nat→Prop)×World // (∀k,p.2.1 k→w_0.heap.size≤k∧k<p.2.2.heap.size)∧(∀k,wR k p.1.1=wR k (if kind=2 then oJ else xS))∧vR p.1.1 p.1.2.1 p.1.2.2 p.2.1 p.2.2}) (fun p=>[(0,.int .i64 kind),(1,.string ⟨text.toArray⟩),(2,.int .u32 org),(6,Jx b6),(7,.int .i64 0),(8,Jx b8),(9,.map (some p.1.1.2.1))]) (fun p=>Jy w_0 [(b8,bk 25 [.int .i64 0]),(b6,bk 9 [.string ⟨#[]⟩])] [] (fun u=>Same p.1.2.1 p.1.2.2 u∧(MxL u∧AsT u))) ?_ (fun p=>?_)
 ·refine zX<|Z9r 0 1 2 6 7 8 9 31 34 M<|Zm M M<|Ze M<|ZT<|zT M (fun h38=>?_) (fun h38=>?_)
  ·replace h38:=Kq h38;refine Z10r 0 1 2 6 7 8 9 31 34 38 M<|wl_callXS (ι:=List (Bs×AFm)×Nat×List (Value×Value)) (C:=fun i=>∀k,wR k i.1=wR k oJ) (val:=fun i=>.map (some i.2.1)) (TT:=fun i=>vR i.1 i.2.1 i.2.2) .none M  (by kernel_rfl) M (fun _ h=>h.elim) (fun _=>vR.lies) (fun w hw=>(formsQ_any w (HpG.x hw).2.2).mono fun e w' ⟨l,b,vs,e0,e1,e2,e3⟩=>⟨(l,b,vs),e0,e1,e2,e3⟩) (fun iQ FQ vQ hCQ hFQ hQX=>?_);refine Za M M<|zS<|zU (ι:={p:(List (Bs×AFm)×Nat×List (Value×Value))×(Nat→Prop)×World // (∀k,p.2.1 k→w_0.heap.size≤k∧k<p.2.2.heap.size)∧(∀k,wR k p.1.1=wR k (if kind=2 then oJ else xS))∧vR p.1.1 p.1.2.1 p.1.2.2 p.2.1 p.2.2}) ⟨(iQ,FQ,vQ),hFQ,(fun k=>by rw[Ah h38];exact hCQ k),hQX⟩ (O7 M) (fun w h=>Hp.weakX h fun u ⟨a,_,b⟩=>⟨a,b⟩)
  replace h38:=yT h38;refine zR<|zU (ι:={p:(List (Bs×AFm)×Nat×List (Value×Value))×(Nat→Prop)×World // (∀k,p.2.1 k→w_0.heap.size≤k∧k<p.2.2.heap.size)∧(∀k,wR k p.1.1=wR k (if kind=2 then oJ else xS))∧vR p.1.1 p.1.2.1 p.1.2.2 p.2.1 p.2.2}) ⟨((xS,iK.1,iK.2),FK,vK),hFK,(fun k=>by rw[Ag h38]),hKX⟩ (O7 M) Jz
 obtain⟨⟨⟨lF,bF,vsF⟩,F0,v0⟩,hF0,hFl,hFX⟩:=p;dsimp only at hF0 hFl hFX ⊢;refine tK (fun w hw=>HpG.ne hw (i:=1) (j:=0) M M M) (fun hne=>?_);obtain⟨R0,hR0⟩:∃y,y=pasF kind org (xK text) 0 0 [] []:=⟨_,rfl⟩;refine zX<|zZ<|Za M M<|ZX<|zZ<|zA .none M (rO) fun b40=>Za M M<|ZX<|Z9r 0 1 2 6 7 8 9 10 11 M<|Za M M<|ZX<|zX<|zZ<|Zm M M<|yI (ι:=Nat) (C:=fun _=>True) (val:=fun b=>.slice (some ⟨b,0,none⟩) (xK text).length (xK text).length) (TT:=fun b=>Bl7 b (uV (xK text))) .none M  (by kernel_rfl) M (fun _ h=>h.elim) (fun _=>Bl7.lies) (fun w hw=>(lines_any text (by omega) w (HpG.x hw).2.1).mono fun e w' ⟨h1,h2⟩=>⟨w.heap.size,trivial,h1,by rw[h2];exact Ext.alloc (Ext.refl w) _,Ae _,by rw[h2];exact heap_alloc_new w _⟩) (fun bl Fl _ hFl2=>?_);refine ZF M (yK M U59)<|Zm M M<|ZT<|zJ<|yF (ι:={p:P1 // P1I kind org (xK text) R0 p}) (fun p=>[(0,.int .i64 kind),(2,.int .u32 org),(6,Jx b6),(7,.int .i64 p.1.line),(8,Jx b8),(9,.map (some bF)),(10,.slice p.1.A p.1.Ss.length p.1.cap),(11,.map (some b40)),(12,.int .i64 (p.1.at_:Nat)),(42,.slice (some ⟨bl,0,none⟩) (xK text).length (xK text).length),(43,.int .i64 (xK text).length),(44,.int .i64 (p.1.k:Nat))]) (fun p=>Jy w_0 [(b40,wH (lbC p.1.labels)),(b8,bk 25 [.int .i64 0]),(b6,bk 9 [.string ⟨#[]⟩])] [rwT p.1.Ss p.1.A p.1.cap] (fun u=>StsP p.1.acc p.1.Ss (fun k=>w_0.heap.size≤k) u∧(Bl7 bl (uV (xK text)) Fl u∧(Same F0 v0 u∧(MxL u∧AsT u))))) (fun p=>(xK text).length-p.1.k) ⟨⟨0,0,[],[],[],none,0,0⟩,⟨Ad _,by rw[Kx];exact hR0.symm,Ad _,rfl,(fun _ h=>by cases h),Ae _⟩⟩ ?_ ?_ (fun p=>?_);exact O12 rfl;exact fun w h=>Hp.nil (Hp.weakX h fun u ⟨a,b⟩=>⟨StsP.nil,a,b⟩) _ _;obtain⟨⟨k,at_,labels,acc,Ss,A,cap,line⟩,hI⟩:=p;dsimp only at hI ⊢;obtain⟨hle,he,hat,hn,hok,hc⟩:=hI;dsimp only at hle he hat hn hok hc;refine zX<|zZ<|ZF M (yR M M)<|ZX<|zT M (fun h45=>?_) (fun h45=>?_)
 ·replace h45:=Ki h45;skip;obtain⟨x,hx⟩:∃x,(xK text)[k]? = some x:=⟨(xK text)[k]'(by omega),Kn _⟩;have hxl:=(linA_le text).2 x (Ko hx);have hll:=(linA_le text).1;have he:stepF kind org ((xK text).drop (k+1)) k at_ labels acc (yG (rN x) (nR kind))=R0:=by rw[← pasF_cons,← rG hx];exact he
  refine zR<|zV<|zX<|zJ<|zX<|zZ<|Zm rfl rfl<|ZF rfl (Zi (es:=1) rfl rfl U59 rfl (by first|omega|simp<;>omega) rfl) ?_;refine ZF M (zL M U9 M (fun w hw=>Blk.cell (HpG.x hw).2.1.2 (sK hx)))<|Za M M<|Za M M<|ZX<|Z15r 0 2 6 7 8 9 10 11 12 13 14 42 43 44 45 M<|Zm M M<|ZF M (zF M M (show IntKind.i64.wrap ((k:Int)+1)=((k+1:Nat):Int) from i64_in ((k+1:Nat):Int) (by omega) (by omega)))<|Za M M<|ZX<|Z15r 0 2 6 7 8 9 10 11 12 13 14 42 43 44 45 M<|Zm M M<|Zm M M<|Zm M M ?_;rcases hla:rN x with e9|tl
  ·rw[hla] at he;have he:Except.error (k+1,e9)=R0:=he;refine oE .none (ch:=pan (qK e9)) (H':=Jy w_0 [(b40,wH (lbC labels)),(b8,bk 25 [.int .i64 0]),(b6,bk 9 [.string ⟨#[]⟩])] [rwT Ss A cap] (fun u=>StsP acc Ss (fun k=>w_0.heap.size≤k) u∧(Bl7 bl (uV (xK text)) Fl u∧(Same F0 v0 u∧(MxL u∧AsT u))))) (by kernel_rfl) M (fun w hw=>(lex_any x (by omega) w (HpG.x hw).2.2.2.1).mono fun e w' ⟨h1,h2⟩=>by rw[hla] at h2;exact⟨h2,HpG.onE hw h1⟩) ?_;refine zO<|yX<|zO<|zO<|yX<|zO<|wq_dieD (b6:=b6) (b8:=b8) M M M M hne (fun w hw=>⟨⟨_,HpG.blk hw (k:=2) rfl⟩,⟨_,HpG.blk hw (k:=1) rfl⟩⟩) (fun w w' hw hk=>?_);exact⟨nM (Kk hw) hk (HpG.mineL (j:=2) hw M id) (HpG.mineL (j:=1) hw M id),by rw[← hr,asmL_err hk12 hln (hR0.symm.trans he.symm)]⟩
  skip;rw[hla] at he;have he:stepF kind org ((xK text).drop (k+1)) k at_ labels acc (nR kind tl)=R0:=he;obtain⟨htk,htl⟩:=lexA_ok (by omega) hla;refine yI (ι:=Option Addr×Nat) (C:=fun i=>Cp tl.length i.2) (val:=fun i=>.slice i.1 tl.length i.2) (TT:=fun i F=>RdF F i.1 (rB tl)) .none M  (by kernel_rfl) M (fun _ h=>h.elim) (fun _=>RdF.lies) (fun w hw=>(lex_any x (by omega) w (HpG.x hw).2.2.2.1).mono fun e w' ⟨h1,h2⟩=>by rw[hla] at h2;obtain⟨A,c,e1,e2,e3⟩:=h2;exact⟨(A,c),e2,e1,h1,e3⟩) (fun iT FT hCT hFT=>?_);rcases hpa:nR kind tl with e9|st
  ·rw[hpa] at he;have he:Except.error (k+1,e9)=R0:=he;refine oE .none (ch:=pan (qK e9)) (H':=Jy w_0 [(b40,wH (lbC labels)),(b8,bk 25 [.int .i64 0]),(b6,bk 9 [.string ⟨#[]⟩])] [rwT Ss A cap] (fun u=>StsP acc Ss (fun k=>w_0.heap.size≤k) u∧(Bl7 bl (uV (xK text)) Fl u∧(Same F0 v0 u∧(MxL u∧AsT u))))) (by kernel_rfl) M (fun w hw=>(parse_call hCT htk htl hFl (HpG.x hw).1 ((HpG.x hw).2.2.2.1.get vR.lies hFX)).mono fun e w' ⟨h1,h2⟩=>by rw[hpa] at h2;exact⟨h2,Hp.weakX (HpG.onE hw h1) fun u h=>h.2⟩) ?_;refine zO<|yX<|zO<|zO<|yX<|zO<|wq_dieD (b6:=b6) (b8:=b8) M M M M hne (fun w hw=>⟨⟨_,HpG.blk hw (k:=2) rfl⟩,⟨_,HpG.blk hw (k:=1) rfl⟩⟩) (fun w w' hw hk=>?_);exact⟨nM (Kk hw) hk (HpG.mineL (j:=2) hw M id) (HpG.mineL (j:=1) hw M id),by rw[← hr,asmL_err hk12 hln (hR0.symm.trans he.symm)]⟩
  skip;rw[hpa] at he;have he:(if st.label≠[]∧(tO st.label labels).isSome=true then Except.error (k+1,22) else if 65536<at_+st.size then .error (k+1,2) else pasF kind org ((xK text).drop (k+1)) (k+1) (at_+st.size) (if st.label≠[] then labels++[(st.label,(org+at_)%4294967296)] else labels) (acc++[{ st with at_:=at_ }]))=R0:=he;obtain⟨hsto,hst0⟩:=parA_ok htk htl hpa;have hslt:=hsto.lt;refine wl_callS (ι:={S:SV // S.lb=st.label∧S.l=st.l∧S.z=st.size}) (val:=fun S=>.agg (svC S.1).toArray) (TT:=fun S=>StP st S.1) F0 v0 (fun u h=>h.2.2.2.1) (fun k hk=>(hF0 k hk).2) .none M  (by kernel_rfl) M (fun _=>StP.lies) (fun w hw=>(parse_call hCT htk htl hFl (HpG.x hw).1 ((HpG.x hw).2.2.2.1.get vR.lies hFX)).mono fun e w' ⟨h1,h2⟩=>by rw[hpa] at h2;obtain⟨S,e1,e2⟩:=h2;exact⟨⟨S,e2.lb,e2.l,e2.z⟩,e1,h1,e2⟩) (fun S=>?_);obtain⟨S,hSb,hSl,hSz⟩:=S;refine Zt (z:=.agg #[.string ⟨#[]⟩,.string ⟨#[]⟩,.string ⟨#[]⟩,.slice none 0 0,.pointer none,.int .i64 0,.int .i64 0]) (cs:=Jr) M fun b15=>ZR 0 M<|ZX<|Z16r 0 2 6 7 8 9 10 11 12 13 14 15 42 43 44 45 M<|Zm M M<|ZF M (zY (off:=5) (sz:=0) M U91 (by kernel_rfl) M) ?_;refine ZS 0 M<|ZT<|zB (ι:={_u:Unit // ¬(st.label≠[]∧(tO st.label labels).isSome=true)}) (fun _=>[(0,.int .i64 kind),(2,.int .u32 org),(6,Jx b6),(7,.int .i64 ((k+1:Nat):Int)),(8,Jx b8),(9,.map (some bF)),(10,.slice A Ss.length cap),(11,.map (some b40)),(12,.int .i64 (at_:Nat)),(15,Jx b15),(42,.slice (some ⟨bl,0,none⟩) (xK text).length (xK text).length),(43,.int .i64 (xK text).length),(44,.int .i64 (k:Nat))]) (fun _=>Jy w_0 [(b15,svO { S with a:=(at_:Nat) }),(b40,wH (lbC (if st.label≠[] then labels++[(st.label,(org+at_)%4294967296)] else labels))),(b8,bk 25 [.int .i64 0]),(b6,bk 9 [.string ⟨#[]⟩])] [rwT Ss A cap] (fun u=>StP st S (fun k=>F0 k∨w_0.heap.size≤k) u∧(StsP acc Ss (fun k=>w_0.heap.size≤k) u∧(Bl7 bl (uV (xK text)) Fl u∧(Same F0 v0 u∧(MxL u∧AsT u)))))) ?_ (fun z=>?_)
  ·refine zX<|Z16r 0 2 6 7 8 9 10 11 12 13 14 15 42 43 44 45 M<|ZF M (Y91x0 M) ?_;refine Zl 0 M U9 M<|ZF M (uL M M U9)<|ZT<|zT M (fun h60=>?_) (fun h60=>?_)
   ·have h60:st.label≠[]:=by rw[← hSb];simpa using h60
    refine zX<|zX<|Z17r 0 2 6 7 8 9 10 11 12 13 14 15 42 43 44 45 60 M<|Zm M M<|ZF M (Y91x0 M) ?_;refine Zl 0 M U9 M<|ZF M (yf_lookupS (key:=S.lb) (z:=.int .u32 0) M M (fun w hw=>HpG.own hw _ (Ko (i:=1) M)) Tryz.underlying86 Tryz.underlying9 zero_u32) ?_;refine Zm M M<|ZF M (zC M M)<|ZF M (zC M M)<|Za M M<|Za M M<|ZX<|Z18r 0 2 6 7 8 9 10 11 12 13 14 15 17 42 43 44 45 60 M<|Zm M M<|ZT<|zT M (fun h68=>?_) (fun h68=>?_)
    ·have hyes:st.label≠[]∧(tO st.label labels).isSome=true:=⟨h60,by rw[← lb_some,← hSb];exact h68⟩;rw[Ah hyes] at he;refine zZ<|ZF M (xA M U25)<|wL .none M<|zO<|zO<|yX<|zO<|zO<|yX<|zO<|wq_dieD (b6:=b6) (b8:=b8) M M M M hne (fun w hw=>⟨⟨_,HpG.blk hw (k:=3) rfl⟩,⟨_,HpG.blk hw (k:=2) rfl⟩⟩) (fun w w' hw hk=>?_);exact⟨nM (Kk hw) hk (HpG.mineL (j:=3) hw M id) (HpG.mineL (j:=2) hw M id),by rw[← hr,asmL_err hk12 hln (hR0.symm.trans he.symm)]⟩
    skip;have hnot:(tO st.label labels).isSome=false:=by rw[← lb_some,← hSb];exact h68
    refine zR<|zV<|zZ<|Zm M M<|ZF M (Y91x0 M) ?_;refine Zl 0 M U9 M<|Zm M M<|Zm M M<|ZF M (Zc M U22 (Zu32 _))<|ZF M (zF M M (u32_sum org at_))<|yP .none (cf_insertS (ty:=0) (tab:=lbC labels) (key:=S.lb) 1 M M M M Tryz.underlying86 Tryz.underlying9 (labA_none.2 (by rw[hSb];exact hnot))) (fun _=>?_);refine zS<|zU (ι:={_u:Unit // ¬(st.label≠[]∧(tO st.label labels).isSome=true)}) ⟨(),fun h=>by rw[hnot] at h;cases h.2⟩ (O13 M) (fun w h=>by rw[Ah h60,lbC_snoc,← hSb];exact Hp.weakX h fun u ⟨a,_,b⟩=>⟨a,b⟩)
   skip;have h60:st.label=[]:=by rw[← hSb];simpa using h60
   refine zR<|zU (ι:={_u:Unit // ¬(st.label≠[]∧(tO st.label labels).isSome=true)}) ⟨(),fun h=>h.1 h60⟩ (O13 M) (fun w h=>by rw[Ag (fun hn=>hn h60)];exact Hp.weakX h fun u ⟨a,_,b⟩=>⟨a,b⟩)
  obtain⟨_,hno⟩:=z;rw[Ag hno] at he;refine zX<|zZ<|Zm M M<|ZF M (zY (off:=6) (sz:=0) M U91 (by kernel_rfl) M) ?_;refine Zl 0 M U3 M<|ZF M (zF M M (show IntKind.i64.wrap ((at_:Int)+S.z)=((at_+st.size:Nat):Int) by rw[hSz,← Int.natCast_add];exact i64_in _ (by omega) (by omega))) ?_;refine Za M M<|ZX<|zX<|Z13r 0 2 6 7 8 9 10 11 12 15 42 43 44 M<|Zm M M<|ZF M (vS M M)<|ZT<|zT M (fun h82=>?_) (fun h82=>?_)
  ·replace h82:=Ki h82;rw[Ah (by omega)] at he;refine Z14r 0 2 6 7 8 9 10 11 12 15 42 43 44 82 M<|ZF M (xA M U25)<|wL .none M<|zO<|yX<|zO<|zO<|yX<|zO<|wq_dieD (b6:=b6) (b8:=b8) M M M M hne (fun w hw=>⟨⟨_,HpG.blk hw (k:=3) rfl⟩,⟨_,HpG.blk hw (k:=2) rfl⟩⟩) (fun w w' hw hk=>?_);exact⟨nM (Kk hw) hk (HpG.mineL (j:=3) hw M id) (HpG.mineL (j:=2) hw M id),by rw[← hr,asmL_err hk12 hln (hR0.symm.trans he.symm)]⟩
  replace h82:=Kj h82;rw[Ag (by omega)] at he;refine zR<|zV<|Z14r 0 2 6 7 8 9 10 11 12 15 42 43 44 82 M<|Zm M M<|ZF M (Zo 0 M U91 M)<|Zs (z:=.agg #[.string ⟨#[]⟩,.string ⟨#[]⟩,.string ⟨#[]⟩,.slice none 0 0,.pointer none,.int .i64 0,.int .i64 0]) M U85 fun b86=>wN (z:=.agg #[.string ⟨#[]⟩,.string ⟨#[]⟩,.string ⟨#[]⟩,.slice none 0 0,.pointer none,.int .i64 0,.int .i64 0]) (bytes:=96) 0 0 .none M M M M M U85 (by kernel_rfl) M M M M M (by omega) (by omega) fun a87 c87 h87=>Za M M<|zS<|zH<|zV<|Z14r 0 2 6 7 8 9 10 11 12 15 42 43 44 82 M<|ZF M (zF M M (show IntKind.i64.wrap ((k:Int)+1)=((k+1:Nat):Int) from i64_in ((k+1:Nat):Int) (by omega) (by omega)))<|Zm M M<|zS<|yV (ι:={p:P1 // P1I kind org (xK text) R0 p}) ⟨⟨k+1,at_+st.size,_,acc++[{ st with at_:=at_ }],Ss++[{ S with a:=(at_:Nat) }],some ⟨a87,0,none⟩,c87,((k+1:Nat):Int)⟩,⟨by show k+1≤_;omega,he,by show at_+st.size≤_;omega,by simp[hn],(fun s hs=>(Aq.1 hs).elim (hok s) fun h=>by rw[Ar.1 h];exact⟨hsto.place at_,by show st.size≤_;omega,hat⟩),by simp;omega⟩⟩ (by show (xK text).length-(k+1)<(xK text).length-k;omega) ?_ (fun w h=>?_);exact .cons M<|.cons M<|.cons M<|.cons M<|.cons M<|.cons M<|.consE M (by show _=Value.slice (some ⟨a87,0,none⟩) (Ss++[{ S with a:=(at_:Nat) }]).length c87;rw[Kb];rfl)<|.cons M<|.cons M<|.cons M<|.cons M<|.cons M<|.nil;have h2:=Hp.drop (Hp.weakX h (X':=fun u=>StsP (acc++[{ st with at_:=at_ }]) (Ss++[{ S with a:=(at_:Nat) }]) (fun k=>w_0.heap.size≤k) u∧(Bl7 bl (uV (xK text)) Fl u∧(Same F0 v0 u∧(MxL u∧AsT u)))) fun u ⟨a,b,c⟩=>⟨b.snoc ((StP.lies.mono (fun k hk=>hk.elim (fun h=>(hF0 k h).1) id) a).place at_) rfl,c⟩) (L':=[(b40,wH (lbC (if st.label≠[] then labels++[(st.label,(org+at_)%4294967296)] else labels))),(b8,bk 25 [.int .i64 0]),(b6,bk 9 [.string ⟨#[]⟩])]) (.cons _ (.cons _ (Kl _))) (Kl _);show Jy w_0 [(b40,wH (lbC (if st.label≠[] then labels++[(st.label,(org+at_)%4294967296)] else labels))),(b8,bk 25 [.int .i64 0]),(b6,bk 9 [.string ⟨#[]⟩])] [rwT (Ss++[{ S with a:=(at_:Nat) }]) (some ⟨a87,0,none⟩) c87] (fun u=>StsP (acc++[{ st with at_:=at_ }]) (Ss++[{ S with a:=(at_:Nat) }]) (fun k=>w_0.heap.size≤k) u∧(Bl7 bl (uV (xK text)) Fl u∧(Same F0 v0 u∧(MxL u∧AsT u)))) w;unfold rwT;rw[stsC_snoc,Kb];exact h2
 replace h45:=Kj h45;skip;obtain rfl:k=(xK text).length:=by omega
 have he:R0=Except.ok (acc,labels):=by rw[List.drop_length] at he;exact he.symm
 have hpas:=hR0.symm.trans he;have hll:=(linA_le text).1;have hlabs:=pasF_lab _ _ _ _ _ _ _ _ _ (fun _ h=>by cases h) hpas;obtain⟨R1,hR1⟩:∃y,y=outF org labels acc 0 []:=⟨_,rfl⟩;refine yM<|zP<|zP<|yN<|zV<|zX<|zZ<|Zt (z:=.agg #[.pointer none,.slice none 0 0]) (cs:=[.pointer none,.slice none 0 0]) M fun b18=>ZX<|zX<|zZ<|Zm M M<|ZF M (yK M U85)<|Zm M M<|ZT<|zJ<|yF (ι:={p:P2 // P2I org labels acc R1 b18 p}) (fun p=>[(2,.int .u32 org),(6,Jx b6),(7,.int .i64 p.1.line),(8,Jx b8),(11,.map (some b40)),(18,Jx b18),(89,.slice A Ss.length cap),(90,.int .i64 (Ss.length:Nat)),(91,.int .i64 (p.1.j:Nat))]) (fun p=>Jy w_0 [(b18,bdO (.pointer p.1.q) (.slice p.1.BA p.1.out.length p.1.bc)),(b40,wH (lbC labels)),(b8,bk 25 [.int .i64 0]),(b6,bk 9 [.string ⟨#[]⟩])] [rwB p.1.BA p.1.bc p.1.out,rwT Ss A cap] (StsP acc Ss (fun k=>w_0.heap.size≤k))) (fun p=>acc.length-p.1.j) ⟨⟨0,[],none,none,0,line⟩,⟨Ad _,by rw[Kx];exact hR1.symm,.inl rfl,fun _=>rfl,Ad _⟩⟩ ?_ ?_ (fun p=>?_);exact O9 rfl;exact fun w h=>Hp.nil (Hp.weakX h fun u ⟨a,b⟩=>a) _ _;obtain⟨⟨j,out,q,BA,bc,line⟩,hI⟩:=p;dsimp only at hI ⊢;obtain⟨hjle,hoe,hq,hBA,hon⟩:=hI;dsimp only at hjle hoe hq hBA hon;refine zX ?_;skip;refine zZ<|ZF M (yR M M)<|ZX<|zT M (fun h92=>?_) (fun h92=>?_)
 ·replace h92:=Ki h92;obtain⟨st,hst⟩:∃x,acc[j]? = some x:=⟨acc[j]'(by omega),Kn _⟩;obtain⟨S,hS⟩:∃x,Ss[j]? = some x:=⟨Ss[j]'(by omega),Kn _⟩;obtain⟨hstk,hsts,hsta⟩:=hok st (Ko hst);have hoe:stepO org labels (acc.drop (j+1)) j out (yG (wP labels st.l) (codeS org st))=R1:=by rw[← outF_step,← rG hst];exact hoe
  refine tK (φ:=S.sh=st.shape∧S.l=st.l∧S.a=st.at_∧(S.fp=none→st.form=none)∧∃g,A=some ⟨g,0,none⟩) (fun w hw=>by
   have h1:=(HpG.x hw).all j st S hst hS;refine⟨h1.1.sh,h1.1.l,h1.2,fun e=>?_,?_⟩
   ·have h3:=h1.1.f;unfold FpP at h3
    split at h3
    ·assumption
    obtain⟨b,v,e1,_⟩:=h3;rw[e] at e1;cases e1
   have h2:=(HpG.rows hw (rwT Ss A cap) (by simp)).2;rcases h2 with ⟨_,e2⟩|⟨g,c,cur,e1,_⟩
   ·have:Ss.length=0:=e2;omega
   injection e1 with e1
   exact⟨g,e1⟩) (fun ⟨hSs,hSl,hSa,hSf,gA,hgA⟩=>?_)
  subst hgA;have hlln:=hstk.n;have hll2:S.l.length=st.l.length:=by rw[hSl]
  refine zR<|zV<|zB (ι:={p:P2 // P2I org labels acc R1 b18 p∧p.j=j+1}) (fun p=>[(2,.int .u32 org),(6,Jx b6),(7,.int .i64 ((j+1:Nat):Int)),(8,Jx b8),(11,.map (some b40)),(18,Jx b18),(89,.slice (some ⟨gA,0,none⟩) Ss.length cap),(90,.int .i64 (Ss.length:Nat)),(91,.int .i64 (j:Nat))]) (fun p=>Jy w_0 [(b18,bdO (.pointer p.1.q) (.slice p.1.BA p.1.out.length p.1.bc)),(b40,wH (lbC labels)),(b8,bk 25 [.int .i64 0]),(b6,bk 9 [.string ⟨#[]⟩])] [rwB p.1.BA p.1.bc p.1.out,rwT Ss (some ⟨gA,0,none⟩) cap] (StsP acc Ss (fun k=>w_0.heap.size≤k))) ?_ (fun p=>?_)
  ·refine zJ<|zX<|zZ<|Zm rfl rfl<|ZF rfl (Zi (es:=7) rfl rfl U85 rfl (by first|omega|simp<;>omega) rfl) ?_;refine ZF M (xL (cs:=svC S) M U91 M (by kernel_rfl) (fun w hw i v hv=>(HpG.rowF (j:=1) hw M).part (i:=7*j+i) (Kg.1 (stsC_at hS i v hv)).1 (by omega) (stsC_at hS i v hv))) ?_;refine Zt (z:=.agg #[.string ⟨#[]⟩,.string ⟨#[]⟩,.string ⟨#[]⟩,.slice none 0 0,.pointer none,.int .i64 0,.int .i64 0]) (cs:=Jr) M fun b20=>Za M M<|ZR 0 M<|ZX<|Z12r 2 6 7 8 11 18 19 20 89 90 91 92 M<|Zm M M<|ZF M (zF M M (show IntKind.i64.wrap ((j:Int)+1)=((j+1:Nat):Int) from i64_in ((j+1:Nat):Int) (by omega) (by omega)))<|Za M M<|ZX<|Z12r 2 6 7 8 11 18 19 20 89 90 91 92 M<|ZF M (Y91x3 M) ?_;refine Zl 0 M U88 M<|ZF M (yK M U88)<|zA .none M  (nf_makeSlice (l:=S.l.length) (z:=.int .u32 0) (size:=1) (bytes:=4) (cs:=uS (List.replicate S.l.length 0)) M Tryz.underlying51 (by kernel_rfl) (made_u32 _) (by rw[hSl];omega) (by rw[hSl];omega) (by rw[hSl];omega)) (fun b101=>?_);refine Za M M<|ZX<|zX<|Z13r 2 6 7 8 11 18 19 20 21 89 90 91 92 M<|ZF M (Y91x3 M) ?_;refine Zl 1 M U88 M<|ZF M (yK M U88)<|Zm M M<|ZT<|zJ<|yF (ι:={p:Nat×List Nat // P3I labels st.l p}) (fun p=>[(2,.int .u32 org),(6,Jx b6),(7,.int .i64 ((j+1:Nat):Int)),(8,Jx b8),(11,.map (some b40)),(18,Jx b18),(20,Jx b20),(21,.slice (some ⟨b101,0,none⟩) S.l.length S.l.length),(89,.slice (some ⟨gA,0,none⟩) Ss.length cap),(90,.int .i64 (Ss.length:Nat)),(91,.int .i64 (j:Nat)),(103,.slice S.A S.l.length S.cap),(104,.int .i64 (S.l.length:Nat)),(105,.int .i64 (p.1.1:Nat))]) (fun p=>Jy w_0 [(b101,bk 22 (uS (p.1.2++List.replicate (S.l.length-p.1.1) 0))),(b20,svO S),(b18,bdO (.pointer q) (.slice BA out.length bc)),(b40,wH (lbC labels)),(b8,bk 25 [.int .i64 0]),(b6,bk 9 [.string ⟨#[]⟩])] [rwB BA bc out,rwT Ss (some ⟨gA,0,none⟩) cap] (StsP acc Ss (fun k=>w_0.heap.size≤k))) (fun p=>S.l.length-p.1.1) ⟨(0,[]),⟨Ad _,rfl,by rw[Kx];cases wP labels st.l<;>rfl,(fun _ h=>by cases h)⟩⟩ ?_ Jz (fun p=>?_);exact O14 rfl;obtain⟨⟨n,done⟩,hI⟩:=p;dsimp only at hI ⊢;obtain⟨hnle,hdn,hve,hdl⟩:=hI;dsimp only at hnle hdn hve hdl;refine zX<|zZ<|ZF M (yR M M)<|ZX<|zT M (fun h106=>?_) (fun h106=>?_)
   ·replace h106:=Ki h106;obtain⟨o,ho⟩:∃x,S.l[n]? = some x:=⟨S.l[n]'(by omega),Kn _⟩;have ho':st.l[n]? = some o:=by rw[← hSl];exact ho
    have hor:=hstk.ok o (Ko ho');have hlt3:n<S.l.length:=by omega
    rw[rep_succ hlt3];refine tK (φ:=∃ob off,S.A=some ⟨ob,off,none⟩) (fun w hw=>(((HpG.x hw).all j st S hst hS).1.x).at_ (by omega)) (fun ⟨ob,off,hSA⟩=>?_);have hve:yG (wP labels (o::st.l.drop (n+1))) (fun r=>.ok (done++r))=wP labels st.l:=by rw[← rG ho'];exact hve
    refine zR<|zV<|zB (ι:={x:Nat // x<4294967296∧∀r,wP labels (o::r)=yG (wP labels r) fun t=>.ok (x::t)}) (fun _=>[(2,.int .u32 org),(6,Jx b6),(7,.int .i64 ((j+1:Nat):Int)),(8,Jx b8),(11,.map (some b40)),(18,Jx b18),(20,Jx b20),(21,.slice (some ⟨b101,0,none⟩) S.l.length S.l.length),(89,.slice (some ⟨gA,0,none⟩) Ss.length cap),(90,.int .i64 (Ss.length:Nat)),(91,.int .i64 (j:Nat)),(103,.slice S.A S.l.length S.cap),(104,.int .i64 (S.l.length:Nat)),(105,.int .i64 (n:Nat))]) (fun x=>Jy w_0 [(b101,bk 22 (uS (done++x.1::List.replicate (S.l.length-(n+1)) 0))),(b20,svO S),(b18,bdO (.pointer q) (.slice BA out.length bc)),(b40,wH (lbC labels)),(b8,bk 25 [.int .i64 0]),(b6,bk 9 [.string ⟨#[]⟩])] [rwB BA bc out,rwT Ss (some ⟨gA,0,none⟩) cap] (StsP acc Ss (fun k=>w_0.heap.size≤k))) ?_ (fun x=>?_)
    ·refine zJ<|zX<|zZ<|Zm M M<|ZF M (Zi (j:=n) (es:=6) (g:=ob) (o:=off) (len:=S.l.length) (cap:=S.cap) (congrArg (fun z=>some (Value.slice z S.l.length S.cap)) hSA) M Tryz.underlying88 M (by omega) M) ?_;refine ZF M (xL (cs:=aoC o) M U100 M (by kernel_rfl) (fun w hw i v hv=>OpX.cell (((HpG.x hw).all j st S hst hS).1.x) (k:=n) (j:=i) hSA ho (by omega) hv)) ?_;refine Zt (z:=.agg #[.int .u8 0,.int .i64 0,.string ⟨#[]⟩,.int .u32 0,.int .i64 0,.int .i64 0]) (cs:=Jk) M fun b23=>Za M M<|ZR 0 M<|ZX<|Z17r 2 6 7 8 11 18 20 21 22 23 89 90 91 103 104 105 106 M<|Zm M M<|Zm M M<|ZF M (Y100x3 M) ?_;refine Zl 0 rfl U22 rfl<|ZF rfl (Zi (es:=1) rfl rfl U51 rfl (by first|omega|simp<;>omega) rfl) ?_;refine yP .none (wA 1 M M M M ?_ (by kernel_rfl)) (fun _=>?_);rw[u32C_ln,Kb,Kc,List.length_replicate];simp[Nat.blt_eq];omega;refine wT (H':=Jy w_0 [(b23,aoO o),(b101,bk 22 (uS (done++o.n::List.replicate (S.l.length-(n+1)) 0))),(b20,svO S),(b18,bdO (.pointer q) (.slice BA out.length bc)),(b40,wH (lbC labels)),(b8,bk 25 [.int .i64 0]),(b6,bk 9 [.string ⟨#[]⟩])] [rwB BA bc out,rwT Ss (some ⟨gA,0,none⟩) cap] (StsP acc Ss (fun k=>w_0.heap.size≤k))) (fun w h=>by rw[← set_u32 (y:=0) hdn];exact h) ?_;refine ZX<|Z17r 2 6 7 8 11 18 20 21 22 23 89 90 91 103 104 105 106 M<|ZF M (zY (off:=2) (sz:=0) M U100 (by kernel_rfl) M) ?_;refine Zl 0 M U9 M<|ZF M (uL M M U9)<|ZT<|zT M (fun h117=>?_) (fun h117=>?_)
     ·have h117:o.name≠[]:=by simpa using h117
      refine zX<|Z18r 2 6 7 8 11 18 20 21 22 23 89 90 91 103 104 105 106 117 M<|Zm M M<|ZF M (zY (off:=2) (sz:=0) M U100 (by kernel_rfl) M) ?_;refine Zl 0 M U9 M<|ZF M (yf_lookupS (key:=o.name) (z:=.int .u32 0) M M (fun w hw=>HpG.own hw _ (Ko (i:=4) M)) Tryz.underlying86 Tryz.underlying9 zero_u32) ?_;refine Zm M M<|ZF M (zC M M)<|ZF M (zC M M)<|Za M M<|Za M M<|ZX<|zX<|Z20r 2 6 7 8 11 18 20 21 22 23 24 25 89 90 91 103 104 105 106 117 M<|Zm M M<|ZF M (xO M)<|ZT<|zT M (fun h126=>?_) (fun h126=>?_)
      ·have hno:tO o.name labels=none:=by
        have:(wB o.name (lbC labels)).isSome=false:=by simpa using h126
        rw[lb_some] at this
        simpa using this
       rw[sW,Ah h117,hno] at hve;have hve:Except.error 14=wP labels st.l:=hve;rw[← hve] at hoe;have hoe:Except.error (j+1,14)=R1:=hoe;refine yJ (.cons (i:=2) M<|.cons (i:=6) M<|.cons (i:=7) M<|.cons (i:=8) M<|.cons (i:=11) M<|.cons (i:=18) M<|.cons (i:=20) M<|.cons (i:=21) M<|.cons (i:=22) M<|.cons (i:=23) M<|.cons (i:=24) M<|.cons (i:=25) M<|.cons (i:=89) M<|.cons (i:=90) M<|.cons (i:=91) M<|.cons (i:=103) M<|.cons (i:=104) M<|.cons (i:=105) M<|.cons (i:=106) M<|.cons (i:=117) M<|.cons (i:=126) M<|.nil) ?_;refine zZ<|ZF M (xA M U25)<|wL .none M<|zO<|yX<|zO<|zO<|yX<|zO<|yX<|zO<|zO<|yX<|zO<|wq_dieD (b6:=b6) (b8:=b8) M M M M hne (fun w hw=>⟨⟨_,HpG.blk hw (k:=6) rfl⟩,⟨_,HpG.blk hw (k:=5) rfl⟩⟩) (fun w w' hw hk=>?_);exact⟨nM (Kk hw) hk (HpG.mineL (j:=6) hw M id) (HpG.mineL (j:=5) hw M id),by rw[← hr,asmL_err2 hk12 hln hpas (hR1.symm.trans hoe.symm)]⟩
      skip
      obtain⟨xv,hxv⟩:∃v,tO o.name labels=some v:=by
       have:(wB o.name (lbC labels)).isSome=true:=by simpa using h126
       rw[lb_some] at this;exact Option.isSome_iff_exists.1 this
      refine zR<|zV<|yJ (.cons (i:=2) M<|.cons (i:=6) M<|.cons (i:=7) M<|.cons (i:=8) M<|.cons (i:=11) M<|.cons (i:=18) M<|.cons (i:=20) M<|.cons (i:=21) M<|.cons (i:=22) M<|.cons (i:=23) M<|.cons (i:=24) M<|.cons (i:=25) M<|.cons (i:=89) M<|.cons (i:=90) M<|.cons (i:=91) M<|.cons (i:=103) M<|.cons (i:=104) M<|.cons (i:=105) M<|.cons (i:=106) M<|.cons (i:=117) M<|.cons (i:=126) M<|.nil) ?_;refine zZ<|Zm rfl rfl<|Zm rfl rfl<|Zm rfl rfl<|ZF rfl (Zi (es:=1) rfl rfl U51 rfl (by first|omega|simp<;>omega) rfl) ?_;refine yP .none (wA (v:=.int .u32 (xv:Nat)) 1 M (by rw[lb_look,hxv];rfl) M M ?_ (by kernel_rfl)) (fun _=>?_);rw[u32C_ln,Kb,Kc,List.length_replicate];simp[Nat.blt_eq];omega;refine zS<|zH<|zU (ι:={x:Nat // x<4294967296∧∀r,wP labels (o::r)=yG (wP labels r) fun t=>.ok (x::t)}) ⟨xv,labA_lt hlabs hxv,fun r=>by rw[sW,Ah h117,hxv]⟩ (O14 M) (fun w h=>by rw[← set_u32 (y:=o.n) hdn];exact Hp.drop h (Km _ _) (Kl _))
     skip;have h117:o.name=[]:=by simpa using h117
     refine zR<|zH<|zU (ι:={x:Nat // x<4294967296∧∀r,wP labels (o::r)=yG (wP labels r) fun t=>.ok (x::t)}) ⟨o.n,hor.n,fun r=>by rw[sW,Ag (fun h=>h h117)]⟩ (O14 M) (fun w h=>Hp.drop h (Km _ _) (Kl _))
    obtain⟨x,hxl,hxe⟩:=x;dsimp only;rw[hxe,andR_step] at hve;refine zZ<|ZF M (zF M M (show IntKind.i64.wrap ((n:Int)+1)=((n+1:Nat):Int) from i64_in ((n+1:Nat):Int) (by omega) (by omega)))<|Zm M M<|zS<|yV (ι:={p:Nat×List Nat // P3I labels st.l p}) ⟨(n+1,done++[x]),⟨by show n+1≤_;rw[← hSl];omega,by simp[hdn],hve,fun y hy=>(Aq.1 hy).elim (hdl y) fun h=>by rw[Ar.1 h];exact hxl⟩⟩ (by show S.l.length-(n+1)<S.l.length-n;omega) (O14 M) (fun w h=>?_);rw[List.append_cons] at h;exact h
   replace h106:=Kj h106;have hnl:n=S.l.length:=by omega
   subst hnl
   have hve:wP labels st.l=.ok done:=by
    rw[hSl,List.drop_length] at hve;rw[← hve];show Except.ok (done++[])=_;rw[Al]
   rw[Nat.sub_self,List.replicate_zero,Al];rw[hve] at hoe;have hoe:stepO org labels (acc.drop (j+1)) j out (codeS org st done)=R1:=hoe;refine yM<|zP<|zP<|yN<|zV<|zX<|zZ<|ZF M (Y91x4 M) ?_;refine Zl 1 M U89 M<|ZF M (yf_neNil M M Tryz.underlying89)<|ZT<|zT M (fun h135=>?_) (fun h135=>?_)
   ·refine wc_exX (ι:={i:AFm×Nat×FuncId×List Value×Value // st.form=some i.1∧S.fp=some ⟨i.2.1,0,none⟩∧goes Tryz.prog i.2.2.1=true}) (T:=fun i w=>FmP i.1.1 i.1.2.1 (i.1.2.2.2.2,fcV i.1.2.2.1 i.1.2.2.2.1) (fun k=>w_0.heap.size≤k) w) (fun w hw=>by
     have h1:=((HpG.x hw).all j st S hst hS).1.f;unfold FpP at h1
     split at h1
     rw[h1] at h135;cases h135
     ·next f hf =>
      obtain⟨b,⟨v1,v2⟩,e1,e2⟩:=h1;obtain⟨g1,c1,e3,e4⟩:=(form_fn e2.2).2;dsimp only at e3;subst e3
      exact⟨⟨(f,b,g1,c1,v1),hf,e1,e4⟩,e2⟩) (fun ⟨⟨fm,fb,g1,c1,vf⟩,hfm,hfp,hgo⟩=>?_)
    dsimp only;dsimp only at hfm hfp hgo;have hstf:=hstk.f;rw[hfm] at hstf;obtain⟨hfit,hfsz,hfz0⟩:=hstf
    have hfz:fm=.zero→done.getD 0 0≤65536:=fun e=>by
     obtain⟨o,ho1,ho2⟩:=hfz0 e;have h1:=hve;rw[ho1,sW,Ag (fun h=>h ho2)] at h1;have h1:Except.ok (ε:=Nat) [o.n]=.ok done:=h1;cases h1;subst e;have h2:st.size=o.n:=by rw[hfsz,ho1];rfl
     show o.n≤65536;omega
    have hcs:codeS org st done=sT fm st.shape st.l done ((org+st.at_)%4294967296):=by unfold codeS;rw[hfm]
    rw[hcs] at hoe;refine Z16 2 6 7 8 11 18 20 21 89 90 91 103 104 105 106 135 M<|wc_still 12 (by kernel_rfl) (by kernel_rfl) (fun _ h=>⟨HpG.drew h.1,FmP.lies.foot (fun _ _=>rfl) h.2⟩)<|yO .none M (Y91x4 M) ?_;refine yO .none M (zL (v:=.pointer (some ⟨fb,0,none⟩)) M U89 M (fun w hw=>by rw[← hfp];exact HpG.cell hw.1 (k:=1) M M)) ?_;refine yO .none M (xV M)<|yO .none M (zY (off:=1) (sz:=0) M U108 (by kernel_rfl) M) ?_;refine yO .none M (zL (v:=fcV g1 c1) M Tryz.underlying106 M (fun w hw=>Blk.cell hw.2.1.2 M))<|yO .none M (xL (cs:=svC S) M U91 M (by kernel_rfl) (fun w hw=>HpG.range hw.1 (k:=1) M (fun i v hv=>by rw[Ac];exact hv))) ?_;refine yO .none M (yW M)<|yO .none M (yW M)<|yO .none M (zY (off:=5) (sz:=0) M U91 (by kernel_rfl) M) ?_;refine yO .none M (zL (v:=.int .i64 S.a) M U3 M (fun w hw=>HpG.cell hw.1 (k:=1) M M)) ?_;refine yO .none M (Zc M U22 (show IntKind.u32.wrap S.a=((st.at_:Nat):Int) by rw[hSa];exact qV _ (by omega) (by omega))) ?_;refine yO .none M (zF M M (u32_sum org st.at_))<|wt_tail ?_;rcases hca:sT fm st.shape st.l done ((org+st.at_)%4294967296) with e9|c
    ·rw[hca] at hoe;have hoe:Except.error (j+1,e9)=R1:=hoe
     refine wl_callVP .none (us:=[]) (vs:=[.agg (svC S).toArray,.slice (some ⟨b101,0,none⟩) S.l.length S.l.length,.int .u32 ((org+st.at_)%4294967296:Nat)]) (cs:=c1) (ch:=pan (qK e9)) (H':=Jy w_0 [(b101,bk 22 (uS done)),(b20,svO S),(b18,bdO (.pointer q) (.slice BA out.length bc)),(b40,wH (lbC labels)),(b8,bk 25 [.int .i64 0]),(b6,bk 9 [.string ⟨#[]⟩])] [rwB BA bc out,rwT Ss (some ⟨gA,0,none⟩) cap] (StsP acc Ss (fun k=>w_0.heap.size≤k))) hgo M M (fun w hw=>by
      have h1:=(form_code (v:=done) (VA:=some ⟨b101,0,none⟩) (vc:=S.l.length) (F':=fun k=>w_0.heap.size≤k) (F2:=fun k=>w_0.heap.size≤k) (a:=(org+st.at_)%4294967296) hw.2.2 (((HpG.x hw.1).all j st S hst hS).1.x) ⟨HpG.rdF (j:=0) hw.1 rfl (HpG.mineL (j:=0) hw.1 rfl id),hdl⟩ (by rw[hSl];exact hfit) (by rw[hSs,hSl];exact hstk.sh) (by rw[hSl];exact hstk.ok) (Nat.mod_lt _ (by decide)) hdn (by rw[hdn,hSl];omega) hfz);rw[hdn,hSs,hSl,hca] at h1;rw[← hSl] at h1
      exact h1.mono fun e w' ⟨h1,h2⟩=>⟨h2,HpG.onE hw.1 h1⟩) ?_
     refine yX<|zO<|zO<|yX<|zO<|wq_dieD (b6:=b6) (b8:=b8) M M M M hne (fun w hw=>⟨⟨_,HpG.blk hw (k:=5) rfl⟩,⟨_,HpG.blk hw (k:=4) rfl⟩⟩) (fun w w' hw hk=>?_);exact⟨nM (Kk hw) hk (HpG.mineL (j:=5) hw M id) (HpG.mineL (j:=4) hw M id),by rw[← hr,asmL_err2 hk12 hln hpas (hR1.symm.trans hoe.symm)]⟩
    skip;rw[hca] at hoe;have hoe:outF org labels (acc.drop (j+1)) (j+1) (out++c)=R1:=hoe;have hcln:=codeA_ln hca (by rw[hdn,hSl];exact hlln) hfz
    refine xY (ι:=Unit) (val:=fun _=>.string ⟨c.toArray⟩) (H':=fun _=>Jy w_0 [(b101,bk 22 (uS done)),(b20,svO S),(b18,bdO (.pointer q) (.slice BA out.length bc)),(b40,wH (lbC labels)),(b8,bk 25 [.int .i64 0]),(b6,bk 9 [.string ⟨#[]⟩])] [rwB BA bc out,rwT Ss (some ⟨gA,0,none⟩) cap] (StsP acc Ss (fun k=>w_0.heap.size≤k))) .none M  (pN (us:=[]) (vs:=[.agg (svC S).toArray,.slice (some ⟨b101,0,none⟩) S.l.length S.l.length,.int .u32 ((org+st.at_)%4294967296:Nat)]) (cs:=c1) hgo M M (fun w hw=>by
     have h1:=(form_code (v:=done) (VA:=some ⟨b101,0,none⟩) (vc:=S.l.length) (F':=fun k=>w_0.heap.size≤k) (F2:=fun k=>w_0.heap.size≤k) (a:=(org+st.at_)%4294967296) hw.2.2 (((HpG.x hw.1).all j st S hst hS).1.x) ⟨HpG.rdF (j:=0) hw.1 rfl (HpG.mineL (j:=0) hw.1 rfl id),hdl⟩ (by rw[hSl];exact hfit) (by rw[hSs,hSl];exact hstk.sh) (by rw[hSl];exact hstk.ok) (Nat.mod_lt _ (by decide)) hdn (by rw[hdn,hSl];omega) hfz);rw[hdn,hSs,hSl,hca] at h1;rw[← hSl] at h1
     exact h1.mono fun e w' ⟨h1,h2⟩=>⟨_,h2,(),rfl,HpG.onE hw.1 h1⟩)) (fun _=>?_)
    refine xY (ι:={i:Option Addr×Nat // out++c=[]→i.1=none}) (val:=fun _=>.tuple #[.int .i64 (c.length:Nat),.nilIface]) (H':=fun i=>Jy w_0 [(b101,u32O done),(b20,svO S),(b18,bdO (Jx b18) (.slice i.1.1 (out++c).length i.1.2)),(b40,wH (lbC labels)),(b8,bk 25 [.int .i64 0]),(b6,bk 9 [.string ⟨#[]⟩])] [rwB i.1.1 i.1.2 (out++c),rwT Ss (some ⟨gA,0,none⟩) cap] (StsP acc Ss (fun k=>w_0.heap.size≤k))) .none M  (rF (by kernel_rfl) M (fun w hw=>(write_any 2 0 c hq M M hBA (by omega) w hw).mono fun e w' ⟨e1,A',c',e2,e3⟩=>⟨_,e1,⟨(A',c'),e2⟩,rfl,e3⟩)) (fun ⟨⟨BA2,bc2⟩,hBA2⟩=>?_);refine zS<|zH<|zU (ι:={p:P2 // P2I org labels acc R1 b18 p∧p.j=j+1}) ⟨⟨j+1,out++c,some ⟨b18,0,none⟩,BA2,bc2,0⟩,⟨by show j+1≤_;omega,hoe,.inr rfl,hBA2,by show (out++c).length≤8000000*(j+1);rw[Kb];omega⟩,rfl⟩ (O9 M) (fun w h=>Hp.drop h (.cons _ (.cons _ (Kl _))) (Kl _))
   skip;have hnf:st.form=none:=hSf (by simpa using h135);have hcs:codeS org st done=.ok []:=by unfold codeS;rw[hnf]
   rw[hcs] at hoe;have hoe:outF org labels (acc.drop (j+1)) (j+1) (out++[])=R1:=hoe;rw[Al] at hoe;refine zR<|zH<|zU (ι:={p:P2 // P2I org labels acc R1 b18 p∧p.j=j+1}) ⟨⟨j+1,out,q,BA,bc,0⟩,⟨by show j+1≤_;omega,hoe,hq,hBA,by show out.length≤8000000*(j+1);omega⟩,rfl⟩ (O9 M) (fun w h=>Hp.drop h (.cons _ (.cons _ (Kl _))) (Kl _))
  obtain⟨p2,hp2,hj2⟩:=p;dsimp only;refine zZ<|ZF M (zF M M (show IntKind.i64.wrap ((j:Int)+1)=((j+1:Nat):Int) from i64_in ((j+1:Nat):Int) (by omega) (by omega)))<|Zm M M<|zS<|yV (ι:={p:P2 // P2I org labels acc R1 b18 p}) ⟨{ p2 with line:=((j+1:Nat):Int) },⟨hp2.le,hp2.e,hp2.q,hp2.a,hp2.n⟩⟩ (by show acc.length-p2.j<acc.length-j;omega) (.cons M<|.cons M<|.cons M<|.cons M<|.cons M<|.cons M<|.cons M<|.cons M<|.consE M (by rw[← hj2])<|.nil) Jz
 replace h92:=Kj h92;obtain rfl:j=acc.length:=by omega
 have hoe:R1=.ok out:=by rw[List.drop_length] at hoe;exact hoe.symm
 refine yM<|zP<|zP<|yN<|zV<|zX<|zG (H':=Jy w_0 [(b18,bdO (.pointer q) (.slice BA out.length bc)),(b40,wH (lbC labels)),(b8,bk 25 [.int .i64 0]),(b6,bk 9 [.string ⟨#[]⟩])] [rwB BA bc out] (StsP acc Ss (fun k=>w_0.heap.size≤k))) (fun w h=>Hp.drop h (Kl _) (.cons_cons _ (.cons _ .slnil)))<|zZ<|xY (ι:=Unit) (val:=fun _=>.string ⟨out.toArray⟩) (H':=fun _=>Jy w_0 [(b18,bdO (.pointer q) (.slice BA out.length bc)),(b40,wH (lbC labels)),(b8,bk 25 [.int .i64 0]),(b6,bk 9 [.string ⟨#[]⟩])] [] (StsP acc Ss (fun k=>w_0.heap.size≤k))) .none M  (rF (by kernel_rfl) M (fun w hw=>(str_any 0 hBA M w hw).mono fun e w' ⟨e1,e2⟩=>⟨_,e1,(),rfl,e2⟩)) (fun _=>?_);refine ZS 3 M<|Za M M<|ZS 2 M<|ZT<|zK<|wq_endD (b6:=b6) (b8:=b8) M M M M (fun w hw=>⟨HpG.blk hw (k:=3) rfl,HpG.blk hw (k:=2) rfl⟩) (fun w hw=>?_);exact⟨rZ (Kk hw),by rw[← hr,asmL_ok hk12 hln hpas (hR1.symm.trans hoe)];rfl⟩
end Go.Proofs.YtkaepknpplhgkaaGreatDoor
