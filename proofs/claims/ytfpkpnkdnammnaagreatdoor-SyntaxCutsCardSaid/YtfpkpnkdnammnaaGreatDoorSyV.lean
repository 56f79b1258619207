import Derived.Test.YtfpkpnkdnammnaaGreatDoorMgn
namespace Go.Proofs.YtfpkpnkdnammnaaGreatDoor
open Go.RowKit
def PgK (F:Nat→Prop) (w:World) (l:List Fn) (A:Option Addr) (cap:Nat):Prop:=Cp l.length cap∧∃cs,RdF F A cs w∧FnsV F w l cs
theorem PgK.lies {l:List Fn}{A:Option Addr}{cap:Nat}:Lies fun F w=>PgK F w l A cap :=
 ⟨fun hk ⟨h0,cs,h1,h2⟩=>⟨h0,cs,RdF.lies.foot hk h1,FnsV.lies.foot hk h2⟩,fun ⟨h0,cs,h1,h2⟩=>⟨h0,cs,RdF.lies.lt h1,FnsV.lies.lt h2⟩,fun hF ⟨h0,cs,h1,h2⟩=>⟨h0,cs,RdF.lies.mono hF h1,FnsV.lies.mono hF h2⟩⟩
section
variable {ops:Array Oper}{Q:Exit→Act→World→Prop}{n:Nat}{m:List (Nat×Value)}{ty:TypeId}{G B:Nat→Prop}{w0:World}{L:List (Nat×Obj)}{R:List Rw}{X:World→Prop}{rest:List Oper}{d:Nat}{pos:String}{af:Array Edge}{gd:Option (Nat×Bool)}{f:FuncId}{args:List Operand}{ats:Array TypeId}{vs:List Value}
theorem wd_fn {J:World→Prop}{σ:List Nat}(E:PE) (s:PS) (x:Fn) (s':PS) (bp:Nat) (k:Nat) (hB:∀k,B k→k<w0.heap.size) (hX:∀w,X w→TkX E w) (hJ:∀w w',HpG G B w0 L R X w→J w→Keep (fun j=>j=bp) w w'→J w') (hC:∀w,w.heap[bp]? = some (pO E s)→TkX E w→Calls Tryz.prog f vs.toArray w (FnPost E bp w x s')) (hg:Gd ops m gd) (hd:Nat.blt d n=true) (hf:goes Tryz.prog f=true) (ha:evl m args=some vs) (hk:L[k]? = some (bp,pO E s))
  (h:∀a F,(∀k,F k→w0.heap.size≤k)→WD Tryz.prog ops J Q σ (fun j=>F j∨G j) n ((d,.agg (rG x a).toArray)::m) (HpG (fun j=>F j∨G j) B w0 (L.set k (bp,pO E s')) R (fun u=>fnsK F u x a∧X u))) :
  WDo Tryz.prog ops J Q ⟨some d,.call { callee:=.value (.func f),args:=args.toArray,argTypes:=ats },ty,pos,af,gd⟩ σ G n m (HpG G B w0 L R X) :=
 wd_callT (ι:=FnA) (C:=fun _=>True) (val:=fun a=>.agg (rG x a).toArray) (obi:=fun _=>pO E s') (TT:=fun a F u=>fnsK F u x a) hg hd k hf ha hk hB (fun _=>fnsK.lies) hJ
  (fun w h1 hw=>(hC w h1 (hX w hw.x)).mono fun _ _ ⟨a,e1,e2,e3,e4⟩=>⟨a,trivial,e1,e2,e3,e4⟩) fun a F _ hF=>h a F hF
end
structure PrJ where
 k:Nat
 acc:List Fn
 s:PS
 A:Option Addr
 cap:Nat
 xs:List Value
 F:Nat→Prop
structure PrOk (E:PE) (f:Nat) (l:List Fn) (s':PS) (n0:Nat) (j:PrJ):Prop where
 run:rL E.tk (EE E f) f j.k j.acc j.s=some (l,s')
 k:j.acc.length+j.k≤f
 at_:j.s.at_≤E.m
 cap:j.acc.length≤j.cap
 F:∀k,j.F k→n0≤k
section
variable {tk:Nat→Tok}{EP:PS→Option (Ex×PS)}{f k:Nat}{l:List Fn}{s:PS}{p:List Fn×PS}
theorem prgF_end (h:rL tk EP f (k+1) l s=some p) (hc:¬(s.err=0∧(tk s.at_).kind≠0)):p=(l,s):=by
 unfold rL at h;rw[Ko hc] at h;cases h;rfl
theorem prgF_go (h:rL tk EP f (k+1) l s=some p) (hc:s.err=0∧(tk s.at_).kind≠0):∃x s1,fnS tk EP f s=some (x,s1)∧rL tk EP f k (l++[x]) s1=some p:=by
 unfold rL at h;rw[Kp hc] at h;exact yL h
end
theorem tkx_of {l:Bs}{g c m:Nat}(hm:(uS l).length=m+1) {F:Nat→Prop}{w:World}(h:RdF F (some ⟨g,0,none⟩) (toksC (uS l)) w):TkX ⟨vK (uS l),g,c,m⟩ w:=fun j hj i v hv=>by
 have hj':j≤m:=hj;have h2:=toksC_at (l:=uS l) (i:=j) (by omega) hv;exact RdF.part h (Jm.1 h2).1 (by omega) h2
theorem runP_some {tk:Nat→Tok}{EP:PS→Option (Ex×PS)}{f:Nat}{r:List Fn×Nat×Nat}(h:runP tk EP f=some r):∃l t,rL tk EP f f [] ⟨0,0,0⟩=some (l,t)∧r=if t.err≠0 then ([],t.off,t.err) else (l,0,0):=by
 unfold runP at h
 split at h
 ·rename_i l t hp;cases h;exact⟨l,t,hp,rfl⟩
 ·cases h
set_option maxRecDepth 100000 in
theorem qG (l:Bs) (hl:l.length≤1000000000000) (f:Nat) (hf:f≤100000000) (r:List Fn×Nat×Nat) (hr:qT f l=some r) (w_0:World) (hv:pX w_0):Calls Tryz.prog 25 #[.string ⟨l.toArray⟩] w_0 fun e w'=>∃A cap,e=.returned (.tuple #[.agg #[.slice A r.1.length cap],.int .i64 r.2.1,.int .i64 r.2.2])∧Ext w_0 w'∧PgK (fun k=>w_0.heap.size≤k) w' r.1 A cap:=by
 unfold qT at hr;obtain⟨m,hm⟩:∃m,(uS l).length=m+1:=⟨(uS l).length-1,by have:=tokL_pos l;omega⟩;refine yV (args:=[.string ⟨l.toArray⟩]) Tryz.func25 V 47 V (Jn V)<|Z1 0 V<|zD (H':=Hp (fun _=>False) w_0 [] [] pX) (fun u hu=>?_) ?_
 ·subst hu;exact Hp.weakX (Hp.startT pX.lies (F:=fun _=>True) ⟨trivial,hv.lt,hv⟩) fun u h=>h.2.2
 refine zY<|zX<|zC .none V (yK (z:=Jb) (cs:=Jh) (by kernel_rfl) V) (fun b2=>?_);refine Za V V<|Za V V<|ZX<|zY<|zX<|Zm V V<|ZF V (vL V U9)<|ZF V (wO V V)<|ZT<|zT V (fun h9=>?_) (fun h9=>?_)
 ·replace h9:=Jo h9;rw[Kp (by omega)] at hr;cases hr;refine zY<|Z5r 0 2 3 4 9 V V V V V<|ZF V (yQ [.slice none 0 0] [(0,1)] V (by kernel_rfl) (by kernel_rfl) V) ?_;refine ZR 0 V V V V V (by kernel_rfl) ?_;refine Za V V<|Za V V<|ZT<|zK<|zV<|wq_retC3 V V V V 0 V Tryz.underlying32 V (by kernel_rfl) (fun w hw=>?_);exact⟨none,0,rfl,(Jq hw).ext,uV,[],RdF.nil,.nil⟩
 ·replace h9:=Jp h9;rw[Ko (by omega)] at hr;obtain⟨fs,t,hp,hre⟩:=runP_some hr;refine zG<|zQ<|zY<|Z5r 0 2 3 4 9 V V V V V<|Zm V V<|sU (ι:=Nat×Nat) (C:=fun i=>m+1≤i.2) (val:=fun i=>.slice (some ⟨i.1,0,none⟩) (m+1) i.2) (TT:=fun i F u=>RdF F (some ⟨i.1,0,none⟩) (toksC (uS l)) u) .none V  (by kernel_rfl) V (fun _ h=>h.elim) (fun _=>RdF.lies) (fun w hw=>(tokens_any l (by omega) w (HpG.x hw)).mono fun e w' ⟨g,cap,e1,e2,e3,e4⟩=>⟨(g,cap),by rw[← hm];exact e2,by rw[← hm];exact e1,e3,e4⟩) (fun i FT hcT hFT=>?_);obtain⟨g,c⟩:=i;dsimp only at hcT ⊢;obtain⟨E,hEe⟩:∃E:PE,E=⟨vK (uS l),g,c,m⟩:=⟨_,rfl⟩;have hE:E.Ok:=by subst hEe;exact⟨.inl (by have:=tokL_end l;rw[hm] at this;exact this),hcT⟩
  have hp:rL E.tk (EE E f) f f [] ⟨0,0,0⟩=some (fs,t):=by subst hEe;exact hp
  have hfe:=ex_all hE f hf;have hst:=st_all hE hfe f hf;refine ZF V (yQ [.slice none 0 0,.int .i64 0,.int .i64 0] [(0,1),(1,1),(2,1)] V (by kernel_rfl) (by kernel_rfl) V) ?_;refine zC .none V (vY V V) (fun b14=>?_);refine Za V V<|ZX<|Z6r 0 2 3 4 5 9 V V V V V V<|zC .none V (yK (z:=Jb) (cs:=Jh) (by kernel_rfl) V) (fun b6=>?_);refine ZX<|yY<|xV (ι:={j:PrJ // PrOk E f fs t w_0.heap.size j}) (fun _=>[(0,.string ⟨l.toArray⟩),(2,.pointer (some ⟨b2,0,none⟩)),(5,.pointer (some ⟨b14,0,none⟩)),(6,.pointer (some ⟨b6,0,none⟩))]) (fun j=>Hp (fun _=>False) w_0 [(b6,bk 32 [.slice j.1.A j.1.acc.length j.1.cap]),(b14,pO E j.1.s),(b2,bk 32 [.slice none 0 0])] [⟨.slice j.1.A j.1.acc.length j.1.cap,62,3,j.1.acc.length,j.1.xs⟩] (fun u=>FnsV j.1.F u j.1.acc j.1.xs∧TkX E u)) (fun j=>j.1.k) ⟨⟨f,[],⟨0,0,0⟩,none,0,[],fun _=>False⟩,⟨hp,by simp,Kl _,Km _,fun _ h=>h.elim⟩⟩ ?_ ?_ (fun j=>?_)
  ·exact .cons V<|.cons V<|.cons V<|.cons V<|.nil
  ·subst hEe;exact fun w h=>Hp.nil (Hp.weakX h fun u hu=>⟨.nil,tkx_of hm hu.1⟩) _ _
  obtain⟨⟨k,acc,s,A,cap,xs,F⟩,⟨hrun,hk,hs,hcap,hF⟩⟩:=j;dsimp only at hrun hk hs hcap hF ⊢
  cases k with
  | zero=>cases hrun
  | succ k=>?_
  refine zY<|zY<|zX<|Zm V V<|wl_ok E s b14 1 .none V  V V<|Zm V V<|zH 17 V (fun h53=>?_) (fun h53=>?_)
  ·refine ZG V V V (zO V)<|ZG V V V (yR V)<|ZG V V V (Y90x0 V) ?_;refine ZG rfl rfl rfl (zW 1 rfl rfl rfl U87 rfl)<|ZG rfl rfl rfl (zJ (j:=0) (es:=4) rfl rfl U87 (by kernel_rfl) rfl (by first|decide|omega|(simp;done)|(simp;omega)) rfl) ?_;refine ZG V V V (Y92x0 V) ?_;refine ZG V V V (yO (v:=.int .i64 (E.tk s.at_).kind) V U3 V (fun w h=>tkAt (HpG.x h).2 hs 0 V (by omega))) ?_;refine ZG V V V (sW V V)<|ZF V (zP V V)<|ZT<|zT V (fun h26=>?_) (fun h26=>?_)
   ·replace h26:=tQ h26;obtain⟨x,s1,hx1,hx2⟩:=prgF_go hrun ⟨by simpa using h53,by omega⟩;have hs1:=fnS_g hE.kind (EE_g hE f) f s hs x s1 hx1;refine zG<|zQ<|yY<|Z5 0 2 5 6 26 V V V V V<|wR 5 [0,1,2,3,4] (Blk b6 _) (by kernel_rfl) (by kernel_rfl) Blk.stab (fun w h=>HpG.blk h (k:=0) V) (fun n0 hn0=>?_);refine Zd V V V (Y32x0 V) ?_;refine Zd V V V (uH V V U30 V)<|Zd V V V (zO V)<|xF V<|wd_fn E s x s1 b14 1 (fun _ h=>h.elim) (fun _ h=>h.2) (fun w w' h1 h2 hK=>h2.keep hK (HpG.ne h1 (i:=0) (j:=1) V V V)) (fun w h1 h2=>function_any hE hf hst s x s1 hx1 hs b14 w h1 h2) .none V  (by kernel_rfl) V V (fun a F2 hF2=>?_);refine xF V<|tA ?_ .none V (fun k hk=>.inr (Jx hk hn0)) (xR (z:=.agg #[.string ⟨#[]⟩,.slice none 0 0,.slice none 0 0]) V V U30 (by kernel_rfl) (by kernel_rfl) V V) (fun b31 hb31=>?_)
    ·rfl
    refine wL ?_;simp only[Jz,Ke];refine uO (z:=.agg #[.string ⟨#[]⟩,.slice none 0 0,.slice none 0 0]) (bytes:=64) 0 0 .none V V V V V U30 (by kernel_rfl) V V V V V (by omega) (by omega) (fun a32 c32 h32=>?_);refine ZF V (Y32x0 V) ?_;refine ZS 1 V V V V V (by kernel_rfl) ?_;refine zU<|zM<|yC (ι:={j:PrJ // PrOk E f fs t w_0.heap.size j}) ⟨⟨k,acc++[x],s1,some ⟨a32,0,none⟩,c32,xs++rG x a,fun k=>F k∨F2 k⟩,⟨hx2,by rw[Ji];simp;omega,hs1.2.1,by rw[Ji];exact h32,fun k hk=>hk.elim (hF k) (hF2 k)⟩⟩ (by show k<k+1;omega) (O4 V V V V) (fun w h=>?_);dsimp only;rw[Ji];exact Hp.weakX (Hp.drop h (Js _ _) (Jr _)) fun u hu=>⟨FnsV.append (FnsV.lies.mono (fun _ h=>.inl h) hu.2.1) (FnsV.lies.mono (fun _ h=>.inr h) hu.1.one),hu.2.2⟩
   ·replace h26:=rO h26;obtain⟨rfl,rfl⟩:fs=acc∧t=s:=by have:=prgF_end hrun (fun h=>by omega);cases this;exact⟨rfl,rfl⟩
    refine xY<|zN<|zN<|xZ<|zQ<|zY<|zY<|Z5r 0 2 5 6 26 V V V V V<|Zm V V<|wl_ok E t b14 1 .none V  V V<|ZF V (xJ V)<|ZT<|zT V (fun h36=>?_) (fun h36=>?_)
    ·have h36:t.err≠0:=by simpa using h36
     rw[Kp h36] at hre;subst hre;refine zY<|Z6 0 2 5 6 26 36 V V V V V V<|wc_drawN [0,1,2,3,4,5,6,7,8,9,10,11] (Blk b14 (pO E t)) (by kernel_rfl) (by kernel_rfl) Blk.stab (fun w h=>HpG.blk h (k:=1) V) (fun n0 hn0=>?_);refine Zd V V V (yQ [.slice none 0 0] [(0,1)] V (by kernel_rfl) (by kernel_rfl) V) ?_;refine Zd V V V (zO V)<|Zd V V V (yR V)<|Zd V V V (zZ (off:=2) (sz:=0) V Tryz.underlying90 (by kernel_rfl) V) ?_;refine Zd V V V (uH V V U3 V)<|Zd V V V (zO V)<|Zd V V V (yR V)<|Zd V V V (Y90x1 V) ?_;refine Zd V V V (uH V V U41 V)<|xF V<|wd_storeRow 2 .none V V V V V (by kernel_rfl) (fun w w' h1 h2 hK=>h2.keep hK (HpG.ne h1 (i:=1) (j:=2) V V V)) ?_;refine Zd V V V (tW V)<|Zd V V V (tW V)<|wd_endH<|zQ<|zK<|zV<|wq_retC3 V V V V 2 V Tryz.underlying32 V (by kernel_rfl) (fun w hw=>?_);exact⟨none,0,rfl,(Jq hw).ext,uV,[],RdF.nil,.nil⟩
    ·have h36:t.err=0:=by simpa using h36
     rw[Ko (by omega)] at hre;subst hre;refine zG<|zQ<|zY<|Z6r 0 2 5 6 26 36 V V V V V V<|ZF V (yX 0 V V U32 V (by kernel_rfl)) ?_;refine ZR 2 V V V V V (by kernel_rfl) ?_;refine Za V V<|Za V V<|ZT<|zK<|wq_retC3 V V V V 2 V Tryz.underlying32 V (by kernel_rfl) (fun w hw=>?_);exact⟨A,cap,rfl,(Jq hw).ext,HpG.rowCp (j:=0) hw rfl,_,HpG.rowF (j:=0) hw rfl,FnsV.lies.mono hF (HpG.x hw).1⟩
  ·obtain⟨rfl,rfl⟩:fs=acc∧t=s:=by have:=prgF_end hrun (fun h=>by simp_all);cases this;exact⟨rfl,rfl⟩
   refine ZP V<|ZP V<|ZP V<|ZP V<|ZP V<|ZP V<|ZP V<|ZP V<|ZF V (zL V V)<|ZT<|vU V<|xY<|zN<|zN<|xZ<|zQ<|zY<|zY<|Z5r 0 2 5 6 26 V V V V V<|Zm V V<|wl_ok E t b14 1 .none V  V V<|ZF V (xJ V)<|ZT<|zT V (fun h36=>?_) (fun h36=>?_)
   ·have h36:t.err≠0:=by simpa using h36
    rw[Kp h36] at hre;subst hre;refine zY<|Z6 0 2 5 6 26 36 V V V V V V<|wc_drawN [0,1,2,3,4,5,6,7,8,9,10,11] (Blk b14 (pO E t)) (by kernel_rfl) (by kernel_rfl) Blk.stab (fun w h=>HpG.blk h (k:=1) V) (fun n0 hn0=>?_);refine Zd V V V (yQ [.slice none 0 0] [(0,1)] V (by kernel_rfl) (by kernel_rfl) V) ?_;refine Zd V V V (zO V)<|Zd V V V (yR V)<|Zd V V V (zZ (off:=2) (sz:=0) V Tryz.underlying90 (by kernel_rfl) V) ?_;refine Zd V V V (uH V V U3 V)<|Zd V V V (zO V)<|Zd V V V (yR V)<|Zd V V V (Y90x1 V) ?_;refine Zd V V V (uH V V U41 V)<|xF V<|wd_storeRow 2 .none V V V V V (by kernel_rfl) (fun w w' h1 h2 hK=>h2.keep hK (HpG.ne h1 (i:=1) (j:=2) V V V)) ?_;refine Zd V V V (tW V)<|Zd V V V (tW V)<|wd_endH<|zQ<|zK<|zV<|wq_retC3 V V V V 2 V Tryz.underlying32 V (by kernel_rfl) (fun w hw=>?_);exact⟨none,0,rfl,(Jq hw).ext,uV,[],RdF.nil,.nil⟩
   ·have h36:t.err=0:=by simpa using h36
    rw[Ko (by omega)] at hre;subst hre;refine zG<|zQ<|zY<|Z6r 0 2 5 6 26 36 V V V V V V<|ZF V (yX 0 V V U32 V (by kernel_rfl)) ?_;refine ZR 2 V V V V V (by kernel_rfl) ?_;refine Za V V<|Za V V<|ZT<|zK<|wq_retC3 V V V V 2 V Tryz.underlying32 V (by kernel_rfl) (fun w hw=>?_);exact⟨A,cap,rfl,(Jq hw).ext,HpG.rowCp (j:=0) hw rfl,_,HpG.rowF (j:=0) hw rfl,FnsV.lies.mono hF (HpG.x hw).1⟩
end Go.Proofs.YtfpkpnkdnammnaaGreatDoor
