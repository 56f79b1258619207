import Derived.Test.YtfpkpnkdnammnaaGreatDoorMgZ
import Derived.Test.YtfpkpnkdnammnaaGreatDoorMgu
import Derived.Test.YtfpkpnkdnammnaaGreatDoorMgn
import Derived.Test.YtfpkpnkdnammnaaGreatDoorSxR
import Derived.Test.YtfpkpnkdnammnaaGreatDoorMgt
import Derived.Test.YtfpkpnkdnammnaaGreatDoorMgA
import Derived.Test.YtfpkpnkdnammnaaGreatDoorMgQ
import Derived.Test.YtfpkpnkdnammnaaGreatDoorSyV
set_option maxRecDepth 100000
set_option maxHeartbeats 2000000
namespace Go.Proofs.YtfpkpnkdnammnaaGreatDoor
open Go.RowKit
def RsPost (E:PE) (bp:Nat) (w:World) (t:St) (s':PS) (e:Ending) (w':World):Prop:=∃a,e=.returned (.agg (qV t a).toArray)∧Keep (fun j=>j=bp) w w'∧w'.heap[bp]? = some (rO E s')∧stsK (fun k=>w.heap.size≤k) w' t a
def RbPost (E:PE) (bp:Nat) (w:World) (l:List St) (s':PS) (e:Ending) (w':World):Prop:=∃A cap,e=.returned (.slice A l.length cap)∧Keep (fun j=>j=bp) w w'∧w'.heap[bp]? = some (rO E s')∧wV (fun k=>w.heap.size≤k) w' l A cap
abbrev EX (E:PE) (fe:Nat):PS→Option (Ex×PS):=(rxF E.tk fe).bin 0
structure RSOk (E:PE) (fe f:Nat):Prop where
 stm:∀s t s',(stF E.tk (EX E fe) f).stm s=some (t,s')→s.err=0→s.at_≤E.m→∀bp w,w.heap[bp]? = some (rO E s)→RkX E w→Calls Tryz.prog 114 #[.pointer (some ⟨bp,0,none⟩)] w (RsPost E bp w t s')
 blk:∀s l s',sH E.tk (stF E.tk (EX E fe) f) s=some (l,s')→s.at_≤E.m→∀bp w,w.heap[bp]? = some (rO E s)→RkX E w→Calls Tryz.prog 72 #[.pointer (some ⟨bp,0,none⟩)] w (RbPost E bp w l s')
section
variable {ops:Array Oper}{Q:Exit→Act→World→Prop}{n:Nat}{m:List (Nat×Value)}{ty:TypeId}{G B:Nat→Prop}{w0:World}{L:List (Nat×Obj)}{R:List Rw}{X:World→Prop}{rest:List Oper}{d:Nat}{pos:String}{af:Array Edge}{gd:Option (Nat×Bool)}{f:FuncId}{args:List Operand}{ats:Array TypeId}{vs:List Value}
theorem wl_rs (E:PE) (s:PS) (t:St) (s':PS) (bp:Nat) (k:Nat) (hB:∀k,B k→k<w0.heap.size) (hX:∀w,X w→RkX E w) (hC:∀w,w.heap[bp]? = some (rO E s)→RkX E w→Calls Tryz.prog f vs.toArray w (RsPost E bp w t s')) (hg:Gd ops m gd) (hd:Nat.blt d n=true) (hf:goes Tryz.prog f=true) (ha:evl m args=some vs) (hk:L[k]? = some (bp,rO E s))
  (h:∀a F,(∀k,F k→w0.heap.size≤k)→WL Tryz.prog ops Q rest n ((d,.agg (qV t a).toArray)::m) (Hp B w0 (L.set k (bp,rO E s')) R (fun u=>stsK F u t a∧X u))) :
  WL Tryz.prog ops Q (⟨some d,.call { callee:=.value (.func f),args:=args.toArray,argTypes:=ats },ty,pos,af,gd⟩::rest) n m (Hp B w0 L R X) :=
 tI (ι:=StA) (C:=fun _=>True) (val:=fun a=>.agg (qV t a).toArray) (obi:=fun _=>rO E s') (TT:=fun a F u=>stsK F u t a) hg hd k hf ha hk hB (fun _=>stsK.lies)
  (fun w h1 hw=>(hC w h1 (hX w (HpG.x hw))).mono fun _ _ ⟨a,e1,e2,e3,e4⟩=>⟨a,trivial,e1,e2,e3,e4⟩) fun a F _ hF=>h a F hF
theorem wl_rb (E:PE) (s:PS) (l:List St) (s':PS) (bp:Nat) (k:Nat) (hB:∀k,B k→k<w0.heap.size) (hX:∀w,X w→RkX E w) (hC:∀w,w.heap[bp]? = some (rO E s)→RkX E w→Calls Tryz.prog f vs.toArray w (RbPost E bp w l s')) (hg:Gd ops m gd) (hd:Nat.blt d n=true) (hf:goes Tryz.prog f=true) (ha:evl m args=some vs) (hk:L[k]? = some (bp,rO E s))
  (h:∀A cap F,(∀k,F k→w0.heap.size≤k)→WL Tryz.prog ops Q rest n ((d,.slice A l.length cap)::m) (Hp B w0 (L.set k (bp,rO E s')) R (fun u=>wV F u l A cap∧X u))) :
  WL Tryz.prog ops Q (⟨some d,.call { callee:=.value (.func f),args:=args.toArray,argTypes:=ats },ty,pos,af,gd⟩::rest) n m (Hp B w0 L R X) :=
 tI (ι:=Option Addr×Nat) (C:=fun _=>True) (val:=fun i=>.slice i.1 l.length i.2) (obi:=fun _=>rO E s') (TT:=fun i F u=>wV F u l i.1 i.2) hg hd k hf ha hk hB (fun _=>wV.lies)
  (fun w h1 hw=>(hC w h1 (hX w (HpG.x hw))).mono fun _ _ ⟨A,cap,e1,e2,e3,e4⟩=>⟨(A,cap),trivial,e1,e2,e3,e4⟩) fun i F _ hF=>h i.1 i.2 F hF
end
theorem rsingle_any {E:PE}(hE:E.Or) {f:Nat}(IH:ROk E f) (kd:Nat) (s:PS) (x:Ex) (s1:PS) (hr:(rxF E.tk f).bin 0 (adv s)=some (x,s1)) (ha:(adv s).at_≤E.m) (bp:Nat) (w_0:World) (hb:w_0.heap[bp]? = some (rO E s)) (hX:RkX E w_0) :
  Calls Tryz.prog 139 #[.pointer (some ⟨bp,0,none⟩),.int .i64 kd] w_0 (RsPost E bp w_0 (.mk kd [] [x] [] []) (xL E.tk [59] s1)):=by
 have hsm:=hE.sm;have hsa:s.at_+1≤E.m:=ha;have hB:=rbp_lt hb;have hs1:=(rxF_g hE.kind f).bin 0 _ ha x s1 hr;refine yW (args:=[.pointer (some ⟨bp,0,none⟩),.int .i64 kd]) Tryz.func139 V 21 V (Jo V)<|Z2 0 1 V V<|zC (H':=Hp (fun k=>k=bp) w_0 [(bp,rO E s)] [] (RkX E)) (fun u hu=>?_) ?_
 ·subst hu;exact Hp.startR hb hX
 refine zY<|zX<|zA .none V (yN (z:=.agg #[.int .i64 0,.string ⟨#[]⟩,.slice none 0 0,.slice none 0 0,.slice none 0 0]) (cs:=Jf) (by kernel_rfl) V) (fun b4=>?_);refine ZX<|zX<|Zm V V<|Zn V V<|ZF V (Y119x1 V) ?_;refine ZF V (zW 1 V V V U3 V)<|ZF V (yJ V V (i64_in _ (by omega) (by omega))) ?_;refine Zn V V<|ZF V (Y119x1 V) ?_;refine ZS 1 V V V V V (by kernel_rfl) ?_;refine ZX<|Z3r 0 1 4 V V V<|Zm V V<|wl_rx E (adv s) x s1 bp 1 hB (fun _ h=>h) (fun w h1 h2=>IH.bin 0 _ x s1 (by omega) hr ha bp w h1 h2) .none V  (by kernel_rfl) V V (fun A cap F hF=>?_);refine zA .none V (yN (z:=.agg #[.int .i64 0,.int .u32 0,.string ⟨#[]⟩,.slice none 0 0]) (cs:=Je) (by kernel_rfl) V) (fun b5=>?_);refine ZR 0 V V V V V (by kernel_rfl) ?_;refine ZX<|Z4r 0 1 4 5 V V V V<|Zm V V<|vA E hE s1 hs1.2.1 [59] bp (fun _ h=>h.2) 2 .none V  V V ?_;refine ZX<|Z4r 0 1 4 5 V V V V<|Zm V V<|ZF V (yX 0 V V U57 V (by kernel_rfl)) ?_;refine zA .none V (xU (z:=.agg #[.int .i64 0,.int .u32 0,.string ⟨#[]⟩,.slice none 0 0]) V V U55 (by kernel_rfl) (by kernel_rfl) V V) (fun b19=>?_);refine ZF V (yR [.int .i64 0,.string ⟨#[]⟩,.slice none 0 0,.slice none 0 0,.slice none 0 0] [(0,1),(1,1),(2,1),(3,1),(4,1)] V (by kernel_rfl) (by kernel_rfl) V) ?_;refine ZR 2 V V V V V (by kernel_rfl) ?_;refine ZT<|zK<|yK V V 2 V U60 V (by kernel_rfl) (fun w hw=>?_);exact⟨⟨some ⟨b19,0,none⟩,none,none,1,0,0⟩,rfl,Jr hw,HpG.blkL (j:=3) hw rfl,sW,wD,wD,⟨_,HpG.rdF (j:=0) hw V (HpG.fresh (j:=0) (i:=3) hw V V V),(xY.lies.mono hF (HpG.x hw).1).one⟩,⟨[],RdF.nil,.nil⟩,⟨[],RdF.nil,.nil⟩⟩
structure RbJ where
 k:Nat
 acc:List St
 s:PS
 A:Option Addr
 cap:Nat
 xs:List Value
 F:Nat→Prop
structure RbOk (E:PE) (fe f:Nat) (l:List St) (s':PS) (n0:Nat) (j:RbJ):Prop where
 run:(stF E.tk (EX E fe) j.k).blk j.acc j.s=some (l,s')
 k:j.acc.length+j.k≤f
 at_:j.s.at_≤E.m
 cap:j.acc.length≤j.cap
 F:∀k,j.F k→n0≤k
theorem EX_g {E:PE}(hE:E.Or) (fe:Nat):∀s,s.at_≤E.m→Gs E.m s (EX E fe s):=(rxF_g hE.kind fe).bin 0
theorem rblock_any {E:PE}(hE:E.Or) {fe f:Nat}(hf:f≤100000000) (IH:∀k,k<f→RSOk E fe k) (s:PS) (l:List St) (s':PS) (hr:sH E.tk (stF E.tk (EX E fe) f) s=some (l,s')) (hs:s.at_≤E.m) (bp:Nat) (w_0:World) (hb:w_0.heap[bp]? = some (rO E s)) (hX:RkX E w_0) :
  Calls Tryz.prog 72 #[.pointer (some ⟨bp,0,none⟩)] w_0 (RbPost E bp w_0 l s'):=by
 have hn:=vT hE.kind [123] hs;have hB:=rbp_lt hb;refine yW (args:=[.pointer (some ⟨bp,0,none⟩)]) Tryz.func72 V 21 V (Jo V)<|Z1 0 V<|zC (H':=Hp (fun k=>k=bp) w_0 [(bp,rO E s)] [] (RkX E)) (fun u hu=>?_) ?_
 ·subst hu;exact Hp.startR hb hX
 refine zY<|zX<|Za V V<|ZX<|zX<|Za V V<|ZX<|zX<|Zm V V<|vA E hE s hs [123] bp (fun _ h=>h) 0 .none V  V V ?_;refine ZX<|yY<|xW (ι:={j:RbJ // RbOk E fe f l s' w_0.heap.size j}) (fun j=>[(0,.pointer (some ⟨bp,0,none⟩)),(3,.slice j.1.A j.1.acc.length j.1.cap)]) (fun j=>Hp (fun k=>k=bp) w_0 [(bp,rO E j.1.s)] [⟨.slice j.1.A j.1.acc.length j.1.cap,60,5,j.1.acc.length,j.1.xs⟩] (fun u=>StsV j.1.F u j.1.acc j.1.xs∧RkX E u)) (fun j=>j.1.k) ⟨⟨f,[],xL E.tk [123] s,none,0,[],fun _=>False⟩,⟨hr,by simp,hn.1,Kn _,fun _ h=>h.elim⟩⟩ ?_ ?_ (fun j=>?_)
 ·exact .cons V<|.cons V<|.nil
 ·exact fun w h=>Hp.nil (Hp.weakX h fun u hu=>⟨.nil,hu⟩) _ _
 obtain⟨⟨k,acc,s,A,cap,xs,F⟩,⟨hrun,hk,hs,hcap,hF⟩⟩:=j;dsimp only at hrun hk hs hcap hF ⊢
 cases k with
 | zero=>cases hrun
 | succ k=>?_
 have hrun:qI E.tk (stF E.tk (EX E fe) k) acc s=some (l,s'):=hrun;refine zY<|zY<|zX<|Zm V V<|Zn V V<|ZF V (Y119x3 V) ?_;refine ZF V (zW 0 V V V U41 V)<|ZF V (yU V V)<|ZT<|zQ V (fun h7=>?_) (fun h7=>?_)
 ·replace h7:=Jx h7;have he:s.err=0:=by omega
  refine zH<|zO<|yY<|zY<|Z3r 0 3 11 V V V<|Zm V V<|sD E hE s hs [125] bp (fun _ h=>h.2) 0 .none V  V V ?_;refine Za V V<|ZX<|zY<|Z4r 0 3 4 11 V V V V<|Zm V V<|ZT<|zQ V (fun h9=>?_) (fun h9=>?_)
  ·cases blkS_end hrun he h9;rw[h9];refine yB<|zN<|wq_far V<|zN<|yC<|zO<|zY<|zX<|Zm V V<|Za V V<|ZT<|zK<|zI V V (fun w hw=>?_);exact⟨A,cap,rfl,Jr hw,HpG.blkL (j:=0) hw rfl,HpG.rowCp (j:=0) hw rfl,_,HpG.rowF (j:=0) hw rfl,StsV.lies.mono hF (HpG.x hw).1⟩
  ·obtain⟨t,s1,ht1,ht2⟩:=blkS_go hrun he h9;have hs1:=(stF_g hE.kind (EX_g hE fe) k).stm s hs t s1 ht1;rw[h9];refine zH<|zO<|zX<|Zm V V<|Zm V V<|wl_rs E s t s1 bp 0 hB (fun _ h=>h.2) (fun w h1 h2=>(IH k (by omega)).stm s t s1 ht1 he hs bp w h1 h2) .none V  (by kernel_rfl) V V (fun a F2 hF2=>?_);refine zA .none V (xU (z:=.agg #[.int .i64 0,.string ⟨#[]⟩,.slice none 0 0,.slice none 0 0,.slice none 0 0]) V V U58 (by kernel_rfl) (by kernel_rfl) V V) (fun b18=>?_);refine wl_appendL (z:=.agg #[.int .i64 0,.string ⟨#[]⟩,.slice none 0 0,.slice none 0 0,.slice none 0 0]) (bytes:=96) 0 0 .none V V V V V U58 (by kernel_rfl) V V V V (by omega) (by omega) (by omega) (fun a19 c19 h19=>?_);refine Za V V<|zU<|zJ<|yF (ι:={j:RbJ // RbOk E fe f l s' w_0.heap.size j}) ⟨⟨k,acc++[t],s1,a19,c19,xs++qV t a,fun k=>F k∨F2 k⟩,⟨ht2,by rw[Jj];simp;omega,hs1.2.1,by rw[Jj];exact h19,fun k hk=>hk.elim (hF k) (hF2 k)⟩⟩ (by show k<k+1;omega) (.cons V<|.cons (by dsimp only;rw[Jj];rfl)<|.nil) (fun w h=>?_);dsimp only;rw[Jj];exact Hp.weakX (Hp.drop h (Jt _ _) (Js _)) fun u hu=>⟨StsV.append (StsV.lies.mono (fun _ h=>.inl h) hu.2.1) (StsV.lies.mono (fun _ h=>.inr h) hu.1.one),hu.2.2⟩
 ·replace h7:=yM h7;have he:s.err≠0:=by omega
  cases blkS_err hrun he;refine yB<|zN<|zN<|yC<|zO<|zY<|Z3r 0 3 11 V V V<|Zm V V<|Za V V<|ZT<|zK<|zI V V (fun w hw=>?_);exact⟨A,cap,rfl,Jr hw,HpG.blkL (j:=0) hw rfl,HpG.rowCp (j:=0) hw rfl,_,HpG.rowF (j:=0) hw rfl,StsV.lies.mono hF (HpG.x hw).1⟩
end Go.Proofs.YtfpkpnkdnammnaaGreatDoor
namespace Go.Proofs.YtfpkpnkdnammnaaGreatDoor
open Go.RowKit
def wdL (t:Tok):Bs:=if t.kind=3 then t.text else []
theorem isW {tk:Nat→Tok}{x:Bs}{s:PS}(he:s.err=0) (hx:x≠[]):decide (wdL (tk s.at_)=x)=isP tk x s:=by
 unfold wdL
 split
 ·rename_i hk;exact rM he hk
 ·rename_i hk;rw[← isP_no hk];exact Kw fun h=>hx h.symm
theorem wd_mem {E:PE}(hE:E.Or) (j:Nat):wdL (E.tk j)=sR↔(E.tk j).text=sR:=by
 unfold wdL;refine⟨fun h=>?_,fun h=>by rw[Kq (hE.mem j h)];exact h⟩
 split at h
 ·exact h
 ·cases h
theorem Lies.keepR {T:(Nat→Prop)→World→Prop}(hT:Lies T) {F K:Nat→Prop}{w w':World}(h:T F w) (hk:Keep K w w') (hF:∀k,F k→¬K k):T F w' :=
 hT.mono (fun _ hk=>hk.1) (hT.foot (F:=fun k=>F k∧k<w.heap.size) (fun k h2=>hk.block k h2.2 (hF k h2.1)) (hT.lt h))
section
variable {ops:Array Oper}{Q:Exit→Act→World→Prop}{n:Nat}{m:List (Nat×Value)}{ty:TypeId}{G B:Nat→Prop}{w0:World}{L:List (Nat×Obj)}{R:List Rw}{X:World→Prop}{rest:List Oper}{d:Nat}{pos:String}{af:Array Edge}{gd:Option (Nat×Bool)}{f:FuncId}{args:List Operand}{ats:Array TypeId}{vs:List Value}
theorem wl_rxC (E:PE) (s:PS) (x:Ex) (s':PS) (bp:Nat) (k:Nat) (hB:∀k,B k→k<w0.heap.size) (hX:∀w,X w→RkX E w) (hC:∀w,w.heap[bp]? = some (rO E s)→RkX E w→Calls Tryz.prog f vs.toArray w (RxPost E bp w x s')) (hg:Gd ops m gd) (hd:Nat.blt d n=true) (hf:goes Tryz.prog f=true) (ha:evl m args=some vs) (hk:L[k]? = some (bp,rO E s))
  (h:∀(i:ExV) F,(∀k,F k→w0.heap.size≤k)→(∀e1,x.kids=[e1]→∃b off A1 cap1,i.A=some ⟨b,off,none⟩∧i.kc=xN e1 A1 cap1)→WL Tryz.prog ops Q rest n ((d,.agg (xN x i.A i.cap).toArray)::m) (Hp B w0 (L.set k (bp,rO E s')) R (fun u=>exsC F u x i.A i.cap i.kc∧X u))) :
  WL Tryz.prog ops Q (⟨some d,.call { callee:=.value (.func f),args:=args.toArray,argTypes:=ats },ty,pos,af,gd⟩::rest) n m (Hp B w0 L R X) :=
 tI (ι:=ExV) (C:=fun i=>∀e1,x.kids=[e1]→∃b off A1 cap1,i.A=some ⟨b,off,none⟩∧i.kc=xN e1 A1 cap1) (val:=fun i=>.agg (xN x i.A i.cap).toArray) (obi:=fun _=>rO E s') (TT:=fun i F u=>exsC F u x i.A i.cap i.kc) hg hd k hf ha hk hB (fun _=>exsC.lies)
  (fun w h1 hw=>(hC w h1 (hX w (HpG.x hw))).mono fun _ _ ⟨A,cap,e1,e2,e3,h0,kc,h4,h5⟩=>⟨⟨A,cap,kc⟩,(fun e1 he=>by
   have h6:=h5;rw[he] at h6;obtain⟨A1,cap1,e7,_⟩:=ExsV.k h6;obtain⟨b,off,e8,_⟩:=h4 (by rw[e7];simp)
   exact⟨b,off,A1,cap1,e8,e7⟩),e1,e2,e3,h0,h4,h5⟩) fun i F hc hF=>h i F hF hc
end
theorem rstatement_any {E:PE}(hE:E.Or) {fe f:Nat}(hfe:ROk E fe) (IH:RSOk E fe f) (s:PS) (t:St) (s':PS) (hr:stmS E.tk (EX E fe) (stF E.tk (EX E fe) f) s=some (t,s')) (he:s.err=0) (hs:s.at_≤E.m) (bp:Nat) (w_0:World) (hb:w_0.heap[bp]? = some (rO E s)) (hX:RkX E w_0) :
  Calls Tryz.prog 114 #[.pointer (some ⟨bp,0,none⟩)] w_0 (RsPost E bp w_0 t s'):=by
 have hsm:=hE.sm;have hB:=rbp_lt hb;have hbl:bp<w_0.heap.size:=rbp_lt hb bp rfl;unfold stmS at hr;refine yW (args:=[.pointer (some ⟨bp,0,none⟩)]) Tryz.func114 V 157 V (Jo V)<|Z1 0 V<|zC (H':=Hp (fun k=>k=bp) w_0 [(bp,rO E s)] [] (RkX E)) (fun u hu=>?_) ?_
 ·subst hu;exact Hp.startR hb hX
 refine zY<|zX<|zA .none V (yN (z:=.agg #[.int .i64 0,.string ⟨#[]⟩,.slice none 0 0,.slice none 0 0,.slice none 0 0]) (cs:=Jf) (by kernel_rfl) V) (fun b2=>?_);refine ZX<|xV 11 [0,1,2,3,4,5,6,7,8,9,10] _ (by kernel_rfl) (by kernel_rfl) Ky (fun _ h=>h) (fun n0 hn0=>?_);refine Zd V V V (zR V)<|Zd V V V (yV V)<|Zd V V V (Y119x0 V) ?_;refine Zd V V V (zW 1 V V V U27 V)<|Zd V V V (zR V)<|Zd V V V (yV V)<|Zd V V V (Y119x1 V) ?_;refine Zd rfl rfl rfl (zW 1 rfl rfl rfl U3 rfl)<|Zd rfl rfl rfl (zM (es:=5) rfl rfl U27 (by kernel_rfl) rfl (by first|decide|omega|(simp;done)|(simp;omega)) rfl) ?_;refine Zd V V V (yH (cs:=uA (E.tk s.at_)) V U52 V (by kernel_rfl) (fun w h=>rkRow (HpG.x h) hs (by omega))) ?_;refine xZ V<|wB ?_ .none V (fun k hk=>Jy hk hn0) (yN (z:=.agg #[.int .i64 0,.string ⟨#[]⟩,.int .u32 0,.bool false,.int .i64 0]) (cs:=Ji) (by kernel_rfl) V) (fun b3 hb3=>?_)
 ·rfl
 refine xQ ?_;simp only[Ka,Kf];refine ZR 0 V V V V V (by kernel_rfl) ?_;refine ZX<|Z3r 0 2 3 V V V<|Za V V<|ZT<|xH (ι:={x:Bs // x=wdL (E.tk s.at_)}) (fun x=>[(0,.pointer (some ⟨bp,0,none⟩)),(2,.pointer (some ⟨b2,0,none⟩)),(3,.pointer (some ⟨b3,0,none⟩)),(4,.string ⟨x.1.toArray⟩)]) (fun _=>Hp (fun k=>k=bp) w_0 [(b3,rtO (E.tk s.at_)),(b2,bk 60 (stC 0 [] none 0 0 none 0 0 none 0 0)),(bp,rO E s)] [] (RkX E)) ?_ (fun x=>?_)
 ·refine zY<|zX<|ZF V (Y52x0 V) ?_;refine ZF V (zW 0 V V V U3 V)<|ZF V (yU V V)<|ZT<|zQ V (fun hc=>?_) (fun hc=>?_)
  ·replace hc:=Jx hc;refine Z5r 0 2 3 4 25 V V V V V<|ZF V (Y52x1 V) ?_;refine ZF V (zW 0 V V V U9 V)<|Za V V<|zU<|zF (ι:={x:Bs // x=wdL (E.tk s.at_)}) ⟨(E.tk s.at_).text,by rw[wdL,Kq (by omega)]⟩ (O4 V V V V) (fun w h=>h)
  ·replace hc:=yM hc;refine zH<|zF (ι:={x:Bs // x=wdL (E.tk s.at_)}) ⟨[],by rw[wdL,Kp (by omega)]⟩ (O4 V V V V) (fun w h=>h)
 ·obtain⟨xw,rfl⟩:=x;dsimp only;refine zY<|zY<|zX<|Zm V V<|ZT<|yY<|zY<|zX<|ZF V (yD V V U9)<|Za V V<|ZT<|zQ V (fun h29=>?_) (fun h29=>?_)
  ·have h14:isP E.tk kVar s=true:=(isW he (by decide)).symm.trans h29;have ha:=yA hE.kind hs h14;have hn:=sS hE.kind ha;have hq:=vT hE.kind [61] hn.1;rw[h14] at hr;obtain⟨x,s1,hx1,hx2⟩:=yO hr;cases hx2;have hs1:=EX_g hE fe _ hq.1 x s1 hx1;refine zY<|Z6r 0 2 3 4 28 29 V V V V V V<|Zm V V<|Zn V V<|ZF V (Y119x1 V) ?_;refine ZF V (zW 2 V V V U3 V)<|ZF V (yJ V V (i64_in _ (by omega) (by omega))) ?_;refine Zn V V<|ZF V (Y119x1 V) ?_;refine ZS 2 V V V V V (by kernel_rfl) ?_;refine ZX<|Z6r 0 2 3 4 28 29 V V V V V V<|Zm V V<|wl_rname E hE (adv s) ha bp (fun _ h=>h) 2 .none V  V V ?_;refine Za V V<|ZX<|Z7r 0 2 3 4 5 28 29 V V V V V V V<|Zm V V<|vA E hE (xO E.tk (adv s)).2 hn.1 [61] bp (fun _ h=>h) 2 .none V  V V ?_;refine ZX<|Z7r 0 2 3 4 5 28 29 V V V V V V V<|Zm V V<|wl_rx E _ x s1 bp 2 hB (fun _ h=>h) (fun w h1 h2=>hfe.bin 0 _ x s1 (by omega) hx1 hq.1 bp w h1 h2) .none V  (by kernel_rfl) V V (fun A cap F hF=>?_);refine zA .none V (yN (z:=.agg #[.int .i64 0,.int .u32 0,.string ⟨#[]⟩,.slice none 0 0]) (cs:=Je) (by kernel_rfl) V) (fun b6=>?_);refine ZR 0 V V V V V (by kernel_rfl) ?_;refine ZX<|Z8r 0 2 3 4 5 6 28 29 V V V V V V V V<|Zm V V<|vA E hE s1 hs1.2.1 [59] bp (fun _ h=>h.2) 3 .none V  V V ?_;refine ZX<|Z8r 0 2 3 4 5 6 28 29 V V V V V V V V<|Zm V V<|ZF V (yX 0 V V U57 V (by kernel_rfl)) ?_;refine zA .none V (xU (z:=.agg #[.int .i64 0,.int .u32 0,.string ⟨#[]⟩,.slice none 0 0]) V V U55 (by kernel_rfl) (by kernel_rfl) V V) (fun b48=>?_);refine ZF V (yR [.int .i64 0,.string ⟨#[]⟩,.slice none 0 0,.slice none 0 0,.slice none 0 0] [(0,1),(1,1),(2,1),(3,1),(4,1)] V (by kernel_rfl) (by kernel_rfl) V) ?_;refine ZR 3 V V V V V (by kernel_rfl) ?_;refine ZT<|zK<|zT<|zV<|yK V V 3 V U60 V (by kernel_rfl) (fun w hw=>?_);exact⟨⟨some ⟨b48,0,none⟩,none,none,1,0,0⟩,rfl,Jr hw,HpG.blkL (j:=4) hw rfl,sW,wD,wD,⟨_,HpG.rdF (j:=0) hw V (HpG.fresh (j:=0) (i:=4) hw V V V),(xY.lies.mono hF (HpG.x hw).1).one⟩,⟨[],RdF.nil,.nil⟩,⟨[],RdF.nil,.nil⟩⟩
  ·have h14:isP E.tk kVar s=false:=(isW he (by decide)).symm.trans h29;rw[h14] at hr;refine zY<|Z6r 0 2 3 4 28 29 V V V V V V<|ZF V (yD V V U9)<|Za V V<|ZT<|zQ V (fun h50=>?_) (fun h50=>?_)
   ·have h25:isP E.tk kIf s=true:=(isW he (by decide)).symm.trans h50;have ha:=yA hE.kind hs h25;rw[h25] at hr;obtain⟨x,s1,hx1,hr⟩:=yO hr;obtain⟨b,s2,hb1,hr⟩:=yO hr;have hs1:=EX_g hE fe _ ha x s1 hx1;have hs2:=rW hE.kind (stF_g hE.kind (EX_g hE fe) f) _ hs1.2.1 b s2 hb1;refine zY<|Z7r 0 2 3 4 28 29 50 V V V V V V V<|Zm V V<|Zn V V<|ZF V (Y119x1 V) ?_;refine ZF V (zW 2 V V V U3 V)<|ZF V (yJ V V (i64_in _ (by omega) (by omega))) ?_;refine Zn V V<|ZF V (Y119x1 V) ?_;refine ZS 2 V V V V V (by kernel_rfl) ?_;refine ZX<|Z7r 0 2 3 4 28 29 50 V V V V V V V<|Zm V V<|wl_rx E (adv s) x s1 bp 2 hB (fun _ h=>h) (fun w h1 h2=>hfe.bin 0 _ x s1 (by omega) hx1 ha bp w h1 h2) .none V  (by kernel_rfl) V V (fun A cap F hF=>?_);refine zA .none V (xU (z:=.agg #[.int .i64 0,.int .u32 0,.string ⟨#[]⟩,.slice none 0 0]) V V U55 (by kernel_rfl) (by kernel_rfl) V V) (fun b61=>?_);refine ZF V (yR [.int .i64 0,.string ⟨#[]⟩,.slice none 0 0,.slice none 0 0,.slice none 0 0] [(0,1),(1,1),(2,1),(3,1),(4,1)] V (by kernel_rfl) (by kernel_rfl) V) ?_;refine zA .none V (yN (z:=.agg #[.int .i64 0,.string ⟨#[]⟩,.slice none 0 0,.slice none 0 0,.slice none 0 0]) (cs:=Jf) (by kernel_rfl) V) (fun b7=>?_);refine ZR 0 V V V V V (by kernel_rfl) ?_;refine ZX<|Z8r 0 2 3 4 7 28 29 50 V V V V V V V V<|Zm V V<|wl_rb E s1 b s2 bp 4 hB (fun _ h=>h.2) (fun w h1 h2=>IH.blk s1 b s2 hb1 hs1.2.1 bp w h1 h2) .none V  (by kernel_rfl) V V (fun A2 cap2 F2 hF2=>?_);refine ZF V (Y60x3 V) ?_;refine ZS 0 V V V V V (by kernel_rfl) ?_;refine ZX<|Z8r 0 2 3 4 7 28 29 50 V V V V V V V V<|Zm V V<|sD E hE s2 hs2.2.1 kElse bp (fun _ h=>h.2.2) 4 .none V  V V ?_;refine Za V V<|ZX<|zY<|Z9r 0 2 3 4 7 8 28 29 50 V V V V V V V V V<|Zm V V<|ZT<|zQ V (fun h36=>?_) (fun h36=>?_)
    ·have ha2:=yA hE.kind hs2.2.1 h36;rw[h36] at hr ⊢;obtain⟨c,s3,hc1,hc2⟩:=yO hr;cases hc2;refine zX<|Zm V V<|wl_rb E (adv s2) c s' bp 4 hB (fun _ h=>h.2.2) (fun w h1 h2=>IH.blk (adv s2) c s' hc1 ha2 bp w h1 h2) .none V  (by kernel_rfl) V V (fun A3 cap3 F3 hF3=>?_);refine ZF V (Y60x4 V) ?_;refine ZS 0 V V V V V (by kernel_rfl) ?_;refine ZX<|Z10r 0 2 3 4 7 8 28 29 50 68 V V V V V V V V V V<|ZF V (yX 0 V V U60 V (by kernel_rfl)) ?_;refine ZR 3 V V V V V (by kernel_rfl) ?_;refine ZT<|zK<|zT<|zV<|yK V V 3 V U60 V (by kernel_rfl) (fun w hw=>?_);exact⟨⟨some ⟨b61,0,none⟩,A2,A3,1,cap2,cap3⟩,rfl,Jr hw,HpG.blkL (j:=4) hw rfl,sW,(HpG.x hw).2.1.1,(HpG.x hw).1.1,⟨_,HpG.rdF (j:=1) hw V (HpG.fresh (j:=1) (i:=4) hw V V V),(xY.lies.mono hF (HpG.x hw).2.2.1).one⟩,(wV.lies.mono hF2 (HpG.x hw).2.1).2,(wV.lies.mono hF3 (HpG.x hw).1).2⟩
    ·rw[h36] at hr ⊢;cases hr;refine zH<|zO<|zY<|zX<|ZF V (yX 0 V V U60 V (by kernel_rfl)) ?_;refine ZR 3 V V V V V (by kernel_rfl) ?_;refine ZT<|zK<|zT<|zV<|yK V V 3 V U60 V (by kernel_rfl) (fun w hw=>?_);exact⟨⟨some ⟨b61,0,none⟩,A2,none,1,cap2,0⟩,rfl,Jr hw,HpG.blkL (j:=4) hw rfl,sW,(HpG.x hw).1.1,wD,⟨_,HpG.rdF (j:=1) hw V (HpG.fresh (j:=1) (i:=4) hw V V V),(xY.lies.mono hF (HpG.x hw).2.1).one⟩,(wV.lies.mono hF2 (HpG.x hw).1).2,⟨[],RdF.nil,.nil⟩⟩
   ·have h25:isP E.tk kIf s=false:=(isW he (by decide)).symm.trans h50;rw[h25] at hr;refine zY<|Z7r 0 2 3 4 28 29 50 V V V V V V V<|ZF V (yD V V U9)<|Za V V<|ZT<|zQ V (fun h73=>?_) (fun h73=>?_)
    ·have h41:isP E.tk kWhile s=true:=(isW he (by decide)).symm.trans h73;have ha:=yA hE.kind hs h41;rw[h41] at hr;obtain⟨x,s1,hx1,hr⟩:=yO hr;obtain⟨b,s2,hb1,hr⟩:=yO hr;cases hr;have hs1:=EX_g hE fe _ ha x s1 hx1;refine zY<|Z8r 0 2 3 4 28 29 50 73 V V V V V V V V<|Zm V V<|Zn V V<|ZF V (Y119x1 V) ?_;refine ZF V (zW 2 V V V U3 V)<|ZF V (yJ V V (i64_in _ (by omega) (by omega))) ?_;refine Zn V V<|ZF V (Y119x1 V) ?_;refine ZS 2 V V V V V (by kernel_rfl) ?_;refine ZX<|Z8r 0 2 3 4 28 29 50 73 V V V V V V V V<|Zm V V<|wl_rx E (adv s) x s1 bp 2 hB (fun _ h=>h) (fun w h1 h2=>hfe.bin 0 _ x s1 (by omega) hx1 ha bp w h1 h2) .none V  (by kernel_rfl) V V (fun A cap F hF=>?_);refine zA .none V (xU (z:=.agg #[.int .i64 0,.int .u32 0,.string ⟨#[]⟩,.slice none 0 0]) V V U55 (by kernel_rfl) (by kernel_rfl) V V) (fun b84=>?_);refine ZF V (yR [.int .i64 0,.string ⟨#[]⟩,.slice none 0 0,.slice none 0 0,.slice none 0 0] [(0,1),(1,1),(2,1),(3,1),(4,1)] V (by kernel_rfl) (by kernel_rfl) V) ?_;refine zA .none V (yN (z:=.agg #[.int .i64 0,.string ⟨#[]⟩,.slice none 0 0,.slice none 0 0,.slice none 0 0]) (cs:=Jf) (by kernel_rfl) V) (fun b9=>?_);refine ZR 0 V V V V V (by kernel_rfl) ?_;refine ZX<|Z9r 0 2 3 4 9 28 29 50 73 V V V V V V V V V<|Zm V V<|wl_rb E s1 b s' bp 4 hB (fun _ h=>h.2) (fun w h1 h2=>IH.blk s1 b s' hb1 hs1.2.1 bp w h1 h2) .none V  (by kernel_rfl) V V (fun A2 cap2 F2 hF2=>?_);refine ZF V (Y60x3 V) ?_;refine ZS 0 V V V V V (by kernel_rfl) ?_;refine ZX<|Z9r 0 2 3 4 9 28 29 50 73 V V V V V V V V V<|ZF V (yX 0 V V U60 V (by kernel_rfl)) ?_;refine ZR 3 V V V V V (by kernel_rfl) ?_;refine ZT<|zK<|zT<|zV<|yK V V 3 V U60 V (by kernel_rfl) (fun w hw=>?_);exact⟨⟨some ⟨b84,0,none⟩,A2,none,1,cap2,0⟩,rfl,Jr hw,HpG.blkL (j:=4) hw rfl,sW,(HpG.x hw).1.1,wD,⟨_,HpG.rdF (j:=1) hw V (HpG.fresh (j:=1) (i:=4) hw V V V),(xY.lies.mono hF (HpG.x hw).2.1).one⟩,(wV.lies.mono hF2 (HpG.x hw).1).2,⟨[],RdF.nil,.nil⟩⟩
    ·have h41:isP E.tk kWhile s=false:=(isW he (by decide)).symm.trans h73;rw[h41] at hr;refine zY<|Z8r 0 2 3 4 28 29 50 73 V V V V V V V V<|ZF V (yD V V U9)<|Za V V<|ZT<|zQ V (fun h90=>?_) (fun h90=>?_)
     ·have h52:isP E.tk kRet s=true:=(isW he (by decide)).symm.trans h90;have ha:=yA hE.kind hs h52;rw[h52] at hr;obtain⟨x,s1,hx1,hx2⟩:=yO hr;cases hx2;refine zY<|Z9r 0 2 3 4 28 29 50 73 90 V V V V V V V V V<|Zm V V<|wl_rs E s (.mk 6 [] [x] [] []) (xL E.tk [59] s1) bp 2 hB (fun _ h=>h) (fun w h1 h2=>rsingle_any hE hfe 6 s x s1 hx1 ha bp w h1 h2) .none V  (by kernel_rfl) V V (fun a F hF=>?_);refine ZR 1 V V V V V (by kernel_rfl) ?_;refine ZT<|zK<|zT<|zV<|yK V V 1 V U60 V (by kernel_rfl) (fun w hw=>?_);exact⟨a,rfl,Jr hw,HpG.blkL (j:=2) hw rfl,stsK.lies.mono hF (HpG.x hw).1⟩
     ·have h52:isP E.tk kRet s=false:=(isW he (by decide)).symm.trans h90;rw[h52] at hr;refine zY<|Z9r 0 2 3 4 28 29 50 73 90 V V V V V V V V V<|ZF V (yD V V U9)<|Za V V<|ZT<|zQ V (fun h94=>?_) (fun h94=>?_)
      ·have h58:isP E.tk kOut s=true:=(isW he (by decide)).symm.trans h94;have ha:=yA hE.kind hs h58;rw[h58] at hr;obtain⟨x,s1,hx1,hx2⟩:=yO hr;cases hx2;refine zY<|Z10r 0 2 3 4 28 29 50 73 90 94 V V V V V V V V V V<|Zm V V<|wl_rs E s (.mk 7 [] [x] [] []) (xL E.tk [59] s1) bp 2 hB (fun _ h=>h) (fun w h1 h2=>rsingle_any hE hfe 7 s x s1 hx1 ha bp w h1 h2) .none V  (by kernel_rfl) V V (fun a F hF=>?_);refine ZR 1 V V V V V (by kernel_rfl) ?_;refine ZT<|zK<|zT<|zV<|yK V V 1 V U60 V (by kernel_rfl) (fun w hw=>?_);exact⟨a,rfl,Jr hw,HpG.blkL (j:=2) hw rfl,stsK.lies.mono hF (HpG.x hw).1⟩
      ·have h58:isP E.tk kOut s=false:=(isW he (by decide)).symm.trans h94;rw[h58] at hr;obtain⟨x,s1,hx1,hr⟩:=yO hr;have hs1:=EX_g hE fe _ hs x s1 hx1;have hk4:=(rxF_k (tk:=E.tk) fe).bin 0 s x s1 hx1;have hs1b:s1.at_≤E.m:=hs1.2.1;refine zH<|zJ<|zO<|zY<|Z10r 0 2 3 4 28 29 50 73 90 94 V V V V V V V V V V<|Zm V V<|wl_rxC E s x s1 bp 2 hB (fun _ h=>h) (fun w h1 h2=>hfe.bin 0 _ x s1 (by omega) hx1 hs bp w h1 h2) .none V  (by kernel_rfl) V V (fun i F hF hkc=>?_);obtain⟨A,cap,kc⟩:=i;dsimp only at hkc ⊢;refine zA .none V (yN (z:=.agg #[.int .i64 0,.int .u32 0,.string ⟨#[]⟩,.slice none 0 0]) (cs:=Je) (by kernel_rfl) V) (fun b10=>?_);refine ZR 0 V V V V V (by kernel_rfl) ?_;refine ZX<|Z11r 0 2 3 4 10 28 29 50 73 90 94 V V V V V V V V V V V<|ZF V (yX 0 V V U57 V (by kernel_rfl)) ?_;refine zA .none V (xU (z:=.agg #[.int .i64 0,.int .u32 0,.string ⟨#[]⟩,.slice none 0 0]) V V U55 (by kernel_rfl) (by kernel_rfl) V V) (fun b101=>?_);refine ZF V (yR [.int .i64 0,.string ⟨#[]⟩,.slice none 0 0,.slice none 0 0,.slice none 0 0] [(0,1),(1,1),(2,1),(3,1),(4,1)] V (by kernel_rfl) (by kernel_rfl) V) ?_;refine zA .none V (yN (z:=.agg #[.int .i64 0,.string ⟨#[]⟩,.slice none 0 0,.slice none 0 0,.slice none 0 0]) (cs:=Jf) (by kernel_rfl) V) (fun b11=>?_);refine ZR 0 V V V V V (by kernel_rfl) ?_;refine ZX<|Z12r 0 2 3 4 10 11 28 29 50 73 90 94 V V V V V V V V V V V V<|Zm V V<|wl_ris E s1 hs1.2.1 [61] bp (fun _ h=>h.2) 5 .none V  V V ?_;refine Za V V<|ZX<|xH (ι:={y:Bool // y=true↔(E.tk s.at_).kind=2∧x.kind=2∧isP E.tk [61] s1=true}) (fun y=>[(0,.pointer (some ⟨bp,0,none⟩)),(2,.pointer (some ⟨b2,0,none⟩)),(3,.pointer (some ⟨b3,0,none⟩)),(4,.string ⟨(wdL (E.tk s.at_)).toArray⟩),(10,.pointer (some ⟨b10,0,none⟩)),(11,.pointer (some ⟨b11,0,none⟩)),(12,.bool (isP E.tk [61] s1)),(115,.bool y.1)]) (fun _=>Hp (fun k=>k=bp) w_0 [(b11,bk 60 (stC 8 [] (some ⟨b101,0,none⟩) 1 1 none 0 0 none 0 0)),(b101,bk 57 (xN x A cap)),(b10,bk 57 (xN x A cap)),(b3,rtO (E.tk s.at_)),(b2,bk 60 (stC 0 [] none 0 0 none 0 0 none 0 0)),(bp,rO E s1)] [] (fun u=>exsC F u x A cap kc∧RkX E u)) ?_ (fun y=>?_)
       ·refine Z13r 0 2 3 4 10 11 12 28 29 50 73 90 94 V V V V V V V V V V V V V<|Zm V V<|Zm V V<|zG 106 V (fun g1=>?_) (fun g1=>?_)
        ·refine ZG V V V (Y57x0 V) ?_;refine ZG V V V (zW 2 V V V U3 V)<|ZG V V V (yU V V)<|ZF V (zP V V)<|Zm V V<|zG 111 V (fun g2=>?_) (fun g2=>?_)
         ·replace g2:=Jx g2;refine ZG V V V (Y52x0 V) ?_;refine ZG V V V (zW 3 V V V U3 V)<|ZG V V V (yU V V)<|ZF V (zP V V)<|zU<|zF (ι:={y:Bool // y=true↔(E.tk s.at_).kind=2∧x.kind=2∧isP E.tk [61] s1=true}) ⟨((E.tk s.at_).kind:Int)==2,⟨fun h=>⟨by have:=Jx h;omega,by omega,g1⟩,fun h=>by rw[beq_iff_eq];omega⟩⟩ (O8 V V V V V V V V) (fun w h=>h)
         ·replace g2:=yM g2;refine ZP V<|ZP V<|ZP V<|ZF V (zL V V)<|zU<|zF (ι:={y:Bool // y=true↔(E.tk s.at_).kind=2∧x.kind=2∧isP E.tk [61] s1=true}) ⟨false,⟨fun h=>(by cases h),fun h=>absurd h.2.1 (by omega)⟩⟩ (O8 V V V V V V V V) (fun w h=>h)
        ·refine ZP V<|ZP V<|ZP V<|ZF V (zL V V)<|Zm V V<|ZP V<|ZP V<|ZP V<|ZF V (zL V V)<|zU<|zF (ι:={y:Bool // y=true↔(E.tk s.at_).kind=2∧x.kind=2∧isP E.tk [61] s1=true}) ⟨false,⟨fun h=>(by cases h),fun h=>by rw[h.2.2] at g1;cases g1⟩⟩ (O8 V V V V V V V V) (fun w h=>h)
       ·obtain⟨yb,hyb⟩:=y;dsimp only;refine zQ V (fun h115=>?_) (fun h115=>?_)
        ·obtain⟨hk1,hk2,h66⟩:=hyb.1 h115;rw[Kq ⟨hk1,hk2,h66⟩] at hr;have ha:=yA hE.kind hs1.2.1 h66;obtain⟨y,s2,hy1,hy2⟩:=yO hr;cases hy2;have hs2:=EX_g hE fe _ ha y s2 hy1;refine zY<|zX<|Zm V V<|Zn V V<|ZF V (Y119x1 V) ?_;refine ZF V (zW 5 V V V U3 V)<|ZF V (yJ V V (i64_in _ (by omega) (by omega))) ?_;refine Zn V V<|ZF V (Y119x1 V) ?_;refine ZS 5 V V V V V (by kernel_rfl) ?_;refine ZT<|Z8 0 2 3 4 10 11 12 115 V V V V V V V V<|xV 6 [0,1,2,3,4,5] (Blk b10 (bk 57 (xN x A cap))) (by kernel_rfl) (by kernel_rfl) Blk.stab (fun w h=>HpG.blk h (k:=2) V) (fun n0 hn0=>?_);refine Zd V V V (Y57x2 V) ?_;refine Zd V V V (wF V V U9 V)<|Zd V V V (zR V)<|xZ V<|wd_rx E (adv s1) y s2 bp 5 hB (fun _ h=>h.2) (fun w w' h1 h2 hK=>h2.keep hK (HpG.ne h1 (i:=2) (j:=5) V V V)) (fun w h1 h2=>hfe.bin 0 _ y s2 (by omega) hy1 ha bp w h1 h2) .none V  (by kernel_rfl) V V (fun A2 cap2 F2 hF2=>?_);refine xZ V<|wB ?_ .none V (fun k hk=>.inr (Jy hk hn0)) (xU (z:=.agg #[.int .i64 0,.int .u32 0,.string ⟨#[]⟩,.slice none 0 0]) V V U55 (by kernel_rfl) (by kernel_rfl) V V) (fun b127 hb127=>?_)
         ·rfl
         refine xZ V<|wQ V .none V (yR [.int .i64 0,.string ⟨#[]⟩,.slice none 0 0,.slice none 0 0,.slice none 0 0] [(0,1),(1,1),(2,1),(3,1),(4,1)] V (by kernel_rfl) (by kernel_rfl) V) ?_;refine xQ ?_;simp only[Ka,Kf];refine ZR 1 V V V V V (by kernel_rfl) ?_;refine ZX<|Z8r 0 2 3 4 10 11 12 115 V V V V V V V V<|Zm V V ?_;(refine vA E hE s2 hs2.2.1 [59] bp (fun _ h=>h.2.2) 6 .none rfl  rfl rfl ?_);refine ZX<|Z8r 0 2 3 4 10 11 12 115 V V V V V V V V<|ZF V (yX 1 V V U60 V (by kernel_rfl)) ?_;refine ZR 5 V V V V V (by kernel_rfl) ?_;refine ZT<|zK<|yK V V 5 V U60 V (by kernel_rfl) (fun w hw=>?_);exact⟨⟨some ⟨b127,0,none⟩,none,none,1,0,0⟩,rfl,Jr hw,HpG.blkL (j:=6) hw rfl,sW,wD,wD,⟨_,HpG.rdF (j:=0) hw V (HpG.fresh (j:=0) (i:=6) hw V V V),(xY.lies.mono hF2 (HpG.x hw).1).one⟩,⟨[],RdF.nil,.nil⟩,⟨[],RdF.nil,.nil⟩⟩
        ·rw[Kp (fun hh=>by rw[hyb.2 hh] at h115;cases h115)] at hr;refine xH (ι:={y:Bool // y=true↔(E.tk s.at_).text=sR∧x.kind=4∧isP E.tk [61] s1=true}) (fun y=>[(0,.pointer (some ⟨bp,0,none⟩)),(2,.pointer (some ⟨b2,0,none⟩)),(10,.pointer (some ⟨b10,0,none⟩)),(11,.pointer (some ⟨b11,0,none⟩)),(138,.bool y.1)]) (fun _=>Hp (fun k=>k=bp) w_0 [(b11,bk 60 (stC 8 [] (some ⟨b101,0,none⟩) 1 1 none 0 0 none 0 0)),(b101,bk 57 (xN x A cap)),(b10,bk 57 (xN x A cap)),(b3,rtO (E.tk s.at_)),(b2,bk 60 (stC 0 [] none 0 0 none 0 0 none 0 0)),(bp,rO E s1)] [] (fun u=>exsC F u x A cap kc∧RkX E u)) ?_ (fun y=>?_)
         ·refine zX<|Zm V V<|Zm V V<|zG 130 V (fun g3=>?_) (fun g3=>?_)
          ·refine ZG V V V (Y57x0 V) ?_;refine ZG V V V (zW 2 V V V U3 V)<|ZG V V V (yU V V)<|ZF V (zP V V)<|Zm V V<|zG 135 V (fun g4=>?_) (fun g4=>?_)
           ·replace g4:=Jx g4;refine ZG V V V (zR V)<|ZG V V V (yD V V U9)<|ZF V (zP V V)<|zU<|zF (ι:={y:Bool // y=true↔(E.tk s.at_).text=sR∧x.kind=4∧isP E.tk [61] s1=true}) ⟨decide (wdL (E.tk s.at_)=sR),⟨fun h=>⟨(wd_mem hE _).1 (Jp h),by omega,g3⟩,fun h=>Kv ((wd_mem hE _).2 h.1)⟩⟩ (O5 V V V V V) (fun w h=>h)
           ·replace g4:=yM g4;refine ZP V<|ZP V<|ZF V (zL V V)<|zU<|zF (ι:={y:Bool // y=true↔(E.tk s.at_).text=sR∧x.kind=4∧isP E.tk [61] s1=true}) ⟨false,⟨fun h=>(by cases h),fun h=>absurd h.2.1 (by omega)⟩⟩ (O5 V V V V V) (fun w h=>h)
          ·refine ZP V<|ZP V<|ZP V<|ZF V (zL V V)<|Zm V V<|ZP V<|ZP V<|ZF V (zL V V)<|zU<|zF (ι:={y:Bool // y=true↔(E.tk s.at_).text=sR∧x.kind=4∧isP E.tk [61] s1=true}) ⟨false,⟨fun h=>(by cases h),fun h=>by rw[h.2.2] at g3;cases g3⟩⟩ (O5 V V V V V) (fun w h=>h)
         ·obtain⟨zb,hzb⟩:=y;dsimp only;refine zQ V (fun h138=>?_) (fun h138=>?_)
          ·obtain⟨hk1,hk2,h84⟩:=hzb.1 h138;rw[Kq ⟨hk1,hk2,h84⟩] at hr;have ha:=yA hE.kind hs1.2.1 h84;obtain⟨y,s2,hy1,hy2⟩:=yO hr;cases hy2;have hs2:=EX_g hE fe _ ha y s2 hy1;have h1k:x.kids.length=1:=hk4 (by omega)
           obtain⟨e1,he1⟩:∃e1,x.kids=[e1]:=by
            cases hq:x.kids with
            | nil=>rw[hq] at h1k;cases h1k
            | cons a l=>cases l with
             | nil=>exact⟨a,rfl⟩
             | cons b l=>rw[hq] at h1k;simp at h1k
           obtain⟨kb,ko,A1,cap1,rfl,rfl⟩:=hkc e1 he1;refine zY<|zX<|Zm V V<|Zn V V<|ZF V (Y119x1 V) ?_;refine ZF V (zW 5 V V V U3 V)<|ZF V (yJ V V (i64_in _ (by omega) (by omega))) ?_;refine Zn V V<|ZF V (Y119x1 V) ?_;refine ZS 5 V V V V V (by kernel_rfl) ?_;refine ZT<|Z5 0 2 10 11 138 V V V V V<|xV 6 [0,1,2,3,4,5] (fun u=>Blk b10 (bk 57 (xN x (some ⟨kb,ko,none⟩) cap)) u∧RdF F (some ⟨kb,ko,none⟩) (xN e1 A1 cap1) u) (by kernel_rfl) (by kernel_rfl) (fun u ob ⟨h1,h2⟩=>⟨Blk.stab u ob h1,RdF.lies.onE h2 (Ext.alloc (Ext.refl u) ob)⟩) (fun w h=>⟨HpG.blk h (k:=2) rfl,(HpG.x h).1.2.1⟩) (fun n0 hn0=>?_);refine Zd V V V (Y57x3 V) ?_;refine Zd V V V (YF.anti (wF V V U55 V) (fun _ h=>h.1)) ?_;refine Zd V V V (zM (j:=0) (es:=4) V V U55 (by kernel_rfl) V (by omega) V) ?_;refine Zd V V V (yH (cs:=xN e1 A1 cap1) V U57 V (by kernel_rfl) (fun w h j v hv=>RdF.part h.2 (Jn.1 hv).1 (by omega) hv)) ?_;refine Zd V V V (zR V)<|xZ V<|wd_rx E (adv s1) y s2 bp 5 hB (fun _ h=>h.2) (fun w w' h1 h2 hK=>⟨h2.1.keep hK (HpG.ne h1 (i:=2) (j:=5) V V V),Lies.keepR RdF.lies h2.2 hK (fun k hk=>by have:=hF k hk;omega)⟩) (fun w h1 h2=>hfe.bin 0 _ y s2 (by omega) hy1 ha bp w h1 h2) .none V  (by kernel_rfl) V V (fun A2 cap2 F2 hF2=>?_);refine xQ ?_;simp only[Ka,Kf];refine zA .none V (nf_bs2 (z:=.agg #[.int .i64 0,.int .u32 0,.string ⟨#[]⟩,.slice none 0 0]) V V V V U55 (by kernel_rfl) (by kernel_rfl) V V V) (fun b152=>?_);refine ZF V (yR [.int .i64 0,.string ⟨#[]⟩,.slice none 0 0,.slice none 0 0,.slice none 0 0] [(0,1),(1,1),(2,1),(3,1),(4,1)] V (by kernel_rfl) (by kernel_rfl) V) ?_;refine ZR 1 V V V V V (by kernel_rfl) ?_;refine ZX<|Z5r 0 2 10 11 138 V V V V V<|Zm V V ?_;(refine vA E hE s2 hs2.2.1 [59] bp (fun _ h=>h.2.2) 6 .none rfl  rfl rfl ?_);refine ZX<|Z5r 0 2 10 11 138 V V V V V<|ZF V (yX 1 V V U60 V (by kernel_rfl)) ?_;refine ZR 5 V V V V V (by kernel_rfl) ?_;refine ZT<|zK<|yK V V 5 V U60 V (by kernel_rfl) (fun w hw=>?_);exact⟨⟨some ⟨b152,0,none⟩,none,none,2,0,0⟩,(by rw[he1];rfl),Jr hw,HpG.blkL (j:=6) hw rfl,(by rw[he1];exact cp22),wD,wD,⟨_,HpG.rdF (j:=0) hw V (HpG.fresh (j:=0) (i:=6) hw V V V),ExsV.append (ExsV.lies.mono hF (HpG.x hw).2.1.2.2) (xY.lies.mono hF2 (HpG.x hw).1).one⟩,⟨[],RdF.nil,.nil⟩,⟨[],RdF.nil,.nil⟩⟩
          ·rw[Kp (fun hh=>by rw[hzb.2 hh] at h138;cases h138)] at hr;cases hr;refine zH<|zO<|zY<|zX<|Zm V V ?_;(refine vA E hE s1 hs1.2.1 [59] bp (fun _ h=>h.2) 5 .none rfl  rfl rfl ?_);refine ZX<|Z5r 0 2 10 11 138 V V V V V<|ZF V (yX 0 V V U60 V (by kernel_rfl)) ?_;refine ZR 4 V V V V V (by kernel_rfl) ?_;refine ZT<|zK<|yK V V 4 V U60 V (by kernel_rfl) (fun w hw=>?_);exact⟨⟨some ⟨b101,0,none⟩,none,none,1,0,0⟩,rfl,Jr hw,HpG.blkL (j:=5) hw rfl,sW,wD,wD,⟨_,HpG.rdF (j:=1) hw V (HpG.fresh (j:=1) (i:=5) hw V V V),(xY.lies.mono hF (HpG.x hw).1.k).one⟩,⟨[],RdF.nil,.nil⟩,⟨[],RdF.nil,.nil⟩⟩
theorem rst_all {E:PE}(hE:E.Or) {fe:Nat}(hfe:ROk E fe):∀f,f≤100000000→RSOk E fe f:=by
 intro f
 induction f using Nat.strongRecOn with
 | _ f ih =>
  intro hf;have hb:∀k,k<f→RSOk E fe k:=fun k hk=>ih k hk (by omega);refine⟨fun s t s' hr he hs bp w h1 h2=>?_,fun s l s' hr hs bp w h1 h2=>rblock_any hE hf hb s l s' hr hs bp w h1 h2⟩
  cases f with
  | zero=>cases hr
  | succ f=>exact rstatement_any hE hfe (hb f (by omega)) s t s' hr he hs bp w h1 h2
end Go.Proofs.YtfpkpnkdnammnaaGreatDoor
namespace Go.Proofs.YtfpkpnkdnammnaaGreatDoor
structure TkS (t t':Tok):Prop extends TkR t t' where
 m1:t.text=sR→t.kind=3
 m2:t'.text=sR→t'.kind=3
section
variable {tk tk':Nat→Tok}(h:∀j,TkS (tk j) (tk' j))
include h
theorem isP_tk (x:Bs) (s:PS):isP tk x s=isP tk' x s:=by
 have e:=h s.at_;unfold isP;rw[← e.kind]
 by_cases hk:(tk s.at_).kind=3
 ·rw[e.text (by omega)]
 ·simp[hk]
theorem failP_tk (s:PS):uS tk s=uS tk' s:=by
 have e:=h s.at_;unfold uS;rw[e.kind,e.val,e.at_]
theorem rB (x:Bs) (s:PS):xL tk x s=xL tk' x s:=by
 unfold xL;rw[isP_tk h,failP_tk h]
theorem nameP_tk (s:PS):xO tk s=xO tk' s:=by
 have e:=h s.at_;unfold xO;rw[← e.kind,failP_tk h]
 by_cases hk:(tk s.at_).kind=2
 ·rw[e.text (by omega)]
 ·rw[Kp (fun hh=>hk hh.2),Kp (fun hh=>hk hh.2)]
theorem primS_tk (r:EF) (s:PS):vQ tk r s=vQ tk' r s:=by
 have e:=h s.at_;unfold vQ;simp only[isP_tk h,rB h,failP_tk h,e.kind,e.val]
 by_cases hk:(tk' s.at_).kind=2
 ·rw[e.text (by rw[e.kind];omega)]
 ·simp only[hk,if_false]
theorem unS_tk (r:EF) (s:PS):unS tk r s=unS tk' r s:=by
 unfold unS;simp only[isP_tk h]
theorem listS_tk (r:EF) (l:List Ex) (s:PS):vF tk r l s=vF tk' r l s:=by
 unfold vF;simp only[isP_tk h,rB h]
theorem llpS_tk (r:EF) (n:Nat) (x:Ex) (s:PS):llpS tk r n x s=llpS tk' r n x s:=by
 have e:=h s.at_;unfold llpS;rw[e.kind]
 by_cases hk:(tk' s.at_).kind=3
 ·rw[e.text (by rw[e.kind];omega)]
 ·rw[Kp (fun hh=>hk hh.2.1),Kp (fun hh=>hk hh.2.1)]
theorem rxF_tk:∀f,rxF tk f=rxF tk' f
 | 0=>rfl
 | f+1=>by
  show rxStep tk (rxF tk f)=rxStep tk' (rxF tk' f);rw[rxF_tk f];unfold rxStep;congr 1
  ·funext s;exact primS_tk h _ s
  ·funext s;exact unS_tk h _ s
  ·funext n x s;exact llpS_tk h _ n x s
  ·funext l s;exact listS_tk h _ l s
theorem simS_tk (E:PS→Option (Ex×PS)) (k:Nat) (nm:Bs) (l:List Ex) (s:PS):simS tk E k nm l s=simS tk' E k nm l s:=by
 unfold simS;simp only[rB h]
theorem blockS_tk (r:SF) (s:PS):sH tk r s=sH tk' r s:=by
 unfold sH;rw[rB h]
theorem stmS_tk (E:PS→Option (Ex×PS)) (r:SF) (s:PS):stmS tk E r s=stmS tk' E r s:=by
 have e:=h s.at_
 have hm:((tk s.at_).text=sR)↔((tk' s.at_).text=sR):=by
  refine⟨fun h1=>?_,fun h1=>?_⟩
  ·rw[← e.text (by rw[e.m1 h1];decide)];exact h1
  ·rw[e.text (by rw[e.kind,e.m2 h1];decide)];exact h1
 unfold stmS;simp only[isP_tk h,rB h,nameP_tk h,simS_tk h,blockS_tk h,e.kind,hm]
theorem blkS_tk (r:SF) (l:List St) (s:PS):qI tk r l s=qI tk' r l s:=by
 unfold qI;simp only[isP_tk h]
theorem stF_tk (E:PS→Option (Ex×PS)):∀f,stF tk E f=stF tk' E f
 | 0=>rfl
 | f+1=>by
  show (⟨stmS tk E (stF tk E f),qI tk (stF tk E f)⟩:SF)=⟨stmS tk' E (stF tk' E f),qI tk' (stF tk' E f)⟩;rw[stF_tk E f];congr 1
  ·funext s;exact stmS_tk h E _ s
  ·funext l s;exact blkS_tk h _ l s
theorem parF_tk:∀(f:Nat) (l:List Bs) (s:PS),pZ tk f l s=pZ tk' f l s
 | 0,_,_=>rfl
 | f+1,l,s=>by
  unfold pZ;simp only[isP_tk h,nameP_tk h,rB h,parF_tk f]
theorem parS_tk (f:Nat) (s:PS):parS tk f s=parS tk' f s:=by
 unfold parS;simp only[isP_tk h,parF_tk h]
theorem fnS_tk (E:PS→Option (Ex×PS)) (f:Nat) (s:PS):fnS tk E f s=fnS tk' E f s:=by
 unfold fnS;simp only[nameP_tk h,rB h,parS_tk h,blockS_tk h,stF_tk h]
theorem prgF_tk (E:PS→Option (Ex×PS)) (f:Nat):∀(g:Nat) (l:List Fn) (s:PS),qK tk E f g l s=qK tk' E f g l s
 | 0,_,_=>rfl
 | g+1,l,s=>by
  unfold qK;simp only[fnS_tk h,(h s.at_).kind,prgF_tk E f g]
theorem runP_tk (E:PS→Option (Ex×PS)) (f:Nat):runP tk E f=runP tk' E f:=by
 unfold runP;rw[prgF_tk h]
end
def tkM (l:Bs) (j:Nat):Tok:=if j<(sA l).length then tQ (sA l) j else tQ (tR l) j
theorem rtokL_pos (l:Bs):∃m,(sA l).length=m+1∧m≤l.length∧((tkM l m).kind=0∨(tkM l m).kind=4):=by
 obtain⟨m,h1,h2,h3,_⟩:=rtok_same _ 0 l rfl;refine⟨m,h1,h2,?_⟩;have:tkM l m=tQ (sT 0 l) m:=by unfold tkM;rw[Kq (by rw[sA,h1];omega)];rfl
 rw[this];exact h3
theorem rtok_bad:∀(k i:Nat) (s:Bs),s.length=k→∀t∈sT i s,t.kind=4→t.text≠sR:=by
 intro k
 induction k using Nat.strongRecOn with
 | _ k ih =>
  intro i s hk t ht h4
  cases h:s.drop (spanL vK s) with
  | nil=>rw[rtokD_end h] at ht;simp at ht;subst ht;cases h4
  | cons c r =>
   have hd:(c::r).length≤s.length:=by rw[← h,Ke];omega
   by_cases hb:(xP (c::r)).kind=4
   ·rw[rtokD_bad h hb] at ht;simp at ht;subst ht;dsimp only;intro he;have hl:=congrArg List.length he;unfold xP at hb hl;dsimp only at hb hl
    split at hb
    ·cases hb
    ·rename_i h1;rw[Kp h1] at hl
     split at hb
     ·rename_i h2;rw[Kq h2] at hl;dsimp only at hb hl
      split at hb
      ·rename_i h3;rw[hl] at h3;exact absurd h3 (by decide)
      ·split at hb<;>cases hb
     ·rename_i h2;rw[Kp h2] at hl;dsimp only at hb hl
      split at hb
      ·rename_i h3;rw[h3] at hl;cases hl
      ·cases hb
   ·have hl:=(tK c r).2 hb;have hl0:=(tK c r).1;rw[rtokD_next h hb] at ht;rcases List.mem_cons.1 ht with rfl|ht
    ·exact absurd h4 hb
    ·exact ih _ (by rw[Ke];omega) _ _ V t ht h4
theorem tok_ok (l:Bs) (j:Nat):((tQ (tR l) j).text=sR→(tQ (tR l) j).kind=3)∧((tQ (tR l) j).value≠0→(tQ (tR l) j).kind=1)∧(tQ (tR l) j).value≤4294967296:=by
 rcases Nat.lt_or_ge j (tR l).length with h|h
 ·have:=tokD_ok _ 0 l rfl _ (tkOf_mem h);exact⟨this.mem,this.num,this.val⟩
 ·have:tQ (tR l) j=noTok:=by unfold tQ;rw[Kb,List.getElem?_eq_none h];rfl
  rw[this];exact⟨fun h=>(by cases h),fun h=>absurd V h,by decide⟩
theorem tkM_same (l:Bs) (j:Nat):TkS (tkM l j) (tQ (tR l) j):=by
 obtain⟨m,h1,h2,h3,h4⟩:=rtok_same _ 0 l rfl;have ho:=tok_ok l j;unfold tkM
 split
 ·rename_i hj;have hs:=h4 j (by rw[sA,h1] at hj;omega);refine { hs with m1:=fun he=>?_,m2:=ho.1 }
  by_cases hk:(tQ (sT 0 l) j).kind=4
  ·exact absurd he (rtok_bad _ 0 l V _ (tkOf_mem hj) hk)
  ·have hs2:=hs.text hk;show (tQ (sT 0 l) j).kind=3;rw[hs.kind];exact ho.1 (hs2▸he)
 ·exact { kind:=rfl,at_:=rfl,val:=rfl,text:=fun _=>rfl,m1:=ho.1,m2:=ho.1 }
theorem tkM_num (l:Bs) (j:Nat) (h:4294967296≤(tkM l j).value):(tkM l j).kind=1:=by
 have hs:=tkM_same l j;rw[hs.kind];rw[hs.val] at h;exact (tok_ok l j).2.1 (by omega)
theorem tkM_mem (l:Bs) (j:Nat) (h:(tkM l j).text=sR):(tkM l j).kind=3:=(tkM_same l j).m1 h
theorem parse_agree (l:Bs) (hl:l.length≤16384):∃f r,f≤100000000∧qJ f l=some r∧runP (tkM l) ((rxF (tkM l) f).bin 0) f=some r:=by
 have h0:=tokL_end l;have hn:=tokL_len l;have hm:(tQ (tR l) ((tR l).length-1)).kind=0∨(tQ (tR l) ((tR l).length-1)).kind=4:=.inl h0;obtain⟨r,hr⟩:=runX_t (tk:=tQ (tR l)) hm (f:=400000) (by omega);obtain⟨r',hr'⟩:=runR_t (tk:=tQ (tR l)) hm (f:=400000) (by omega);have e:=run_same hr hr';subst e;refine⟨400000,r,by omega,?_,?_⟩
 ·unfold qJ;rw[Kp (by omega)];exact hr
 ·rw[runP_tk (tkM_same l),rxF_tk (tkM_same l)];exact hr'
end Go.Proofs.YtfpkpnkdnammnaaGreatDoor
namespace Go.Proofs.YtfpkpnkdnammnaaGreatDoor
open Go.RowKit
structure PnJ where
 k:Nat
 acc:List Bs
 s:PS
 A:Option Addr
 cap:Nat
 done:Bool
structure PnOk (E:PE) (f:Nat) (l:List Bs) (s':PS) (j:PnJ):Prop where
 run:(j.done=true∧j.acc=l∧j.s=s')∨(j.done=false∧pZ E.tk j.k j.acc j.s=some (l,s'))
 k:j.acc.length+j.k≤f
 at_:j.s.at_≤E.m
 cap:j.acc.length≤j.cap
structure PqOk (E:PE) (f:Nat) (l:List Fn) (s':PS) (n0:Nat) (j:PrJ):Prop where
 run:qK E.tk (EX E f) f j.k j.acc j.s=some (l,s')
 k:j.acc.length+j.k≤f
 at_:j.s.at_≤E.m
 cap:j.acc.length≤j.cap
 F:∀k,j.F k→n0≤k
theorem rkx_of {l:Bs}{g c m:Nat}(hm:(sA l).length=m+1) {F:Nat→Prop}{w:World}(h:RdF F (some ⟨g,0,none⟩) (xA (sA l)) w):RkX ⟨tkM l,g,c,m⟩ w:=fun j hj i v hv=>by
 have hj':j≤m:=hj;have e:tkM l j=tQ (sA l) j:=by unfold tkM;rw[Kq (by omega)]
 have h2:=rtoksC_at (l:=sA l) (i:=j) (by omega) (by rw[← e];exact hv);exact RdF.part h (Jn.1 h2).1 (by omega) h2
abbrev pgO (A:Option Addr) (len cap:Nat):Obj:=bk 32 [.slice A len cap]
theorem rparse_any (l:Bs) (hl:l.length≤1000000000000) (f:Nat) (hf:f≤100000000) (r:List Fn×Nat×Nat) (hbig:16384<l.length→r=([],0,2)) (hr:l.length≤16384→runP (tkM l) ((rxF (tkM l) f).bin 0) f=some r) (w_0:World):Calls Tryz.prog 32 #[.string ⟨l.toArray⟩] w_0 fun e w'=>∃A cap,e=.returned (.tuple #[.agg #[.slice A r.1.length cap],.int .i64 r.2.1,.int .i64 r.2.2])∧Ext w_0 w'∧PgK (fun k=>w_0.heap.size≤k) w' r.1 A cap:=by
 obtain⟨m,hm,hml,hmk⟩:=rtokL_pos l;refine yW (args:=[.string ⟨l.toArray⟩]) Tryz.func32 V 91 V (Jo V)<|Z1 0 V<|zC (H':=Hp (fun _=>False) w_0 [] [] (fun _=>True)) (fun u hu=>?_) ?_
 ·subst hu;exact Hp.start0
 refine zY<|zX<|zA .none V (yN (z:=Jb) (cs:=Jh) (by kernel_rfl) V) (fun b2=>?_);refine Za V V<|Za V V<|ZX<|zY<|zX<|Zm V V<|ZF V (vV V U9)<|ZF V (wR V V)<|ZT<|zQ V (fun h11=>?_) (fun h11=>?_)
 ·replace h11:=Jp h11;cases hbig (by omega);refine zY<|Z5r 0 2 3 4 11 V V V V V<|ZF V (yR [.slice none 0 0] [(0,1)] V (by kernel_rfl) (by kernel_rfl) V) ?_;refine ZR 0 V V V V V (by kernel_rfl) ?_;refine Za V V<|Za V V<|ZT<|zK<|zV<|sE V V V V 0 V Tryz.underlying32 V (by kernel_rfl) (fun w hw=>?_);exact⟨none,0,rfl,(Jr hw).ext,wD,[],RdF.nil,.nil⟩
 ·replace h11:=Jq h11;skip;have hr:=hr (by omega);obtain⟨fs,t,hp,hre⟩:=runP_some hr;refine zH<|zO<|zY<|Z5r 0 2 3 4 11 V V V V V<|Zm V V<|uB (ι:=Nat×Nat) (C:=fun i=>m+1≤i.2) (val:=fun i=>.slice (some ⟨i.1,0,none⟩) (m+1) i.2) (TT:=fun i F u=>RdF F (some ⟨i.1,0,none⟩) (xA (sA l)) u) .none V  (by kernel_rfl) V (fun _ h=>h.elim) (fun _=>RdF.lies) (fun w hw=>(rtokens_any l (by omega) w).mono fun e w' ⟨g,cap,e1,e2,e3,e4⟩=>⟨(g,cap),by rw[← hm];exact e2,by rw[← hm];exact e1,e3,e4⟩) (fun i FT hcT hFT=>?_);obtain⟨g,c⟩:=i;dsimp only at hcT ⊢;obtain⟨E,hEe⟩:∃E:PE,E=⟨tkM l,g,c,m⟩:=⟨_,rfl⟩;have hE:E.Or:=by subst hEe;exact⟨hmk,hcT,by show m≤1000000000;omega,tkM_num l,tkM_mem l⟩
  have hp:qK E.tk (EX E f) f f [] ⟨0,0,0⟩=some (fs,t):=by subst hEe;exact hp
  have hsm:=hE.sm;have hfe:=rx_all hE f hf;have hst:=rst_all hE hfe f hf;refine ZF V (yR [.slice none 0 0,.int .i64 0,.int .i64 0,.int .i64 0] [(0,1),(1,1),(2,1),(3,1)] V (by kernel_rfl) (by kernel_rfl) V) ?_;refine zA .none V (wN V V) (fun b16=>?_);refine Za V V<|ZX<|Z6r 0 2 3 4 5 11 V V V V V V<|zA .none V (yN (z:=Jb) (cs:=Jh) (by kernel_rfl) V) (fun b6=>?_);refine ZX<|yY<|xW (ι:={j:PrJ // PqOk E f fs t w_0.heap.size j}) (fun _=>[(2,.pointer (some ⟨b2,0,none⟩)),(5,.pointer (some ⟨b16,0,none⟩)),(6,.pointer (some ⟨b6,0,none⟩))]) (fun j=>Hp (fun _=>False) w_0 [(b6,pgO j.1.A j.1.acc.length j.1.cap),(b16,rO E j.1.s),(b2,pgO none 0 0)] [⟨.slice j.1.A j.1.acc.length j.1.cap,62,3,j.1.acc.length,j.1.xs⟩] (fun u=>FnsV j.1.F u j.1.acc j.1.xs∧RkX E u)) (fun j=>j.1.k) ⟨⟨f,[],⟨0,0,0⟩,none,0,[],fun _=>False⟩,⟨hp,by simp,Km _,Kn _,fun _ h=>h.elim⟩⟩ ?_ ?_ (fun j=>?_)
  ·exact .cons V<|.cons V<|.cons V<|.nil
  ·subst hEe;exact fun w h=>Hp.nil (Hp.weakX h fun u hu=>⟨.nil,rkx_of hm hu.1⟩) _ _
  obtain⟨⟨k,acc,s,A,cap,xs,F⟩,⟨hrun,hk,hs,hcap,hF⟩⟩:=j;dsimp only at hrun hk hs hcap hF ⊢
  cases k with
  | zero=>cases hrun
  | succ k=>?_
  refine zY<|xH (ι:={y:Bool // y=true↔s.err=0∧(E.tk s.at_).kind≠0}) (fun y=>[(2,.pointer (some ⟨b2,0,none⟩)),(5,.pointer (some ⟨b16,0,none⟩)),(6,.pointer (some ⟨b6,0,none⟩)),(35,.bool y.1)]) (fun _=>Hp (fun _=>False) w_0 [(b6,pgO A acc.length cap),(b16,rO E s),(b2,pgO none 0 0)] [⟨.slice A acc.length cap,62,3,acc.length,xs⟩] (fun u=>FnsV F u acc xs∧RkX E u)) ?_ (fun y=>?_)
  ·refine sV [0,1,2,3,4,5,6,7,8,9,10,11,12,13,14,15,16,17,18] _ (by kernel_rfl) (by kernel_rfl) Ky Ky (fun _ h=>HpG.drew h) (fun _ h=>h) ?_;refine Zd V V V (zR V)<|Zd V V V (yV V)<|Zd V V V (Y119x3 V) ?_;refine Zd V V V (zW 1 V V V U41 V)<|Zd V V V (yU V V)<|Zd V V V (zR V)<|tS 22 V (fun g5=>?_) (fun g5=>?_)
   ·replace g5:=Jx g5;refine Zg V V V V V (zR V)<|Zg V V V V V (yV V)<|Zg V V V V V (Y119x0 V) ?_;refine Zg V V V V V (zW 1 V V V U27 V)<|Zg V V V V V (zR V)<|Zg V V V V V (yV V)<|Zg V V V V V (Y119x1 V) ?_;refine Zg rfl rfl rfl rfl rfl (zW 1 rfl rfl rfl U3 rfl)<|Zg rfl rfl rfl rfl rfl (zM (es:=5) rfl rfl U27 (by kernel_rfl) rfl (by first|decide|omega|(simp;done)|(simp;omega)) rfl) ?_;refine Zg V V V V V (Y52x0 V) ?_;refine Zg V V V V V (yP (v:=.int .i64 (E.tk s.at_).kind) V U3 V (fun w h=>rkAt (HpG.x h).2 hs 0 V (by omega))) ?_;refine Zg V V V V V (wA V V)<|Zd V V V (zP V V)<|uO<|zF (ι:={y:Bool // y=true↔s.err=0∧(E.tk s.at_).kind≠0}) ⟨((E.tk s.at_).kind:Int) != 0,⟨fun h=>⟨by omega,fun hk=>by rw[hk] at h;cases h⟩,fun h=>by rw[bne_iff_ne];omega⟩⟩ (O4 V V V V) (fun w h=>h)
   ·replace g5:=yM g5;refine ZD V V<|ZD V V<|ZD V V<|ZD V V<|ZD V V<|ZD V V<|ZD V V<|ZD V V<|ZD V V<|ZD V V<|ZD V V<|ZD V V<|Zd V V V (zL V V)<|uO<|zF (ι:={y:Bool // y=true↔s.err=0∧(E.tk s.at_).kind≠0}) ⟨false,⟨fun h=>(by cases h),fun h=>by omega⟩⟩ (O4 V V V V) (fun w h=>h)
  ·obtain⟨yb,hyb⟩:=y;dsimp only;refine zQ V (fun h35=>?_) (fun h35=>?_)
   ·have hgo:=hyb.1 h35;obtain⟨x,s1,hx1,hx2⟩:=prgF_go hrun hgo;obtain⟨pl,sa,hl1,hx1⟩:=yO hx1;obtain⟨bd,sb,hb1,hx1⟩:=yO hx1;cases hx1;have h1:=vT hE.kind kFn hs;have h2:=sS hE.kind h1.1;have h3:=vT hE.kind [40] h2.1;have hsa:=parS_g hE.kind f _ h3.1 pl sa hl1;have hsb:=rW hE.kind (stF_g hE.kind (EX_g hE f) f) _ hsa.2.1 bd s1 hb1;refine zH<|zO<|yY<|zY<|zX<|Zm V V<|vA E hE s hs kFn b16 (fun _ h=>h.2) 1 .none V  V V ?_;refine ZX<|Z4r 2 5 6 35 V V V V<|Zm V V<|wl_rname E hE _ h1.1 b16 (fun _ h=>h.2) 1 .none V  V V ?_;refine ZF V (yR [.string ⟨#[]⟩,.slice none 0 0,.slice none 0 0] [(0,1),(1,1),(2,1)] V (by kernel_rfl) (by kernel_rfl) V) ?_;refine zA .none V (yN (z:=.agg #[.string ⟨#[]⟩,.slice none 0 0,.slice none 0 0]) (cs:=Jg) (by kernel_rfl) V) (fun b7=>?_);refine ZR 0 V V V V V (by kernel_rfl) ?_;refine ZX<|Z5r 2 5 6 7 35 V V V V V<|Zm V V<|vA E hE _ h2.1 [40] b16 (fun _ h=>h.2) 2 .none V  V V ?_;refine ZX<|Z5r 2 5 6 7 35 V V V V V<|Zm V V<|sD E hE _ h3.1 [41] b16 (fun _ h=>h.2) 2 .none V  V V ?_;refine Za V V<|ZX<|yY<|xW (ι:={j:PnJ // PnOk E f pl sa j}) (fun j=>[(2,.pointer (some ⟨b2,0,none⟩)),(5,.pointer (some ⟨b16,0,none⟩)),(6,.pointer (some ⟨b6,0,none⟩)),(7,.pointer (some ⟨b7,0,none⟩)),(8,.bool j.1.done)]) (fun j=>Hp (fun _=>False) w_0 [(b7,fnB (xO E.tk (xL E.tk kFn s)).1 j.1.A j.1.acc.length j.1.cap none 0 0),(b6,pgO A acc.length cap),(b16,rO E j.1.s),(b2,pgO none 0 0)] [⟨.slice j.1.A j.1.acc.length j.1.cap,9,1,j.1.acc.length,xT j.1.acc⟩,⟨.slice A acc.length cap,62,3,acc.length,xs⟩] (fun u=>FnsV F u acc xs∧RkX E u)) (fun j=>j.1.k) ⟨⟨f,[],bif isP E.tk [41] (xL E.tk [40] (xO E.tk (xL E.tk kFn s)).2) then adv (xL E.tk [40] (xO E.tk (xL E.tk kFn s)).2) else (xL E.tk [40] (xO E.tk (xL E.tk kFn s)).2),none,0,isP E.tk [41] (xL E.tk [40] (xO E.tk (xL E.tk kFn s)).2)⟩,⟨?_,by simp,?_,Kn _⟩⟩ ?_ ?_ (fun j=>?_)
    ·dsimp only;unfold parS at hl1
     cases hc:isP E.tk [41] (xL E.tk [40] (xO E.tk (xL E.tk kFn s)).2) with
     | true=>rw[hc] at hl1;cases hl1;exact .inl ⟨rfl,rfl,rfl⟩
     | false=>rw[hc] at hl1;exact .inr ⟨rfl,hl1⟩
    ·dsimp only
     cases hc:isP E.tk [41] (xL E.tk [40] (xO E.tk (xL E.tk kFn s)).2) with
     | true=>exact yA hE.kind h3.1 hc
     | false=>exact h3.1
    ·exact .cons V<|.cons V<|.cons V<|.cons V<|.cons V<|.nil
    ·exact fun w h=>Hp.nil h _ _
    obtain⟨⟨k2,pacc,sp,pA,pcap,done⟩,⟨prun,pk,ps,hpcap⟩⟩:=j;dsimp only at prun pk ps hpcap ⊢;refine zY<|xH (ι:={y:Bool // y=true↔done=false∧sp.err=0}) (fun y=>[(2,.pointer (some ⟨b2,0,none⟩)),(5,.pointer (some ⟨b16,0,none⟩)),(6,.pointer (some ⟨b6,0,none⟩)),(7,.pointer (some ⟨b7,0,none⟩)),(53,.bool y.1)]) (fun _=>Hp (fun _=>False) w_0 [(b7,fnB (xO E.tk (xL E.tk kFn s)).1 pA pacc.length pcap none 0 0),(b6,pgO A acc.length cap),(b16,rO E sp),(b2,pgO none 0 0)] [⟨.slice pA pacc.length pcap,9,1,pacc.length,xT pacc⟩,⟨.slice A acc.length cap,62,3,acc.length,xs⟩] (fun u=>FnsV F u acc xs∧RkX E u)) ?_ (fun y=>?_)
    ·refine zX<|Zm V V<|ZF V (xK V)<|Zm V V<|zG 47 V (fun g10=>?_) (fun g10=>?_)
     ·refine ZG V V V (zR V)<|ZG V V V (yV V)<|ZG V V V (Y119x3 V) ?_;refine ZG V V V (zW 2 V V V U41 V)<|ZG V V V (yU V V)<|ZF V (zP V V)<|zU<|zF (ι:={y:Bool // y=true↔done=false∧sp.err=0}) ⟨(sp.err:Int)==0,⟨fun h=>⟨by simpa using g10,by have:=Jx h;omega⟩,fun h=>by rw[beq_iff_eq];omega⟩⟩ (O5 V V V V V) (fun w h=>h)
     ·refine ZP V<|ZP V<|ZP V<|ZP V<|ZP V<|ZF V (zL V V)<|zU<|zF (ι:={y:Bool // y=true↔done=false∧sp.err=0}) ⟨false,⟨fun h=>(by cases h),fun h=>by rw[h.1] at g10;cases g10⟩⟩ (O5 V V V V V) (fun w h=>h)
    ·obtain⟨zb,hzb⟩:=y;dsimp only;refine zQ V (fun h53=>?_) (fun h53=>?_)
     ·obtain⟨hdn,hpe⟩:=hzb.1 h53
      have prun:pZ E.tk k2 pacc sp=some (pl,sa):=by
       rcases prun with ⟨h1,_⟩|⟨_,h2⟩
       ·rw[hdn] at h1;cases h1
       ·exact h2
      cases k2 with
      | zero=>cases prun
      | succ k2=>?_
      have hn:=sS hE.kind ps;have prun:=parF_go prun hpe;refine zH<|zO<|yY<|zY<|xV 5 [0,1,2,3,4] (Blk b7 (fnB (xO E.tk (xL E.tk kFn s)).1 pA pacc.length pcap none 0 0)) (by kernel_rfl) (by kernel_rfl) Blk.stab (fun w h=>HpG.blk h (k:=0) V) (fun n0 hn0=>?_);refine Zd V V V (Y62x1 V) ?_;refine Zd V V V (wF V V U22 V)<|Zd V V V (zR V)<|xZ V<|wd_turnE (ι:=Unit) (C:=fun _=>True) (val:=fun _=>.string ⟨(xO E.tk sp).1.toArray⟩) (ob':=fun _=>rO E (xO E.tk sp).2) .none V  2 (by kernel_rfl) V V (fun u u' h1 h2 hK=>h2.keep hK (HpG.ne h1 (i:=0) (j:=2) V V V)) (fun w h1 hw=>(rname_any E hE sp ps b16 w h1 (hw.x).2).mono fun e w' ⟨e1,e2,e3⟩=>⟨(),trivial,e1,e2,e3⟩) (fun _ _=>?_);refine xZ V<|wB ?_ .none V (fun k hk=>Jy hk hn0) (xU (z:=Ja) V V U22 (by kernel_rfl) (by kernel_rfl) V V) (fun b58 hb58=>?_)
      ·rfl
      refine xQ ?_;simp only[Ka,Kf];refine vS (z:=Ja) (bytes:=16) 0 0 .none V V V V V U22 (by kernel_rfl) V V V V V (by omega) (by omega) (fun a59 c59 h59=>?_);refine ZF V (Y62x1 V) ?_;refine ZS 1 V V V V V (by kernel_rfl) ?_;refine ZX<|Z5r 2 5 6 7 53 V V V V V<|Zm V V<|sD E hE (xO E.tk sp).2 hn.1 [41] b16 (fun _ h=>h.2) 3 .none V  V V ?_;refine Za V V<|ZX<|Z6r 2 5 6 7 8 53 V V V V V V<|Zm V V<|ZF V (xK V)<|ZT<|zQ V (fun h64=>?_) (fun h64=>?_)
      ·have h64:isP E.tk [41] (xO E.tk sp).2=false:=by simpa using h64
       rw[h64] at prun ⊢;refine Z7r 2 5 6 7 8 53 64 V V V V V V V<|Zm V V<|vA E hE (xO E.tk sp).2 hn.1 [44] b16 (fun _ h=>h.2) 3 .none V  V V ?_;refine zU<|zJ<|yF (ι:={j:PnJ // PnOk E f pl sa j}) ⟨⟨k2,pacc++[(xO E.tk sp).1],xL E.tk [44] (xO E.tk sp).2,some ⟨a59,0,none⟩,c59,false⟩,⟨.inr ⟨rfl,prun⟩,by rw[Jj];simp;omega,(vT hE.kind [44] hn.1).1,by rw[Jj];exact h59⟩⟩ (by show k2<k2+1;omega) (O5 V V V V V) (fun w h=>?_);dsimp only;rw[Jj,strs_one];exact Hp.drop h (Jt _ _) (Js _)
      ·have h64:isP E.tk [41] (xO E.tk sp).2=true:=by simpa using h64
       rw[h64] at prun ⊢;cases prun;refine zH<|zJ<|yF (ι:={j:PnJ // PnOk E f (pacc++[(xO E.tk sp).1]) (adv (xO E.tk sp).2) j}) ⟨⟨k2,pacc++[(xO E.tk sp).1],adv (xO E.tk sp).2,some ⟨a59,0,none⟩,c59,true⟩,⟨.inl ⟨rfl,rfl,rfl⟩,by rw[Jj];simp;omega,yA hE.kind hn.1 h64,by rw[Jj];exact h59⟩⟩ (by show k2<k2+1;omega) (O5 V V V V V) (fun w h=>?_);dsimp only;rw[Jj,strs_one];exact Hp.drop h (Jt _ _) (Js _)
     ·obtain⟨rfl,rfl⟩:pacc=pl∧sp=sa:=by
       rcases prun with ⟨_,h1,h2⟩|⟨h1,h2⟩
       ·exact⟨h1,h2⟩
       ·cases k2 with
        | zero=>cases h2
        | succ k2 =>
         have he:sp.err≠0:=fun h=>by rw[hzb.2 ⟨h1,h⟩] at h53;cases h53
         have:=parF_err h2 he;cases this;exact⟨rfl,rfl⟩
      refine yB<|zN<|zN<|yC<|zO<|zY<|zX<|Zm V V<|wl_rb E sp bd s1 b16 2 (fun _ h=>h.elim) (fun _ h=>h.2) (fun w h1 h2=>hst.blk sp bd s1 hb1 hsa.2.1 b16 w h1 h2) .none V  (by kernel_rfl) V V (fun A2 cap2 F2 hF2=>?_);refine ZF V (Y62x2 V) ?_;refine ZS 0 V V V V V (by kernel_rfl) ?_;refine ZT<|Z5r 2 5 6 7 53 V V V V V<|ZF V (Y32x0 V) ?_;refine ZF V (zW 1 V V V U30 V)<|ZF V (yX 0 V V U62 V (by kernel_rfl)) ?_;refine zA .none V (xU (z:=.agg #[.string ⟨#[]⟩,.slice none 0 0,.slice none 0 0]) V V U30 (by kernel_rfl) (by kernel_rfl) V V) (fun b73=>?_);refine vS (z:=.agg #[.string ⟨#[]⟩,.slice none 0 0,.slice none 0 0]) (bytes:=64) 1 0 .none V V V V V U30 (by kernel_rfl) V V V V V (by omega) (by omega) (fun a74 c74 h74=>?_);refine ZF V (Y32x0 V) ?_;refine ZS 2 V V V V V (by kernel_rfl) ?_;refine zU<|zJ<|vB (ι:={j:PrJ // PqOk E f fs t w_0.heap.size j}) fun w h=>?_;have hcp:=HpG.rowCp (j:=0) h rfl;obtain⟨F1,hF1,h9⟩:=Hp.rowX (Hp.drop h (.cons _ (.cons _ (Js _))) (Js _));refine⟨⟨⟨k,acc++[⟨(xO E.tk (xL E.tk kFn s)).1,pacc,bd⟩],s1,some ⟨a74,0,none⟩,c74,xs++sM ⟨(xO E.tk (xL E.tk kFn s)).1,pacc,bd⟩ ⟨pA,A2,pcap,cap2⟩,fun k=>F k∨F1 k∨F2 k⟩,⟨hx2,by rw[Jj];simp;omega,hsb.2.1,by rw[Jj];exact h74,fun k hk=>by rcases hk with h|h|h;exact hF k h;exact hF1 k h;exact hF2 k h⟩⟩,(by show k<k+1;omega),(O3 rfl rfl rfl),?_⟩;dsimp only;rw[Jj];exact Hp.weakX h9 fun u ⟨hu1,hu2,hu3,hu4⟩=>⟨FnsV.append (FnsV.lies.mono (fun _ h=>.inl h) hu3) (fnsK.one ⟨hcp,hu2.1,RdF.lies.mono (fun _ h=>.inr (.inl h)) hu1,(wV.lies.mono (fun _ h=>.inr (.inr h)) hu2).2⟩),hu4⟩
   ·obtain⟨rfl,rfl⟩:fs=acc∧t=s:=by have:=prgF_end hrun (fun h=>by rw[hyb.2 h] at h35;cases h35);cases this;exact⟨rfl,rfl⟩
    refine yB<|zN<|zN<|yC<|zO<|zY<|zY<|zX<|Zm V V<|Zn V V<|ZF V (Y119x3 V) ?_;refine ZF V (zW 1 V V V U41 V)<|ZF V (wA V V)<|ZT<|zQ V (fun h80=>?_) (fun h80=>?_)
    ·replace h80:=wK h80;have h80:t.err≠0:=by omega
     rw[Kq h80] at hre;subst hre;refine zY<|Z5 2 5 6 35 80 V V V V V<|wc_drawN [0,1,2,3,4,5,6,7,8,9,10,11] (Blk b16 (rO E t)) (by kernel_rfl) (by kernel_rfl) Blk.stab (fun w h=>HpG.blk h (k:=1) V) (fun n0 hn0=>?_);refine Zd V V V (yR [.slice none 0 0] [(0,1)] V (by kernel_rfl) (by kernel_rfl) V) ?_;refine Zd V V V (zR V)<|Zd V V V (yV V)<|Zd V V V (zZ (off:=2) (sz:=0) V Tryz.underlying119 (by kernel_rfl) V) ?_;refine Zd V V V (wF V V U3 V)<|Zd V V V (zR V)<|Zd V V V (yV V)<|Zd V V V (Y119x3 V) ?_;refine Zd V V V (wF V V U41 V)<|xZ V<|wd_storeRow 2 .none V V V V V (by kernel_rfl) (fun w w' h1 h2 hK=>h2.keep hK (HpG.ne h1 (i:=1) (j:=2) V V V)) ?_;refine Zd V V V (vC V)<|Zd V V V (vC V)<|wd_endH<|zO<|zK<|zV<|sE V V V V 2 V Tryz.underlying32 V (by kernel_rfl) (fun w hw=>?_);exact⟨none,0,rfl,(Jr hw).ext,wD,[],RdF.nil,.nil⟩
    ·replace h80:=vR h80;have h80:t.err=0:=by omega
     rw[Kp (by omega)] at hre;subst hre;refine zH<|zO<|zY<|Z5r 2 5 6 35 80 V V V V V<|ZF V (yX 0 V V U32 V (by kernel_rfl)) ?_;refine ZR 2 V V V V V (by kernel_rfl) ?_;refine Za V V<|Za V V<|ZT<|zK<|sE V V V V 2 V Tryz.underlying32 V (by kernel_rfl) (fun w hw=>?_);exact⟨A,cap,rfl,(Jr hw).ext,HpG.rowCp (j:=0) hw rfl,_,HpG.rowF (j:=0) hw rfl,FnsV.lies.mono hF (HpG.x hw).1⟩
end Go.Proofs.YtfpkpnkdnammnaaGreatDoor
