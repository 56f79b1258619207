import Derived.Test.YtfpkpnkdnammnaaGreatDoorSs1
set_option maxRecDepth 100000
set_option maxHeartbeats 4000000
namespace Go.Proofs.YtfpkpnkdnammnaaGreatDoor
open Go.RowKit
noncomputable def dq (p:Prop):Bool:=@decide p (Classical.propDecidable p)
theorem rG {p:Prop}(h:p):dq p=true:=by unfold dq;exact @decide_eq_true p (Classical.propDecidable p) h
theorem vM {p:Prop}(h:¬p):dq p=false:=by unfold dq;exact @decide_eq_false p (Classical.propDecidable p) h
theorem dq_iff {p:Prop}:dq p=true↔p:=⟨fun h=>Classical.byContradiction (fun hp=>by rw[vM hp] at h;cases h),rG⟩
theorem ex_ext {x y:Ex}(h1:x.kind=y.kind) (h2:x.n=y.n) (h3:x.name=y.name) (h4:x.kids=y.kids):x=y:=by
 cases x;cases y;simp only[Ex.kind,Ex.n,Ex.name,Ex.kids] at h1 h2 h3 h4;subst h1;subst h2;subst h3;subst h4;rfl
structure EE2 (F:Nat→Prop) (w:World) (a b:List Ex) (A B:Option Addr) (c d:Nat):Prop where
 ka:Cp a.length c∧∃x,RdF F A x w∧ExsV F w a x
 kb:Cp b.length d∧∃x,RdF F B x w∧ExsV F w b x
theorem EE2.lies {a b:List Ex}{A B:Option Addr}{c d:Nat}:Lies fun F w=>EE2 F w a b A B c d :=
 ⟨fun hk ⟨⟨p1,x,h1,h2⟩,⟨p2,y,h3,h4⟩⟩=>⟨⟨p1,x,RdF.lies.foot hk h1,ExsV.lies.foot hk h2⟩,⟨p2,y,RdF.lies.foot hk h3,ExsV.lies.foot hk h4⟩⟩,fun ⟨⟨p1,x,h1,h2⟩,⟨p2,y,h3,h4⟩⟩=>⟨⟨p1,x,RdF.lies.lt h1,ExsV.lies.lt h2⟩,⟨p2,y,RdF.lies.lt h3,ExsV.lies.lt h4⟩⟩,fun hF ⟨⟨p1,x,h1,h2⟩,⟨p2,y,h3,h4⟩⟩=>⟨⟨p1,x,RdF.lies.mono hF h1,ExsV.lies.mono hF h2⟩,⟨p2,y,RdF.lies.mono hF h3,ExsV.lies.mono hF h4⟩⟩⟩
def SE (a:List Ex):Prop:=∀(b:List Ex) (F:Nat→Prop) (A B:Option Addr) (c d:Nat) (w:World),EE2 F w a b A B c d →
 Calls Tryz.prog 89 #[.slice A a.length c,.slice B b.length d] w fun e w'=>e=.returned (.bool (dq (a=b)))∧Ext w w'
theorem sameE_step (a:List Ex) (IH:∀x∈a,SE x.kids):SE a:=by
 intro b F A B c d w_0 h;obtain⟨⟨pa,ca,ra,va⟩,⟨pb,cb,rb,vb⟩⟩:=h;have hla:=pa.lt;have hlb:=pb.lt
 have hA:0<a.length→∃b off,A=some ⟨b,off,none⟩:=fun h0=>by
  obtain⟨b,off,e,_⟩:=ra (by rw[va.len];omega);exact⟨b,off,e⟩
 have hB:0<b.length→∃b off,B=some ⟨b,off,none⟩:=fun h0=>by
  obtain⟨b,off,e,_⟩:=rb (by rw[vb.len];omega);exact⟨b,off,e⟩
 refine yW (args:=[.slice A a.length c,.slice B b.length d]) Tryz.func89 V 70 V (Jn V)<|Z2 0 1 V V<|zD (H':=Hp (fun _=>False) w_0 [] [] (xF F w_0)) (fun u hu=>?_) ?_
 ·subst hu;exact Hp.startSame
 refine zY<|zX<|Za V V<|ZX<|zY<|zX<|Zm V V<|ZF V (yO V U55)<|Zm V V<|ZF V (yO V U55)<|ZF V (vC V V)<|ZT<|zQ V (fun h11=>?_) (fun h11=>?_)
 ·replace h11:=vN h11;refine zY<|Z4r 0 1 4 11 V V V V<|Za V V<|ZT<|zK<|zV<|zI V V (fun w hw=>?_);exact⟨by rw[vM (fun e=>by subst e;simp at h11)],(Jq hw).ext⟩
 ·replace h11:=uM h11;have hl:a.length=b.length:=by omega
  refine zH<|zO<|zY<|zY<|Z4r 0 1 4 11 V V V V<|Za V V<|ZT<|yY<|xY (ι:={i:Nat // i≤a.length∧a.take i=b.take i}) (fun i=>[(0,.slice A a.length c),(1,.slice B b.length d),(5,.int .i64 i.1)]) (fun _=>Hp (fun _=>False) w_0 [] [] (xF F w_0)) (fun i=>a.length-i.1) ⟨0,Kl _,by simp⟩ ?_ ?_ (fun i=>?_)
  ·exact .cons V<|.cons V<|.cons V<|.nil
  ·exact fun w h=>h
  obtain⟨i,hi,htk⟩:=i;dsimp only;refine zY<|zY<|zX<|Zm V V<|Zm V V<|ZF V (yO V U55)<|ZF V (xX V V)<|ZT<|zQ V (fun hc=>?_) (fun hc=>?_)
  ·replace hc:=Jo hc;have hil:i<a.length:=by omega
   obtain⟨g1,o1,rfl⟩:=hA (by omega);obtain⟨g2,o2,rfl⟩:=hB (by omega);obtain⟨x,hx⟩:∃x,a[i]? = some x:=⟨a[i],Jt hil⟩;obtain⟨y,hy⟩:∃y,b[i]? = some y:=⟨b[i]'(by omega),Jt (by omega)⟩;obtain⟨A1,cap1,hfix1⟩:=va.fix hx;have hk1:=(hfix1 F w_0 va).1;have hc1:=(hfix1 F w_0 va).2;obtain⟨A2,cap2,hfix2⟩:=vb.fix hy;have hk2:=(hfix2 F w_0 vb).1;have hc2:=(hfix2 F w_0 vb).2;have hab:a=b→x=y:=fun e=>by subst e;rw[hx] at hy;exact Option.some.inj hy
   have hkk:EE2 F w_0 x.kids y.kids A1 A2 cap1 cap2:=⟨hk1,hk2⟩;refine zH<|zO<|zY<|yY<|zY<|Z4 0 1 5 15 V V V V<|xJ 11 [0,1,2,3,4,5,6,7,8,9,10] (xF F w_0) (by kernel_rfl) (by kernel_rfl) xF.stab (fun w h=>HpG.x h) (fun n0 hn0=>?_);refine Zd rfl rfl rfl (zR rfl)<|Zd rfl rfl rfl (zR rfl)<|Zd rfl rfl rfl (zN (es:=4) rfl rfl U55 (by kernel_rfl) rfl (by first|decide|omega|(simp;done)|(simp;omega)) rfl) ?_;refine Zd V V V (Y57x3 V) ?_;refine Zd V V V (yR (v:=.slice A1 x.kids.length cap1) V U55 V (fun w h=>RdF.part (h.get RdF.lies ra) (Jm.1 (hc1 3 _ V)).1 (by omega) (hc1 3 _ V))) ?_;refine Zd rfl rfl rfl (zR rfl)<|Zd rfl rfl rfl (zR rfl)<|Zd rfl rfl rfl (zN (es:=4) rfl rfl U55 (by kernel_rfl) rfl (by first|decide|omega|(simp;done)|(simp;omega)) rfl) ?_;refine Zd V V V (Y57x3 V) ?_;refine Zd V V V (yR (v:=.slice A2 y.kids.length cap2) V U55 V (fun w h=>RdF.part (h.get RdF.lies rb) (Jm.1 (hc2 3 _ V)).1 (by omega) (hc2 3 _ V))) ?_;refine xS V<|uI .none V  (v:=.bool (dq (x.kids=y.kids))) (by kernel_rfl) V (fun w w' h hx=>h.ext hx) (fun w hw=>IH x (Ju hx) y.kids F A1 A2 cap1 cap2 w ((HpG.x hw).get EE2.lies hkk)) ?_;refine wP ?_;simp only[Jz,Ke];refine Za V V<|ZX<|Z5 0 1 5 6 15 V V V V V<|rE [0,1,2,3,4,5,6,7,8,9,10,11,12,13,14,15,16,17,18,19,20,21,22,23,24,25,26,27,28,29,30,31,32,33,34,35,36,37,38,39,40] (xF F w_0) (by kernel_rfl) (by kernel_rfl) Ky xF.stab (fun _ h=>HpG.drew h) (fun w h=>HpG.x h) ?_;refine Zd V V V (zR V)<|Zd V V V (xM V)<|Zd V V V (zR V)<|sT 31 V (fun g3=>?_) (fun g3=>?_)
   ·refine ZD V V<|ZD V V<|ZD V V<|ZD V V<|ZD V V<|ZD V V<|ZD V V<|ZD V V<|ZD V V<|ZD V V<|ZD V V<|Zd V V V (zP V V)<|Zd V V V (zR V)<|ZD V V<|ZD V V<|ZD V V<|ZD V V<|ZD V V<|ZD V V<|ZD V V<|ZD V V<|ZD V V<|ZD V V<|ZD V V<|Zd V V V (zP V V)<|Zd V V V (zR V)<|ZD V V<|ZD V V<|ZD V V<|ZD V V<|ZD V V ?_;refine ZD V V<|ZD V V<|ZD V V<|ZD V V<|ZD V V<|ZD V V<|Zd V V V (zP V V)<|tQ<|zO<|wC V<|zY<|Z6r 0 1 5 6 15 69 V V V V V V<|Za V V<|ZT<|zK<|zT<|zV<|zV<|zT<|zV<|zI V V (fun w hw=>?_);exact⟨by rw[vM (fun e=>by have:=hab e;subst this;rw[rG rfl] at g3;cases g3)],(Jq hw).ext⟩
   ·refine xS rfl<|wD rfl (.some rfl rfl) rfl (zR rfl)<|Zg rfl rfl rfl rfl rfl (zR rfl)<|Zg rfl rfl rfl rfl rfl (zN (es:=4) rfl rfl U55 (by kernel_rfl) rfl (by first|decide|omega|(simp;done)|(simp;omega)) rfl) ?_;refine Zg V V V V V (Y57x0 V) ?_;refine xS V ?_;(refine wD ?_ (.some rfl rfl) rfl (yR (v:=.int .i64 x.kind) rfl U3 rfl (fun w h=>RdF.part (h.get RdF.lies ra) (Jm.1 (hc1 0 _ rfl)).1 (by omega) (hc1 0 _ rfl))) ?_;(· rfl);skip);refine Zg rfl rfl rfl rfl rfl (zR rfl)<|Zg rfl rfl rfl rfl rfl (zR rfl)<|Zg rfl rfl rfl rfl rfl (zN (es:=4) rfl rfl U55 (by kernel_rfl) rfl (by first|decide|omega|(simp;done)|(simp;omega)) rfl) ?_;refine Zg V V V V V (Y57x0 V) ?_;refine xS V ?_;(refine wD ?_ (.some rfl rfl) rfl (yR (v:=.int .i64 y.kind) rfl U3 rfl (fun w h=>RdF.part (h.get RdF.lies rb) (Jm.1 (hc2 0 _ rfl)).1 (by omega) (hc2 0 _ rfl))) ?_;(· rfl);skip);refine Zg V V V V V (vC V V)<|Zd V V V (zL V V)<|Zd V V V (zR V)<|sT 44 V (fun g16=>?_) (fun g16=>?_)
    ·replace g16:=vN g16;refine ZD V V<|ZD V V<|ZD V V<|ZD V V<|ZD V V<|ZD V V<|ZD V V<|ZD V V<|ZD V V<|ZD V V<|ZD V V<|Zd V V V (zP V V)<|Zd V V V (zR V)<|ZD V V<|ZD V V<|ZD V V<|ZD V V<|ZD V V<|ZD V V<|ZD V V<|ZD V V<|ZD V V<|ZD V V<|ZD V V<|Zd V V V (zP V V)<|tQ<|zO<|wC V<|zY<|Z6r 0 1 5 6 15 69 V V V V V V<|Za V V ?_;refine ZT<|zK<|zT<|zV<|zV<|zT<|zV<|zI V V (fun w hw=>?_);exact⟨by rw[vM (fun e=>by have:=hab e;subst this;simp at g16)],(Jq hw).ext⟩
    ·replace g16:=uM g16;refine Zg rfl rfl rfl rfl rfl (zR rfl)<|Zg rfl rfl rfl rfl rfl (zR rfl)<|Zg rfl rfl rfl rfl rfl (zN (es:=4) rfl rfl U55 (by kernel_rfl) rfl (by first|decide|omega|(simp;done)|(simp;omega)) rfl) ?_;refine Zg V V V V V (Y57x1 V) ?_;refine xS V ?_;(refine wD ?_ (.some rfl rfl) rfl (yR (v:=.int .u32 x.n) rfl U50 rfl (fun w h=>RdF.part (h.get RdF.lies ra) (Jm.1 (hc1 1 _ rfl)).1 (by omega) (hc1 1 _ rfl))) ?_;(· rfl);skip);refine Zg rfl rfl rfl rfl rfl (zR rfl)<|Zg rfl rfl rfl rfl rfl (zR rfl)<|Zg rfl rfl rfl rfl rfl (zN (es:=4) rfl rfl U55 (by kernel_rfl) rfl (by first|decide|omega|(simp;done)|(simp;omega)) rfl) ?_;refine Zg V V V V V (Y57x1 V) ?_;refine xS V ?_;(refine wD ?_ (.some rfl rfl) rfl (yR (v:=.int .u32 y.n) rfl U50 rfl (fun w h=>RdF.part (h.get RdF.lies rb) (Jm.1 (hc2 1 _ rfl)).1 (by omega) (hc2 1 _ rfl))) ?_;(· rfl);skip);refine Zg V V V V V (vC V V)<|Zd V V V (zL V V)<|Zd V V V (zR V)<|sT 57 V (fun g29=>?_) (fun g29=>?_)
     ·replace g29:=vN g29;refine ZD V V<|ZD V V<|ZD V V<|ZD V V<|ZD V V<|ZD V V<|ZD V V<|ZD V V<|ZD V V<|ZD V V<|ZD V V<|Zd V V V (zP V V)<|tQ<|zO<|wC V<|zY<|Z6r 0 1 5 6 15 69 V V V V V V<|Za V V<|ZT<|zK<|zT<|zV<|zV<|zT<|zV<|zI V V (fun w hw=>?_);exact⟨by rw[vM (fun e=>by have:=hab e;subst this;simp at g29)],(Jq hw).ext⟩
     ·replace g29:=uM g29;refine Zg rfl rfl rfl rfl rfl (zR rfl)<|Zg rfl rfl rfl rfl rfl (zR rfl)<|Zg rfl rfl rfl rfl rfl (zN (es:=4) rfl rfl U55 (by kernel_rfl) rfl (by first|decide|omega|(simp;done)|(simp;omega)) rfl) ?_;refine Zg V V V V V (Y57x2 V) ?_;refine xS V ?_;(refine wD ?_ (.some rfl rfl) rfl (yR (v:=.string ⟨x.name.toArray⟩) rfl U9 rfl (fun w h=>RdF.part (h.get RdF.lies ra) (Jm.1 (hc1 2 _ rfl)).1 (by omega) (hc1 2 _ rfl))) ?_;(· rfl);skip);refine Zg rfl rfl rfl rfl rfl (zR rfl)<|Zg rfl rfl rfl rfl rfl (zR rfl)<|Zg rfl rfl rfl rfl rfl (zN (es:=4) rfl rfl U55 (by kernel_rfl) rfl (by first|decide|omega|(simp;done)|(simp;omega)) rfl) ?_;refine Zg V V V V V (Y57x2 V) ?_;refine xS V ?_;(refine wD ?_ (.some rfl rfl) rfl (yR (v:=.string ⟨y.name.toArray⟩) rfl U9 rfl (fun w h=>RdF.part (h.get RdF.lies rb) (Jm.1 (hc2 2 _ rfl)).1 (by omega) (hc2 2 _ rfl))) ?_;(· rfl);skip);refine Zg V V V V V (sF V V U9)<|Zd V V V (zL V V)<|tQ<|zO<|zQ V (fun h69=>?_) (fun h69=>?_)
      ·refine zY<|Z6r 0 1 5 6 15 69 V V V V V V<|Za V V<|ZT<|zK<|zT<|zV<|zV<|zT<|zV<|zI V V (fun w hw=>?_);exact⟨by rw[vM (fun e=>by have:=hab e;subst this;simp at h69)],(Jq hw).ext⟩
      ·refine zH<|zJ<|zO<|Z6r 0 1 5 6 15 69 V V V V V V<|Zm V V<|ZF V (yI V V (i64_in _ (by omega) (by omega))) ?_;refine Za V V<|zU ?_
       have hxy:x=y:=by
        have e1:x.kids=y.kids:=dq_iff.1 (by simpa using g3);have e2:x.kind=y.kind:=by first|omega|(simp at g16;omega)
        have e3:x.n=y.n:=by first|omega|(simp at g29;omega)
        have e4:x.name=y.name:=by simpa using h69
        exact ex_ext e2 e3 e4 e1
       refine yE (ι:={i:Nat // i≤a.length∧a.take i=b.take i}) ⟨i+1,hil,by rw[xK hx,xK hy,htk,hxy]⟩ (by show a.length-(i+1)<a.length-i;omega) (O3 V V V) (fun w h=>h)
  ·replace hc:=Jp hc;have hie:i=a.length:=by omega
   subst hie;have hab:a=b:=by rw[Kh,hl,Kh] at htk;exact htk
   refine yB<|zM<|zM<|yC<|zO<|zY<|Z4r 0 1 5 15 V V V V<|Za V V<|ZT<|zK<|zI V V (fun w hw=>?_);exact⟨by rw[rG hab],(Jq hw).ext⟩
theorem sameE_all:∀(N:Nat) (x:Ex),SizeOf.sizeOf x<N→SE x.kids
 | 0,_,h=>absurd h (by omega)
 | N+1,.mk k n s kids,h=>sameE_step kids fun y hy=>sameE_all N y (by have:=tY (k:=k) (n:=n) (s:=s) hy;omega)
theorem sameE_any (a:List Ex):SE a:=sameE_step a fun x _=>sameE_all _ x (Nat.lt_succ_self _)
theorem st_ext {x y:St}(h1:x.kind=y.kind) (h3:x.name=y.name) (h4:x.exprs=y.exprs) (h5:x.body=y.body) (h6:x.els=y.els):x=y:=by
 cases x;cases y;simp only[St.kind,St.name,St.exprs,St.body,St.els] at h1 h3 h4 h5 h6;subst h1;subst h3;subst h4;subst h5;subst h6;rfl
structure SS2 (F:Nat→Prop) (w:World) (a b:List St) (A B:Option Addr) (c d:Nat):Prop where
 ka:wO F w a A c
 kb:wO F w b B d
theorem SS2.lies {a b:List St}{A B:Option Addr}{c d:Nat}:Lies fun F w=>SS2 F w a b A B c d :=
 ⟨fun hk ⟨a,b⟩=>⟨wO.lies.foot hk a,wO.lies.foot hk b⟩,fun ⟨a,b⟩=>⟨wO.lies.lt a,wO.lies.lt b⟩,fun hF ⟨a,b⟩=>⟨wO.lies.mono hF a,wO.lies.mono hF b⟩⟩
def SM (a:List St):Prop:=∀(b:List St) (F:Nat→Prop) (A B:Option Addr) (c d:Nat) (w:World),SS2 F w a b A B c d →
 Calls Tryz.prog 51 #[.slice A a.length c,.slice B b.length d] w fun e w'=>e=.returned (.bool (dq (a=b)))∧Ext w w'
theorem sameS_step (a:List St) (IH:∀x∈a,SM x.body∧SM x.els):SM a:=by
 intro b F A B c d w_0 h;obtain⟨⟨pa,ca,ra,va⟩,⟨pb,cb,rb,vb⟩⟩:=h;have hla:=pa.lt;have hlb:=pb.lt
 have hA:0<a.length→∃b off,A=some ⟨b,off,none⟩:=fun h0=>by
  obtain⟨b,off,e,_⟩:=ra (by rw[va.len];omega);exact⟨b,off,e⟩
 have hB:0<b.length→∃b off,B=some ⟨b,off,none⟩:=fun h0=>by
  obtain⟨b,off,e,_⟩:=rb (by rw[vb.len];omega);exact⟨b,off,e⟩
 refine yW (args:=[.slice A a.length c,.slice B b.length d]) Tryz.func51 V 89 V (Jn V)<|Z2 0 1 V V<|zD (H':=Hp (fun _=>False) w_0 [] [] (xF F w_0)) (fun u hu=>?_) ?_
 ·subst hu;exact Hp.startSame
 refine zY<|zX<|Za V V<|ZX<|zY<|zX<|Zm V V<|ZF V (yO V U58)<|Zm V V<|ZF V (yO V U58)<|ZF V (vC V V)<|ZT<|zQ V (fun h13=>?_) (fun h13=>?_)
 ·replace h13:=vN h13;refine zY<|Z4r 0 1 4 13 V V V V<|Za V V<|ZT<|zK<|zV<|zI V V (fun w hw=>?_);exact⟨by rw[vM (fun e=>by subst e;simp at h13)],(Jq hw).ext⟩
 ·replace h13:=uM h13;have hl:a.length=b.length:=by omega
  refine zH<|zO<|zY<|zY<|Z4r 0 1 4 13 V V V V<|Za V V<|ZT<|yY<|xY (ι:={i:Nat // i≤a.length∧a.take i=b.take i}) (fun i=>[(0,.slice A a.length c),(1,.slice B b.length d),(5,.int .i64 i.1)]) (fun _=>Hp (fun _=>False) w_0 [] [] (xF F w_0)) (fun i=>a.length-i.1) ⟨0,Kl _,by simp⟩ ?_ ?_ (fun i=>?_)
  ·exact .cons V<|.cons V<|.cons V<|.nil
  ·exact fun w h=>h
  obtain⟨i,hi,htk⟩:=i;dsimp only;refine zY<|zY<|zX<|Zm V V<|Zm V V<|ZF V (yO V U58)<|ZF V (xX V V)<|ZT<|zQ V (fun hc=>?_) (fun hc=>?_)
  ·replace hc:=Jo hc;have hil:i<a.length:=by omega
   obtain⟨g1,o1,rfl⟩:=hA (by omega);obtain⟨g2,o2,rfl⟩:=hB (by omega);obtain⟨x,hx⟩:∃x,a[i]? = some x:=⟨a[i],Jt hil⟩;obtain⟨y,hy⟩:∃y,b[i]? = some y:=⟨b[i]'(by omega),Jt (by omega)⟩;obtain⟨a1,hfix1⟩:=va.fix hx;have hk1:=(hfix1 F w_0 va).1;have hc1:=(hfix1 F w_0 va).2;obtain⟨a2,hfix2⟩:=vb.fix hy;have hk2:=(hfix2 F w_0 vb).1;have hc2:=(hfix2 F w_0 vb).2;have hab:a=b→x=y:=fun e=>by subst e;rw[hx] at hy;exact Option.some.inj hy
   have hke:EE2 F w_0 x.exprs y.exprs a1.A1 a2.A1 a1.c1 a2.c1:=⟨⟨hk1.p1,hk1.h1⟩,⟨hk2.p1,hk2.h1⟩⟩;have hkb:SS2 F w_0 x.body y.body a1.A2 a2.A2 a1.c2 a2.c2:=⟨⟨hk1.p2,hk1.h2⟩,⟨hk2.p2,hk2.h2⟩⟩;have hkc:SS2 F w_0 x.els y.els a1.A3 a2.A3 a1.c3 a2.c3:=⟨⟨hk1.p3,hk1.h3⟩,⟨hk2.p3,hk2.h3⟩⟩;have hI:=IH x (Ju hx);refine zH<|zO<|zY<|yY<|zY<|Z4 0 1 5 17 V V V V<|xJ 11 [0,1,2,3,4,5,6,7,8,9,10] (xF F w_0) (by kernel_rfl) (by kernel_rfl) xF.stab (fun w h=>HpG.x h) (fun n0 hn0=>?_);refine Zd rfl rfl rfl (zR rfl)<|Zd rfl rfl rfl (zR rfl)<|Zd rfl rfl rfl (zN (es:=5) rfl rfl U58 (by kernel_rfl) rfl (by first|decide|omega|(simp;done)|(simp;omega)) rfl) ?_;refine Zd V V V (Y60x2 V) ?_;refine Zd V V V (yR (v:=.slice a1.A1 x.exprs.length a1.c1) V U55 V (fun w h=>RdF.part (h.get RdF.lies ra) (Jm.1 (hc1 2 _ V)).1 (by omega) (hc1 2 _ V))) ?_;refine Zd rfl rfl rfl (zR rfl)<|Zd rfl rfl rfl (zR rfl)<|Zd rfl rfl rfl (zN (es:=5) rfl rfl U58 (by kernel_rfl) rfl (by first|decide|omega|(simp;done)|(simp;omega)) rfl) ?_;refine Zd V V V (Y60x2 V) ?_;refine Zd V V V (yR (v:=.slice a2.A1 y.exprs.length a2.c1) V U55 V (fun w h=>RdF.part (h.get RdF.lies rb) (Jm.1 (hc2 2 _ V)).1 (by omega) (hc2 2 _ V))) ?_;refine xS V<|uI .none V  (v:=.bool (dq (x.exprs=y.exprs))) (by kernel_rfl) V (fun w w' h hx=>h.ext hx) (fun w hw=>sameE_any x.exprs y.exprs F a1.A1 a2.A1 a1.c1 a2.c1 w ((HpG.x hw).get EE2.lies hke)) ?_;refine wP ?_;simp only[Jz,Ke];refine Za V V<|ZX<|Z5 0 1 5 6 17 V V V V V<|xJ 11 [0,1,2,3,4,5,6,7,8,9,10] (xF F w_0) (by kernel_rfl) (by kernel_rfl) xF.stab (fun w h=>HpG.x h) (fun n0 hn0=>?_);refine Zd rfl rfl rfl (zR rfl)<|Zd rfl rfl rfl (zR rfl)<|Zd rfl rfl rfl (zN (es:=5) rfl rfl U58 (by kernel_rfl) rfl (by first|decide|omega|(simp;done)|(simp;omega)) rfl) ?_;refine Zd V V V (Y60x3 V) ?_;refine Zd V V V (yR (v:=.slice a1.A2 x.body.length a1.c2) V U58 V (fun w h=>RdF.part (h.get RdF.lies ra) (Jm.1 (hc1 3 _ V)).1 (by omega) (hc1 3 _ V))) ?_;refine Zd rfl rfl rfl (zR rfl)<|Zd rfl rfl rfl (zR rfl)<|Zd rfl rfl rfl (zN (es:=5) rfl rfl U58 (by kernel_rfl) rfl (by first|decide|omega|(simp;done)|(simp;omega)) rfl) ?_;refine Zd V V V (Y60x3 V) ?_;refine Zd V V V (yR (v:=.slice a2.A2 y.body.length a2.c2) V U58 V (fun w h=>RdF.part (h.get RdF.lies rb) (Jm.1 (hc2 3 _ V)).1 (by omega) (hc2 3 _ V))) ?_
   refine xS V<|uI .none V  (v:=.bool (dq (x.body=y.body))) (by kernel_rfl) V (fun w w' h hx=>h.ext hx) (fun w hw=>hI.1 y.body F a1.A2 a2.A2 a1.c2 a2.c2 w ((HpG.x hw).get SS2.lies hkb)) ?_;refine wP ?_;simp only[Jz,Ke];refine Za V V<|ZX<|Z6 0 1 5 6 7 17 V V V V V V<|xJ 11 [0,1,2,3,4,5,6,7,8,9,10] (xF F w_0) (by kernel_rfl) (by kernel_rfl) xF.stab (fun w h=>HpG.x h) (fun n0 hn0=>?_);refine Zd rfl rfl rfl (zR rfl)<|Zd rfl rfl rfl (zR rfl)<|Zd rfl rfl rfl (zN (es:=5) rfl rfl U58 (by kernel_rfl) rfl (by first|decide|omega|(simp;done)|(simp;omega)) rfl) ?_;refine Zd V V V (Y60x4 V) ?_;refine Zd V V V (yR (v:=.slice a1.A3 x.els.length a1.c3) V U58 V (fun w h=>RdF.part (h.get RdF.lies ra) (Jm.1 (hc1 4 _ V)).1 (by omega) (hc1 4 _ V))) ?_;refine Zd rfl rfl rfl (zR rfl)<|Zd rfl rfl rfl (zR rfl)<|Zd rfl rfl rfl (zN (es:=5) rfl rfl U58 (by kernel_rfl) rfl (by first|decide|omega|(simp;done)|(simp;omega)) rfl) ?_;refine Zd V V V (Y60x4 V) ?_;refine Zd V V V (yR (v:=.slice a2.A3 y.els.length a2.c3) V U58 V (fun w h=>RdF.part (h.get RdF.lies rb) (Jm.1 (hc2 4 _ V)).1 (by omega) (hc2 4 _ V))) ?_;refine xS V<|uI .none V  (v:=.bool (dq (x.els=y.els))) (by kernel_rfl) V (fun w w' h hx=>h.ext hx) (fun w hw=>hI.2 y.els F a1.A3 a2.A3 a1.c3 a2.c3 w ((HpG.x hw).get SS2.lies hkc)) ?_;refine wP ?_;simp only[Jz,Ke];refine Za V V<|ZX<|Z7 0 1 5 6 7 8 17 V V V V V V V<|rE [0,1,2,3,4,5,6,7,8,9,10,11,12,13,14,15,16,17,18,19,20,21,22,23,24,25,26,27,28,29,30,31,32,33,34,35] (xF F w_0) (by kernel_rfl) (by kernel_rfl) Ky xF.stab (fun _ h=>HpG.drew h) (fun w h=>HpG.x h) ?_;refine Zd V V V (zR V)<|Zd V V V (xM V)<|Zd V V V (zR V)<|sT 55 V (fun g3=>?_) (fun g3=>?_)
   ·refine ZD V V<|ZD V V<|Zd V V V (zP V V)<|Zd V V V (zR V)<|ZD V V<|ZD V V<|Zd V V V (zP V V)<|Zd V V V (zR V)<|ZD V V<|ZD V V<|ZD V V<|ZD V V<|ZD V V<|ZD V V<|ZD V V<|ZD V V<|ZD V V<|ZD V V<|ZD V V<|Zd V V V (zP V V)<|Zd V V V (zR V)<|ZD V V<|ZD V V<|ZD V V<|ZD V V<|ZD V V<|ZD V V<|ZD V V<|ZD V V<|ZD V V<|ZD V V ?_;refine ZD V V<|Zd V V V (zP V V)<|tQ<|zO<|wC V<|zY<|Z8r 0 1 5 6 7 8 17 88 V V V V V V V V<|Za V V<|ZT<|zK<|zT<|zV<|zV<|zT<|zV<|zI V V (fun w hw=>?_);exact⟨by rw[vM (fun e=>by have:=hab e;subst this;rw[rG rfl] at g3;cases g3)],(Jq hw).ext⟩
   ·refine xS V<|wD V (.some V V) V (zR V)<|Zg V V V V V (xM V)<|Zd V V V (zL V V)<|Zd V V V (zR V)<|sT 59 V (fun g7=>?_) (fun g7=>?_)
    ·refine ZD V V<|ZD V V<|Zd V V V (zP V V)<|Zd V V V (zR V)<|ZD V V<|ZD V V<|ZD V V<|ZD V V<|ZD V V<|ZD V V<|ZD V V<|ZD V V<|ZD V V<|ZD V V<|ZD V V<|Zd V V V (zP V V)<|Zd V V V (zR V)<|ZD V V<|ZD V V<|ZD V V<|ZD V V<|ZD V V<|ZD V V<|ZD V V<|ZD V V<|ZD V V<|ZD V V<|ZD V V<|Zd V V V (zP V V)<|tQ<|zO ?_;refine wC V<|zY<|Z8r 0 1 5 6 7 8 17 88 V V V V V V V V<|Za V V<|ZT<|zK<|zT<|zV<|zV<|zT<|zV<|zI V V (fun w hw=>?_);exact⟨by rw[vM (fun e=>by have:=hab e;subst this;rw[rG rfl] at g7;cases g7)],(Jq hw).ext⟩
    ·refine xS V<|wD V (.some V V) V (zR V)<|Zg V V V V V (xM V)<|Zd V V V (zL V V)<|Zd V V V (zR V)<|sT 63 V (fun g11=>?_) (fun g11=>?_)
     ·refine ZD V V<|ZD V V<|ZD V V<|ZD V V<|ZD V V<|ZD V V<|ZD V V<|ZD V V<|ZD V V<|ZD V V<|ZD V V<|Zd V V V (zP V V)<|Zd V V V (zR V)<|ZD V V<|ZD V V<|ZD V V<|ZD V V<|ZD V V<|ZD V V<|ZD V V<|ZD V V<|ZD V V<|ZD V V<|ZD V V<|Zd V V V (zP V V)<|tQ<|zO<|wC V<|zY<|Z8r 0 1 5 6 7 8 17 88 V V V V V V V V<|Za V V ?_;refine ZT<|zK<|zT<|zV<|zV<|zT<|zV<|zI V V (fun w hw=>?_);exact⟨by rw[vM (fun e=>by have:=hab e;subst this;rw[rG rfl] at g11;cases g11)],(Jq hw).ext⟩
     ·refine xS rfl<|wD rfl (.some rfl rfl) rfl (zR rfl)<|Zg rfl rfl rfl rfl rfl (zR rfl)<|Zg rfl rfl rfl rfl rfl (zN (es:=5) rfl rfl U58 (by kernel_rfl) rfl (by first|decide|omega|(simp;done)|(simp;omega)) rfl) ?_;refine Zg V V V V V (Y60x0 V) ?_;refine xS V ?_;(refine wD ?_ (.some rfl rfl) rfl (yR (v:=.int .i64 x.kind) rfl U3 rfl (fun w h=>RdF.part (h.get RdF.lies ra) (Jm.1 (hc1 0 _ rfl)).1 (by omega) (hc1 0 _ rfl))) ?_;(· rfl);skip);refine Zg rfl rfl rfl rfl rfl (zR rfl)<|Zg rfl rfl rfl rfl rfl (zR rfl)<|Zg rfl rfl rfl rfl rfl (zN (es:=5) rfl rfl U58 (by kernel_rfl) rfl (by first|decide|omega|(simp;done)|(simp;omega)) rfl) ?_;refine Zg V V V V V (Y60x0 V) ?_;refine xS V ?_;(refine wD ?_ (.some rfl rfl) rfl (yR (v:=.int .i64 y.kind) rfl U3 rfl (fun w h=>RdF.part (h.get RdF.lies rb) (Jm.1 (hc2 0 _ rfl)).1 (by omega) (hc2 0 _ rfl))) ?_;(· rfl);skip);refine Zg V V V V V (vC V V)<|Zd V V V (zL V V)<|Zd V V V (zR V)<|sT 76 V (fun g24=>?_) (fun g24=>?_)
      ·replace g24:=vN g24;refine ZD V V<|ZD V V<|ZD V V<|ZD V V<|ZD V V<|ZD V V<|ZD V V<|ZD V V<|ZD V V<|ZD V V<|ZD V V<|Zd V V V (zP V V)<|tQ<|zO<|wC V<|zY<|Z8r 0 1 5 6 7 8 17 88 V V V V V V V V<|Za V V<|ZT<|zK<|zT<|zV<|zV<|zT<|zV<|zI V V (fun w hw=>?_);exact⟨by rw[vM (fun e=>by have:=hab e;subst this;simp at g24)],(Jq hw).ext⟩
      ·replace g24:=uM g24;refine Zg rfl rfl rfl rfl rfl (zR rfl)<|Zg rfl rfl rfl rfl rfl (zR rfl)<|Zg rfl rfl rfl rfl rfl (zN (es:=5) rfl rfl U58 (by kernel_rfl) rfl (by first|decide|omega|(simp;done)|(simp;omega)) rfl) ?_;refine Zg V V V V V (Y60x1 V) ?_;refine xS V ?_;(refine wD ?_ (.some rfl rfl) rfl (yR (v:=.string ⟨x.name.toArray⟩) rfl U9 rfl (fun w h=>RdF.part (h.get RdF.lies ra) (Jm.1 (hc1 1 _ rfl)).1 (by omega) (hc1 1 _ rfl))) ?_;(· rfl);skip);refine Zg rfl rfl rfl rfl rfl (zR rfl)<|Zg rfl rfl rfl rfl rfl (zR rfl)<|Zg rfl rfl rfl rfl rfl (zN (es:=5) rfl rfl U58 (by kernel_rfl) rfl (by first|decide|omega|(simp;done)|(simp;omega)) rfl) ?_;refine Zg V V V V V (Y60x1 V) ?_;refine xS V ?_;(refine wD ?_ (.some rfl rfl) rfl (yR (v:=.string ⟨y.name.toArray⟩) rfl U9 rfl (fun w h=>RdF.part (h.get RdF.lies rb) (Jm.1 (hc2 1 _ rfl)).1 (by omega) (hc2 1 _ rfl))) ?_;(· rfl);skip);refine Zg V V V V V (sF V V U9)<|Zd V V V (zL V V)<|tQ<|zO<|zQ V (fun h88=>?_) (fun h88=>?_)
       ·refine zY<|Z8r 0 1 5 6 7 8 17 88 V V V V V V V V<|Za V V<|ZT<|zK<|zT<|zV<|zV<|zT<|zV<|zI V V (fun w hw=>?_);exact⟨by rw[vM (fun e=>by have:=hab e;subst this;simp at h88)],(Jq hw).ext⟩
       ·refine zH<|zJ<|zO<|Z8r 0 1 5 6 7 8 17 88 V V V V V V V V<|Zm V V<|ZF V (yI V V (i64_in _ (by omega) (by omega))) ?_;refine Za V V<|zU ?_
        have hxy:x=y:=by
         have e1:x.exprs=y.exprs:=dq_iff.1 (by simpa using g3);have e2:x.body=y.body:=dq_iff.1 (by simpa using g7);have e3:x.els=y.els:=dq_iff.1 (by simpa using g11);have e4:x.kind=y.kind:=by first|omega|(simp at g24;omega)
         have e5:x.name=y.name:=by simpa using h88
         exact st_ext e4 e5 e1 e2 e3
        refine yE (ι:={i:Nat // i≤a.length∧a.take i=b.take i}) ⟨i+1,hil,by rw[xK hx,xK hy,htk,hxy]⟩ (by show a.length-(i+1)<a.length-i;omega) (O3 V V V) (fun w h=>h)
  ·replace hc:=Jp hc;have hie:i=a.length:=by omega
   subst hie;have hab:a=b:=by rw[Kh,hl,Kh] at htk;exact htk
   refine yB<|zM<|zM<|yC<|zO<|zY<|Z4r 0 1 5 17 V V V V<|Za V V<|ZT<|zK<|zI V V (fun w hw=>?_);exact⟨by rw[rG hab],(Jq hw).ext⟩
theorem sameS_all:∀(N:Nat) (x:St),SizeOf.sizeOf x<N→SM x.body∧SM x.els
 | 0,_,h=>absurd h (by omega)
 | N+1,.mk k s es b c,h=>⟨sameS_step b fun x hx=>sameS_all N x (by have:=vQ (k:=k) (s:=s) (es:=es) (c:=c) (.inl hx);omega),sameS_step c fun x hx=>sameS_all N x (by have:=vQ (k:=k) (s:=s) (es:=es) (b:=b) (.inr hx);omega)⟩
theorem sameS_any (a:List St):SM a:=sameS_step a fun x _=>sameS_all _ x (Nat.lt_succ_self _)
end Go.Proofs.YtfpkpnkdnammnaaGreatDoor
namespace Go.Proofs.YtfpkpnkdnammnaaGreatDoor
open Go.RowKit
theorem fn_ext {x y:Fn}(h1:x.name=y.name) (h2:x.params=y.params) (h3:x.body=y.body):x=y:=by
 cases x;cases y;dsimp only at h1 h2 h3;subst h1;subst h2;subst h3;rfl
theorem equal_any (a b:List Fn) (F:Nat→Prop) (A B:Option Addr) (c d:Nat) (w_0:World) (ha:PgK F w_0 a A c) (hb:PgK F w_0 b B d):Calls Tryz.prog 26 #[.agg [Value.slice A a.length c].toArray,.agg [Value.slice B b.length d].toArray] w_0 fun e w'=>e=.returned (.bool (dq (a=b)))∧Ext w_0 w':=by
 obtain⟨pa,ca,ra,va⟩:=ha;obtain⟨pb,cb,rb,vb⟩:=hb;have hla:=pa.lt;have hlb:=pb.lt
 have hA:0<a.length→∃b off,A=some ⟨b,off,none⟩:=fun h0=>by
  obtain⟨b,off,e,_⟩:=ra (by rw[va.len];omega);exact⟨b,off,e⟩
 have hB:0<b.length→∃b off,B=some ⟨b,off,none⟩:=fun h0=>by
  obtain⟨b,off,e,_⟩:=rb (by rw[vb.len];omega);exact⟨b,off,e⟩
 refine yW (args:=[Value.agg [Value.slice A a.length c].toArray,Value.agg [Value.slice B b.length d].toArray]) Tryz.func26 V 75 V (Jn V)<|Z2 0 1 V V<|zD (H':=Hp (fun _=>False) w_0 [] [] (xF F w_0)) (fun u hu=>?_) ?_
 ·subst hu;exact Hp.startSame
 refine zY<|zX<|zC .none V (wH V V) (fun b2=>?_);refine zC .none V (wH V V) (fun b3=>?_);refine Za V V<|ZX<|zY<|zX<|ZF V (Y32x0 V) ?_;refine ZF V (zW 1 V V V U30 V)<|ZF V (yO V U30)<|ZF V (Y32x0 V) ?_;refine ZF V (zW 0 V V V U30 V)<|ZF V (yO V U30)<|ZF V (vC V V)<|ZT<|zQ V (fun h16=>?_) (fun h16=>?_)
 ·replace h16:=vN h16;refine zY<|Z6r 0 1 2 3 4 16 V V V V V V<|Za V V<|ZT<|zK<|zV<|zI V V (fun w hw=>?_);exact⟨by rw[vM (fun e=>by subst e;simp at h16)],(Jq hw).ext⟩
 ·replace h16:=uM h16;have hl:a.length=b.length:=by omega
  refine zH<|zO<|zY<|zY<|Z6r 0 1 2 3 4 16 V V V V V V<|Za V V<|ZT<|yY<|xY (ι:={i:Nat // i≤a.length∧a.take i=b.take i}) (fun i=>[(2,.pointer (some ⟨b2,0,none⟩)),(3,.pointer (some ⟨b3,0,none⟩)),(5,.int .i64 i.1)]) (fun _=>Hp (fun _=>False) w_0 [(b3,bk 32 [.slice B b.length d]),(b2,bk 32 [.slice A a.length c])] [] (xF F w_0)) (fun i=>a.length-i.1) ⟨0,Kl _,by simp⟩ ?_ ?_ (fun i=>?_)
  ·exact .cons V<|.cons V<|.cons V<|.nil
  ·exact fun w h=>h
  obtain⟨i,hi,htk⟩:=i;dsimp only;refine zY<|zY<|zX<|Zm V V<|ZF V (Y32x0 V) ?_;refine ZF V (zW 1 V V V U30 V)<|ZF V (yO V U30)<|ZF V (xX V V)<|ZT<|zQ V (fun hc=>?_) (fun hc=>?_)
  ·replace hc:=Jo hc;have hil:i<a.length:=by omega
   obtain⟨g1,o1,rfl⟩:=hA (by omega);obtain⟨g2,o2,rfl⟩:=hB (by omega);obtain⟨x,hx⟩:∃x,a[i]? = some x:=⟨a[i],Jt hil⟩;obtain⟨y,hy⟩:∃y,b[i]? = some y:=⟨b[i]'(by omega),Jt (by omega)⟩;obtain⟨a1,hfix1⟩:=va.fix hx;have hk1:=(hfix1 F w_0 va).1;have hc1:=(hfix1 F w_0 va).2;obtain⟨a2,hfix2⟩:=vb.fix hy;have hk2:=(hfix2 F w_0 vb).1;have hc2:=(hfix2 F w_0 vb).2;have hab:a=b→x=y:=fun e=>by subst e;rw[hx] at hy;exact Option.some.inj hy
   have hkb:SS2 F w_0 x.body y.body a1.A2 a2.A2 a1.c2 a2.c2:=⟨⟨hk1.p2,hk1.h2⟩,⟨hk2.p2,hk2.h2⟩⟩;have hp1:=hk1.h1;have hp2:=hk2.h1;have hpl1:=hk1.p1.lt;have hpl2:=hk2.p1.lt
   have hP1:0<x.params.length→∃b off,a1.A1=some ⟨b,off,none⟩:=fun h0=>by
    obtain⟨b,off,e,_⟩:=hp1 (by rw[strs_len];omega);exact⟨b,off,e⟩
   have hP2:0<y.params.length→∃b off,a2.A1=some ⟨b,off,none⟩:=fun h0=>by
    obtain⟨b,off,e,_⟩:=hp2 (by rw[strs_len];omega);exact⟨b,off,e⟩
   generalize hA1:a1.A1=P1 at hp1 hP1;generalize hA2:a2.A1=P2 at hp2 hP2;refine zH<|zO<|zY<|yY<|zY<|Z4r 2 3 5 21 V V V V<|ZF V (Y32x0 V) ?_;refine ZF rfl (zW 1 rfl rfl rfl U30 rfl)<|Zm rfl rfl<|ZF rfl (zN (es:=3) rfl rfl U30 (by kernel_rfl) rfl (by first|decide|omega|(simp;done)|(simp;omega)) rfl) ?_
   refine ZF V (yG (cs:=fnC x.name P1 x.params.length a1.c1 a1.A2 x.body.length a1.c2) V U62 V (by kernel_rfl) (fun w h j v hv=>by
    rw[← hA1] at hv
    exact RdF.part ((HpG.x h).get RdF.lies ra) (Jm.1 (hc1 j v hv)).1 (by omega) (hc1 j v hv))) ?_
   refine zC .none V (yL (z:=.agg #[.string ⟨#[]⟩,.slice none 0 0,.slice none 0 0]) (cs:=Jg) (by kernel_rfl) V) (fun b6=>?_);refine ZR 0 V V V V V (by kernel_rfl) ?_;refine ZX<|Z5r 2 3 5 6 21 V V V V V<|ZF V (Y32x0 V) ?_;refine ZF rfl (zW 1 rfl rfl rfl U30 rfl)<|Zm rfl rfl<|ZF rfl (zN (es:=3) rfl rfl U30 (by kernel_rfl) rfl (by first|decide|omega|(simp;done)|(simp;omega)) rfl) ?_
   refine ZF V (yG (cs:=fnC y.name P2 y.params.length a2.c1 a2.A2 y.body.length a2.c2) V U62 V (by kernel_rfl) (fun w h j v hv=>by
    rw[← hA2] at hv
    exact RdF.part ((HpG.x h).get RdF.lies rb) (Jm.1 (hc2 j v hv)).1 (by omega) (hc2 j v hv))) ?_
   refine zC .none V (yL (z:=.agg #[.string ⟨#[]⟩,.slice none 0 0,.slice none 0 0]) (cs:=Jg) (by kernel_rfl) V) (fun b7=>?_);refine ZR 0 V V V V V (by kernel_rfl) ?_;refine ZX<|Z6r 2 3 5 6 7 21 V V V V V V<|ZF V (Y62x2 V) ?_;refine ZF V (zW 1 V V V U58 V)<|ZF V (Y62x2 V) ?_;refine ZF V (zW 0 V V V U58 V)<|yT .none V  (v:=.bool (dq (x.body=y.body))) (by kernel_rfl) V (fun w hw=>sameS_any x.body y.body F a1.A2 a2.A2 a1.c2 a2.c2 w ((HpG.x hw).get SS2.lies hkb)) ?_;refine Za V V<|ZX<|zY<|Z7r 2 3 5 6 7 8 21 V V V V V V V<|Zm V V<|ZF V (xM V)<|Zm V V<|zG 41 V (fun g3=>?_) (fun g3=>?_)
   ·refine ZP V<|ZP V<|ZP V<|ZP V<|ZP V<|ZF V (zP V V)<|Zm V V<|ZP V<|ZP V<|ZP V<|ZP V<|ZP V<|ZP V<|ZP V<|ZF V (zP V V)<|ZT<|wC V<|zY<|Z8r 2 3 5 6 7 8 21 56 V V V V V V V V<|Za V V<|ZT<|zK<|zV<|zT<|zV<|zV<|zT<|zV<|zI V V (fun w hw=>?_);exact⟨by rw[vM (fun e=>by have:=hab e;subst this;rw[rG rfl] at g3;cases g3)],(Jq hw).ext⟩
   ·refine ZG V V V (Y62x0 V) ?_;refine ZG V V V (zW 1 V V V U9 V)<|ZG V V V (Y62x0 V) ?_;refine ZG V V V (zW 0 V V V U9 V)<|ZG V V V (sF V V U9)<|ZF V (zL V V)<|Zm V V<|zG 48 V (fun g10=>?_) (fun g10=>?_)
    ·refine ZP V<|ZP V<|ZP V<|ZP V<|ZP V<|ZP V<|ZP V<|ZF V (zP V V)<|ZT<|wC V<|zY<|Z8r 2 3 5 6 7 8 21 56 V V V V V V V V<|Za V V<|ZT<|zK<|zV<|zT<|zV<|zV<|zT<|zV<|zI V V (fun w hw=>?_);exact⟨by rw[vM (fun e=>by have:=hab e;subst this;simp at g10)],(Jq hw).ext⟩
    ·refine ZG V V V (Y62x1 V) ?_;refine ZG V V V (zW 1 V V V U22 V)<|ZG V V V (yO V U22)<|ZG V V V (Y62x1 V) ?_;refine ZG V V V (zW 0 V V V U22 V)<|ZG V V V (yO V U22)<|ZG V V V (vC V V)<|ZF V (zL V V)<|ZT<|zQ V (fun h56=>?_) (fun h56=>?_)
     ·replace h56:=vN h56;refine zY<|Z8r 2 3 5 6 7 8 21 56 V V V V V V V V<|Za V V<|ZT<|zK<|zV<|zT<|zV<|zV<|zT<|zV<|zI V V (fun w hw=>?_);exact⟨by rw[vM (fun e=>by have:=hab e;subst this;simp at h56)],(Jq hw).ext⟩
     ·replace h56:=uM h56;have hpl:x.params.length=y.params.length:=by omega
      refine zH<|zO<|zY<|Z8r 2 3 5 6 7 8 21 56 V V V V V V V V<|Za V V<|ZT<|yY<|xY (ι:={k:Nat // k≤x.params.length∧x.params.take k=y.params.take k}) (fun k=>[(2,.pointer (some ⟨b2,0,none⟩)),(3,.pointer (some ⟨b3,0,none⟩)),(5,.int .i64 i),(6,.pointer (some ⟨b6,0,none⟩)),(7,.pointer (some ⟨b7,0,none⟩)),(9,.int .i64 k.1)]) (fun _=>Hp (fun _=>False) w_0 [(b7,bk 62 (fnC y.name P2 y.params.length a2.c1 a2.A2 y.body.length a2.c2)),(b6,bk 62 (fnC x.name P1 x.params.length a1.c1 a1.A2 x.body.length a1.c2)),(b3,bk 32 [.slice (some ⟨g2,o2,none⟩) b.length d]),(b2,bk 32 [.slice (some ⟨g1,o1,none⟩) a.length c])] [] (xF F w_0)) (fun k=>x.params.length-k.1) ⟨0,Kl _,by simp⟩ ?_ ?_ (fun k=>?_)
      ·exact .cons V<|.cons V<|.cons V<|.cons V<|.cons V<|.cons V<|.nil
      ·exact fun w h=>h
      obtain⟨k,hk,hpk⟩:=k;dsimp only;refine zY<|zY<|zX<|Zm V V<|ZF V (Y62x1 V) ?_;refine ZF V (zW 1 V V V U22 V)<|ZF V (yO V U22)<|ZF V (xX V V)<|ZT<|zQ V (fun hc=>?_) (fun hc=>?_)
      ·replace hc:=Jo hc;have hkl:k<x.params.length:=by omega
       obtain⟨q1,r1,rfl⟩:=hP1 (by omega);obtain⟨q2,r2,rfl⟩:=hP2 (by omega);obtain⟨s,hs⟩:∃s,x.params[k]? = some s:=⟨x.params[k],Jt hkl⟩;obtain⟨t,ht⟩:∃t,y.params[k]? = some t:=⟨y.params[k]'(by omega),Jt (by omega)⟩;refine zH<|zO<|zY<|yY<|zY<|Z7 2 3 5 6 7 9 61 V V V V V V V<|rE [0,1,2,3,4,5,6,7,8,9,10] (fun u=>Blk b6 (bk 62 (fnC x.name (some ⟨q1,r1,none⟩) x.params.length a1.c1 a1.A2 x.body.length a1.c2)) u∧Blk b7 (bk 62 (fnC y.name (some ⟨q2,r2,none⟩) y.params.length a2.c1 a2.A2 y.body.length a2.c2)) u∧xF F w_0 u) (by kernel_rfl) (by kernel_rfl) Ky (fun u ob ⟨h1,h2,h3⟩=>⟨Blk.stab u ob h1,Blk.stab u ob h2,xF.stab u ob h3⟩) (fun _ h=>HpG.drew h) (fun w h=>⟨HpG.blk h (k:=1) rfl,HpG.blk h (k:=0) rfl,HpG.x h⟩) ?_;refine Zd V V V (Y62x1 V) ?_;refine Zd V V V (yR (v:=.slice (some ⟨q1,r1,none⟩) x.params.length a1.c1) V U22 V (fun u h=>by rw[cell_of_row u b6 _ _ _ _ h.1];rfl)) ?_;refine Zd rfl rfl rfl (zR rfl)<|Zd rfl rfl rfl (zN (es:=1) rfl rfl U22 (by kernel_rfl) rfl (by first|decide|omega|(simp;done)|(simp;omega)) rfl) ?_;refine Zd V V V (yR (v:=.string ⟨s.toArray⟩) V U9 V (fun w h=>RdF.part (h.2.2.get RdF.lies hp1) (by rw[strs_len];exact hkl) (by omega) (sX hs))) ?_;refine Zd V V V (Y62x1 V) ?_;refine Zd V V V (yR (v:=.slice (some ⟨q2,r2,none⟩) y.params.length a2.c1) V U22 V (fun u h=>by rw[cell_of_row u b7 _ _ _ _ h.2.1];rfl)) ?_;refine Zd rfl rfl rfl (zR rfl)<|Zd rfl rfl rfl (zN (es:=1) rfl rfl U22 (by kernel_rfl) rfl (by first|decide|omega|(simp;done)|(simp;omega)) rfl) ?_;refine Zd V V V (yR (v:=.string ⟨t.toArray⟩) V U9 V (fun w h=>RdF.part (h.2.2.get RdF.lies hp2) (by rw[strs_len];omega) (by omega) (sX ht))) ?_;refine Zd V V V (sF V V U9)<|tQ<|zO<|zQ V (fun h74=>?_) (fun h74=>?_)
       ·refine zY<|Z8r 2 3 5 6 7 9 61 74 V V V V V V V V<|Za V V<|ZT<|zK<|zT<|zV<|zV<|zT<|zT<|zV<|zV<|zT<|zV<|zI V V (fun w hw=>?_);exact⟨by rw[vM (fun e=>by have:=hab e;subst this;rw[hs] at ht;cases ht;simp at h74)],(Jq hw).ext⟩
       ·refine zH<|zJ<|zO<|Z8r 2 3 5 6 7 9 61 74 V V V V V V V V<|Zm V V<|ZF V (yI V V (i64_in _ (by omega) (by omega))) ?_;refine Za V V<|zU ?_;have hst:s=t:=by simpa using h74
        refine yE (ι:={k:Nat // k≤x.params.length∧x.params.take k=y.params.take k}) ⟨k+1,hkl,by rw[xK hs,xK ht,hpk,hst]⟩ (by show x.params.length-(k+1)<x.params.length-k;omega) (O6 V V V V V V) (fun w h=>h)
      ·replace hc:=Jp hc;have hke:k=x.params.length:=by omega
       subst hke;have hpp:x.params=y.params:=by rw[Kh,hpl,Kh] at hpk;exact hpk
       refine yB<|zM<|zM<|yC<|zJ<|zO<|Z7r 2 3 5 6 7 9 61 V V V V V V V<|Zm V V<|ZF V (yI V V (i64_in _ (by omega) (by omega))) ?_;refine Za V V<|zU ?_
       have hxy:x=y:=by
        have e1:x.body=y.body:=dq_iff.1 (by simpa using g3);have e2:x.name=y.name:=by simpa using g10
        exact fn_ext e2 hpp e1
       refine yE (ι:={i:Nat // i≤a.length∧a.take i=b.take i}) ⟨i+1,hil,by rw[xK hx,xK hy,htk,hxy]⟩ (by show a.length-(i+1)<a.length-i;omega) (O3 V V V) (fun w h=>Hp.drop h ((Js _ _).trans (Js _ _)) (Jr _))
  ·replace hc:=Jp hc;have hie:i=a.length:=by omega
   subst hie;have hab:a=b:=by rw[Kh,hl,Kh] at htk;exact htk
   refine yB<|zM<|zM<|yC<|zO<|zY<|Z4r 2 3 5 21 V V V V<|Za V V<|ZT<|zK<|zI V V (fun w hw=>?_);exact⟨by rw[rG hab],(Jq hw).ext⟩
theorem mod_eq (n k:Int) (hk:0<k):(n.tmod k+k).tmod k=n%k∧-k<n.tmod k∧n.tmod k<k:=by
 have h3:=Int.emod_nonneg n (Int.ne_of_gt hk);have h4:=Int.emod_lt_of_pos n hk;have hn:(k.natAbs:Int)=k:=Int.natAbs_of_nonneg (Int.le_of_lt hk);have e:=Int.tmod_eq_emod (a:=n) (b:=k)
 have h5:n.tmod k=n%k∨(n.tmod k=n%k-k∧¬k ∣ n):=by
  by_cases hc:0≤n∨k ∣ n
  ·rw[Kp hc] at e;exact .inl (by omega)
  ·rw[Ko hc,hn] at e;exact .inr ⟨e,fun hd=>hc (.inr hd)⟩
 have hb:-k<n.tmod k∧n.tmod k<k:=by
  rcases h5 with h5|⟨h5,hd⟩
  ·omega
  ·have:n%k≠0:=fun h=>hd (Int.dvd_of_emod_eq_zero h);omega
 refine⟨?_,hb⟩;rw[Int.tmod_eq_emod_of_nonneg (by omega)];rcases h5 with h5|⟨h5,_⟩
 ·rw[h5,Int.add_emod_right,Int.emod_emod_of_dvd n (Int.dvd_refl k)]
 ·rw[h5,Int.sub_add_cancel,Int.emod_emod_of_dvd n (Int.dvd_refl k)]
theorem mod_any (n k:Int) (hk:0<k) (hk2:k≤1000000) (w_0:World):Calls Tryz.prog 20 #[.int .i64 n,.int .i64 k] w_0 fun e w'=>e=.returned (.int .i64 (n%k))∧Ext w_0 w':=by
 obtain⟨h1,h2,h3⟩:=mod_eq n k hk;refine yW (args:=[.int .i64 n,.int .i64 k]) Tryz.func20 V 12 V (Jn V)<|Z2 0 1 V V<|zD (H':=Hp (fun _=>False) w_0 [] [] (fun _=>True)) (fun u hu=>?_) ?_
 ·subst hu;exact Hp.start0
 refine zY<|zX<|Za V V<|ZX<|zX<|Zm V V<|Zm V V<|ZF V (yf_rem V V (by omega) V) ?_;refine Zm V V<|ZF V (yI V V (i64_in (n.tmod k+k) (by omega) (by omega))) ?_;refine Zm V V<|ZF V (yf_rem V V (by omega) h1) ?_;refine Za V V<|ZT<|zK<|zI V V (fun w hw=>?_);exact⟨rfl,(Jq hw).ext⟩
end Go.Proofs.YtfpkpnkdnammnaaGreatDoor
