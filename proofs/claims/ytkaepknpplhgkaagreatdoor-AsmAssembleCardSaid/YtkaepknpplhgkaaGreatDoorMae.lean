import Derived.Test.YtkaepknpplhgkaaGreatDoorMad
set_option maxRecDepth 100000
namespace Go.Proofs.YtkaepknpplhgkaaGreatDoor
open Go.RowKit
structure DrG where
 b:Nat
 x6:Nat
 x8:Nat
 l:List (Bs×AFm)
 vs:List (Value×Value)
def DrL (D:Nat→Bool) (g:DrG):Prop:=g.vs.length=g.l.length∧(D 0=false→g.l=[])∧(D 9=true→D 0=true)∧(D 10=true→D 0=true)∧(∀p∈g.l,(p=(tT,AFm.byte)∧D 3=true)∨(p=(uT,AFm.word)∧D 6=true)∨(p=(xT,AFm.zero)∧D 8=true))∧(D 3=true→(tT,AFm.byte)∈g.l)∧(D 6=true→(uT,AFm.word)∈g.l)∧(D 8=true→(xT,AFm.zero)∈g.l)
abbrev zfC:List Value:=[fnV 218,fnV 219]
abbrev zfO:Obj:=bk 108 zfC
def DrX (w_0:World) (D:Nat→Bool) (g:DrG) (u:World):Prop:=TabX g.l g.vs (fun k=>w_0.heap.size≤k) u∧(D 2=true→Bl7 g.x6 (bxI (wsz false)) (fun k=>w_0.heap.size≤k) u)∧(D 5=true→Bl7 g.x8 (bxI (wsz true)) (fun k=>w_0.heap.size≤k) u)
def DrH (w_0:World) (b2:Nat) (D:Nat→Bool) (g:DrG) (w:World):Prop:=DrL D g∧Jy w_0 (bif D 0 then [(g.b,wH (wC g.l g.vs)),(b2,zfO)] else [(b2,zfO)]) [] (DrX w_0 D g) w
theorem dr_look {l:List (Bs×AFm)}(h1:∀p∈l,p=(tT,AFm.byte)∨p=(uT,AFm.word)∨p=(xT,AFm.zero)) (h2:(tT,AFm.byte)∈l) (h3:(uT,AFm.word)∈l) (h4:(xT,AFm.zero)∈l) (k:Bs):wR k l=qI k:=by
 have hf:∀p∈l,∀q∈l,p.1=q.1→p=q:=fun p hp q hq e=>by
  rcases h1 p hp with rfl|rfl|rfl<;>rcases h1 q hq with rfl|rfl|rfl<;>first|rfl|exact absurd e (by decide)
 unfold qI
 split
 ·next h=>subst h;exact lookA_in hf h2
 split
 ·next h=>subst h;exact lookA_in hf h3
 split
 ·next h=>subst h;exact lookA_in hf h4
 ·next a b c =>
  cases hl:wR k l with
  | none=>rfl
  | some f =>
   exfalso
   rcases h1 _ (qG hl) with h|h|h<;>cases h;exact a rfl;exact b rfl;exact c rfl
theorem dr_zf {w_0 w:World}{b2:Nat}{D:Nat→Bool}{g:DrG}(h:DrH w_0 b2 D g w) {j:Nat}{v:Value}(hj:zfC[j]? = some v):w.cell? ⟨b2,0+j,none⟩=some v:=by
 have hb:Blk b2 zfO w:=by
  have h2:=h.2
  cases hd:D 0 with
  | true=>rw[hd] at h2;exact HpG.blk h2 (k:=1) rfl
  | false=>rw[hd] at h2;exact HpG.blk h2 (k:=0) rfl
 exact Blk.cell hb (by rw[Ac];exact hj)
theorem dr_ins {w_0 w:World}{b2:Nat}{D:Nat→Bool}{g:DrG}{key:Bs}{f:AFm}{v:Value×Value}{D':Nat→Bool}(hc:DrL D g) (_h0:D 0=true) (h0':D' 0=true) (h2:D' 2=D 2) (h5:D' 5=D 5) (hX:∀u,DrX w_0 D g u→qS f v.1 v.2 (fun k=>w_0.heap.size≤k) u) (hl:DrL D' { g with l:=g.l++[(key,f)],vs:=g.vs++[v] })
  (hp:Jy w_0 [(g.b,wH (wC g.l g.vs++[(key,fmG v)])),(b2,zfO)] [] (DrX w_0 D g) w):DrH w_0 b2 D' { g with l:=g.l++[(key,f)],vs:=g.vs++[v] } w:=by
 refine⟨hl,?_⟩;rw[h0'];show Jy w_0 [(g.b,wH (wC (g.l++[(key,f)]) (g.vs++[v]))),(b2,zfO)] [] _ w;rw[tabV_snoc hc.1];exact Hp.weakX hp fun u hu=>⟨hu.1.snoc (hX u hu),fun h=>hu.2.1 (h2▸h),fun h=>hu.2.2 (h5▸h)⟩
theorem dr_new {D:Nat→Bool}{g:DrG}(hc:DrL D g) {key:Bs}(h:(key=tT∧D 3=false)∨(key=uT∧D 6=false)∨(key=xT∧D 8=false)):wB key (wC g.l g.vs)=none:=tabV_none fun q hq e=>by
 rcases hc.2.2.2.2.1 q hq with ⟨rfl,hd⟩|⟨rfl,hd⟩|⟨rfl,hd⟩<;>rcases h with ⟨rfl,hk⟩|⟨rfl,hk⟩|⟨rfl,hk⟩<;>first|(rw[hd] at hk;cases hk)|exact absurd e (by decide)
def DirPost (w:World) (e:Ending) (w':World):Prop:=∃l b vs,(∀k,wR k l=qI k)∧e=.returned (.map (some b))∧Ext w w'∧vR l b vs (fun k=>w.heap.size≤k) w'
theorem directives_any (w_0:World):Calls Tryz.prog 177 #[] w_0 (DirPost w_0):=by
 refine zN (args:=[]) Tryz.func177 M 11 M (Kh M)<|yJ (.nil)<|Z0<|zX<|zZ<|Za M M<|ZX<|zZ<|Za M M<|ZX<|zZ<|ZF M (Zb [.nilFunc,.nilFunc] [(0,1),(1,1)] M)<|Zt (z:=Jd) (cs:=Jn) M fun b2=>ZR 0 M<|ZX<|Z3 0 1 2 M<|qB (γ:=DrG) [(1,fnV 215),(2,Jx b2)] [(0,4,fun g=>.map (some g.b)),(1,5,fun g=>fnV 215),(2,6,fun g=>.agg #[pfV 216 g.x6,pfV 217 g.x6]),(4,7,fun g=>fnV 215),(5,8,fun g=>.agg #[pfV 216 g.x8,pfV 217 g.x8]),(7,9,fun g=>.agg #[fnV 218,fnV 219]),(9,10,fun g=>.map (some g.b)),(10,0,fun g=>.map (some g.b))] (fun D g=>DrH w_0 b2 D g) [[],[],[1],[0,2],[],[4],[0,5],[],[0,7],[0],[9]] ⟨0,0,0,[],[]⟩ (by kernel_rfl) (by kernel_rfl) (by kernel_rfl) (O2 M) (fun D w h hw=>⟨⟨rfl,fun _=>rfl,(fun h9=>by rw[h 9 (by decide)] at h9;cases h9),(fun h9=>by rw[h 10 (by decide)] at h9;cases h9),fun p hp=>(by cases hp),(fun h9=>by rw[h 3 (by decide)] at h9;cases h9),(fun h9=>by rw[h 6 (by decide)] at h9;cases h9),(fun h9=>by rw[h 8 (by decide)] at h9;cases h9)⟩,by rw[h 0 (by decide)];exact Hp.weakX (Hp.drew hw) fun u _=>⟨TabX.nil,(fun h9=>by rw[h 2 (by decide)] at h9;cases h9),(fun h9=>by rw[h 5 (by decide)] at h9;cases h9)⟩⟩) ⟨?_,?_,?_,?_,?_,?_,?_,?_,?_,?_,?_,trivial⟩ (fun g=>?_)
 ·intro D g hD hd;refine oi_new nf_makeMapS (fun w hw=>⟨{ g with b:=w.heap.size,l:=[],vs:=[] },rfl,?_,?_⟩)
  ·repeat' (first|exact trivial|apply And.intro|(intro _;rfl)|(intro h;rw[hD] at h;cases h)|(intro h;have:=hw.1.2.2.1 h;rw[hD] at this;cases this)|(intro h;have:=hw.1.2.2.2.1 h;rw[hD] at this;cases this))
  obtain⟨⟨c1,c2,c3,c4,c5,c6,c7,c8⟩,hp⟩:=hw;have hl:=c2 hD;rw[hl] at c6 c7 c8;rw[hD] at hp;refine⟨⟨rfl,fun _=>rfl,fun _=>rfl,fun _=>rfl,fun p h=>(by cases h),fun h=>absurd (c6 h) (by simp),fun h=>absurd (c7 h) (by simp),fun h=>absurd (c8 h) (by simp)⟩,?_⟩;exact Hp.weakX (Hp.new hp _) fun u hu=>⟨TabX.nil,hu.2⟩
 ·intro D g hD hd;refine zI (v:=fnV 215) ?_ M Jz;refine yW rfl
 ·intro D g hD hd;have hd1:D 1=true:=hd 1 (by simp);refine oi_callVG (us:=[]) (vs:=[.int .i64 ((wsz false:Nat):Int)]) (cs:=[]) (f:=215) (by kernel_rfl) M M (fun w hw=>(join_mk false w).mono fun e w' ⟨x,_,e1,e2,e3⟩=>⟨_,e1,{ g with x6:=x },rfl,?_,?_⟩)
  ·repeat' (first|exact trivial|apply And.intro|(intro _;rfl)|(intro h;rw[hD] at h;cases h))
  obtain⟨hl,hp⟩:=hw;obtain⟨F,hF,hp2⟩:=Hp.callT0 Bl7.lies hp (fun _ h=>h.elim) e2 e3;exact⟨hl,Hp.weakX hp2 fun u ⟨a,b⟩=>⟨b.1,fun _=>Bl7.lies.mono hF a,b.2.2⟩⟩
 ·intro D g hD hd;have hd0:D 0=true:=hd 0 (by simp);have hd2:D 2=true:=hd 2 (by simp);refine oi_ex (ι:={_u:Unit // DrL D g}) (H':=fun _=>Jy w_0 [(g.b,wH (wC g.l g.vs)),(b2,zfO)] [] (DrX w_0 D g)) (fun w hw=>⟨⟨(),hw.1⟩,by have h2:=hw.2;rw[hd0] at h2;exact h2⟩) (fun j=>oc_chain (cf_insertS (key:=tT) 0 M M M M Tryz.underlying83 Tryz.underlying9 (dr_new j.2 (.inl ⟨rfl,hD⟩))) (fun _ w hw=>⟨{ g with l:=g.l++[(tT,.byte)],vs:=g.vs++[(pfV 216 g.x6,pfV 217 g.x6)] },trivial,?_,?_⟩))
  ·repeat' (first|exact trivial|apply And.intro|(intro _;rfl))
  obtain⟨_,hc⟩:=j;refine dr_ins hc hd0 hd0 M M (fun u hu=>⟨g.x6,rfl,rfl,hu.2.1 hd2⟩) ?_ hw;obtain⟨c1,c2,c3,c4,c5,c6,c7,c8⟩:=hc;refine⟨by show (g.vs++[_]).length=(g.l++[_]).length;simp[c1],(fun h=>by have h:D 0=false:=h;rw[hd0] at h;cases h),c3,c4,fun p hp=>?_,fun _=>List.mem_append_right _ (Ar.2 M),fun h=>List.mem_append_left _ (c7 h),fun h=>List.mem_append_left _ (c8 h)⟩;rcases Aq.1 hp with h|h;exact (c5 p h).imp (fun h=>⟨h.1,rfl⟩) id;rw[Ar.1 h];exact .inl ⟨rfl,rfl⟩
 ·intro D g hD hd;refine zI (v:=fnV 215) ?_ M Jz;refine yW rfl
 ·intro D g hD hd;have hd4:D 4=true:=hd 4 (by simp);refine oi_callVG (us:=[]) (vs:=[.int .i64 ((wsz true:Nat):Int)]) (cs:=[]) (f:=215) (by kernel_rfl) M M (fun w hw=>(join_mk true w).mono fun e w' ⟨x,_,e1,e2,e3⟩=>⟨_,e1,{ g with x8:=x },rfl,?_,?_⟩)
  ·repeat' (first|exact trivial|apply And.intro|(intro _;rfl)|(intro h;rw[hD] at h;cases h))
  obtain⟨hl,hp⟩:=hw;obtain⟨F,hF,hp2⟩:=Hp.callT0 Bl7.lies hp (fun _ h=>h.elim) e2 e3;exact⟨hl,Hp.weakX hp2 fun u ⟨a,b⟩=>⟨b.1,b.2.1,fun _=>Bl7.lies.mono hF a⟩⟩
 ·intro D g hD hd;have hd0:D 0=true:=hd 0 (by simp);have hd5:D 5=true:=hd 5 (by simp);refine oi_ex (ι:={_u:Unit // DrL D g}) (H':=fun _=>Jy w_0 [(g.b,wH (wC g.l g.vs)),(b2,zfO)] [] (DrX w_0 D g)) (fun w hw=>⟨⟨(),hw.1⟩,by have h2:=hw.2;rw[hd0] at h2;exact h2⟩) (fun j=>oc_chain (cf_insertS (key:=uT) 0 M M M M Tryz.underlying83 Tryz.underlying9 (dr_new j.2 (.inr (.inl ⟨rfl,hD⟩)))) (fun _ w hw=>⟨{ g with l:=g.l++[(uT,.word)],vs:=g.vs++[(pfV 216 g.x8,pfV 217 g.x8)] },trivial,?_,?_⟩))
  ·repeat' (first|exact trivial|apply And.intro|(intro _;rfl))
  obtain⟨_,hc⟩:=j;refine dr_ins hc hd0 hd0 M M (fun u hu=>⟨g.x8,rfl,rfl,hu.2.2 hd5⟩) ?_ hw;obtain⟨c1,c2,c3,c4,c5,c6,c7,c8⟩:=hc;refine⟨by show (g.vs++[_]).length=(g.l++[_]).length;simp[c1],(fun h=>by have h:D 0=false:=h;rw[hd0] at h;cases h),c3,c4,fun p hp=>?_,fun h=>List.mem_append_left _ (c6 h),fun _=>List.mem_append_right _ (Ar.2 M),fun h=>List.mem_append_left _ (c8 h)⟩;rcases Aq.1 hp with h|h;exact (c5 p h).imp id (fun h=>h.imp (fun h=>⟨h.1,rfl⟩) id);rw[Ar.1 h];exact .inr (.inl ⟨rfl,rfl⟩)
 ·intro D g hD hd;refine zI (v:=.agg #[fnV 218,fnV 219]) ?_ M Jz;refine xL (cs:=zfC) M U108 M (by kernel_rfl) (fun w hw j v hj=>dr_zf hw hj)
 ·intro D g hD hd;have hd0:D 0=true:=hd 0 (by simp);have hd7:D 7=true:=hd 7 (by simp);refine oi_ex (ι:={_u:Unit // DrL D g}) (H':=fun _=>Jy w_0 [(g.b,wH (wC g.l g.vs)),(b2,zfO)] [] (DrX w_0 D g)) (fun w hw=>⟨⟨(),hw.1⟩,by have h2:=hw.2;rw[hd0] at h2;exact h2⟩) (fun j=>oc_chain (cf_insertS (key:=xT) 0 M M M M Tryz.underlying83 Tryz.underlying9 (dr_new j.2 (.inr (.inr ⟨rfl,hD⟩)))) (fun _ w hw=>⟨{ g with l:=g.l++[(xT,.zero)],vs:=g.vs++[(fnV 218,fnV 219)] },trivial,?_,?_⟩))
  ·repeat' (first|exact trivial|apply And.intro|(intro _;rfl))
  obtain⟨_,hc⟩:=j;refine dr_ins hc hd0 hd0 M M (fun u hu=>⟨rfl,rfl⟩) ?_ hw;obtain⟨c1,c2,c3,c4,c5,c6,c7,c8⟩:=hc;refine⟨by show (g.vs++[_]).length=(g.l++[_]).length;simp[c1],(fun h=>by have h:D 0=false:=h;rw[hd0] at h;cases h),c3,c4,fun p hp=>?_,fun h=>List.mem_append_left _ (c6 h),fun h=>List.mem_append_left _ (c7 h),fun _=>List.mem_append_right _ (Ar.2 M)⟩;rcases Aq.1 hp with h|h;exact (c5 p h).imp id (fun h=>h.imp id (fun h=>⟨h.1,rfl⟩));rw[Ar.1 h];exact .inr (.inr ⟨rfl,rfl⟩)
 ·intro D g hD hd;have hd0:D 0=true:=hd 0 (by simp);refine zI (v:=.map (some g.b)) ?_ M (fun w h=>⟨⟨h.1.1,h.1.2.1,fun _=>hd0,h.1.2.2.2⟩,h.2⟩);refine yW rfl
 ·intro D g hD hd;have hd9:D 9=true:=hd 9 (by simp);refine zI (v:=.map (some g.b)) ?_ M (fun w h=>⟨⟨h.1.1,h.1.2.1,h.1.2.2.1,fun _=>h.1.2.2.1 hd9,h.1.2.2.2.2⟩,h.2⟩);refine wD rfl
 skip;refine wq_to (m':=[(1,fnV 215),(2,Jx b2),(0,.map (some g.b))]) (H':=DrH w_0 b2 (fun _=>true) g) ?_ (O3 M) (fun w hw=>hw);refine zV<|zK<|yY M M (fun w hw=>?_);obtain⟨⟨c1,c2,c3,c4,c5,c6,c7,c8⟩,hp⟩:=hw;have hp:Jy w_0 [(g.b,wH (wC g.l g.vs)),(b2,zfO)] [] (DrX w_0 (fun _=>true) g) w:=hp;exact⟨g.l,g.b,g.vs,dr_look (fun p hp=>(c5 p hp).imp (·.1) fun h=>h.imp (·.1) (·.1)) (c6 M) (c7 M) (c8 M),rfl,(Kk hp).ext,⟨HpG.mineL (j:=0) hp M id,(Kp.1 (HpG.blkL (j:=0) hp M)).1,HpG.blkL (j:=0) hp rfl⟩,(HpG.x hp).1⟩
end Go.Proofs.YtkaepknpplhgkaaGreatDoor
namespace Go.Proofs.YtkaepknpplhgkaaGreatDoor
open Go.RowKit
def FmP (f:AFm) (b:Nat) (v:Value×Value) (F:Nat→Prop) (w:World):Prop:=Bl7 b (bk 108 [v.1,v.2]) F w∧qS f v.1 v.2 F w
theorem FmP.lies {f:AFm}{b:Nat}{v:Value×Value}:Lies (FmP f b v):=qT Bl7.lies qS.lies
theorem trim_v (s:Bs) (hs:s.length≤2000000000) (w:World):Calls Tryz.prog 178 #[.string ⟨s.toArray⟩,.string ⟨#[118]⟩] w fun e w'=>e=.returned (.string ⟨(Lib.trimB s 118).toArray⟩)∧Ext w w' :=
 (Tryz.strings_Trim_one ⟨s.toArray⟩ 118 (by decide) w (by show s.toArray.size≤_;simp;omega)).mono fun e w' ⟨h1,h2⟩=>⟨h1,by rcases h2 with rfl|rfl;exact Ext.refl _;exact ext_drewN _ 1⟩
theorem trimB_nil {l:Bs}{c:UInt8}:Lib.trimB l c=[]↔l.all (fun x=>decide (x=c))=true:=by
 rw[List.all_eq_true];unfold Lib.trimB Lib.trimLeftB Lib.trimRightB
 constructor
 ·intro h x hx;refine An (Classical.byContradiction fun hn=>?_)
  have h1:∀{l:Bs},l.dropWhile (·==c)=[]→∀x∈l,x=c:=fun {l} h x hx=>by
   have:=dw_nil.1 h x hx;exact Kq this
  have h2:=h1 h
  have h3:x∈(l.reverse.dropWhile (·==c)).reverse:=by
   rw[List.mem_reverse]
   have key:∀{l:Bs},x∈l→x∈l.dropWhile (·==c):=by
    intro l
    induction l with
    | nil=>intro h;cases h
    | cons y l ih =>
     intro h;rw[List.dropWhile_cons]
     split
     ·next hy =>
      rcases List.mem_cons.1 h with rfl|h;exact absurd (Kq hy) hn;exact ih h
     exact h
   exact key (List.mem_reverse.2 hx)
  exact hn (h2 x h3)
 intro h;rw[dw_nil];intro x hx;rw[Am];exact Ki (h x (List.mem_reverse.1 ((List.dropWhile_sublist _).mem (List.mem_reverse.1 hx))))
def zfV:Value:=.agg #[.nilFunc,.nilFunc]
structure FdG where
 l:List (Bs×AFm)
 b:Nat
 vs:List (Value×Value)
 b5:Nat
abbrev lkV (k:Bs) (l:List (Bs×AFm)) (vs:List (Value×Value)):Value:=(wB k (wC l vs)).getD zfV
theorem lk_form (k:Bs) {l:List (Bs×AFm)}{vs:List (Value×Value)}{F:Nat→Prop}{w:World}(h:TabX l vs F w):∃p q,lkV k l vs=.agg #[p,q]∧p.oneCell'=true∧q.oneCell'=true:=by
 have:=h.look k
 cases hl:wR k l with
 | some f =>
  rw[hl] at this;obtain⟨v,h1,h2⟩:=this;obtain⟨h3,h4⟩:=form_fn h2;obtain⟨f1,c1,e1,_⟩:=h3;obtain⟨f2,c2,e2,_⟩:=h4;exact⟨v.1,v.2,by unfold lkV;rw[h1];rfl,by rw[e1];rfl,by rw[e2];rfl⟩
 | none =>
  rw[hl] at this;exact⟨.nilFunc,.nilFunc,by unfold lkV;rw[this];rfl,rfl,rfl⟩
def FdFPost (F:Nat→Prop) (r:Option AFm) (w:World) (e:Ending) (w':World):Prop:=Ext w w'∧match r with
 | some f=>∃b v,e=.returned (.pointer (some ⟨b,0,none⟩))∧FmP f b v (fun k=>F k∨w.heap.size≤k) w'
 | none=>e=.returned (.pointer none)
end Go.Proofs.YtkaepknpplhgkaaGreatDoor
namespace Go.Proofs.YtkaepknpplhgkaaGreatDoor
open Go.RowKit
def aggL:Value→List Value
 | .agg a=>a.toList
 | v=>[v]
def DfL (D:Nat→Bool) (g:FdG):Prop:=(D 0=true→∀k,wR k g.l=qI k)∧(D 3=true→D 0=true)∧(D 4=true→D 0=true)∧(D 5=true→D 0=true)∧(D 6=true→D 0=true)∧(D 9=true→D 0=true)∧(D 8=true→D 0=true)∧(D 8=true→D 7=true)
def DfH (w_0:World) (S:SV) (lF:List (Bs×AFm)) (bF:Nat) (vsF:List (Value×Value)) (F0:Nat→Prop) (b3:Nat) (D:Nat→Bool) (g:FdG) (w:World):Prop:=DfL D g∧Jy w_0 (bif D 7 then [(g.b5,bk 108 (bif D 8 then aggL (lkV S.op g.l g.vs) else [.nilFunc,.nilFunc])),(b3,svO S)] else [(b3,svO S)]) [] (fun u=>vR lF bF vsF F0 u∧(D 0=true→vR g.l g.b g.vs (fun k=>w_0.heap.size≤k) u)) w
section
variable {w_0 w:World}{S:SV}{lF:List (Bs×AFm)}{bF:Nat}{vsF:List (Value×Value)}{F0:Nat→Prop}{b3:Nat}{D:Nat→Bool}{g:FdG}
theorem df_op (h:DfH w_0 S lF bF vsF F0 b3 D g w) {j:Nat}{v:Value}(hj:(svC S)[j]? = some v):w.cell? ⟨b3,j,none⟩=some v:=by
 have hb:Blk b3 (svO S) w:=by
  have h2:=h.2
  cases hd:D 7 with
  | true=>rw[hd] at h2;exact HpG.blk h2 (k:=1) rfl
  | false=>rw[hd] at h2;exact HpG.blk h2 (k:=0) rfl
 exact Blk.cell hb hj
end
theorem zero_form:∀w:World,(zeroValue 108).run Tryz.prog w=.ok zfV w:=fun w=>by kernel_rfl
theorem find_form (S:SV) (kind:Int) (lF:List (Bs×AFm)) (bF:Nat) (vsF:List (Value×Value)) (F0:Nat→Prop) (hF:∀k,wR k lF=wR k (if kind=2 then oJ else xS)) (hs1:S.op.length≤2000000) (hs2:S.sh.length≤2000000) (w_0:World) (hX0:vR lF bF vsF F0 w_0) :
  Calls Tryz.prog 118 #[.map (some bF),.agg (svC S).toArray] w_0 (FdFPost F0 (wI kind S.op S.sh S.l.length) w_0):=by
 unfold FdFPost;generalize hr:wI kind S.op S.sh S.l.length=r;unfold wI at hr;refine zN (args:=[.map (some bF),.agg (svC S).toArray]) Tryz.func118 M 50 M (Kh M)<|Z2 0 1 M<|zG (H':=Jy w_0 [] [] (fun u=>vR lF bF vsF F0 u)) (fun u hu=>?_) ?_;subst hu;exact Hp.startT vR.lies hX0;refine zX<|zZ<|zA .none M (yQ M M) fun b3=>Za M M<|ZX<|zX<|qB (γ:=FdG) [(0,.map (some bF)),(3,Jx b3)] [(0,10,fun g=>.map (some g.b)),(1,11,fun g=>.pointer (some ⟨b3,1,none⟩)),(2,12,fun g=>.string ⟨S.op.toArray⟩),(3,13,fun g=>.tuple #[lkV S.op g.l g.vs,.bool (wB S.op (wC g.l g.vs)).isSome]),(4,9,fun g=>.tuple #[lkV S.op g.l g.vs,.bool (wB S.op (wC g.l g.vs)).isSome]),(5,14,fun g=>lkV S.op g.l g.vs),(6,15,fun g=>.bool (wB S.op (wC g.l g.vs)).isSome),(7,5,fun g=>.pointer (some ⟨g.b5,0,none⟩)),(9,6,fun g=>.bool (wB S.op (wC g.l g.vs)).isSome)] (fun D g=>DfH w_0 S lF bF vsF F0 b3 D g) [[],[],[1],[0,2],[3],[4],[4],[],[0,5,7],[6]] ⟨[],0,[],0⟩ (by kernel_rfl) (by kernel_rfl) (by kernel_rfl) (O2 M) (fun D w h hw=>⟨⟨(fun h9=>by rw[h 0 (by decide)] at h9;cases h9),(fun h9=>by rw[h 3 (by decide)] at h9;cases h9),(fun h9=>by rw[h 4 (by decide)] at h9;cases h9),(fun h9=>by rw[h 5 (by decide)] at h9;cases h9),(fun h9=>by rw[h 6 (by decide)] at h9;cases h9),(fun h9=>by rw[h 9 (by decide)] at h9;cases h9),(fun h9=>by rw[h 8 (by decide)] at h9;cases h9),(fun h9=>by rw[h 8 (by decide)] at h9;cases h9)⟩,by rw[h 7 (by decide)];exact Hp.weakX (Hp.drew hw) fun u hu=>⟨hu,(fun h9=>by rw[h 0 (by decide)] at h9;cases h9)⟩⟩) ⟨?_,?_,?_,?_,?_,?_,?_,?_,?_,?_,trivial⟩ (fun g=>?_)
 ·intro D g hD hd;refine oi_callG (vs:=[]) (f:=177) (by kernel_rfl) M (fun w hw=>(directives_any w).mono fun e w' ⟨l,b,vs,e0,e1,e2,e3⟩=>⟨_,e1,{ g with l:=l,b:=b,vs:=vs },rfl,?_,?_⟩)
  ·obtain⟨_,c3,c4,c5,c6,c9,_⟩:=hw.1
   repeat' (first|exact trivial|apply And.intro|(intro _;rfl)|(intro h;rw[hD] at h;cases h)|(intro h;have:=c3 h;rw[hD] at this;cases this)|(intro h;have:=c4 h;rw[hD] at this;cases this)|(intro h;have:=c5 h;rw[hD] at this;cases this)|(intro h;have:=c6 h;rw[hD] at this;cases this)|(intro h;have:=c9 h;rw[hD] at this;cases this))
  obtain⟨⟨_,c3,c4,c5,c6,c9,c8,c87⟩,hp⟩:=hw;obtain⟨F,hF2,hp2⟩:=Hp.callT0 vR.lies hp (fun _ h=>h.elim) e2 e3
  have h8:D 8=false:=by
   cases h:D 8 with
   | false=>rfl
   | true=>rw[c8 h] at hD;cases hD
  refine⟨⟨fun _=>e0,fun _=>rfl,fun _=>rfl,fun _=>rfl,fun _=>rfl,fun _=>rfl,fun _=>rfl,c87⟩,?_⟩
  have hp3:Jy w_0 (bif D 7 then [(g.b5,bk 108 (bif D 8 then aggL (lkV S.op l vs) else [.nilFunc,.nilFunc])),(b3,svO S)] else [(b3,svO S)]) [] (fun u=>vR lF bF vsF F0 u∧(true=true→vR l b vs (fun k=>w_0.heap.size≤k) u)) w':=by
   rw[h8] at hp2 ⊢;exact Hp.weakX hp2 fun u ⟨a,b⟩=>⟨b.1,fun _=>vR.lies.mono hF2 a⟩
  exact hp3
 ·intro D g hD hd;refine zI (v:=.pointer (some ⟨b3,1,none⟩)) ?_ M Jz;refine zY (off:=1) (sz:=0) M U91 (by kernel_rfl) rfl
 ·intro D g hD hd;have hd1:D 1=true:=hd 1 (by simp);refine zI (v:=.string ⟨S.op.toArray⟩) ?_ M Jz;refine zL M U9 M (fun w hw=>df_op hw M)
 ·intro D g hD hd;have hd0:D 0=true:=hd 0 (by simp);have hd2:D 2=true:=hd 2 (by simp);refine zI (v:=.tuple #[lkV S.op g.l g.vs,.bool (wB S.op (wC g.l g.vs)).isSome]) ?_ M (fun w h=>⟨⟨h.1.1,fun _=>hd0,h.1.2.2⟩,h.2⟩);refine yf_lookupS (z:=zfV) M M (fun w hw=>((HpG.x hw.2).2 hd0).1.2.2) Tryz.underlying83 Tryz.underlying9 zero_form
 ·intro D g hD hd;have hd3:D 3=true:=hd 3 (by simp);refine zI (v:=.tuple #[lkV S.op g.l g.vs,.bool (wB S.op (wC g.l g.vs)).isSome]) ?_ M (fun w h=>⟨⟨h.1.1,h.1.2.1,fun _=>h.1.2.1 hd3,h.1.2.2.2⟩,h.2⟩);refine yW rfl
 ·intro D g hD hd;have hd4:D 4=true:=hd 4 (by simp);refine zI (v:=lkV S.op g.l g.vs) ?_ M (fun w h=>⟨⟨h.1.1,h.1.2.1,h.1.2.2.1,fun _=>h.1.2.2.1 hd4,h.1.2.2.2.2⟩,h.2⟩);refine zC M M
 ·intro D g hD hd;have hd4:D 4=true:=hd 4 (by simp);refine zI (v:=.bool (wB S.op (wC g.l g.vs)).isSome) ?_ M (fun w h=>⟨⟨h.1.1,h.1.2.1,h.1.2.2.1,h.1.2.2.2.1,fun _=>h.1.2.2.1 hd4,h.1.2.2.2.2.2⟩,h.2⟩);refine zC M M
 ·intro D g hD hd;refine oi_new (pT (z:=zfV) (cs:=Jn) (by kernel_rfl) M) (fun w hw=>⟨{ g with b5:=w.heap.size },rfl,?_,?_⟩)
  ·repeat' (first|exact trivial|apply And.intro|(intro _;rfl)|(intro h;rw[hD] at h;cases h))
  obtain⟨⟨c0,c3,c4,c5,c6,c9,c8,c87⟩,hp⟩:=hw
  have h8:D 8=false:=by
   cases h:D 8 with
   | false=>rfl
   | true=>rw[c87 h] at hD;cases hD
  refine⟨⟨c0,c3,c4,c5,c6,c9,c8,fun _=>rfl⟩,?_⟩;rw[hD] at hp
  have hp3:Jy w_0 [(w.heap.size,bk 108 (bif D 8 then aggL (lkV S.op g.l g.vs) else [.nilFunc,.nilFunc])),(b3,svO S)] [] (fun u=>vR lF bF vsF F0 u∧(D 0=true→vR g.l g.b g.vs (fun k=>w_0.heap.size≤k) u)) (w.alloc (bk 108 [.nilFunc,.nilFunc])):=by
   rw[h8];exact Hp.new hp _
  exact hp3
 ·intro D g hD hd;have hd0:D 0=true:=hd 0 (by simp);have hd5:D 5=true:=hd 5 (by simp);have hd7:D 7=true:=hd 7 (by simp)
  refine oi_ex (ι:={pq:Value×Value // DfL D g∧lkV S.op g.l g.vs=.agg #[pq.1,pq.2]∧pq.1.oneCell'=true∧pq.2.oneCell'=true}) (H':=fun _=>Jy w_0 [(g.b5,bk 108 [.nilFunc,.nilFunc]),(b3,svO S)] [] (fun u=>vR lF bF vsF F0 u∧(D 0=true→vR g.l g.b g.vs (fun k=>w_0.heap.size≤k) u))) (fun w hw=>by
   obtain⟨p,q,e1,e2,e3⟩:=lk_form S.op ((HpG.x hw.2).2 hd0).2;refine⟨⟨(p,q),hw.1,e1,e2,e3⟩,?_⟩;have h2:=hw.2;rw[hd7,hD] at h2
   exact h2) (fun j=>oc_chain (vG (seg:=[j.1.1,j.1.2]) 0 M (by rw[show Value.agg [j.1.1,j.1.2].toArray=lkV S.op g.l g.vs from j.2.2.1.symm];rfl) M (by simp[j.2.2.2.1,j.2.2.2.2]) M (by kernel_rfl)) (fun _ w hw=>⟨g,trivial,wU.refl,?_⟩))
  obtain⟨⟨p,q⟩,hc,e1,e2,e3⟩:=j;obtain⟨c0,c3,c4,c5,c6,c9,c8,c87⟩:=hc;refine⟨⟨c0,c3,c4,c5,c6,c9,fun _=>hd0,fun _=>hd7⟩,?_⟩
  have hp3:Jy w_0 (bif D 7 then [(g.b5,bk 108 (bif true then aggL (lkV S.op g.l g.vs) else [.nilFunc,.nilFunc])),(b3,svO S)] else [(b3,svO S)]) [] (fun u=>vR lF bF vsF F0 u∧(D 0=true→vR g.l g.b g.vs (fun k=>w_0.heap.size≤k) u)) w:=by
   rw[hd7,e1];exact hw
  exact hp3
 ·intro D g hD hd;have hd6:D 6=true:=hd 6 (by simp);refine zI (v:=.bool (wB S.op (wC g.l g.vs)).isSome) ?_ M (fun w h=>⟨⟨h.1.1,h.1.2.1,h.1.2.2.1,h.1.2.2.2.1,h.1.2.2.2.2.1,fun _=>h.1.2.2.2.2.1 hd6,h.1.2.2.2.2.2.2⟩,h.2⟩);refine wD rfl
 skip;refine wq_to (m':=[(0,.map (some bF)),(3,Jx b3),(5,.pointer (some ⟨g.b5,0,none⟩)),(6,.bool (wB S.op (wC g.l g.vs)).isSome)]) (H':=fun w=>(∀k,wR k g.l=qI k)∧Jy w_0 [(g.b5,bk 108 (aggL (lkV S.op g.l g.vs))),(b3,svO S)] [] (fun u=>vR lF bF vsF F0 u∧vR g.l g.b g.vs (fun k=>w_0.heap.size≤k) u) w) ?_ (O4 M) (fun w hw=>⟨hw.1.1 rfl,Hp.weakX hw.2 fun u hu=>⟨hu.1,hu.2 rfl⟩⟩);refine zV<|zX<|tK (fun w hw=>hw.1) (fun hdir=>?_);refine zG (H':=Jy w_0 [(g.b5,bk 108 (aggL (lkV S.op g.l g.vs))),(b3,svO S)] [] (fun u=>vR lF bF vsF F0 u∧vR g.l g.b g.vs (fun k=>w_0.heap.size≤k) u)) (fun w h=>h.2)<|zZ<|Zm M M<|ZT<|zT M (fun h16=>?_) (fun h16=>?_)
 ·refine tK (φ:=∃f v,qI S.op=some f∧wB S.op (wC g.l g.vs)=some (fmG v)) (fun w hw=>by
   have:=(HpG.x hw).2.2.look S.op;rw[hdir] at this
   cases hd:qI S.op with
   | some f=>rw[hd] at this;obtain⟨v,e,_⟩:=this;exact⟨f,v,rfl,e⟩
   | none=>rw[hd] at this;rw[this] at h16;cases h16) (fun ⟨f,v,hdf,hlv⟩=>?_)
  have hr:(if S.sh=[]∨S.sh.all (fun c=>decide (c=118))=false∨(S.op=xT∧S.l.length≠1) then none else some f)=r:=by rw[hdf] at hr;exact hr
  refine zX<|zB (ι:={z:Bool // z=true↔(S.sh=[]∨S.sh.all (fun c=>decide (c=118))=false∨(S.op=xT∧S.l.length≠1))}) (fun z=>[(3,Jx b3),(5,.pointer (some ⟨g.b5,0,none⟩)),(36,.bool z.1)]) (fun _=>Jy w_0 [(g.b5,bk 108 (aggL (lkV S.op g.l g.vs))),(b3,svO S)] [] (fun u=>vR lF bF vsF F0 u∧vR g.l g.b g.vs (fun k=>w_0.heap.size≤k) u)) ?_ (fun z=>?_)
  ·refine zZ<|ZF M (Y91x2 M) ?_;refine Zl 1 M U9 M<|ZF M (yZ M M U9)<|Zm M M<|zQ 20 M (fun g4=>?_) (fun g4=>?_)
   ·refine ZP M<|ZP M<|ZP M<|ZP M<|Zh M<|Zm M M<|ZP M<|ZP M<|ZP M<|ZP M<|zE M M M<|zE M M M<|zE M M M<|zE M M M<|ZP M<|Zh M<|zS<|zU (ι:={z:Bool // z=true↔(S.sh=[]∨S.sh.all (fun c=>decide (c=118))=false∨(S.op=xT∧S.l.length≠1))}) ⟨true,⟨fun _=>.inl (by simpa using g4),fun _=>rfl⟩⟩ (O3 M) Jz
   skip;refine ZG M M M (Y91x2 M) ?_;refine ZG M M M (yU 1 M M M U9 M)<|xW (.some M M) M  (v:=.string ⟨(Lib.trimB S.sh 118).toArray⟩) (by kernel_rfl) M (fun w hw=>trim_v S.sh (by omega) w)<|ZG M M M (uL M M U9)<|Zf M<|Zm M M<|zQ 26 M (fun g10=>?_) (fun g10=>?_)
   ·refine ZP M<|ZP M<|ZP M<|ZP M<|zE M M M<|zE M M M<|zE M M M<|zE M M M<|ZP M<|Zh M<|zS ?_
    refine zU (ι:={z:Bool // z=true↔(S.sh=[]∨S.sh.all (fun c=>decide (c=118))=false∨(S.op=xT∧S.l.length≠1))}) ⟨true,⟨fun _=>.inr (.inl (by
     have hn:Lib.trimB S.sh 118≠[]:=by simpa using g10
     cases h:S.sh.all (fun c=>decide (c=118)) with
     | false=>rfl
     | true=>exact absurd (trimB_nil.2 h) hn)),fun _=>rfl⟩⟩ (O3 rfl) Jz
   skip;refine ZG M M M (Y91x1 M) ?_;refine ZG M M M (yU 1 M M M U9 M)<|ZG M M M (yZ M M U9)<|Zv M<|zQ 30 M (fun g14=>?_) (fun g14=>?_)
   ·refine ZG M M M (Y91x3 M) ?_;refine ZG M M M (yU 1 M M M U88 M)<|ZG M M M (yK M U88)<|ZG M M M (xF M M)<|ZG M M M (yA M M)<|Zf M<|zS ?_;have hn4:¬S.sh=[]:=by simpa using g4
    have hn10:Lib.trimB S.sh 118=[]:=by simpa using g10
    have hn14:S.op=xT:=by simpa [xT] using g14
    refine zU (ι:={z:Bool // z=true↔(S.sh=[]∨S.sh.all (fun c=>decide (c=118))=false∨(S.op=xT∧S.l.length≠1))}) ⟨((S.l.length:Int) != 1),⟨fun h=>.inr (.inr ⟨hn14,fun h1=>by rw[h1] at h;exact absurd h (by decide)⟩),fun h=>by
     rcases h with h|h|h;exact absurd h hn4;rw[trimB_nil.1 hn10] at h;cases h
     rw[bne_iff_ne];have:=h.2;omega⟩⟩ (O3 rfl) Jz
   skip;refine ZP M<|ZP M<|ZP M<|ZP M<|ZG M M M (yD M M)<|Zf M<|zS ?_;have hn4:¬S.sh=[]:=by simpa using g4
   have hn10:Lib.trimB S.sh 118=[]:=by simpa using g10
   have hn14:¬S.op=xT:=by simpa [xT] using g14
   refine zU (ι:={z:Bool // z=true↔(S.sh=[]∨S.sh.all (fun c=>decide (c=118))=false∨(S.op=xT∧S.l.length≠1))}) ⟨false,⟨fun h=>(by cases h),fun h=>by
    rcases h with h|h|h;exact absurd h hn4;rw[trimB_nil.1 hn10] at h;cases h
    exact absurd h.1 hn14⟩⟩ (O3 M) Jz
  obtain⟨z,hz⟩:=z;dsimp only;refine zT M (fun h36=>?_) (fun h36=>?_)
  ·rw[Ah (hz.1 h36)] at hr;refine zX<|zZ<|Za M M<|ZT<|zK<|zW<|zW<|yY M M fun w hw=>⟨(Kk hw).ext,by subst hr;rfl⟩
  skip;rw[Ag (fun hh=>by rw[hz.2 hh] at h36;cases h36)] at hr;refine zR<|zV<|zX<|zZ<|Za M M<|ZT<|zK<|zW<|yY M M (fun w hw=>?_)
  exact⟨(Kk hw).ext,by
   have h1:=(HpG.x hw).2.2.look S.op;rw[hdir,hdf] at h1;obtain⟨v',e,h2⟩:=h1;rw[hlv] at e
   have e':v=v':=by
    injection e with e;injection e with e;have e6:v.1=v'.1∧v.2=v'.2:=by simpa using e
    exact Prod.ext e6.1 e6.2
   subst e';have h3:=HpG.blkL (j:=0) hw rfl;have h4:lkV S.op g.l g.vs=fmG v:=by unfold lkV;rw[hlv];rfl
   rw[h4] at h3;subst hr
   exact⟨g.b5,v,rfl,⟨.inr (HpG.mineL (j:=0) hw M id),h3⟩,qS.lies.mono (fun _ h=>.inr h) h2⟩⟩
 skip
 refine tK (φ:=qI S.op=none) (fun w hw=>by
  have:=(HpG.x hw).2.2.look S.op;rw[hdir] at this
  cases hd:qI S.op with
  | some f=>rw[hd] at this;obtain⟨v,e,_⟩:=this;rw[e] at h16;cases h16
  | none=>rfl) (fun hdn=>?_)
 have hr:wR (S.op++32::S.sh) lF=r:=by rw[hdn] at hr;rw[hF];exact hr
 have hkey:S.op++32::S.sh=S.op++[32]++S.sh:=by simp
 rw[hkey] at hr;refine zR<|zV<|zX<|zZ<|Zm M M<|ZF M (Y91x1 M) ?_;refine Zl 1 rfl U9 rfl<|ZF rfl (yB rfl rfl (by first|omega|simp<;>omega)) ?_;refine ZF M (Y91x2 M) ?_;refine Zl 1 rfl U9 rfl<|ZF rfl (yB rfl rfl (by first|omega|simp<;>omega)) ?_;refine ZF M (yf_lookupS (key:=S.op++[32]++S.sh) (z:=zfV) M M (fun w hw=>(HpG.x hw).1.1.2.2) Tryz.underlying83 Tryz.underlying9 zero_form) ?_;refine Zm M M<|ZF M (zC M M)<|ZF M (zC M M)<|Zt (z:=Jd) (cs:=Jn) M fun b7=>wl_fact (φ:=∃p q,lkV (S.op++[32]++S.sh) lF vsF=.agg #[p,q]∧p.oneCell'=true∧q.oneCell'=true) (fun w hw=>lk_form (S.op++[32]++S.sh) (HpG.x hw).1.2) (fun ⟨p,q,e1,e2,e3⟩=>?_);refine yP .none (vG (seg:=[p,q]) 0 M (by rw[show Value.agg [p,q].toArray=lkV (S.op++[32]++S.sh) lF vsF from e1.symm];rfl) M (by simp[e2,e3]) M (by kernel_rfl)) (fun _=>?_);refine Za M M<|ZX<|zX<|Z7r 0 3 5 6 7 8 16 M<|Zm M M<|ZF M (xO M)<|ZT<|zT M (fun h49=>?_) (fun h49=>?_)
 ·refine zX<|Z8r 0 3 5 6 7 8 16 49 M<|Za M M<|ZT<|zK<|zW<|yY M M (fun w hw=>?_)
  exact⟨(Kk hw).ext,by
   have h1:=(HpG.x hw).1.2.look (S.op++[32]++S.sh);rw[hr] at h1
   cases r with
   | none=>rfl
   | some f=>obtain⟨v',e,_⟩:=h1;rw[e] at h49;cases h49⟩
 skip;refine zR<|zV<|zX<|Z8r 0 3 5 6 7 8 16 49 M<|Za M M<|ZU M M (fun w hw=>?_)
 exact⟨(Kk hw).ext,by
  have h1:=(HpG.x hw).1.2.look (S.op++[32]++S.sh);rw[hr] at h1
  cases r with
  | none=>exfalso;rw[show wB (S.op++[32]++S.sh) (wC lF vsF)=none from h1] at h49;exact absurd h49 (by decide)
  | some f =>
   obtain⟨v',e,h2⟩:=h1;have h4:lkV (S.op++[32]++S.sh) lF vsF=fmG v':=by unfold lkV;rw[e];rfl
   rw[h4] at e1;have e5:#[v'.1,v'.2]=#[p,q]:=by injection e1
   have e6:v'.1=p∧v'.2=q:=by simpa using e5
   exact⟨b7,v',rfl,⟨.inr (HpG.mineL (j:=0) hw M id),by rw[e6.1,e6.2];exact HpG.blk hw (k:=0) rfl⟩,qS.lies.mono (fun _ h=>.inl h) h2⟩⟩
end Go.Proofs.YtkaepknpplhgkaaGreatDoor
namespace Go.Proofs.YtkaepknpplhgkaaGreatDoor
open Go.RowKit
def FpP (r:Option AFm) (fp:Option Addr) (F:Nat→Prop) (w:World):Prop:=match r with
 | none=>fp=none
 | some f=>∃b v,fp=some ⟨b,0,none⟩∧FmP f b v F w
theorem FpP.lies {r:Option AFm}{fp:Option Addr}:Lies (FpP r fp):=by
 cases r with
 | none=>exact⟨fun _ h=>h,fun h=>h,fun _ h=>h⟩
 | some f=>exact⟨fun hk ⟨b,v,h1,h2⟩=>⟨b,v,h1,FmP.lies.foot hk h2⟩,fun ⟨b,v,h1,h2⟩=>⟨b,v,h1,FmP.lies.lt h2⟩,fun hF ⟨b,v,h1,h2⟩=>⟨b,v,h1,FmP.lies.mono hF h2⟩⟩
structure StP (st:ASt) (S:SV) (F:Nat→Prop) (w:World):Prop where
 lb:S.lb=st.label
 op:S.op=st.op
 sh:S.sh=st.shape
 l:S.l=st.l
 z:S.z=st.size
 x:OpX F S w
 f:FpP st.form S.fp F w
theorem StP.lies {st:ASt}{S:SV}:Lies (StP st S):=⟨fun hk h=>⟨h.lb,h.op,h.sh,h.l,h.z,RdF.lies.foot hk h.x,FpP.lies.foot hk h.f⟩,fun h=>⟨h.lb,h.op,h.sh,h.l,h.z,RdF.lies.lt h.x,FpP.lies.lt h.f⟩,fun hF h=>⟨h.lb,h.op,h.sh,h.l,h.z,RdF.lies.mono hF h.x,FpP.lies.mono hF h.f⟩⟩
def PsPost (F0:Nat→Prop) (r:Except Nat ASt) (w:World) (e:Ending) (w':World):Prop:=Ext w w'∧match r with
 | .ok st=>∃S,e=.returned (.agg (svC S).toArray)∧StP st S (fun k=>F0 k∨w.heap.size≤k) w'
 | .error c=>e=.panicked (pan (qK c))
def svZ:SV:=⟨[],[],[],[],none,0,none,0,0⟩
theorem parA_lab {kind:Int}{l:List ATk}(h:1<l.length∧isA [58] (l.drop 1)=true):nR kind l=yG (xH 119 l) fun p=>yG (tH p.1.s) fun x=>stmA kind x (p.2.drop 1):=Ah h
theorem parA_no {kind:Int}{l:List ATk}(h:¬(1<l.length∧isA [58] (l.drop 1)=true)):nR kind l=stmA kind [] l:=Ag h
theorem stmA_eq (kind:Int) (label:Bs) (l:List ATk):stmA kind label l=if l=[] then .ok ⟨label,[],[],[],none,0,0⟩ else
  yG (xH 119 l) fun p =>
  yG (oM kind (p.2.length+1) true [] p.2) fun os =>
  match wI kind p.1.s (xR os) os.length with
  | none=>.error 20
  | some f=>if p.1.s=xT∧¬(p.2.length=1∧(p.2.headD ⟨0,[],0⟩).kind=48) then .error 20 else .ok ⟨label,p.1.s,xR os,os,some f,0,sizeA f os⟩:=rfl
theorem opsF_eq (kind:Int) (f:Nat) (first:Bool) (acc:List AOp) (l:List ATk):oM kind (f+1) first acc l=if l=[] then .ok acc
  else if first=false∧isA [44] l=false then .error 20
  else yG (opA kind (if first then l else l.drop 1)) fun p=>oM kind f false (acc++[p.1]) p.2:=rfl
theorem pS {w0 w w':World}{g:Nat}(h1:Keep (fun _=>False) w0 w) (h2:Keep (fun j=>j=g) w w') (hg:w0.heap.size≤g):Keep (fun _=>False) w0 w' :=
 ⟨h2.os.trans h1.os,h2.tape.trans h1.tape,h2.output.trans h1.output,Ap h1.size h2.size,fun k hk _=>(h2.block k (Kr hk h1.size) (fun e=>by omega)).trans (h1.block k hk id)⟩
theorem rZ {w0 w:World}(h:Keep (fun _=>False) w0 w):Ext w0 w:=h.ext
section
variable {P:Program}{ops:Array Oper}{Q:Exit→Act→World→Prop}{n:Fr}{m:List (Nat×Value)}{ty:TypeId}{G:Nat→Prop}{w0 w:World}{L:List (Nat×Obj)}{R:List Rw}{X:World→Prop}{rest:List Oper}{d:Nat}{pos:String}{af:Array Edge}{gd:Option (Nat×Bool)}
theorem HpG.low (h:HpG G (fun _=>False) w0 L R X w):∀k∈uR L R,w0.heap.size≤k:=fun k hk=>by
 rcases Aq.1 hk with hk|hk
 ·obtain⟨p,hp,rfl⟩:=List.mem_map.1 hk;exact (h.mine p hp).resolve_right id
 obtain⟨r,hr,he⟩:=List.mem_filterMap.1 hk;exact ((h.rows r hr).lt k he).1
theorem wl_callO {ι:Type}{f:FuncId}{args:List Operand}{ats:Array TypeId}{vs:List Value}{val:ι→Value}{TT:ι→(Nat→Prop)→World→Prop}(F0:Nat→Prop) (hF0:∀k,F0 k→k<w0.heap.size) (hg:Gd ops m gd) (hd:Nat.blt d n=true) (hf:goes P f=true) (ha:evl m args=some vs) (hT:∀i,Lies (TT i))
  (hC:∀w,Jy w0 L R X w→Calls P f vs.toArray w fun e w'=>∃i,e=.returned (val i)∧Ext w w'∧TT i (fun k=>F0 k∨w.heap.size≤k) w')
  (h:∀i,WL P ops Q rest n ((d,val i)::m) (Jy w0 L R (fun u=>TT i (fun k=>F0 k∨w0.heap.size≤k) u∧X u))):WL P ops Q (⟨some d,.call { callee:=.value (.func f),args:=args.toArray,argTypes:=ats },ty,pos,af,gd⟩::rest) n m (Jy w0 L R X) :=
 xY (ι:=ι) (val:=val) (H':=fun i=>Jy w0 L R (fun u=>TT i (fun k=>F0 k∨w0.heap.size≤k) u∧X u)) hg hd
  (rF hf ha fun w hw=>(hC w hw).mono fun _ w' ⟨i,e1,e2,e3⟩=>by
   have h1:Jy w0 L R X w':=HpG.onE hw e2;refine⟨_,e1,i,rfl,Hp.weakX (Hp.addX h1 (X2:=fun u=>TT i (fun k=>(F0 k∨w.heap.size≤k)∧k<w'.heap.size) u) ⟨fun k=>(F0 k∨w.heap.size≤k)∧k<w'.heap.size,fun k hk=>⟨hk.2,id,fun hm=>?_⟩,fun u hu=>(hT i).foot hu ((hT i).lt e3)⟩) fun u ⟨a,b⟩=>⟨(hT i).mono (fun k hk=>hk.1.imp id (Ap (HpG.size hw))) a,b⟩⟩;have h2:=HpG.low h1 k hm;have h3:=HpG.lt hw k hm;rcases hk.1 with h|h;have:=hF0 k h;omega
   omega) h
end
section
variable {P:Program}{n:Fr}{m:List (Nat×Value)}{ty:TypeId}{H:World→Prop}
theorem run_eql_nil {t:TypeId}{p:Option Addr}(ht:P.underlying t=some (.pointer (P.pointee t))) (w:World):(Op.equal t (.pointer p) (.pointer none)).run P w=.ok p.isNone w:=run_equalIn_pointer_nil (P:=P) w 9999 t p ht
theorem yf_eqNil {x y:Operand}{t t':TypeId}{p:Option Addr}(hx:ev m x=some (.pointer p)) (hy:ev m y=some (.pointer none)) (ht:P.underlying t=some (.pointer (P.pointee t))):YF P (.binOp .eql t x y t') ty n m H (.bool p.isNone):=fun _ w d pos af g hs hw=>by
 have:=run_eql_nil (P:=P) (p:=p) ht w;simp[Yl,execOp,hs.ev hx,hs.ev hy,binOp,Result.andThen,eqGuard_at_pointer,this]
theorem yf_neNil {x y:Operand}{t t':TypeId}{p:Option Addr}(hx:ev m x=some (.pointer p)) (hy:ev m y=some (.pointer none)) (ht:P.underlying t=some (.pointer (P.pointee t))):YF P (.binOp .neq t x y t') ty n m H (.bool p.isSome):=fun _ w d pos af g hs hw=>by
 have:=run_eql_nil (P:=P) (p:=p) ht w;cases p<;>simp[Yl,execOp,hs.ev hx,hs.ev hy,binOp,Result.andThen,eqGuard_at_pointer,this]
end
def FpQ (r:Option AFm) (o:Option (Nat×(Value×Value))) (F:Nat→Prop) (w:World):Prop:=match r,o with
 | some f,some p=>FmP f p.1 p.2 F w
 | none,none=>True
 | _,_=>False
theorem FpQ.lies {r:Option AFm}{o:Option (Nat×(Value×Value))}:Lies (FpQ r o):=by
 cases r with
 | none=>cases o with
  | none=>exact⟨fun _ _=>trivial,fun _=>trivial,fun _ _=>trivial⟩
  | some p=>exact⟨fun _ h=>h,fun h=>h,fun _ h=>h⟩
 | some f=>cases o with
  | none=>exact⟨fun _ h=>h,fun h=>h,fun _ h=>h⟩
  | some p=>exact FmP.lies
theorem FpQ.some_ {r:Option AFm}{o:Option (Nat×(Value×Value))}{F:Nat→Prop}{w:World}(h:FpQ r o F w):(o.isNone=true↔r=none):=by
 cases r<;>cases o<;>simp[FpQ] at h ⊢
abbrev fpA (o:Option (Nat×(Value×Value))):Option Addr:=o.map fun p=>⟨p.1,0,none⟩
def stmF (kind:Int) (label op:Bs) (lit:Bool) (os:List AOp):Except Nat ASt:=match wI kind op (xR os) os.length with
 | none=>.error 20
 | some f=>if op=xT∧lit=false then .error 20 else .ok ⟨label,op,xR os,os,some f,0,sizeA f os⟩
theorem stmA_F (kind:Int) (label:Bs) {l:List ATk}(hl:l≠[]):stmA kind label l=yG (xH 119 l) fun p=>yG (oM kind (p.2.length+1) true [] p.2) (stmF kind label p.1.s (decide (p.2.length=1∧(p.2.headD ⟨0,[],0⟩).kind=48))):=by
 rw[stmA_eq,Ag hl];congr 1
 funext p
 congr 1
 funext os
 unfold stmF
 cases wI kind p.1.s (xR os) os.length with
 | none=>rfl
 | some f=>simp only[decide_eq_false_iff_not]
theorem opsF_nil (kind:Int) (f:Nat) (first:Bool) (acc:List AOp):oM kind (f+1) first acc []=.ok acc:=rfl
theorem nZ {kd:Nat}{l l':List ATk}{t:ATk}(h:xH kd l=.ok (t,l')):l'.length+1=l.length:=by
 obtain⟨h1,rfl⟩:=vY h;have:=List.length_pos_of_mem h1;rw[Kw];omega
theorem rgA_lt {kind:Int}{l l':List ATk}{r:Int}(h:rgA kind l=.ok (r,l')):l'.length+1=l.length:=by
 obtain⟨_,_,t,h1,rfl⟩:=rgA_ok h;have:=List.length_pos_of_mem h1;rw[Kw];omega
theorem tailA_le {o o':AOp}{l l':List ATk}(h:vA o l=.ok (o',l')):l'.length≤l.length:=by
 rw[tailA_eq] at h;obtain⟨⟨n,l1⟩,h1,h2⟩:=yL h;dsimp only at h2
 have hl:l1.length≤l.length:=by
  split at h1
  ·obtain⟨⟨t,l2⟩,h3,h4⟩:=yL h1;cases h4;have:=nZ h3;rw[Kw] at this;dsimp only;omega
  split at h1
  ·obtain⟨⟨t,l2⟩,h3,h4⟩:=yL h1;cases h4;have:=nZ h3;rw[Kw] at this;dsimp only;omega
  ·cases h1;exact Ae _
 split at h2
 ·cases h2;rw[Kw];omega
 ·cases h2
theorem memA_le {kind:Int}{l l':List ATk}{o:AOp}(h:sB kind l=.ok (o,l')):l'.length≤l.length:=by
 rw[memA_eq] at h;obtain⟨⟨r1,l1⟩,h1,h⟩:=yL h;have a1:=rgA_lt h1;dsimp only at h
 split at h
 ·obtain⟨⟨r2,l2⟩,h2,h⟩:=yL h;have a2:=rgA_lt h2;rw[Kw] at a2;dsimp only at h
  split at h
  ·obtain⟨⟨t,l3⟩,h3,h⟩:=yL h;have a3:=nZ h3;rw[Kw] at a3;dsimp only at h
   split at h
   have:=tailA_le h;omega
   ·cases h
  have:=tailA_le h;omega
 have:=tailA_le h;omega
theorem opA_lt {kind:Int}{l l':List ATk}{o:AOp}(h:opA kind l=.ok (o,l')):l'.length<l.length:=by
 rw[opA_eq] at h
 have hne:∀x,isA x l=true→0<l.length:=fun x hx=>by
  cases l with
  | nil=>cases hx
  | cons _ _=>simp
 split at h
 ·next hx =>
  have:=memA_le h;have:=hne _ hx;rw[Kw] at *;omega
 split at h
 ·next hx =>
  obtain⟨⟨t,l1⟩,h1,h⟩:=yL h;cases h;have:=nZ h1;rw[Kw] at this;dsimp only;omega
 split at h
 ·obtain⟨⟨t,l1⟩,h1,h⟩:=yL h;cases h;have:=nZ h1;dsimp only;omega
 obtain⟨⟨t,l1⟩,h1,h⟩:=yL h;have h2:=nZ h1;dsimp only at h
 split at h
 ·cases h;omega
 obtain⟨x,_,h⟩:=yL h;cases h;omega
structure OpI (V:PV) (fin:List AOp→Except Nat ASt) (r:Except Nat ASt) (k:Nat) (A:Option Addr) (first:Bool) (acc:List AOp) (f:Nat):Prop where
 at_:PAt V k A
 e:yG (oM V.kind f first acc (V.l.drop k)) fin=r
 f:V.l.length-k<f
 ok:∀o∈acc,OpR o
 n:acc.length≤k
theorem opsC_snoc (l:List AOp) (o:AOp):vI (l++[o])=vI l++aoC o:=by unfold vI;rw[List.flatMap_append];simp
theorem shpA_snoc (l:List AOp) (o:AOp):xR (l++[o])=xR l++[byL o.kind]:=by unfold xR;rw[List.map_append];rfl
theorem byL_k {n:Nat}(h:n<256):((byL n).toNat:Int)=n:=by unfold byL;simp;omega
abbrev svS (lb op:Bs) (acc:List AOp) (A:Option Addr) (cap:Nat):SV:=⟨lb,op,xR acc,acc,A,cap,none,0,0⟩
abbrev rwS (acc:List AOp) (A:Option Addr) (cap:Nat):Rw:=⟨.slice A acc.length cap,100,6,acc.length,vI acc⟩
theorem svS_next (lb op:Bs) (acc:List AOp) (o:AOp) (A:Option Addr) (cap:Nat):svO (svS lb op (acc++[o]) A cap)=bk 91 [.string ⟨lb.toArray⟩,.string ⟨op.toArray⟩,.string ⟨(xR acc++[byL o.kind]).toArray⟩,.slice A (acc.length+1) cap,.pointer none,.int .i64 0,.int .i64 0]:=by
 unfold svO svC svS;dsimp only;rw[shpA_snoc,Kb];rfl
theorem rwS_next (acc:List AOp) (o:AOp) (A:Option Addr) (cap:Nat):rwS (acc++[o]) A cap=⟨.slice A (acc.length+1) cap,100,6,acc.length+1,vI acc++aoC o⟩:=by
 unfold rwS;rw[opsC_snoc,Kb];rfl
abbrev svL (lb op:Bs):SV:=⟨lb,op,[],[],none,0,none,0,0⟩
end Go.Proofs.YtkaepknpplhgkaaGreatDoor
namespace Go.Proofs.YtkaepknpplhgkaaGreatDoor
open Go.RowKit
set_option maxHeartbeats 1000000 in
theorem parse_any (V:PV) (hT:∀t∈V.l,TkOk t) (hlen:V.l.length≤2000000) (A:Option Addr) (hp:PAt V 0 A) (lF:List (Bs×AFm)) (bF:Nat) (vsF:List (Value×Value)) (F0:Nat→Prop) (hF:∀k,wR k lF=wR k (if V.kind=2 then oJ else xS)) (w_0:World) (hX:TkX V w_0) (hX0:vR lF bF vsF F0 w_0) :
  Calls Tryz.prog 42 #[.int .i64 V.kind,.map (some bF),.slice A V.l.length V.cap] w_0 (PsPost F0 (nR V.kind V.l) w_0):=by
 have hbg:=hp.big;unfold maxLen at hbg;have hcp:=hp.cap;have hV:NumX V:=fun t h=>(hT t h).n;have hL:LenX V:=fun t h=>(hT t h).len;unfold PsPost;generalize hr:nR V.kind V.l=r;refine zN (args:=[.int .i64 V.kind,.map (some bF),.slice A V.l.length V.cap]) Tryz.func42 M 134 M (Kh M)<|Z3 0 1 2 M<|zG (H':=Jy w_0 [] [] (fun u=>TkX V u∧vR lF bF vsF (fun k=>F0 k∧k<w_0.heap.size) u)) (fun u hu=>?_) ?_;subst hu;exact Hp.start ⟨fun k=>(V.l≠[]∧k=V.g)∨(F0 k∧k<u.heap.size),fun k hk=>⟨hk.elim (fun h=>by rw[h.2];exact hX.lt h.1) (fun h=>h.2),id⟩,fun u' hu'=>⟨hX.foot fun h=>hu' _ (.inl ⟨h,rfl⟩),vR.lies.foot (fun k hk=>hu' k (.inr hk)) (vR.lies.lt hX0)⟩⟩;refine zX<|zZ<|Zt (z:=.agg #[.string ⟨#[]⟩,.string ⟨#[]⟩,.string ⟨#[]⟩,.slice none 0 0,.pointer none,.int .i64 0,.int .i64 0]) (cs:=Jr) M fun b6=>ZX<|zZ<|Zm M M<|Zm M M<|ZF M (Zb [.int .i64 0,.slice none 0 0] [(0,1),(1,1)] M)<|zA .none M (yQ M M) fun b15=>Za M M<|ZX<|Z5r 0 1 2 6 7 M<|ZF M (Zb [.string ⟨#[]⟩,.string ⟨#[]⟩,.string ⟨#[]⟩,.slice none 0 0,.pointer none,.int .i64 0,.int .i64 0] [(0,1),(1,1),(2,1),(3,1),(4,1),(5,1),(6,1)] M)<|Zt (z:=.agg #[.string ⟨#[]⟩,.string ⟨#[]⟩,.string ⟨#[]⟩,.slice none 0 0,.pointer none,.int .i64 0,.int .i64 0]) (cs:=Jr) M fun b8=>ZR 0 M<|ZT<|zB (ι:={p:Nat×Option Addr×Bs // PAt V p.1 p.2.1∧r=stmA V.kind p.2.2 (V.l.drop p.1)}) (fun _=>[(1,.map (some bF)),(6,Jx b6),(7,Jx b15),(8,Jx b8)]) (fun p=>Jy w_0 [(b8,svO (svL p.1.2.2 [])),(b15,pO V p.1.1 p.1.2.1),(b6,svO svZ)] [] (fun u=>TkX V u∧vR lF bF vsF (fun k=>F0 k∧k<w_0.heap.size) u)) ?_ (fun p=>?_)
 ·refine zB (ι:={z:Bool // z=true↔(1<V.l.length∧isA [58] (V.l.drop 1)=true)}) (fun z=>[(1,.map (some bF)),(6,Jx b6),(7,Jx b15),(8,Jx b8),(33,.bool z.1)]) (fun _=>Jy w_0 [(b8,svO (svL [] [])),(b15,pO V 0 A),(b6,svO svZ)] [] (fun u=>TkX V u∧vR lF bF vsF (fun k=>F0 k∧k<w_0.heap.size) u)) ?_ (fun z=>?_)
  ·refine Z6r 0 1 2 6 7 8 M<|Zm M M<|ZF M (yK M U93)<|ZF M (vS M M)<|Zm M M<|zQ 20 M (fun g4=>?_) (fun g4=>?_)
   ·replace g4:=Ki g4;obtain⟨t,ht⟩:=hp.tk' (j:=1) (by omega);have hA:=hp.at_ (by omega)
    have hde:V.l.drop 1=t::V.l.drop 2:=by
     obtain⟨e1,e2⟩:=Kg.1 ht;rw[List.drop_eq_getElem_cons e1,e2]
    refine Zv M<|ZG M M M (Zi (j:=1) (es:=3) (g:=V.g) (o:=V.off+3*0) (len:=V.l.length) (cap:=V.cap) (congrArg (fun z=>some (Value.slice z V.l.length V.cap)) hA) M Tryz.underlying93 M (by omega) M) ?_;refine ZG M M M (Y178x0 M) ?_;refine ZG M M M (zL M U5 M (fun w hw=>(HpG.x hw).1 1 t ht 0 _ M))<|Zx M<|Zh M<|Zm M M<|zQ 27 M (fun g11=>?_) (fun g11=>?_)
    ·replace g11:=Kq g11;refine Zv M<|ZG M M M (Zi (j:=1) (es:=3) (g:=V.g) (o:=V.off+3*0) (len:=V.l.length) (cap:=V.cap) (congrArg (fun z=>some (Value.slice z V.l.length V.cap)) hA) M Tryz.underlying93 M (by omega) M) ?_;refine ZG M M M (zY (off:=1) (sz:=0) M U178 (by kernel_rfl) M) ?_;refine ZG M M M (zL M U9 M (fun w hw=>(HpG.x hw).1 1 t ht 1 _ M))<|ZG M M M (yZ M M U9)<|Zh M<|zS<|zU (ι:={z:Bool // z=true↔(1<V.l.length∧isA [58] (V.l.drop 1)=true)}) ⟨decide (t.s=[58]),by rw[hde,nL,An (show t.kind=115 by omega),Bool.true_and];exact⟨fun h=>⟨by omega,h⟩,fun h=>h.2⟩⟩ (O5 M) Jz
    replace g11:=yT g11;refine ZP M<|ZP M<|ZP M<|ZP M<|ZP M<|Zf M<|zS<|zU (ι:={z:Bool // z=true↔(1<V.l.length∧isA [58] (V.l.drop 1)=true)}) ⟨false,⟨fun h=>(by cases h),fun h=>by rw[hde,nL,Ao (show ¬t.kind=115 by omega),Bool.false_and] at h;exact absurd h.2 (by decide)⟩⟩ (O5 M) Jz
   replace g4:=Kj g4;refine ZP M<|ZP M<|ZP M<|ZP M<|ZP M<|Zf M<|Zm M M<|ZP M<|ZP M<|ZP M<|ZP M<|ZP M<|Zf M<|zS<|zU (ι:={z:Bool // z=true↔(1<V.l.length∧isA [58] (V.l.drop 1)=true)}) ⟨false,⟨fun h=>(by cases h),fun h=>absurd h.1 (by omega)⟩⟩ (O5 M) Jz
  obtain⟨z,hz⟩:=z;dsimp only;refine zT M (fun h33=>?_) (fun h33=>?_)
  ·have hc3:=hz.1 h33;rw[parA_lab hc3] at hr;refine zX<|zZ<|Zm M M<|tI (val:=fun t=>.agg (tkC t).toArray) (r:=xH 119 (V.l.drop 0)) V b15 1 .none M  (by kernel_rfl) M M (fun w w' hw h=>pS (Kk hw) h (HpG.mineL (j:=1) hw M id)) (fun w hw=>sL V 119 b15 0 A hp w (HpG.blkL (j:=1) hw M) (HpG.x hw).1) (fun c hc=>zO<|zO<|xZ (fun w hw=>⟨rZ hw,by rw[show xH 119 V.l=.error c from hc] at hr;subst hr;rfl⟩)) (fun t1 l1 k1 A1 h1 hp1 hl1=>?_);have h1:xH 119 V.l=.ok (t1,l1):=h1;have ht1:=hL t1 (vY h1).1;have hl1d:=(vY h1).2;have hr:yG (tH t1.s) (fun x=>stmA V.kind x (l1.drop 1))=r:=by rw[h1] at hr;exact hr
   refine ZF M (tQ (off:=1) (ft:=9) M U178 (by kernel_rfl) U9 M M) ?_;have hnm:=fun w=>name_any t1.s ht1 w;rcases hna:tH t1.s with e9|n9
   ·rw[hna] at hr hnm;refine oE .none (ch:=pan (qK e9)) (H':=fun w'=>Ext w_0 w') (by kernel_rfl) M (fun w hw=>(hnm w).mono fun e w' ⟨h1,h2⟩=>⟨h2,(Kk hw).ext.trans h1⟩) ?_;refine zO<|zO<|xZ fun w hw=>⟨hw,by subst hr;rfl⟩
   skip;rw[hna] at hr hnm;have hr:stmA V.kind n9 (l1.drop 1)=r:=hr;refine Zu (v:=.string ⟨n9.toArray⟩) M (fun w hw=>(hnm w).mono fun e w' ⟨h1,h2⟩=>⟨h2,h1⟩) ?_;refine ZF M (Y91x0 M) ?_;refine ZS 0 M<|ZT<|Z5r 1 6 7 8 33 M<|Zm M M<|tI (val:=fun b=>.bool b) (r:=.ok (isA [58] (V.l.drop k1),pD [58] (V.l.drop k1))) V b15 1 .none M  (by kernel_rfl) M M (fun w w' hw h=>pS (Kk hw) h (HpG.mineL (j:=1) hw M id)) (fun w hw=>sJ V [58] b15 k1 A1 hp1 w (HpG.blkL (j:=1) hw M) (HpG.x hw).1) (fun c hc=>zO<|xZ (fun w hw=>(by cases hc))) (fun t2 l2 k2 A2 h2 hp2 hl2=>?_);cases h2;have hs2:V.l.drop k2=l1.drop 1:=by rw[← hl2,← hl1,qP (by rw[hl1d];exact hc3.2)]
   refine zS<|zU (ι:={p:Nat×Option Addr×Bs // PAt V p.1 p.2.1∧r=stmA V.kind p.2.2 (V.l.drop p.1)}) ⟨(k2,A2,n9),hp2,by rw[hs2];exact hr.symm⟩ (O4 M) Jz
  skip;rw[parA_no (fun hh=>by rw[hz.2 hh] at h33;cases h33)] at hr;refine zR<|zU (ι:={p:Nat×Option Addr×Bs // PAt V p.1 p.2.1∧r=stmA V.kind p.2.2 (V.l.drop p.1)}) ⟨(0,A,[]),hp,by rw[Kx];exact hr.symm⟩ (O4 M) Jz
 obtain⟨⟨k,A,lb⟩,hp,hr⟩:=p;dsimp only at hp hr ⊢;have hle:=hp.le;refine zX<|zX<|zZ<|Zm M M<|Zn M M<|ZF M (Y176x1 M) ?_;refine Zl 1 M U93 M<|ZF M (yK M U93)<|Ze M<|ZT<|zT M (fun h46=>?_) (fun h46=>?_)
 ·replace h46:=Kq h46;have hd0:V.l.drop k=[]:=hp.dropN (by omega);rw[stmA_eq,Ah hd0] at hr;refine zX<|Z5r 1 6 7 8 46 M<|ZF M (Zo 0 M U91 M)<|ZR 2 M<|ZT<|zK<|zW<|yS M M 2 M U91 M (by kernel_rfl) fun w hw=>⟨rZ (Kk hw),by subst hr;exact⟨svL lb [],rfl,⟨rfl,rfl,rfl,rfl,rfl,(fun h=>absurd h (Nat.lt_irrefl 0)),rfl⟩⟩⟩
 replace h46:=yT h46;have hd0:V.l.drop k≠[]:=fun e=>by have:=List.drop_eq_nil_iff.1 e;omega
 rw[stmA_F _ _ hd0] at hr;refine zR<|zV<|zX<|Z5r 1 6 7 8 46 M<|Zm M M<|tI (val:=fun t=>.agg (tkC t).toArray) (r:=xH 119 (V.l.drop k)) V b15 1 .none M  (by kernel_rfl) M M (fun w w' hw h=>pS (Kk hw) h (HpG.mineL (j:=1) hw M id)) (fun w hw=>sL V 119 b15 k A hp w (HpG.blkL (j:=1) hw M) (HpG.x hw).1) (fun c hc=>zO<|xZ (fun w hw=>⟨rZ hw,by rw[hc] at hr;subst hr;rfl⟩)) (fun t3 l3 k3 A3 h3 hp3 hl3=>?_);have hk3:=hp3.le;have hr:yG (oM V.kind (l3.length+1) true [] l3) (stmF V.kind lb t3.s (decide (l3.length=1∧(l3.headD ⟨0,[],0⟩).kind=48)))=r:=by rw[h3] at hr;exact hr.symm
 refine ZF M (tQ (off:=1) (ft:=9) M U178 (by kernel_rfl) U9 M M) ?_;refine ZF M (Y91x1 M) ?_;refine ZS 0 M<|ZT<|zB (ι:={z:Bool // z=(decide (l3.length=1∧(l3.headD ⟨0,[],0⟩).kind=48))}) (fun z=>[(1,.map (some bF)),(6,Jx b6),(7,Jx b15),(8,Jx b8),(9,.bool z.1)]) (fun _=>Jy w_0 [(b8,svO (svL lb t3.s)),(b15,pO V k3 A3),(b6,svO svZ)] [] (fun u=>TkX V u∧vR lF bF vsF (fun k=>F0 k∧k<w_0.heap.size) u)) ?_ (fun z=>?_)
 ·refine Z5r 1 6 7 8 46 M<|Zm M M<|Zn M M<|ZF M (Y176x1 M) ?_;refine Zl 1 M U93 M<|ZF M (yK M U93)<|Ze M<|Zm M M<|zQ 58 M (fun g9=>?_) (fun g9=>?_)
  ·replace g9:=Kq g9;obtain⟨tk,htk⟩:=hp3.tk (by omega);have hA3:=hp3.at_ (by omega);have hde3:=hp3.dropE htk;refine Zv M<|ZG M M M (xV M)<|ZG M M M (Y176x1 M) ?_;refine ZG M M M (yU 1 M M M U93 M)<|ZG M M M (Zi (j:=0) (es:=3) (g:=V.g) (o:=V.off+3*k3) (len:=V.l.length-k3) (cap:=V.cap-k3) (congrArg (fun z=>some (Value.slice z (V.l.length-k3) (V.cap-k3))) hA3) M Tryz.underlying93 M (by omega) M) ?_;refine ZG M M M (Y178x0 M) ?_;refine ZG M M M (zL M U5 M (fun w hw=>(HpG.x hw).1 k3 tk htk 0 _ M))<|Zx M<|Zh M<|Za M M<|zS ?_
   refine zU (ι:={z:Bool // z=(decide (l3.length=1∧(l3.headD ⟨0,[],0⟩).kind=48))}) ⟨((tk.kind:Int)==48),by
    rw[Kf,Am,Af,hl3,Kw,hde3]
    exact⟨fun h=>⟨by omega,by show tk.kind=48;omega⟩,fun h=>by have h:tk.kind=48:=h.2;omega⟩⟩ (O5 M) Jz
  replace g9:=yT g9;refine ZP M<|ZP M<|ZP M<|ZP M<|ZP M<|ZP M<|ZP M<|ZP M<|Zf M<|Za M M<|zS ?_
  refine zU (ι:={z:Bool // z=(decide (l3.length=1∧(l3.headD ⟨0,[],0⟩).kind=48))}) ⟨false,by
   symm
   rw[decide_eq_false_iff_not,hl3,Kw]
   exact fun h=>absurd h.1 (by omega)⟩ (O5 M) Jz
 obtain⟨lt,hlt⟩:=z;dsimp only;refine zB (ι:={p:Nat×Option Addr×List AOp×Option Addr×Nat // (stmF V.kind lb t3.s (decide (l3.length=1∧(l3.headD ⟨0,[],0⟩).kind=48))) p.2.2.1=r∧(∀o∈p.2.2.1,OpR o)∧p.2.2.1.length≤2000000}) (fun _=>[(1,.map (some bF)),(6,Jx b6),(7,Jx b15),(8,Jx b8),(9,.bool lt)]) (fun p=>Jy w_0 [(b8,svO (svS lb t3.s p.1.2.2.1 p.1.2.2.2.1 p.1.2.2.2.2)),(b15,pO V p.1.1 p.1.2.1),(b6,svO svZ)] [rwS p.1.2.2.1 p.1.2.2.2.1 p.1.2.2.2.2] (fun u=>TkX V u∧vR lF bF vsF (fun k=>F0 k∧k<w_0.heap.size) u)) ?_ (fun p=>?_)
 ·refine zX<|zZ<|Za M M<|ZT<|zJ<|yF (ι:={p:Nat×Option Addr×Bool×List AOp×Nat×Option Addr×Nat // OpI V (stmF V.kind lb t3.s (decide (l3.length=1∧(l3.headD ⟨0,[],0⟩).kind=48))) r p.1 p.2.1 p.2.2.1 p.2.2.2.1 p.2.2.2.2.1}) (fun p=>[(1,.map (some bF)),(6,Jx b6),(7,Jx b15),(8,Jx b8),(9,.bool lt),(10,.bool p.1.2.2.1)]) (fun p=>Jy w_0 [(b8,svO (svS lb t3.s p.1.2.2.2.1 p.1.2.2.2.2.2.1 p.1.2.2.2.2.2.2)),(b15,pO V p.1.1 p.1.2.1),(b6,svO svZ)] [rwS p.1.2.2.2.1 p.1.2.2.2.2.2.1 p.1.2.2.2.2.2.2] (fun u=>TkX V u∧vR lF bF vsF (fun k=>F0 k∧k<w_0.heap.size) u)) (fun p=>p.1.2.2.2.2.1) ⟨(k3,A3,true,[],l3.length+1,none,0),⟨hp3,by rw[← hl3];exact hr,by show V.l.length-k3<l3.length+1;rw[hl3,Kw];omega,(fun _ h=>by cases h),Ad _⟩⟩ ?_ ?_ (fun p=>?_);exact O6 rfl;exact fun w h=>Hp.nil h _ _;obtain⟨⟨k,A,first,acc,f,A7,cap7⟩,hI⟩:=p;dsimp only at hI ⊢;obtain⟨hp,hr,hf,hok,hn⟩:=hI;have hle:=hp.le;refine zX<|zX<|zZ<|Zm M M<|Zn M M<|ZF M (Y176x1 M) ?_;refine Zl 1 M U93 M<|ZF M (yK M U93)<|ZF M (vS M M)<|ZT<|zT M (fun h73=>?_) (fun h73=>?_)
  ·replace h73:=Ki h73;obtain⟨f,rfl⟩:∃g,f=g+1:=⟨f-1,by omega⟩;have hdn:V.l.drop k≠[]:=fun e=>by have:=List.drop_eq_nil_iff.1 e;omega
   rw[opsF_eq,Ag hdn] at hr;refine zR<|zV<|zX<|zJ<|zX<|zB (ι:={z:Bool×Nat×Option Addr // PAt V z.2.1 z.2.2∧(z.1=true↔first=false∧isA [44] (V.l.drop k)=false)∧(z.1=false→V.l.drop z.2.1=if first=true then V.l.drop k else (V.l.drop k).drop 1)}) (fun z=>[(1,.map (some bF)),(6,Jx b6),(7,Jx b15),(8,Jx b8),(9,.bool lt),(10,.bool first),(80,.bool z.1.1)]) (fun z=>Jy w_0 [(b8,svO (svS lb t3.s acc A7 cap7)),(b15,pO V z.1.2.1 z.1.2.2),(b6,svO svZ)] [rwS acc A7 cap7] (fun u=>TkX V u∧vR lF bF vsF (fun k=>F0 k∧k<w_0.heap.size) u)) ?_ (fun z=>?_)
   ·refine Z7r 1 6 7 8 9 10 73 M<|Zm M M<|ZF M (xO M)<|Zm M M<|zQ 76 M (fun g13=>?_) (fun g13=>?_)
    ·refine Zv M<|tI (val:=fun b=>.bool b) (r:=.ok (isA [44] (V.l.drop k),pD [44] (V.l.drop k))) V b15 1 (.some M M) M  (by kernel_rfl) M M (fun w w' hw h=>pS (Kk hw) h (HpG.mineL (j:=1) hw M id)) (fun w hw=>sJ V [44] b15 k A hp w (HpG.blkL (j:=1) hw M) (HpG.x hw).1) (fun c hc=>zO<|zO<|yX<|zO<|zO<|yX<|zO<|xZ (fun w hw=>(by cases hc))) (fun t4 l4 k4 A4 h4 hp4 hl4=>?_);cases h4;refine ZG M M M (xO M)<|Zh M<|zS ?_;have hfi:first=false:=by simpa using g13
     refine zU (ι:={z:Bool×Nat×Option Addr // PAt V z.2.1 z.2.2∧(z.1=true↔first=false∧isA [44] (V.l.drop k)=false)∧(z.1=false→V.l.drop z.2.1=if first=true then V.l.drop k else (V.l.drop k).drop 1)}) ⟨(!isA [44] (V.l.drop k),k4,A4),hp4,⟨fun h=>⟨hfi,by simpa using h⟩,fun h=>by rw[h.2];rfl⟩,fun h=>by
      have h5:isA [44] (V.l.drop k)=true:=by simpa using h
      rw[hfi,Ag (by decide),← hl4,qP h5]⟩ (O7 rfl) Jz
    skip;refine ZP M<|ZP M<|ZP M<|Zf M<|zS ?_;have hfi:first=true:=by simpa using g13
    refine zU (ι:={z:Bool×Nat×Option Addr // PAt V z.2.1 z.2.2∧(z.1=true↔first=false∧isA [44] (V.l.drop k)=false)∧(z.1=false→V.l.drop z.2.1=if first=true then V.l.drop k else (V.l.drop k).drop 1)}) ⟨(false,k,A),hp,⟨fun h=>(by cases h),fun h=>by rw[hfi] at h;cases h.1⟩,fun _=>by rw[hfi,Ah rfl]⟩ (O7 M) Jz
   obtain⟨⟨z,k5,A5⟩,hp5,hz1,hz2⟩:=z;dsimp only at hp5 hz1 hz2 ⊢;have hle5:=hp5.le;refine zT M (fun h80=>?_) (fun h80=>?_)
   ·rw[Ah (hz1.1 h80)] at hr;refine zZ<|ZF M (xA M U25)<|wL .none M<|zO<|yX<|zO<|zO<|yX<|zO<|xZ fun w hw=>⟨rZ (Kk hw),by subst hr;rfl⟩
   skip;rw[Ag (fun hh=>by rw[hz1.2 hh] at h80;cases h80),← hz2 (by simpa using h80)] at hr;refine zR<|zV<|zX<|zZ<|Zm M M<|tI (val:=fun o=>.agg (aoC o).toArray) (r:=opA V.kind (V.l.drop k5)) V b15 1 .none M  (by kernel_rfl) M M (fun w w' hw h=>pS (Kk hw) h (HpG.mineL (j:=1) hw M id)) (fun w hw=>operand_any V hV hL b15 k5 A5 hp5 w (HpG.blkL (j:=1) hw M) (HpG.x hw).1) (fun c hc=>zO<|yX<|zO<|zO<|yX<|zO<|xZ (fun w hw=>⟨rZ hw,by rw[hc] at hr;subst hr;rfl⟩)) (fun t6 l6 k6 A6 h6 hp6 hl6=>?_);have ho6:OpR t6:=opA_ok (fun t h=>hT t (List.mem_of_mem_drop h)) h6;have hr:yG (oM V.kind f false (acc++[t6]) l6) (stmF V.kind lb t3.s (decide (l3.length=1∧(l3.headD ⟨0,[],0⟩).kind=48)))=r:=by rw[h6] at hr;exact hr
   have hle6:=hp6.le;have hkk:t6.kind<256:=by rcases ho6.k with h|h|h<;>omega
   have hk56:V.l.length-k6<V.l.length-k5:=by have:=opA_lt h6;rw[hl6,Kw,Kw] at this;exact this
   have hkk5:V.l.length-k5≤V.l.length-k:=by
    have:=congrArg List.length (hz2 (by simpa using h80));rw[Kw] at this
    split at this
    rw[Kw] at this;omega;rw[Kw,Kw] at this;omega
   rw[hl6] at hr;have hok6:∀o∈acc++[t6],OpR o:=fun o ho=>(Aq.1 ho).elim (hok o) fun h=>by rw[Ar.1 h];exact ho6
   refine Zt (z:=.agg #[.int .u8 0,.int .i64 0,.string ⟨#[]⟩,.int .u32 0,.int .i64 0,.int .i64 0]) (cs:=Jk) M fun b11=>ZR 0 M<|ZX<|Z8r 1 6 7 8 9 10 11 80 M<|ZF M (Y91x3 M) ?_;refine Zl 1 M U88 M<|ZF M (Zo 0 M U100 M)<|Zs (z:=.agg #[.int .u8 0,.int .i64 0,.string ⟨#[]⟩,.int .u32 0,.int .i64 0,.int .i64 0]) M U88 fun b87=>wN (z:=.agg #[.int .u8 0,.int .i64 0,.string ⟨#[]⟩,.int .u32 0,.int .i64 0,.int .i64 0]) (bytes:=56) 0 0 .none M M M M M U88 (by kernel_rfl) M M M M M (by omega) (by omega) fun a88 c88 h88=>ZF M (Y91x3 M) ?_;refine ZS 2 M<|ZX<|Z8r 1 6 7 8 9 10 11 80 M<|ZF M (Y91x2 M) ?_;refine Zl 2 M U9 M<|ZF M (zY (off:=0) (sz:=0) M U100 (by kernel_rfl) M) ?_;refine Zl 1 M U5 M<|Zs (z:=.int .u8 0) M U53 (fun b94=>?_)
   refine ZF M (oF [byL t6.kind] M (fun w hw=>HpG.blk hw (k:=0) M) Tryz.underlying53 Tryz.underlying5 Tryz.underlying9 M (fun j hj=>by
    have:j=0:=by simp at hj;omega
    subst this;show some (Value.int .u8 (t6.kind:Int))=some (.int .u8 (((byL t6.kind).toNat:Nat):Int))
    rw[byL_k hkk])) ?_
   refine ZF M (yB M M (by rw[shpA_len];show acc.length+1≤_;omega)) ?_;refine ZF M (Y91x2 M) ?_;refine ZS 3 M<|ZX<|Z8r 1 6 7 8 9 10 11 80 M<|Zm M M<|ZF M (xO M)<|Zm M M<|zQ 100 M (fun g18=>?_) (fun g18=>?_)
   ·refine Zv M<|ZG M M M (xV M)<|ZG M M M (Y176x1 M) ?_;refine ZG M M M (yU 4 M M M U93 M)<|ZG M M M (yK M U93)<|Zx M<|Zh M<|ZT<|zT M (fun h107=>?_) (fun h107=>?_)
    ·replace h107:=Kq h107;refine yM<|wq_far M<|zP<|zP<|yN ?_;obtain⟨f2,rfl⟩:∃g,f=g+1:=⟨f-1,by omega⟩;rw[hp6.dropN (by omega),opsF_nil] at hr
     refine zU (ι:={p:Nat×Option Addr×List AOp×Option Addr×Nat // (stmF V.kind lb t3.s (decide (l3.length=1∧(l3.headD ⟨0,[],0⟩).kind=48))) p.2.2.1=r∧(∀o∈p.2.2.1,OpR o)∧p.2.2.1.length≤2000000}) ⟨(k6,A6,acc++[t6],some ⟨a88,0,none⟩,c88),hr,hok6,(by show (acc++[t6]).length≤_;rw[Kb];show acc.length+1≤_;omega)⟩ (O5 M) (fun w h=>by
      have h2:Jy w_0 [(b8,svO (svS lb t3.s (acc++[t6]) (some ⟨a88,0,none⟩) c88)),(b15,pO V k6 A6),(b6,svO svZ)] [rwS (acc++[t6]) (some ⟨a88,0,none⟩) c88] (fun u=>TkX V u∧vR lF bF vsF (fun k=>F0 k∧k<w_0.heap.size) u) w:=by
       rw[svS_next,rwS_next];exact Hp.drop h (.cons _ (.cons _ (.cons _ (.refl _)))) (.refl _)
      exact h2)
    replace h107:=yT h107;refine zR<|zH<|zV<|Z9r 1 6 7 8 9 10 11 80 107 M<|Za M M<|zS ?_
    refine yV (ι:={p:Nat×Option Addr×Bool×List AOp×Nat×Option Addr×Nat // OpI V (stmF V.kind lb t3.s (decide (l3.length=1∧(l3.headD ⟨0,[],0⟩).kind=48))) r p.1 p.2.1 p.2.2.1 p.2.2.2.1 p.2.2.2.2.1}) ⟨(k6,A6,false,acc++[t6],f,some ⟨a88,0,none⟩,c88),⟨hp6,hr,(by show V.l.length-k6<f;omega),hok6,(by show (acc++[t6]).length≤k6;rw[Kb];show acc.length+1≤k6;omega)⟩⟩ (by show f<f+1;omega) (O6 M) (fun w h=>by
     have h2:Jy w_0 [(b8,svO (svS lb t3.s (acc++[t6]) (some ⟨a88,0,none⟩) c88)),(b15,pO V k6 A6),(b6,svO svZ)] [rwS (acc++[t6]) (some ⟨a88,0,none⟩) c88] (fun u=>TkX V u∧vR lF bF vsF (fun k=>F0 k∧k<w_0.heap.size) u) w:=by
      rw[svS_next,rwS_next];exact Hp.drop h (.cons _ (.cons _ (.cons _ (.refl _)))) (.refl _)
     exact h2)
   skip;refine ZP M<|ZP M<|ZP M<|ZP M<|ZP M<|ZP M<|Zf M<|ZT<|zD M<|zR<|zH<|zV<|Z9r 1 6 7 8 9 10 11 80 107 M<|Za M M<|zS ?_
   refine yV (ι:={p:Nat×Option Addr×Bool×List AOp×Nat×Option Addr×Nat // OpI V (stmF V.kind lb t3.s (decide (l3.length=1∧(l3.headD ⟨0,[],0⟩).kind=48))) r p.1 p.2.1 p.2.2.1 p.2.2.2.1 p.2.2.2.2.1}) ⟨(k6,A6,false,acc++[t6],f,some ⟨a88,0,none⟩,c88),⟨hp6,hr,(by show V.l.length-k6<f;omega),hok6,(by show (acc++[t6]).length≤k6;rw[Kb];show acc.length+1≤k6;omega)⟩⟩ (by show f<f+1;omega) (O6 M) (fun w h=>by
    have h2:Jy w_0 [(b8,svO (svS lb t3.s (acc++[t6]) (some ⟨a88,0,none⟩) c88)),(b15,pO V k6 A6),(b6,svO svZ)] [rwS (acc++[t6]) (some ⟨a88,0,none⟩) c88] (fun u=>TkX V u∧vR lF bF vsF (fun k=>F0 k∧k<w_0.heap.size) u) w:=by
     rw[svS_next,rwS_next];exact Hp.drop h (.cons _ (.cons _ (.cons _ (.refl _)))) (.refl _)
    exact h2)
  replace h73:=Kj h73;obtain⟨f,rfl⟩:∃g,f=g+1:=⟨f-1,by omega⟩;rw[hp.dropN (by omega),opsF_nil] at hr;refine yM<|zP<|zP<|yN<|zU (ι:={p:Nat×Option Addr×List AOp×Option Addr×Nat // (stmF V.kind lb t3.s (decide (l3.length=1∧(l3.headD ⟨0,[],0⟩).kind=48))) p.2.2.1=r∧(∀o∈p.2.2.1,OpR o)∧p.2.2.1.length≤2000000}) ⟨(k,A,acc,A7,cap7),hr,hok,by show acc.length≤_;omega⟩ (O5 M) Jz
 obtain⟨⟨k,A,acc,A7,cap7⟩,hr,hok,hn⟩:=p;dsimp only at hr hok hn ⊢;have ht3:=hL t3 (List.mem_of_mem_drop (vY h3).1);have hshl:(xR acc).length≤2000000:=by rw[shpA_len];exact hn
 unfold stmF at hr;refine zX<|zZ<|Zm M M<|ZF M (Zo 0 M U91 M) ?_
 refine wl_callO (ι:=Option (Nat×(Value×Value))) (val:=fun o=>.pointer (fpA o)) (TT:=fun o=>FpQ (wI V.kind t3.s (xR acc) acc.length) o) (fun k=>F0 k∧k<w_0.heap.size) (fun k hk=>hk.2) .none M  (by kernel_rfl) M (fun _=>FpQ.lies) (fun w hw=>(find_form (svS lb t3.s acc A7 cap7) V.kind lF bF vsF (fun k=>F0 k∧k<w_0.heap.size) hF ht3 hshl w (HpG.x hw).2).mono fun e w' ⟨h1,h2⟩=>by
  have h2:match (wI V.kind t3.s (xR acc) acc.length) with
   | some f=>∃b v,e=.returned (.pointer (some ⟨b,0,none⟩))∧FmP f b v (fun k=>(F0 k∧k<w_0.heap.size)∨w.heap.size≤k) w'
   | none=>e=.returned (.pointer none):=h2
  cases hfa:(wI V.kind t3.s (xR acc) acc.length) with
  | none=>rw[hfa] at h2;exact⟨none,h2,h1,trivial⟩
  | some f=>rw[hfa] at h2;obtain⟨b,v,e1,e2⟩:=h2;exact⟨some (b,v),e1,h1,e2⟩) (fun oo=>?_)
 refine ZF M (Y91x4 M) ?_;refine ZS 0 M<|ZX<|zB (ι:={z:Bool // z=true↔((wI V.kind t3.s (xR acc) acc.length)=none∨(t3.s=xT∧lt=false))}) (fun z=>[(6,Jx b6),(8,Jx b8),(123,.bool z.1)]) (fun _=>Jy w_0 [(b8,svO (⟨lb,t3.s,xR acc,acc,A7,cap7,fpA oo,0,0⟩:SV)),(b15,pO V k A),(b6,svO svZ)] [rwS acc A7 cap7] (fun u=>FpQ (wI V.kind t3.s (xR acc) acc.length) oo (fun k=>(F0 k∧k<w_0.heap.size)∨w_0.heap.size≤k) u∧(TkX V u∧vR lF bF vsF (fun k=>F0 k∧k<w_0.heap.size) u))) ?_ (fun z=>?_)
 ·refine Z5 1 6 7 8 9 M<|tK (fun w hw=>(HpG.x hw).1.some_) (fun hoo=>?_);refine zZ<|ZF M (Y91x4 M) ?_;refine Zl 0 M U89 M<|ZF M (yf_eqNil M M (by kernel_rfl))<|Zm M M<|zQ 115 M (fun g20=>?_) (fun g20=>?_)
  ·refine ZP M<|ZP M<|ZP M<|ZP M<|zE M M M<|zE M M M<|ZP M<|Zh M<|zS<|zU (ι:={z:Bool // z=true↔((wI V.kind t3.s (xR acc) acc.length)=none∨(t3.s=xT∧lt=false))}) ⟨true,⟨fun _=>.inl (hoo.1 (by simpa using g20)),fun _=>rfl⟩⟩ (O3 M) Jz
  skip;refine ZG M M M (Y91x1 M) ?_;refine ZG M M M (yU 0 M M M U9 M)<|ZG M M M (yZ M M U9)<|Zv M<|zQ 119 M (fun g208=>?_) (fun g208=>?_)
  ·refine Zv M<|ZG M M M (xO M)<|ZG M M M (yA M M)<|Zf M<|zS ?_
   have hz9:¬(wI V.kind t3.s (xR acc) acc.length)=none:=fun h=>by
    have:=hoo.2 h;rw[Option.isNone_map,this] at g20;cases g20
   refine zU (ι:={z:Bool // z=true↔((wI V.kind t3.s (xR acc) acc.length)=none∨(t3.s=xT∧lt=false))}) ⟨!lt,⟨fun h=>.inr ⟨by simpa [xT] using g208,by simpa using h⟩,fun h=>by
    rcases h with h|h;exact absurd h hz9
    rw[h.2];rfl⟩⟩ (O3 rfl) Jz
  skip;refine ZP M<|ZP M<|ZG M M M (yD M M)<|Zf M<|zS ?_
  have hz9:¬(wI V.kind t3.s (xR acc) acc.length)=none:=fun h=>by
   have:=hoo.2 h;rw[Option.isNone_map,this] at g20;cases g20
  have hzk:¬t3.s=xT:=by simpa [xT] using g208
  refine zU (ι:={z:Bool // z=true↔((wI V.kind t3.s (xR acc) acc.length)=none∨(t3.s=xT∧lt=false))}) ⟨false,⟨fun h=>(by cases h),fun h=>by
   rcases h with h|h;exact absurd h hz9
   exact absurd h.1 hzk⟩⟩ (O3 M) Jz
 obtain⟨z,hz⟩:=z;dsimp only;refine zT M (fun h123=>?_) (fun h123=>?_)
 ·have hr:r=.error 20:=by
   rcases hz.1 h123 with h|⟨h,h'⟩;rw[h] at hr;exact hr.symm
   ·cases hfa:(wI V.kind t3.s (xR acc) acc.length) with
    | none=>rw[hfa] at hr;exact hr.symm
    | some f =>
     rw[hfa] at hr;dsimp only at hr;rw[Ah ⟨h,hlt▸h'⟩] at hr;exact hr.symm
  refine zZ<|ZF M (xA M U25)<|wL .none M<|zO<|xZ fun w hw=>⟨rZ (Kk hw),by rw[hr];rfl⟩
 skip
 refine tK (φ:=∃f b v,(wI V.kind t3.s (xR acc) acc.length)=some f∧oo=some (b,v)∧IsFn Tryz.prog v.1) (fun w hw=>by
  have h1:=(HpG.x hw).1
  cases hfa:(wI V.kind t3.s (xR acc) acc.length) with
  | none=>exact absurd (hz.2 (.inl hfa)) (by rw[h123];decide)
  | some f =>
   rw[hfa] at h1
   cases oo with
   | none=>exact h1.elim
   | some p=>exact⟨f,p.1,p.2,rfl,rfl,(form_fn h1.2).1⟩) (fun ⟨f,bb,v,hfa,hob,hfn⟩=>?_)
 obtain⟨v1,v2⟩:=v;obtain⟨f1,c1,hv1,g1⟩:=hfn;dsimp only at hv1;subst hv1;subst hob
 have hr:r=.ok ⟨lb,t3.s,xR acc,acc,some f,0,sizeA f acc⟩:=by
  rw[hfa] at hr;dsimp only at hr;rw[Ag (fun hh=>by rw[hz.2 (.inr ⟨hh.1,hlt.trans hh.2⟩)] at h123;cases h123)] at hr;exact hr.symm
 refine zG (H':=Jy w_0 [(b8,svO (⟨lb,t3.s,xR acc,acc,A7,cap7,some ⟨bb,0,none⟩,0,0⟩:SV)),(b15,pO V k A),(b6,svO svZ)] [rwS acc A7 cap7] (fun u=>FmP f bb (fcV f1 c1,v2) (fun k=>(F0 k∧k<w_0.heap.size)∨w_0.heap.size≤k) u∧(TkX V u∧vR lF bF vsF (fun k=>F0 k∧k<w_0.heap.size) u))) (fun w h=>Hp.weakX h (fun u hu=>by rw[hfa] at hu;exact hu)) ?_;refine zR<|zV<|zX<|uY 7 [0,1,2,3,4,5,6] (J2 b8 bb (svO (⟨lb,t3.s,xR acc,acc,A7,cap7,some ⟨bb,0,none⟩,0,0⟩:SV)) (bk 108 [fcV f1 c1,v2])) (by kernel_rfl) (by kernel_rfl) J2.stab (fun w h=>⟨HpG.blk h (k:=0) rfl,(HpG.x h).1.1.2⟩) (fun n0 hn0=>?_);refine Zd M M M (Y91x4 M) ?_;refine Zd M M M (zL M U89 M (fun w hw=>Blk.cell hw.1 M))<|Zd M M M (xV M)<|Zd M M M (zY (off:=0) (sz:=0) M U108 (by kernel_rfl) M) ?_;refine Zd M M M (zL M U105 M (fun w hw=>Blk.cell hw.2 M))<|Zd M M M (xL (cs:=svC (⟨lb,t3.s,xR acc,acc,A7,cap7,some ⟨bb,0,none⟩,0,0⟩:SV)) M U91 M (by kernel_rfl) (fun w hw j v hj=>Blk.cell hw.1 (by rw[Ac];exact hj))) ?_;refine vP M<|wd_callV0 (us:=[]) (vs:=[.agg (svC (⟨lb,t3.s,xR acc,acc,A7,cap7,some ⟨bb,0,none⟩,0,0⟩:SV)).toArray]) (cs:=c1) .none M  g1 M M (J2.ext) (fun w hw=>form_size (HpG.x hw).1.2 (HpG.rowF (j:=0) hw M) (findA_fit hok hfa) hok (by show acc.length≤_;omega)) ?_;refine uE ?_;simp only[Kt,Kx];refine ZF M (zY (off:=6) (sz:=0) M U91 (by kernel_rfl) M) ?_;refine ZS 0 M<|ZX<|Z3r 6 8 123 M<|ZF M (Zo 0 M U91 M)<|ZR 2 M<|ZT<|zK<|yS M M 2 M U91 M (by kernel_rfl) (fun w hw=>?_)
 exact⟨rZ (Kk hw),by
  subst hr
  exact⟨⟨lb,t3.s,xR acc,acc,A7,cap7,some ⟨bb,0,none⟩,0,(sizeA f acc:Nat)⟩,rfl,⟨rfl,rfl,rfl,rfl,rfl,RdF.lies.mono (fun _ h=>.inr h) (HpG.rowF (j:=0) hw M),⟨bb,_,rfl,FmP.lies.mono (fun k h=>h.imp (·.1) id) (HpG.x hw).1⟩⟩⟩⟩
end Go.Proofs.YtkaepknpplhgkaaGreatDoor
