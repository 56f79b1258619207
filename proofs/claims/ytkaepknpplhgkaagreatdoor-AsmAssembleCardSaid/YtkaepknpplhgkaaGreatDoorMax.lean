import Derived.Test.YtkaepknpplhgkaaGreatDoorMaa
import Derived.Test.YtkaepknpplhgkaaGreatDoorMaw
import Derived.Test.YtkaepknpplhgkaaGreatDoorMaZ
import Derived.Test.YtkaepknpplhgkaaGreatDoorMaX
import Derived.Test.YtkaepknpplhgkaaGreatDoorMav
import Derived.Test.YtkaepknpplhgkaaGreatDoorMaV
set_option maxRecDepth 100000
set_option maxHeartbeats 2000000
namespace Go.Proofs.YtkaepknpplhgkaaGreatDoor
open Go.RowKit
section
variable {P:Program}{Q:Exit→Act→World→Prop}{n:Fr}{γ:Type}
def OG (P:Program) (n:Fr) (ops:Array Oper) (base:List (Nat×Value)) (es:List (Nat×Nat×(γ→Value))) (HI:(Nat→Bool)→γ→World→Prop) (D:Nat→Bool) (g:γ) (i:Nat) (js:List Nat) (o:Oper):Prop :=
 (Gd ops (selI es g js++base) o.guard∧OI P n base es HI D g i js o)∨(Gn ops (selI es g js++base) o.guard∧∀w,HI D g w→∃g',AtI es i g' undef∧wU D g g' es∧HI (updI D i) g' w)
def OGs (P:Program) (n:Fr) (ops:Array Oper) (base:List (Nat×Value)) (es:List (Nat×Nat×(γ→Value))) (HI:(Nat→Bool)→γ→World→Prop):List (List Nat)→Nat→List Oper→Prop
 | _,_,[]=>True
 | ds,i,o::r=>(∀D g,D i=false→(∀j∈ds.headD [],D j=true)→OG P n ops base es HI D g i (ds.headD []) o)∧OGs P n ops base es HI ds.tail (i+1) r
theorem OGs.at {ops:Array Oper}{base:List (Nat×Value)}{es:List (Nat×Nat×(γ→Value))}{HI:(Nat→Bool)→γ→World→Prop}:∀{r:List Oper}{ds:List (List Nat)}{i k:Nat}{o:Oper},OGs P n ops base es HI ds i r→r[k]? = some o→∀D g,D (i+k)=false→(∀j∈ds.getD k [],D j=true)→OG P n ops base es HI D g (i+k) (ds.getD k []) o
 | [],_,_,_,_,_,h=>by cases h
 | x::r,ds,i,0,o,h,ho=>by
  cases ho;have:ds.headD []=ds.getD 0 []:=by cases ds<;>rfl
  rw[← this];exact h.1
 | x::r,ds,i,k+1,o,h,ho=>by
  have:=OGs.at h.2 (k:=k) (by simpa using ho);have e:ds.tail.getD k []=ds.getD (k+1) []:=by cases ds<;>simp
  rw[e,show i+1+k=i+(k+1) by omega] at this;exact this
def drawGB (l:Array Oper) (es:List (Nat×Nat)) (base:List Nat) (n:Nat) (ds:List (List Nat)):Bool :=
 lowerB l&&nodB (es.map (·.1))&&(List.range l.size).all fun i=>match l[i]? with
 | some o=>(match o.dst with
   | some d=>Nat.blt d n&&!base.contains d&&es.all (fun e=>Nat.beq e.1 i==Nat.beq e.2 d)
   | none=>es.all fun e=>!Nat.beq e.1 i)&&(ds.getD i []).all fun j=>o.after.any fun e=>Region.binds .any e&&Nat.beq e.on j
 | none=>true
theorem wa_invG {l:List Oper}{base:List (Nat×Value)}{es:List (Nat×Nat×(γ→Value))}{HI:(Nat→Bool)→γ→World→Prop}{ds:List (List Nat)}(hB:drawGB l.toArray (es.map fun e=>(e.1,e.2.1)) (base.map (·.1)) n.s ds=true) (hO:OGs P n l.toArray base es HI ds 0 l)
  (hend:∀g a w,SatI n base es (fun _=>true) g a→HI (fun _=>true) g w→Q .normal a w):∀(k:Nat) (listed:Array Bool) (g:γ) (a:Act) (w:World),listed.size=l.length→listed.toList.count false=k→SatI n base es (fun i=>listed.getD i true) g a→HI (fun i=>listed.getD i true) g w→wpAny P .any l.toArray Q k listed a w:=by
 unfold drawGB at hB;simp only[Ab,List.all_eq_true,List.mem_range] at hB;obtain⟨⟨hlow,hnod⟩,hB⟩:=hB;rw[List.map_map] at hnod
 have done:∀(listed:Array Bool),listed.size=l.length→listed.toList.count false=0→(fun i=>listed.getD i true)=fun _=>true:=fun listed hs hc=>by
  funext i
  by_cases hi:i<listed.size
  rw[Array.getD_eq_getD_getElem?,count_all hc i hi];rfl;rw[Array.getD_eq_getD_getElem?,Array.getElem?_eq_none (by omega)];rfl
 have rdy:∀(listed:Array Bool),listed.size=l.length→Region.ready .any l.toArray listed=[]→listed.toList.count false=0:=fun listed hs hr=>by
  refine Classical.byContradiction fun hc=>?_
  -- the first that is not listed is ready
  have hm:false∈listed.toList:=by
   refine Classical.byContradiction fun h=>hc (List.count_eq_zero.2 h)
  obtain⟨i,hi⟩:=List.mem_iff_getElem?.1 hm;rw[Array.getElem?_toList] at hi
  have key:∀i:Nat,listed[i]? = some false→False:=by
   intro i
   induction i using Nat.strongRecOn with
   | _ i ih =>
    intro hi;obtain⟨hlt,he⟩:=Kp.1 hi;have hlt':i<l.toArray.size:=by simpa [← hs] using hlt
    have:i∈Region.ready .any l.toArray listed:=mem_ready.2 ⟨by rw[Array.getD_eq_getD_getElem?,hi];rfl,l.toArray[i],Array.getElem?_eq_getElem hlt',fun e hm hb=>by
     unfold lowerB at hlow;simp only[List.all_eq_true,List.mem_range] at hlow;have h1:=hlow i hlt';rw[Array.getElem?_eq_getElem hlt'] at h1;have h2:=Array.all_eq_true_iff_forall_mem.1 h1 e hm;rw[hb] at h2;have hlt2:e.on<i:=by simpa using h2
     have hlt3:e.on<listed.size:=by omega
     rw[Array.getD_eq_getD_getElem?]
     cases hx:listed[e.on]? with
     | none=>rw[Array.getElem?_eq_none_iff] at hx;omega
     | some b =>
      cases b with
      | true=>rfl
      | false=>exact (ih e.on hlt2 hx).elim⟩
    rw[hr] at this;cases this
  exact key i hi
 intro k
 induction k with
 | zero =>
  intro listed g a w hs hc hS hH;refine⟨?_,?_⟩
  ·rcases hq:Region.ready .any l.toArray listed with _|⟨i,r⟩;rfl
   exfalso
   have hi:i∈Region.ready .any l.toArray listed:=by rw[hq];exact Ks ..
   obtain⟨hun,o,ho,_⟩:=mem_ready.1 hi;have hlt:=(Kp.1 ho).1;have:=count_all hc i (by rw[hs];simpa using hlt);rw[Array.getD_eq_getD_getElem?,this] at hun;cases hun
  have e:=done listed hs hc;rw[e] at hS hH;exact hend g a w hS hH
 | succ k ih =>
  intro listed g a w hs hc hS hH;refine⟨fun hr=>absurd (rdy listed hs hr) (by omega),fun i hi=>?_⟩;obtain⟨hun,o,ho,hall⟩:=mem_ready.1 hi;have hlt:=(Kp.1 ho).1;have hlt':i<listed.size:=by rw[hs];simpa using hlt
  have hlf:listed[i]? = some false:=by
   rw[Array.getD_eq_getD_getElem?,Array.getElem?_eq_getElem hlt'] at hun;rw[Array.getElem?_eq_getElem hlt'];exact congrArg some hun
  have hb:=hB i hlt;rw[ho] at hb;simp only[Ab,List.all_eq_true] at hb;obtain⟨hd,hds⟩:=hb
  have hdeps:∀j∈ds.getD i [],listed.getD j true=true:=fun j hj=>by
   obtain⟨e,he,hc⟩:=Array.any_eq_true'.1 (hds j hj);simp only[Ab] at hc;have h1:=hall e he hc.1;have h2:e.on=j:=Nat.eq_of_beq_eq_true hc.2;rw[h2] at h1;rw[Array.getD_eq_getD_getElem?] at h1 ⊢
   cases hx:listed[j]? with
   | none=>rfl
   | some b=>rw[hx] at h1;exact h1
  have hop:=(OGs.at hO (k:=i) (o:=o) (by rw[List.getElem?_toArray] at ho;exact ho)) (fun i=>listed.getD i true) g (by rw[Ac];show listed.getD i true=false;rw[Array.getD_eq_getD_getElem?,hlf];rfl) hdeps;rw[Ac] at hop;have hsel:=hS.sel _ hdeps
  have fin:∀v w',(∃g',AtI es i g' v∧wU (fun i=>listed.getD i true) g g' es∧HI (updI (fun i=>listed.getD i true) i) g' w')→wpAny P .any l.toArray Q k (listed.setIfInBounds i true) (a.put o.dst v) w':=by
   rintro v w' ⟨g',h1',h2',h3⟩
   have h2:=h2'.get
   have h1:∀e∈es,e.1=i→v=e.2.2 g':=fun e he hi=>by
    have:=nod_find hnod e he;unfold AtI at h1';rw[← hi,this] at h1';exact h1'
   have eD:(fun j=>(listed.setIfInBounds i true).getD j true)=updI (fun i=>listed.getD i true) i:=by
    funext j
    unfold updI;rw[Array.getD_eq_getD_getElem?]
    by_cases hj:j=i
    ·subst hj;rw[Array.getElem?_setIfInBounds_self_of_lt hlt'];simp
    rw[Array.getElem?_setIfInBounds_ne (fun e=>hj e.symm)]
    have:Nat.beq j i=false:=by
     cases hx:Nat.beq j i;rfl;exact absurd (Nat.eq_of_beq_eq_true hx) hj
    rw[this,cond_false];show _=listed.getD j true;rw[Array.getD_eq_getD_getElem?]
   have hc2:=count_set hlf;refine ih (listed.setIfInBounds i true) g' _ w' (by rw[Array.size_setIfInBounds];exact hs) (by omega) ?_ (by rw[eD];exact h3);rw[eD]
   have old:∀e∈es,e.1≠i→updI (fun i=>listed.getD i true) i e.1=true→a.tmps[e.2.1]? = some (e.2.2 g'):=fun e he hne hx=>by
    have hD:listed.getD e.1 true=true:=by
     unfold updI at hx
     have:Nat.beq e.1 i=false:=by
      cases hy:Nat.beq e.1 i;rfl;exact absurd (Nat.eq_of_beq_eq_true hy) hne
     rw[this,cond_false] at hx;exact hx
    rw[h2 e he hD];exact hS.get e he hD
   cases hdst:o.dst with
   | none =>
    rw[hdst] at hd;simp only[List.all_eq_true] at hd;refine⟨hS.base.put0,fun e he hx=>?_⟩;refine old e he (fun hh=>?_) hx;have:=hd (e.1,e.2.1) (List.mem_map.2 ⟨e,he,rfl⟩);dsimp only at this;rw[hh] at this;simp at this
   | some d =>
    rw[hdst] at hd;simp only[Ab,List.all_eq_true] at hd;obtain⟨⟨hdn,hdb⟩,hde⟩:=hd;have hdn':d<n.s:=by simpa [Nat.blt_eq] using hdn
    have hput:(a.put (some d) v).tmps[d]? = some v:=by
     rw[put_tmps_eq,Array.getElem?_eq_getElem (by rw[hS.base.size];exact hdn')];rfl
    refine⟨⟨by rw[put_size];exact hS.base.size,by rw[put_defers];exact hS.base.dfr,fun j u hu=>?_⟩,fun e he hx=>?_⟩
    ·have hjd:j≠d:=fun e=>by
      subst e
      have hm:j∈base.map (·.1):=by
       have:∀(b:List (Nat×Value)),look b j=some u→j∈b.map (·.1):=by
        intro b
        induction b with
        | nil=>intro h;cases h
        | cons x b ih =>
         intro h
         by_cases hxj:x.1=j
         rw[Ai,hxj];exact Ks ..;rw[show x=(x.1,x.2) from rfl,vB hxj] at h;exact Ky _ (ih h)
       exact this base hu
      simp only[Bool.not_eq_true'] at hdb;rw[List.contains_iff_mem.2 hm] at hdb;cases hdb
     rw[qY (by simpa using hjd.symm)];exact hS.base.get j u hu
    have hed:=hde (e.1,e.2.1) (List.mem_map.2 ⟨e,he,rfl⟩);dsimp only at hed
    by_cases hei:e.1=i
    ·have:e.2.1=d:=by
      rw[hei] at hed;simp only[Am] at hed;have h3:Nat.beq e.2.1 d=true:=by rw[← hed];simp
      exact Nat.eq_of_beq_eq_true h3
     rw[this,hput,h1 e he hei]
    have:e.2.1≠d:=fun hh=>by
     rw[hh] at hed;simp only[Am] at hed;have h3:Nat.beq e.1 i=true:=by rw[hed];simp
     exact hei (Nat.eq_of_beq_eq_true h3)
    rw[qY (by simpa using this.symm)];exact old e he hei hx
  unfold wpOp;rw[ho];show if Region.wanted o (yielded l.toArray a.tmps)=true then _ else _;rcases hop with ⟨hg,hop⟩|⟨hg,hp⟩
  ·rw[Ah (hg.wanted hsel)];exact .inl ((hop a w hsel hH).wp fun v w' h=>fin v w' h)
  rw[Ag (by rw[hg.wanted hsel];exact Bool.false_ne_true)];exact fin undef w (hp w hH)
theorem oC {id:Nat}{l:List Oper}{m:List (Nat×Value)}{H:World→Prop}(base:List (Nat×Value)) (es:List (Nat×Nat×(γ→Value))) (HI:(Nat→Bool)→γ→World→Prop) (ds:List (List Nat)) (g0:γ) (hm:P.follows .mixedOrders=true)
  (hB:drawGB l.toArray (es.map fun e=>(e.1,e.2.1)) (base.map (·.1)) n.s ds=true) (hE:es.all (fun e=>decide (e.1<l.length))=true) (hp:Pr m base) (h0:∀D w,(∀i,i<l.length→D i=false)→H w→HI D g0 w.drew) (hO:OGs P n l.toArray base es HI ds 0 l)
  (hend:∀g,WQ Q .normal n (es.map (fun e=>(e.2.1,e.2.2 g))++base) (HI (fun _=>true) g)):WC P (.region id l.toArray true) Q n m H:=fun a w hs hw=>by
 have hD0:∀i,i<l.length→(Array.replicate l.toArray.size false).getD i true=false:=fun i hi=>by
  rw[Array.getD_eq_getD_getElem?,Array.getElem?_replicate,Ah (by simpa using hi)];rfl
 refine wp_region_any hm (wa_invG hB hO (fun g a' w' hS hH=>?_) _ _ g0 a w.drew (by simp) (by simp) ⟨hs.weak hp,fun e he hx=>?_⟩ (h0 _ w hD0 hw))
 ·refine hend g a' w' ⟨hS.base.size,hS.base.dfr,fun j u hu=>?_⟩ hH
  have key:∀(l:List (Nat×Nat×(γ→Value))),(∀e∈l,a'.tmps[e.2.1]? = some (e.2.2 g))→∀j u,look (l.map (fun e=>(e.2.1,e.2.2 g))++base) j=some u→a'.tmps[j]? = some u:=by
   intro l
   induction l with
   | nil=>intro _ j u h;exact hS.base.get j u h
   | cons x l ih =>
    intro hl j u h
    by_cases hj:x.2.1=j
    ·subst hj;have:look ((x.2.1,x.2.2 g)::(l.map (fun e=>(e.2.1,e.2.2 g))++base)) x.2.1=some u:=h;rw[qM] at this;cases this;exact hl x (Ks ..)
    have:look ((x.2.1,x.2.2 g)::(l.map (fun e=>(e.2.1,e.2.2 g))++base)) j=some u:=h;rw[vB hj] at this;exact ih (fun e he=>hl e (Ky _ he)) j u this
  exact key es (fun e he=>hS.get e he M) j u hu
 have:=Ki (List.all_eq_true.1 hE e he);have hx:(Array.replicate l.toArray.size false).getD e.1 true=true:=hx;rw[hD0 _ this] at hx;cases hx
end
end Go.Proofs.YtkaepknpplhgkaaGreatDoor
namespace Go.Proofs.YtkaepknpplhgkaaGreatDoor
open Go.RowKit
abbrev obO (o:AOp):Obj:=bk 125 (aoC o)
def tL (r:Option AOp) (w_0:World) (e:Ending) (w':World):Prop:=Ext w_0 w'∧∃o b,e=.returned (.tuple #[.agg (aoC o).toArray,.bool b])∧match r with
 | some x=>b=true∧o=x
 | none=>b=false
theorem tL.no {r:Option AOp}{w_0 w':World}{e:Ending}{o:AOp}(h:Ext w_0 w') (hr:r=none) (he:e=.returned (.tuple #[.agg (aoC o).toArray,.bool false])):tL r w_0 e w':=⟨h,o,false,he,by rw[hr]⟩
theorem tL.yes {r:Option AOp}{w_0 w':World}{e:Ending}{o:AOp}(h:Ext w_0 w') (hr:r=some o) (he:e=.returned (.tuple #[.agg (aoC o).toArray,.bool true])):tL r w_0 e w':=⟨h,o,true,he,by rw[hr];exact⟨rfl,rfl⟩⟩
theorem sca_cases {n:Nat}:(n=1∨n=2∨n=4∨n=8)∨pM n=none:=by
 by_cases h:n=1∨n=2∨n=4∨n=8
 exact .inl h;refine .inr ?_;unfold pM;rw[Ag (by omega),Ag (by omega),Ag (by omega),Ag (by omega)]
theorem quo2 (n:Nat) (h:n<256):IntKind.u32.wrap (((2*n:Nat):Int).tdiv 2)=((n:Nat):Int):=by
 rw[Int.tdiv_eq_ediv_of_nonneg (Int.natCast_nonneg _)];rw[show ((2*n:Nat):Int)/2=(n:Nat) by omega];simp only[IntKind.wrap,IntKind.bits,IntKind.signed];simp;omega
theorem wmemory_any (kind:Int) (V:TV) (A:Option Addr) (hA:TvA V A) (hb:isA [91] (V.l.drop 0)=true) (w_0:World) (hX:TvX V w_0):Calls Tryz.prog 184 #[.int .i64 kind,.slice A V.l.length V.cap] w_0 (tL (memQ kind V.l) w_0):=by
 have hcp:=hA.cap;have hbg:=hA.big;unfold maxLen at hbg;generalize hq:memQ kind V.l=q;unfold memQ at hq;refine zN (args:=[.int .i64 kind,.slice A V.l.length V.cap]) Tryz.func184 M 125 M (Kh M)<|Z2 0 1 M<|zG (H':=Jy w_0 [] [] (TvX V)) (fun u hu=>?_) ?_;subst hu;exact Hp.startTv hX;refine zX<|zZ<|Zt (z:=.agg #[.int .u8 0,.int .i64 0,.string ⟨#[]⟩,.int .u32 0,.int .i64 0,.int .i64 0]) (cs:=Jk) M fun b4=>Za M M<|ZX<|zZ<|Zm M M<|Zm M M<|Zu (v:=.int .i64 (xI kind V.l 1)) M (fun w hw=>wreg_any kind V A hA 1 w (HpG.x hw))<|ZF M (Zb [.int .u8 0,.int .i64 0,.string ⟨#[]⟩,.int .u32 0,.int .i64 0,.int .i64 0] [(0,1),(1,1),(2,1),(3,1),(4,1),(5,1)] M)<|Zt (z:=.agg #[.int .u8 0,.int .i64 0,.string ⟨#[]⟩,.int .u32 0,.int .i64 0,.int .i64 0]) (cs:=Jk) M fun b6=>ZR 0 M<|ZX<|zB (ι:={z:Bool // z=true↔¬0≤xI kind V.l 1}) (fun z=>[(0,.int .i64 kind),(1,.slice A V.l.length V.cap),(4,Jx b4),(6,Jx b6),(22,.bool z.1)]) (fun z=>Jy w_0 [(b6,obO ⟨109,(xI kind V.l 1),[],0,-1,0⟩),(b4,obO ⟨0,0,[],0,0,0⟩)] [] (TvX V)) ?_ (fun z=>?_)
 ·refine Z5 0 1 4 5 6 M<|zG (H':=Jy w_0 [(b6,obO ⟨109,(xI kind V.l 1),[],0,-1,0⟩),(b4,obO ⟨0,0,[],0,0,0⟩)] [] (TvX V)) Jz<|zZ<|Zm M M<|Zu (v:=.bool (isA [91] (V.l.drop 0))) M (fun w hw=>uQ V A hA 0 [91] w (HpG.x hw)) ?_;rw[hb];refine ZF M (xO M)<|Zm M M<|zQ 18 M (fun hb=>?_) (fun hb=>?_)
  ·exact absurd hb (by simp)
  skip;refine ZG M M M (Y125x1 M) ?_;refine ZG M M M (yU 0 M M M U3 M)<|ZG M M M (yR M M)<|Zf M<|zS ?_;exact zU ⟨_,⟨fun h=>by have:xI kind V.l 1<0:=Ki h;omega,fun h=>An (show xI kind V.l 1<0 by omega)⟩⟩ (O5 M) Jz
 obtain⟨z,hz⟩:=z;dsimp only;refine zT M (fun h22=>?_) (fun h22=>?_)
 ·rw[Ag (hz.1 h22)] at hq;refine zX<|zZ<|ZF M (Zo 0 M U125 M)<|ZR 1 M<|Za M M<|ZT<|zK<|zW<|xG M M M 1 M Tryz.underlying125 M (by kernel_rfl) fun w hw=>tL.no (Kk hw).ext hq.symm rfl
 skip;have hr1:0≤xI kind V.l 1:=Classical.byContradiction fun h=>by rw[hz.2 h] at h22;cases h22
 rw[Ah hr1] at hq;refine zR<|zV<|zX<|zZ<|Za M M<|ZX<|zZ<|Zm M M<|Zm M M<|Zm M M<|ZF M (zF M M (i64_in _ (by omega) (by omega)))<|Zu (v:=.int .i64 (xI kind V.l 3)) M (fun w hw=>wreg_any kind V A hA 3 w (HpG.x hw))<|Za M M<|ZT<|zB (ι:={p:Nat×Int×Int // tailQ ⟨109,xI kind V.l 1,[],0,p.2.1,p.2.2⟩ V.l p.1=q∧p.1≤6}) (fun z=>[(1,.slice A V.l.length V.cap),(4,Jx b4),(6,Jx b6),(7,.int .i64 ((z.1.1:Nat):Int))]) (fun z=>Jy w_0 [(b6,obO ⟨109,(xI kind V.l 1),[],0,z.1.2.1,z.1.2.2⟩),(b4,obO ⟨0,0,[],0,0,0⟩)] [] (TvX V)) ?_ (fun z=>?_)
 ·refine zB (ι:={z:Bool // z=true↔(kind=1∧isA [43] (V.l.drop 2)=true∧0≤xI kind V.l 3)}) (fun z=>[(1,.slice A V.l.length V.cap),(4,Jx b4),(6,Jx b6),(7,.int .i64 2),(8,.int .i64 (xI kind V.l 3)),(39,.bool z.1)]) (fun z=>Jy w_0 [(b6,obO ⟨109,(xI kind V.l 1),[],0,-1,0⟩),(b4,obO ⟨0,0,[],0,0,0⟩)] [] (TvX V)) ?_ (fun z=>?_)
  ·refine Z7r 0 1 4 6 7 8 22 M<|Zm M M<|Ze M<|Zm M M<|zQ 31 M (fun g3=>?_) (fun g3=>?_)
   ·replace g3:=Kq g3;refine Zv M<|Zv M<|xW (.some M M) M  (v:=.bool (isA [43] (V.l.drop 2))) (by kernel_rfl) M (fun w hw=>uQ V A hA 2 [43] w (HpG.x hw))<|Zh M<|Zm M M<|zQ 36 M (fun g8=>?_) (fun g8=>?_)
    ·refine Zv M<|ZG M M M (yC M M)<|Zh M<|zS ?_;exact zU ⟨_,⟨fun h=>⟨g3,g8,Ki h⟩,fun h=>An h.2.2⟩⟩ (O6 M) Jz
    skip;refine ZP M<|ZP M<|Zf M<|zS ?_;exact zU ⟨false,⟨fun h=>(by cases h),fun h=>by rw[h.2.1] at g8;cases g8⟩⟩ (O6 M) Jz
   replace g3:=yT g3;refine ZP M<|ZP M<|ZP M<|Zf M<|Zm M M<|ZP M<|ZP M<|Zf M<|zS ?_;exact zU ⟨false,⟨fun h=>(by cases h),fun h=>absurd h.1 g3⟩⟩ (O6 M) Jz
  obtain⟨z,hz6⟩:=z;dsimp only;refine zT M (fun h39=>?_) (fun h39=>?_)
  ·have h39':=hz6.1 h39;rw[Ah h39'] at hq;refine zX<|zZ<|Zm M M<|ZF M (zY (off:=4) (sz:=0) M U125 (by kernel_rfl) M) ?_;refine ZS 0 M<|ZX<|Z6 1 4 6 7 8 39 M<|zG (H':=Jy w_0 [(b6,obO ⟨109,(xI kind V.l 1),[],0,(xI kind V.l 3),0⟩),(b4,obO ⟨0,0,[],0,0,0⟩)] [] (TvX V)) Jz<|zZ<|Zm M M<|ZF M (zF M M (i64_in _ (by omega) (by omega)))<|Za M M<|ZX<|Z6r 1 4 6 7 8 39 M<|Zm M M<|Zm M M<|Zu (v:=.bool (isA [42] (V.l.drop 4))) M (fun w hw=>uQ V A hA 4 [42] w (HpG.x hw))<|ZT<|zT M (fun h46=>?_) (fun h46=>?_)
   ·rw[Ah h46] at hq;refine zX<|zX<|Z7r 1 4 6 7 8 39 46 M<|Zm M M<|Zm M M<|ZF M (zF M M (i64_in _ (by omega) (by omega)))<|Zu (v:=.bool (rP V.l 5)) M (fun w hw=>wnumber_any V A hA 5 w (HpG.x hw))<|ZF M (xO M)<|ZT<|zT M (fun h51=>?_) (fun h51=>?_)
    ·have h51':rP V.l 5=false:=by simpa using h51
     rw[Ag (by rw[h51'];simp)] at hq;refine zX<|Z8r 1 4 6 7 8 39 46 51 M<|ZF M (Zo 0 M U125 M)<|ZR 1 M<|Za M M<|ZT<|zK<|zW<|zW<|xG M M M 1 M Tryz.underlying125 M (by kernel_rfl) fun w hw=>tL.no (Kk hw).ext hq.symm rfl
    skip;have h51':rP V.l 5=true:=by simpa using h51
    rw[Ah h51'] at hq;have hl5:=num_lt h51';obtain⟨t5,ht5⟩:∃t,V.l[5]? = some t:=⟨V.l[5]'hl5,Kn _⟩;have hA2:=hA.at_ (fun e=>by rw[e] at ht5;cases ht5);rw[valP_some ht5] at hq;obtain⟨N,hN⟩:∃N,N=t5.n:=⟨_,rfl⟩;have hsc:=@sca_cases N;rw[← hN] at hq;refine zR<|zV<|zX<|Z8r 1 4 6 7 8 39 46 51 M<|Zm M M<|Zm M M<|ZF M (zF M M (i64_in _ (by omega) (by omega)))<|ZF M (Zi (j:=5) (es:=3) (g:=V.g) (o:=V.off) (len:=V.l.length) (cap:=V.cap) (congrArg (fun z=>some (Value.slice z V.l.length V.cap)) hA2) M Tryz.underlying113 M (by omega) M) ?_;refine ZF M (Y190x2 M) ?_;refine ZF M (zL (v:=.int .u32 N) M U22 M (fun w hw=>by rw[hN];exact (HpG.x hw) 5 t5 ht5 2 _ M)) ?_;refine Za M M<|ZX<|zB (ι:={z:Bool // z=true↔¬(N=1∨N=2∨N=4∨N=8)}) (fun z=>[(1,.slice A V.l.length V.cap),(4,Jx b4),(6,Jx b6),(7,.int .i64 4),(9,.int .u32 ((N:Nat):Int)),(72,.bool z.1)]) (fun z=>Jy w_0 [(b6,obO ⟨109,(xI kind V.l 1),[],0,(xI kind V.l 3),0⟩),(b4,obO ⟨0,0,[],0,0,0⟩)] [] (TvX V)) ?_ (fun z=>?_)
    ·refine Z9r 1 4 6 7 8 9 39 46 51 M<|Zm M M<|ZF M (xF M M)<|Zm M M<|zQ 61 M (fun hb=>?_) (fun hb=>?_)
     ·replace hb:=xD hb;refine Zv M<|ZG M M M (xF M M)<|Zh M<|Zm M M<|zQ 65 M (fun hb=>?_) (fun hb=>?_)
      ·replace hb:=xD hb;refine Zv M<|ZG M M M (xF M M)<|Zh M<|Zm M M<|zQ 69 M (fun hb=>?_) (fun hb=>?_)
       ·replace hb:=xD hb;refine Zv M<|ZG M M M (xF M M)<|Zh M<|zS ?_;exact zU ⟨_,⟨fun h=>by have:=xD h;omega,fun h=>bne_iff_ne.2 (by omega)⟩⟩ (O6 M) Jz
       replace hb:=wJ hb;refine ZP M<|ZP M<|Zf M<|zS ?_;exact zU ⟨false,⟨fun h=>(by cases h),fun h=>by omega⟩⟩ (O6 M) Jz
      replace hb:=wJ hb;refine ZP M<|ZP M<|Zf M<|Zm M M<|ZP M<|ZP M<|Zf M<|zS ?_;exact zU ⟨false,⟨fun h=>(by cases h),fun h=>by omega⟩⟩ (O6 M) Jz
     replace hb:=wJ hb;refine ZP M<|ZP M<|Zf M<|Zm M M<|ZP M<|ZP M<|Zf M<|Zm M M<|ZP M<|ZP M<|Zf M<|zS ?_;exact zU ⟨false,⟨fun h=>(by cases h),fun h=>by omega⟩⟩ (O6 M) Jz
    obtain⟨z,hz13⟩:=z;dsimp only;refine zT M (fun h72=>?_) (fun h72=>?_)
    ·rw[hsc.resolve_left (hz13.1 h72)] at hq;refine zX<|zZ<|ZF M (Zo 0 M U125 M)<|ZR 1 M<|Za M M<|ZT<|zK<|zW<|zW<|xG M M M 1 M Tryz.underlying125 M (by kernel_rfl) fun w hw=>tL.no (Kk hw).ext hq.symm rfl
    skip;have h72':N=1∨N=2∨N=4∨N=8:=Classical.byContradiction fun h=>by rw[hz13.2 h] at h72;cases h72
    obtain⟨c,hc,hc3,hcN⟩:∃c,pM N=some c∧(0≤c∧c≤3)∧((N=8∧(0:Int)=c-3)∨(N=4∧(0:Int)=c-2)∨(N=2∧(0:Int)=c-1)∨(N=1∧(0:Int)=c)):=by
     rcases h72' with h|h|h|h<;>subst h<;>exact⟨_,rfl,by decide,by decide⟩
    rw[hc] at hq;have hq:tailQ ⟨109,xI kind V.l 1,[],0,xI kind V.l 3,c⟩ V.l 6=q:=hq;refine zR<|zV<|zX<|zJ<|yF (ι:={p:Nat×Int // (p.1=8∧p.2=c-3)∨(p.1=4∧p.2=c-2)∨(p.1=2∧p.2=c-1)∨(p.1=1∧p.2=c)}) (fun z=>[(1,.slice A V.l.length V.cap),(4,Jx b4),(6,Jx b6),(7,.int .i64 4),(9,.int .u32 ((z.1.1:Nat):Int))]) (fun z=>Jy w_0 [(b6,obO ⟨109,(xI kind V.l 1),[],0,(xI kind V.l 3),z.1.2⟩),(b4,obO ⟨0,0,[],0,0,0⟩)] [] (TvX V)) (fun z=>z.1.1) ⟨(N,0),hcN⟩ (O5 M) Jz (fun z=>?_);obtain⟨⟨n,s⟩,hz⟩:=z;dsimp only at hz ⊢;refine zX<|zX<|zZ<|Zm M M<|ZF M (vS M M)<|ZT<|zT M (fun h75=>?_) (fun h75=>?_)
    ·replace h75:=Ki h75;obtain⟨n2,hn2,hs2⟩:∃n2,n=2*n2∧((n2=8∧s+1=c-3)∨(n2=4∧s+1=c-2)∨(n2=2∧s+1=c-1)∨(n2=1∧s+1=c)):=⟨n/2,by omega,by omega⟩;subst hn2;refine zR<|zV<|zJ<|zX<|Z6r 1 4 6 7 9 75 rfl<|Zm rfl rfl<|ZF rfl (yf_quo rfl rfl (by first|decide|omega) (quo2 n2 (by omega))) ?_;refine Za M M<|ZT<|Z6r 1 4 6 7 9 75 M<|ZF M (zY (off:=5) (sz:=0) M U125 (by kernel_rfl) M) ?_;refine Zl 0 M U3 M<|ZF M (zF M M (i64_in (s+1) (by omega) (by omega)))<|ZF M (zY (off:=5) (sz:=0) M U125 (by kernel_rfl) M) ?_;refine ZS 0 M<|zS<|zH ?_;exact yV ⟨(n2,s+1),hs2⟩ (by show n2<2*n2;omega) (O5 M) Jz
    replace h75:=Kj h75;obtain⟨rfl,rfl⟩:n=1∧s=c:=by omega
    refine yM<|zP<|zP<|yN<|zV<|Z6r 1 4 6 7 9 75 M<|Zm M M<|ZF M (zF M M (i64_in _ (by omega) (by omega)))<|Za M M<|zS ?_;exact zU ⟨(6,xI kind V.l 3,_),hq,Ae 6⟩ (O4 M) Jz
   skip;rw[Ag (by rw[h46];simp)] at hq;refine zR ?_;exact zU ⟨(4,xI kind V.l 3,0),hq,(by decide:4≤6)⟩ (O4 M) Jz
  skip;rw[Ag (fun h=>by rw[hz6.2 h] at h39;cases h39)] at hq;refine zR ?_;exact zU ⟨(2,-1,0),hq,(by decide:2≤6)⟩ (O4 M) Jz
 obtain⟨⟨k,x,c⟩,hq,hk6⟩:=z;dsimp only at hq hk6 ⊢;unfold tailQ at hq;refine zX<|zZ<|Zm M M<|Zm M M<|Zu (v:=.bool (isA [43] (V.l.drop k))) M (fun w hw=>uQ V A hA k [43] w (HpG.x hw))<|Za M M<|ZT<|zB (ι:={p:Nat×Nat // finQ ⟨109,xI kind V.l 1,[],p.2,x,c⟩ V.l p.1=q∧p.1≤8}) (fun z=>[(1,.slice A V.l.length V.cap),(4,Jx b4),(6,Jx b6),(7,.int .i64 ((z.1.1:Nat):Int))]) (fun z=>Jy w_0 [(b6,obO ⟨109,(xI kind V.l 1),[],z.1.2,x,c⟩),(b4,obO ⟨0,0,[],0,0,0⟩)] [] (TvX V)) ?_ (fun z=>?_)
 ·refine zB (ι:={z:Bool // z=true↔(isA [43] (V.l.drop k)=true∨isA [45] (V.l.drop k)=true)}) (fun z=>[(1,.slice A V.l.length V.cap),(4,Jx b4),(6,Jx b6),(7,.int .i64 ((k:Nat):Int)),(10,.bool (isA [43] (V.l.drop k))),(92,.bool z.1)]) (fun z=>Jy w_0 [(b6,obO ⟨109,(xI kind V.l 1),[],0,x,c⟩),(b4,obO ⟨0,0,[],0,0,0⟩)] [] (TvX V)) ?_ (fun z=>?_)
  ·refine Z5r 1 4 6 7 10 M<|Zm M M<|Zm M M<|zQ 88 M (fun g20=>?_) (fun g20=>?_)
   ·refine ZP M<|ZP M<|ZP M<|Zh M<|zS ?_;exact zU ⟨true,⟨fun _=>.inl g20,fun _=>rfl⟩⟩ (O6 M) Jz
   skip;refine Zv M<|Zv M<|xW (.some M M) M  (v:=.bool (isA [45] (V.l.drop k))) (by kernel_rfl) M (fun w hw=>uQ V A hA k [45] w (HpG.x hw))<|Zf M<|zS ?_;exact zU ⟨_,⟨fun h=>.inr h,fun h=>h.resolve_left (by rw[g20];simp)⟩⟩ (O6 M) Jz
  obtain⟨z,hz20⟩:=z;dsimp only;refine zT M (fun h92=>?_) (fun h92=>?_)
  ·rw[Ah (hz20.1 h92)] at hq;refine zX<|zX<|zZ<|Zm M M<|Zm M M<|ZF M (zF M M (i64_in _ (by omega) (by omega)))<|Zu (v:=.bool (rP V.l (k+1))) M (fun w hw=>wnumber_any V A hA (k+1) w (HpG.x hw))<|ZF M (xO M)<|ZT<|zT M (fun h97=>?_) (fun h97=>?_)
   ·have h97':rP V.l (k+1)=false:=by simpa using h97
    rw[Ag (by rw[h97'];simp)] at hq;refine zX<|Z7r 1 4 6 7 10 92 97 M<|ZF M (Zo 0 M U125 M)<|ZR 1 M<|Za M M<|ZT<|zK<|zW<|zW<|xG M M M 1 M Tryz.underlying125 M (by kernel_rfl) fun w hw=>tL.no (Kk hw).ext hq.symm rfl
   skip;have h97':rP V.l (k+1)=true:=by simpa using h97
   rw[Ah h97'] at hq;have hl9:=num_lt h97';obtain⟨t9,ht9⟩:∃t,V.l[k+1]? = some t:=⟨V.l[k+1]'hl9,Kn _⟩;have hA2:=hA.at_ (fun e=>by rw[e] at ht9;cases ht9);have hv9:=(hA.ok t9 (Ko ht9)).2.2;rw[valP_some ht9] at hq;refine zR<|zV<|zX<|Z7r 1 4 6 7 10 92 97 M<|Zm M M<|Zm M M<|ZF M (zF M M (i64_in _ (by omega) (by omega)))<|ZF M (Zi (j:=k+1) (es:=3) (g:=V.g) (o:=V.off) (len:=V.l.length) (cap:=V.cap) (congrArg (fun z=>some (Value.slice z V.l.length V.cap)) hA2) M Tryz.underlying113 M (by omega) M) ?_;refine ZF M (Y190x2 M) ?_;refine ZF M (zL (v:=.int .u32 t9.n) M U22 M (fun w hw=>by have:=HpG.x hw (k+1) t9 ht9 2 _ rfl;rw[Nat.mul_comm 3 (k+1)] at this;exact this)) ?_;refine ZF M (Y125x3 M) ?_;refine ZS 0 M<|ZT<|zB (ι:=Unit) (fun z=>[(1,.slice A V.l.length V.cap),(4,Jx b4),(6,Jx b6),(7,.int .i64 ((k:Nat):Int))]) (fun z=>Jy w_0 [(b6,obO ⟨109,(xI kind V.l 1),[],(if isA [43] (V.l.drop k)=true then t9.n else negA t9.n),x,c⟩),(b4,obO ⟨0,0,[],0,0,0⟩)] [] (TvX V)) ?_ (fun z=>?_)
   ·refine zX<|Z7 1 4 6 7 10 92 97 M<|zG (H':=Jy w_0 [(b6,obO ⟨109,(xI kind V.l 1),[],t9.n,x,c⟩),(b4,obO ⟨0,0,[],0,0,0⟩)] [] (TvX V)) Jz<|zZ<|Zm M M<|ZF M (xO M)<|ZT<|zT M (fun h107=>?_) (fun h107=>?_)
    ·refine Z8r 1 4 6 7 10 92 97 107 M<|ZF M (Y125x3 M) ?_;refine Zl 0 M U22 M<|ZF M (vL M M (neg_wrap _ hv9))<|ZF M (Y125x3 M) ?_;refine ZS 0 M<|zS ?_;exact zU () (O4 M) (fun w h=>by rw[Ag (by simpa using h107)];exact h)
    skip;refine zR ?_;exact zU () (O4 M) (fun w h=>by rw[Ah (by simpa using h107)];exact h)
   skip;refine zZ<|Zm M M<|ZF M (zF M M (i64_in _ (by omega) (by omega)))<|Za M M<|zS ?_;exact zU ⟨(k+2,(if isA [43] (V.l.drop k)=true then t9.n else negA t9.n)),hq,by show k+2≤8;omega⟩ (O4 M) Jz
  skip;rw[Ag (fun h=>by rw[hz20.2 h] at h92;cases h92)] at hq;refine zR ?_;exact zU ⟨(k,0),hq,by show k≤8;omega⟩ (O4 M) Jz
 obtain⟨⟨k,n⟩,hq,hk8⟩:=z;dsimp only at hq hk8 ⊢;unfold finQ at hq;refine zX ?_;cases h93:isA [93] (V.l.drop k)
 ·refine oC (γ:=Unit) [(1,.slice A V.l.length V.cap),(4,Jx b4),(6,Jx b6),(7,.int .i64 ((k:Nat):Int))] [(0,114,fun g=>.agg (aoC ⟨109,xI kind V.l 1,[],n,x,c⟩).toArray),(1,115,fun g=>.slice A V.l.length V.cap),(2,116,fun g=>.int .i64 ((k:Nat):Int)),(3,117,fun g=>.bool false),(4,118,fun g=>.bool false),(5,119,fun g=>undef),(6,120,fun g=>undef),(7,121,fun g=>undef),(8,122,fun g=>undef),(9,123,fun g=>undef),(10,124,fun g=>.bool false),(12,5,fun g=>.bool false)] (fun D g=>Jy w_0 [(b6,obO ⟨109,xI kind V.l 1,[],n,x,c⟩),(b4,bif D 11 then obO ⟨109,xI kind V.l 1,[],n,x,c⟩ else obO ⟨0,0,[],0,0,0⟩)] [] (TvX V)) [[],[],[],[1,2],[3],[4],[4],[4],[4],[4],[4,9],[0],[10]] () (by kernel_rfl) (by kernel_rfl) (by kernel_rfl) (O4 M) (fun D w h hw=>by have h9:=h 11 (by decide);simp only[h9];exact Hp.drew hw) ⟨?_,?_,?_,?_,?_,?_,?_,?_,?_,?_,?_,?_,?_,trivial⟩ (fun g=>?_)
  ·intro D g hD hd;refine .inl ⟨.none,?_⟩
   first|(refine zI (v:=.agg (aoC ⟨109,xI kind V.l 1,[],n,x,c⟩).toArray) ?_ rfl Jz;refine Zo 0 rfl U125 rfl)|(refine zI (v:=.agg (aoC ⟨109,xI kind V.l 1,[],n,x,c⟩).toArray) ?_ rfl Jz;refine Zo 1 rfl U125 rfl)|(refine zI (v:=.agg (aoC ⟨109,xI kind V.l 1,[],n,x,c⟩).toArray) ?_ rfl Jz;refine Zo 2 rfl U125 rfl)|(refine zI (v:=.agg (aoC ⟨109,xI kind V.l 1,[],n,x,c⟩).toArray) ?_ rfl Jz;refine Zo 3 rfl U125 rfl)|(refine zI (v:=.agg (aoC ⟨109,xI kind V.l 1,[],n,x,c⟩).toArray) ?_ rfl Jz;refine Zo 4 rfl U125 rfl)|(refine zI (v:=.agg (aoC ⟨109,xI kind V.l 1,[],n,x,c⟩).toArray) ?_ rfl Jz;refine Zo 5 rfl U125 rfl)
  ·intro D g hD hd;refine .inl ⟨.none,?_⟩;refine zI (v:=.slice A V.l.length V.cap) ?_ M Jz;refine yW rfl
  ·intro D g hD hd;refine .inl ⟨.none,?_⟩;refine zI (v:=.int .i64 ((k:Nat):Int)) ?_ M Jz;refine yW rfl
  ·intro D g hD hd;have hd1:D 1=true:=hd 1 (by simp);have hd2:D 2=true:=hd 2 (by simp);refine .inl ⟨.none,?_⟩;exact oi_call (v:=.bool false) (by kernel_rfl) M (fun w hw=>by have:=uQ V A hA k [93] w (HpG.x hw);rw[h93] at this;exact this) M (fun w w' hw hx=>HpG.onE hw hx)
  ·intro D g hD hd;have hd3:D 3=true:=hd 3 (by simp);refine .inl ⟨.none,?_⟩;refine zI (v:=.bool false) ?_ M Jz;refine yW rfl
  ·intro D g hD hd;have hd4:D 4=true:=hd 4 (by simp);exact .inr ⟨.some M M rfl,fun w h=>⟨g,rfl,wU.refl,Jz w h⟩⟩
  ·intro D g hD hd;have hd4:D 4=true:=hd 4 (by simp);exact .inr ⟨.some M M rfl,fun w h=>⟨g,rfl,wU.refl,Jz w h⟩⟩
  ·intro D g hD hd;have hd4:D 4=true:=hd 4 (by simp);exact .inr ⟨.some M M rfl,fun w h=>⟨g,rfl,wU.refl,Jz w h⟩⟩
  ·intro D g hD hd;have hd4:D 4=true:=hd 4 (by simp);exact .inr ⟨.some M M rfl,fun w h=>⟨g,rfl,wU.refl,Jz w h⟩⟩
  ·intro D g hD hd;have hd4:D 4=true:=hd 4 (by simp);exact .inr ⟨.some M M rfl,fun w h=>⟨g,rfl,wU.refl,Jz w h⟩⟩
  ·intro D g hD hd;have hd4:D 4=true:=hd 4 (by simp);have hd9:D 9=true:=hd 9 (by simp);refine .inl ⟨.none,?_⟩;exact zI (v:=.bool false) (yD M M) M Jz
  ·intro D g hD hd;have hd0:D 0=true:=hd 0 (by simp);refine .inl ⟨.none,?_⟩;refine uO (val:=fun _:Unit=>undef) (H':=fun _=>Jy w_0 [(b6,obO ⟨109,xI kind V.l 1,[],n,x,c⟩),(b4,obO ⟨109,xI kind V.l 1,[],n,x,c⟩)] [] (TvX V)) ?_ (fun _ w hw=>⟨g,trivial,wU.refl,hw⟩);simp only[hD,cond_false];exact vG (seg:=aoC ⟨109,xI kind V.l 1,[],n,x,c⟩) (cs:=aoC ⟨0,0,[],0,0,0⟩) (o:=0) (g:=b4) (T:=125) (L:=[(b6,obO ⟨109,xI kind V.l 1,[],n,x,c⟩),(b4,obO ⟨0,0,[],0,0,0⟩)]) 1 M M M M M (by kernel_rfl)
  ·intro D g hD hd;have hd10:D 10=true:=hd 10 (by simp);refine .inl ⟨.none,?_⟩;refine zI (v:=.bool false) ?_ M Jz;refine wD rfl
  skip;refine wq_to (m':=[(1,.slice A V.l.length V.cap),(4,Jx b4),(6,Jx b6),(7,.int .i64 ((k:Nat):Int)),(5,.bool false)]) (H':=Jy w_0 [(b6,obO ⟨109,xI kind V.l 1,[],n,x,c⟩),(b4,obO ⟨109,xI kind V.l 1,[],n,x,c⟩)] [] (TvX V)) ?_ (O5 M) Jz;refine zV<|zK<|xG M M M 1 M Tryz.underlying125 M (by kernel_rfl) (fun w hw=>?_);rw[Ag (by rw[h93];simp)] at hq;exact tL.no (Kk hw).ext hq.symm rfl
 skip;refine oC (γ:=Unit) [(1,.slice A V.l.length V.cap),(4,Jx b4),(6,Jx b6),(7,.int .i64 ((k:Nat):Int))] [(0,114,fun g=>.agg (aoC ⟨109,xI kind V.l 1,[],n,x,c⟩).toArray),(1,115,fun g=>.slice A V.l.length V.cap),(2,116,fun g=>.int .i64 ((k:Nat):Int)),(3,117,fun g=>.bool true),(4,118,fun g=>.bool true),(5,119,fun g=>.int .i64 ((k:Nat):Int)),(6,120,fun g=>.int .i64 (((k:Nat):Int)+1)),(7,121,fun g=>.slice A V.l.length V.cap),(8,122,fun g=>.int .i64 ((V.l.length:Nat):Int)),(9,123,fun g=>.bool ((((k:Nat):Int)+1)==((V.l.length:Nat):Int))),(10,124,fun g=>.bool ((((k:Nat):Int)+1)==((V.l.length:Nat):Int))),(12,5,fun g=>.bool ((((k:Nat):Int)+1)==((V.l.length:Nat):Int)))] (fun D g=>Jy w_0 [(b6,obO ⟨109,xI kind V.l 1,[],n,x,c⟩),(b4,bif D 11 then obO ⟨109,xI kind V.l 1,[],n,x,c⟩ else obO ⟨0,0,[],0,0,0⟩)] [] (TvX V)) [[],[],[],[1,2],[3],[4],[4,5],[4],[4,7],[4,6,8],[4,9],[0],[10]] () (by kernel_rfl) (by kernel_rfl) (by kernel_rfl) (O4 M) (fun D w h hw=>by have h9:=h 11 (by decide);simp only[h9];exact Hp.drew hw) ⟨?_,?_,?_,?_,?_,?_,?_,?_,?_,?_,?_,?_,?_,trivial⟩ (fun g=>?_)
 ·intro D g hD hd;refine .inl ⟨.none,?_⟩
  first|(refine zI (v:=.agg (aoC ⟨109,xI kind V.l 1,[],n,x,c⟩).toArray) ?_ rfl Jz;refine Zo 0 rfl U125 rfl)|(refine zI (v:=.agg (aoC ⟨109,xI kind V.l 1,[],n,x,c⟩).toArray) ?_ rfl Jz;refine Zo 1 rfl U125 rfl)|(refine zI (v:=.agg (aoC ⟨109,xI kind V.l 1,[],n,x,c⟩).toArray) ?_ rfl Jz;refine Zo 2 rfl U125 rfl)|(refine zI (v:=.agg (aoC ⟨109,xI kind V.l 1,[],n,x,c⟩).toArray) ?_ rfl Jz;refine Zo 3 rfl U125 rfl)|(refine zI (v:=.agg (aoC ⟨109,xI kind V.l 1,[],n,x,c⟩).toArray) ?_ rfl Jz;refine Zo 4 rfl U125 rfl)|(refine zI (v:=.agg (aoC ⟨109,xI kind V.l 1,[],n,x,c⟩).toArray) ?_ rfl Jz;refine Zo 5 rfl U125 rfl)
 ·intro D g hD hd;refine .inl ⟨.none,?_⟩;refine zI (v:=.slice A V.l.length V.cap) ?_ M Jz;refine yW rfl
 ·intro D g hD hd;refine .inl ⟨.none,?_⟩;refine zI (v:=.int .i64 ((k:Nat):Int)) ?_ M Jz;refine yW rfl
 ·intro D g hD hd;have hd1:D 1=true:=hd 1 (by simp);have hd2:D 2=true:=hd 2 (by simp);refine .inl ⟨.none,?_⟩;exact oi_call (v:=.bool true) (by kernel_rfl) M (fun w hw=>by have:=uQ V A hA k [93] w (HpG.x hw);rw[h93] at this;exact this) M (fun w w' hw hx=>HpG.onE hw hx)
 ·intro D g hD hd;have hd3:D 3=true:=hd 3 (by simp);refine .inl ⟨.none,?_⟩;refine zI (v:=.bool true) ?_ M Jz;refine yW rfl
 ·intro D g hD hd;have hd4:D 4=true:=hd 4 (by simp);refine .inl ⟨.some M rfl,?_⟩;refine zI (v:=.int .i64 ((k:Nat):Int)) ?_ M Jz;refine yW rfl
 ·intro D g hD hd;have hd4:D 4=true:=hd 4 (by simp);have hd5:D 5=true:=hd 5 (by simp);refine .inl ⟨.some M rfl,?_⟩
  first|(refine zI (v:=.int .i64 (((k:Nat):Int)+1)) ?_ rfl Jz;refine zF rfl rfl (i64_in _ ?_ ?_);(· omega);(· omega))|(refine zI (v:=.int .i64 (((k:Nat):Int)+1)) ?_ rfl Jz;refine zF rfl rfl rfl)
 ·intro D g hD hd;have hd4:D 4=true:=hd 4 (by simp);refine .inl ⟨.some M rfl,?_⟩;refine zI (v:=.slice A V.l.length V.cap) ?_ M Jz;refine yW rfl
 ·intro D g hD hd;have hd4:D 4=true:=hd 4 (by simp);have hd7:D 7=true:=hd 7 (by simp);refine .inl ⟨.some M rfl,?_⟩;refine zI (v:=.int .i64 ((V.l.length:Nat):Int)) ?_ M Jz;refine yK M U113
 ·intro D g hD hd;have hd4:D 4=true:=hd 4 (by simp);have hd6:D 6=true:=hd 6 (by simp);have hd8:D 8=true:=hd 8 (by simp);refine .inl ⟨.some M rfl,?_⟩;refine zI (v:=.bool ((((k:Nat):Int)+1)==((V.l.length:Nat):Int))) ?_ M Jz;refine oW M M
 ·intro D g hD hd;have hd4:D 4=true:=hd 4 (by simp);have hd9:D 9=true:=hd 9 (by simp);refine .inl ⟨.none,?_⟩;exact zI (v:=.bool ((((k:Nat):Int)+1)==((V.l.length:Nat):Int))) (yA M M) M Jz
 ·intro D g hD hd;have hd0:D 0=true:=hd 0 (by simp);refine .inl ⟨.none,?_⟩;refine uO (val:=fun _:Unit=>undef) (H':=fun _=>Jy w_0 [(b6,obO ⟨109,xI kind V.l 1,[],n,x,c⟩),(b4,obO ⟨109,xI kind V.l 1,[],n,x,c⟩)] [] (TvX V)) ?_ (fun _ w hw=>⟨g,trivial,wU.refl,hw⟩);simp only[hD,cond_false];exact vG (seg:=aoC ⟨109,xI kind V.l 1,[],n,x,c⟩) (cs:=aoC ⟨0,0,[],0,0,0⟩) (o:=0) (g:=b4) (T:=125) (L:=[(b6,obO ⟨109,xI kind V.l 1,[],n,x,c⟩),(b4,obO ⟨0,0,[],0,0,0⟩)]) 1 M M M M M (by kernel_rfl)
 ·intro D g hD hd;have hd10:D 10=true:=hd 10 (by simp);refine .inl ⟨.none,?_⟩;refine zI (v:=.bool ((((k:Nat):Int)+1)==((V.l.length:Nat):Int))) ?_ M Jz;refine wD rfl
 skip;refine wq_to (m':=[(1,.slice A V.l.length V.cap),(4,Jx b4),(6,Jx b6),(7,.int .i64 ((k:Nat):Int)),(5,.bool ((((k:Nat):Int)+1)==((V.l.length:Nat):Int)))]) (H':=Jy w_0 [(b6,obO ⟨109,xI kind V.l 1,[],n,x,c⟩),(b4,obO ⟨109,xI kind V.l 1,[],n,x,c⟩)] [] (TvX V)) ?_ (O5 M) Jz;refine zV<|zK<|xG M M M 1 M Tryz.underlying125 M (by kernel_rfl) (fun w hw=>?_);refine⟨(Kk hw).ext,_,_,rfl,?_⟩
 by_cases hk9:k+1=V.l.length
 ·rw[Ah ⟨h93,hk9⟩] at hq;subst hq;exact⟨Am.2 (by omega),rfl⟩
 rw[Ag (fun h=>hk9 h.2)] at hq;subst hq;exact beq_eq_false_iff_ne.2 (by omega)
end Go.Proofs.YtkaepknpplhgkaaGreatDoor
namespace Go.Proofs.YtkaepknpplhgkaaGreatDoor
open Go.RowKit
theorem woperand_any (kind:Int) (V:TV) (A:Option Addr) (hA:TvA V A) (w_0:World) (hX:TvX V w_0):Calls Tryz.prog 134 #[.int .i64 kind,.slice A V.l.length V.cap] w_0 (tL (qN kind V.l) w_0):=by
 have hcp:=hA.cap;have hbg:=hA.big;unfold maxLen at hbg;rw[opr_eq];generalize hq:oprQ kind V.l=q;unfold oprQ at hq;refine zN (args:=[.int .i64 kind,.slice A V.l.length V.cap]) Tryz.func134 M 75 M (Kh M)<|Z2 0 1 M<|zG (H':=Jy w_0 [] [] (TvX V)) (fun u hu=>?_) ?_;subst hu;exact Hp.startTv hX;refine zX<|zZ<|Zt (z:=.agg #[.int .u8 0,.int .i64 0,.string ⟨#[]⟩,.int .u32 0,.int .i64 0,.int .i64 0]) (cs:=Jk) M fun b4=>Za M M<|ZX<|zX<|zZ<|Zm M M<|Zu (v:=.bool (isA [91] (V.l.drop 0))) M (fun w hw=>uQ V A hA 0 [91] w (HpG.x hw))<|ZT<|zT M (fun h8=>?_) (fun h8=>?_)
 ·rw[Ah (show isA [91] V.l=true from h8)] at hq;refine zX<|Z5r 0 1 4 5 8 rfl<|Zm rfl rfl<|Zm rfl rfl<|wl_pureE (ι:=AOp×Bool) (C:=fun x=>match memQ kind V.l with|some y=>x.2=true∧x.1=y|none=>x.2=false) (val:=fun x=>.tuple #[.agg (aoC x.1).toArray,.bool x.2]) .none rfl  (by kernel_rfl) rfl (fun w hw=>(wmemory_any kind V A hA h8 w (HpG.x hw)).mono fun e w' ⟨h1,o,b,h2,h3⟩=>⟨(o,b),h3,h2,h1⟩) (fun x hx=>?_);rw[hq] at hx;refine ZF M (zC M M)<|ZF M (zC M M)<|ZR 0 M<|Za M M<|ZT<|zK<|zW<|xG M M M 0 M Tryz.underlying125 M (by kernel_rfl) fun w hw=>⟨(Kk hw).ext,x.1,x.2,rfl,hx⟩
 skip;rw[Ag (show ¬isA [91] V.l=true from fun h=>by rw[show isA [91] (V.l.drop 0)=isA [91] V.l from rfl,h] at h8;cases h8)] at hq;refine zR<|zV<|zX<|zB (ι:={z:Bool // z=true↔(V.l.length=2∧isA [45] V.l=true∧rP V.l 1=true)}) (fun z=>[(0,.int .i64 kind),(1,.slice A V.l.length V.cap),(4,Jx b4),(24,.bool z.1)]) (fun z=>Jy w_0 [(b4,obO ⟨0,0,[],0,0,0⟩)] [] (TvX V)) ?_ (fun z=>?_)
 ·refine Z5r 0 1 4 5 8 M<|Zm M M<|ZF M (yK M U113)<|Ze M<|Zm M M<|zQ 17 M (fun g4=>?_) (fun g4=>?_)
  ·replace g4:=Kq g4;refine Zv M<|xW (.some M M) M  (v:=.bool (isA [45] (V.l.drop 0))) (by kernel_rfl) M (fun w hw=>uQ V A hA 0 [45] w (HpG.x hw))<|Zh M<|Zm M M<|zQ 21 M (fun g8=>?_) (fun g8=>?_)
   ·refine Zv M<|xW (.some M M) M  (v:=.bool (rP V.l 1)) (by kernel_rfl) M (fun w hw=>wnumber_any V A hA 1 w (HpG.x hw))<|Zh M<|zS ?_;exact zU ⟨_,⟨fun h=>⟨by omega,g8,h⟩,fun h=>h.2.2⟩⟩ (O4 M) Jz
   skip;refine ZP M<|ZP M<|Zf M<|zS ?_;exact zU ⟨false,⟨fun h=>(by cases h),fun h=>by rw[show isA [45] (V.l.drop 0)=isA [45] V.l from rfl,h.2.1] at g8;cases g8⟩⟩ (O4 M) Jz
  replace g4:=yT g4;refine ZP M<|ZP M<|Zf M<|Zm M M<|ZP M<|ZP M<|Zf M<|zS ?_;exact zU ⟨false,⟨fun h=>(by cases h),fun h=>absurd h.1 (by omega)⟩⟩ (O4 M) Jz
 obtain⟨z,hz⟩:=z;dsimp only;refine zT M (fun h24=>?_) (fun h24=>?_)
 ·have h24':=hz.1 h24;rw[Ah h24'] at hq;obtain⟨t,ht⟩:∃t,V.l[1]? = some t:=⟨V.l[1]'(num_lt h24'.2.2),Kn _⟩;have hl1:=num_lt h24'.2.2;have hA2:=hA.at_ (fun e=>by rw[e] at ht;cases ht);have hv:=(hA.ok t (Ko ht)).2.2;rw[valP_some ht] at hq;refine zX<|zZ<|Zm M M<|ZF M (Zi (j:=1) (es:=3) (g:=V.g) (o:=V.off) (len:=V.l.length) (cap:=V.cap) (congrArg (fun z=>some (Value.slice z V.l.length V.cap)) hA2) M Tryz.underlying113 M (by omega) M) ?_;refine ZF M (Y190x2 M) ?_;refine ZF M (zL (v:=.int .u32 t.n) M U22 M (fun w hw=>(HpG.x hw) 1 t ht 2 _ M))<|ZF M (vL M M (neg_wrap _ hv))<|ZF M (Zb [.int .u8 0,.int .i64 0,.string ⟨#[]⟩,.int .u32 0,.int .i64 0,.int .i64 0] [(0,1),(1,1),(2,1),(3,1),(4,1),(5,1)] M)<|ZR 0 M<|Za M M<|ZT<|zK<|zW<|xG M M M 0 M Tryz.underlying125 M (by kernel_rfl) fun w hw=>tL.yes (o:=⟨118,0,[],negA t.n,0,0⟩) (Kk hw).ext hq.symm rfl
 skip;rw[Ag (fun h=>by rw[hz.2 h] at h24;cases h24)] at hq;refine zR<|zV<|zX<|zX<|zZ<|Zm M M<|ZF M (yK M U113)<|ZF M (xF M M)<|ZT<|zT M (fun h33=>?_) (fun h33=>?_)
 ·replace h33:=xD h33
  have hqn:q=none:=by
   rw[← hq];generalize V.l=l at h33
   match l,h33 with
   | [],_=>rfl
   | [t],h=>exact absurd rfl h
   | _::_::_,_=>rfl
  refine zX<|Z5r 0 1 4 24 33 M<|ZF M (Zb [.int .u8 0,.int .i64 0,.string ⟨#[]⟩,.int .u32 0,.int .i64 0,.int .i64 0] [(0,1),(1,1),(2,1),(3,1),(4,1),(5,1)] M)<|ZR 0 M<|Za M M<|ZT<|zK<|zW<|xG M M M 0 M Tryz.underlying125 M (by kernel_rfl) fun w hw=>tL.no (o:=⟨0,0,[],0,0,0⟩) (Kk hw).ext hqn rfl
 replace h33:=wJ h33
 obtain⟨t,hl⟩:∃t,V.l=[t]:=by
  generalize V.l=l at h33
  match l,h33 with
  | [],h=>exact absurd h (by decide)
  | [t],_=>exact⟨t,rfl⟩
  | _::_::_,h=>simp at h;omega
 have ht:V.l[0]? = some t:=by rw[hl];rfl
 have hl0:0<V.l.length:=by rw[hl];exact Nat.zero_lt_one
 have hA2:=hA.at_ (fun e=>by rw[e] at ht;cases ht);have hok:=hA.ok t (Ko ht);have htk:=rkd_1 hok.1;rw[hl] at hq;dsimp only at hq;refine zR<|zV<|zX<|zX<|Z5r 0 1 4 24 33 M<|Zm M M<|ZF M (Zi (j:=0) (es:=3) (g:=V.g) (o:=V.off) (len:=V.l.length) (cap:=V.cap) (congrArg (fun z=>some (Value.slice z V.l.length V.cap)) hA2) M Tryz.underlying113 M (by omega) M) ?_;refine ZF M (Y190x0 M) ?_;refine ZF M (zL (v:=.int .i64 (rkd t.kind)) M U3 M (fun w hw=>(HpG.x hw) 0 t ht 0 _ M))<|Ze M<|ZT<|zT M (fun h39=>?_) (fun h39=>?_)
 ·replace h39:=Kq h39;rw[Ah (htk.2.1.1 h39)] at hq;refine zX<|Z6r 0 1 4 24 33 39 M<|Zm M M<|ZF M (Zi (j:=0) (es:=3) (g:=V.g) (o:=V.off) (len:=V.l.length) (cap:=V.cap) (congrArg (fun z=>some (Value.slice z V.l.length V.cap)) hA2) M Tryz.underlying113 M (by omega) M) ?_;refine ZF M (Y190x2 M) ?_;refine ZF M (zL (v:=.int .u32 t.n) M U22 M (fun w hw=>(HpG.x hw) 0 t ht 2 _ M))<|ZF M (Zb [.int .u8 0,.int .i64 0,.string ⟨#[]⟩,.int .u32 0,.int .i64 0,.int .i64 0] [(0,1),(1,1),(2,1),(3,1),(4,1),(5,1)] M)<|ZR 0 M<|Za M M<|ZT<|zK<|zW<|xG M M M 0 M Tryz.underlying125 M (by kernel_rfl) fun w hw=>tL.yes (o:=⟨118,0,[],t.n,0,0⟩) (Kk hw).ext hq.symm rfl
 replace h39:=yT h39;rw[Ag (fun h=>h39 (htk.2.1.2 h))] at hq;refine zR<|zV<|zX<|zX<|Z6r 0 1 4 24 33 39 M<|Zm M M<|ZF M (Zi (j:=0) (es:=3) (g:=V.g) (o:=V.off) (len:=V.l.length) (cap:=V.cap) (congrArg (fun z=>some (Value.slice z V.l.length V.cap)) hA2) M Tryz.underlying113 M (by omega) M) ?_;refine ZF M (Y190x0 M) ?_;refine ZF M (zL (v:=.int .i64 (rkd t.kind)) M U3 M (fun w hw=>(HpG.x hw) 0 t ht 0 _ M))<|ZF M (xF M M)<|ZT<|zT M (fun h49=>?_) (fun h49=>?_)
 ·replace h49:=xD h49;rw[Ag (fun h=>h49 (htk.1.2 h))] at hq;refine zX<|Z7r 0 1 4 24 33 39 49 M<|ZF M (Zb [.int .u8 0,.int .i64 0,.string ⟨#[]⟩,.int .u32 0,.int .i64 0,.int .i64 0] [(0,1),(1,1),(2,1),(3,1),(4,1),(5,1)] M)<|ZR 0 M<|Za M M<|ZT<|zK<|zW<|xG M M M 0 M Tryz.underlying125 M (by kernel_rfl) fun w hw=>tL.no (o:=⟨0,0,[],0,0,0⟩) (Kk hw).ext hq.symm rfl
 replace h49:=wJ h49;rw[Ah (htk.1.1 h49)] at hq;refine zR<|zV<|zX<|Z7r 0 1 4 24 33 39 49 M<|Zm M M<|Zm M M<|ZF M (Zi (j:=0) (es:=3) (g:=V.g) (o:=V.off) (len:=V.l.length) (cap:=V.cap) (congrArg (fun z=>some (Value.slice z V.l.length V.cap)) hA2) M Tryz.underlying113 M (by omega) M) ?_;refine ZF M (Y190x1 M) ?_;refine ZF M (zL (v:=.string ⟨t.s.toArray⟩) M U9 M (fun w hw=>(HpG.x hw) 0 t ht 1 _ M))<|Zu (v:=.int .i64 (rgR kind t.s)) M (fun w hw=>oU kind t.s (by omega) w)<|Za M M<|ZX<|zX<|Z8r 0 1 4 6 24 33 39 49 M<|Zm M M<|ZF M (yC M M)<|ZT<|zT M (fun h58=>?_) (fun h58=>?_)
 ·replace h58:=Ki h58;rw[Ah h58] at hq;refine zX<|Z9r 0 1 4 6 24 33 39 49 58 M<|Zm M M<|ZF M (Zb [.int .u8 0,.int .i64 0,.string ⟨#[]⟩,.int .u32 0,.int .i64 0,.int .i64 0] [(0,1),(1,1),(2,1),(3,1),(4,1),(5,1)] M)<|ZR 0 M<|Za M M<|ZT<|zK<|zW<|xG M M M 0 M Tryz.underlying125 M (by kernel_rfl) fun w hw=>tL.yes (o:=⟨114,rgR kind t.s,[],0,0,0⟩) (Kk hw).ext hq.symm rfl
 replace h58:=Kj h58;rw[Ag (by omega)] at hq;refine zR<|zV<|zX<|Z9 0 1 4 6 24 33 39 49 58 M ?_;cases h93:(rgR kind t.s == -1)
 ·refine oC (γ:=Unit) [(1,.slice A V.l.length V.cap),(4,Jx b4),(6,.int .i64 (rgR kind t.s))] [(0,61,fun g=>.slice A V.l.length V.cap),(1,62,fun g=>.pointer (some ⟨V.g,V.off+0*3,none⟩)),(2,63,fun g=>.pointer (some ⟨V.g,V.off+0*3+1,none⟩)),(3,64,fun g=>.string ⟨t.s.toArray⟩),(4,65,fun g=>.agg (aoC ⟨118,0,t.s,0,0,0⟩).toArray),(5,66,fun g=>.int .i64 (rgR kind t.s)),(6,67,fun g=>.bool false),(7,68,fun g=>.bool false),(8,69,fun g=>undef),(9,70,fun g=>undef),(10,71,fun g=>undef),(11,72,fun g=>undef),(12,73,fun g=>undef),(13,74,fun g=>.bool false),(15,5,fun g=>.bool false)] (fun D g=>Jy w_0 [(b4,bif D 14 then obO ⟨118,0,t.s,0,0,0⟩ else obO ⟨0,0,[],0,0,0⟩)] [] (TvX V)) [[],[0],[1],[2],[3],[],[5],[6],[7],[7],[7],[7],[7],[7,12],[4],[13]] () (by kernel_rfl) (by kernel_rfl) (by kernel_rfl) (O3 M) (fun D w h hw=>by have h9:=h 14 (by decide);simp only[h9];exact Hp.drew hw) ⟨?_,?_,?_,?_,?_,?_,?_,?_,?_,?_,?_,?_,?_,?_,?_,?_,trivial⟩ (fun g=>?_)
  ·intro D g hD hd;refine .inl ⟨.none,?_⟩;refine zI (v:=.slice A V.l.length V.cap) ?_ M Jz;refine yW rfl
  ·intro D g hD hd;have hd0:D 0=true:=hd 0 (by simp);refine .inl ⟨.none,?_⟩;refine zI (v:=.pointer (some ⟨V.g,V.off+0*3,none⟩)) ?_ M Jz;refine Zi (j:=0) (es:=3) (g:=V.g) (o:=V.off) (len:=V.l.length) (cap:=V.cap) (congrArg (fun z=>some (Value.slice z V.l.length V.cap)) hA2) M Tryz.underlying113 M (by omega) rfl
  ·intro D g hD hd;have hd1:D 1=true:=hd 1 (by simp);refine .inl ⟨.none,?_⟩;refine zI (v:=.pointer (some ⟨V.g,V.off+0*3+1,none⟩)) ?_ M Jz;refine zY (off:=1) (sz:=0) M U190 (by kernel_rfl) rfl
  ·intro D g hD hd;have hd2:D 2=true:=hd 2 (by simp);refine .inl ⟨.none,?_⟩;refine zI (v:=.string ⟨t.s.toArray⟩) ?_ M Jz;refine zL (v:=.string ⟨t.s.toArray⟩) M U9 M (fun w hw=>(HpG.x hw) 0 t ht 1 _ M)
  ·intro D g hD hd;have hd3:D 3=true:=hd 3 (by simp);refine .inl ⟨.none,?_⟩;refine zI (v:=.agg (aoC ⟨118,0,t.s,0,0,0⟩).toArray) ?_ M Jz;refine yf_buildS (vs:=[(0,.int .u8 118),(2,.string ⟨t.s.toArray⟩)]) [.int .u8 0,.int .i64 0,.string ⟨#[]⟩,.int .u32 0,.int .i64 0,.int .i64 0] [(0,1),(1,1),(2,1),(3,1),(4,1),(5,1)] M (by kernel_rfl) (by kernel_rfl) rfl
  ·intro D g hD hd;refine .inl ⟨.none,?_⟩;refine zI (v:=.int .i64 (rgR kind t.s)) ?_ M Jz;refine yW rfl
  ·intro D g hD hd;have hd5:D 5=true:=hd 5 (by simp);refine .inl ⟨.none,?_⟩;refine zI (v:=.bool false) ?_ M Jz;rw[← h93];exact oW M M
  ·intro D g hD hd;have hd6:D 6=true:=hd 6 (by simp);refine .inl ⟨.none,?_⟩;refine zI (v:=.bool false) ?_ M Jz;refine yW rfl
  ·intro D g hD hd;have hd7:D 7=true:=hd 7 (by simp);exact .inr ⟨.some M M rfl,fun w h=>⟨g,rfl,wU.refl,Jz w h⟩⟩
  ·intro D g hD hd;have hd7:D 7=true:=hd 7 (by simp);exact .inr ⟨.some M M rfl,fun w h=>⟨g,rfl,wU.refl,Jz w h⟩⟩
  ·intro D g hD hd;have hd7:D 7=true:=hd 7 (by simp);exact .inr ⟨.some M M rfl,fun w h=>⟨g,rfl,wU.refl,Jz w h⟩⟩
  ·intro D g hD hd;have hd7:D 7=true:=hd 7 (by simp);exact .inr ⟨.some M M rfl,fun w h=>⟨g,rfl,wU.refl,Jz w h⟩⟩
  ·intro D g hD hd;have hd7:D 7=true:=hd 7 (by simp);exact .inr ⟨.some M M rfl,fun w h=>⟨g,rfl,wU.refl,Jz w h⟩⟩
  ·intro D g hD hd;have hd7:D 7=true:=hd 7 (by simp);have hd12:D 12=true:=hd 12 (by simp);refine .inl ⟨.none,?_⟩;exact zI (v:=.bool false) (yD M M) M Jz
  ·intro D g hD hd;have hd4:D 4=true:=hd 4 (by simp);refine .inl ⟨.none,?_⟩;refine uO (val:=fun _:Unit=>undef) (H':=fun _=>Jy w_0 [(b4,obO ⟨118,0,t.s,0,0,0⟩)] [] (TvX V)) ?_ (fun _ w hw=>⟨g,trivial,wU.refl,hw⟩);simp only[hD,cond_false];exact vG (seg:=aoC ⟨118,0,t.s,0,0,0⟩) (cs:=aoC ⟨0,0,[],0,0,0⟩) (o:=0) (g:=b4) (T:=125) (L:=[(b4,obO ⟨0,0,[],0,0,0⟩)]) 0 M M M M M (by kernel_rfl)
  ·intro D g hD hd;have hd13:D 13=true:=hd 13 (by simp);refine .inl ⟨.none,?_⟩;refine zI (v:=.bool false) ?_ M Jz;refine wD rfl
  skip;refine wq_to (m':=[(1,.slice A V.l.length V.cap),(4,Jx b4),(6,.int .i64 (rgR kind t.s)),(5,.bool false)]) (H':=Jy w_0 [(b4,obO ⟨118,0,t.s,0,0,0⟩)] [] (TvX V)) ?_ (O4 M) Jz;refine zV<|zK<|xG M M M 0 M Tryz.underlying125 M (by kernel_rfl) (fun w hw=>?_);rw[Ag (fun h=>by rw[Am.2 h.1] at h93;cases h93)] at hq;exact tL.no (o:=⟨118,0,t.s,0,0,0⟩) (Kk hw).ext hq.symm rfl
 skip;refine oC (γ:=Unit) [(1,.slice A V.l.length V.cap),(4,Jx b4),(6,.int .i64 (rgR kind t.s))] [(0,61,fun g=>.slice A V.l.length V.cap),(1,62,fun g=>.pointer (some ⟨V.g,V.off+0*3,none⟩)),(2,63,fun g=>.pointer (some ⟨V.g,V.off+0*3+1,none⟩)),(3,64,fun g=>.string ⟨t.s.toArray⟩),(4,65,fun g=>.agg (aoC ⟨118,0,t.s,0,0,0⟩).toArray),(5,66,fun g=>.int .i64 (rgR kind t.s)),(6,67,fun g=>.bool true),(7,68,fun g=>.bool true),(8,69,fun g=>.slice A V.l.length V.cap),(9,70,fun g=>.pointer (some ⟨V.g,V.off+0*3,none⟩)),(10,71,fun g=>.pointer (some ⟨V.g,V.off+0*3+1,none⟩)),(11,72,fun g=>.string ⟨t.s.toArray⟩),(12,73,fun g=>.bool (nQ t.s)),(13,74,fun g=>.bool (nQ t.s)),(15,5,fun g=>.bool (nQ t.s))] (fun D g=>Jy w_0 [(b4,bif D 14 then obO ⟨118,0,t.s,0,0,0⟩ else obO ⟨0,0,[],0,0,0⟩)] [] (TvX V)) [[],[0],[1],[2],[3],[],[5],[6],[7],[7,8],[7,9],[7,10],[7,11],[7,12],[4],[13]] () (by kernel_rfl) (by kernel_rfl) (by kernel_rfl) (O3 M) (fun D w h hw=>by have h9:=h 14 (by decide);simp only[h9];exact Hp.drew hw) ⟨?_,?_,?_,?_,?_,?_,?_,?_,?_,?_,?_,?_,?_,?_,?_,?_,trivial⟩ (fun g=>?_)
 ·intro D g hD hd;refine .inl ⟨.none,?_⟩;refine zI (v:=.slice A V.l.length V.cap) ?_ M Jz;refine yW rfl
 ·intro D g hD hd;have hd0:D 0=true:=hd 0 (by simp);refine .inl ⟨.none,?_⟩;refine zI (v:=.pointer (some ⟨V.g,V.off+0*3,none⟩)) ?_ M Jz;refine Zi (j:=0) (es:=3) (g:=V.g) (o:=V.off) (len:=V.l.length) (cap:=V.cap) (congrArg (fun z=>some (Value.slice z V.l.length V.cap)) hA2) M Tryz.underlying113 M (by omega) rfl
 ·intro D g hD hd;have hd1:D 1=true:=hd 1 (by simp);refine .inl ⟨.none,?_⟩;refine zI (v:=.pointer (some ⟨V.g,V.off+0*3+1,none⟩)) ?_ M Jz;refine zY (off:=1) (sz:=0) M U190 (by kernel_rfl) rfl
 ·intro D g hD hd;have hd2:D 2=true:=hd 2 (by simp);refine .inl ⟨.none,?_⟩;refine zI (v:=.string ⟨t.s.toArray⟩) ?_ M Jz;refine zL (v:=.string ⟨t.s.toArray⟩) M U9 M (fun w hw=>(HpG.x hw) 0 t ht 1 _ M)
 ·intro D g hD hd;have hd3:D 3=true:=hd 3 (by simp);refine .inl ⟨.none,?_⟩;refine zI (v:=.agg (aoC ⟨118,0,t.s,0,0,0⟩).toArray) ?_ M Jz;refine yf_buildS (vs:=[(0,.int .u8 118),(2,.string ⟨t.s.toArray⟩)]) [.int .u8 0,.int .i64 0,.string ⟨#[]⟩,.int .u32 0,.int .i64 0,.int .i64 0] [(0,1),(1,1),(2,1),(3,1),(4,1),(5,1)] M (by kernel_rfl) (by kernel_rfl) rfl
 ·intro D g hD hd;refine .inl ⟨.none,?_⟩;refine zI (v:=.int .i64 (rgR kind t.s)) ?_ M Jz;refine yW rfl
 ·intro D g hD hd;have hd5:D 5=true:=hd 5 (by simp);refine .inl ⟨.none,?_⟩;refine zI (v:=.bool true) ?_ M Jz;rw[← h93];exact oW M M
 ·intro D g hD hd;have hd6:D 6=true:=hd 6 (by simp);refine .inl ⟨.none,?_⟩;refine zI (v:=.bool true) ?_ M Jz;refine yW rfl
 ·intro D g hD hd;have hd7:D 7=true:=hd 7 (by simp);refine .inl ⟨.some M rfl,?_⟩;refine zI (v:=.slice A V.l.length V.cap) ?_ M Jz;refine yW rfl
 ·intro D g hD hd;have hd7:D 7=true:=hd 7 (by simp);have hd8:D 8=true:=hd 8 (by simp);refine .inl ⟨.some M rfl,?_⟩;refine zI (v:=.pointer (some ⟨V.g,V.off+0*3,none⟩)) ?_ M Jz;refine Zi (j:=0) (es:=3) (g:=V.g) (o:=V.off) (len:=V.l.length) (cap:=V.cap) (congrArg (fun z=>some (Value.slice z V.l.length V.cap)) hA2) M Tryz.underlying113 M (by omega) rfl
 ·intro D g hD hd;have hd7:D 7=true:=hd 7 (by simp);have hd9:D 9=true:=hd 9 (by simp);refine .inl ⟨.some M rfl,?_⟩;refine zI (v:=.pointer (some ⟨V.g,V.off+0*3+1,none⟩)) ?_ M Jz;refine zY (off:=1) (sz:=0) M U190 (by kernel_rfl) rfl
 ·intro D g hD hd;have hd7:D 7=true:=hd 7 (by simp);have hd10:D 10=true:=hd 10 (by simp);refine .inl ⟨.some M rfl,?_⟩;refine zI (v:=.string ⟨t.s.toArray⟩) ?_ M Jz;refine zL (v:=.string ⟨t.s.toArray⟩) M U9 M (fun w hw=>(HpG.x hw) 0 t ht 1 _ M)
 ·intro D g hD hd;have hd7:D 7=true:=hd 7 (by simp);have hd11:D 11=true:=hd 11 (by simp);refine .inl ⟨.some M rfl,?_⟩;exact oi_call (v:=.bool (nQ t.s)) (by kernel_rfl) M (fun w hw=>wname_any t.s (by omega) w) M (fun w w' hw hx=>HpG.onE hw hx)
 ·intro D g hD hd;have hd7:D 7=true:=hd 7 (by simp);have hd12:D 12=true:=hd 12 (by simp);refine .inl ⟨.none,?_⟩;exact zI (v:=.bool (nQ t.s)) (yA M M) M Jz
 ·intro D g hD hd;have hd4:D 4=true:=hd 4 (by simp);refine .inl ⟨.none,?_⟩;refine uO (val:=fun _:Unit=>undef) (H':=fun _=>Jy w_0 [(b4,obO ⟨118,0,t.s,0,0,0⟩)] [] (TvX V)) ?_ (fun _ w hw=>⟨g,trivial,wU.refl,hw⟩);simp only[hD,cond_false];exact vG (seg:=aoC ⟨118,0,t.s,0,0,0⟩) (cs:=aoC ⟨0,0,[],0,0,0⟩) (o:=0) (g:=b4) (T:=125) (L:=[(b4,obO ⟨0,0,[],0,0,0⟩)]) 0 M M M M M (by kernel_rfl)
 ·intro D g hD hd;have hd13:D 13=true:=hd 13 (by simp);refine .inl ⟨.none,?_⟩;refine zI (v:=.bool (nQ t.s)) ?_ M Jz;refine wD rfl
 skip;refine wq_to (m':=[(1,.slice A V.l.length V.cap),(4,Jx b4),(6,.int .i64 (rgR kind t.s)),(5,.bool (nQ t.s))]) (H':=Jy w_0 [(b4,obO ⟨118,0,t.s,0,0,0⟩)] [] (TvX V)) ?_ (O4 M) Jz;refine zV<|zK<|xG M M M 0 M Tryz.underlying125 M (by kernel_rfl) (fun w hw=>?_);refine⟨(Kk hw).ext,⟨118,0,t.s,0,0,0⟩,_,rfl,?_⟩
 cases hn:nQ t.s with
 | true =>
  rw[Ah ⟨Kq h93,hn⟩] at hq;subst hq;exact⟨rfl,rfl⟩
 | false =>
  rw[Ag (fun h=>by rw[hn] at h;cases h.2)] at hq;subst hq;rfl
end Go.Proofs.YtkaepknpplhgkaaGreatDoor
namespace Go.Proofs.YtkaepknpplhgkaaGreatDoor
open Go.RowKit
def sgdR (n:Nat):Bool:=decide (n<128)||decide (4294967168≤n)
theorem wsigned_any (n:Nat) (w_0:World):Calls Tryz.prog 138 #[.int .u32 n] w_0 fun e w'=>e=.returned (.bool (sgdR n))∧Ext w_0 w':=by
 refine zN (args:=[.int .u32 n]) Tryz.func138 M 9 M (Kh M)<|Z1 0 M<|Z0<|zX<|zZ<|Za M M<|ZX<|zZ<|Zm M M<|ZF M (yR M M)<|Zm M M<|zQ 5 M (fun hb=>?_) (fun hb=>?_)
 ·replace hb:=Ki hb;refine ZP M<|ZP M<|Zh M<|Za M M<|ZU M M fun w hw=>⟨by congr 2;unfold sgdR;rw[Kf];simp;try omega,(Kk hw).ext⟩
 replace hb:=Kj hb;refine Zv M<|ZG M M M (yC M M)<|Zf M<|Za M M<|ZU M M fun w hw=>⟨by congr 2;unfold sgdR;rw[Kf];simp;try omega,(Kk hw).ext⟩
def SrX (l:List Bs) (g off:Nat) (w:World):Prop:=∀k s,l[k]? = some s→w.cell? ⟨g,off+k,none⟩=some (.string ⟨s.toArray⟩)
theorem SrX.foot {l:List Bs}{g off:Nat}{w w':World}(h:SrX l g off w) (hk:w'.heap[g]? = w.heap[g]?):SrX l g off w':=fun k s hs=>by
 rw[World.cell?_of_block hk];exact h k s hs
theorem wplace_any (l:List Bs) (s:Bs) (g off cap:Nat) (hcp:l.length≤cap) (hbg:cap≤1000000) (w_0:World) (hg:g<w_0.heap.size) (hX:SrX l g off w_0):Calls Tryz.prog 50 #[.slice (some ⟨g,off,none⟩) l.length cap,.string ⟨s.toArray⟩] w_0 fun e w'=>e=.returned (.int .i64 (xB l s))∧Ext w_0 w':=by
 refine zN (args:=[.slice (some ⟨g,off,none⟩) l.length cap,.string ⟨s.toArray⟩]) Tryz.func50 M 19 M (Kh M)<|Z2 0 1 M<|zG (H':=Jy w_0 [] [] (SrX l g off)) (fun u hu=>?_) ?_;subst hu;exact Hp.start ⟨fun k=>k=g,fun k hk=>⟨by rw[hk];exact hg,id⟩,fun u hu=>hX.foot (hu _ M)⟩;refine zX<|zZ<|Za M M<|ZX<|zX<|zZ<|Za M M<|ZT<|zJ<|yF (ι:={i:Nat // i≤l.length∧plcG s (l.drop i) i=xB l s}) (fun i=>[(0,.slice (some ⟨g,off,none⟩) l.length cap),(1,.string ⟨s.toArray⟩),(5,.int .i64 ((i.1:Nat):Int))]) (fun _=>Jy w_0 [] [] (SrX l g off)) (fun i=>l.length-i.1) ⟨0,Ad _,rfl⟩ (O3 M) Jz (fun i=>?_);obtain⟨i,hile,hi⟩:=i;dsimp only;refine zX<|zX<|zZ<|Zm M M<|Zm M M<|ZF M (yK M U59)<|ZF M (yR M M)<|ZT<|zT M (fun h9=>?_) (fun h9=>?_)
 ·replace h9:=Ki h9;obtain⟨x,hx⟩:∃x,l[i]? = some x:=⟨l[i]'(by omega),Kn _⟩
  have hde:l.drop i=x::l.drop (i+1):=by
   obtain⟨h1,h2⟩:=Kg.1 hx;rw[List.drop_eq_getElem_cons h1,h2]
  rw[hde] at hi;have hi:(if x=s then ((i:Nat):Int) else plcG s (l.drop (i+1)) (i+1))=xB l s:=hi;refine zR<|zV<|zX<|zJ<|zX<|Z4r 0 1 5 9 M<|Zm M M<|Zm M M<|ZF M (Zi (j:=i) (es:=1) M M Tryz.underlying59 M (by omega) M) ?_;refine ZF M (zL (v:=.string ⟨x.toArray⟩) M U9 M (fun w hw=>by rw[Nat.mul_one];exact HpG.x hw i x hx)) ?_;refine Zm M M<|ZF M (yZ M M U9)<|ZT<|zT M (fun h17=>?_) (fun h17=>?_)
  ·rw[Ah (Ki h17)] at hi;refine zX<|Z5r 0 1 5 9 17 M<|Zm M M<|Za M M<|ZT<|zK<|zM<|zW<|zW<|zM<|zW<|yY M M fun w hw=>⟨by rw[← hi],(Kk hw).ext⟩
  skip;rw[Ag (Kj h17)] at hi;refine zR<|zH<|zV<|Z5r 0 1 5 9 17 M<|Zm M M<|ZF M (zF M M (i64_in _ (by omega) (by omega)))<|Za M M<|zS ?_;exact yV ⟨i+1,by omega,hi⟩ (by show l.length-(i+1)<l.length-i;omega) (O3 M) Jz
 replace h9:=Kj h9;obtain rfl:i=l.length:=by omega
 rw[List.drop_length] at hi;refine yM<|zP<|zP<|yN<|zV<|zX<|Z4r 0 1 5 9 M<|Za M M<|ZU M M fun w hw=>⟨by rw[← hi];rfl,(Kk hw).ext⟩
end Go.Proofs.YtkaepknpplhgkaaGreatDoor
namespace Go.Proofs.YtkaepknpplhgkaaGreatDoor
open Go.RowKit
def srC (l:List Bs):List Value:=l.map fun s=>.string ⟨s.toArray⟩
structure LnI (s:Bs) (f i:Nat) (out:List Bs):Prop where
 fi:f≤i
 le:i≤s.length
 n:out.length≤f
 no:NoNl ((s.drop f).take (i-f))
 e:xK s=out++xK (s.drop f)
theorem LnI.zero (s:Bs):LnI s 0 0 []:=⟨Ae _,Ad _,Ae _,fun c h=>by simp at h,rfl⟩
theorem take_ext {s:Bs}{f i:Nat}{c:UInt8}(h1:f≤i) (h:s[i]? = some c):(s.drop f).take (i+1-f)=(s.drop f).take (i-f)++[c]:=by
 rw[show i+1-f=(i-f)+1 by omega,List.take_add_one,List.getElem?_drop,show f+(i-f)=i by omega,h];rfl
theorem LnI.on {s:Bs}{f i:Nat}{out:List Bs}{c:UInt8}(h:LnI s f i out) (hc:s[i]? = some c) (h10:c≠10):LnI s f (i+1) out :=
 ⟨by have:=h.fi;omega,(Kg.1 hc).1,h.n,by
  rw[take_ext h.fi hc];intro d hd;rcases Aq.1 hd with hd|hd;exact h.no d hd
  rw[Ar.1 hd];exact h10,h.e⟩
theorem LnI.nl {s:Bs}{f i:Nat}{out:List Bs}(h:LnI s f i out) (hc:s[i]? = some 10):LnI s (i+1) (i+1) (out++[(s.drop f).take (i-f)]):=by
 have hl:=(Kg.1 hc).1;refine⟨Ae _,hl,by have:=h.n;have:=h.fi;rw[Kb];simp;omega,fun c hc=>by simp at hc,?_⟩
 have e:s.drop f=(s.drop f).take (i-f)++10::s.drop (i+1):=by
  have h1:(s.drop f).drop (i-f)=10::s.drop (i+1):=by
   rw[List.drop_drop,show f+(i-f)=i by have:=h.fi;omega];obtain⟨h1,h2⟩:=Kg.1 hc;rw[List.drop_eq_getElem_cons h1,h2]
  rw[← h1,List.take_append_drop]
 rw[h.e,Kv];congr 1;have h2:=linA_app (s.drop (i+1)) h.no;rw[← e] at h2;rw[h2];rfl
theorem LnI.fin {s:Bs}{f:Nat}{out:List Bs}(h:LnI s f s.length out):xK s=out++[s.drop f]:=by
 have e:(s.drop f).take (s.length-f)=s.drop f:=List.take_of_length_le (by rw[Kw];omega);have:=h.no;rw[e] at this;rw[h.e,linA_one this]
def LinPost (s:Bs) (w:World) (e:Ending) (w':World):Prop:=Ext w w'∧∃A cap,e=.returned (.slice A (xK s).length cap)∧Cp (xK s).length cap∧RdF (fun k=>w.heap.size≤k) A (srC (xK s)) w'
theorem sr_row {B:Nat→Prop}{w0 w:World}{L L':List (Nat×Obj)}{X:World→Prop}{A:Option Addr}{cap n:Nat}{xs:List Value}{out:List Bs}(h:Hp B w0 L [⟨.slice A n cap,9,1,n,xs⟩] X w) (hl:L'.Sublist L) (e2:xs=srC out) (e1:n=out.length):Hp B w0 L' [⟨.slice A out.length cap,9,1,out.length,srC out⟩] X w:=by
 subst e1;subst e2;exact Hp.drop h hl (.refl _)
theorem wlines_any (s:Bs) (hs:s.length≤1000000000) (w_0:World):Calls Tryz.prog 46 #[.string ⟨s.toArray⟩] w_0 (LinPost s w_0):=by
 refine zN (args:=[.string ⟨s.toArray⟩]) Tryz.func46 M 31 M (Kh M)<|Z1 0 M<|Z0<|zX<|zZ<|Za M M<|ZX<|zZ<|Za M M<|ZX<|zZ<|Za M M<|ZX<|zX<|zZ<|Za M M<|ZT<|zJ<|yF (ι:={j:(Nat×Nat)×(List Bs×(Option Addr×Nat)) // LnI s j.1.1 j.1.2 j.2.1}) (fun j=>[(0,.string ⟨s.toArray⟩),(3,.slice j.1.2.2.1 j.1.2.1.length j.1.2.2.2),(4,.int .i64 ((j.1.1.1:Nat):Int)),(5,.int .i64 ((j.1.1.2:Nat):Int))]) (fun j=>Jy w_0 [] [⟨.slice j.1.2.2.1 j.1.2.1.length j.1.2.2.2,9,1,j.1.2.1.length,srC j.1.2.1⟩] (fun _=>True)) (fun j=>s.length-j.1.1.2) ⟨((0,0),([],(none,0))),LnI.zero s⟩ (O4 M) (fun w h=>Hp.nil h _ _) (fun j=>?_);obtain⟨⟨⟨f,i⟩,⟨out,⟨A,cap⟩⟩⟩,hj⟩:=j;dsimp only at hj ⊢;have hle:=hj.le;have hfi:=hj.fi;have hn:=hj.n;refine zX<|zX<|zZ<|Zm M M<|Zm M M<|ZF M (wZ M U9)<|ZF M (yR M M)<|ZT<|zT M (fun h9=>?_) (fun h9=>?_)
 ·replace h9:=Ki h9;obtain⟨c,hc⟩:∃c,s[i]? = some c:=⟨s[i]'(by omega),Kn _⟩;refine zR<|zV<|zX<|zJ<|zX<|Z5r 0 3 4 5 9 M<|Zm M M<|Zm M M<|ZF M (xX M M U9 M hc)<|Ze M<|ZT<|zT M (fun h15=>?_) (fun h15=>?_)
  ·replace h15:=Kq h15;obtain rfl:c=10:=(xC 10).2 h15;have hst:=hj.nl hc;refine zX<|Z6r 0 3 4 5 9 15 M<|Zm M M<|Zm M M<|Zm M M<|Zm M M<|ZF M (rE M M M U9 (by omega) (by omega) (by omega) M)<|Zs (z:=Jg) M U59 fun b21=>wl_append (z:=Jg) (bytes:=16) 0 0 .none M M M M M U59 (by kernel_rfl) M M M M M (by omega) (by omega) fun a22 c22=>Za M M<|ZT<|Z6r 0 3 4 5 9 15 M<|Zm M M<|ZF M (zF M M (i64_in _ (by omega) (by omega)))<|Za M M<|zS<|zH<|zV<|Z6r 0 3 4 5 9 15 M<|Zm M M<|ZF M (zF M M (i64_in _ (by omega) (by omega)))<|Za M M<|zS ?_;exact yV ⟨((i+1,i+1),(out++[(s.drop f).take (i-f)],(some ⟨a22,0,none⟩,c22))),hst⟩ (by show s.length-(i+1)<s.length-i;omega) (.cons rfl<|.consE rfl (by dsimp only;rw[Kb];rfl)<|.cons rfl<|.cons rfl<|.nil) (fun w h=>sr_row h (by first|exact .refl _|exact .cons _ (.refl _)) (by simp[srC]) (by rw[Kb];rfl))
  replace h15:=yT h15;have hst:=hj.on hc (fun h=>h15 ((xC 10).1 h));refine zR<|zH<|zV<|Z6r 0 3 4 5 9 15 M<|Zm M M<|ZF M (zF M M (i64_in _ (by omega) (by omega)))<|Za M M<|zS ?_;exact yV ⟨((f,i+1),(out,(A,cap))),hst⟩ (by show s.length-(i+1)<s.length-i;omega) (O4 M) Jz
 replace h9:=Kj h9;obtain rfl:i=s.length:=by omega
 have hfin:=hj.fin;refine yM<|zP<|zP<|yN<|zV<|zX<|Z5r 0 3 4 5 9 M<|Zm M M<|Zm M M<|Zm M M<|ZF M (rD M M U9 (by omega) (by omega) M)<|Zs (z:=Jg) M U59 fun b29=>wl_append (z:=Jg) (bytes:=16) 0 0 .none M M M M M U59 (by kernel_rfl) M M M M M (by omega) (by omega) fun a30 c30=>Za M M<|ZU M M (fun w hw=>?_);unfold LinPost;rw[hfin];refine⟨(Kk hw).ext,some ⟨a30,0,none⟩,c30,?_,?_,?_⟩;rw[Kb];rfl
 ·have:=HpG.rowCp (j:=0) hw rfl;rw[Kb];exact this
 have:=HpG.rowF (j:=0) hw rfl;have e:srC (out++[s.drop f])=srC out++[.string ⟨(s.drop f).toArray⟩]:=by simp[srC]
 rw[e];exact this
end Go.Proofs.YtkaepknpplhgkaaGreatDoor
namespace Go.Proofs.YtkaepknpplhgkaaGreatDoor
open Go.RowKit
theorem splA_one:∀{x:List ATk},(∀t∈x,comT t=false)→tP x=[x]
 | [],_=>rfl
 | t::r,h=>by
  rw[tP,splA_one fun u hu=>h u (Ky _ hu)];dsimp only;rw[Ag (by rw[h t (Ks ..)];simp)]
theorem splA_app {c:ATk}(hc:comT c=true) (y:List ATk):∀{x:List ATk},(∀t∈x,comT t=false)→tP (x++c::y)=x::tP y
 | [],_=>by rw[List.nil_append,tP,Ah hc]
 | t::r,h=>by
  rw[List.cons_append,tP,splA_app hc y fun u hu=>h u (Ky _ hu)];dsimp only;rw[Ag (by rw[h t (Ks ..)];simp)]
def prtL (l:List ATk) (ps:List (Nat×Nat)):List (List ATk):=ps.map fun p=>(l.drop p.1).take p.2
structure SpI2 (l:List ATk) (f i:Nat) (out:List (Nat×Nat)):Prop where
 fi:f≤i
 le:i≤l.length
 n:out.length≤f
 bd:∀p∈out,p.1+p.2≤l.length
 no:∀t∈(l.drop f).take (i-f),comT t=false
 e:tP l=prtL l out++tP (l.drop f)
theorem SpI2.zero (l:List ATk):SpI2 l 0 0 []:=⟨Ae _,Ad _,Ae _,fun p h=>(by cases h),fun t h=>by simp at h,rfl⟩
theorem SpI2.on {l:List ATk}{f i:Nat}{out:List (Nat×Nat)}{c:ATk}(h:SpI2 l f i out) (hc:l[i]? = some c) (h10:comT c=false):SpI2 l f (i+1) out :=
 ⟨by have:=h.fi;omega,(Kg.1 hc).1,h.n,h.bd,by
  have e:(l.drop f).take (i+1-f)=(l.drop f).take (i-f)++[c]:=by
   have:=h.fi;rw[show i+1-f=(i-f)+1 by omega,List.take_add_one,List.getElem?_drop,show f+(i-f)=i by omega,hc];rfl
  rw[e];intro d hd;rcases Aq.1 hd with hd|hd;exact h.no d hd
  rw[Ar.1 hd];exact h10,h.e⟩
theorem SpI2.com {l:List ATk}{f i:Nat}{out:List (Nat×Nat)}{c:ATk}(h:SpI2 l f i out) (hc:l[i]? = some c) (h10:comT c=true):SpI2 l (i+1) (i+1) (out++[(f,i-f)]):=by
 have hl:=(Kg.1 hc).1;have hfi:=h.fi;refine⟨Ae _,hl,by have:=h.n;rw[Kb];simp;omega,fun p hp=>?_,fun t ht=>by simp at ht,?_⟩
 ·rcases Aq.1 hp with hp|hp;exact h.bd p hp;rw[Ar.1 hp];show f+(i-f)≤l.length;omega
 have e:l.drop f=(l.drop f).take (i-f)++c::l.drop (i+1):=by
  have h1:(l.drop f).drop (i-f)=c::l.drop (i+1):=by
   rw[List.drop_drop,show f+(i-f)=i by omega];obtain⟨h1,h2⟩:=Kg.1 hc;rw[List.drop_eq_getElem_cons h1,h2]
  rw[← h1,List.take_append_drop]
 have h2:=splA_app h10 (l.drop (i+1)) h.no;rw[← e] at h2;rw[h.e,h2];unfold prtL;rw[List.map_append,Kv];rfl
theorem SpI2.fin {l:List ATk}{f:Nat}{out:List (Nat×Nat)}(h:SpI2 l f l.length out):tP l=prtL l (out++[(f,l.length-f)])∧∀p∈out++[(f,l.length-f)],p.1+p.2≤l.length:=by
 have hfi:=h.fi;have e:(l.drop f).take (l.length-f)=l.drop f:=List.take_of_length_le (by rw[Kw];omega);have hn:=h.no;rw[e] at hn;refine⟨?_,fun p hp=>?_⟩
 ·rw[h.e,splA_one hn];unfold prtL;rw[List.map_append];show _=_++[(l.drop f).take (l.length-f)];rw[e]
 rcases Aq.1 hp with hp|hp;exact h.bd p hp;rw[Ar.1 hp];show f+(l.length-f)≤l.length;omega
end Go.Proofs.YtkaepknpplhgkaaGreatDoor
namespace Go.Proofs.YtkaepknpplhgkaaGreatDoor
open Go.RowKit
def tksR (l:List ATk):List Value:=l.flatMap tkR
theorem tksR_len (l:List ATk):(tksR l).length=l.length*3:=by
 induction l with
 | nil=>rfl
 | cons t l ih =>
  have e:tksR (t::l)=tkR t++tksR l:=rfl;rw[e,Kb,ih];simp;omega
theorem tksR_one (l:List ATk) (t:ATk):tksR (l++[t])=tksR l++tkR t:=by simp[tksR]
theorem cut_split (s:Bs):∃r,s=xM s++r∧(r=[]∨∃t,r=59::t):=by
 refine⟨s.dropWhile (fun c=>!decide (c=59)),(List.takeWhile_append_dropWhile).symm,?_⟩
 induction s with
 | nil=>exact .inl rfl
 | cons c s ih =>
  by_cases h:c=59
  subst h;exact .inr ⟨s,rfl⟩;rw[List.dropWhile_cons,Ah (by simp[h])];exact ih
theorem cut_at {s:Bs}{i:Nat}{c:UInt8}(h:(xM s)[i]? = some c):s[i]? = some c∧c≠59:=by
 obtain⟨r,h1,_⟩:=cut_split s;refine⟨by rw[h1,List.getElem?_append_left (Kg.1 h).1];exact h,fun e=>?_⟩;have:=Ko h;unfold xM at this
 have h2:(!decide (c=59))=true:=by
  clear h h1
  induction s with
  | nil=>cases this
  | cons x s ih =>
   rw[List.takeWhile_cons] at this
   split at this
   ·next hx =>
    rcases List.mem_cons.1 this with rfl|this;exact hx;exact ih this
   ·cases this
 rw[e] at h2;exact absurd h2 (by decide)
theorem cut_end {s:Bs}:s[(xM s).length]? = none∨s[(xM s).length]? = some 59:=by
 obtain⟨r,h1,h2⟩:=cut_split s;generalize xM s=t at h1;subst h1;rw[List.getElem?_append_right (Ae _),Nat.sub_self];rcases h2 with rfl|⟨t,rfl⟩;exact .inl rfl;exact .inr rfl
theorem cut_le (s:Bs):(xM s).length≤s.length:=(List.takeWhile_sublist _).length_le
theorem cut_no {s:Bs}{i:Nat}{c:UInt8}(h:s[i]? = some c) (hi:i≤(xM s).length) (hc:c≠59):i<(xM s).length:=by
 rcases Nat.lt_or_eq_of_le hi with h1|h1;exact h1;subst h1;rcases cut_end (s:=s) with h2|h2<;>rw[h2] at h<;>cases h;exact absurd M hc
theorem whB_cut {q:Nat→Bool}(hq:q 59=false) {s:Bs}{i:Nat}(hi:i≤(xM s).length):whB q s i=whB q (xM s) i:=by
 obtain⟨r,h1,h2⟩:=cut_split s;show (s.drop i).takeWhile _=((xM s).drop i).takeWhile _
 have e:s.drop i=(xM s).drop i++r:=by
  conv=>lhs;rw[h1]
  rw[List.drop_append_of_le_length hi]
 rw[e];generalize (xM s).drop i=a
 induction a with
 | nil =>
  rcases h2 with rfl|⟨t,rfl⟩;rfl;rw[List.nil_append,List.takeWhile_cons,Ag (by rw[show (59:UInt8).toNat=59 from rfl,hq];simp)];rfl
 | cons c a ih =>
  rw[List.cons_append,List.takeWhile_cons,List.takeWhile_cons,ih]

theorem valR_neg {s:Bs}(h:oR s<0):pJ s=.error 20:=by
 unfold oR at h
 cases hn:pJ s with
 | ok n=>rw[hn] at h;dsimp only at h;omega
 | error e =>
  rw[hn] at h;dsimp only at h;rcases numA_err hn with rfl|rfl;rfl;rw[Ah rfl] at h;omega
theorem valR_big {s:Bs}(h:4294967296≤oR s):pJ s=.error 24:=by
 unfold oR at h
 cases hn:pJ s with
 | ok n=>rw[hn] at h;have:=numA_ltR hn;dsimp only at h;omega
 | error e =>
  rw[hn] at h;dsimp only at h;rcases numA_err hn with rfl|rfl;rw[Ag (by decide)] at h;omega;rfl
theorem valR_ok {s:Bs}(h:¬oR s<0) (h2:¬4294967296≤oR s):∃n,pJ s=.ok n∧oR s=(n:Nat)∧n<4294967296:=by
 unfold oR at h h2 ⊢
 cases hn:pJ s with
 | ok n=>exact⟨n,rfl,rfl,numA_ltR hn⟩
 | error e =>
  rw[hn] at h h2;dsimp only at h h2
  split at h2
  omega
  ·next h3=>rw[Ag h3] at h;omega
abbrev lxO (A:Option Addr) (n cap:Nat) (e:Int):Obj:=bk 115 [.slice A n cap,.int .i64 e]
def RLxPost (w_0:World) (s:Bs) (e:Ending) (w':World):Prop:=Ext w_0 w'∧match rN s with
 | .ok l=>∃A cap,e=.returned (.agg #[.slice A l.length cap,.int .i64 0])∧Cp l.length cap∧RdF (fun k=>w_0.heap.size≤k) A (tksR l) w'
 | .error c=>e=.returned (.agg #[.slice none 0 0,.int .i64 c])
abbrev rwK (A:Option Addr) (cap:Nat) (out:List ATk):Rw:=⟨.slice A out.length cap,190,3,out.length,tksR out⟩
theorem wlex_any (s:Bs) (hs:s.length≤2000000) (w_0:World):Calls Tryz.prog 47 #[.string ⟨s.toArray⟩] w_0 (RLxPost w_0 s):=by
 have hsc:(xM s).length≤s.length:=cut_le s;have hlx:rN s=vV (xM s):=rfl;unfold RLxPost;rw[hlx];generalize hres:vV (xM s)=res;refine zN (args:=[.string ⟨s.toArray⟩]) Tryz.func47 M 161 M (Kh M)<|Z1 0 M<|Z0<|zX<|zZ<|Zt (z:=Jh) (cs:=Js) M fun b2=>ZX<|zZ<|ZF M (Zb [.slice none 0 0,.int .i64 0] [(0,1),(1,1)] M)<|Zt (z:=Jh) (cs:=Js) M fun b3=>ZR 0 M<|ZX<|zX<|Z3r 0 2 3 M<|Za M M<|ZT<|zJ<|yF (ι:={j:(Nat×List ATk)×(Option Addr×Nat) // LxI (xM s) j.1.1 j.1.2∧j.1.2.length≤j.2.2}) (fun j=>[(0,.string ⟨s.toArray⟩),(2,Jx b2),(3,Jx b3),(4,.int .i64 ((j.1.1.1:Nat):Int))]) (fun j=>Jy w_0 [(b3,lxO j.1.2.1 j.1.1.2.length j.1.2.2 0),(b2,lxO none 0 0 0)] [rwK j.1.2.1 j.1.2.2 j.1.1.2] (fun _=>True)) (fun j=>(xM s).length-j.1.1.1) ⟨((0,[]),(none,0)),LxI.zero _,Ae _⟩ (O4 M) (fun w h=>Hp.nil h _ _) (fun j=>?_);obtain⟨⟨⟨i,out⟩,⟨A,cap⟩⟩,⟨hi,hcap⟩⟩:=j;dsimp only at hi hcap ⊢;have hile:=hi.le;have hn:=hi.n;refine zX<|zX<|zZ<|Zm M M<|Zm M M<|ZF M (wZ M U9)<|ZF M (yR M M)<|Zm M M<|zQ 13 M (fun g3=>?_) (fun g3=>?_)
 ·replace g3:=Ki g3;skip;obtain⟨c,hcs⟩:∃c,s[i]? = some c:=⟨s[i]'(by omega),Kn _⟩;refine Zv M<|Zv M<|ZG M M M (xX M M U9 M hcs)<|ZG M M M (xF M M)<|Zh M<|ZT<|zT M (fun h18=>?_) (fun h18=>?_)
  ·replace h18:=xD h18;have hil:=cut_no hcs hile (fun e=>h18 ((xC 59).1 e))
   obtain⟨r,hcr⟩:∃r,(xM s).drop i=c::r:=by
    have h1:(xM s)[i]? = some ((xM s)[i]'hil):=Kn _;have h2:=(cut_at h1).1;rw[hcs] at h2;cases h2;exact⟨_,List.drop_eq_getElem_cons hil⟩
   have hlen:(c::r).length+i=(xM s).length:=by rw[← hcr,Kw];omega
   have hlc:=nO c r;have hcl:=UInt8.toNat_lt c;refine zR<|zV<|zJ<|zX<|Z5r 0 2 3 4 18 M<|Zm M M<|Zm M M<|ZF M (xX M M U9 M hcs)<|Za M M<|ZX<|Z6r 0 2 3 4 5 18 M<|Zm M M<|ZF M (zF M M (i64_in _ (by omega) (by omega)))<|Za M M<|ZX<|zB (ι:={x:Bool // x=true↔c=32∨c=9}) (fun x=>[(0,.string ⟨s.toArray⟩),(2,Jx b2),(3,Jx b3),(4,.int .i64 ((i:Nat):Int)),(5,.int .u8 c.toNat),(6,.int .i64 ((i+1:Nat):Int)),(29,.bool x.1)]) (fun _=>Jy w_0 [(b3,lxO A out.length cap 0),(b2,lxO none 0 0 0)] [rwK A cap out] (fun _=>True)) ?_ (fun x=>?_)
   ·refine Z7r 0 2 3 4 5 6 18 M<|Zm M M<|Ze M<|Zm M M<|zQ 26 M (fun g6=>?_) (fun g6=>?_)
    ·replace g6:=Kq g6;refine ZP M<|ZP M<|Zh M<|zS ?_;exact zU ⟨true,⟨fun _=>.inl ((xC 32).2 g6),fun _=>rfl⟩⟩ (O7 M) Jz
    replace g6:=yT g6;refine Zv M<|Zx M<|Zf M<|zS ?_;exact zU ⟨_,⟨fun h=>.inr ((xC 9).2 (Kq h)),fun h=>Am.2 (h.elim (fun h=>absurd ((xC 32).1 h) g6) fun h=>(xC 9).1 h)⟩⟩ (O7 M) Jz
   obtain⟨x,hx⟩:=x;dsimp only;refine zT M (fun h29=>?_) (fun h29=>?_)
   ·rw[Ah (hx.1 h29)] at hlc;have hst:LxI (xM s) (i+1) (out++[]):=hi.step (k:=1) (t:=[]) (by omega) (Ad _) (by rw[hcr,hlc];show vV r=yG (vV r) _;cases vV r<;>rfl);rw[Al] at hst;refine zX<|zZ<|Zm M M<|Za M M<|ZT<|yM<|zP<|yN ?_;exact yV ⟨((i+1,out),(A,cap)),hst,hcap⟩ (by show (xM s).length-(i+1)<(xM s).length-i;omega) (O4 M) Jz
   skip;rw[Ag (fun h=>by rw[hx.2 h] at h29;cases h29)] at hlc;refine zR<|zV<|zX<|zB (ι:={x:Bool // x=true↔sR c=true∨c=95∨c=46}) (fun x=>[(0,.string ⟨s.toArray⟩),(2,Jx b2),(3,Jx b3),(4,.int .i64 ((i:Nat):Int)),(5,.int .u8 c.toNat),(6,.int .i64 ((i+1:Nat):Int)),(40,.bool x.1)]) (fun _=>Jy w_0 [(b3,lxO A out.length cap 0),(b2,lxO none 0 0 0)] [rwK A cap out] (fun _=>True)) ?_ (fun x=>?_)
   ·refine zZ<|Zm M M<|Zu (v:=.bool (rY c.toNat)) M (fun w hw=>pG _ w)<|Zm M M<|zQ 33 M (fun g8=>?_) (fun g8=>?_)
    ·refine ZP M<|ZP M<|Zh M<|Zm M M<|ZP M<|ZP M<|Zh M<|zS ?_;exact zU ⟨true,⟨fun _=>.inl g8,fun _=>rfl⟩⟩ (O7 M) Jz
    skip;refine Zv M<|Zx M<|Zf M<|Zm M M<|zQ 37 M (fun g87=>?_) (fun g87=>?_)
    ·replace g87:=Kq g87;refine ZP M<|ZP M<|Zh M<|zS ?_;exact zU ⟨true,⟨fun _=>.inr (.inl ((xC 95).2 g87)),fun _=>rfl⟩⟩ (O7 M) Jz
    replace g87:=yT g87;refine Zv M<|Zx M<|Zf M<|zS ?_;exact zU ⟨_,⟨fun h=>.inr (.inr ((xC 46).2 (Kq h))),fun h=>Am.2 (h.elim (fun h=>by rw[show sR c=rY c.toNat from rfl,g8] at h;cases h) fun h=>h.elim (fun h=>absurd ((xC 95).1 h) g87) fun h=>(xC 46).1 h)⟩⟩ (O7 M) Jz
   obtain⟨y,hy⟩:=x;dsimp only;refine zT M (fun h40=>?_) (fun h40=>?_)
   ·rw[Ah (hy.1 h40)] at hlc
    have hcw:qR c.toNat=true:=by
     rw[← worB_q];unfold wF;rcases hy.1 h40 with h|h|h;rw[h];rfl;subst h;rfl;subst h;rfl
    have hwt:whB qR s i=(c::r).takeWhile wF:=by rw[whB_cut (by decide) hile,worB_fun];show ((xM s).drop i).takeWhile _=_;rw[hcr]
    have h0:(s.drop i)[0]? = some c:=by rw[List.getElem?_drop];exact hcs
    refine zX<|zJ<|yF (ι:={p:Nat // SpI qR (s.drop i) p∧1≤p}) (fun p=>[(0,.string ⟨s.toArray⟩),(2,Jx b2),(3,Jx b3),(4,.int .i64 ((i:Nat):Int)),(6,.int .i64 ((i+p.1:Nat):Int))]) (fun _=>Jy w_0 [(b3,lxO A out.length cap 0),(b2,lxO none 0 0 0)] [rwK A cap out] (fun _=>True)) (fun p=>s.length-p.1) ⟨1,SpI.step (p:=0) ⟨Ad _,fun _ _ h=>absurd h (by omega)⟩ h0 hcw,Ae _⟩ (O5 M) Jz (fun p=>?_);obtain⟨p,hp,hp1⟩:=p;dsimp only;have hple:i+p≤s.length:=by have:=hp.le;rw[Kw] at this;omega
    refine zX<|zB (ι:={x:Bool // x=true↔∃d,(s.drop i)[p]? = some d∧qR d.toNat=true}) (fun x=>[(0,.string ⟨s.toArray⟩),(2,Jx b2),(3,Jx b3),(4,.int .i64 ((i:Nat):Int)),(6,.int .i64 ((i+p:Nat):Int)),(68,.bool x.1)]) (fun _=>Jy w_0 [(b3,lxO A out.length cap 0),(b2,lxO none 0 0 0)] [rwK A cap out] (fun _=>True)) ?_ (fun x=>?_)
    ·refine zZ<|Zm M M<|Zm M M<|ZF M (wZ M U9)<|ZF M (yR M M)<|Zm M M<|zQ 45 M (fun hb=>?_) (fun hb=>?_)
     ·replace hb:=Ki hb;skip;obtain⟨d,hd⟩:∃d,s[i+p]? = some d:=⟨s[i+p]'(by omega),Kn _⟩;have hdd:(s.drop i)[p]? = some d:=by rw[List.getElem?_drop];exact hd
      refine Zv M<|Zv M<|ZG M M M (xX M M U9 M hd)<|xW (.some M M) M  (v:=.bool (rY d.toNat)) (by kernel_rfl) M (fun w hw=>pG _ w)<|Zv M<|zQ 50 M (fun g1=>?_) (fun g1=>?_)
      ·refine ZP M<|ZP M<|ZP M<|ZP M<|ZG M M M (yA M M)<|Zv M<|ZP M<|ZP M<|ZP M<|ZP M<|ZG M M M (yA M M)<|Zv M<|ZP M<|ZP M<|ZP M<|ZP M<|ZG M M M (yA M M)<|Zh M<|zS ?_;exact zU ⟨true,⟨fun _=>⟨d,hdd,by unfold qR;rw[g1];rfl⟩,fun _=>rfl⟩⟩ (O6 M) Jz
      skip;refine Zv M<|Zv M<|ZG M M M (xX M M U9 M hd)<|xW (.some M M) M  (v:=.bool (uM d.toNat)) (by kernel_rfl) M (fun w hw=>qD _ w)<|ZG M M M (yD M M)<|Zv M<|zQ 56 M (fun g2=>?_) (fun g2=>?_)
      ·refine ZP M<|ZP M<|ZP M<|ZP M<|ZG M M M (yA M M)<|Zv M<|ZP M<|ZP M<|ZP M<|ZP M<|ZG M M M (yA M M)<|Zh M<|zS ?_;exact zU ⟨true,⟨fun _=>⟨d,hdd,by unfold qR;rw[g2];simp⟩,fun _=>rfl⟩⟩ (O6 M) Jz
      skip;refine Zv M<|Zv M<|ZG M M M (xX M M U9 M hd)<|Zx M<|ZG M M M (yD M M)<|Zv M<|zQ 62 M (fun g4=>?_) (fun g4=>?_)
      ·replace g4:=Kq g4;refine ZP M<|ZP M<|ZP M<|ZP M<|ZG M M M (yA M M)<|Zh M<|zS ?_;exact zU ⟨true,⟨fun _=>⟨d,hdd,by unfold qR;rw[An (show d.toNat=95 by omega)];simp⟩,fun _=>rfl⟩⟩ (O6 M) Jz
      replace g4:=yT g4;refine Zv M<|Zv M<|ZG M M M (xX M M U9 M hd)<|Zx M<|ZG M M M (yD M M)<|Zh M<|zS ?_
      exact zU ⟨_,⟨fun h=>⟨d,hdd,by unfold qR;rw[An (show d.toNat=46 by have:=Kq h;omega)];simp⟩,fun ⟨x,h1,h2⟩=>by
        rw[hdd] at h1;cases h1;unfold qR at h2;rw[g1,g2,Ao (show ¬d.toNat=95 by omega)] at h2
        exact Am.2 (by have:d.toNat=46:=(by simpa using h2);omega)⟩⟩ (O6 M) Jz
     replace hb:=Kj hb;refine ZP M<|ZP M<|ZP M<|ZP M<|ZP M<|zE M M M<|zE M M M<|zE M M M<|zE M M M<|ZP M<|ZP M<|zE M M M<|zE M M M<|zE M M M<|zE M M M<|ZP M<|ZP M<|zE M M M<|zE M M M<|zE M M M<|zE M M M<|ZP M<|Zf M<|zS ?_;exact zU ⟨false,⟨fun h=>(by cases h),fun ⟨x,h1,_⟩=>by have:=(Kg.1 h1).1;rw[Kw] at this;omega⟩⟩ (O6 M) Jz
    obtain⟨x,hx9⟩:=x;dsimp only;refine zT M (fun h68=>?_) (fun h68=>?_)
    ·obtain⟨d,hd,hdq⟩:=hx9.1 h68;have hps:=hp.step hd hdq;have hpl:i+p+1≤s.length:=by have:=hps.le;rw[Kw] at this;omega
     refine zR<|zV<|zJ<|zZ<|Zm M M<|ZF M (zF M M (i64_in _ (by omega) (by omega)))<|Za M M<|zS<|zH ?_;exact yV ⟨p+1,hps,by omega⟩ (by show s.length-(p+1)<s.length-p;omega) (O5 M) Jz
    skip;have hwh:whB qR s i=(s.drop i).take p:=SpI.take (hp.end hx9 (by rw[h68];simp));have hwl:(whB qR s i).length=p:=by rw[hwh,Aa,Kw];omega
    have hw2:=(List.takeWhile_sublist (p:=wF) (l:=c::r)).length_le;rw[hwt] at hwh hwl;have hst:LxI (xM s) (i+p) (out++[⟨119,(c::r).takeWhile wF,0⟩]):=hi.step (k:=p) (t:=[⟨119,(c::r).takeWhile wF,0⟩]) (by omega) hp1 (by rw[hcr,hlc,hwl];rfl);refine yM<|zP<|zP<|yN<|zV<|zX<|uY 8 [0,1,2,3,4,5,6,7] (Blk b3 (lxO A out.length cap 0)) (by kernel_rfl) (by kernel_rfl) Blk.stab (fun w h=>HpG.blk h (k:=0) M) (fun n0 hn0=>?_);refine Zd M M M (Y115x0 M) ?_;refine Zd M M M (zL M U113 M (fun w hw=>Blk.cell hw M))<|Zd M M M (yW M)<|Zd M M M (yW M)<|Zd M M M (yW M)<|Zd M M M (rE M M M U9 (by omega) (by omega) (by omega) (show (s.drop i).take (i+p-i)=(c::r).takeWhile wF by rw[Nat.add_sub_cancel_left];exact hwh.symm)) ?_;refine Zd M M M (Zb [.int .i64 0,.string ⟨#[]⟩,.int .u32 0] [(0,1),(1,1),(2,1)] M)<|vP M<|wd_newH ?_ .none M (fun k hk=>Kr hk hn0) (nf_bs1 (z:=.agg #[.int .i64 0,.string ⟨#[]⟩,.int .u32 0]) M M U113 (by kernel_rfl) (by kernel_rfl) M M) (fun b78 hb78=>?_);rfl;refine uE ?_;simp only[Kt,Kx];refine wN (z:=.agg #[.int .i64 0,.string ⟨#[]⟩,.int .u32 0]) (bytes:=32) 0 0 .none M M M M M U113 (by kernel_rfl) M M M M M (by omega) (by omega) fun a79 c79 h79=>ZF M (Y115x0 M) ?_;refine ZS 1 M<|ZX<|Z6r 0 2 3 4 6 68 M<|Zm M M<|Za M M<|ZT<|yM<|zP<|yN<|yV ⟨((i+p,out++[⟨119,(c::r).takeWhile wF,0⟩]),(some ⟨a79,0,none⟩,c79)),hst,by rw[Kb];exact h79⟩ (by show (xM s).length-(i+p)<(xM s).length-i;omega) (O4 M) (fun w h=>?_);dsimp only;rw[Kb];unfold rwK;rw[tksR_one,Kb];exact Hp.drop h (.cons _ (.refl _)) (.refl _)
   skip;rw[Ag (fun h=>by rw[hy.2 h] at h40;cases h40)] at hlc;refine zR<|zV<|zX<|zX<|zZ<|Zm M M<|Zu (v:=.bool (uM c.toNat)) M (fun w hw=>qD _ w)<|ZT<|zT M (fun h83=>?_) (fun h83=>?_)
   ·rw[Ah (show vU c=true from h83)] at hlc;have hcw:alnQ c.toNat=true:=by unfold alnQ;rw[h83];simp
    have hwt:whB alnQ s i=(c::r).takeWhile tZ:=by rw[whB_cut (by decide) hile,alnB_fun];show ((xM s).drop i).takeWhile _=_;rw[hcr]
    have h0:(s.drop i)[0]? = some c:=by rw[List.getElem?_drop];exact hcs
    refine zX<|zJ<|yF (ι:={p:Nat // SpI alnQ (s.drop i) p∧1≤p}) (fun p=>[(0,.string ⟨s.toArray⟩),(2,Jx b2),(3,Jx b3),(4,.int .i64 ((i:Nat):Int)),(6,.int .i64 ((i+p.1:Nat):Int))]) (fun _=>Jy w_0 [(b3,lxO A out.length cap 0),(b2,lxO none 0 0 0)] [rwK A cap out] (fun _=>True)) (fun p=>s.length-p.1) ⟨1,SpI.step (p:=0) ⟨Ad _,fun _ _ h=>absurd h (by omega)⟩ h0 hcw,Ae _⟩ (O5 M) Jz (fun p=>?_);obtain⟨p,hp,hp1⟩:=p;dsimp only;have hple:i+p≤s.length:=by have:=hp.le;rw[Kw] at this;omega
    refine zX<|zB (ι:={x:Bool // x=true↔∃d,(s.drop i)[p]? = some d∧alnQ d.toNat=true}) (fun x=>[(0,.string ⟨s.toArray⟩),(2,Jx b2),(3,Jx b3),(4,.int .i64 ((i:Nat):Int)),(6,.int .i64 ((i+p:Nat):Int)),(99,.bool x.1)]) (fun _=>Jy w_0 [(b3,lxO A out.length cap 0),(b2,lxO none 0 0 0)] [rwK A cap out] (fun _=>True)) ?_ (fun x=>?_)
    ·refine zZ<|Zm M M<|Zm M M<|ZF M (wZ M U9)<|ZF M (yR M M)<|Zm M M<|zQ 88 M (fun hb=>?_) (fun hb=>?_)
     ·replace hb:=Ki hb;skip;obtain⟨d,hd⟩:∃d,s[i+p]? = some d:=⟨s[i+p]'(by omega),Kn _⟩;have hdd:(s.drop i)[p]? = some d:=by rw[List.getElem?_drop];exact hd
      refine Zv M<|Zv M<|ZG M M M (xX M M U9 M hd)<|xW (.some M M) M  (v:=.bool (rY d.toNat)) (by kernel_rfl) M (fun w hw=>pG _ w)<|Zv M<|zQ 93 M (fun g1=>?_) (fun g1=>?_)
      ·refine ZP M<|ZP M<|ZP M<|ZP M<|ZG M M M (yA M M)<|Zh M<|zS ?_;exact zU ⟨true,⟨fun _=>⟨d,hdd,by unfold alnQ;rw[g1];rfl⟩,fun _=>rfl⟩⟩ (O6 M) Jz
      skip;refine Zv M<|Zv M<|ZG M M M (xX M M U9 M hd)<|xW (.some M M) M  (v:=.bool (uM d.toNat)) (by kernel_rfl) M (fun w hw=>qD _ w)<|ZG M M M (yD M M)<|Zh M<|zS ?_
      exact zU ⟨uM d.toNat,⟨fun h=>⟨d,hdd,by unfold alnQ;rw[h];simp⟩,fun ⟨x,h1,h2⟩=>by
        rw[hdd] at h1;cases h1;unfold alnQ at h2;rw[g1] at h2
        simpa using h2⟩⟩ (O6 rfl) Jz
     replace hb:=Kj hb;refine ZP M<|ZP M<|ZP M<|ZP M<|ZP M<|zE M M M<|zE M M M<|zE M M M<|zE M M M<|ZP M<|Zf M<|zS ?_;exact zU ⟨false,⟨fun h=>(by cases h),fun ⟨x,h1,_⟩=>by have:=(Kg.1 h1).1;rw[Kw] at this;omega⟩⟩ (O6 M) Jz
    obtain⟨x,hx9⟩:=x;dsimp only;refine zT M (fun h99=>?_) (fun h99=>?_)
    ·obtain⟨d,hd,hdq⟩:=hx9.1 h99;have hps:=hp.step hd hdq;have hpl:i+p+1≤s.length:=by have:=hps.le;rw[Kw] at this;omega
     refine zR<|zV<|zJ<|zZ<|Zm M M<|ZF M (zF M M (i64_in _ (by omega) (by omega)))<|Za M M<|zS<|zH ?_;exact yV ⟨p+1,hps,by omega⟩ (by show s.length-(p+1)<s.length-p;omega) (O5 M) Jz
    skip;have hwh:whB alnQ s i=(s.drop i).take p:=SpI.take (hp.end hx9 (by rw[h99];simp));have hwl:(whB alnQ s i).length=p:=by rw[hwh,Aa,Kw];omega
    have hw2:=(List.takeWhile_sublist (p:=tZ) (l:=c::r)).length_le;rw[hwt] at hwh hwl;have hbad:=@LxI.bad (xM s) i out;rw[hcr,hlc] at hbad;have hstep:=fun t=>hi.step (k:=p) (t:=t);rw[hcr,hlc,hwl] at hstep;obtain⟨W,hW⟩:∃W,W=(c::r).takeWhile tZ:=⟨_,rfl⟩;rw[← hW] at hwh hbad hstep hw2 hwl;refine yM<|zP<|zP<|yN<|zV<|zX<|zZ<|Zm M M<|Zm M M<|Zm M M<|ZF M (rE M M M U9 (by omega) (by omega) (by omega) (show (s.drop i).take (i+p-i)=W by rw[Nat.add_sub_cancel_left];exact hwh.symm)) ?_;refine Zu (v:=.int .i64 (oR W)) M (fun w hw=>wvalue_any W (by omega) w)<|Za M M<|ZX<|zX<|Z7r 0 2 3 4 6 7 99 M<|Zm M M<|ZF M (yR M M)<|ZT<|zT M (fun h108=>?_) (fun h108=>?_)
    ·replace h108:=Ki h108;have hr:=hbad hi (e:=20) (by rw[valR_neg h108];rfl);refine zX<|Z8r 0 2 3 4 6 7 99 108 M<|ZF M (Zb [.slice none 0 0,.int .i64 0] [(0,1),(1,1)] M)<|ZR 1 M<|ZT<|zK<|zW<|zW<|zM<|zW<|zM<|zW<|yS M M 1 M U115 M (by kernel_rfl) (fun w hw=>?_);rw[hr] at hres;subst hres;exact⟨(Kk hw).ext,rfl⟩
    replace h108:=Kj h108;refine zR<|zV<|zX<|zX<|Z8r 0 2 3 4 6 7 99 108 M<|Zm M M<|ZF M (yC M M)<|ZT<|zT M (fun h111=>?_) (fun h111=>?_)
    ·replace h111:=Ki h111;have hr:=hbad hi (e:=24) (by rw[valR_big h111];rfl);refine zX<|Z9r 0 2 3 4 6 7 99 108 111 M<|ZF M (Zb [.slice none 0 0,.int .i64 0] [(0,1),(1,1)] M)<|ZR 1 M<|ZT<|zK<|zW<|zW<|zM<|zW<|zM<|zW<|yS M M 1 M U115 M (by kernel_rfl) (fun w hw=>?_);rw[hr] at hres;subst hres;exact⟨(Kk hw).ext,rfl⟩
    replace h111:=Kj h111;obtain⟨n9,hn9,hv9,hlt9⟩:=valR_ok h108 h111;rw[hv9];have hst:LxI (xM s) (i+p) (out++[⟨48,[],n9⟩]):=hstep [⟨48,[],n9⟩] (by omega) hp1 (by rw[hn9];rfl);refine zR<|zV<|zX<|Z9r 0 2 3 4 6 7 99 108 111 M<|ZF M (Y115x0 M) ?_;refine Zl 0 M U113 M<|Zm M M<|ZF M (Zc M U22 (Zu32 _))<|ZF M (Zb [.int .i64 0,.string ⟨#[]⟩,.int .u32 0] [(0,1),(1,1),(2,1)] M)<|Zs (z:=.agg #[.int .i64 0,.string ⟨#[]⟩,.int .u32 0]) M U113 fun b118=>wN (z:=.agg #[.int .i64 0,.string ⟨#[]⟩,.int .u32 0]) (bytes:=32) 0 0 .none M M M M M U113 (by kernel_rfl) M M M M M (by omega) (by omega) fun a119 c119 h119=>ZF M (Y115x0 M) ?_;refine ZS 1 M<|ZX<|Z9r 0 2 3 4 6 7 99 108 111 M<|Zm M M<|Za M M<|ZT<|yM<|zP<|yN<|yV ⟨((i+p,out++[⟨48,[],n9⟩]),(some ⟨a119,0,none⟩,c119)),hst,by rw[Kb];exact h119⟩ (by show (xM s).length-(i+p)<(xM s).length-i;omega) (O4 M) (fun w h=>?_);dsimp only;rw[Kb];unfold rwK;rw[tksR_one,Kb];exact Hp.drop h (.cons _ (.refl _)) (.refl _)
   skip;rw[Ag (show ¬vU c=true by rw[show vU c=uM c.toNat from rfl,h83];simp)] at hlc;refine zR<|zV<|zX<|zB (ι:={x:Bool // x=true↔c∉sgnL}) (fun x=>[(0,.string ⟨s.toArray⟩),(2,Jx b2),(3,Jx b3),(4,.int .i64 ((i:Nat):Int)),(6,.int .i64 ((i+1:Nat):Int)),(147,.bool x.1)]) (fun _=>Jy w_0 [(b3,lxO A out.length cap 0),(b2,lxO none 0 0 0)] [rwK A cap out] (fun _=>True)) ?_ (fun x=>?_)
   ·refine Z8r 0 2 3 4 5 6 40 83 M<|Zm M M<|ZF M (xF M M)<|Zm M M<|zQ 124 M (fun g=>?_) (fun g=>?_)
    ·replace g:=xD g;have k3:c≠44:=fun e=>g ((xC 44).1 e);refine Zv M<|ZG M M M (xF M M)<|Zh M<|Zm M M<|zQ 128 M (fun g=>?_) (fun g=>?_)
     ·replace g:=xD g;have k7:c≠58:=fun e=>g ((xC 58).1 e);refine Zv M<|ZG M M M (xF M M)<|Zh M<|Zm M M<|zQ 132 M (fun g=>?_) (fun g=>?_)
      ·replace g:=xD g;have k11:c≠91:=fun e=>g ((xC 91).1 e);refine Zv M<|ZG M M M (xF M M)<|Zh M<|Zm M M<|zQ 136 M (fun g=>?_) (fun g=>?_)
       ·replace g:=xD g;have k15:c≠93:=fun e=>g ((xC 93).1 e);refine Zv M<|ZG M M M (xF M M)<|Zh M<|Zm M M<|zQ 140 M (fun g=>?_) (fun g=>?_)
        ·replace g:=xD g;have k19:c≠43:=fun e=>g ((xC 43).1 e);refine Zv M<|ZG M M M (xF M M)<|Zh M<|Zm M M<|zQ 144 M (fun g=>?_) (fun g=>?_)
         ·replace g:=xD g;have k23:c≠45:=fun e=>g ((xC 45).1 e);refine Zv M<|ZG M M M (xF M M)<|Zh M<|zS ?_
          exact zU ⟨_,⟨fun h hm=>by
            have h42:c≠42:=fun e=>bne_iff_ne.1 h ((xC 42).1 e)
            simp[sgnL,k3,k7,k11,k15,k19,k23,h42] at hm,fun h=>bne_iff_ne.2 fun e=>h (by rw[(xC 42).2 e];decide)⟩⟩ (O6 rfl) Jz
         replace g:=wJ g;obtain rfl:c=45:=(xC 45).2 g;refine ZP M<|ZP M<|Zf M<|zS ?_;exact zU ⟨false,⟨fun h=>(by cases h),fun h=>absurd (by decide) h⟩⟩ (O6 M) Jz
        replace g:=wJ g;obtain rfl:c=43:=(xC 43).2 g;refine ZP M<|ZP M<|Zf M<|Zm M M<|ZP M<|ZP M<|Zf M<|zS ?_;exact zU ⟨false,⟨fun h=>(by cases h),fun h=>absurd (by decide) h⟩⟩ (O6 M) Jz
       replace g:=wJ g;obtain rfl:c=93:=(xC 93).2 g;refine ZP M<|ZP M<|Zf M<|Zm M M<|ZP M<|ZP M<|Zf M<|Zm M M<|ZP M<|ZP M<|Zf M<|zS ?_;exact zU ⟨false,⟨fun h=>(by cases h),fun h=>absurd (by decide) h⟩⟩ (O6 M) Jz
      replace g:=wJ g;obtain rfl:c=91:=(xC 91).2 g;refine ZP M<|ZP M<|Zf M<|Zm M M<|ZP M<|ZP M<|Zf M<|Zm M M<|ZP M<|ZP M<|Zf M<|Zm M M<|ZP M<|ZP M<|Zf M<|zS ?_;exact zU ⟨false,⟨fun h=>(by cases h),fun h=>absurd (by decide) h⟩⟩ (O6 M) Jz
     replace g:=wJ g;obtain rfl:c=58:=(xC 58).2 g;refine ZP M<|ZP M<|Zf M<|Zm M M<|ZP M<|ZP M<|Zf M<|Zm M M<|ZP M<|ZP M<|Zf M<|Zm M M<|ZP M<|ZP M<|Zf M<|Zm M M<|ZP M<|ZP M<|Zf M<|zS ?_;exact zU ⟨false,⟨fun h=>(by cases h),fun h=>absurd (by decide) h⟩⟩ (O6 M) Jz
    replace g:=wJ g;obtain rfl:c=44:=(xC 44).2 g;refine ZP M<|ZP M<|Zf M<|Zm M M<|ZP M<|ZP M<|Zf M<|Zm M M<|ZP M<|ZP M<|Zf M<|Zm M M<|ZP M<|ZP M<|Zf M<|Zm M M<|ZP M<|ZP M<|Zf M<|Zm M M<|ZP M<|ZP M<|Zf M<|zS ?_;exact zU ⟨false,⟨fun h=>(by cases h),fun h=>absurd (by decide) h⟩⟩ (O6 M) Jz
   obtain⟨z,hz⟩:=x;dsimp only;refine zT M (fun h147=>?_) (fun h147=>?_)
   ·rw[Ag (hz.1 h147)] at hlc;have hr:=hi.bad (e:=20) (by rw[hcr,hlc]);refine zX<|zZ<|ZF M (Zb [.slice none 0 0,.int .i64 0] [(0,1),(1,1)] M)<|ZR 1 M<|ZT<|zK<|zW<|zM<|zW<|zM<|zW<|yS M M 1 M U115 M (by kernel_rfl) (fun w hw=>?_);rw[hr] at hres;subst hres;exact⟨(Kk hw).ext,rfl⟩
   skip;have hm:c∈sgnL:=Classical.byContradiction fun h=>by rw[hz.2 h] at h147;cases h147
   rw[Ah hm] at hlc;have hst:LxI (xM s) (i+1) (out++[⟨115,[c],0⟩]):=hi.step (k:=1) (t:=[⟨115,[c],0⟩]) (by omega) (Ae _) (by rw[hcr,hlc];rfl)
   have hone:(s.drop i).take (i+1-i)=[c]:=by
    rw[Nat.add_sub_cancel_left];obtain⟨h1,h2⟩:=Kg.1 hcs;rw[List.drop_eq_getElem_cons h1,h2];rfl
   refine zR<|zV<|zX<|uY 8 [0,1,2,3,4,5,6,7] (Blk b3 (lxO A out.length cap 0)) (by kernel_rfl) (by kernel_rfl) Blk.stab (fun w h=>HpG.blk h (k:=0) M) (fun n0 hn0=>?_);refine Zd M M M (Y115x0 M) ?_;refine Zd M M M (zL M U113 M (fun w hw=>Blk.cell hw M))<|Zd M M M (yW M)<|Zd M M M (yW M)<|Zd M M M (yW M)<|Zd M M M (rE M M M U9 (by omega) (by omega) (by omega) hone)<|Zd M M M (Zb [.int .i64 0,.string ⟨#[]⟩,.int .u32 0] [(0,1),(1,1),(2,1)] M)<|vP M<|wd_newH ?_ .none M (fun k hk=>Kr hk hn0) (nf_bs1 (z:=.agg #[.int .i64 0,.string ⟨#[]⟩,.int .u32 0]) M M U113 (by kernel_rfl) (by kernel_rfl) M M) (fun b156 hb156=>?_);rfl;refine uE ?_;simp only[Kt,Kx];refine wN (z:=.agg #[.int .i64 0,.string ⟨#[]⟩,.int .u32 0]) (bytes:=32) 0 0 .none M M M M M U113 (by kernel_rfl) M M M M M (by omega) (by omega) fun a157 c157 h157=>ZF M (Y115x0 M) ?_;refine ZS 1 M<|ZT<|Z6r 0 2 3 4 6 147 M<|Zm M M<|Za M M<|zS<|zH<|yV ⟨((i+1,out++[⟨115,[c],0⟩]),(some ⟨a157,0,none⟩,c157)),hst,by rw[Kb];exact h157⟩ (by show (xM s).length-(i+1)<(xM s).length-i;omega) (O4 M) (fun w h=>?_);dsimp only;rw[Kb];unfold rwK;rw[tksR_one,Kb];exact Hp.drop h (.cons _ (.refl _)) (.refl _)
  replace h18:=wJ h18;obtain rfl:c=59:=(xC 59).2 h18
  obtain rfl:i=(xM s).length:=by
   rcases Nat.lt_or_eq_of_le hile with h|h
   ·have h1:(xM s)[i]? = some ((xM s)[i]'h):=Kn _;obtain⟨h2,h3⟩:=cut_at h1;rw[hcs] at h2;exact absurd (Option.some.inj h2).symm h3
   exact h
  have hfin:=hi.fin;refine yM<|zP<|zP<|yN<|zV<|zX<|Z5r 0 2 3 4 18 M<|ZF M (Zo 0 M U115 M)<|ZR 1 M<|ZT<|zK<|yS M M 1 M U115 M (by kernel_rfl) (fun w hw=>?_);rw[hfin] at hres;subst hres;exact⟨(Kk hw).ext,A,cap,rfl,HpG.rowCp (j:=0) hw rfl,HpG.rowF (j:=0) hw rfl⟩
 replace g3:=Kj g3;obtain rfl:i=(xM s).length:=by omega
 have hfin:=hi.fin;refine ZP M<|ZP M<|ZP M<|ZP M<|Zf M<|ZT<|zD M<|yM<|zP<|zP<|yN<|zV<|zX<|Z5r 0 2 3 4 18 M<|ZF M (Zo 0 M U115 M)<|ZR 1 M<|ZT<|zK<|yS M M 1 M U115 M (by kernel_rfl) (fun w hw=>?_);rw[hfin] at hres;subst hres;exact⟨(Kk hw).ext,A,cap,rfl,HpG.rowCp (j:=0) hw rfl,HpG.rowF (j:=0) hw rfl⟩
end Go.Proofs.YtkaepknpplhgkaaGreatDoor
namespace Go.Proofs.YtkaepknpplhgkaaGreatDoor
open Go.RowKit
section
variable {P:Program}{n:Fr}{m:List (Nat×Value)}{ty:TypeId}{H:World→Prop}
theorem yf_slice2 {x lo hi:Operand}{t e:TypeId}{k k':IntKind}{A:Option Addr}{len cap i j size:Nat}{u v:Int}(hx:ev m x=some (.slice A len cap)) (hl:ev m lo=some (.int k u)) (hh:ev m hi=some (.int k' v)) (ht:P.underlying t=some (.slice e)) (hs':(P.info? e).map (·.size)=some size) (hu:u=i) (hv:v=j) (h1:i≤j) (h2:j≤cap) :
  YF P (.slice t x (some lo) (some hi) none) ty n m H (.slice (sV A cap i size) (j-i) (cap-i)):=fun _ w d pos af gd hs hw=>by
 subst hu;subst hv;have h3:i≤cap:=by omega
 have hsl:(Instr.slice t (.slice A len cap) (some (.int k (i:Int))) (some (.int k' (j:Int))) none).run P w=.ok (.slice (sV A cap i size) (j-i) (cap-i)) w:=by
  simp[Instr.slice,run_underlying ht,Instr.sliceBounds,Instr.sliceBound,asIntOf,h1,h2,h3,uJ hs',sV]
 simp[Yl,execOp,hs.ev hx,hs.ev hl,hs.ev hh,Instr.sliceAt,run_underlying ht,hsl]
end
theorem isA_com (l:List ATk) (k:Nat) {t:ATk}(h:l[k]? = some t):isA [44] (l.drop k)=comT t:=by rw[isA_at,h];rfl
def sptC (V:TV) (A:Option Addr) (ps:List (Nat×Nat)):List Value:=ps.map fun p=>.slice (sV A V.cap p.1 3) p.2 (V.cap-p.1)
theorem sptC_one (V:TV) (A:Option Addr) (ps:List (Nat×Nat)) (p:Nat×Nat):sptC V A (ps++[p])=sptC V A ps++[.slice (sV A V.cap p.1 3) p.2 (V.cap-p.1)]:=by simp[sptC]
def SplPost (V:TV) (A:Option Addr) (w:World) (e:Ending) (w':World):Prop:=Ext w w'∧∃ps B cap,e=.returned (.slice B ps.length cap)∧Cp ps.length cap∧RdF (fun k=>w.heap.size≤k) B (sptC V A ps) w'∧tP V.l=prtL V.l ps∧∀p∈ps,p.1+p.2≤V.l.length
abbrev rwP (V:TV) (A B:Option Addr) (cap:Nat) (ps:List (Nat×Nat)):Rw:=⟨.slice B ps.length cap,113,1,ps.length,sptC V A ps⟩
def SpJ (V:TV) (f i:Nat) (ps:List (Nat×Nat)):Prop:=(i≤V.l.length∧SpI2 V.l f i ps)∨(i=V.l.length+1∧tP V.l=prtL V.l ps∧ps.length≤i∧∀p∈ps,p.1+p.2≤V.l.length)
theorem wsplit_any (V:TV) (A:Option Addr) (hA:TvA V A) (hlen:V.l.length≤2000000) (w_0:World) (hX:TvX V w_0):Calls Tryz.prog 133 #[.slice A V.l.length V.cap] w_0 (SplPost V A w_0):=by
 have hcp:=hA.cap;have hbg:=hA.big;unfold maxLen at hbg;refine zN (args:=[.slice A V.l.length V.cap]) Tryz.func133 M 31 M (Kh M)<|Z1 0 M<|zG (H':=Jy w_0 [] [] (TvX V)) (fun u hu=>?_) ?_;subst hu;exact Hp.startTv hX;refine zX<|zZ<|Za M M<|ZX<|zZ<|Za M M<|ZX<|zZ<|Za M M<|ZX<|zX<|zZ<|Za M M<|ZT<|zJ<|yF (ι:={j:(Nat×Nat)×(List (Nat×Nat)×(Option Addr×Nat)) // SpJ V j.1.1 j.1.2 j.2.1∧j.2.1.length≤j.2.2.2∧j.1.1≤j.1.2∧j.1.2≤V.l.length+1}) (fun j=>[(0,.slice A V.l.length V.cap),(3,.slice j.1.2.2.1 j.1.2.1.length j.1.2.2.2),(4,.int .i64 ((j.1.1.1:Nat):Int)),(5,.int .i64 ((j.1.1.2:Nat):Int))]) (fun j=>Jy w_0 [] [rwP V A j.1.2.2.1 j.1.2.2.2 j.1.2.1] (TvX V)) (fun j=>V.l.length+1-j.1.1.2) ⟨((0,0),([],(none,0))),.inl ⟨Ad _,SpI2.zero _⟩,Ae _,Ae _,Ad _⟩ (O4 M) (fun w h=>Hp.nil h _ _) (fun j=>?_);obtain⟨⟨⟨f,i⟩,⟨out,⟨B,cap⟩⟩⟩,hj,hcap,hfi,hi1⟩:=j;dsimp only at hj hcap hfi hi1 ⊢;refine zX<|zX<|zZ<|Zm M M<|Zm M M<|ZF M (yK M U113)<|ZF M (xE M M)<|ZT<|zT M (fun h9=>?_) (fun h9=>?_)
 ·replace h9:=Ki h9;have hil:i≤V.l.length:=by omega
  have hs:=hj.resolve_right (fun h=>by omega);have hs:=hs.2;have hn:=hs.n;refine zR<|zV<|zX<|zJ<|zX<|Z5r 0 3 4 5 9 M<|Zm M M<|Zm M M<|ZF M (yK M U113)<|Ze M<|Zm M M<|zQ 16 M (fun g6=>?_) (fun g6=>?_)
  ·replace g6:=Kq g6;obtain rfl:i=V.l.length:=by omega
   obtain⟨hf1,hf2⟩:=hs.fin;refine ZP M<|ZP M<|ZP M<|Zh M<|ZT<|wY M<|zX<|Z6r 0 3 4 5 9 20 M<|Zm M M<|Zm M M<|Zm M M<|Zm M M<|ZF M (yf_slice2 (size:=3) M M M Tryz.underlying113 (by kernel_rfl) M M (by omega) (by omega))<|Zs (z:=.slice none 0 0) M U193 fun b26=>wN (z:=.slice none 0 0) (bytes:=24) 0 0 .none M M M M M U193 (by kernel_rfl) M M M M M (by omega) (by omega) fun a27 c27 h27=>Za M M<|ZT<|Z6r 0 3 4 5 9 20 M<|Zm M M<|ZF M (zF M M (i64_in _ (by omega) (by omega)))<|Za M M<|zS<|zH<|zV<|Z6r 0 3 4 5 9 20 M<|Zm M M<|ZF M (zF M M (i64_in _ (by omega) (by omega)))<|Za M M<|zS<|yV ⟨((V.l.length+1,V.l.length+1),(out++[(f,V.l.length-f)],(some ⟨a27,0,none⟩,c27))),.inr ⟨rfl,hf1,by rw[Kb];show out.length+1≤V.l.length+1;omega,hf2⟩,by rw[Kb];exact h27,Ae _,Ae _⟩ (by show V.l.length+1-(V.l.length+1)<V.l.length+1-V.l.length;omega) (.cons M<|.consE M (by dsimp only;rw[Kb];rfl)<|.cons M<|.cons M<|.nil) (fun w h=>?_);dsimp only;unfold rwP;rw[sptC_one,Kb];exact Hp.drop h (.cons _ (.refl _)) (.refl _)
  replace g6:=yT g6;obtain⟨t,ht⟩:∃t,V.l[i]? = some t:=⟨V.l[i]'(by omega),Kn _⟩;refine Zv M<|Zv M<|xW (.some M M) M  (v:=.bool (isA [44] (V.l.drop i))) (by kernel_rfl) M (fun w hw=>uQ V A hA i [44] w (HpG.x hw)) ?_;rw[isA_com V.l i ht];refine Zf M<|ZT<|zT M (fun h20=>?_) (fun h20=>?_)
  ·have hs:=hs.com ht h20;refine zX<|Z6r 0 3 4 5 9 20 M<|Zm M M<|Zm M M<|Zm M M<|Zm M M<|ZF M (yf_slice2 (size:=3) M M M Tryz.underlying113 (by kernel_rfl) M M (by omega) (by omega))<|Zs (z:=.slice none 0 0) M U193 fun b26=>wN (z:=.slice none 0 0) (bytes:=24) 0 0 .none M M M M M U193 (by kernel_rfl) M M M M M (by omega) (by omega) fun a27 c27 h27=>Za M M<|ZT<|Z6r 0 3 4 5 9 20 M<|Zm M M<|ZF M (zF M M (i64_in _ (by omega) (by omega)))<|Za M M<|zS<|zH<|zV<|Z6r 0 3 4 5 9 20 M<|Zm M M<|ZF M (zF M M (i64_in _ (by omega) (by omega)))<|Za M M<|zS<|yV ⟨((i+1,i+1),(out++[(f,i-f)],(some ⟨a27,0,none⟩,c27))),.inl ⟨hs.le,hs⟩,by rw[Kb];exact h27,Ae _,by have:=(Kg.1 ht).1;show i+1≤V.l.length+1;omega⟩ (by show V.l.length+1-(i+1)<V.l.length+1-i;omega) (.cons M<|.consE M (by dsimp only;rw[Kb];rfl)<|.cons M<|.cons M<|.nil) (fun w h=>?_);dsimp only;unfold rwP;rw[sptC_one,Kb];exact Hp.drop h (.cons _ (.refl _)) (.refl _)
  skip;have hs:=hs.on ht h20;refine zR<|zH<|zV<|Z6r 0 3 4 5 9 20 M<|Zm M M<|ZF M (zF M M (i64_in _ (by omega) (by omega)))<|Za M M<|zS ?_;exact yV ⟨((f,i+1),(out,(B,cap))),.inl ⟨hs.le,hs⟩,hcap,by show f≤i+1;omega,by have:=(Kg.1 ht).1;show i+1≤V.l.length+1;omega⟩ (by show V.l.length+1-(i+1)<V.l.length+1-i;omega) (O4 M) Jz
 replace h9:=Kj h9;have hs:=hj.resolve_left (fun h=>by omega);refine yM<|zP<|zP<|yN<|zV<|zX<|Z5r 0 3 4 5 9 M<|Zm M M<|Za M M<|ZU M M fun w hw=>⟨(Kk hw).ext,out,B,cap,rfl,HpG.rowCp (j:=0) hw rfl,HpG.rowF (j:=0) hw rfl,hs.2.1,hs.2.2.2⟩
end Go.Proofs.YtkaepknpplhgkaaGreatDoor
