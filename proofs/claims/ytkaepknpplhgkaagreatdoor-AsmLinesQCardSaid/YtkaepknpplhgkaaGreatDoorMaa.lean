import Derived.Test.YtkaepknpplhgkaaGreatDoorMaU
import Derived.Test.YtkaepknpplhgkaaGreatDoorMaZ
import Derived.Laws.IdiomStrings
import Derived.Laws.StructEq
set_option maxRecDepth 100000
namespace Go.Proofs.YtkaepknpplhgkaaGreatDoor
open Go.RowKit
section
variable {P:Program}{Q:Exit→Act→World→Prop}{n:Fr}{γ:Type}
def OCh (P:Program) (o:Oper) (n:Fr) (m:List (Nat×Value)) (H:World→Prop) (R:Value→World→Prop):Prop:=∀a w,Sat n m a→H w→Ch P o a w R
def selI (es:List (Nat×Nat×(γ→Value))) (g:γ):List Nat→List (Nat×Value)
 | []=>[]
 | j::r=>(match es.find? (fun e=>Nat.beq e.1 j) with
  | some e=>[(e.2.1,e.2.2 g)]
  | none=>[])++selI es g r
def updI (D:Nat→Bool) (i:Nat):Nat→Bool:=fun j=>bif Nat.beq j i then true else D j
def AtI (es:List (Nat×Nat×(γ→Value))) (i:Nat) (g:γ) (v:Value):Prop:=match es.find? (fun e=>Nat.beq e.1 i) with
 | some e=>v=e.2.2 g
 | none=>True
def vG (D:Nat→Bool) (g g':γ):List (Nat×Nat×(γ→Value))→Prop
 | []=>True
 | e::r=>(D e.1=true→e.2.2 g'=e.2.2 g)∧vG D g g' r
theorem vG.refl {D:Nat→Bool}{g:γ}:∀{es:List (Nat×Nat×(γ→Value))},vG D g g es
 | []=>trivial
 | _::_=>⟨fun _=>rfl,vG.refl⟩
theorem vG.get {D:Nat→Bool}{g g':γ}:∀{es:List (Nat×Nat×(γ→Value))},vG D g g' es→∀e∈es,D e.1=true→e.2.2 g'=e.2.2 g
 | [],_,_,he=>by cases he
 | x::r,h,e,he=>by
  rcases List.mem_cons.1 he with rfl|he
  ·exact h.1
  ·exact vG.get h.2 e he
def OI (P:Program) (n:Fr) (base:List (Nat×Value)) (es:List (Nat×Nat×(γ→Value))) (HI:(Nat→Bool)→γ→World→Prop) (D:Nat→Bool) (g:γ) (i:Nat) (js:List Nat) (o:Oper):Prop :=
 OCh P o n (selI es g js++base) (HI D g) fun v w'=>∃g',AtI es i g' v∧vG D g g' es∧HI (updI D i) g' w'
def OIs (P:Program) (n:Fr) (base:List (Nat×Value)) (es:List (Nat×Nat×(γ→Value))) (HI:(Nat→Bool)→γ→World→Prop):List (List Nat)→Nat→List Oper→Prop
 | _,_,[]=>True
 | ds,i,o::r=>(∀D g,D i=false→(∀j∈ds.headD [],D j=true)→OI P n base es HI D g i (ds.headD []) o)∧OIs P n base es HI ds.tail (i+1) r
def nodB:List Nat→Bool
 | []=>true
 | x::l=>l.all (fun y=>!Nat.beq x y)&&nodB l
theorem nod_find {es:List (Nat×Nat×(γ→Value))}:nodB (es.map (·.1))=true→∀e∈es,es.find? (fun x=>Nat.beq x.1 e.1)=some e:=by
 induction es with
 | nil=>intro _ e he;cases he
 | cons x r ih =>
  intro h e he;rw[Aa] at h;unfold nodB at h;simp only[Kt,List.all_eq_true] at h;rw[List.find?_cons];rcases List.mem_cons.1 he with rfl|he
  ·have:Nat.beq e.1 e.1=true:=by simp
   rw[this]
  ·have h1:=h.1 e.1 (List.mem_map.2 ⟨e,he,rfl⟩);have:Nat.beq x.1 e.1=false:=by simpa using h1
   rw[this];exact ih h.2 e he
def drawIB (l:Array Oper) (es:List (Nat×Nat)) (base:List Nat) (n:Nat) (ds:List (List Nat)):Bool :=
 lowerB l&&nodB (es.map (·.1))&&(List.range l.size).all fun i=>match l[i]? with
 | some o=>o.guard.isNone&&(match o.dst with
   | some d=>Nat.blt d n&&!base.contains d&&es.all (fun e=>Nat.beq e.1 i==Nat.beq e.2 d)
   | none=>es.all fun e=>!Nat.beq e.1 i)&&(ds.getD i []).all fun j=>o.after.any fun e=>Region.binds .any e&&Nat.beq e.on j
 | none=>true
structure SatI (n:Fr) (base:List (Nat×Value)) (es:List (Nat×Nat×(γ→Value))) (D:Nat→Bool) (g:γ) (a:Act):Prop where
 base:Sat n base a
 get:∀e∈es,D e.1=true→a.tmps[e.2.1]? = some (e.2.2 g)
theorem SatI.sel {base:List (Nat×Value)}{es:List (Nat×Nat×(γ→Value))}{D:Nat→Bool}{g:γ}{a:Act}(h:SatI n base es D g a):∀js:List Nat,(∀j∈js,D j=true)→Sat n (selI es g js++base) a
 | [],_=>h.base
 | j::r,hj=>by
  have ih:=h.sel r fun i hi=>hj i (Kq _ hi);unfold selI
  cases hf:es.find? (fun e=>Nat.beq e.1 j) with
  | none=>exact ih
  | some e =>
   have he:=List.mem_of_find?_eq_some hf;have hb:e.1=j:=Nat.eq_of_beq_eq_true (List.find?_some (p:=fun e:Nat×Nat×(γ→Value)=>Nat.beq e.1 j) hf);refine⟨ih.size,ih.dfr,fun i v hv=>?_⟩
   by_cases hi:e.2.1=i
   ·subst hi;have:look ((e.2.1,e.2.2 g)::(selI es g r++base)) e.2.1=some v:=hv;rw[rC] at this;cases this;exact h.get e he (by rw[hb];exact hj j (Kk ..))
   ·have:look ((e.2.1,e.2.2 g)::(selI es g r++base)) i=some v:=hv;rw[vW hi] at this;exact ih.get i v this
theorem OIs.at {base:List (Nat×Value)}{es:List (Nat×Nat×(γ→Value))}{HI:(Nat→Bool)→γ→World→Prop}:∀{r:List Oper}{ds:List (List Nat)}{i k:Nat}{o:Oper},OIs P n base es HI ds i r→r[k]? = some o→∀D g,D (i+k)=false→(∀j∈ds.getD k [],D j=true)→OI P n base es HI D g (i+k) (ds.getD k []) o
 | [],_,_,_,_,_,h=>by cases h
 | x::r,ds,i,0,o,h,ho=>by
  cases ho;have:ds.headD []=ds.getD 0 []:=by cases ds<;>rfl
  rw[← this];exact h.1
 | x::r,ds,i,k+1,o,h,ho=>by
  have:=OIs.at h.2 (k:=k) (by simpa using ho);have e:ds.tail.getD k []=ds.getD (k+1) []:=by cases ds<;>simp
  rw[e,show i+1+k=i+(k+1) by omega] at this;exact this
theorem count_set {l:Array Bool}{i:Nat}(hi:l[i]? = some false):(l.setIfInBounds i true).toList.count false+1=l.toList.count false:=by
 obtain⟨hlt,he⟩:=Kh.1 hi;have h1:(l.setIfInBounds i true).toList=l.toList.set i true:=by simp
 rw[h1]
 have:∀(l:List Bool) (i:Nat),l[i]? = some false→(l.set i true).count false+1=l.count false:=by
  intro l
  induction l with
  | nil=>intro i h;cases h
  | cons x l ih =>
   intro i h
   cases i with
   | zero=>cases h;simp
   | succ i =>
    have:=ih i (by simpa using h);cases x
    ·simp only[List.set_cons_succ,List.count_cons,beq_self_eq_true,if_true];omega
    ·simp only[List.set_cons_succ,List.count_cons];simp;omega
 exact this l.toList i (by rw[Array.getElem?_toList];exact hi)
theorem count_all {l:Array Bool}(h:l.toList.count false=0):∀i,i<l.size→l[i]? = some true:=fun i hi=>by
 have h1:false∉l.toList:=List.count_eq_zero.1 h;rw[Array.getElem?_eq_getElem hi]
 cases hx:l[i] with
 | true=>rfl
 | false=>exact absurd (Array.mem_toList_iff.2 (hx▸Array.getElem_mem hi)) h1
theorem wa_inv {l:List Oper}{base:List (Nat×Value)}{es:List (Nat×Nat×(γ→Value))}{HI:(Nat→Bool)→γ→World→Prop}{ds:List (List Nat)}(hB:drawIB l.toArray (es.map fun e=>(e.1,e.2.1)) (base.map (·.1)) n.s ds=true) (hO:OIs P n base es HI ds 0 l)
  (hend:∀g a w,SatI n base es (fun _=>true) g a→HI (fun _=>true) g w→Q .normal a w):∀(k:Nat) (listed:Array Bool) (g:γ) (a:Act) (w:World),listed.size=l.length→listed.toList.count false=k→SatI n base es (fun i=>listed.getD i true) g a→HI (fun i=>listed.getD i true) g w→wpAny P .any l.toArray Q k listed a w:=by
 unfold drawIB at hB;simp only[Kt,List.all_eq_true,List.mem_range] at hB;obtain⟨⟨hlow,hnod⟩,hB⟩:=hB;rw[List.map_map] at hnod
 have done:∀(listed:Array Bool),listed.size=l.length→listed.toList.count false=0→(fun i=>listed.getD i true)=fun _=>true:=fun listed hs hc=>by
  funext i
  by_cases hi:i<listed.size
  ·rw[Array.getD_eq_getD_getElem?,count_all hc i hi];rfl
  ·rw[Array.getD_eq_getD_getElem?,Array.getElem?_eq_none (by omega)];rfl
 have rdy:∀(listed:Array Bool),listed.size=l.length→Region.ready .any l.toArray listed=[]→listed.toList.count false=0:=fun listed hs hr=>by
  refine Classical.byContradiction fun hc=>?_
  -- the first that is not listed is ready
  have hm:false∈listed.toList:=by
   refine Classical.byContradiction fun h=>hc (List.count_eq_zero.2 h)
  obtain⟨i,hi⟩:=List.mem_iff_getElem?.1 hm;rw[Array.getElem?_toList] at hi
  have key:∀i:Nat,listed[i]? = some false→False:=by
   intro i
   induction i using Nat.strongRecOn with
   | _ i ih =>
    intro hi;obtain⟨hlt,he⟩:=Kh.1 hi;have hlt':i<l.toArray.size:=by simpa [← hs] using hlt
    have:i∈Region.ready .any l.toArray listed:=mem_ready.2 ⟨by rw[Array.getD_eq_getD_getElem?,hi];rfl,l.toArray[i],Array.getElem?_eq_getElem hlt',fun e hm hb=>by
     unfold lowerB at hlow;simp only[List.all_eq_true,List.mem_range] at hlow;have h1:=hlow i hlt';rw[Array.getElem?_eq_getElem hlt'] at h1;have h2:=Array.all_eq_true_iff_forall_mem.1 h1 e hm;rw[hb] at h2;have hlt2:e.on<i:=by simpa using h2
     have hlt3:e.on<listed.size:=by omega
     rw[Array.getD_eq_getD_getElem?]
     cases hx:listed[e.on]? with
     | none=>rw[Array.getElem?_eq_none_iff] at hx;omega
     | some b =>
      cases b with
      | true=>rfl
      | false=>exact (ih e.on hlt2 hx).elim⟩
    rw[hr] at this;cases this
  exact key i hi
 intro k
 induction k with
 | zero =>
  intro listed g a w hs hc hS hH;refine⟨?_,?_⟩
  ·rcases hq:Region.ready .any l.toArray listed with _|⟨i,r⟩
   ·rfl
   ·exfalso
    have hi:i∈Region.ready .any l.toArray listed:=by rw[hq];exact Kk ..
    obtain⟨hun,o,ho,_⟩:=mem_ready.1 hi;have hlt:=(Kh.1 ho).1;have:=count_all hc i (by rw[hs];simpa using hlt);rw[Array.getD_eq_getD_getElem?,this] at hun;cases hun
  ·have e:=done listed hs hc;rw[e] at hS hH;exact hend g a w hS hH
 | succ k ih =>
  intro listed g a w hs hc hS hH;refine⟨fun hr=>absurd (rdy listed hs hr) (by omega),fun i hi=>?_⟩;obtain⟨hun,o,ho,hall⟩:=mem_ready.1 hi;have hlt:=(Kh.1 ho).1;have hlt':i<listed.size:=by rw[hs];simpa using hlt
  have hlf:listed[i]? = some false:=by
   rw[Array.getD_eq_getD_getElem?,Array.getElem?_eq_getElem hlt'] at hun;rw[Array.getElem?_eq_getElem hlt'];exact congrArg some hun
  have hb:=hB i hlt;rw[ho] at hb;simp only[Kt,List.all_eq_true] at hb;obtain⟨⟨hg,hd⟩,hds⟩:=hb
  have hw:Region.wanted o (yielded l.toArray a.tmps)=true:=by
   unfold Region.wanted
   cases ho':o.guard with
   | none=>rfl
   | some x=>rw[ho'] at hg;cases hg
  have hdeps:∀j∈ds.getD i [],listed.getD j true=true:=fun j hj=>by
   obtain⟨e,he,hc⟩:=Array.any_eq_true'.1 (hds j hj);simp only[Kt] at hc;have h1:=hall e he hc.1;have h2:e.on=j:=Nat.eq_of_beq_eq_true hc.2;rw[h2] at h1;rw[Array.getD_eq_getD_getElem?] at h1 ⊢
   cases hx:listed[j]? with
   | none=>rfl
   | some b=>rw[hx] at h1;exact h1
  have hop:=(OIs.at hO (k:=i) (o:=o) (by rw[List.getElem?_toArray] at ho;exact ho)) (fun i=>listed.getD i true) g (by rw[Ku];show listed.getD i true=false;rw[Array.getD_eq_getD_getElem?,hlf];rfl) hdeps a w (hS.sel _ hdeps) hH;rw[Ku] at hop;unfold wpOp;rw[ho];show if Region.wanted o (yielded l.toArray a.tmps)=true then _ else _;rw[Kz hw];refine .inl (hop.wp fun v w' ⟨g',h1',h2',h3⟩=>?_);have h2:=h2'.get
  have h1:∀e∈es,e.1=i→v=e.2.2 g':=fun e he hi=>by
   have:=nod_find hnod e he;unfold AtI at h1';rw[← hi,this] at h1';exact h1'
  have eD:(fun j=>(listed.setIfInBounds i true).getD j true)=updI (fun i=>listed.getD i true) i:=by
   funext j
   unfold updI;rw[Array.getD_eq_getD_getElem?]
   by_cases hj:j=i
   ·subst hj;rw[Array.getElem?_setIfInBounds_self_of_lt hlt'];simp
   ·rw[Array.getElem?_setIfInBounds_ne (fun e=>hj e.symm)]
    have:Nat.beq j i=false:=by
     cases hx:Nat.beq j i
     ·rfl
     ·exact absurd (Nat.eq_of_beq_eq_true hx) hj
    rw[this,cond_false];show _=listed.getD j true;rw[Array.getD_eq_getD_getElem?]
  have hc2:=count_set hlf;refine ih (listed.setIfInBounds i true) g' _ w' (by rw[Array.size_setIfInBounds];exact hs) (by omega) ?_ (by rw[eD];exact h3);rw[eD]
  have old:∀e∈es,e.1≠i→updI (fun i=>listed.getD i true) i e.1=true→a.tmps[e.2.1]? = some (e.2.2 g'):=fun e he hne hx=>by
   have hD:listed.getD e.1 true=true:=by
    unfold updI at hx
    have:Nat.beq e.1 i=false:=by
     cases hy:Nat.beq e.1 i
     ·rfl
     ·exact absurd (Nat.eq_of_beq_eq_true hy) hne
    rw[this,cond_false] at hx;exact hx
   rw[h2 e he hD];exact hS.get e he hD
  cases hdst:o.dst with
  | none =>
   rw[hdst] at hd;simp only[List.all_eq_true] at hd;refine⟨hS.base.put0,fun e he hx=>?_⟩;refine old e he (fun hh=>?_) hx;have:=hd (e.1,e.2.1) (List.mem_map.2 ⟨e,he,rfl⟩);dsimp only at this;rw[hh] at this;simp at this
  | some d =>
   rw[hdst] at hd;simp only[Kt,List.all_eq_true] at hd;obtain⟨⟨hdn,hdb⟩,hde⟩:=hd;have hdn':d<n.s:=by simpa [Nat.blt_eq] using hdn
   have hput:(a.put (some d) v).tmps[d]? = some v:=by
    rw[put_tmps_eq,Array.getElem?_eq_getElem (by rw[hS.base.size];exact hdn')];rfl
   refine⟨⟨by rw[put_size];exact hS.base.size,by rw[put_defers];exact hS.base.dfr,fun j u hu=>?_⟩,fun e he hx=>?_⟩
   ·have hjd:j≠d:=fun e=>by
     subst e
     have hm:j∈base.map (·.1):=by
      have:∀(b:List (Nat×Value)),look b j=some u→j∈b.map (·.1):=by
       intro b
       induction b with
       | nil=>intro h;cases h
       | cons x b ih =>
        intro h
        by_cases hxj:x.1=j
        ·rw[Aa,hxj];exact Kk ..
        ·rw[show x=(x.1,x.2) from rfl,vW hxj] at h;exact Kq _ (ih h)
      exact this base hu
     simp only[Bool.not_eq_true'] at hdb;rw[List.contains_iff_mem.2 hm] at hdb;cases hdb
    rw[put_tmps_ne (by simpa using hjd.symm)];exact hS.base.get j u hu
   ·have hed:=hde (e.1,e.2.1) (List.mem_map.2 ⟨e,he,rfl⟩);dsimp only at hed
    by_cases hei:e.1=i
    ·have:e.2.1=d:=by
      rw[hei] at hed;simp only[Ad] at hed;have h3:Nat.beq e.2.1 d=true:=by rw[← hed];simp
      exact Nat.eq_of_beq_eq_true h3
     rw[this,hput,h1 e he hei]
    ·have:e.2.1≠d:=fun hh=>by
      rw[hh] at hed;simp only[Ad] at hed;have h3:Nat.beq e.1 i=true:=by rw[hed];simp
      exact hei (Nat.eq_of_beq_eq_true h3)
     rw[put_tmps_ne (by simpa using this.symm)];exact old e he hei hx
theorem sU {id:Nat}{l:List Oper}{m:List (Nat×Value)}{H:World→Prop}(base:List (Nat×Value)) (es:List (Nat×Nat×(γ→Value))) (HI:(Nat→Bool)→γ→World→Prop) (ds:List (List Nat)) (g0:γ) (hm:P.follows .mixedOrders=true)
  (hB:drawIB l.toArray (es.map fun e=>(e.1,e.2.1)) (base.map (·.1)) n.s ds=true) (hE:es.all (fun e=>decide (e.1<l.length))=true) (hp:Pr m base) (h0:∀D w,(∀i,i<l.length→D i=false)→H w→HI D g0 w.drew) (hO:OIs P n base es HI ds 0 l)
  (hend:∀g,WQ Q .normal n (es.map (fun e=>(e.2.1,e.2.2 g))++base) (HI (fun _=>true) g)):WC P (.region id l.toArray true) Q n m H:=fun a w hs hw=>by
 have hD0:∀i,i<l.length→(Array.replicate l.toArray.size false).getD i true=false:=fun i hi=>by
  rw[Array.getD_eq_getD_getElem?,Array.getElem?_replicate,Kz (by simpa using hi)];rfl
 refine wp_region_any hm (wa_inv hB hO (fun g a' w' hS hH=>?_) _ _ g0 a w.drew (by simp) (by simp) ⟨hs.weak hp,fun e he hx=>?_⟩ (h0 _ w hD0 hw))
 ·refine hend g a' w' ⟨hS.base.size,hS.base.dfr,fun j u hu=>?_⟩ hH
  have key:∀(l:List (Nat×Nat×(γ→Value))),(∀e∈l,a'.tmps[e.2.1]? = some (e.2.2 g))→∀j u,look (l.map (fun e=>(e.2.1,e.2.2 g))++base) j=some u→a'.tmps[j]? = some u:=by
   intro l
   induction l with
   | nil=>intro _ j u h;exact hS.base.get j u h
   | cons x l ih =>
    intro hl j u h
    by_cases hj:x.2.1=j
    ·subst hj;have:look ((x.2.1,x.2.2 g)::(l.map (fun e=>(e.2.1,e.2.2 g))++base)) x.2.1=some u:=h;rw[rC] at this;cases this;exact hl x (Kk ..)
    ·have:look ((x.2.1,x.2.2 g)::(l.map (fun e=>(e.2.1,e.2.2 g))++base)) j=some u:=h;rw[vW hj] at this;exact ih (fun e he=>hl e (Kq _ he)) j u this
  exact key es (fun e he=>hS.get e he M) j u hu
 ·have:=Jz (List.all_eq_true.1 hE e he);have hx:(Array.replicate l.toArray.size false).getD e.1 true=true:=hx;rw[hD0 _ this] at hx;cases hx
theorem yf_convB {x:Operand}{src dst e ty:TypeId}{m:List (Nat×Value)}{H:World→Prop}{g o len cap T:Nat}{cs:List Value}(l:List UInt8) (hx:ev m x=some (.slice (some ⟨g,o,none⟩) len cap)) (hr:∀w,H w→Blk g (bk T cs) w) (hs':P.underlying src=some (.slice e)) (he:P.underlying e=some (.int .u8)) (hd:P.underlying dst=some .string) (hl:l.length=len) (hc:∀j (hj:j<l.length),cs[o+j]? = some (.int .u8 (l[j].toNat:Int))) :
  YF P (.convert src dst x) ty n m H (.string ⟨l.toArray⟩):=fun _ w d pos af gd hs hw=>by
 subst hl
 have:=run_convert_bytes_back (P:=P) w src dst e ⟨g,o,none⟩ cap l hs' he hd (fun j hj=>by
  rw[Addr.add_mid,cell_of_row w g (o+j) _ _ _ (hr w hw),List.getElem?_toArray]
  exact hc j hj)
 simp[Yl,execOp,hs.ev hx,this]
variable {m:List (Nat×Value)}{H:World→Prop}{op:Op}{ty:TypeId}{d:Option Nat}{pos:String}{af:Array Edge}{gd:Option (Nat×Bool)}{R:Value→World→Prop}
theorem oc_free {v:Value}(hy:YF P op ty n m H v) (h:∀w,H w→R v w):OCh P ⟨d,op,ty,pos,af,gd⟩ n m H R:=fun a w hs hw=>(hy a w d pos af gd hs hw).ch.mono fun v' w' ⟨e1,e2⟩=>by subst e1;subst e2;exact h _ hw
theorem oc_new {ob:Obj}{f:Nat→Value}(hn:NF P op ty n m ob f) (h:∀w,H w→R (f w.heap.size) (w.alloc ob)):OCh P ⟨d,op,ty,pos,af,gd⟩ n m H R:=fun a w hs hw=>by
 unfold Ch;rw[hn a w d pos af gd hs];exact h w hw
theorem oc_chain {ι:Type}{val:ι→Value}{H':ι→World→Prop}(hc:CF P op ty n m H val H') (h:∀i w,H' i w→R (val i) w):OCh P ⟨d,op,ty,pos,af,gd⟩ n m H R:=fun a w hs hw=>(hc a w d pos af gd hs hw).mono fun v w' ⟨i,e1,e2⟩=>by subst e1;exact h i w' e2
section
variable {base:List (Nat×Value)}{es:List (Nat×Nat×(γ→Value))}{HI:(Nat→Bool)→γ→World→Prop}{D:Nat→Bool}{g:γ}{i:Nat}{js:List Nat}
theorem yU {v:Value}(hy:YF P op ty n (selI es g js++base) (HI D g) v) (ha:AtI es i g v) (hH:∀w,HI D g w→HI (updI D i) g w):OI P n base es HI D g i js ⟨d,op,ty,pos,af,gd⟩ :=
 oc_free hy fun w hw=>⟨g,ha,vG.refl,hH w hw⟩
theorem oi_new {ob:Obj}{f:Nat→Value}(hn:NF P op ty n (selI es g js++base) ob f) (h:∀w,HI D g w→∃g',AtI es i g' (f w.heap.size)∧vG D g g' es∧HI (updI D i) g' (w.alloc ob)):OI P n base es HI D g i js ⟨d,op,ty,pos,af,gd⟩ :=
 oc_new hn h
theorem oi_call {f:FuncId}{args:List Operand}{ats:Array TypeId}{vs:List Value}{v:Value}(hf:goes P f=true) (ha:evl (selI es g js++base) args=some vs) (hC:∀w,HI D g w→Calls P f vs.toArray w fun e w'=>e=.returned v∧Ext w w') (hv:AtI es i g v) (hE:∀w w',HI D g w→Ext w w'→HI (updI D i) g w') :
  OI P n base es HI D g i js ⟨d,.call { callee:=.value (.func f),args:=args.toArray,argTypes:=ats },ty,pos,af,gd⟩:=fun _ w hs hw =>
 (ch_call hs hf ha ((hC w hw).mono fun _ w' ⟨e1,e2⟩=>⟨_,e1,⟨rfl,e2⟩⟩)).mono (R:=fun u w'=>u=v∧Ext w w') fun u w' ⟨e1,e2⟩=>⟨g,by rw[e1];exact hv,vG.refl,hE w w' hw e2⟩
theorem oi_callG {f:FuncId}{args:List Operand}{ats:Array TypeId}{vs:List Value}(hf:goes P f=true) (ha:evl (selI es g js++base) args=some vs) (hC:∀w,HI D g w→Calls P f vs.toArray w fun e w'=>∃v,e=.returned v∧∃g',AtI es i g' v∧vG D g g' es∧HI (updI D i) g' w') :
  OI P n base es HI D g i js ⟨d,.call { callee:=.value (.func f),args:=args.toArray,argTypes:=ats },ty,pos,af,gd⟩:=fun _ w hs hw =>
 ch_call hs hf ha (hC w hw)
theorem oi_callV {x:Operand}{f:FuncId}{args:List Operand}{ats:Array TypeId}{us vs cs:List Value}{v:Value}(hf:goes P f=true) (hx:ev (selI es g js++base) x=some (.func (.func f) us.toArray cs.toArray)) (ha:evl (selI es g js++base) args=some vs) (hC:∀w,HI D g w→Calls P f (us++vs++cs).toArray w fun e w'=>e=.returned v∧Ext w w') (hv:AtI es i g v) (hE:∀w w',HI D g w→Ext w w'→HI (updI D i) g w') :
  OI P n base es HI D g i js ⟨d,.call { callee:=.value x,args:=args.toArray,argTypes:=ats },ty,pos,af,gd⟩:=fun _ w hs hw =>
 (ch_callV hs hf hx ha ((hC w hw).mono fun _ w' ⟨e1,e2⟩=>⟨_,e1,⟨rfl,e2⟩⟩)).mono (R:=fun u w'=>u=v∧Ext w w') fun u w' ⟨e1,e2⟩=>⟨g,by rw[e1];exact hv,vG.refl,hE w w' hw e2⟩
theorem oi_callVG {x:Operand}{f:FuncId}{args:List Operand}{ats:Array TypeId}{us vs cs:List Value}(hf:goes P f=true) (hx:ev (selI es g js++base) x=some (.func (.func f) us.toArray cs.toArray)) (ha:evl (selI es g js++base) args=some vs) (hC:∀w,HI D g w→Calls P f (us++vs++cs).toArray w fun e w'=>∃v,e=.returned v∧∃g',AtI es i g' v∧vG D g g' es∧HI (updI D i) g' w') :
  OI P n base es HI D g i js ⟨d,.call { callee:=.value x,args:=args.toArray,argTypes:=ats },ty,pos,af,gd⟩:=fun _ w hs hw =>
 ch_callV hs hf hx ha (hC w hw)
theorem rP {ι:Type}{val:ι→Value}{H':ι→World→Prop}(hc:CF P op ty n (selI es g js++base) (HI D g) val H') (h:∀j w,H' j w→∃g',AtI es i g' (val j)∧vG D g g' es∧HI (updI D i) g' w):OI P n base es HI D g i js ⟨d,op,ty,pos,af,gd⟩ :=
 oc_chain hc h
theorem oi_ex {ι:Type}{o:Oper}{H':ι→World→Prop}(hH:∀w,HI D g w→∃j,H' j w) (h:∀j,OCh P o n (selI es g js++base) (H' j) fun v w'=>∃g',AtI es i g' v∧vG D g g' es∧HI (updI D i) g' w'):OI P n base es HI D g i js o:=fun a w hs hw=>by
 obtain⟨j,hj⟩:=hH w hw;exact h j a w hs hj
end
end
end Go.Proofs.YtkaepknpplhgkaaGreatDoor
namespace Go.Proofs.YtkaepknpplhgkaaGreatDoor
def rgB (n:Int):Bs:=114::Lib.decDigits n.toNat
def rL (n:Nat):Bs:=if 2147483648≤n then 45::Lib.decDigits (4294967296-n) else 43::Lib.decDigits n
def toK (i:KI) (a:Nat):Nat:=(a+i.size.toNat+i.imm)%4294967296
def lnK (i:KI) (a:Nat):Bs :=
 if i.op≤4 then noneL.getD i.op.toNat []
 else if i.op≤21 then singL.getD (i.op-16).toNat []++(32::rgB i.d)
 else if i.op≤46 then ariL.getD (i.op-32).toNat []++(32::rgB i.d)++[44,32]++rgB i.s
 else if i.op≤62 then ariL.getD (i.op-48).toNat []++[46,98]++(32::rgB i.d)++[44,32]++sR i.imm
 else if i.op≤78 then ariL.getD (i.op-64).toNat []++[46,119]++(32::rgB i.d)++[44,32]++sR i.imm
 else if i.op≤86 then accL.getD (i.op-80).toNat []++(32::rgB i.d)++[44,32,91]++rgB i.s++rL i.imm++[93]
 else if i.op≤94 then accL.getD (i.op-88).toNat []++[46,120]++(32::rgB i.d)++[44,32,91]++rgB i.s++(if 0≤i.index then [43]++rgB i.index++[42]++Lib.decDigits (2 ^ i.scale.toNat) else [])++rL i.imm++[93]
 else if i.op<110 then [106]++sF.getD (i.op-96).toNat []++[32]++Lib.decDigits (toK i a)
 else if i.op=112 then [106,109,112,32]++Lib.decDigits (toK i a)
 else if i.op=113 then [99,97,108,108,32]++Lib.decDigits (toK i a)
 else if i.op=128 then [115,121,115,32]++Lib.decDigits i.imm
 else if i.op=129 then [103,101,116,99]++(32::rgB i.d)++[44,32]++Lib.decDigits i.s.toNat
 else [115,101,116,99]++(32::rgB i.d)++[44,32]++Lib.decDigits i.s.toNat
theorem rnm_dc:∀d,d<16→rnmA d=114::Lib.decDigits d:=by
 intro i hi;unfold rnmA;rw[Lib.decDigits]
 by_cases h:i<10
 ·rw[dif_pos h,Kz h]
 ·rw[dif_neg h,Ky h,Lib.decDigits,dif_pos (by omega)];have:i=10∨i=11∨i=12∨i=13∨i=14∨i=15:=by omega
  rcases this with rfl|rfl|rfl|rfl|rfl|rfl<;>rfl
theorem rgB_iR {d:Nat}(h:d<16):rgB d=itB (iR d):=(rnm_dc d h).symm
def iS (n:Nat):List It:=if 2147483648≤n then [.c 45,.n (4294967296-n)] else [.n n]
def iO (n:Nat):List It:=if 2147483648≤n then [.c 45,.n (4294967296-n)] else [.c 43,.n n]
theorem iS_tx (n:Nat):txI (iS n)=sR n:=by
 unfold iS sR
 split<;>simp[txI,itB]
theorem iO_tx (n:Nat):txI (iO n)=rL n:=by
 unfold iO rL
 split<;>simp[txI,itB]
theorem iO_ok {n:Nat}(h:n<4294967296) {l:List It}(hs:stI l=true) (hl:okI l):okI (iO n++l):=by
 unfold iO
 split
 ·exact⟨by decide,by omega,hs,hl⟩
 ·exact⟨by decide,h,hs,hl⟩
theorem iO_st (n:Nat) (l:List It):stI (iO n++l)=true:=by
 unfold iO
 split<;>rfl
theorem opT_sgn {kind:Int}{n:Nat}(h:n<4294967296):OpT kind (tkI (iS n)) (val7 n):=by
 unfold iS
 split
 ·have:=opT_neg kind (4294967296-n)
  rwa [show negA (4294967296-n)=n by unfold negA;omega] at this
 ·exact rE kind n
theorem tail_any (o:AOp) {n:Nat}(h:n<4294967296) (r:List ATk):vC o (tkI (iO n)++(⟨115,[93],0⟩:ATk)::r)=.ok ({ o with n:=n },r):=by
 unfold iO vC
 split
 ·show xY (Except.ok (negA (4294967296-n),⟨115,[93],0⟩::r)) _=_;rw[show negA (4294967296-n)=n by unfold negA;omega];rfl
 ·rfl
def iX:Option (Nat×Nat)→List It
 | none=>[]
 | some p=>[.c 43,iR p.1,.c 42,.n (2 ^ p.2)]
def iM (s:Nat) (x:Option (Nat×Nat)) (n:Nat):List It:=.c 91::iR s::(iX x++(iO n++[.c 93]))
def mOp (s:Nat) (x:Option (Nat×Nat)) (n:Nat):AOp:=⟨109,s,[],n,idxV x,scaV x⟩
theorem rgA_any {kind:Int}{d:Nat}(h:d<vM kind) (r:List ATk):rgA kind (⟨119,rnmA d,0⟩::r)=.ok ((d:Int),r):=by
 have hr:=reg_rnm kind d h;unfold rgA;show xY (Except.ok ((⟨119,rnmA d,0⟩:ATk),r)) _=_;show (if rS kind (rnmA d)<0 then _ else _)=_;rw[hr,Ky (by omega)]
theorem isA_s (x:UInt8) (l:List ATk):isA [x] (⟨115,[x],0⟩::l)=true:=by simp[isA]
theorem opT_mem {kind:Int}{s n:Nat}{x:Option (Nat×Nat)}(hs:s<vM kind) (hn:n<4294967296) (hx:∀p,x=some p→kind=1∧p.1<8∧p.2<4):OpT kind (tkI (iM s x n)) (mOp s x n):=by
 refine⟨by unfold iM;rw[uA];simp[itK],fun r=>?_⟩
 have e:tkI (iM s x n)++r=⟨115,[91],0⟩::⟨119,rnmA s,0⟩::(tkI (iX x)++(tkI (iO n)++(⟨115,[93],0⟩:ATk)::r)):=by
  unfold iM;rw[uA,uA,tkI_app,tkI_app];show [_]++([_]++(tkI (iX x)++(tkI (iO n)++[⟨115,[93],0⟩])))++r=_;simp
 rw[e];unfold opA;rw[Kz (isA_s 91 _)];unfold rJ;rw[Kl,Kp,rgA_any hs,andR_ok];dsimp only
 cases x with
 | none =>
  rw[Ky]
  ·exact tail_any _ hn r
  ·rintro⟨_,h2,t,h3,h4⟩
   revert h3
   show ((tkI (iO n)++(⟨115,[93],0⟩:ATk)::r)[1]? = some t)→False;unfold iO
   split<;>(intro h3;cases h3;cases h4)
 | some p =>
  obtain⟨rfl,h1,h2⟩:=hx p rfl;obtain⟨p,c⟩:=p;dsimp only at h1 h2;have e2:tkI (iX (some (p,c)))++(tkI (iO n)++(⟨115,[93],0⟩:ATk)::r)=⟨115,[43],0⟩::⟨119,rnmA p,0⟩::⟨115,[42],0⟩::⟨48,[],2 ^ c⟩::(tkI (iO n)++(⟨115,[93],0⟩:ATk)::r):=rfl;rw[e2,Kz (show (1:Int)=1∧isA [43] (⟨115,[43],0⟩::⟨119,rnmA p,0⟩::⟨115,[42],0⟩::⟨48,[],2 ^ c⟩::(tkI (iO n)++(⟨115,[93],0⟩:ATk)::r))=true∧∃t,((⟨115,[43],0⟩:ATk)::⟨119,rnmA p,0⟩::⟨115,[42],0⟩::⟨48,[],2 ^ c⟩::(tkI (iO n)++(⟨115,[93],0⟩:ATk)::r))[1]? = some t∧t.kind=119 from ⟨rfl,isA_s 43 _,_,rfl,rfl⟩),Kl,Kp,rgA_any (by show p<8;omega)];rw[andR_ok];dsimp only;rw[Kz (isA_s 42 _)];show xY (xC 48 (⟨48,[],2 ^ c⟩::(tkI (iO n)++(⟨115,[93],0⟩:ATk)::r))) _=_;rw[show xC 48 (⟨48,[],2 ^ c⟩::(tkI (iO n)++(⟨115,[93],0⟩:ATk)::r))=.ok ((⟨48,[],2 ^ c⟩:ATk),tkI (iO n)++(⟨115,[93],0⟩:ATk)::r) from rfl]
  have hc:scaA (2 ^ c)=some (c:Int):=by
   have:c=0∨c=1∨c=2∨c=3:=by omega
   rcases this with rfl|rfl|rfl|rfl<;>rfl
  show (match scaA (2 ^ c) with
   | some c'=>vC ⟨109,s,[],0,p,c'⟩ (tkI (iO n)++(⟨115,[93],0⟩:ATk)::r)
   | none=>.error 20)=_
  rw[hc];exact tail_any _ hn r
theorem tC {n:Nat}{p:Nat→Bool}(h:(List.range n).all p=true):∀k,k<n→p k=true:=fun k hk=>List.all_eq_true.1 h k (List.mem_range.2 hk)
def nmB (kind:Int) (n:Nat) (nm:Nat→Bs) (sh:Bs) (f:Nat→AFm):Bool:=(List.range n).all fun k=>wrdB (nm k)&&!decide (nm k=wU)&&decide (wK kind (nm k) sh sh.length=some (f k))
theorem tJ {kind:Int}{n:Nat}{nm:Nat→Bs}{sh:Bs}{f:Nat→AFm}(h:nmB kind n nm sh f=true) {k:Nat}(hk:k<n):wrdB (nm k)=true∧nm k≠wU∧wK kind (nm k) sh sh.length=some (f k):=by
 have:=tC h k hk;simp only[Kt,Bool.not_eq_true',decide_eq_false_iff_not,Kx] at this;exact⟨this.1.1,this.1.2,this.2⟩
end Go.Proofs.YtkaepknpplhgkaaGreatDoor
namespace Go.Proofs.YtkaepknpplhgkaaGreatDoor
def joinI:List (List It)→List It
 | []=>[]
 | [t]=>t
 | t::r=>t++.c 44::.b 32::joinI r
def lnI (nm:Bs) (os:List (List It)):List It:=.w nm::(match os with
 | []=>[]
 | os=>.b 32::joinI os)
def okE (o:List It):Prop:=∀l,okI l→stI l=true→okI (o++l)
theorem joinI_tk:∀os:List (List It),tkI (joinI os)=uG (os.map tkI)
 | []=>rfl
 | [t]=>rfl
 | t::t2::r=>by
  have ih:=joinI_tk (t2::r);rw[joinI,tkI_app,uA,uA,ih]
  ·rfl
  ·simp
theorem joinI_ok:∀os:List (List It),(∀o∈os,okE o)→okI (joinI os)
 | [],_=>trivial
 | [t],h=>by
  have:=h t (by simp) [] trivial rfl
  rwa [Ac] at this
 | t::t2::r,h=>by
  have ih:=joinI_ok (t2::r) fun o ho=>h o (Kq _ ho);rw[joinI]
  ·exact h t (by simp) _ ⟨by decide,.inl rfl,ih⟩ rfl
  ·simp
theorem lnI_ok {nm:Bs}(hw:wrdB nm=true) {os:List (List It)}(h:∀o∈os,okE o):okI (lnI nm os):=by
 cases os with
 | nil=>exact⟨hw,rfl,trivial⟩
 | cons t r=>exact⟨hw,rfl,.inl rfl,joinI_ok _ h⟩
theorem lnI_tk (nm:Bs) (os:List (List It)):tkI (lnI nm os)=⟨119,nm,0⟩::uG (os.map tkI):=by
 cases os with
 | nil=>rfl
 | cons t r=>show [_]++([]++tkI (joinI (t::r)))=_;rw[joinI_tk];rfl
theorem opT_col {kind:Int}{t:List ATk}{o:AOp}(h:OpT kind t o):isA [58] t=false:=by
 obtain⟨h1,h2⟩:=h
 cases t with
 | nil=>exact absurd rfl h1
 | cons x t =>
  cases hx:isA [58] (x::t) with
  | false=>rfl
  | true =>
   have hx':(decide (x.kind=115)&&decide (x.s=[58]))=true:=hx;simp only[Kt,Kx] at hx';obtain⟨k,s,n⟩:=x;obtain⟨rfl,rfl⟩:=hx';have h3:=h2 [];unfold opA at h3;rw[Ac,Ky (by simp[isA]),Ky (by simp[isA]),Ky (fun ⟨t,a,b⟩=>by cases a;cases b)] at h3;cases h3
theorem joinT_col {kind:Int}:∀{ts:List (List ATk)}{os:List AOp},OpsT kind ts os→isA [58] (uG ts)=false
 | _,_,.nil=>rfl
 | _,_,.cons (t:=t) (ts:=ts) h k=>by
  have h1:=opT_col h
  cases t with
  | nil=>exact absurd rfl h.1
  | cons x t=>cases ts with
   | nil=>exact h1
   | cons t2 ts=>exact h1
theorem lnI_par {kind:Int}{nm:Bs}{os:List (List It)}{l:List AOp}{f:AFm}(h:OpsT kind (os.map tkI) l) (hf:wK kind nm (wJ l) l.length=some f) (hz:nm≠wU):qT kind (tkI (lnI nm os))=.ok ⟨[],nm,wJ l,l,some f,0,sizeA f l⟩:=by
 rw[lnI_tk];exact par_it h (joinT_col h) hf hz (joinT_len h)
theorem vT {d:Nat}(h:d<16):okE [iR d]:=fun _ h1 h2=>⟨wrd_rnm d h,h2,h1⟩
theorem okE_num {n:Nat}(h:n<4294967296):okE [.n n]:=fun _ h1 h2=>⟨h,h2,h1⟩
theorem okE_sgn {n:Nat}(h:n<4294967296):okE (iS n):=fun l h1 h2=>by
 unfold iS
 split
 ·exact⟨by decide,by omega,h2,h1⟩
 ·exact⟨h,h2,h1⟩
theorem okE_mem {s n:Nat}{x:Option (Nat×Nat)}(hs:s<16) (hn:n<4294967296) (hx:∀p,x=some p→p.1<8∧p.2<4):okE (iM s x n):=fun l h1 _=>by
 have h3:okI (iO n++(.c 93::l)):=iO_ok hn rfl ⟨by decide,h1⟩;have e:iM s x n++l=.c 91::iR s::(iX x++(iO n++(.c 93::l))):=by unfold iM;simp
 rw[e];refine⟨by decide,wrd_rnm s hs,?_,?_⟩
 ·cases x with
  | none=>exact iO_st _ _
  | some p=>rfl
 ·cases x with
  | none=>exact h3
  | some p =>
   obtain⟨a1,a2⟩:=hx p rfl;refine⟨by decide,wrd_rnm p.1 (by omega),rfl,by decide,?_,iO_st _ _,h3⟩;have:2 ^ p.2≤2 ^ 3:=Nat.pow_le_pow_right (by omega) (by omega);omega
theorem uM {kind:Int}{d:Nat}(h:d<vM kind):OpT kind (tkI [iR d]) ⟨114,d,[],0,0,0⟩:=opT_reg h
theorem all1 {α:Type}{P:α→Prop}{a:α}(h:P a):∀x∈[a],P x:=fun x hx=>by cases Ai.1 hx;exact h
theorem all2 {α:Type}{P:α→Prop}{a b:α}(h:P a) (k:P b):∀x∈[a,b],P x:=fun x hx=>by
 rcases List.mem_cons.1 hx with rfl|hx
 ·exact h
 ·cases Ai.1 hx;exact k
end Go.Proofs.YtkaepknpplhgkaaGreatDoor
namespace Go.Proofs.YtkaepknpplhgkaaGreatDoor
inductive VQ:QI→Prop
 | rrr (k d a b:Nat) (hk:k<12) (hd:d<16) (ha:a<16) (hb:b<16):VQ ⟨(1+k:Nat),d,a,b,0⟩
 | logi (k d a n:Nat) (hk:k<3) (hd:d<16) (ha:a<16) (hn:n<262144):VQ ⟨(17+k:Nat),d,a,0,n⟩
 | rri (k d a n:Nat) (hk:k=16∨k=20∨k=21∨k=22∨k=27) (hd:d<16) (ha:a<16) (hn:n<4294967296) (hf:vB n 18=true):VQ ⟨k,d,a,0,n⟩
 | mem (k d a n:Nat) (hk:k<4) (hd:d<16) (ha:a<16) (hn:n<4294967296) (hf:vB n 18=true):VQ ⟨(23+k:Nat),d,a,0,n⟩
 | br (k d a n:Nat) (hk:k<6) (hd:d<16) (ha:a<16) (hn:n<4294967296) (hf:vB n 18=true):VQ ⟨(32+k:Nat),d,a,0,n⟩
 | jal (d n:Nat) (hd:d<16) (hn:n<4294967296) (hf:vB n 22=true):VQ ⟨40,d,0,0,n⟩
 | lui (d n:Nat) (hd:d<16) (hn:n<4194304):VQ ⟨41,d,0,0,n⟩
 | sys (n:Nat) (hn:n<262144):VQ ⟨48,0,0,0,n⟩
 | op (k:Nat) (hk:k<3):VQ ⟨(49+k:Nat),0,0,0,0⟩
 | sync (a:Nat) (ha:a<16):VQ ⟨52,0,a,0,0⟩
 | getc (d n:Nat) (hd:d<16) (hn:n<4):VQ ⟨53,d,0,0,n⟩
 | setc (a n:Nat) (ha:a<16) (hn:n<5):VQ ⟨54,0,a,0,n⟩
theorem tU {n:Int}(h:wO n true=true):∃k:Nat,n=k∧k<16:=by
 unfold wO at h;simp only[Bool.or_eq_true,Kt,Kx,Bool.true_and] at h;exact⟨n.toNat,by omega,by omega⟩
theorem vU {n:Int}(h:wO n false=true):n=0:=by
 unfold wO at h
 simpa using h
theorem vQ_of {i:QI}(hm:i.imm<4294967296) (h:(uF i).isSome=true):VQ i:=by
 obtain⟨op,d,a,b,n⟩:=i;unfold uF at h;dsimp only at h hm
 cases hs:tK op with
 | none=>rw[hs] at h;cases h
 | some s =>
  rw[hs] at h;dsimp only at h
  split at h
  ·next hh =>
   obtain⟨h1,h2,h3,h4⟩:=hh;unfold tK at hs
   by_cases c1:1≤op∧op≤12
   ·rw[Kz c1] at hs;cases hs;obtain⟨dn,rfl,hd⟩:=tU h1;obtain⟨an,rfl,ha⟩:=tU h2;obtain⟨bn,rfl,hb⟩:=tU h3;have h4:n=0:=Jz h4;subst h4;have:=VQ.rrr (op.toNat-1) dn an bn (by omega) hd ha hb
    rwa [show ((1+(op.toNat-1):Nat):Int)=op by omega] at this
   rw[Ky c1] at hs
   by_cases c2:op=17∨op=18∨op=19
   ·rw[Kz c2] at hs;cases hs;obtain⟨dn,rfl,hd⟩:=tU h1;obtain⟨an,rfl,ha⟩:=tU h2;obtain rfl:=vU h3;have h4:n/2 ^ 18=0:=Jz h4;have:=VQ.logi (op.toNat-17) dn an n (by omega) hd ha (by omega)
    rwa [show ((17+(op.toNat-17):Nat):Int)=op by omega] at this
   rw[Ky c2] at hs
   by_cases c3:16≤op∧op≤27
   ·rw[Kz c3] at hs;cases hs;obtain⟨dn,rfl,hd⟩:=tU h1;obtain⟨an,rfl,ha⟩:=tU h2;obtain rfl:=vU h3
    by_cases c4:23≤op∧op≤26
    ·have:=VQ.mem (op.toNat-23) dn an n (by omega) hd ha hm h4
     rwa [show ((23+(op.toNat-23):Nat):Int)=op by omega] at this
    ·have:=VQ.rri op.toNat dn an n (by omega) hd ha hm h4
     rwa [show ((op.toNat:Nat):Int)=op by omega] at this
   rw[Ky c3] at hs
   by_cases c4:32≤op∧op≤37
   ·rw[Kz c4] at hs;cases hs;obtain⟨dn,rfl,hd⟩:=tU h1;obtain⟨an,rfl,ha⟩:=tU h2;obtain rfl:=vU h3;have:=VQ.br (op.toNat-32) dn an n (by omega) hd ha hm h4
    rwa [show ((32+(op.toNat-32):Nat):Int)=op by omega] at this
   rw[Ky c4] at hs
   by_cases c5:op=40
   ·rw[Kz c5] at hs;cases hs;obtain⟨dn,rfl,hd⟩:=tU h1;obtain rfl:=vU h2;obtain rfl:=vU h3;subst c5;exact .jal dn n hd hm h4
   rw[Ky c5] at hs
   by_cases c6:op=41
   ·rw[Kz c6] at hs;cases hs;obtain⟨dn,rfl,hd⟩:=tU h1;obtain rfl:=vU h2;obtain rfl:=vU h3;have h4:n/2 ^ 22=0:=Jz h4;subst c6;exact .lui dn n hd (by omega)
   rw[Ky c6] at hs
   by_cases c7:op=48
   ·rw[Kz c7] at hs;cases hs;obtain rfl:=vU h1;obtain rfl:=vU h2;obtain rfl:=vU h3;have h4:n/2 ^ 18=0:=Jz h4;subst c7;exact .sys n (by omega)
   rw[Ky c7] at hs
   by_cases c8:op=49∨op=50∨op=51
   ·rw[Kz c8] at hs;cases hs;obtain rfl:=vU h1;obtain rfl:=vU h2;obtain rfl:=vU h3;have h4:n=0:=Jz h4;subst h4;have:=VQ.op (op.toNat-49) (by omega)
    rwa [show ((49+(op.toNat-49):Nat):Int)=op by omega] at this
   rw[Ky c8] at hs
   by_cases c9:op=52
   ·rw[Kz c9] at hs;cases hs;obtain rfl:=vU h1;obtain⟨an,rfl,ha⟩:=tU h2;obtain rfl:=vU h3;have h4:n=0:=Jz h4;subst h4 c9;exact .sync an ha
   rw[Ky c9] at hs
   by_cases c10:op=53
   ·rw[Kz c10] at hs;cases hs;obtain⟨dn,rfl,hd⟩:=tU h1;obtain rfl:=vU h2;obtain rfl:=vU h3;have h4:n≤3:=Jz h4;subst c10;exact .getc dn n hd (by omega)
   rw[Ky c10] at hs
   by_cases c11:op=54
   ·rw[Kz c11] at hs;cases hs;obtain rfl:=vU h1;obtain⟨an,rfl,ha⟩:=tU h2;obtain rfl:=vU h3;have h4:n≤4:=Jz h4;subst c11;exact .setc an n ha (by omega)
   rw[Ky c11] at hs;cases hs
  ·cases h
def wX (op:Nat):Bs:=((sQ.find? fun p=>Nat.beq p.1 op).getD (0,[])).2
def joB:List Bs→Bs
 | []=>[]
 | [x]=>x
 | x::r=>x++[44,32]++joB r
def tP (i:QI) (a:Nat):Bs:=if sP i.op=true then Lib.decDigits ((a+4*i.imm)%4294967296) else if (17≤i.op∧i.op≤19)∨41≤i.op then Lib.decDigits i.imm else sR i.imm
def sH (i:QI):List Int:=if i.op=52∨i.op=54 then [i.a,i.b] else [i.d,i.a,i.b]
def qJ (i:QI) (a:Nat) (c:UInt8) (k:Nat):Bs:=if c=114 then rgB ((sH i).getD k 0) else if c=118 then tP i a else [91]++rgB i.a++rL i.imm++[93]
def uT (i:QI) (a:Nat):List UInt8→Nat→List Bs
 | [],_=>[]
 | c::r,k=>qJ i a c k::uT i a r (k+1)
def lnQ (i:QI) (a:Nat):Bs:=if wY i.op.toNat=[] then wX i.op.toNat else wX i.op.toNat++[32]++joB (uT i a (wY i.op.toNat) 0)
theorem joinI_tx:∀os:List (List It),txI (joinI os)=joB (os.map txI)
 | []=>rfl
 | [t]=>rfl
 | t::t2::r=>by
  have ih:=joinI_tx (t2::r);rw[joinI,txI_app,uB,uB,ih]
  ·show txI t++([44]++([32]++joB (txI t2::r.map txI)))=txI t++[44,32]++joB (txI t2::r.map txI);simp
  ·simp
theorem lnI_tx (nm:Bs) (os:List (List It)):txI (lnI nm os)=if os=[] then nm else nm++[32]++joB (os.map txI):=by
 cases os with
 | nil=>show nm++[]=_;rw[Ac];rfl
 | cons t r =>
  rw[Ky (by simp),← joinI_tx];show nm++([32]++txI (joinI (t::r)))=_;rw[Kn]
structure LnQ (i:QI) (a:Nat) (l:List It) (st:ASt):Prop where
 tx:lnQ i a=txI l
 ok:okI l
 par:qT 2 (tkI l)=.ok st
 lab:st.label=[]
 size:st.size=4
 ins:∃op v,st.form=some (.q op)∧(∀lb,wB lb st.l=.ok v)∧∃j,insQ op st.l v 0 ⟨op,0,0,0,0⟩=j∧(if sP op=true then (uU (subW j.imm a)).tmod 4=0∧{ j with imm:=((uU (subW j.imm a)).tdiv 4%4294967296).toNat }=i else j=i)
def insN:List AOp→List Nat→Nat→QI→QI
 | [],_,_,i=>i
 | o::l,v,k,i=>insN l (v.drop 1) (k+1) (if o.kind=118 then { i with imm:=v.headD 0 } else if o.kind=109 then fldQ { i with imm:=o.n } k o.r else fldQ i k o.r)
theorem insQ_n {op:Int}(h:op≠52∧op≠54):∀(l:List AOp) (v:List Nat) (k:Nat) (i:QI),insQ op l v k i=insN l v k i
 | [],_,_,_=>rfl
 | o::l,v,k,i=>by
  have e:(if op=52∨op=54 then k+1 else k)=k:=Ky (by omega);rw[insQ,insN];rw[e];exact insQ_n h l _ _ _
theorem nq_rrr:nmB 2 12 (fun k=>wX (1+k)) [114,114,114] (fun k=>.q (1+k:Nat))=true:=by kernel_rfl
theorem nq_rri:nmB 2 7 (fun k=>wX (16+k)) [114,114,118] (fun k=>.q (16+k:Nat))=true:=by kernel_rfl
theorem nq_jlr:nmB 2 1 (fun k=>wX (27+k)) [114,114,118] (fun k=>.q (27+k:Nat))=true:=by kernel_rfl
theorem nq_mem:nmB 2 4 (fun k=>wX (23+k)) [114,109] (fun k=>.q (23+k:Nat))=true:=by kernel_rfl
theorem nq_br:nmB 2 6 (fun k=>wX (32+k)) [114,114,118] (fun k=>.q (32+k:Nat))=true:=by kernel_rfl
theorem nq_jl:nmB 2 2 (fun k=>wX (40+k)) [114,118] (fun k=>.q (40+k:Nat))=true:=by kernel_rfl
theorem nq_sys:nmB 2 1 (fun k=>wX (48+k)) [118] (fun k=>.q (48+k:Nat))=true:=by kernel_rfl
theorem nq_op:nmB 2 3 (fun k=>wX (49+k)) [] (fun k=>.q (49+k:Nat))=true:=by kernel_rfl
theorem nq_sync:nmB 2 1 (fun k=>wX (52+k)) [114] (fun k=>.q (52+k:Nat))=true:=by kernel_rfl
theorem nq_gsc:nmB 2 2 (fun k=>wX (53+k)) [114,118] (fun k=>.q (53+k:Nat))=true:=by kernel_rfl
def shB (lo n:Nat) (sh:Bs):Bool:=(List.range n).all fun k=>decide (wY (lo+k)=sh)
theorem shB_at {lo n:Nat}{sh:Bs}(h:shB lo n sh=true) {k:Nat}(hk:k<n):wY (lo+k)=sh:=Jz (tC h k hk)
theorem sh_all:shB 1 12 [114,114,114]=true∧shB 16 7 [114,114,118]=true∧shB 27 1 [114,114,118]=true∧shB 23 4 [114,109]=true∧shB 32 6 [114,114,118]=true∧shB 40 2 [114,118]=true∧shB 48 1 [118]=true∧shB 49 3 []=true∧shB 52 1 [114]=true∧shB 53 2 [114,118]=true:=by
 refine⟨?_,?_,?_,?_,?_,?_,?_,?_,?_,?_⟩<;>kernel_rfl
theorem jmpQ_no {op:Int}(h:¬(32≤op∧op≤37)∧op≠40):¬sP op=true:=by
 unfold sP;rw[Af h.1,Af h.2];decide
theorem jmpQ_br {op:Int}(h:32≤op∧op≤37):sP op=true:=by
 unfold sP;rw[Ae h];rfl
theorem immB_s {i:QI}{a:Nat}(h:¬(32≤i.op∧i.op≤37)∧i.op≠40) (h2:¬((17≤i.op∧i.op≤19)∨41≤i.op)):tP i a=sR i.imm:=by
 unfold tP;rw[Ky (jmpQ_no h),Ky h2]
theorem immB_d {i:QI}{a:Nat}(h:¬(32≤i.op∧i.op≤37)∧i.op≠40) (h2:(17≤i.op∧i.op≤19)∨41≤i.op):tP i a=Lib.decDigits i.imm:=by
 unfold tP;rw[Ky (jmpQ_no h),Kz h2]
theorem far_to {a n:Nat}(ha:a<4294967296) (hn:n<4294967296) (hf:n<2097152∨4292870144≤n):(uU (subW ((a+4*n)%4294967296) a)).tmod 4=0∧((uU (subW ((a+4*n)%4294967296) a)).tdiv 4%4294967296).toNat=n:=by
 have e:subW ((a+4*n)%4294967296) a=(4*n)%4294967296:=by unfold subW;omega
 rw[e];rcases hf with hf|hf
 ·have e2:uU (4*n%4294967296)=4*(n:Int):=by
   unfold uU;rw[Kz (by omega)];omega
  rw[e2,Int.mul_tmod_right,Int.mul_tdiv_cancel_left _ (by decide)];omega
 ·have e2:uU (4*n%4294967296)=4*((n:Int)-4294967296):=by
   unfold uU;rw[Ky (by omega)];omega
  rw[e2,Int.mul_tmod_right,Int.mul_tdiv_cancel_left _ (by decide)];omega
theorem fit_18 {n:Nat}(h:vB n 18=true):n<2097152∨4292870144≤n:=by
 unfold vB at h;simp only[Nat.reducePow,Nat.reduceSub,Bool.or_eq_true,Kx] at h;omega
theorem fit_22 {n:Nat}(h:vB n 22=true):n<2097152∨4292870144≤n:=by
 unfold vB at h;simp only[Nat.reducePow,Nat.reduceSub,Bool.or_eq_true,Kx] at h;omega
theorem all3 {α:Type}{P:α→Prop}{a b c:α}(h:P a) (k:P b) (j:P c):∀x∈[a,b,c],P x:=fun x hx=>by
 rcases List.mem_cons.1 hx with rfl|hx
 ·exact h
 ·exact all2 k j x hx
theorem uL {d:Nat}(h:d<16):rgB d=txI [iR d]:=by rw[rgB_iR h];simp[txI]
theorem dec_tx (n:Nat):Lib.decDigits n=txI [.n n]:=by simp[txI,itB]
theorem mem_tx {a n:Nat}(h:a<16):[91]++rgB a++rL n++[93]=txI (iM a none n):=by
 rw[rgB_iR h,← iO_tx];simp[txI,itB,iM,iX]
theorem sK {i:QI}{a:Nat}{nm:Bs}{os:List (List It)}(h1:wX i.op.toNat=nm) (h2:uT i a (wY i.op.toNat) 0=os.map txI) (h3:(wY i.op.toNat=[]↔os=[])):lnQ i a=txI (lnI nm os):=by
 unfold lnQ;rw[lnI_tx,h1,h2]
 by_cases h:os=[]
 ·rw[Kz (h3.2 h),Kz h]
 ·rw[Ky (fun e=>h (h3.1 e)),Ky h]
end Go.Proofs.YtkaepknpplhgkaaGreatDoor
namespace Go.Proofs.YtkaepknpplhgkaaGreatDoor
theorem sB {i:QI}(h:i.op≠52∧i.op≠54):sH i=[i.d,i.a,i.b]:=by
 unfold sH;rw[Ky (by omega)]
theorem regsQ_a {i:QI}(h:i.op=52∨i.op=54):sH i=[i.a,i.b]:=by
 unfold sH;rw[Kz h]
theorem prtQ_r (i:QI) (a k:Nat):qJ i a 114 k=rgB ((sH i).getD k 0):=rfl
theorem prtQ_v (i:QI) (a k:Nat):qJ i a 118 k=tP i a:=rfl
theorem prtQ_m (i:QI) (a k:Nat):qJ i a 109 k=[91]++rgB i.a++rL i.imm++[93]:=rfl
theorem sJ {i:QI}{a:Nat}{nm:Bs}{os:List (List It)}{ops:List AOp}{op:Int}{v:List Nat}(hw:wrdB nm=true) (hz:nm≠wU) (hf:wK 2 nm (wJ ops) ops.length=some (.q op)) (ho:∀o∈os,okE o) (h:OpsT 2 (os.map tkI) ops) (tx:lnQ i a=txI (lnI nm os)) (hv:∀lb,wB lb ops=.ok v) (j:QI) (hj:insQ op ops v 0 ⟨op,0,0,0,0⟩=j) (hi:if sP op=true then (uU (subW j.imm a)).tmod 4=0∧{ j with imm:=((uU (subW j.imm a)).tdiv 4%4294967296).toNat }=i else j=i):∃l st,LnQ i a l st :=
 ⟨_,_,tx,lnI_ok hw ho,lnI_par h hf hz,rfl,rfl,op,v,rfl,hv,j,hj,hi⟩
theorem line_Q {i:QI}(h:VQ i) {a:Nat}(ha:a<4294967296):∃l st,LnQ i a l st:=by
 obtain⟨s0,s1,s2,s3,s4,s5,s6,s7,s8,s9⟩:=sh_all;have hm16:vM 2=16:=rfl
 cases h with
 | rrr k d x b hk hd hx hb =>
  obtain⟨n1,n2,n3⟩:=tJ nq_rrr hk;have hs:=shB_at s0 hk;have ho:((1+k:Nat):Int)≠52∧((1+k:Nat):Int)≠54:=by omega
  refine sJ (a:=a) (nm:=wX (1+k)) (os:=[[iR d],[iR x],[iR b]]) (ops:=[⟨114,d,[],0,0,0⟩,⟨114,x,[],0,0,0⟩,⟨114,b,[],0,0,0⟩]) (v:=[0,0,0]) n1 n2 n3 ((all3 (vT hd) (vT hx) (vT hb))) (.cons (uM (by omega)) (.cons (uM (by omega)) (.cons (uM (by omega)) .nil))) (sK M ?_ ?_) (fun _=>rfl) _ (insQ_n ho _ _ _ _) ?_
  ·dsimp only;rw[Int.toNat_natCast,hs];simp only[uT,prtQ_r,sB (i:=⟨((1+k:Nat):Int),d,x,b,0⟩) ho];show [rgB d,rgB x,rgB b]=_;rw[uL hd,uL hx,uL hb];rfl
  ·dsimp only;rw[Int.toNat_natCast,hs];simp
  ·rw[Ky (jmpQ_no (by omega))];rfl
 | logi k d x n hk hd hx hn =>
  obtain⟨n1,n2,n3⟩:=tJ nq_rri (k:=1+k) (by omega);have hs:=shB_at s1 (k:=1+k) (by omega);rw[show 16+(1+k)=17+k by omega] at n1 n2 n3 hs;have ho:((17+k:Nat):Int)≠52∧((17+k:Nat):Int)≠54:=by omega
  refine sJ (a:=a) (nm:=wX (17+k)) (os:=[[iR d],[iR x],[.n n]]) (ops:=[⟨114,d,[],0,0,0⟩,⟨114,x,[],0,0,0⟩,val7 n]) (v:=[0,0,n]) n1 n2 n3 ((all3 (vT hd) (vT hx) (okE_num (by omega)))) (.cons (uM (by omega)) (.cons (uM (by omega)) (.cons (rE _ _) .nil))) (sK M ?_ ?_) (fun _=>rfl) _ (insQ_n ho _ _ _ _) ?_
  ·dsimp only;rw[Int.toNat_natCast,hs];simp only[uT,prtQ_r,prtQ_v,sB (i:=⟨((17+k:Nat):Int),d,x,0,n⟩) ho];rw[immB_d (by dsimp only;omega) (by dsimp only;omega)];show [rgB d,rgB x,Lib.decDigits n]=_;rw[uL hd,uL hx,dec_tx];rfl
  ·dsimp only;rw[Int.toNat_natCast,hs];simp
  ·rw[Ky (jmpQ_no (by omega))];rfl
 | rri k d x n hk hd hx hn hf =>
  have ho:(k:Int)≠52∧(k:Int)≠54:=by omega
  obtain⟨⟨n1,n2,n3⟩,hs⟩:(wrdB (wX k)=true∧wX k≠wU∧wK 2 (wX k) [114,114,118] ([114,114,118]:Bs).length=some (.q k))∧wY k=[114,114,118]:=by
   by_cases h27:k=27
   ·subst h27;exact⟨tJ nq_jlr (k:=0) (by omega),shB_at s2 (k:=0) (by omega)⟩
   ·have h1:=tJ nq_rri (k:=k-16) (by omega);have h2:=shB_at s1 (k:=k-16) (by omega);rw[show 16+(k-16)=k by omega] at h1 h2;exact⟨h1,h2⟩
  refine sJ (a:=a) (nm:=wX k) (os:=[[iR d],[iR x],iS n]) (ops:=[⟨114,d,[],0,0,0⟩,⟨114,x,[],0,0,0⟩,val7 n]) (v:=[0,0,n]) n1 n2 n3 ((all3 (vT hd) (vT hx) (okE_sgn hn))) (.cons (uM (by omega)) (.cons (uM (by omega)) (.cons (opT_sgn hn) .nil))) (sK M ?_ ?_) (fun _=>rfl) _ (insQ_n ho _ _ _ _) ?_
  ·dsimp only;rw[Int.toNat_natCast,hs];simp only[uT,prtQ_r,prtQ_v,sB (i:=⟨(k:Int),d,x,0,n⟩) ho];rw[immB_s (by dsimp only;omega) (by dsimp only;omega)];show [rgB d,rgB x,sR n]=_;rw[uL hd,uL hx,← iS_tx];rfl
  ·dsimp only;rw[Int.toNat_natCast,hs];simp
  ·rw[Ky (jmpQ_no (by omega))];rfl
 | mem k d x n hk hd hx hn hf =>
  obtain⟨n1,n2,n3⟩:=tJ nq_mem hk;have hs:=shB_at s3 hk;have ho:((23+k:Nat):Int)≠52∧((23+k:Nat):Int)≠54:=by omega
  refine sJ (a:=a) (nm:=wX (23+k)) (os:=[[iR d],iM x none n]) (ops:=[⟨114,d,[],0,0,0⟩,mOp x none n]) (v:=[0,n]) n1 n2 n3 ((all2 (vT hd) (okE_mem hx hn (fun _ h=>nomatch h)))) (.cons (uM (by omega)) (.cons (opT_mem (by omega) hn (fun _ h=>nomatch h)) .nil)) (sK M ?_ ?_) (fun _=>rfl) _ (insQ_n ho _ _ _ _) ?_
  ·dsimp only;rw[Int.toNat_natCast,hs];simp only[uT,prtQ_r,prtQ_m,sB (i:=⟨((23+k:Nat):Int),d,x,0,n⟩) ho];show [rgB d,[91]++rgB x++rL n++[93]]=_;rw[uL hd,mem_tx hx];rfl
  ·dsimp only;rw[Int.toNat_natCast,hs];simp
  ·rw[Ky (jmpQ_no (by omega))];rfl
 | br k d x n hk hd hx hn hf =>
  obtain⟨n1,n2,n3⟩:=tJ nq_br hk;have hs:=shB_at s4 hk;have ho:((32+k:Nat):Int)≠52∧((32+k:Nat):Int)≠54:=by omega
  have hj:sP ((32+k:Nat):Int)=true:=jmpQ_br (by omega);obtain⟨f1,f2⟩:=far_to ha hn (fit_18 hf);refine sJ (a:=a) (nm:=wX (32+k)) (os:=[[iR d],[iR x],[.n ((a+4*n)%4294967296)]]) (ops:=[⟨114,d,[],0,0,0⟩,⟨114,x,[],0,0,0⟩,val7 ((a+4*n)%4294967296)]) (v:=[0,0,(a+4*n)%4294967296]) n1 n2 n3 ((all3 (vT hd) (vT hx) (okE_num (Nat.mod_lt _ (by omega))))) (.cons (uM (by omega)) (.cons (uM (by omega)) (.cons (rE _ _) .nil))) (sK M ?_ ?_) (fun _=>rfl) _ (insQ_n ho _ _ _ _) ?_
  ·dsimp only;rw[Int.toNat_natCast,hs];simp only[uT,prtQ_r,prtQ_v,sB (i:=⟨((32+k:Nat):Int),d,x,0,n⟩) ho];have e:tP ⟨((32+k:Nat):Int),d,x,0,n⟩ a=Lib.decDigits ((a+4*n)%4294967296):=Kz hj;rw[e];show [rgB d,rgB x,Lib.decDigits ((a+4*n)%4294967296)]=_;rw[uL hd,uL hx,dec_tx];rfl
  ·dsimp only;rw[Int.toNat_natCast,hs];simp
  ·rw[Kz hj];refine⟨f1,?_⟩;show (⟨((32+k:Nat):Int),d,x,0,((uU (subW ((a+4*n)%4294967296) a)).tdiv 4%4294967296).toNat⟩:QI)=_;rw[f2]
 | jal d n hd hn hf =>
  obtain⟨n1,n2,n3⟩:=tJ nq_jl (k:=0) (by omega);obtain⟨f1,f2⟩:=far_to ha hn (fit_22 hf);refine sJ (a:=a) (nm:=wX 40) (os:=[[iR d],[.n ((a+4*n)%4294967296)]]) (ops:=[⟨114,d,[],0,0,0⟩,val7 ((a+4*n)%4294967296)]) (v:=[0,(a+4*n)%4294967296]) n1 n2 n3 ((all2 (vT hd) (okE_num (Nat.mod_lt _ (by omega))))) (.cons (uM (by omega)) (.cons (rE _ _) .nil)) (sK M ?_ (by simp[wY])) (fun _=>rfl) _ M ?_
  ·show [rgB d,Lib.decDigits ((a+4*n)%4294967296)]=_;rw[uL hd,dec_tx];rfl
  ·rw[Kz (by decide)];refine⟨f1,?_⟩;show (⟨40,d,0,0,((uU (subW ((a+4*n)%4294967296) a)).tdiv 4%4294967296).toNat⟩:QI)=_;rw[f2]
 | lui d n hd hn =>
  obtain⟨n1,n2,n3⟩:=tJ nq_jl (k:=1) (by omega);refine sJ (a:=a) (nm:=wX 41) (os:=[[iR d],[.n n]]) (ops:=[⟨114,d,[],0,0,0⟩,val7 n]) (v:=[0,n]) n1 n2 n3 ((all2 (vT hd) (okE_num (by omega)))) (.cons (uM (by omega)) (.cons (rE _ _) .nil)) (sK M ?_ (by simp[wY])) (fun _=>rfl) _ M ?_
  ·show [rgB d,Lib.decDigits n]=_;rw[uL hd,dec_tx];rfl
  ·rw[Ky (by decide)];rfl
 | sys n hn =>
  obtain⟨n1,n2,n3⟩:=tJ nq_sys (k:=0) (by omega);refine sJ (a:=a) (nm:=wX 48) (os:=[[.n n]]) (ops:=[val7 n]) (v:=[n]) n1 n2 n3 ((all1 (okE_num (by omega)))) (.cons (rE _ _) .nil) (sK M ?_ (by simp[wY])) (fun _=>rfl) _ M ?_
  ·show [Lib.decDigits n]=_;rw[dec_tx];rfl
  ·rw[Ky (by decide)];rfl
 | op k hk =>
  obtain⟨n1,n2,n3⟩:=tJ nq_op hk;have hs:=shB_at s7 hk;refine sJ (a:=a) (nm:=wX (49+k)) (os:=[]) (ops:=[]) (v:=[]) n1 n2 n3 ((fun _ h=>nomatch h)) .nil (sK M ?_ ?_) (fun _=>rfl) _ M ?_
  ·dsimp only;rw[Int.toNat_natCast,hs];rfl
  ·dsimp only;rw[Int.toNat_natCast,hs];simp
  ·rw[Ky (jmpQ_no (by omega))];rfl
 | sync x hx =>
  obtain⟨n1,n2,n3⟩:=tJ nq_sync (k:=0) (by omega);refine sJ (a:=a) (nm:=wX 52) (os:=[[iR x]]) (ops:=[⟨114,x,[],0,0,0⟩]) (v:=[0]) n1 n2 n3 ((all1 (vT hx))) (.cons (uM (by omega)) .nil) (sK M ?_ (by simp[wY])) (fun _=>rfl) _ M ?_
  ·show [rgB x]=_;rw[uL hx];rfl
  ·rw[Ky (by decide)];rfl
 | getc d n hd hn =>
  obtain⟨n1,n2,n3⟩:=tJ nq_gsc (k:=0) (by omega);refine sJ (a:=a) (nm:=wX 53) (os:=[[iR d],[.n n]]) (ops:=[⟨114,d,[],0,0,0⟩,val7 n]) (v:=[0,n]) n1 n2 n3 ((all2 (vT hd) (okE_num (by omega)))) (.cons (uM (by omega)) (.cons (rE _ _) .nil)) (sK M ?_ (by simp[wY])) (fun _=>rfl) _ M ?_
  ·show [rgB d,Lib.decDigits n]=_;rw[uL hd,dec_tx];rfl
  ·rw[Ky (by decide)];rfl
 | setc x n hx hn =>
  obtain⟨n1,n2,n3⟩:=tJ nq_gsc (k:=1) (by omega);refine sJ (a:=a) (nm:=wX 54) (os:=[[iR x],[.n n]]) (ops:=[⟨114,x,[],0,0,0⟩,val7 n]) (v:=[0,n]) n1 n2 n3 ((all2 (vT hx) (okE_num (by omega)))) (.cons (uM (by omega)) (.cons (rE _ _) .nil)) (sK M ?_ (by simp[wY])) (fun _=>rfl) _ M ?_
  ·show [rgB x,Lib.decDigits n]=_;rw[uL hx,dec_tx];rfl
  ·rw[Ky (by decide)];rfl
end Go.Proofs.YtkaepknpplhgkaaGreatDoor
namespace Go.Proofs.YtkaepknpplhgkaaGreatDoor
def decK (s:Bs):Option KI:=match s with
 | []=>none
 | c::r=>match fmtK c.toNat with
  | none=>none
  | some (n,l)=>if (c::r).length<n then none else
   let i:=wP (((c::r).take n).drop 1) ⟨c.toNat,0,0,-1,0,0,n⟩ l
   if (encK i).isSome=true then some i else none
def mkQ (w:Nat) (s:QS):QI:=⟨(w/67108864:Nat),if s.d then (w/4194304%16:Nat) else 0,if s.a then (w/262144%16:Nat) else 0,if s.b then (w/16384%16:Nat) else 0,if s.kind=1 then sxL (w%2 ^ s.bits) s.bits else w%2 ^ s.bits⟩
def decQ (w:Nat):Option QI:=match tK ((w/67108864:Nat):Int) with
 | none=>none
 | some s=>if uF (mkQ w s)=some w then some (mkQ w s) else none
def bytB (l:Bs):Bs:=kByte++[32]++joB (l.map fun c=>Lib.decDigits c.toNat)
def nxtA (kind:Int) (s:Bs) (a:Nat):Bs×Nat :=
 if kind=1 then (match decK s with
  | some i=>(lnK i a,i.size.toNat)
  | none=>(bytB (s.take 1),1))
 else if s.length<4 then (bytB s,s.length) else match decQ (getL (s.take 4)) with
  | some i=>(lnQ i a,4)
  | none=>(bytB (s.take 4),4)
def disF (kind:Int) (org:Nat):Nat→Bs→Nat→List Bs
 | 0,_,_=>[]
 | f+1,s,at_=>if s=[] then [] else (nxtA kind s ((org+at_)%4294967296)).1::disF kind org f (s.drop (nxtA kind s ((org+at_)%4294967296)).2) (at_+(nxtA kind s ((org+at_)%4294967296)).2)
def linesB (l:List Bs):Bs:=(l.map fun x=>x++[10]).flatten
theorem encK_rng {i:KI}{c:Bs}(h:encK i=some c):∃n l,fmtK i.op=some (n,l)∧i.size=n∧rngK i=true∧c=vL i.op::vY i l:=by
 unfold encK at h
 cases hf:fmtK i.op with
 | none=>rw[hf] at h;cases h
 | some p =>
  obtain⟨n,l⟩:=p;rw[hf] at h;dsimp only at h
  split at h
  ·next hh=>cases h;exact⟨n,l,rfl,hh.1,hh.2.1,rfl⟩
  ·cases h
end Go.Proofs.YtkaepknpplhgkaaGreatDoor
namespace Go.Proofs.YtkaepknpplhgkaaGreatDoor
inductive DsA (kind:Int) (org:Nat):Nat→List Bs→List ASt→Bs→Prop
 | nil (a:Nat):DsA kind org a [] [] []
 | cons {a:Nat} {s:Bs} {st:ASt} {ls:List Bs} {sts:List ASt} {c d:Bs} {v:List Nat} (h:liA kind s=.ok st) (lab:st.label=[]) (hv:∀lb,wB lb st.l=.ok v) (hc:∀a',cdA { st with at_:=a' } v ((org+a)%4294967296)=.ok c) (hs:st.size=c.length) (t:DsA kind org (a+c.length) ls sts d):DsA kind org a (s::ls) (st::sts) (c++d)
theorem DsA.pas {kind:Int}{org:Nat}{a:Nat}{ls:List Bs}{sts:List ASt}{c:Bs}(h:DsA kind org a ls sts c):∀(k:Nat) (acc:List ASt),a+c.length≤65536→pasF kind org ls k a [] acc=.ok (acc++plcS sts a,[]):=by
 induction h with
 | nil a=>intro k acc _;simp[pasF,plcS]
 | @cons a s st ls sts c d v h lab hv hc hs t ih =>
  intro k acc hl;rw[Jt] at hl;rw[pasF_ok h lab (by omega),hs,ih _ _ (by omega),Kn,plcS,hs];rfl
theorem DsA.out {kind:Int}{org:Nat}{a:Nat}{ls:List Bs}{sts:List ASt}{c:Bs}(h:DsA kind org a ls sts c):∀(k:Nat) (out:Bs),outF org [] (plcS sts a) k out=.ok (out++c):=by
 induction h with
 | nil a=>intro k out;simp[outF,plcS]
 | @cons a s st ls sts c d v h lab hv hc hs t ih =>
  intro k out;rw[plcS,outF_ok (st:={ st with at_:=a }) (hv []) (hc a),hs,ih,Kn]
theorem ds_asm {kind:Int}(hk:kind=1∨kind=2) {org:Nat}{ls:List Bs}{sts:List ASt}{text c:Bs}(h:DsA kind org 0 ls sts c) (hl:xA text=ls) (ht:text.length≤1048576) (hc:c.length≤65536):rH kind text org=(c,0,0):=by
 unfold rH;rw[Ky (by omega),Ky (by omega),hl,h.pas 0 [] (by omega)];dsimp only;rw[List.nil_append,h.out 0 []];rfl
theorem DsA.app {kind:Int}{org:Nat}{a:Nat}{ls ls':List Bs}{sts sts':List ASt}{c c':Bs}(h:DsA kind org a ls sts c) (k:DsA kind org (a+c.length) ls' sts' c'):DsA kind org a (ls++ls') (sts++sts') (c++c'):=by
 induction h with
 | nil a=>exact k
 | @cons a s st ls sts c d v h lab hv hc hs t ih =>
  rw[Kn];exact .cons h lab hv hc hs (ih (by rw[Jt] at k;rw[Nat.add_assoc];exact k))
theorem DsA.empty {kind:Int}{org:Nat}{a:Nat}{s:Bs}{ls:List Bs}{sts:List ASt}{c:Bs}(h:liA kind s=.ok ⟨[],[],[],[],none,0,0⟩) (t:DsA kind org a ls sts c):DsA kind org a (s::ls) (⟨[],[],[],[],none,0,0⟩::sts) c :=
 DsA.cons (c:=[]) (v:=[]) h rfl (fun _=>rfl) (fun _=>rfl) rfl t
structure ItL (kind:Int) (a:Nat) (l:List It) (st:ASt) (c:Bs):Prop where
 ok:okI l
 par:qT kind (tkI l)=.ok st
 lab:st.label=[]
 cd:∃v,(∀lb,wB lb st.l=.ok v)∧∀a',cdA { st with at_:=a' } v a=.ok c
 size:st.size=c.length
theorem put_len (n k:Nat):(uK n k).length=k:=by
 induction k generalizing n with
 | zero=>rfl
 | succ k ih=>show (uK (n/256) k).length+1=_;rw[ih]
theorem itl_Q {i:QI}{w:Nat}(hm:i.imm<4294967296) (he:uF i=some w) {a:Nat}(ha:a<4294967296):∃l st,lnQ i a=txI l∧ItL 2 a l st (uK w 4):=by
 obtain⟨l,st,h⟩:=line_Q (vQ_of hm (by rw[he];rfl)) ha;obtain⟨op,v,hf,hv,j,hj,hi⟩:=h.ins;refine⟨l,st,h.tx,h.ok,h.par,h.lab,⟨v,hv,fun a'=>?_⟩,by rw[h.size,put_len]⟩;unfold cdA;dsimp only;rw[hf];dsimp only;unfold sM;dsimp only;rw[hj]
 by_cases hq:sP op=true
 ·rw[Kz hq] at hi ⊢;rw[Kz hi.1,hi.2,he]
 ·rw[Ky hq] at hi ⊢;rw[hi,he]
inductive ItLs (kind:Int) (org:Nat):Nat→List Bs→List (List It)→List ASt→Bs→Prop
 | nil (a:Nat):ItLs kind org a [] [] [] []
 | cons {a:Nat} {s:Bs} {l:List It} {st:ASt} {ss:List Bs} {ls:List (List It)} {sts:List ASt} {c d:Bs} (hx:s=txI l) (h:ItL kind ((org+a)%4294967296) l st c) (t:ItLs kind org (a+c.length) ss ls sts d):ItLs kind org a (s::ss) (l::ls) (st::sts) (c++d)
theorem linA_lines:∀{ls:List Bs},(∀x∈ls,NoNl x)→xA (linesB ls)=ls++[[]]
 | [],_=>rfl
 | x::ls,h=>by
  have ih:=linA_lines fun y hy=>h y (Kq _ hy);show xA (x++[10]++linesB ls)=_;rw[Kn,List.singleton_append,linA_app _ (h x (by simp)),ih];rfl
theorem ItLs.nl {kind:Int}{org a:Nat}{ss:List Bs}{ls:List (List It)}{sts:List ASt}{c:Bs}(h:ItLs kind org a ss ls sts c):∀x∈ss,NoNl x:=by
 induction h with
 | nil a=>intro x hx;cases hx
 | cons hx h _ ih =>
  intro x hm;rcases List.mem_cons.1 hm with rfl|hm
  ·rw[hx];exact okI_nl h.ok
  ·exact ih x hm
theorem ItLs.ds {kind:Int}{org a:Nat}{ss:List Bs}{ls:List (List It)}{sts:List ASt}{c:Bs}(h:ItLs kind org a ss ls sts c):DsA kind org a ss sts c:=by
 induction h with
 | nil a=>exact .nil a
 | cons hx h _ ih =>
  obtain⟨v,h1,h2⟩:=h.cd;exact .cons (by rw[hx,liA_it kind h.ok];exact h.par) h.lab h1 h2 h.size ih
theorem li_empty (kind:Int):liA kind []=.ok ⟨[],[],[],[],none,0,0⟩:=by
 unfold liA;rw[lexA_no (fun _ h=>absurd h (by simp)),lexD_nil];show qT kind []=_;unfold qT;rw[Ky (by simp)];unfold stmA;rw[Kz rfl]
theorem DsA.end {kind:Int}{org a:Nat}{ss:List Bs}{sts:List ASt}{c:Bs}(h:DsA kind org a ss sts c):DsA kind org a (ss++[[]]) (sts++[⟨[],[],[],[],none,0,0⟩]) c:=by
 have:=h.app (.empty (li_empty kind) (.nil _))
 rwa [Ac] at this
end Go.Proofs.YtkaepknpplhgkaaGreatDoor
namespace Go.Proofs.YtkaepknpplhgkaaGreatDoor
open Go.RowKit
section
variable {P:Program}{n:Fr}{m:List (Nat×Value)}{ty:TypeId}{H:World→Prop}
theorem eqFields_ints {xs ys:Array Value}(d:Nat):∀(fs:List Field),(∀f∈fs,f.name ≠ "_"∧∃k a b,P.underlying f.type=some (.int k)∧xs[f.offset]? = some (.int k a)∧ys[f.offset]? = some (.int k b))→∃r:Bool,(∀w,(Op.eqFields (d+1) xs ys fs).run P w=.ok r w)∧(r=true↔∀f∈fs,xs[f.offset]? = ys[f.offset]?)
 | [],_=>⟨true,fun w=>by simp[Op.eqFields],by simp⟩
 | f::fs,h=>by
  obtain⟨hn,k,a,b,ht,hx,hy⟩:=h f (Kk ..);obtain⟨r,h1,h2⟩:=eqFields_ints d fs fun g hg=>h g (Kq _ hg);refine⟨a==b&&r,fun w=>?_,?_⟩
  ·have p1:=run_part1 (P:=P) ht rfl hx w;have p2:=run_part1 (P:=P) ht rfl hy w;have p3:=run_equalIn_int (P:=P) w d f.type k k a b ht;simp only[Op.eqFields,Sem.run_bind,Sem.run_ite,Kz hn,p1,p2,p3,Result.andThen_ok,Sem.run_pure]
   by_cases hab:a=b
   ·simp[hab,h1 w]
   ·simp[hab]
  ·rw[Kt,h2]
   constructor
   ·rintro⟨e1,e2⟩ g hg
    rcases List.mem_cons.1 hg with rfl|hg
    ·rw[hx,hy,Ki e1]
    ·exact e2 g hg
   ·intro e;refine⟨?_,fun g hg=>e g (Kq _ hg)⟩;have:=e f (Kk ..);rw[hx,hy] at this;simp only[Option.some.injEq,Value.int.injEq] at this;simp[this.2]
end
theorem eqKi (o o':KI) (w:World):(Op.equalIn 10000 35 (.agg (kiC o).toArray) (.agg (kiC o').toArray)).run Tryz.prog w=.ok (decide (o=o')) w:=by
 have hf:Tryz.prog.underlying 35=some (.struct (Tryz.prog.fieldsOf 35)):=by kernel_rfl
 rw[show (10000:Nat)=9999+1 from rfl,run_equalIn_struct (P:=Tryz.prog) w 9999 35 _ _ hf (by kernel_rfl)];have hfs:=hf.symm.trans Tryz.underlying35;injection hfs with hfs;injection hfs with hfs
 obtain⟨r,h1,h2⟩:=eqFields_ints (P:=Tryz.prog) (xs:=(kiC o).toArray) (ys:=(kiC o').toArray) 9998 (Tryz.prog.fieldsOf 35).toList (by
  rw[hfs];intro f hf;simp only[List.mem_cons,List.not_mem_nil,or_false] at hf;rcases hf with rfl|rfl|rfl|rfl|rfl|rfl|rfl
  ·exact⟨by decide,_,_,_,Tryz.underlying3,rfl,rfl⟩
  ·exact⟨by decide,_,_,_,Tryz.underlying3,rfl,rfl⟩
  ·exact⟨by decide,_,_,_,Tryz.underlying3,rfl,rfl⟩
  ·exact⟨by decide,_,_,_,Tryz.underlying3,rfl,rfl⟩
  ·exact⟨by decide,_,_,_,Tryz.underlying3,rfl,rfl⟩
  ·exact⟨by decide,_,_,_,Tryz.underlying22,rfl,rfl⟩
  ·exact⟨by decide,_,_,_,Tryz.underlying3,rfl,rfl⟩)
 rw[hfs] at h2
 have e:r=decide (o=o'):=by
  rw[Jw,h2,decide_eq_true_iff]
  constructor
  ·intro h;have a0:=h _ (Kk ..);have a1:=h _ (Kq _ (Kk ..));have a2:=h _ (Kq _ (Kq _ (Kk ..)));have a3:=h _ (Kq _ (Kq _ (Kq _ (Kk ..))));have a4:=h _ (Kq _ (Kq _ (Kq _ (Kq _ (Kk ..)))));have a5:=h _ (Kq _ (Kq _ (Kq _ (Kq _ (Kq _ (Kk ..))))));have a6:=h _ (Kq _ (Kq _ (Kq _ (Kq _ (Kq _ (Kq _ (Kk ..)))))));obtain⟨x0,x1,x2,x3,x4,x5,x6⟩:=o;obtain⟨y0,y1,y2,y3,y4,y5,y6⟩:=o';have b0:x0=y0:=by injection a0 with a0;injection a0
   have b1:x1=y1:=by injection a1 with a1;injection a1
   have b2:x2=y2:=by injection a2 with a2;injection a2
   have b3:x3=y3:=by injection a3 with a3;injection a3
   have b4:x4=y4:=by injection a4 with a4;injection a4
   have b5:x5=y5:=by injection a5 with a5;injection a5 with _ a5;exact Int.ofNat_inj.1 a5
   have b6:x6=y6:=by injection a6 with a6;injection a6
   rw[b0,b1,b2,b3,b4,b5,b6]
  ·rintro rfl f _
   rfl
 rw[← e];exact h1 w
theorem ndL_fm:∀{n:Nat}{l:List Fld}{op:Int},fmtK op=some (n,l)→n=1+ndL l∧l.length≤3∧0≤op∧op<256:=by
 intro n l op h;rcases fmtK_cases h with ⟨_,_,rfl,rfl⟩|⟨_,_,rfl,rfl⟩|⟨_,_,rfl,rfl⟩|⟨_,_,rfl,rfl⟩|⟨_,_,rfl,rfl⟩|⟨_,_,rfl,rfl⟩|⟨_,_,rfl,rfl⟩|⟨_,_,rfl,rfl⟩|⟨_,_,rfl,rfl⟩|⟨_,rfl,rfl⟩|⟨_,_,rfl,rfl⟩<;>exact⟨by decide,by decide,by omega,by omega⟩
theorem putK_nd (i:KI):∀l,(vY i l).length=ndL l
 | []=>rfl
 | f::l=>by
  have:(putF i f).length=ndF f:=by
   cases f
   case full=>exact rR _ _
   case index=>show (if i.index<0 then [8] else [_]).length=1;split<;>rfl
   all_goals rfl
  show (putF i f++vY i l).length=ndF f+ndL l;rw[Jt,this,putK_nd i l]
def sL (i:KI):Bool:=(encK i).isSome
theorem validK_no {i:KI}(h:fmtK i.op=none):sL i=false:=by unfold sL encK;rw[h];rfl
theorem validK_some {i:KI}{n:Nat}{l:List Fld}(h:fmtK i.op=some (n,l)):sL i=(decide (i.size=n)&&rngK i&&decide (wP (vY i l) ⟨i.op,0,0,-1,0,0,n⟩ l=i)):=by
 unfold sL encK;rw[h];dsimp only
 by_cases h1:i.size=n
 ·by_cases h2:rngK i=true
  ·by_cases h3:wP (vY i l) ⟨i.op,0,0,-1,0,0,n⟩ l=i
   ·rw[Kz ⟨h1,h2,h3⟩,Ae h1,h2,Ae h3];rfl
   ·rw[Ky (fun hh=>h3 hh.2.2),Af h3,Bool.and_false];rfl
  ·rw[Ky (fun hh=>h2 hh.2.1)];simp only[Bool.not_eq_true] at h2;rw[h2,Bool.and_false,Bool.false_and];rfl
 ·rw[Ky (fun hh=>h1 hh.1),Af h1,Bool.false_and,Bool.false_and];rfl
theorem valid_any (i:KI) (hi:i.imm<4294967296) (w_0:World):Calls Tryz.prog 58 #[.agg (kiC i).toArray] w_0 fun e w'=>e=.returned (.bool (sL i))∧Ext w_0 w':=by
 have hk:=fmtK_P i.op;have hf:=fun w=>find_any i.op w;unfold FdPost at hf
 cases hp:fmtP i.op with
 | none =>
  rw[hp] at hk hf;have hv:=validK_no hk;refine zM (args:=[.agg (kiC i).toArray]) Tryz.func58 M 39 M (Jy M)<|Z1 0 M<|zU (H':=Hp (fun _=>False) w_0 [] [] (fun _=>True)) (fun u hu=>?_) ?_
  ·subst hu;exact Hp.start0
  refine zX<|zZ<|zG .none M (yG M M) (fun b1=>?_);refine Za M M<|ZX<|zZ<|ZF M (zY (off:=0) (sz:=0) M Tryz.underlying35 (by kernel_rfl) M) ?_;refine ZF M (zW 0 M M M Tryz.underlying3 M)<|zE .none M  (v:=.tuple #[.agg zFm.toArray,.bool false]) (by kernel_rfl) M (fun w hw=>(hf w).mono fun e w' ⟨h1,h2⟩=>⟨h2,h1⟩) ?_;refine Zm M M<|ZF M (yX M M)<|ZF M (yX M M)<|zG .none M (yT (z:=Ja) (cs:=Jk) (by kernel_rfl) M) (fun b3=>?_);refine ZR 0 M M M M M (by kernel_rfl) ?_;refine Za M M<|ZX<|zX<|Z5r 0 1 2 3 4 M M M M M<|Zm M M<|ZF M (xD M)<|Zm M M<|zF 13 M (fun hb=>?_) (fun hb=>?_)
  ·refine ZP M<|ZP M<|ZP M<|ZP M<|ZP M<|ZF M (zL M M)<|Zm M M<|ZP M<|ZP M<|ZP M<|ZF M (zL M M)<|ZT<|sX M<|zX<|Z6r 0 1 2 3 4 24 M M M M M M<|Za M M<|ZT<|zS<|zO<|zQ M M (fun w hw=>?_);exact⟨by rw[hv],(Kb hw).ext⟩
  ·exact absurd hb (by decide)
 | some p =>
  rw[hp] at hk hf;have hk':fmtK i.op=some (p.2.2.1,p.2.2.2):=hk;obtain⟨hn1,hn3,ho0,ho1⟩:=ndL_fm hk';have hv:=validK_some hk';have hpl:=putK_nd i p.2.2.2;have hlow:(((vL i.op).toNat:Nat):Int)=i.op:=by rw[lowB_nat];omega
  have hnd:ndL p.2.2.2≤100:=by
   have:∀l:List Fld,ndL l≤4*l.length:=by
    intro l
    induction l with
    | nil=>exact Kw _
    | cons f l ih =>
     have:ndF f≤4:=by cases f<;>decide
     show ndF f+ndL l≤4*(l.length+1);omega
   have:=this p.2.2.2;omega
  refine zM (args:=[.agg (kiC i).toArray]) Tryz.func58 M 39 M (Jy M)<|Z1 0 M<|zU (H':=Hp (fun _=>False) w_0 [] [] (fun _=>True)) (fun u hu=>?_) ?_
  ·subst hu;exact Hp.start0
  refine zX<|zZ<|zG .none M (yG M M) (fun b1=>?_);refine Za M M<|ZX<|zZ<|ZF M (zY (off:=0) (sz:=0) M Tryz.underlying35 (by kernel_rfl) M) ?_;refine ZF M (zW 0 M M M Tryz.underlying3 M)<|yI (ι:=Value×Value) (C:=fun v=>IsFn Tryz.prog v.1∧IsFn Tryz.prog v.2) (val:=fun v=>.tuple #[.agg (fmC p v).toArray,.bool true]) (TT:=fun v=>FmV p v) .none M  (by kernel_rfl) M (fun _ h=>h.elim) (fun _=>FmV.lies) (fun w hw=>(hf w).mono fun e w' ⟨h1,v,h2,h3⟩=>⟨v,⟨take_fn h3.1,put_fn h3.2⟩,h2,h1,h3⟩) (fun v F hfn hF=>?_);obtain⟨v1,v2⟩:=v;obtain⟨⟨f1,c1,e1,g1⟩,⟨f2,c2,e2,g2⟩⟩:=hfn;dsimp only at e1 e2;subst e1;subst e2;refine Zm M M<|ZF M (yX M M)<|ZF M (yX M M)<|zG .none M (yT (z:=Ja) (cs:=Jk) (by kernel_rfl) M) (fun b3=>?_);refine ZR 0 M M M M M (by kernel_rfl) ?_;refine Za M M<|ZX<|zX<|Z5r 0 1 2 3 4 M M M M M<|Zm M M<|ZF M (xD M)<|Zm M M<|zF 13 M (fun hb=>?_) (fun hb=>?_)
  ·exact absurd hb (by decide)
  ·refine ZG M M M (zY (off:=6) (sz:=0) M Tryz.underlying35 (by kernel_rfl) M) ?_;refine ZG M M M (zW 1 M M M Tryz.underlying3 M)<|ZG M M M (zY (off:=2) (sz:=0) M Tryz.underlying135 (by kernel_rfl) M) ?_;refine ZG M M M (zW 0 M M M Tryz.underlying3 M)<|ZG M M M (qW M M)<|ZF M (zN M M)<|Zm M M<|zF 20 M (fun h10=>?_) (fun h10=>?_)
   ·replace h10:=qY h10;refine ZP M<|ZP M<|ZP M<|ZF M (zL M M)<|ZT<|sX M<|zX<|Z6r 0 1 2 3 4 24 M M M M M M<|Za M M<|ZT<|zS<|zO<|zQ M M (fun w hw=>?_);exact⟨by rw[hv,Af h10];rfl,(Kb hw).ext⟩
   ·replace h10:=bne_no h10;refine ZG M M M (yS 1 M M Tryz.underlying35 M (by kernel_rfl)) ?_;refine zE (.some M M) M  (v:=.bool (rngK i)) (by kernel_rfl) M (fun w hw=>ranges_any i w) ?_;refine ZG M M M (xD M)<|ZF M (zN M M)<|ZT<|zT M (fun h24=>?_) (fun h24=>?_)
    ·refine zX<|Z6r 0 1 2 3 4 24 M M M M M M<|Za M M<|ZT<|zS<|zO<|zQ M M (fun w hw=>?_);exact⟨by rw[hv,show rngK i=false by simpa using h24,Bool.and_false,Bool.false_and],(Kb hw).ext⟩
    ·have hrg:rngK i=true:=by simpa using h24
     refine zH<|zR<|zX<|Z6 0 1 2 3 4 24 M M M M M M<|sU (γ:=Nat) [(1,.pointer (some ⟨b1,0,none⟩)),(3,.pointer (some ⟨b3,0,none⟩))] [(0,25,fun g=>.agg (fmC p (fcV f1 c1,fcV f2 c2)).toArray),(1,26,fun g=>.pointer (some ⟨b1,0,none⟩)),(2,27,fun g=>.int .i64 i.op),(3,28,fun g=>.int .u8 (vL i.op).toNat),(4,29,fun g=>.slice (some ⟨g,0,none⟩) 1 1),(5,30,fun g=>.string ⟨[vL i.op].toArray⟩),(6,31,fun g=>.pointer (some ⟨b3,4,none⟩)),(7,32,fun g=>fcV f2 c2),(8,33,fun g=>.agg (kiC i).toArray),(9,34,fun g=>.string ⟨(vY i p.2.2.2).toArray⟩),(10,35,fun g=>.string ⟨([vL i.op]++vY i p.2.2.2).toArray⟩),(11,36,fun g=>.agg (kiC (wP (vY i p.2.2.2) ⟨i.op,0,0,-1,0,0,p.2.2.1⟩ p.2.2.2)).toArray),(12,37,fun g=>.agg (kiC i).toArray),(13,38,fun g=>.bool (decide (wP (vY i p.2.2.2) ⟨i.op,0,0,-1,0,0,p.2.2.1⟩ p.2.2.2=i))),(14,2,fun g=>.bool (decide (wP (vY i p.2.2.2) ⟨i.op,0,0,-1,0,0,p.2.2.1⟩ p.2.2.2=i)))] (fun D g=>fun w=>Hp (fun _=>False) w_0 [(b3,bk 135 (fmC p (fcV f1 c1,fcV f2 c2))),(b1,kiO i)] [] (fun u=>FmV p (fcV f1 c1,fcV f2 c2) F u∧True) w∧(D 4=true→Blk g (bk 5 [.int .u8 (vL i.op).toNat]) w)) [[],[],[1],[2],[3],[4],[],[6],[],[7,8],[5,9],[0,10],[],[11,12],[13]] 0 (by kernel_rfl) (by kernel_rfl) (by kernel_rfl) (O2 M M) (fun D w h hw=>⟨Hp.drew hw,fun h4=>by rw[h 4 (by decide)] at h4;cases h4⟩) ⟨?_,?_,?_,?_,?_,?_,?_,?_,?_,?_,?_,?_,?_,?_,?_,trivial⟩ (fun g=>?_)
     ·intro D g hD hd;refine yU (v:=.agg (fmC p (fcV f1 c1,fcV f2 c2)).toArray) ?_ M (fun w h=>h);refine xP (cs:=fmC p (fcV f1 c1,fcV f2 c2)) M Tryz.underlying135 M (by kernel_rfl) (fun w hw=>(HpG.range (k:=0) hw.1 M fun j v hj=>by rw[Ku];exact hj))
     ·intro D g hD hd;refine yU (v:=.pointer (some ⟨b1,0,none⟩)) ?_ M (fun w h=>h);refine zY (off:=0) (sz:=0) M Tryz.underlying35 (by kernel_rfl) rfl
     ·intro D g hD hd;have hd1:D 1=true:=hd 1 (by simp);refine yU (v:=.int .i64 i.op) ?_ M (fun w h=>h);refine zD M Tryz.underlying3 M (fun w hw=>HpG.cell (k:=1) hw.1 M M)
     ·intro D g hD hd;have hd2:D 2=true:=hd 2 (by simp)
      refine yU (v:=.int .u8 (vL i.op).toNat) ?_ M (fun w h=>h);refine yQ M (by kernel_rfl) Tryz.underlying5 (low_w i.op)
     ·intro D g hD hd;have hd3:D 3=true:=hd 3 (by simp);refine oi_new (xH (z:=.int .u8 0) M M Tryz.underlying53 (by kernel_rfl) (by kernel_rfl) M M) (fun w hw=>⟨w.heap.size,rfl,?_,HpG.onE hw.1 (Ext.alloc (Ext.refl w) _),fun _=>heap_alloc_new w _⟩)
      repeat' (first|exact trivial|apply And.intro|(intro _;rfl)|(intro h;rw[hD] at h;cases h))
     ·intro D g hD hd;have hd4:D 4=true:=hd 4 (by simp)
      refine yU (v:=.string ⟨[vL i.op].toArray⟩) ?_ M (fun w h=>h);refine yf_convB [vL i.op] M (fun w hw=>hw.2 hd4) Tryz.underlying53 Tryz.underlying5 Tryz.underlying9 M (rQ (vL i.op))
     ·intro D g hD hd;refine yU (v:=.pointer (some ⟨b3,4,none⟩)) ?_ M (fun w h=>h);refine zY (off:=4) (sz:=0) M Tryz.underlying135 (by kernel_rfl) rfl
     ·intro D g hD hd;have hd6:D 6=true:=hd 6 (by simp);refine yU (v:=fcV f2 c2) ?_ M (fun w h=>h);refine zD M Tryz.underlying133 M (fun w hw=>HpG.cell (k:=0) hw.1 M M)
     ·intro D g hD hd;refine yU (v:=.agg (kiC i).toArray) ?_ M (fun w h=>h);refine xP (cs:=kiC i) M Tryz.underlying35 M (by kernel_rfl) (fun w hw=>(HpG.range (k:=1) hw.1 M fun j v hj=>by rw[Ku];exact hj))
     ·intro D g hD hd;have hd7:D 7=true:=hd 7 (by simp);have hd8:D 8=true:=hd 8 (by simp);refine oi_callV (us:=[]) (vs:=[.agg (kiC i).toArray]) (cs:=c2) g2 M M (fun w hw=>put_call (HpG.x hw.1).1.2 hrg hi (by omega)) M (fun w w' hw hx=>⟨HpG.onE hw.1 hx,fun h=>(hw.2 h).onE hx⟩)
     ·intro D g hD hd;have hd5:D 5=true:=hd 5 (by simp);have hd9:D 9=true:=hd 9 (by simp);refine yU (v:=.string ⟨([vL i.op]++vY i p.2.2.2).toArray⟩) ?_ M (fun w h=>h);refine zB M M ?_;(· first|omega|simp<;>omega)
     ·intro D g hD hd;have hd0:D 0=true:=hd 0 (by simp);have hd10:D 10=true:=hd 10 (by simp);refine oi_call (v:=.agg (kiC (wP (vY i p.2.2.2) ⟨i.op,0,0,-1,0,0,p.2.2.1⟩ p.2.2.2)).toArray) (by kernel_rfl) M (fun w hw=>?_) M (fun w w' hw hx=>⟨HpG.onE hw.1 hx,fun h=>(hw.2 h).onE hx⟩);have:=read_any p f1 f2 c1 c2 g1 F ([vL i.op]++vY i p.2.2.2) (vL i.op) rfl (by rw[Jt,hpl];exact Kw _) (by rw[Jt,hpl];show 1+_≤_;omega) (by omega) w (HpG.x hw.1).1.1;rw[hlow] at this;exact this
     ·intro D g hD hd;refine yU (v:=.agg (kiC i).toArray) ?_ M (fun w h=>h);refine xP (cs:=kiC i) M Tryz.underlying35 M (by kernel_rfl) (fun w hw=>(HpG.range (k:=1) hw.1 M fun j v hj=>by rw[Ku];exact hj))
     ·intro D g hD hd;have hd11:D 11=true:=hd 11 (by simp);have hd12:D 12=true:=hd 12 (by simp);refine yU (v:=.bool (decide (wP (vY i p.2.2.2) ⟨i.op,0,0,-1,0,0,p.2.2.1⟩ p.2.2.2=i))) ?_ M (fun w h=>h);refine yf_eqlAgg (r:=decide (wP (vY i p.2.2.2) ⟨i.op,0,0,-1,0,0,p.2.2.1⟩ p.2.2.2=i)) M M (by kernel_rfl) (fun w=>eqKi _ _ w)
     ·intro D g hD hd;have hd13:D 13=true:=hd 13 (by simp);refine yU (v:=.bool (decide (wP (vY i p.2.2.2) ⟨i.op,0,0,-1,0,0,p.2.2.1⟩ p.2.2.2=i))) ?_ M (fun w h=>h);refine wF rfl
     ·refine wq_to (m':=[(1,.pointer (some ⟨b1,0,none⟩)),(3,.pointer (some ⟨b3,0,none⟩)),(2,.bool (decide (wP (vY i p.2.2.2) ⟨i.op,0,0,-1,0,0,p.2.2.1⟩ p.2.2.2=i)))]) (H':=Hp (fun _=>False) w_0 [] [] (fun _=>True)) ?_ (O3 M M M) (fun w hw=>Hp.weakX (Hp.drop hw.1 (List.nil_sublist _) (.refl _)) fun _ _=>trivial);refine zR<|zS<|zQ M M (fun w hw=>?_);exact⟨by rw[hv,Ae h10,hrg];rfl,(Kb hw).ext⟩
end Go.Proofs.YtkaepknpplhgkaaGreatDoor
namespace Go.Proofs.YtkaepknpplhgkaaGreatDoor
open Go.RowKit
theorem encode_any (i:KI) (hi:i.imm<4294967296) (w_0:World):Calls Tryz.prog 168 #[.agg (kiC i).toArray] w_0 fun e w'=>e=.returned (.tuple #[.string ⟨((encK i).getD []).toArray⟩,.int .i64 (if sL i=true then 0 else 12)])∧Ext w_0 w':=by
 have hk:=fmtK_P i.op;have hf:=fun w=>find_any i.op w;unfold FdPost at hf
 cases hvd:sL i with
 | false =>
  have hn:encK i=none:=by
   unfold sL at hvd
   cases he:encK i with
   | none=>rfl
   | some c=>rw[he] at hvd;cases hvd
  rw[hn];refine zM (args:=[.agg (kiC i).toArray]) Tryz.func168 M 25 M (Jy M)<|Z1 0 M<|zU (H':=Hp (fun _=>False) w_0 [] [] (fun _=>True)) (fun u hu=>?_) ?_
  ·subst hu;exact Hp.start0
  refine zX<|zZ<|zG .none M (yG M M) (fun b1=>?_);refine Za M M<|Za M M<|ZX<|zX<|zZ<|ZF M (yS 0 M M Tryz.underlying35 M (by kernel_rfl)) ?_;refine zE .none M  (v:=.bool false) (by kernel_rfl) M (fun w hw=>(valid_any i hi w).mono fun e w' ⟨h1,h2⟩=>⟨by rw[h1,hvd],h2⟩) ?_;refine ZF M (xD M)<|ZT<|zT M (fun h8=>?_) (fun h8=>?_)
  ·refine zX<|Z5r 0 1 2 3 8 M M M M M<|Za M M<|Za M M<|ZT<|zS<|zO<|sZ M M M (fun w hw=>?_);exact⟨rfl,(Kb hw).ext⟩
  ·exact absurd h8 (by decide)
 | true =>
  obtain⟨cd,hcd⟩:∃c,encK i=some c:=by
   unfold sL at hvd;exact Option.isSome_iff_exists.1 hvd
  obtain⟨z,l,hfk,_,hrg,hcd2⟩:=encK_rng hcd
  cases hp:fmtP i.op with
  | none=>rw[hp] at hk;rw[hk] at hfk;cases hfk
  | some p =>
   rw[hp] at hk hf;have hk':fmtK i.op=some (p.2.2.1,p.2.2.2):=hk;rw[hfk] at hk';cases hk';obtain⟨hn1,hn3,ho0,ho1⟩:=ndL_fm hfk;have hpl:=putK_nd i p.2.2.2
   have hnd:ndL p.2.2.2≤100:=by
    have:∀l:List Fld,ndL l≤4*l.length:=by
     intro l
     induction l with
     | nil=>exact Kw _
     | cons f l ih =>
      have:ndF f≤4:=by cases f<;>decide
      show ndF f+ndL l≤4*(l.length+1);omega
    have:=this p.2.2.2;omega
   rw[hcd,hcd2];refine zM (args:=[.agg (kiC i).toArray]) Tryz.func168 M 25 M (Jy M)<|Z1 0 M<|zU (H':=Hp (fun _=>False) w_0 [] [] (fun _=>True)) (fun u hu=>?_) ?_
   ·subst hu;exact Hp.start0
   refine zX<|zZ<|zG .none M (yG M M) (fun b1=>?_);refine Za M M<|Za M M<|ZX<|zX<|zZ<|ZF M (yS 0 M M Tryz.underlying35 M (by kernel_rfl)) ?_;refine zE .none M  (v:=.bool true) (by kernel_rfl) M (fun w hw=>(valid_any i hi w).mono fun e w' ⟨h1,h2⟩=>⟨by rw[h1,hvd],h2⟩) ?_;refine ZF M (xD M)<|ZT<|zT M (fun h8=>?_) (fun h8=>?_)
   ·exact absurd h8 (by decide)
   ·refine zH<|zR<|zX<|Z5r 0 1 2 3 8 M M M M M<|ZF M (zY (off:=0) (sz:=0) M Tryz.underlying35 (by kernel_rfl) M) ?_;refine ZF M (zW 0 M M M Tryz.underlying3 M)<|yI (ι:=Value×Value) (C:=fun v=>IsFn Tryz.prog v.1∧IsFn Tryz.prog v.2) (val:=fun v=>.tuple #[.agg (fmC p v).toArray,.bool true]) (TT:=fun v=>FmV p v) .none M  (by kernel_rfl) M (fun _ h=>h.elim) (fun _=>FmV.lies) (fun w hw=>(hf w).mono fun e w' ⟨h1,v,h2,h3⟩=>⟨v,⟨take_fn h3.1,put_fn h3.2⟩,h2,h1,h3⟩) (fun v F hfn hF=>?_);obtain⟨v1,v2⟩:=v;obtain⟨⟨f1,c1,e1,g1⟩,⟨f2,c2,e2,g2⟩⟩:=hfn;dsimp only at e1 e2;subst e1;subst e2;refine Zm M M<|ZF M (yX M M)<|ZF M (yX M M)<|zG .none M (yT (z:=Ja) (cs:=Jk) (by kernel_rfl) M) (fun b4=>?_);refine ZR 0 M M M M M (by kernel_rfl) ?_;refine Za M M<|ZX<|Z6 0 1 2 3 4 8 M M M M M M<|sU (γ:=Nat) [(1,.pointer (some ⟨b1,0,none⟩)),(4,.pointer (some ⟨b4,0,none⟩))] [(0,15,fun g=>.pointer (some ⟨b1,0,none⟩)),(1,16,fun g=>.int .i64 i.op),(2,17,fun g=>.int .u8 (vL i.op).toNat),(3,18,fun g=>.slice (some ⟨g,0,none⟩) 1 1),(4,19,fun g=>.string ⟨[vL i.op].toArray⟩),(5,20,fun g=>.pointer (some ⟨b4,4,none⟩)),(6,21,fun g=>fcV f2 c2),(7,22,fun g=>.agg (kiC i).toArray),(8,23,fun g=>.string ⟨(vY i p.2.2.2).toArray⟩),(9,24,fun g=>.string ⟨([vL i.op]++vY i p.2.2.2).toArray⟩),(10,2,fun g=>.string ⟨([vL i.op]++vY i p.2.2.2).toArray⟩),(11,3,fun g=>.int .i64 0)] (fun D g=>fun w=>Hp (fun _=>False) w_0 [(b4,bk 135 (fmC p (fcV f1 c1,fcV f2 c2))),(b1,kiO i)] [] (fun u=>FmV p (fcV f1 c1,fcV f2 c2) F u∧True) w∧(D 3=true→Blk g (bk 5 [.int .u8 (vL i.op).toNat]) w)) [[],[0],[1],[2],[3],[],[5],[],[6,7],[4,8],[9],[]] 0 (by kernel_rfl) (by kernel_rfl) (by kernel_rfl) (O2 M M) (fun D w h hw=>⟨Hp.drew hw,fun h4=>by rw[h 3 (by decide)] at h4;cases h4⟩) ⟨?_,?_,?_,?_,?_,?_,?_,?_,?_,?_,?_,?_,trivial⟩ (fun g=>?_)
    ·intro D g hD hd;refine yU (v:=.pointer (some ⟨b1,0,none⟩)) ?_ M (fun w h=>h);refine zY (off:=0) (sz:=0) M Tryz.underlying35 (by kernel_rfl) rfl
    ·intro D g hD hd;have hd0:D 0=true:=hd 0 (by simp);refine yU (v:=.int .i64 i.op) ?_ M (fun w h=>h);refine zD M Tryz.underlying3 M (fun w hw=>HpG.cell (k:=1) hw.1 M M)
    ·intro D g hD hd;have hd1:D 1=true:=hd 1 (by simp)
     refine yU (v:=.int .u8 (vL i.op).toNat) ?_ M (fun w h=>h);refine yQ M (by kernel_rfl) Tryz.underlying5 (low_w i.op)
    ·intro D g hD hd;have hd2:D 2=true:=hd 2 (by simp);refine oi_new (xH (z:=.int .u8 0) M M Tryz.underlying53 (by kernel_rfl) (by kernel_rfl) M M) (fun w hw=>⟨w.heap.size,rfl,?_,HpG.onE hw.1 (Ext.alloc (Ext.refl w) _),fun _=>heap_alloc_new w _⟩)
     repeat' (first|exact trivial|apply And.intro|(intro _;rfl)|(intro h;rw[hD] at h;cases h))
    ·intro D g hD hd;have hd3:D 3=true:=hd 3 (by simp)
     refine yU (v:=.string ⟨[vL i.op].toArray⟩) ?_ M (fun w h=>h);refine yf_convB [vL i.op] M (fun w hw=>hw.2 hd3) Tryz.underlying53 Tryz.underlying5 Tryz.underlying9 M (rQ (vL i.op))
    ·intro D g hD hd;refine yU (v:=.pointer (some ⟨b4,4,none⟩)) ?_ M (fun w h=>h);refine zY (off:=4) (sz:=0) M Tryz.underlying135 (by kernel_rfl) rfl
    ·intro D g hD hd;have hd5:D 5=true:=hd 5 (by simp);refine yU (v:=fcV f2 c2) ?_ M (fun w h=>h);refine zD M Tryz.underlying133 M (fun w hw=>HpG.cell (k:=0) hw.1 M M)
    ·intro D g hD hd;refine yU (v:=.agg (kiC i).toArray) ?_ M (fun w h=>h);refine xP (cs:=kiC i) M Tryz.underlying35 M (by kernel_rfl) (fun w hw=>(HpG.range (k:=1) hw.1 M fun j v hj=>by rw[Ku];exact hj))
    ·intro D g hD hd;have hd6:D 6=true:=hd 6 (by simp);have hd7:D 7=true:=hd 7 (by simp);refine oi_callV (us:=[]) (vs:=[.agg (kiC i).toArray]) (cs:=c2) g2 M M (fun w hw=>put_call (HpG.x hw.1).1.2 hrg hi (by omega)) M (fun w w' hw hx=>⟨HpG.onE hw.1 hx,fun h=>(hw.2 h).onE hx⟩)
    ·intro D g hD hd;have hd4:D 4=true:=hd 4 (by simp);have hd8:D 8=true:=hd 8 (by simp);refine yU (v:=.string ⟨([vL i.op]++vY i p.2.2.2).toArray⟩) ?_ M (fun w h=>h);refine zB M M ?_;(· first|omega|simp<;>omega)
    ·intro D g hD hd;have hd9:D 9=true:=hd 9 (by simp);refine yU (v:=.string ⟨([vL i.op]++vY i p.2.2.2).toArray⟩) ?_ M (fun w h=>h);refine wF rfl
    ·intro D g hD hd;refine yU (v:=.int .i64 0) ?_ M (fun w h=>h);refine wF rfl
    ·refine wq_to (m':=[(1,.pointer (some ⟨b1,0,none⟩)),(4,.pointer (some ⟨b4,0,none⟩)),(2,.string ⟨([vL i.op]++vY i p.2.2.2).toArray⟩),(3,.int .i64 0)]) (H':=Hp (fun _=>False) w_0 [] [] (fun _=>True)) ?_ (O4 M M M M) (fun w hw=>Hp.weakX (Hp.drop hw.1 (List.nil_sublist _) (.refl _)) fun _ _=>trivial);refine zR<|zS<|sZ M M M (fun w hw=>?_);exact⟨rfl,(Kb hw).ext⟩
end Go.Proofs.YtkaepknpplhgkaaGreatDoor
