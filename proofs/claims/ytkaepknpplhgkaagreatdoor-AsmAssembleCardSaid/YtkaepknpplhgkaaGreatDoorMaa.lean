import Derived.Test.YtkaepknpplhgkaaGreatDoorMaU
import Derived.Test.YtkaepknpplhgkaaGreatDoorMaZ
import Derived.Laws.IdiomStrings
import Derived.Laws.StructEq
set_option maxRecDepth 100000
namespace Go.Proofs.YtkaepknpplhgkaaGreatDoor
open Go.RowKit
section
variable {P:Program}{Q:Exit→Act→World→Prop}{n:Fr}{γ:Type}
def OCh (P:Program) (o:Oper) (n:Fr) (m:List (Nat×Value)) (H:World→Prop) (R:Value→World→Prop):Prop:=∀a w,Sat n m a→H w→Ch P o a w R
def selI (es:List (Nat×Nat×(γ→Value))) (g:γ):List Nat→List (Nat×Value)
 | []=>[]
 | j::r=>(match es.find? (fun e=>Nat.beq e.1 j) with
  | some e=>[(e.2.1,e.2.2 g)]
  | none=>[])++selI es g r
def updI (D:Nat→Bool) (i:Nat):Nat→Bool:=fun j=>bif Nat.beq j i then true else D j
def AtI (es:List (Nat×Nat×(γ→Value))) (i:Nat) (g:γ) (v:Value):Prop:=match es.find? (fun e=>Nat.beq e.1 i) with
 | some e=>v=e.2.2 g
 | none=>True
def wU (D:Nat→Bool) (g g':γ):List (Nat×Nat×(γ→Value))→Prop
 | []=>True
 | e::r=>(D e.1=true→e.2.2 g'=e.2.2 g)∧wU D g g' r
theorem wU.refl {D:Nat→Bool}{g:γ}:∀{es:List (Nat×Nat×(γ→Value))},wU D g g es
 | []=>trivial
 | _::_=>⟨fun _=>rfl,wU.refl⟩
theorem wU.get {D:Nat→Bool}{g g':γ}:∀{es:List (Nat×Nat×(γ→Value))},wU D g g' es→∀e∈es,D e.1=true→e.2.2 g'=e.2.2 g
 | [],_,_,he=>by cases he
 | x::r,h,e,he=>by
  rcases List.mem_cons.1 he with rfl|he;exact h.1;exact wU.get h.2 e he
def OI (P:Program) (n:Fr) (base:List (Nat×Value)) (es:List (Nat×Nat×(γ→Value))) (HI:(Nat→Bool)→γ→World→Prop) (D:Nat→Bool) (g:γ) (i:Nat) (js:List Nat) (o:Oper):Prop :=
 OCh P o n (selI es g js++base) (HI D g) fun v w'=>∃g',AtI es i g' v∧wU D g g' es∧HI (updI D i) g' w'
def OIs (P:Program) (n:Fr) (base:List (Nat×Value)) (es:List (Nat×Nat×(γ→Value))) (HI:(Nat→Bool)→γ→World→Prop):List (List Nat)→Nat→List Oper→Prop
 | _,_,[]=>True
 | ds,i,o::r=>(∀D g,D i=false→(∀j∈ds.headD [],D j=true)→OI P n base es HI D g i (ds.headD []) o)∧OIs P n base es HI ds.tail (i+1) r
def nodB:List Nat→Bool
 | []=>true
 | x::l=>l.all (fun y=>!Nat.beq x y)&&nodB l
theorem nod_find {es:List (Nat×Nat×(γ→Value))}:nodB (es.map (·.1))=true→∀e∈es,es.find? (fun x=>Nat.beq x.1 e.1)=some e:=by
 induction es with
 | nil=>intro _ e he;cases he
 | cons x r ih =>
  intro h e he;rw[Ai] at h;unfold nodB at h;simp only[Ab,List.all_eq_true] at h;rw[List.find?_cons];rcases List.mem_cons.1 he with rfl|he
  ·have:Nat.beq e.1 e.1=true:=by simp
   rw[this]
  have h1:=h.1 e.1 (List.mem_map.2 ⟨e,he,rfl⟩);have:Nat.beq x.1 e.1=false:=by simpa using h1
  rw[this];exact ih h.2 e he
def drawIB (l:Array Oper) (es:List (Nat×Nat)) (base:List Nat) (n:Nat) (ds:List (List Nat)):Bool :=
 lowerB l&&nodB (es.map (·.1))&&(List.range l.size).all fun i=>match l[i]? with
 | some o=>o.guard.isNone&&(match o.dst with
   | some d=>Nat.blt d n&&!base.contains d&&es.all (fun e=>Nat.beq e.1 i==Nat.beq e.2 d)
   | none=>es.all fun e=>!Nat.beq e.1 i)&&(ds.getD i []).all fun j=>o.after.any fun e=>Region.binds .any e&&Nat.beq e.on j
 | none=>true
structure SatI (n:Fr) (base:List (Nat×Value)) (es:List (Nat×Nat×(γ→Value))) (D:Nat→Bool) (g:γ) (a:Act):Prop where
 base:Sat n base a
 get:∀e∈es,D e.1=true→a.tmps[e.2.1]? = some (e.2.2 g)
theorem SatI.sel {base:List (Nat×Value)}{es:List (Nat×Nat×(γ→Value))}{D:Nat→Bool}{g:γ}{a:Act}(h:SatI n base es D g a):∀js:List Nat,(∀j∈js,D j=true)→Sat n (selI es g js++base) a
 | [],_=>h.base
 | j::r,hj=>by
  have ih:=h.sel r fun i hi=>hj i (Ky _ hi);unfold selI
  cases hf:es.find? (fun e=>Nat.beq e.1 j) with
  | none=>exact ih
  | some e =>
   have he:=List.mem_of_find?_eq_some hf;have hb:e.1=j:=Nat.eq_of_beq_eq_true (List.find?_some (p:=fun e:Nat×Nat×(γ→Value)=>Nat.beq e.1 j) hf);refine⟨ih.size,ih.dfr,fun i v hv=>?_⟩
   by_cases hi:e.2.1=i
   ·subst hi;have:look ((e.2.1,e.2.2 g)::(selI es g r++base)) e.2.1=some v:=hv;rw[qM] at this;cases this;exact h.get e he (by rw[hb];exact hj j (Ks ..))
   have:look ((e.2.1,e.2.2 g)::(selI es g r++base)) i=some v:=hv;rw[vB hi] at this;exact ih.get i v this
theorem OIs.at {base:List (Nat×Value)}{es:List (Nat×Nat×(γ→Value))}{HI:(Nat→Bool)→γ→World→Prop}:∀{r:List Oper}{ds:List (List Nat)}{i k:Nat}{o:Oper},OIs P n base es HI ds i r→r[k]? = some o→∀D g,D (i+k)=false→(∀j∈ds.getD k [],D j=true)→OI P n base es HI D g (i+k) (ds.getD k []) o
 | [],_,_,_,_,_,h=>by cases h
 | x::r,ds,i,0,o,h,ho=>by
  cases ho;have:ds.headD []=ds.getD 0 []:=by cases ds<;>rfl
  rw[← this];exact h.1
 | x::r,ds,i,k+1,o,h,ho=>by
  have:=OIs.at h.2 (k:=k) (by simpa using ho);have e:ds.tail.getD k []=ds.getD (k+1) []:=by cases ds<;>simp
  rw[e,show i+1+k=i+(k+1) by omega] at this;exact this
theorem count_set {l:Array Bool}{i:Nat}(hi:l[i]? = some false):(l.setIfInBounds i true).toList.count false+1=l.toList.count false:=by
 obtain⟨hlt,he⟩:=Kp.1 hi;have h1:(l.setIfInBounds i true).toList=l.toList.set i true:=by simp
 rw[h1]
 have:∀(l:List Bool) (i:Nat),l[i]? = some false→(l.set i true).count false+1=l.count false:=by
  intro l
  induction l with
  | nil=>intro i h;cases h
  | cons x l ih =>
   intro i h
   cases i with
   | zero=>cases h;simp
   | succ i =>
    have:=ih i (by simpa using h);cases x;simp only[List.set_cons_succ,List.count_cons,beq_self_eq_true,if_true];omega;simp only[List.set_cons_succ,List.count_cons];simp;omega
 exact this l.toList i (by rw[Array.getElem?_toList];exact hi)
theorem count_all {l:Array Bool}(h:l.toList.count false=0):∀i,i<l.size→l[i]? = some true:=fun i hi=>by
 have h1:false∉l.toList:=List.count_eq_zero.1 h;rw[Array.getElem?_eq_getElem hi]
 cases hx:l[i] with
 | true=>rfl
 | false=>exact absurd (Array.mem_toList_iff.2 (hx▸Array.getElem_mem hi)) h1
theorem wa_inv {l:List Oper}{base:List (Nat×Value)}{es:List (Nat×Nat×(γ→Value))}{HI:(Nat→Bool)→γ→World→Prop}{ds:List (List Nat)}(hB:drawIB l.toArray (es.map fun e=>(e.1,e.2.1)) (base.map (·.1)) n.s ds=true) (hO:OIs P n base es HI ds 0 l)
  (hend:∀g a w,SatI n base es (fun _=>true) g a→HI (fun _=>true) g w→Q .normal a w):∀(k:Nat) (listed:Array Bool) (g:γ) (a:Act) (w:World),listed.size=l.length→listed.toList.count false=k→SatI n base es (fun i=>listed.getD i true) g a→HI (fun i=>listed.getD i true) g w→wpAny P .any l.toArray Q k listed a w:=by
 unfold drawIB at hB;simp only[Ab,List.all_eq_true,List.mem_range] at hB;obtain⟨⟨hlow,hnod⟩,hB⟩:=hB;rw[List.map_map] at hnod
 have done:∀(listed:Array Bool),listed.size=l.length→listed.toList.count false=0→(fun i=>listed.getD i true)=fun _=>true:=fun listed hs hc=>by
  funext i
  by_cases hi:i<listed.size
  rw[Array.getD_eq_getD_getElem?,count_all hc i hi];rfl;rw[Array.getD_eq_getD_getElem?,Array.getElem?_eq_none (by omega)];rfl
 have rdy:∀(listed:Array Bool),listed.size=l.length→Region.ready .any l.toArray listed=[]→listed.toList.count false=0:=fun listed hs hr=>by
  refine Classical.byContradiction fun hc=>?_
  -- the first that is not listed is ready
  have hm:false∈listed.toList:=by
   refine Classical.byContradiction fun h=>hc (List.count_eq_zero.2 h)
  obtain⟨i,hi⟩:=List.mem_iff_getElem?.1 hm;rw[Array.getElem?_toList] at hi
  have key:∀i:Nat,listed[i]? = some false→False:=by
   intro i
   induction i using Nat.strongRecOn with
   | _ i ih =>
    intro hi;obtain⟨hlt,he⟩:=Kp.1 hi;have hlt':i<l.toArray.size:=by simpa [← hs] using hlt
    have:i∈Region.ready .any l.toArray listed:=mem_ready.2 ⟨by rw[Array.getD_eq_getD_getElem?,hi];rfl,l.toArray[i],Array.getElem?_eq_getElem hlt',fun e hm hb=>by
     unfold lowerB at hlow;simp only[List.all_eq_true,List.mem_range] at hlow;have h1:=hlow i hlt';rw[Array.getElem?_eq_getElem hlt'] at h1;have h2:=Array.all_eq_true_iff_forall_mem.1 h1 e hm;rw[hb] at h2;have hlt2:e.on<i:=by simpa using h2
     have hlt3:e.on<listed.size:=by omega
     rw[Array.getD_eq_getD_getElem?]
     cases hx:listed[e.on]? with
     | none=>rw[Array.getElem?_eq_none_iff] at hx;omega
     | some b =>
      cases b with
      | true=>rfl
      | false=>exact (ih e.on hlt2 hx).elim⟩
    rw[hr] at this;cases this
  exact key i hi
 intro k
 induction k with
 | zero =>
  intro listed g a w hs hc hS hH;refine⟨?_,?_⟩
  ·rcases hq:Region.ready .any l.toArray listed with _|⟨i,r⟩;rfl
   exfalso
   have hi:i∈Region.ready .any l.toArray listed:=by rw[hq];exact Ks ..
   obtain⟨hun,o,ho,_⟩:=mem_ready.1 hi;have hlt:=(Kp.1 ho).1;have:=count_all hc i (by rw[hs];simpa using hlt);rw[Array.getD_eq_getD_getElem?,this] at hun;cases hun
  have e:=done listed hs hc;rw[e] at hS hH;exact hend g a w hS hH
 | succ k ih =>
  intro listed g a w hs hc hS hH;refine⟨fun hr=>absurd (rdy listed hs hr) (by omega),fun i hi=>?_⟩;obtain⟨hun,o,ho,hall⟩:=mem_ready.1 hi;have hlt:=(Kp.1 ho).1;have hlt':i<listed.size:=by rw[hs];simpa using hlt
  have hlf:listed[i]? = some false:=by
   rw[Array.getD_eq_getD_getElem?,Array.getElem?_eq_getElem hlt'] at hun;rw[Array.getElem?_eq_getElem hlt'];exact congrArg some hun
  have hb:=hB i hlt;rw[ho] at hb;simp only[Ab,List.all_eq_true] at hb;obtain⟨⟨hg,hd⟩,hds⟩:=hb
  have hw:Region.wanted o (yielded l.toArray a.tmps)=true:=by
   unfold Region.wanted
   cases ho':o.guard with
   | none=>rfl
   | some x=>rw[ho'] at hg;cases hg
  have hdeps:∀j∈ds.getD i [],listed.getD j true=true:=fun j hj=>by
   obtain⟨e,he,hc⟩:=Array.any_eq_true'.1 (hds j hj);simp only[Ab] at hc;have h1:=hall e he hc.1;have h2:e.on=j:=Nat.eq_of_beq_eq_true hc.2;rw[h2] at h1;rw[Array.getD_eq_getD_getElem?] at h1 ⊢
   cases hx:listed[j]? with
   | none=>rfl
   | some b=>rw[hx] at h1;exact h1
  have hop:=(OIs.at hO (k:=i) (o:=o) (by rw[List.getElem?_toArray] at ho;exact ho)) (fun i=>listed.getD i true) g (by rw[Ac];show listed.getD i true=false;rw[Array.getD_eq_getD_getElem?,hlf];rfl) hdeps a w (hS.sel _ hdeps) hH;rw[Ac] at hop;unfold wpOp;rw[ho];show if Region.wanted o (yielded l.toArray a.tmps)=true then _ else _;rw[Ah hw];refine .inl (hop.wp fun v w' ⟨g',h1',h2',h3⟩=>?_);have h2:=h2'.get
  have h1:∀e∈es,e.1=i→v=e.2.2 g':=fun e he hi=>by
   have:=nod_find hnod e he;unfold AtI at h1';rw[← hi,this] at h1';exact h1'
  have eD:(fun j=>(listed.setIfInBounds i true).getD j true)=updI (fun i=>listed.getD i true) i:=by
   funext j
   unfold updI;rw[Array.getD_eq_getD_getElem?]
   by_cases hj:j=i
   ·subst hj;rw[Array.getElem?_setIfInBounds_self_of_lt hlt'];simp
   rw[Array.getElem?_setIfInBounds_ne (fun e=>hj e.symm)]
   have:Nat.beq j i=false:=by
    cases hx:Nat.beq j i;rfl;exact absurd (Nat.eq_of_beq_eq_true hx) hj
   rw[this,cond_false];show _=listed.getD j true;rw[Array.getD_eq_getD_getElem?]
  have hc2:=count_set hlf;refine ih (listed.setIfInBounds i true) g' _ w' (by rw[Array.size_setIfInBounds];exact hs) (by omega) ?_ (by rw[eD];exact h3);rw[eD]
  have old:∀e∈es,e.1≠i→updI (fun i=>listed.getD i true) i e.1=true→a.tmps[e.2.1]? = some (e.2.2 g'):=fun e he hne hx=>by
   have hD:listed.getD e.1 true=true:=by
    unfold updI at hx
    have:Nat.beq e.1 i=false:=by
     cases hy:Nat.beq e.1 i;rfl;exact absurd (Nat.eq_of_beq_eq_true hy) hne
    rw[this,cond_false] at hx;exact hx
   rw[h2 e he hD];exact hS.get e he hD
  cases hdst:o.dst with
  | none =>
   rw[hdst] at hd;simp only[List.all_eq_true] at hd;refine⟨hS.base.put0,fun e he hx=>?_⟩;refine old e he (fun hh=>?_) hx;have:=hd (e.1,e.2.1) (List.mem_map.2 ⟨e,he,rfl⟩);dsimp only at this;rw[hh] at this;simp at this
  | some d =>
   rw[hdst] at hd;simp only[Ab,List.all_eq_true] at hd;obtain⟨⟨hdn,hdb⟩,hde⟩:=hd;have hdn':d<n.s:=by simpa [Nat.blt_eq] using hdn
   have hput:(a.put (some d) v).tmps[d]? = some v:=by
    rw[put_tmps_eq,Array.getElem?_eq_getElem (by rw[hS.base.size];exact hdn')];rfl
   refine⟨⟨by rw[put_size];exact hS.base.size,by rw[put_defers];exact hS.base.dfr,fun j u hu=>?_⟩,fun e he hx=>?_⟩
   ·have hjd:j≠d:=fun e=>by
     subst e
     have hm:j∈base.map (·.1):=by
      have:∀(b:List (Nat×Value)),look b j=some u→j∈b.map (·.1):=by
       intro b
       induction b with
       | nil=>intro h;cases h
       | cons x b ih =>
        intro h
        by_cases hxj:x.1=j
        rw[Ai,hxj];exact Ks ..;rw[show x=(x.1,x.2) from rfl,vB hxj] at h;exact Ky _ (ih h)
      exact this base hu
     simp only[Bool.not_eq_true'] at hdb;rw[List.contains_iff_mem.2 hm] at hdb;cases hdb
    rw[qY (by simpa using hjd.symm)];exact hS.base.get j u hu
   have hed:=hde (e.1,e.2.1) (List.mem_map.2 ⟨e,he,rfl⟩);dsimp only at hed
   by_cases hei:e.1=i
   ·have:e.2.1=d:=by
     rw[hei] at hed;simp only[Am] at hed;have h3:Nat.beq e.2.1 d=true:=by rw[← hed];simp
     exact Nat.eq_of_beq_eq_true h3
    rw[this,hput,h1 e he hei]
   have:e.2.1≠d:=fun hh=>by
    rw[hh] at hed;simp only[Am] at hed;have h3:Nat.beq e.1 i=true:=by rw[hed];simp
    exact hei (Nat.eq_of_beq_eq_true h3)
   rw[qY (by simpa using this.symm)];exact old e he hei hx
theorem qB {id:Nat}{l:List Oper}{m:List (Nat×Value)}{H:World→Prop}(base:List (Nat×Value)) (es:List (Nat×Nat×(γ→Value))) (HI:(Nat→Bool)→γ→World→Prop) (ds:List (List Nat)) (g0:γ) (hm:P.follows .mixedOrders=true)
  (hB:drawIB l.toArray (es.map fun e=>(e.1,e.2.1)) (base.map (·.1)) n.s ds=true) (hE:es.all (fun e=>decide (e.1<l.length))=true) (hp:Pr m base) (h0:∀D w,(∀i,i<l.length→D i=false)→H w→HI D g0 w.drew) (hO:OIs P n base es HI ds 0 l)
  (hend:∀g,WQ Q .normal n (es.map (fun e=>(e.2.1,e.2.2 g))++base) (HI (fun _=>true) g)):WC P (.region id l.toArray true) Q n m H:=fun a w hs hw=>by
 have hD0:∀i,i<l.length→(Array.replicate l.toArray.size false).getD i true=false:=fun i hi=>by
  rw[Array.getD_eq_getD_getElem?,Array.getElem?_replicate,Ah (by simpa using hi)];rfl
 refine wp_region_any hm (wa_inv hB hO (fun g a' w' hS hH=>?_) _ _ g0 a w.drew (by simp) (by simp) ⟨hs.weak hp,fun e he hx=>?_⟩ (h0 _ w hD0 hw))
 ·refine hend g a' w' ⟨hS.base.size,hS.base.dfr,fun j u hu=>?_⟩ hH
  have key:∀(l:List (Nat×Nat×(γ→Value))),(∀e∈l,a'.tmps[e.2.1]? = some (e.2.2 g))→∀j u,look (l.map (fun e=>(e.2.1,e.2.2 g))++base) j=some u→a'.tmps[j]? = some u:=by
   intro l
   induction l with
   | nil=>intro _ j u h;exact hS.base.get j u h
   | cons x l ih =>
    intro hl j u h
    by_cases hj:x.2.1=j
    ·subst hj;have:look ((x.2.1,x.2.2 g)::(l.map (fun e=>(e.2.1,e.2.2 g))++base)) x.2.1=some u:=h;rw[qM] at this;cases this;exact hl x (Ks ..)
    have:look ((x.2.1,x.2.2 g)::(l.map (fun e=>(e.2.1,e.2.2 g))++base)) j=some u:=h;rw[vB hj] at this;exact ih (fun e he=>hl e (Ky _ he)) j u this
  exact key es (fun e he=>hS.get e he M) j u hu
 have:=Ki (List.all_eq_true.1 hE e he);have hx:(Array.replicate l.toArray.size false).getD e.1 true=true:=hx;rw[hD0 _ this] at hx;cases hx
theorem oF {x:Operand}{src dst e ty:TypeId}{m:List (Nat×Value)}{H:World→Prop}{g o len cap T:Nat}{cs:List Value}(l:List UInt8) (hx:ev m x=some (.slice (some ⟨g,o,none⟩) len cap)) (hr:∀w,H w→Blk g (bk T cs) w) (hs':P.underlying src=some (.slice e)) (he:P.underlying e=some (.int .u8)) (hd:P.underlying dst=some .string) (hl:l.length=len) (hc:∀j (hj:j<l.length),cs[o+j]? = some (.int .u8 (l[j].toNat:Int))) :
  YF P (.convert src dst x) ty n m H (.string ⟨l.toArray⟩):=fun _ w d pos af gd hs hw=>by
 subst hl
 have:=run_convert_bytes_back (P:=P) w src dst e ⟨g,o,none⟩ cap l hs' he hd (fun j hj=>by
  rw[Addr.add_mid,cell_of_row w g (o+j) _ _ _ (hr w hw),List.getElem?_toArray]
  exact hc j hj)
 simp[Yl,execOp,hs.ev hx,this]
variable {m:List (Nat×Value)}{H:World→Prop}{op:Op}{ty:TypeId}{d:Option Nat}{pos:String}{af:Array Edge}{gd:Option (Nat×Bool)}{R:Value→World→Prop}
theorem oc_free {v:Value}(hy:YF P op ty n m H v) (h:∀w,H w→R v w):OCh P ⟨d,op,ty,pos,af,gd⟩ n m H R:=fun a w hs hw=>(hy a w d pos af gd hs hw).ch.mono fun v' w' ⟨e1,e2⟩=>by subst e1;subst e2;exact h _ hw
theorem oc_new {ob:Obj}{f:Nat→Value}(hn:NF P op ty n m ob f) (h:∀w,H w→R (f w.heap.size) (w.alloc ob)):OCh P ⟨d,op,ty,pos,af,gd⟩ n m H R:=fun a w hs hw=>by
 unfold Ch;rw[hn a w d pos af gd hs];exact h w hw
theorem oc_chain {ι:Type}{val:ι→Value}{H':ι→World→Prop}(hc:CF P op ty n m H val H') (h:∀i w,H' i w→R (val i) w):OCh P ⟨d,op,ty,pos,af,gd⟩ n m H R:=fun a w hs hw=>(hc a w d pos af gd hs hw).mono fun v w' ⟨i,e1,e2⟩=>by subst e1;exact h i w' e2
section
variable {base:List (Nat×Value)}{es:List (Nat×Nat×(γ→Value))}{HI:(Nat→Bool)→γ→World→Prop}{D:Nat→Bool}{g:γ}{i:Nat}{js:List Nat}
theorem zI {v:Value}(hy:YF P op ty n (selI es g js++base) (HI D g) v) (ha:AtI es i g v) (hH:∀w,HI D g w→HI (updI D i) g w):OI P n base es HI D g i js ⟨d,op,ty,pos,af,gd⟩ :=
 oc_free hy fun w hw=>⟨g,ha,wU.refl,hH w hw⟩
theorem oi_new {ob:Obj}{f:Nat→Value}(hn:NF P op ty n (selI es g js++base) ob f) (h:∀w,HI D g w→∃g',AtI es i g' (f w.heap.size)∧wU D g g' es∧HI (updI D i) g' (w.alloc ob)):OI P n base es HI D g i js ⟨d,op,ty,pos,af,gd⟩ :=
 oc_new hn h
theorem oi_call {f:FuncId}{args:List Operand}{ats:Array TypeId}{vs:List Value}{v:Value}(hf:goes P f=true) (ha:evl (selI es g js++base) args=some vs) (hC:∀w,HI D g w→Calls P f vs.toArray w fun e w'=>e=.returned v∧Ext w w') (hv:AtI es i g v) (hE:∀w w',HI D g w→Ext w w'→HI (updI D i) g w') :
  OI P n base es HI D g i js ⟨d,.call { callee:=.value (.func f),args:=args.toArray,argTypes:=ats },ty,pos,af,gd⟩:=fun _ w hs hw =>
 (ch_call hs hf ha ((hC w hw).mono fun _ w' ⟨e1,e2⟩=>⟨_,e1,⟨rfl,e2⟩⟩)).mono (R:=fun u w'=>u=v∧Ext w w') fun u w' ⟨e1,e2⟩=>⟨g,by rw[e1];exact hv,wU.refl,hE w w' hw e2⟩
theorem oi_callG {f:FuncId}{args:List Operand}{ats:Array TypeId}{vs:List Value}(hf:goes P f=true) (ha:evl (selI es g js++base) args=some vs) (hC:∀w,HI D g w→Calls P f vs.toArray w fun e w'=>∃v,e=.returned v∧∃g',AtI es i g' v∧wU D g g' es∧HI (updI D i) g' w') :
  OI P n base es HI D g i js ⟨d,.call { callee:=.value (.func f),args:=args.toArray,argTypes:=ats },ty,pos,af,gd⟩:=fun _ w hs hw =>
 ch_call hs hf ha (hC w hw)
theorem oi_callV {x:Operand}{f:FuncId}{args:List Operand}{ats:Array TypeId}{us vs cs:List Value}{v:Value}(hf:goes P f=true) (hx:ev (selI es g js++base) x=some (.func (.func f) us.toArray cs.toArray)) (ha:evl (selI es g js++base) args=some vs) (hC:∀w,HI D g w→Calls P f (us++vs++cs).toArray w fun e w'=>e=.returned v∧Ext w w') (hv:AtI es i g v) (hE:∀w w',HI D g w→Ext w w'→HI (updI D i) g w') :
  OI P n base es HI D g i js ⟨d,.call { callee:=.value x,args:=args.toArray,argTypes:=ats },ty,pos,af,gd⟩:=fun _ w hs hw =>
 (ch_callV hs hf hx ha ((hC w hw).mono fun _ w' ⟨e1,e2⟩=>⟨_,e1,⟨rfl,e2⟩⟩)).mono (R:=fun u w'=>u=v∧Ext w w') fun u w' ⟨e1,e2⟩=>⟨g,by rw[e1];exact hv,wU.refl,hE w w' hw e2⟩
theorem oi_callVG {x:Operand}{f:FuncId}{args:List Operand}{ats:Array TypeId}{us vs cs:List Value}(hf:goes P f=true) (hx:ev (selI es g js++base) x=some (.func (.func f) us.toArray cs.toArray)) (ha:evl (selI es g js++base) args=some vs) (hC:∀w,HI D g w→Calls P f (us++vs++cs).toArray w fun e w'=>∃v,e=.returned v∧∃g',AtI es i g' v∧wU D g g' es∧HI (updI D i) g' w') :
  OI P n base es HI D g i js ⟨d,.call { callee:=.value x,args:=args.toArray,argTypes:=ats },ty,pos,af,gd⟩:=fun _ w hs hw =>
 ch_callV hs hf hx ha (hC w hw)
theorem uO {ι:Type}{val:ι→Value}{H':ι→World→Prop}(hc:CF P op ty n (selI es g js++base) (HI D g) val H') (h:∀j w,H' j w→∃g',AtI es i g' (val j)∧wU D g g' es∧HI (updI D i) g' w):OI P n base es HI D g i js ⟨d,op,ty,pos,af,gd⟩ :=
 oc_chain hc h
theorem oi_ex {ι:Type}{o:Oper}{H':ι→World→Prop}(hH:∀w,HI D g w→∃j,H' j w) (h:∀j,OCh P o n (selI es g js++base) (H' j) fun v w'=>∃g',AtI es i g' v∧wU D g g' es∧HI (updI D i) g' w'):OI P n base es HI D g i js o:=fun a w hs hw=>by
 obtain⟨j,hj⟩:=hH w hw;exact h j a w hs hj
end
end
end Go.Proofs.YtkaepknpplhgkaaGreatDoor
namespace Go.Proofs.YtkaepknpplhgkaaGreatDoor
def rgB (n:Int):Bs:=114::Lib.decDigits n.toNat
def offB (n:Nat):Bs:=if 2147483648≤n then 45::Lib.decDigits (4294967296-n) else 43::Lib.decDigits n
def toK (i:KI) (a:Nat):Nat:=(a+i.size.toNat+i.imm)%4294967296
def lnK (i:KI) (a:Nat):Bs :=
 if i.op≤4 then noneL.getD i.op.toNat []
 else if i.op≤21 then singL.getD (i.op-16).toNat []++(32::rgB i.d)
 else if i.op≤46 then ariL.getD (i.op-32).toNat []++(32::rgB i.d)++[44,32]++rgB i.s
 else if i.op≤62 then ariL.getD (i.op-48).toNat []++[46,98]++(32::rgB i.d)++[44,32]++sgnB i.imm
 else if i.op≤78 then ariL.getD (i.op-64).toNat []++[46,119]++(32::rgB i.d)++[44,32]++sgnB i.imm
 else if i.op≤86 then accL.getD (i.op-80).toNat []++(32::rgB i.d)++[44,32,91]++rgB i.s++offB i.imm++[93]
 else if i.op≤94 then accL.getD (i.op-88).toNat []++[46,120]++(32::rgB i.d)++[44,32,91]++rgB i.s++(if 0≤i.index then [43]++rgB i.index++[42]++Lib.decDigits (2 ^ i.scale.toNat) else [])++offB i.imm++[93]
 else if i.op<110 then [106]++wO.getD (i.op-96).toNat []++[32]++Lib.decDigits (toK i a)
 else if i.op=112 then [106,109,112,32]++Lib.decDigits (toK i a)
 else if i.op=113 then [99,97,108,108,32]++Lib.decDigits (toK i a)
 else if i.op=128 then [115,121,115,32]++Lib.decDigits i.imm
 else if i.op=129 then [103,101,116,99]++(32::rgB i.d)++[44,32]++Lib.decDigits i.s.toNat
 else [115,101,116,99]++(32::rgB i.d)++[44,32]++Lib.decDigits i.s.toNat
def iS (n:Nat):List It:=if 2147483648≤n then [.c 45,.n (4294967296-n)] else [.n n]
theorem uF {n:Nat}{p:Nat→Bool}(h:(List.range n).all p=true):∀k,k<n→p k=true:=fun k hk=>List.all_eq_true.1 h k (List.mem_range.2 hk)
def nmB (kind:Int) (n:Nat) (nm:Nat→Bs) (sh:Bs) (f:Nat→AFm):Bool:=(List.range n).all fun k=>wrdB (nm k)&&!decide (nm k=xT)&&decide (wI kind (nm k) sh sh.length=some (f k))
theorem nmB_at {kind:Int}{n:Nat}{nm:Nat→Bs}{sh:Bs}{f:Nat→AFm}(h:nmB kind n nm sh f=true) {k:Nat}(hk:k<n):wrdB (nm k)=true∧nm k≠xT∧wI kind (nm k) sh sh.length=some (f k):=by
 have:=uF h k hk;simp only[Ab,Bool.not_eq_true',decide_eq_false_iff_not,Af] at this;exact⟨this.1.1,this.1.2,this.2⟩
theorem nm_none:nmB 1 5 (fun k=>noneL.getD k []) [] (fun k=>.k (.always k) .nothing)=true:=by kernel_rfl
theorem nm_sing:nmB 1 6 (fun k=>singL.getD k []) [114] (fun k=>.k (.always (16+k:Nat)) .nothing)=true:=by kernel_rfl
theorem nm_regs:nmB 1 15 (fun k=>ariL.getD k []) [114,114] (fun k=>.k (.always (32+k:Nat)) .second)=true:=by kernel_rfl
theorem nm_shrt:nmB 1 15 (fun k=>ariL.getD k []++[46,98]) [114,118] (fun k=>.k (.always (48+k:Nat)) .value)=true:=by kernel_rfl
theorem nm_imm:nmB 1 15 (fun k=>ariL.getD k []++[46,119]) [114,118] (fun k=>.k (.always (64+k:Nat)) .value)=true:=by kernel_rfl
theorem nm_mem:nmB 1 7 (fun k=>accL.getD k []) [114,109] (fun k=>.k (.access k) .memory)=true:=by kernel_rfl
theorem nm_idx:nmB 1 7 (fun k=>accL.getD k []++[46,120]) [114,109] (fun k=>.k (.always (88+k:Nat)) .memory)=true:=by kernel_rfl
theorem nm_cond:nmB 1 14 (fun k=>[106]++wO.getD k []) [118] (fun k=>.k (.always (96+k:Nat)) .target)=true:=by kernel_rfl
def jmpN (k:Nat):Bs:=if k=0 then [106,109,112] else [99,97,108,108]
theorem nm_jump:nmB 1 2 jmpN [118] (fun k=>.k (.always (112+k:Nat)) .target)=true:=by kernel_rfl
theorem nm_sys:nmB 1 1 (fun _=>[115,121,115]) [118] (fun _=>.k (.always 128) .value)=true:=by kernel_rfl
def gscN (k:Nat):Bs:=if k=0 then [103,101,116,99] else [115,101,116,99]
theorem nm_gsc:nmB 1 2 gscN [114,118] (fun k=>.k (.always (129+k:Nat)) .control)=true:=by kernel_rfl
theorem sx_fit {n:Nat}(hn:n<4294967296) (h:sxL (n%256) 8=n):wE n 8=true:=by
 unfold sxL at h;unfold wE;simp only[Nat.reducePow,Nat.reduceSub,Bool.or_eq_true,Af] at h ⊢
 revert h
 split<;>omega
end Go.Proofs.YtkaepknpplhgkaaGreatDoor
namespace Go.Proofs.YtkaepknpplhgkaaGreatDoor
end Go.Proofs.YtkaepknpplhgkaaGreatDoor
namespace Go.Proofs.YtkaepknpplhgkaaGreatDoor
def pK (op:Nat):Bs:=((nS.find? fun p=>Nat.beq p.1 op).getD (0,[])).2
def joB:List Bs→Bs
 | []=>[]
 | [x]=>x
 | x::r=>x++[44,32]++joB r
def immB (i:QI) (a:Nat):Bs:=if pI i.op=true then Lib.decDigits ((a+4*i.imm)%4294967296) else if (17≤i.op∧i.op≤19)∨41≤i.op then Lib.decDigits i.imm else sgnB i.imm
def regsQ (i:QI):List Int:=if i.op=52∨i.op=54 then [i.a,i.b] else [i.d,i.a,i.b]
def prtQ (i:QI) (a:Nat) (c:UInt8) (k:Nat):Bs:=if c=114 then rgB ((regsQ i).getD k 0) else if c=118 then immB i a else [91]++rgB i.a++offB i.imm++[93]
def prtsQ (i:QI) (a:Nat):List UInt8→Nat→List Bs
 | [],_=>[]
 | c::r,k=>prtQ i a c k::prtsQ i a r (k+1)
def lnQ (i:QI) (a:Nat):Bs:=if rS i.op.toNat=[] then pK i.op.toNat else pK i.op.toNat++[32]++joB (prtsQ i a (rS i.op.toNat) 0)
end Go.Proofs.YtkaepknpplhgkaaGreatDoor
namespace Go.Proofs.YtkaepknpplhgkaaGreatDoor
end Go.Proofs.YtkaepknpplhgkaaGreatDoor
namespace Go.Proofs.YtkaepknpplhgkaaGreatDoor
def decK (s:Bs):Option KI:=match s with
 | []=>none
 | c::r=>match pR c.toNat with
  | none=>none
  | some (n,l)=>if (c::r).length<n then none else
   let i:=vZ (((c::r).take n).drop 1) ⟨c.toNat,0,0,-1,0,0,n⟩ l
   if (tW i).isSome=true then some i else none
def mkQ (w:Nat) (s:QS):QI:=⟨(w/67108864:Nat),if s.d then (w/4194304%16:Nat) else 0,if s.a then (w/262144%16:Nat) else 0,if s.b then (w/16384%16:Nat) else 0,if s.kind=1 then sxL (w%2 ^ s.bits) s.bits else w%2 ^ s.bits⟩
def decQ (w:Nat):Option QI:=match qU ((w/67108864:Nat):Int) with
 | none=>none
 | some s=>if tD (mkQ w s)=some w then some (mkQ w s) else none
def bytB (l:Bs):Bs:=tT++[32]++joB (l.map fun c=>Lib.decDigits c.toNat)
def nxtA (kind:Int) (s:Bs) (a:Nat):Bs×Nat :=
 if kind=1 then (match decK s with
  | some i=>(lnK i a,i.size.toNat)
  | none=>(bytB (s.take 1),1))
 else if s.length<4 then (bytB s,s.length) else match decQ (getL (s.take 4)) with
  | some i=>(lnQ i a,4)
  | none=>(bytB (s.take 4),4)
def disF (kind:Int) (org:Nat):Nat→Bs→Nat→List Bs
 | 0,_,_=>[]
 | f+1,s,at_=>if s=[] then [] else (nxtA kind s ((org+at_)%4294967296)).1::disF kind org f (s.drop (nxtA kind s ((org+at_)%4294967296)).2) (at_+(nxtA kind s ((org+at_)%4294967296)).2)
def linesB (l:List Bs):Bs:=(l.map fun x=>x++[10]).flatten
theorem encK_rng {i:KI}{c:Bs}(h:tW i=some c):∃n l,pR i.op=some (n,l)∧i.size=n∧oN i=true∧c=lowB i.op::vF i l:=by
 unfold tW at h
 cases hf:pR i.op with
 | none=>rw[hf] at h;cases h
 | some p =>
  obtain⟨n,l⟩:=p;rw[hf] at h;dsimp only at h
  split at h
  ·next hh=>cases h;exact⟨n,l,rfl,hh.1,hh.2.1,rfl⟩
  ·cases h
end Go.Proofs.YtkaepknpplhgkaaGreatDoor
namespace Go.Proofs.YtkaepknpplhgkaaGreatDoor
inductive DsA (kind:Int) (org:Nat):Nat→List Bs→List ASt→Bs→Prop
 | nil (a:Nat):DsA kind org a [] [] []
 | cons {a:Nat} {s:Bs} {st:ASt} {ls:List Bs} {sts:List ASt} {c d:Bs} {v:List Nat} (h:liA kind s=.ok st) (lab:st.label=[]) (hv:∀lb,wP lb st.l=.ok v) (hc:∀a',cdA { st with at_:=a' } v ((org+a)%4294967296)=.ok c) (hs:st.size=c.length) (t:DsA kind org (a+c.length) ls sts d):DsA kind org a (s::ls) (st::sts) (c++d)
theorem DsA.out {kind:Int}{org:Nat}{a:Nat}{ls:List Bs}{sts:List ASt}{c:Bs}(h:DsA kind org a ls sts c):∀(k:Nat) (out:Bs),outF org [] (plcS sts a) k out=.ok (out++c):=by
 induction h with
 | nil a=>intro k out;simp[outF,plcS]
 | @cons a s st ls sts c d v h lab hv hc hs t ih =>
  intro k out;rw[plcS,outF_ok (st:={ st with at_:=a }) (hv []) (hc a),hs,ih,Kv]
theorem DsA.app {kind:Int}{org:Nat}{a:Nat}{ls ls':List Bs}{sts sts':List ASt}{c c':Bs}(h:DsA kind org a ls sts c) (k:DsA kind org (a+c.length) ls' sts' c'):DsA kind org a (ls++ls') (sts++sts') (c++c'):=by
 induction h with
 | nil a=>exact k
 | @cons a s st ls sts c d v h lab hv hc hs t ih =>
  rw[Kv];exact .cons h lab hv hc hs (ih (by rw[Kb] at k;rw[Nat.add_assoc];exact k))
theorem DsA.empty {kind:Int}{org:Nat}{a:Nat}{s:Bs}{ls:List Bs}{sts:List ASt}{c:Bs}(h:liA kind s=.ok ⟨[],[],[],[],none,0,0⟩) (t:DsA kind org a ls sts c):DsA kind org a (s::ls) (⟨[],[],[],[],none,0,0⟩::sts) c :=
 DsA.cons (c:=[]) (v:=[]) h rfl (fun _=>rfl) (fun _=>rfl) rfl t
structure ItL (kind:Int) (a:Nat) (l:List It) (st:ASt) (c:Bs):Prop where
 ok:okI l
 par:nR kind (tkI l)=.ok st
 lab:st.label=[]
 cd:∃v,(∀lb,wP lb st.l=.ok v)∧∀a',cdA { st with at_:=a' } v a=.ok c
 size:st.size=c.length
theorem put_len (n k:Nat):(wS n k).length=k:=by
 induction k generalizing n with
 | zero=>rfl
 | succ k ih=>show (wS (n/256) k).length+1=_;rw[ih]
inductive ItLs (kind:Int) (org:Nat):Nat→List Bs→List (List It)→List ASt→Bs→Prop
 | nil (a:Nat):ItLs kind org a [] [] [] []
 | cons {a:Nat} {s:Bs} {l:List It} {st:ASt} {ss:List Bs} {ls:List (List It)} {sts:List ASt} {c d:Bs} (hx:s=txI l) (h:ItL kind ((org+a)%4294967296) l st c) (t:ItLs kind org (a+c.length) ss ls sts d):ItLs kind org a (s::ss) (l::ls) (st::sts) (c++d)
theorem ItLs.nl {kind:Int}{org a:Nat}{ss:List Bs}{ls:List (List It)}{sts:List ASt}{c:Bs}(h:ItLs kind org a ss ls sts c):∀x∈ss,NoNl x:=by
 induction h with
 | nil a=>intro x hx;cases hx
 | cons hx h _ ih =>
  intro x hm;rcases List.mem_cons.1 hm with rfl|hm;rw[hx];exact okI_nl h.ok;exact ih x hm
theorem ItLs.ds {kind:Int}{org a:Nat}{ss:List Bs}{ls:List (List It)}{sts:List ASt}{c:Bs}(h:ItLs kind org a ss ls sts c):DsA kind org a ss sts c:=by
 induction h with
 | nil a=>exact .nil a
 | cons hx h _ ih =>
  obtain⟨v,h1,h2⟩:=h.cd;exact .cons (by rw[hx,liA_it kind h.ok];exact h.par) h.lab h1 h2 h.size ih
theorem li_empty (kind:Int):liA kind []=.ok ⟨[],[],[],[],none,0,0⟩:=by
 unfold liA;rw[lexA_no (fun _ h=>absurd h (by simp)),nP];show nR kind []=_;unfold nR;rw[Ag (by simp)];unfold stmA;rw[Ah rfl]
theorem DsA.end {kind:Int}{org a:Nat}{ss:List Bs}{sts:List ASt}{c:Bs}(h:DsA kind org a ss sts c):DsA kind org a (ss++[[]]) (sts++[⟨[],[],[],[],none,0,0⟩]) c:=by
 have:=h.app (.empty (li_empty kind) (.nil _))
 rwa [Al] at this
end Go.Proofs.YtkaepknpplhgkaaGreatDoor
namespace Go.Proofs.YtkaepknpplhgkaaGreatDoor
open Go.RowKit
section
variable {P:Program}{n:Fr}{m:List (Nat×Value)}{ty:TypeId}{H:World→Prop}
theorem eqFields_ints {xs ys:Array Value}(d:Nat):∀(fs:List Field),(∀f∈fs,f.name ≠ "_"∧∃k a b,P.underlying f.type=some (.int k)∧xs[f.offset]? = some (.int k a)∧ys[f.offset]? = some (.int k b))→∃r:Bool,(∀w,(Op.eqFields (d+1) xs ys fs).run P w=.ok r w)∧(r=true↔∀f∈fs,xs[f.offset]? = ys[f.offset]?)
 | [],_=>⟨true,fun w=>by simp[Op.eqFields],by simp⟩
 | f::fs,h=>by
  obtain⟨hn,k,a,b,ht,hx,hy⟩:=h f (Ks ..);obtain⟨r,h1,h2⟩:=eqFields_ints d fs fun g hg=>h g (Ky _ hg);refine⟨a==b&&r,fun w=>?_,?_⟩
  ·have p1:=run_part1 (P:=P) ht rfl hx w;have p2:=run_part1 (P:=P) ht rfl hy w;have p3:=run_equalIn_int (P:=P) w d f.type k k a b ht;simp only[Op.eqFields,Sem.run_bind,Sem.run_ite,Ah hn,p1,p2,p3,Result.andThen_ok,Sem.run_pure]
   by_cases hab:a=b
   simp[hab,h1 w];simp[hab]
  rw[Ab,h2]
  constructor
  ·rintro⟨e1,e2⟩ g hg
   rcases List.mem_cons.1 hg with rfl|hg;rw[hx,hy,Kq e1];exact e2 g hg
  intro e;refine⟨?_,fun g hg=>e g (Ky _ hg)⟩;have:=e f (Ks ..);rw[hx,hy] at this;simp only[Option.some.injEq,Value.int.injEq] at this;simp[this.2]
end
theorem eqKi (o o':KI) (w:World):(Op.equalIn 10000 35 (.agg (kiC o).toArray) (.agg (kiC o').toArray)).run Tryz.prog w=.ok (decide (o=o')) w:=by
 have hf:Tryz.prog.underlying 35=some (.struct (Tryz.prog.fieldsOf 35)):=by kernel_rfl
 rw[show (10000:Nat)=9999+1 from rfl,run_equalIn_struct (P:=Tryz.prog) w 9999 35 _ _ hf (by kernel_rfl)];have hfs:=hf.symm.trans Tryz.underlying35;injection hfs with hfs;injection hfs with hfs
 obtain⟨r,h1,h2⟩:=eqFields_ints (P:=Tryz.prog) (xs:=(kiC o).toArray) (ys:=(kiC o').toArray) 9998 (Tryz.prog.fieldsOf 35).toList (by
  rw[hfs];intro f hf;simp only[List.mem_cons,List.not_mem_nil,or_false] at hf;rcases hf with rfl|rfl|rfl|rfl|rfl|rfl|rfl;exact⟨by decide,_,_,_,Tryz.underlying3,rfl,rfl⟩;exact⟨by decide,_,_,_,Tryz.underlying3,rfl,rfl⟩;exact⟨by decide,_,_,_,Tryz.underlying3,rfl,rfl⟩;exact⟨by decide,_,_,_,Tryz.underlying3,rfl,rfl⟩;exact⟨by decide,_,_,_,Tryz.underlying3,rfl,rfl⟩;exact⟨by decide,_,_,_,Tryz.underlying22,rfl,rfl⟩
  exact⟨by decide,_,_,_,Tryz.underlying3,rfl,rfl⟩)
 rw[hfs] at h2
 have e:r=decide (o=o'):=by
  rw[Kf,h2,decide_eq_true_iff]
  constructor
  ·intro h;have a0:=h _ (Ks ..);have a1:=h _ (Ky _ (Ks ..));have a2:=h _ (Ky _ (Ky _ (Ks ..)));have a3:=h _ (Ky _ (Ky _ (Ky _ (Ks ..))));have a4:=h _ (Ky _ (Ky _ (Ky _ (Ky _ (Ks ..)))));have a5:=h _ (Ky _ (Ky _ (Ky _ (Ky _ (Ky _ (Ks ..))))));have a6:=h _ (Ky _ (Ky _ (Ky _ (Ky _ (Ky _ (Ky _ (Ks ..)))))));obtain⟨x0,x1,x2,x3,x4,x5,x6⟩:=o;obtain⟨y0,y1,y2,y3,y4,y5,y6⟩:=o';have b0:x0=y0:=by injection a0 with a0;injection a0
   have b1:x1=y1:=by injection a1 with a1;injection a1
   have b2:x2=y2:=by injection a2 with a2;injection a2
   have b3:x3=y3:=by injection a3 with a3;injection a3
   have b4:x4=y4:=by injection a4 with a4;injection a4
   have b5:x5=y5:=by injection a5 with a5;injection a5 with _ a5;exact Int.ofNat_inj.1 a5
   have b6:x6=y6:=by injection a6 with a6;injection a6
   rw[b0,b1,b2,b3,b4,b5,b6]
  rintro rfl f _
  rfl
 rw[← e];exact h1 w
theorem ndL_fm:∀{n:Nat}{l:List Fld}{op:Int},pR op=some (n,l)→n=1+ndL l∧l.length≤3∧0≤op∧op<256:=by
 intro n l op h;rcases rM h with ⟨_,_,rfl,rfl⟩|⟨_,_,rfl,rfl⟩|⟨_,_,rfl,rfl⟩|⟨_,_,rfl,rfl⟩|⟨_,_,rfl,rfl⟩|⟨_,_,rfl,rfl⟩|⟨_,_,rfl,rfl⟩|⟨_,_,rfl,rfl⟩|⟨_,_,rfl,rfl⟩|⟨_,rfl,rfl⟩|⟨_,_,rfl,rfl⟩<;>exact⟨by decide,by decide,by omega,by omega⟩
theorem putK_nd (i:KI):∀l,(vF i l).length=ndL l
 | []=>rfl
 | f::l=>by
  have:(putF i f).length=ndF f:=by
   cases f
   case full=>exact pW _ _
   case index=>show (if i.index<0 then [8] else [_]).length=1;split<;>rfl
   all_goals rfl
  show (putF i f++vF i l).length=ndF f+ndL l;rw[Kb,this,putK_nd i l]
def wW (i:KI):Bool:=(tW i).isSome
theorem validK_no {i:KI}(h:pR i.op=none):wW i=false:=by unfold wW tW;rw[h];rfl
theorem validK_some {i:KI}{n:Nat}{l:List Fld}(h:pR i.op=some (n,l)):wW i=(decide (i.size=n)&&oN i&&decide (vZ (vF i l) ⟨i.op,0,0,-1,0,0,n⟩ l=i)):=by
 unfold wW tW;rw[h];dsimp only
 by_cases h1:i.size=n
 ·by_cases h2:oN i=true
  ·by_cases h3:vZ (vF i l) ⟨i.op,0,0,-1,0,0,n⟩ l=i
   rw[Ah ⟨h1,h2,h3⟩,An h1,h2,An h3];rfl;rw[Ag (fun hh=>h3 hh.2.2),Ao h3,Bool.and_false];rfl
  rw[Ag (fun hh=>h2 hh.2.1)];simp only[Bool.not_eq_true] at h2;rw[h2,Bool.and_false,Bool.false_and];rfl
 rw[Ag (fun hh=>h1 hh.1),Ao h1,Bool.false_and,Bool.false_and];rfl
theorem valid_any (i:KI) (hi:i.imm<4294967296) (w_0:World):Calls Tryz.prog 58 #[.agg (kiC i).toArray] w_0 fun e w'=>e=.returned (.bool (wW i))∧Ext w_0 w':=by
 have hk:=fmtK_P i.op;have hf:=fun w=>find_any i.op w;unfold FdPost at hf
 cases hp:fmtP i.op with
 | none =>
  rw[hp] at hk hf;have hv:=validK_no hk;refine zN (args:=[.agg (kiC i).toArray]) Tryz.func58 M 39 M (Kh M)<|Z1 0 M<|Z0<|zX<|zZ<|zA .none M (yQ M M) fun b1=>Za M M<|ZX<|zZ<|ZF M (Y35x0 M) ?_;refine Zl 0 M U3 M<|Zu (v:=.tuple #[.agg zFm.toArray,.bool false]) M (fun w hw=>(hf w).mono fun e w' ⟨h1,h2⟩=>⟨h2,h1⟩) ?_;refine Zm M M<|ZF M (zC M M)<|ZF M (zC M M)<|Zt (z:=Ja) (cs:=Jl) M fun b3=>ZR 0 M<|Za M M<|ZX<|zX<|Z5r 0 1 2 3 4 M<|Zm M M<|ZF M (xO M)<|Zm M M<|zQ 13 M (fun hb=>?_) (fun hb=>?_)
  ·refine ZP M<|ZP M<|ZP M<|ZP M<|ZP M<|Zh M<|Zm M M<|ZP M<|ZP M<|ZP M<|Zh M<|ZT<|wY M<|zX<|Z6r 0 1 2 3 4 24 M<|Za M M<|ZT<|zK<|zW<|yY M M fun w hw=>⟨by rw[hv],(Kk hw).ext⟩
  skip;exact absurd hb (by decide)
 | some p =>
  rw[hp] at hk hf;have hk':pR i.op=some (p.2.2.1,p.2.2.2):=hk;obtain⟨hn1,hn3,ho0,ho1⟩:=ndL_fm hk';have hv:=validK_some hk';have hpl:=putK_nd i p.2.2.2;have hlow:(((lowB i.op).toNat:Nat):Int)=i.op:=by rw[lowB_nat];omega
  have hnd:ndL p.2.2.2≤100:=by
   have:∀l:List Fld,ndL l≤4*l.length:=by
    intro l
    induction l with
    | nil=>exact Ae _
    | cons f l ih =>
     have:ndF f≤4:=by cases f<;>decide
     show ndF f+ndL l≤4*(l.length+1);omega
   have:=this p.2.2.2;omega
  refine zN (args:=[.agg (kiC i).toArray]) Tryz.func58 M 39 M (Kh M)<|Z1 0 M<|Z0<|zX<|zZ<|zA .none M (yQ M M) fun b1=>Za M M<|ZX<|zZ<|ZF M (Y35x0 M) ?_;refine Zl 0 M U3 M<|yI (ι:=Value×Value) (C:=fun v=>IsFn Tryz.prog v.1∧IsFn Tryz.prog v.2) (val:=fun v=>.tuple #[.agg (fmC p v).toArray,.bool true]) (TT:=fun v=>FmV p v) .none M  (by kernel_rfl) M (fun _ h=>h.elim) (fun _=>FmV.lies) (fun w hw=>(hf w).mono fun e w' ⟨h1,v,h2,h3⟩=>⟨v,⟨take_fn h3.1,put_fn h3.2⟩,h2,h1,h3⟩) (fun v F hfn hF=>?_);obtain⟨v1,v2⟩:=v;obtain⟨⟨f1,c1,e1,g1⟩,⟨f2,c2,e2,g2⟩⟩:=hfn;dsimp only at e1 e2;subst e1;subst e2;refine Zm M M<|ZF M (zC M M)<|ZF M (zC M M)<|Zt (z:=Ja) (cs:=Jl) M fun b3=>ZR 0 M<|Za M M<|ZX<|zX<|Z5r 0 1 2 3 4 M<|Zm M M<|ZF M (xO M)<|Zm M M<|zQ 13 M (fun hb=>?_) (fun hb=>?_)
  ·exact absurd hb (by decide)
  skip;refine ZG M M M (Y35x6 M) ?_;refine ZG M M M (yU 1 M M M U3 M)<|ZG M M M (Y135x2 M) ?_;refine ZG M M M (yU 0 M M M U3 M)<|ZG M M M (xF M M)<|Zf M<|Zm M M<|zQ 20 M (fun h10=>?_) (fun h10=>?_)
  ·replace h10:=xD h10;refine ZP M<|ZP M<|ZP M<|Zh M<|ZT<|wY M<|zX<|Z6r 0 1 2 3 4 24 M<|Za M M<|ZT<|zK<|zW<|yY M M fun w hw=>⟨by rw[hv,Ao h10];rfl,(Kk hw).ext⟩
  replace h10:=wJ h10;refine ZG M M M (Zo 1 M U35 M)<|xW (.some M M) M  (v:=.bool (oN i)) (by kernel_rfl) M (fun w hw=>ranges_any i w)<|ZG M M M (xO M)<|Zf M<|ZT<|zT M (fun h24=>?_) (fun h24=>?_)
  ·refine zX<|Z6r 0 1 2 3 4 24 M<|Za M M<|ZT<|zK<|zW<|yY M M fun w hw=>⟨by rw[hv,show oN i=false by simpa using h24,Bool.and_false,Bool.false_and],(Kk hw).ext⟩
  skip;have hrg:oN i=true:=by simpa using h24
  refine zR<|zV<|zX<|Z6 0 1 2 3 4 24 M<|qB (γ:=Nat) [(1,Jx b1),(3,Jx b3)] [(0,25,fun g=>.agg (fmC p (fcV f1 c1,fcV f2 c2)).toArray),(1,26,fun g=>Jx b1),(2,27,fun g=>.int .i64 i.op),(3,28,fun g=>.int .u8 (lowB i.op).toNat),(4,29,fun g=>.slice (some ⟨g,0,none⟩) 1 1),(5,30,fun g=>.string ⟨[lowB i.op].toArray⟩),(6,31,fun g=>.pointer (some ⟨b3,4,none⟩)),(7,32,fun g=>fcV f2 c2),(8,33,fun g=>.agg (kiC i).toArray),(9,34,fun g=>.string ⟨(vF i p.2.2.2).toArray⟩),(10,35,fun g=>.string ⟨([lowB i.op]++vF i p.2.2.2).toArray⟩),(11,36,fun g=>.agg (kiC (vZ (vF i p.2.2.2) ⟨i.op,0,0,-1,0,0,p.2.2.1⟩ p.2.2.2)).toArray),(12,37,fun g=>.agg (kiC i).toArray),(13,38,fun g=>.bool (decide (vZ (vF i p.2.2.2) ⟨i.op,0,0,-1,0,0,p.2.2.1⟩ p.2.2.2=i))),(14,2,fun g=>.bool (decide (vZ (vF i p.2.2.2) ⟨i.op,0,0,-1,0,0,p.2.2.1⟩ p.2.2.2=i)))] (fun D g=>fun w=>Jy w_0 [(b3,bk 135 (fmC p (fcV f1 c1,fcV f2 c2))),(b1,kiO i)] [] (fun u=>FmV p (fcV f1 c1,fcV f2 c2) F u∧True) w∧(D 4=true→Blk g (bk 5 [.int .u8 (lowB i.op).toNat]) w)) [[],[],[1],[2],[3],[4],[],[6],[],[7,8],[5,9],[0,10],[],[11,12],[13]] 0 (by kernel_rfl) (by kernel_rfl) (by kernel_rfl) (O2 M) (fun D w h hw=>⟨Hp.drew hw,fun h4=>by rw[h 4 (by decide)] at h4;cases h4⟩) ⟨?_,?_,?_,?_,?_,?_,?_,?_,?_,?_,?_,?_,?_,?_,?_,trivial⟩ (fun g=>?_)
  ·intro D g hD hd;refine zI (v:=.agg (fmC p (fcV f1 c1,fcV f2 c2)).toArray) ?_ M Jz;refine xL (cs:=fmC p (fcV f1 c1,fcV f2 c2)) M U135 M (by kernel_rfl) (fun w hw=>(HpG.range (k:=0) hw.1 M fun j v hj=>by rw[Ac];exact hj))
  ·intro D g hD hd;refine zI (v:=Jx b1) ?_ M Jz;refine zY (off:=0) (sz:=0) M U35 (by kernel_rfl) rfl
  ·intro D g hD hd;have hd1:D 1=true:=hd 1 (by simp);refine zI (v:=.int .i64 i.op) ?_ M Jz;refine zL M U3 M (fun w hw=>HpG.cell (k:=1) hw.1 M M)
  ·intro D g hD hd;have hd2:D 2=true:=hd 2 (by simp)
   refine zI (v:=.int .u8 (lowB i.op).toNat) ?_ M Jz;refine yf_conv M (by kernel_rfl) U5 (vT i.op)
  ·intro D g hD hd;have hd3:D 3=true:=hd 3 (by simp);refine oi_new (nf_bs1 (z:=.int .u8 0) M M Tryz.underlying53 (by kernel_rfl) (by kernel_rfl) M M) (fun w hw=>⟨w.heap.size,rfl,?_,HpG.onE hw.1 (Ext.alloc (Ext.refl w) _),fun _=>heap_alloc_new w _⟩)
   repeat' (first|exact trivial|apply And.intro|(intro _;rfl)|(intro h;rw[hD] at h;cases h))
  ·intro D g hD hd;have hd4:D 4=true:=hd 4 (by simp)
   refine zI (v:=.string ⟨[lowB i.op].toArray⟩) ?_ M Jz;refine oF [lowB i.op] M (fun w hw=>hw.2 hd4) Tryz.underlying53 Tryz.underlying5 Tryz.underlying9 M (qX (lowB i.op))
  ·intro D g hD hd;refine zI (v:=.pointer (some ⟨b3,4,none⟩)) ?_ M Jz;refine zY (off:=4) (sz:=0) M U135 (by kernel_rfl) rfl
  ·intro D g hD hd;have hd6:D 6=true:=hd 6 (by simp);refine zI (v:=fcV f2 c2) ?_ M Jz;refine zL M Tryz.underlying133 M (fun w hw=>HpG.cell (k:=0) hw.1 M M)
  ·intro D g hD hd;refine zI (v:=.agg (kiC i).toArray) ?_ M Jz;refine xL (cs:=kiC i) M U35 M (by kernel_rfl) (fun w hw=>(HpG.range (k:=1) hw.1 M fun j v hj=>by rw[Ac];exact hj))
  ·intro D g hD hd;have hd7:D 7=true:=hd 7 (by simp);have hd8:D 8=true:=hd 8 (by simp);refine oi_callV (us:=[]) (vs:=[.agg (kiC i).toArray]) (cs:=c2) g2 M M (fun w hw=>put_call (HpG.x hw.1).1.2 hrg hi (by omega)) M (fun w w' hw hx=>⟨HpG.onE hw.1 hx,fun h=>(hw.2 h).onE hx⟩)
  ·intro D g hD hd;have hd5:D 5=true:=hd 5 (by simp);have hd9:D 9=true:=hd 9 (by simp);refine zI (v:=.string ⟨([lowB i.op]++vF i p.2.2.2).toArray⟩) ?_ M Jz;refine yB M M ?_;(· first|omega|simp<;>omega)
  ·intro D g hD hd;have hd0:D 0=true:=hd 0 (by simp);have hd10:D 10=true:=hd 10 (by simp);refine oi_call (v:=.agg (kiC (vZ (vF i p.2.2.2) ⟨i.op,0,0,-1,0,0,p.2.2.1⟩ p.2.2.2)).toArray) (by kernel_rfl) M (fun w hw=>?_) M (fun w w' hw hx=>⟨HpG.onE hw.1 hx,fun h=>(hw.2 h).onE hx⟩);have:=read_any p f1 f2 c1 c2 g1 F ([lowB i.op]++vF i p.2.2.2) (lowB i.op) rfl (by rw[Kb,hpl];exact Ae _) (by rw[Kb,hpl];show 1+_≤_;omega) (by omega) w (HpG.x hw.1).1.1;rw[hlow] at this;exact this
  ·intro D g hD hd;refine zI (v:=.agg (kiC i).toArray) ?_ M Jz;refine xL (cs:=kiC i) M U35 M (by kernel_rfl) (fun w hw=>(HpG.range (k:=1) hw.1 M fun j v hj=>by rw[Ac];exact hj))
  ·intro D g hD hd;have hd11:D 11=true:=hd 11 (by simp);have hd12:D 12=true:=hd 12 (by simp);refine zI (v:=.bool (decide (vZ (vF i p.2.2.2) ⟨i.op,0,0,-1,0,0,p.2.2.1⟩ p.2.2.2=i))) ?_ M Jz;refine yf_eqlAgg (r:=decide (vZ (vF i p.2.2.2) ⟨i.op,0,0,-1,0,0,p.2.2.1⟩ p.2.2.2=i)) M M (by kernel_rfl) (fun w=>eqKi _ _ w)
  ·intro D g hD hd;have hd13:D 13=true:=hd 13 (by simp);refine zI (v:=.bool (decide (vZ (vF i p.2.2.2) ⟨i.op,0,0,-1,0,0,p.2.2.1⟩ p.2.2.2=i))) ?_ M Jz;refine wD rfl
  skip;refine wq_to (m':=[(1,Jx b1),(3,Jx b3),(2,.bool (decide (vZ (vF i p.2.2.2) ⟨i.op,0,0,-1,0,0,p.2.2.1⟩ p.2.2.2=i)))]) (H':=Jy w_0 [] [] (fun _=>True)) ?_ (O3 M) (fun w hw=>Hp.weakX (Hp.drop hw.1 (List.nil_sublist _) (.refl _)) fun _ _=>trivial);refine zV<|zK<|yY M M fun w hw=>⟨by rw[hv,An h10,hrg];rfl,(Kk hw).ext⟩
end Go.Proofs.YtkaepknpplhgkaaGreatDoor
namespace Go.Proofs.YtkaepknpplhgkaaGreatDoor
open Go.RowKit
theorem encode_any (i:KI) (hi:i.imm<4294967296) (w_0:World):Calls Tryz.prog 168 #[.agg (kiC i).toArray] w_0 fun e w'=>e=.returned (.tuple #[.string ⟨((tW i).getD []).toArray⟩,.int .i64 (if wW i=true then 0 else 12)])∧Ext w_0 w':=by
 have hk:=fmtK_P i.op;have hf:=fun w=>find_any i.op w;unfold FdPost at hf
 cases hvd:wW i with
 | false =>
  have hn:tW i=none:=by
   unfold wW at hvd
   cases he:tW i with
   | none=>rfl
   | some c=>rw[he] at hvd;cases hvd
  rw[hn];refine zN (args:=[.agg (kiC i).toArray]) Tryz.func168 M 25 M (Kh M)<|Z1 0 M<|Z0<|zX<|zZ<|zA .none M (yQ M M) fun b1=>Za M M<|Za M M<|ZX<|zX<|zZ<|ZF M (Zo 0 M U35 M)<|Zu (v:=.bool false) M (fun w hw=>(valid_any i hi w).mono fun e w' ⟨h1,h2⟩=>⟨by rw[h1,hvd],h2⟩) ?_;refine ZF M (xO M)<|ZT<|zT M (fun h8=>?_) (fun h8=>?_)
  ·refine zX<|Z5r 0 1 2 3 8 M<|Za M M<|Za M M<|ZT<|zK<|zW<|uW M M M fun w hw=>⟨rfl,(Kk hw).ext⟩
  skip;exact absurd h8 (by decide)
 | true =>
  obtain⟨cd,hcd⟩:∃c,tW i=some c:=by
   unfold wW at hvd;exact Option.isSome_iff_exists.1 hvd
  obtain⟨z,l,hfk,_,hrg,hcd2⟩:=encK_rng hcd
  cases hp:fmtP i.op with
  | none=>rw[hp] at hk;rw[hk] at hfk;cases hfk
  | some p =>
   rw[hp] at hk hf;have hk':pR i.op=some (p.2.2.1,p.2.2.2):=hk;rw[hfk] at hk';cases hk';obtain⟨hn1,hn3,ho0,ho1⟩:=ndL_fm hfk;have hpl:=putK_nd i p.2.2.2
   have hnd:ndL p.2.2.2≤100:=by
    have:∀l:List Fld,ndL l≤4*l.length:=by
     intro l
     induction l with
     | nil=>exact Ae _
     | cons f l ih =>
      have:ndF f≤4:=by cases f<;>decide
      show ndF f+ndL l≤4*(l.length+1);omega
    have:=this p.2.2.2;omega
   rw[hcd,hcd2];refine zN (args:=[.agg (kiC i).toArray]) Tryz.func168 M 25 M (Kh M)<|Z1 0 M<|Z0<|zX<|zZ<|zA .none M (yQ M M) fun b1=>Za M M<|Za M M<|ZX<|zX<|zZ<|ZF M (Zo 0 M U35 M)<|Zu (v:=.bool true) M (fun w hw=>(valid_any i hi w).mono fun e w' ⟨h1,h2⟩=>⟨by rw[h1,hvd],h2⟩) ?_;refine ZF M (xO M)<|ZT<|zT M (fun h8=>?_) (fun h8=>?_)
   ·exact absurd h8 (by decide)
   skip;refine zR<|zV<|zX<|Z5r 0 1 2 3 8 M<|ZF M (Y35x0 M) ?_;refine Zl 0 M U3 M<|yI (ι:=Value×Value) (C:=fun v=>IsFn Tryz.prog v.1∧IsFn Tryz.prog v.2) (val:=fun v=>.tuple #[.agg (fmC p v).toArray,.bool true]) (TT:=fun v=>FmV p v) .none M  (by kernel_rfl) M (fun _ h=>h.elim) (fun _=>FmV.lies) (fun w hw=>(hf w).mono fun e w' ⟨h1,v,h2,h3⟩=>⟨v,⟨take_fn h3.1,put_fn h3.2⟩,h2,h1,h3⟩) (fun v F hfn hF=>?_);obtain⟨v1,v2⟩:=v;obtain⟨⟨f1,c1,e1,g1⟩,⟨f2,c2,e2,g2⟩⟩:=hfn;dsimp only at e1 e2;subst e1;subst e2;refine Zm M M<|ZF M (zC M M)<|ZF M (zC M M)<|Zt (z:=Ja) (cs:=Jl) M fun b4=>ZR 0 M<|Za M M<|ZX<|Z6 0 1 2 3 4 8 M<|qB (γ:=Nat) [(1,Jx b1),(4,Jx b4)] [(0,15,fun g=>Jx b1),(1,16,fun g=>.int .i64 i.op),(2,17,fun g=>.int .u8 (lowB i.op).toNat),(3,18,fun g=>.slice (some ⟨g,0,none⟩) 1 1),(4,19,fun g=>.string ⟨[lowB i.op].toArray⟩),(5,20,fun g=>.pointer (some ⟨b4,4,none⟩)),(6,21,fun g=>fcV f2 c2),(7,22,fun g=>.agg (kiC i).toArray),(8,23,fun g=>.string ⟨(vF i p.2.2.2).toArray⟩),(9,24,fun g=>.string ⟨([lowB i.op]++vF i p.2.2.2).toArray⟩),(10,2,fun g=>.string ⟨([lowB i.op]++vF i p.2.2.2).toArray⟩),(11,3,fun g=>.int .i64 0)] (fun D g=>fun w=>Jy w_0 [(b4,bk 135 (fmC p (fcV f1 c1,fcV f2 c2))),(b1,kiO i)] [] (fun u=>FmV p (fcV f1 c1,fcV f2 c2) F u∧True) w∧(D 3=true→Blk g (bk 5 [.int .u8 (lowB i.op).toNat]) w)) [[],[0],[1],[2],[3],[],[5],[],[6,7],[4,8],[9],[]] 0 (by kernel_rfl) (by kernel_rfl) (by kernel_rfl) (O2 M) (fun D w h hw=>⟨Hp.drew hw,fun h4=>by rw[h 3 (by decide)] at h4;cases h4⟩) ⟨?_,?_,?_,?_,?_,?_,?_,?_,?_,?_,?_,?_,trivial⟩ (fun g=>?_)
   ·intro D g hD hd;refine zI (v:=Jx b1) ?_ M Jz;refine zY (off:=0) (sz:=0) M U35 (by kernel_rfl) rfl
   ·intro D g hD hd;have hd0:D 0=true:=hd 0 (by simp);refine zI (v:=.int .i64 i.op) ?_ M Jz;refine zL M U3 M (fun w hw=>HpG.cell (k:=1) hw.1 M M)
   ·intro D g hD hd;have hd1:D 1=true:=hd 1 (by simp)
    refine zI (v:=.int .u8 (lowB i.op).toNat) ?_ M Jz;refine yf_conv M (by kernel_rfl) U5 (vT i.op)
   ·intro D g hD hd;have hd2:D 2=true:=hd 2 (by simp);refine oi_new (nf_bs1 (z:=.int .u8 0) M M Tryz.underlying53 (by kernel_rfl) (by kernel_rfl) M M) (fun w hw=>⟨w.heap.size,rfl,?_,HpG.onE hw.1 (Ext.alloc (Ext.refl w) _),fun _=>heap_alloc_new w _⟩)
    repeat' (first|exact trivial|apply And.intro|(intro _;rfl)|(intro h;rw[hD] at h;cases h))
   ·intro D g hD hd;have hd3:D 3=true:=hd 3 (by simp)
    refine zI (v:=.string ⟨[lowB i.op].toArray⟩) ?_ M Jz;refine oF [lowB i.op] M (fun w hw=>hw.2 hd3) Tryz.underlying53 Tryz.underlying5 Tryz.underlying9 M (qX (lowB i.op))
   ·intro D g hD hd;refine zI (v:=.pointer (some ⟨b4,4,none⟩)) ?_ M Jz;refine zY (off:=4) (sz:=0) M U135 (by kernel_rfl) rfl
   ·intro D g hD hd;have hd5:D 5=true:=hd 5 (by simp);refine zI (v:=fcV f2 c2) ?_ M Jz;refine zL M Tryz.underlying133 M (fun w hw=>HpG.cell (k:=0) hw.1 M M)
   ·intro D g hD hd;refine zI (v:=.agg (kiC i).toArray) ?_ M Jz;refine xL (cs:=kiC i) M U35 M (by kernel_rfl) (fun w hw=>(HpG.range (k:=1) hw.1 M fun j v hj=>by rw[Ac];exact hj))
   ·intro D g hD hd;have hd6:D 6=true:=hd 6 (by simp);have hd7:D 7=true:=hd 7 (by simp);refine oi_callV (us:=[]) (vs:=[.agg (kiC i).toArray]) (cs:=c2) g2 M M (fun w hw=>put_call (HpG.x hw.1).1.2 hrg hi (by omega)) M (fun w w' hw hx=>⟨HpG.onE hw.1 hx,fun h=>(hw.2 h).onE hx⟩)
   ·intro D g hD hd;have hd4:D 4=true:=hd 4 (by simp);have hd8:D 8=true:=hd 8 (by simp);refine zI (v:=.string ⟨([lowB i.op]++vF i p.2.2.2).toArray⟩) ?_ M Jz;refine yB M M ?_;(· first|omega|simp<;>omega)
   ·intro D g hD hd;have hd9:D 9=true:=hd 9 (by simp);refine zI (v:=.string ⟨([lowB i.op]++vF i p.2.2.2).toArray⟩) ?_ M Jz;refine wD rfl
   ·intro D g hD hd;refine zI (v:=.int .i64 0) ?_ M Jz;refine wD rfl
   skip;refine wq_to (m':=[(1,Jx b1),(4,Jx b4),(2,.string ⟨([lowB i.op]++vF i p.2.2.2).toArray⟩),(3,.int .i64 0)]) (H':=Jy w_0 [] [] (fun _=>True)) ?_ (O4 M) (fun w hw=>Hp.weakX (Hp.drop hw.1 (List.nil_sublist _) (.refl _)) fun _ _=>trivial);refine zV<|zK<|uW M M M fun w hw=>⟨rfl,(Kk hw).ext⟩
end Go.Proofs.YtkaepknpplhgkaaGreatDoor
