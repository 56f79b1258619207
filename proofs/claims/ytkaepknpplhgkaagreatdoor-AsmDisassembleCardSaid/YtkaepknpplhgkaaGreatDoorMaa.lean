import Derived.Test.YtkaepknpplhgkaaGreatDoorMaU
import Derived.Test.YtkaepknpplhgkaaGreatDoorMaZ
import Derived.Laws.IdiomStrings
import Derived.Laws.StructEq
set_option maxRecDepth 100000
namespace Go.Proofs.YtkaepknpplhgkaaGreatDoor
open Go.RowKit
section
variable {P:Program}{Q:Exit→Act→World→Prop}{n:Fr}{γ:Type}
def OCh (P:Program) (o:Oper) (n:Fr) (m:List (Nat×Value)) (H:World→Prop) (R:Value→World→Prop):Prop:=∀a w,Sat n m a→H w→Ch P o a w R
def selI (es:List (Nat×Nat×(γ→Value))) (g:γ):List Nat→List (Nat×Value)
 | []=>[]
 | j::r=>(match es.find? (fun e=>Nat.beq e.1 j) with
  | some e=>[(e.2.1,e.2.2 g)]
  | none=>[])++selI es g r
def updI (D:Nat→Bool) (i:Nat):Nat→Bool:=fun j=>bif Nat.beq j i then true else D j
def AtI (es:List (Nat×Nat×(γ→Value))) (i:Nat) (g:γ) (v:Value):Prop:=match es.find? (fun e=>Nat.beq e.1 i) with
 | some e=>v=e.2.2 g
 | none=>True
def tX (D:Nat→Bool) (g g':γ):List (Nat×Nat×(γ→Value))→Prop
 | []=>True
 | e::r=>(D e.1=true→e.2.2 g'=e.2.2 g)∧tX D g g' r
theorem tX.refl {D:Nat→Bool}{g:γ}:∀{es:List (Nat×Nat×(γ→Value))},tX D g g es
 | []=>trivial
 | _::_=>⟨fun _=>rfl,tX.refl⟩
theorem tX.get {D:Nat→Bool}{g g':γ}:∀{es:List (Nat×Nat×(γ→Value))},tX D g g' es→∀e∈es,D e.1=true→e.2.2 g'=e.2.2 g
 | [],_,_,he=>by cases he
 | x::r,h,e,he=>by
  rcases List.mem_cons.1 he with rfl|he
  ·exact h.1
  ·exact tX.get h.2 e he
def OI (P:Program) (n:Fr) (base:List (Nat×Value)) (es:List (Nat×Nat×(γ→Value))) (HI:(Nat→Bool)→γ→World→Prop) (D:Nat→Bool) (g:γ) (i:Nat) (js:List Nat) (o:Oper):Prop :=
 OCh P o n (selI es g js++base) (HI D g) fun v w'=>∃g',AtI es i g' v∧tX D g g' es∧HI (updI D i) g' w'
def OIs (P:Program) (n:Fr) (base:List (Nat×Value)) (es:List (Nat×Nat×(γ→Value))) (HI:(Nat→Bool)→γ→World→Prop):List (List Nat)→Nat→List Oper→Prop
 | _,_,[]=>True
 | ds,i,o::r=>(∀D g,D i=false→(∀j∈ds.headD [],D j=true)→OI P n base es HI D g i (ds.headD []) o)∧OIs P n base es HI ds.tail (i+1) r
def nodB:List Nat→Bool
 | []=>true
 | x::l=>l.all (fun y=>!Nat.beq x y)&&nodB l
theorem nod_find {es:List (Nat×Nat×(γ→Value))}:nodB (es.map (·.1))=true→∀e∈es,es.find? (fun x=>Nat.beq x.1 e.1)=some e:=by
 induction es with
 | nil=>intro _ e he;cases he
 | cons x r ih =>
  intro h e he;rw[Af] at h;unfold nodB at h;simp only[Ky,List.all_eq_true] at h;rw[List.find?_cons];rcases List.mem_cons.1 he with rfl|he
  ·have:Nat.beq e.1 e.1=true:=by simp
   rw[this]
  ·have h1:=h.1 e.1 (List.mem_map.2 ⟨e,he,rfl⟩);have:Nat.beq x.1 e.1=false:=by simpa using h1
   rw[this];exact ih h.2 e he
def drawIB (l:Array Oper) (es:List (Nat×Nat)) (base:List Nat) (n:Nat) (ds:List (List Nat)):Bool :=
 lowerB l&&nodB (es.map (·.1))&&(List.range l.size).all fun i=>match l[i]? with
 | some o=>o.guard.isNone&&(match o.dst with
   | some d=>Nat.blt d n&&!base.contains d&&es.all (fun e=>Nat.beq e.1 i==Nat.beq e.2 d)
   | none=>es.all fun e=>!Nat.beq e.1 i)&&(ds.getD i []).all fun j=>o.after.any fun e=>Region.binds .any e&&Nat.beq e.on j
 | none=>true
structure SatI (n:Fr) (base:List (Nat×Value)) (es:List (Nat×Nat×(γ→Value))) (D:Nat→Bool) (g:γ) (a:Act):Prop where
 base:Sat n base a
 get:∀e∈es,D e.1=true→a.tmps[e.2.1]? = some (e.2.2 g)
theorem SatI.sel {base:List (Nat×Value)}{es:List (Nat×Nat×(γ→Value))}{D:Nat→Bool}{g:γ}{a:Act}(h:SatI n base es D g a):∀js:List Nat,(∀j∈js,D j=true)→Sat n (selI es g js++base) a
 | [],_=>h.base
 | j::r,hj=>by
  have ih:=h.sel r fun i hi=>hj i (Kv _ hi);unfold selI
  cases hf:es.find? (fun e=>Nat.beq e.1 j) with
  | none=>exact ih
  | some e =>
   have he:=List.mem_of_find?_eq_some hf;have hb:e.1=j:=Nat.eq_of_beq_eq_true (List.find?_some (p:=fun e:Nat×Nat×(γ→Value)=>Nat.beq e.1 j) hf);refine⟨ih.size,ih.dfr,fun i v hv=>?_⟩
   by_cases hi:e.2.1=i
   ·subst hi;have:look ((e.2.1,e.2.2 g)::(selI es g r++base)) e.2.1=some v:=hv;rw[pE] at this;cases this;exact h.get e he (by rw[hb];exact hj j (Ko ..))
   ·have:look ((e.2.1,e.2.2 g)::(selI es g r++base)) i=some v:=hv;rw[uN hi] at this;exact ih.get i v this
theorem OIs.at {base:List (Nat×Value)}{es:List (Nat×Nat×(γ→Value))}{HI:(Nat→Bool)→γ→World→Prop}:∀{r:List Oper}{ds:List (List Nat)}{i k:Nat}{o:Oper},OIs P n base es HI ds i r→r[k]? = some o→∀D g,D (i+k)=false→(∀j∈ds.getD k [],D j=true)→OI P n base es HI D g (i+k) (ds.getD k []) o
 | [],_,_,_,_,_,h=>by cases h
 | x::r,ds,i,0,o,h,ho=>by
  cases ho;have:ds.headD []=ds.getD 0 []:=by cases ds<;>rfl
  rw[← this];exact h.1
 | x::r,ds,i,k+1,o,h,ho=>by
  have:=OIs.at h.2 (k:=k) (by simpa using ho);have e:ds.tail.getD k []=ds.getD (k+1) []:=by cases ds<;>simp
  rw[e,show i+1+k=i+(k+1) by omega] at this;exact this
theorem count_set {l:Array Bool}{i:Nat}(hi:l[i]? = some false):(l.setIfInBounds i true).toList.count false+1=l.toList.count false:=by
 obtain⟨hlt,he⟩:=Kl.1 hi;have h1:(l.setIfInBounds i true).toList=l.toList.set i true:=by simp
 rw[h1]
 have:∀(l:List Bool) (i:Nat),l[i]? = some false→(l.set i true).count false+1=l.count false:=by
  intro l
  induction l with
  | nil=>intro i h;cases h
  | cons x l ih =>
   intro i h
   cases i with
   | zero=>cases h;simp
   | succ i =>
    have:=ih i (by simpa using h);cases x
    ·simp only[List.set_cons_succ,List.count_cons,beq_self_eq_true,if_true];omega
    ·simp only[List.set_cons_succ,List.count_cons];simp;omega
 exact this l.toList i (by rw[Array.getElem?_toList];exact hi)
theorem count_all {l:Array Bool}(h:l.toList.count false=0):∀i,i<l.size→l[i]? = some true:=fun i hi=>by
 have h1:false∉l.toList:=List.count_eq_zero.1 h;rw[Array.getElem?_eq_getElem hi]
 cases hx:l[i] with
 | true=>rfl
 | false=>exact absurd (Array.mem_toList_iff.2 (hx▸Array.getElem_mem hi)) h1
theorem wa_inv {l:List Oper}{base:List (Nat×Value)}{es:List (Nat×Nat×(γ→Value))}{HI:(Nat→Bool)→γ→World→Prop}{ds:List (List Nat)}(hB:drawIB l.toArray (es.map fun e=>(e.1,e.2.1)) (base.map (·.1)) n.s ds=true) (hO:OIs P n base es HI ds 0 l)
  (hend:∀g a w,SatI n base es (fun _=>true) g a→HI (fun _=>true) g w→Q .normal a w):∀(k:Nat) (listed:Array Bool) (g:γ) (a:Act) (w:World),listed.size=l.length→listed.toList.count false=k→SatI n base es (fun i=>listed.getD i true) g a→HI (fun i=>listed.getD i true) g w→wpAny P .any l.toArray Q k listed a w:=by
 unfold drawIB at hB;simp only[Ky,List.all_eq_true,List.mem_range] at hB;obtain⟨⟨hlow,hnod⟩,hB⟩:=hB;rw[List.map_map] at hnod
 have done:∀(listed:Array Bool),listed.size=l.length→listed.toList.count false=0→(fun i=>listed.getD i true)=fun _=>true:=fun listed hs hc=>by
  funext i
  by_cases hi:i<listed.size
  ·rw[Array.getD_eq_getD_getElem?,count_all hc i hi];rfl
  ·rw[Array.getD_eq_getD_getElem?,Array.getElem?_eq_none (by omega)];rfl
 have rdy:∀(listed:Array Bool),listed.size=l.length→Region.ready .any l.toArray listed=[]→listed.toList.count false=0:=fun listed hs hr=>by
  refine Classical.byContradiction fun hc=>?_
  -- the first that is not listed is ready
  have hm:false∈listed.toList:=by
   refine Classical.byContradiction fun h=>hc (List.count_eq_zero.2 h)
  obtain⟨i,hi⟩:=List.mem_iff_getElem?.1 hm;rw[Array.getElem?_toList] at hi
  have key:∀i:Nat,listed[i]? = some false→False:=by
   intro i
   induction i using Nat.strongRecOn with
   | _ i ih =>
    intro hi;obtain⟨hlt,he⟩:=Kl.1 hi;have hlt':i<l.toArray.size:=by simpa [← hs] using hlt
    have:i∈Region.ready .any l.toArray listed:=mem_ready.2 ⟨by rw[Array.getD_eq_getD_getElem?,hi];rfl,l.toArray[i],Array.getElem?_eq_getElem hlt',fun e hm hb=>by
     unfold lowerB at hlow;simp only[List.all_eq_true,List.mem_range] at hlow;have h1:=hlow i hlt';rw[Array.getElem?_eq_getElem hlt'] at h1;have h2:=Array.all_eq_true_iff_forall_mem.1 h1 e hm;rw[hb] at h2;have hlt2:e.on<i:=by simpa using h2
     have hlt3:e.on<listed.size:=by omega
     rw[Array.getD_eq_getD_getElem?]
     cases hx:listed[e.on]? with
     | none=>rw[Array.getElem?_eq_none_iff] at hx;omega
     | some b =>
      cases b with
      | true=>rfl
      | false=>exact (ih e.on hlt2 hx).elim⟩
    rw[hr] at this;cases this
  exact key i hi
 intro k
 induction k with
 | zero =>
  intro listed g a w hs hc hS hH;refine⟨?_,?_⟩
  ·rcases hq:Region.ready .any l.toArray listed with _|⟨i,r⟩
   ·rfl
   ·exfalso
    have hi:i∈Region.ready .any l.toArray listed:=by rw[hq];exact Ko ..
    obtain⟨hun,o,ho,_⟩:=mem_ready.1 hi;have hlt:=(Kl.1 ho).1;have:=count_all hc i (by rw[hs];simpa using hlt);rw[Array.getD_eq_getD_getElem?,this] at hun;cases hun
  ·have e:=done listed hs hc;rw[e] at hS hH;exact hend g a w hS hH
 | succ k ih =>
  intro listed g a w hs hc hS hH;refine⟨fun hr=>absurd (rdy listed hs hr) (by omega),fun i hi=>?_⟩;obtain⟨hun,o,ho,hall⟩:=mem_ready.1 hi;have hlt:=(Kl.1 ho).1;have hlt':i<listed.size:=by rw[hs];simpa using hlt
  have hlf:listed[i]? = some false:=by
   rw[Array.getD_eq_getD_getElem?,Array.getElem?_eq_getElem hlt'] at hun;rw[Array.getElem?_eq_getElem hlt'];exact congrArg some hun
  have hb:=hB i hlt;rw[ho] at hb;simp only[Ky,List.all_eq_true] at hb;obtain⟨⟨hg,hd⟩,hds⟩:=hb
  have hw:Region.wanted o (yielded l.toArray a.tmps)=true:=by
   unfold Region.wanted
   cases ho':o.guard with
   | none=>rfl
   | some x=>rw[ho'] at hg;cases hg
  have hdeps:∀j∈ds.getD i [],listed.getD j true=true:=fun j hj=>by
   obtain⟨e,he,hc⟩:=Array.any_eq_true'.1 (hds j hj);simp only[Ky] at hc;have h1:=hall e he hc.1;have h2:e.on=j:=Nat.eq_of_beq_eq_true hc.2;rw[h2] at h1;rw[Array.getD_eq_getD_getElem?] at h1 ⊢
   cases hx:listed[j]? with
   | none=>rfl
   | some b=>rw[hx] at h1;exact h1
  have hop:=(OIs.at hO (k:=i) (o:=o) (by rw[List.getElem?_toArray] at ho;exact ho)) (fun i=>listed.getD i true) g (by rw[Kz];show listed.getD i true=false;rw[Array.getD_eq_getD_getElem?,hlf];rfl) hdeps a w (hS.sel _ hdeps) hH;rw[Kz] at hop;unfold wpOp;rw[ho];show if Region.wanted o (yielded l.toArray a.tmps)=true then _ else _;rw[Ae hw];refine .inl (hop.wp fun v w' ⟨g',h1',h2',h3⟩=>?_);have h2:=h2'.get
  have h1:∀e∈es,e.1=i→v=e.2.2 g':=fun e he hi=>by
   have:=nod_find hnod e he;unfold AtI at h1';rw[← hi,this] at h1';exact h1'
  have eD:(fun j=>(listed.setIfInBounds i true).getD j true)=updI (fun i=>listed.getD i true) i:=by
   funext j
   unfold updI;rw[Array.getD_eq_getD_getElem?]
   by_cases hj:j=i
   ·subst hj;rw[Array.getElem?_setIfInBounds_self_of_lt hlt'];simp
   ·rw[Array.getElem?_setIfInBounds_ne (fun e=>hj e.symm)]
    have:Nat.beq j i=false:=by
     cases hx:Nat.beq j i
     ·rfl
     ·exact absurd (Nat.eq_of_beq_eq_true hx) hj
    rw[this,cond_false];show _=listed.getD j true;rw[Array.getD_eq_getD_getElem?]
  have hc2:=count_set hlf;refine ih (listed.setIfInBounds i true) g' _ w' (by rw[Array.size_setIfInBounds];exact hs) (by omega) ?_ (by rw[eD];exact h3);rw[eD]
  have old:∀e∈es,e.1≠i→updI (fun i=>listed.getD i true) i e.1=true→a.tmps[e.2.1]? = some (e.2.2 g'):=fun e he hne hx=>by
   have hD:listed.getD e.1 true=true:=by
    unfold updI at hx
    have:Nat.beq e.1 i=false:=by
     cases hy:Nat.beq e.1 i
     ·rfl
     ·exact absurd (Nat.eq_of_beq_eq_true hy) hne
    rw[this,cond_false] at hx;exact hx
   rw[h2 e he hD];exact hS.get e he hD
  cases hdst:o.dst with
  | none =>
   rw[hdst] at hd;simp only[List.all_eq_true] at hd;refine⟨hS.base.put0,fun e he hx=>?_⟩;refine old e he (fun hh=>?_) hx;have:=hd (e.1,e.2.1) (List.mem_map.2 ⟨e,he,rfl⟩);dsimp only at this;rw[hh] at this;simp at this
  | some d =>
   rw[hdst] at hd;simp only[Ky,List.all_eq_true] at hd;obtain⟨⟨hdn,hdb⟩,hde⟩:=hd;have hdn':d<n.s:=by simpa [Nat.blt_eq] using hdn
   have hput:(a.put (some d) v).tmps[d]? = some v:=by
    rw[put_tmps_eq,Array.getElem?_eq_getElem (by rw[hS.base.size];exact hdn')];rfl
   refine⟨⟨by rw[put_size];exact hS.base.size,by rw[put_defers];exact hS.base.dfr,fun j u hu=>?_⟩,fun e he hx=>?_⟩
   ·have hjd:j≠d:=fun e=>by
     subst e
     have hm:j∈base.map (·.1):=by
      have:∀(b:List (Nat×Value)),look b j=some u→j∈b.map (·.1):=by
       intro b
       induction b with
       | nil=>intro h;cases h
       | cons x b ih =>
        intro h
        by_cases hxj:x.1=j
        ·rw[Af,hxj];exact Ko ..
        ·rw[show x=(x.1,x.2) from rfl,uN hxj] at h;exact Kv _ (ih h)
      exact this base hu
     simp only[Bool.not_eq_true'] at hdb;rw[List.contains_iff_mem.2 hm] at hdb;cases hdb
    rw[put_tmps_ne (by simpa using hjd.symm)];exact hS.base.get j u hu
   ·have hed:=hde (e.1,e.2.1) (List.mem_map.2 ⟨e,he,rfl⟩);dsimp only at hed
    by_cases hei:e.1=i
    ·have:e.2.1=d:=by
      rw[hei] at hed;simp only[Ai] at hed;have h3:Nat.beq e.2.1 d=true:=by rw[← hed];simp
      exact Nat.eq_of_beq_eq_true h3
     rw[this,hput,h1 e he hei]
    ·have:e.2.1≠d:=fun hh=>by
      rw[hh] at hed;simp only[Ai] at hed;have h3:Nat.beq e.1 i=true:=by rw[hed];simp
      exact hei (Nat.eq_of_beq_eq_true h3)
     rw[put_tmps_ne (by simpa using this.symm)];exact old e he hei hx
theorem wX {id:Nat}{l:List Oper}{m:List (Nat×Value)}{H:World→Prop}(base:List (Nat×Value)) (es:List (Nat×Nat×(γ→Value))) (HI:(Nat→Bool)→γ→World→Prop) (ds:List (List Nat)) (g0:γ) (hm:P.follows .mixedOrders=true)
  (hB:drawIB l.toArray (es.map fun e=>(e.1,e.2.1)) (base.map (·.1)) n.s ds=true) (hE:es.all (fun e=>decide (e.1<l.length))=true) (hp:Pr m base) (h0:∀D w,(∀i,i<l.length→D i=false)→H w→HI D g0 w.drew) (hO:OIs P n base es HI ds 0 l)
  (hend:∀g,WQ Q .normal n (es.map (fun e=>(e.2.1,e.2.2 g))++base) (HI (fun _=>true) g)):WC P (.region id l.toArray true) Q n m H:=fun a w hs hw=>by
 have hD0:∀i,i<l.length→(Array.replicate l.toArray.size false).getD i true=false:=fun i hi=>by
  rw[Array.getD_eq_getD_getElem?,Array.getElem?_replicate,Ae (by simpa using hi)];rfl
 refine wp_region_any hm (wa_inv hB hO (fun g a' w' hS hH=>?_) _ _ g0 a w.drew (by simp) (by simp) ⟨hs.weak hp,fun e he hx=>?_⟩ (h0 _ w hD0 hw))
 ·refine hend g a' w' ⟨hS.base.size,hS.base.dfr,fun j u hu=>?_⟩ hH
  have key:∀(l:List (Nat×Nat×(γ→Value))),(∀e∈l,a'.tmps[e.2.1]? = some (e.2.2 g))→∀j u,look (l.map (fun e=>(e.2.1,e.2.2 g))++base) j=some u→a'.tmps[j]? = some u:=by
   intro l
   induction l with
   | nil=>intro _ j u h;exact hS.base.get j u h
   | cons x l ih =>
    intro hl j u h
    by_cases hj:x.2.1=j
    ·subst hj;have:look ((x.2.1,x.2.2 g)::(l.map (fun e=>(e.2.1,e.2.2 g))++base)) x.2.1=some u:=h;rw[pE] at this;cases this;exact hl x (Ko ..)
    ·have:look ((x.2.1,x.2.2 g)::(l.map (fun e=>(e.2.1,e.2.2 g))++base)) j=some u:=h;rw[uN hj] at this;exact ih (fun e he=>hl e (Kv _ he)) j u this
  exact key es (fun e he=>hS.get e he M) j u hu
 ·have:=Ke (List.all_eq_true.1 hE e he);have hx:(Array.replicate l.toArray.size false).getD e.1 true=true:=hx;rw[hD0 _ this] at hx;cases hx
theorem yf_convB {x:Operand}{src dst e ty:TypeId}{m:List (Nat×Value)}{H:World→Prop}{g o len cap T:Nat}{cs:List Value}(l:List UInt8) (hx:ev m x=some (.slice (some ⟨g,o,none⟩) len cap)) (hr:∀w,H w→Blk g (bk T cs) w) (hs':P.underlying src=some (.slice e)) (he:P.underlying e=some (.int .u8)) (hd:P.underlying dst=some .string) (hl:l.length=len) (hc:∀j (hj:j<l.length),cs[o+j]? = some (.int .u8 (l[j].toNat:Int))) :
  YF P (.convert src dst x) ty n m H (.string ⟨l.toArray⟩):=fun _ w d pos af gd hs hw=>by
 subst hl
 have:=run_convert_bytes_back (P:=P) w src dst e ⟨g,o,none⟩ cap l hs' he hd (fun j hj=>by
  rw[Addr.add_mid,cell_of_row w g (o+j) _ _ _ (hr w hw),List.getElem?_toArray]
  exact hc j hj)
 simp[Yl,execOp,hs.ev hx,this]
variable {m:List (Nat×Value)}{H:World→Prop}{op:Op}{ty:TypeId}{d:Option Nat}{pos:String}{af:Array Edge}{gd:Option (Nat×Bool)}{R:Value→World→Prop}
theorem oc_free {v:Value}(hy:YF P op ty n m H v) (h:∀w,H w→R v w):OCh P ⟨d,op,ty,pos,af,gd⟩ n m H R:=fun a w hs hw=>(hy a w d pos af gd hs hw).ch.mono fun v' w' ⟨e1,e2⟩=>by subst e1;subst e2;exact h _ hw
theorem oc_new {ob:Obj}{f:Nat→Value}(hn:NF P op ty n m ob f) (h:∀w,H w→R (f w.heap.size) (w.alloc ob)):OCh P ⟨d,op,ty,pos,af,gd⟩ n m H R:=fun a w hs hw=>by
 unfold Ch;rw[hn a w d pos af gd hs];exact h w hw
theorem oc_chain {ι:Type}{val:ι→Value}{H':ι→World→Prop}(hc:CF P op ty n m H val H') (h:∀i w,H' i w→R (val i) w):OCh P ⟨d,op,ty,pos,af,gd⟩ n m H R:=fun a w hs hw=>(hc a w d pos af gd hs hw).mono fun v w' ⟨i,e1,e2⟩=>by subst e1;exact h i w' e2
section
variable {base:List (Nat×Value)}{es:List (Nat×Nat×(γ→Value))}{HI:(Nat→Bool)→γ→World→Prop}{D:Nat→Bool}{g:γ}{i:Nat}{js:List Nat}
theorem zS {v:Value}(hy:YF P op ty n (selI es g js++base) (HI D g) v) (ha:AtI es i g v) (hH:∀w,HI D g w→HI (updI D i) g w):OI P n base es HI D g i js ⟨d,op,ty,pos,af,gd⟩ :=
 oc_free hy fun w hw=>⟨g,ha,tX.refl,hH w hw⟩
theorem oi_new {ob:Obj}{f:Nat→Value}(hn:NF P op ty n (selI es g js++base) ob f) (h:∀w,HI D g w→∃g',AtI es i g' (f w.heap.size)∧tX D g g' es∧HI (updI D i) g' (w.alloc ob)):OI P n base es HI D g i js ⟨d,op,ty,pos,af,gd⟩ :=
 oc_new hn h
theorem vR {f:FuncId}{args:List Operand}{ats:Array TypeId}{vs:List Value}{v:Value}(hf:goes P f=true) (ha:evl (selI es g js++base) args=some vs) (hC:∀w,HI D g w→Calls P f vs.toArray w fun e w'=>e=.returned v∧Ext w w') (hv:AtI es i g v) (hE:∀w w',HI D g w→Ext w w'→HI (updI D i) g w') :
  OI P n base es HI D g i js ⟨d,.call { callee:=.value (.func f),args:=args.toArray,argTypes:=ats },ty,pos,af,gd⟩:=fun _ w hs hw =>
 (ch_call hs hf ha ((hC w hw).mono fun _ w' ⟨e1,e2⟩=>⟨_,e1,⟨rfl,e2⟩⟩)).mono (R:=fun u w'=>u=v∧Ext w w') fun u w' ⟨e1,e2⟩=>⟨g,by rw[e1];exact hv,tX.refl,hE w w' hw e2⟩
theorem uS {f:FuncId}{args:List Operand}{ats:Array TypeId}{vs:List Value}(hf:goes P f=true) (ha:evl (selI es g js++base) args=some vs) (hC:∀w,HI D g w→Calls P f vs.toArray w fun e w'=>∃v,e=.returned v∧∃g',AtI es i g' v∧tX D g g' es∧HI (updI D i) g' w') :
  OI P n base es HI D g i js ⟨d,.call { callee:=.value (.func f),args:=args.toArray,argTypes:=ats },ty,pos,af,gd⟩:=fun _ w hs hw =>
 ch_call hs hf ha (hC w hw)
theorem oi_callV {x:Operand}{f:FuncId}{args:List Operand}{ats:Array TypeId}{us vs cs:List Value}{v:Value}(hf:goes P f=true) (hx:ev (selI es g js++base) x=some (.func (.func f) us.toArray cs.toArray)) (ha:evl (selI es g js++base) args=some vs) (hC:∀w,HI D g w→Calls P f (us++vs++cs).toArray w fun e w'=>e=.returned v∧Ext w w') (hv:AtI es i g v) (hE:∀w w',HI D g w→Ext w w'→HI (updI D i) g w') :
  OI P n base es HI D g i js ⟨d,.call { callee:=.value x,args:=args.toArray,argTypes:=ats },ty,pos,af,gd⟩:=fun _ w hs hw =>
 (oG hs hf hx ha ((hC w hw).mono fun _ w' ⟨e1,e2⟩=>⟨_,e1,⟨rfl,e2⟩⟩)).mono (R:=fun u w'=>u=v∧Ext w w') fun u w' ⟨e1,e2⟩=>⟨g,by rw[e1];exact hv,tX.refl,hE w w' hw e2⟩
theorem oi_callVG {x:Operand}{f:FuncId}{args:List Operand}{ats:Array TypeId}{us vs cs:List Value}(hf:goes P f=true) (hx:ev (selI es g js++base) x=some (.func (.func f) us.toArray cs.toArray)) (ha:evl (selI es g js++base) args=some vs) (hC:∀w,HI D g w→Calls P f (us++vs++cs).toArray w fun e w'=>∃v,e=.returned v∧∃g',AtI es i g' v∧tX D g g' es∧HI (updI D i) g' w') :
  OI P n base es HI D g i js ⟨d,.call { callee:=.value x,args:=args.toArray,argTypes:=ats },ty,pos,af,gd⟩:=fun _ w hs hw =>
 oG hs hf hx ha (hC w hw)
theorem pV {ι:Type}{val:ι→Value}{H':ι→World→Prop}(hc:CF P op ty n (selI es g js++base) (HI D g) val H') (h:∀j w,H' j w→∃g',AtI es i g' (val j)∧tX D g g' es∧HI (updI D i) g' w):OI P n base es HI D g i js ⟨d,op,ty,pos,af,gd⟩ :=
 oc_chain hc h
theorem oi_ex {ι:Type}{o:Oper}{H':ι→World→Prop}(hH:∀w,HI D g w→∃j,H' j w) (h:∀j,OCh P o n (selI es g js++base) (H' j) fun v w'=>∃g',AtI es i g' v∧tX D g g' es∧HI (updI D i) g' w'):OI P n base es HI D g i js o:=fun a w hs hw=>by
 obtain⟨j,hj⟩:=hH w hw;exact h j a w hs hj
end
end
end Go.Proofs.YtkaepknpplhgkaaGreatDoor
namespace Go.Proofs.YtkaepknpplhgkaaGreatDoor
def rgB (n:Int):Bs:=114::Lib.decDigits n.toNat
def uO (n:Nat):Bs:=if 2147483648≤n then 45::Lib.decDigits (4294967296-n) else 43::Lib.decDigits n
def toK (i:KI) (a:Nat):Nat:=(a+i.size.toNat+i.imm)%4294967296
def lnK (i:KI) (a:Nat):Bs :=
 if i.op≤4 then noneL.getD i.op.toNat []
 else if i.op≤21 then singL.getD (i.op-16).toNat []++(32::rgB i.d)
 else if i.op≤46 then ariL.getD (i.op-32).toNat []++(32::rgB i.d)++[44,32]++rgB i.s
 else if i.op≤62 then ariL.getD (i.op-48).toNat []++[46,98]++(32::rgB i.d)++[44,32]++uK i.imm
 else if i.op≤78 then ariL.getD (i.op-64).toNat []++[46,119]++(32::rgB i.d)++[44,32]++uK i.imm
 else if i.op≤86 then accL.getD (i.op-80).toNat []++(32::rgB i.d)++[44,32,91]++rgB i.s++uO i.imm++[93]
 else if i.op≤94 then accL.getD (i.op-88).toNat []++[46,120]++(32::rgB i.d)++[44,32,91]++rgB i.s++(if 0≤i.index then [43]++rgB i.index++[42]++Lib.decDigits (2 ^ i.scale.toNat) else [])++uO i.imm++[93]
 else if i.op<110 then [106]++vG.getD (i.op-96).toNat []++[32]++Lib.decDigits (toK i a)
 else if i.op=112 then [106,109,112,32]++Lib.decDigits (toK i a)
 else if i.op=113 then [99,97,108,108,32]++Lib.decDigits (toK i a)
 else if i.op=128 then [115,121,115,32]++Lib.decDigits i.imm
 else if i.op=129 then [103,101,116,99]++(32::rgB i.d)++[44,32]++Lib.decDigits i.s.toNat
 else [115,101,116,99]++(32::rgB i.d)++[44,32]++Lib.decDigits i.s.toNat
theorem rnm_dc:∀d,d<16→rnmA d=114::Lib.decDigits d:=by
 intro i hi;unfold rnmA;rw[Lib.decDigits]
 by_cases h:i<10
 ·rw[dif_pos h,Ae h]
 ·rw[dif_neg h,Ad h,Lib.decDigits,dif_pos (by omega)];have:i=10∨i=11∨i=12∨i=13∨i=14∨i=15:=by omega
  rcases this with rfl|rfl|rfl|rfl|rfl|rfl<;>rfl
theorem sH {d:Nat}(h:d<16):rgB d=itB (iR d):=(rnm_dc d h).symm
def iS (n:Nat):List It:=if 2147483648≤n then [.c 45,.n (4294967296-n)] else [.n n]
def iO (n:Nat):List It:=if 2147483648≤n then [.c 45,.n (4294967296-n)] else [.c 43,.n n]
theorem iS_tx (n:Nat):txI (iS n)=uK n:=by
 unfold iS uK
 split<;>simp[txI,itB]
theorem iO_tx (n:Nat):txI (iO n)=uO n:=by
 unfold iO uO
 split<;>simp[txI,itB]
theorem iO_ok {n:Nat}(h:n<4294967296) {l:List It}(hs:stI l=true) (hl:okI l):okI (iO n++l):=by
 unfold iO
 split
 ·exact⟨by decide,by omega,hs,hl⟩
 ·exact⟨by decide,h,hs,hl⟩
theorem iO_st (n:Nat) (l:List It):stI (iO n++l)=true:=by
 unfold iO
 split<;>rfl
theorem opT_sgn {kind:Int}{n:Nat}(h:n<4294967296):OpT kind (tkI (iS n)) (rA n):=by
 unfold iS
 split
 ·have:=opT_neg kind (4294967296-n)
  rwa [show negA (4294967296-n)=n by unfold negA;omega] at this
 ·exact tZ kind n
theorem tail_any (o:AOp) {n:Nat}(h:n<4294967296) (r:List ATk):tT o (tkI (iO n)++(⟨115,[93],0⟩:ATk)::r)=.ok ({ o with n:=n },r):=by
 unfold iO tT
 split
 ·show xP (Except.ok (negA (4294967296-n),⟨115,[93],0⟩::r)) _=_;rw[show negA (4294967296-n)=n by unfold negA;omega];rfl
 ·rfl
def iX:Option (Nat×Nat)→List It
 | none=>[]
 | some p=>[.c 43,iR p.1,.c 42,.n (2 ^ p.2)]
def iM (s:Nat) (x:Option (Nat×Nat)) (n:Nat):List It:=.c 91::iR s::(iX x++(iO n++[.c 93]))
def mOp (s:Nat) (x:Option (Nat×Nat)) (n:Nat):AOp:=⟨109,s,[],n,idxV x,scaV x⟩
theorem rgA_any {kind:Int}{d:Nat}(h:d<uE kind) (r:List ATk):rgA kind (⟨119,rnmA d,0⟩::r)=.ok ((d:Int),r):=by
 have hr:=reg_rnm kind d h;unfold rgA;show xP (Except.ok ((⟨119,rnmA d,0⟩:ATk),r)) _=_;show (if pZ kind (rnmA d)<0 then _ else _)=_;rw[hr,Ad (by omega)]
theorem isA_s (x:UInt8) (l:List ATk):isA [x] (⟨115,[x],0⟩::l)=true:=by simp[isA]
theorem opT_mem {kind:Int}{s n:Nat}{x:Option (Nat×Nat)}(hs:s<uE kind) (hn:n<4294967296) (hx:∀p,x=some p→kind=1∧p.1<8∧p.2<4):OpT kind (tkI (iM s x n)) (mOp s x n):=by
 refine⟨by unfold iM;rw[sO];simp[itK],fun r=>?_⟩
 have e:tkI (iM s x n)++r=⟨115,[91],0⟩::⟨119,rnmA s,0⟩::(tkI (iX x)++(tkI (iO n)++(⟨115,[93],0⟩:ATk)::r)):=by
  unfold iM;rw[sO,sO,tkI_app,tkI_app];show [_]++([_]++(tkI (iX x)++(tkI (iO n)++[⟨115,[93],0⟩])))++r=_;simp
 rw[e];unfold opA;rw[Ae (isA_s 91 _)];unfold pP;rw[Kp,Kt,rgA_any hs,andR_ok];dsimp only
 cases x with
 | none =>
  rw[Ad]
  ·exact tail_any _ hn r
  ·rintro⟨_,h2,t,h3,h4⟩
   revert h3
   show ((tkI (iO n)++(⟨115,[93],0⟩:ATk)::r)[1]? = some t)→False;unfold iO
   split<;>(intro h3;cases h3;cases h4)
 | some p =>
  obtain⟨rfl,h1,h2⟩:=hx p rfl;obtain⟨p,c⟩:=p;dsimp only at h1 h2;have e2:tkI (iX (some (p,c)))++(tkI (iO n)++(⟨115,[93],0⟩:ATk)::r)=⟨115,[43],0⟩::⟨119,rnmA p,0⟩::⟨115,[42],0⟩::⟨48,[],2 ^ c⟩::(tkI (iO n)++(⟨115,[93],0⟩:ATk)::r):=rfl;rw[e2,Ae (show (1:Int)=1∧isA [43] (⟨115,[43],0⟩::⟨119,rnmA p,0⟩::⟨115,[42],0⟩::⟨48,[],2 ^ c⟩::(tkI (iO n)++(⟨115,[93],0⟩:ATk)::r))=true∧∃t,((⟨115,[43],0⟩:ATk)::⟨119,rnmA p,0⟩::⟨115,[42],0⟩::⟨48,[],2 ^ c⟩::(tkI (iO n)++(⟨115,[93],0⟩:ATk)::r))[1]? = some t∧t.kind=119 from ⟨rfl,isA_s 43 _,_,rfl,rfl⟩),Kp,Kt,rgA_any (by show p<8;omega)];rw[andR_ok];dsimp only;rw[Ae (isA_s 42 _)];show xP (wH 48 (⟨48,[],2 ^ c⟩::(tkI (iO n)++(⟨115,[93],0⟩:ATk)::r))) _=_;rw[show wH 48 (⟨48,[],2 ^ c⟩::(tkI (iO n)++(⟨115,[93],0⟩:ATk)::r))=.ok ((⟨48,[],2 ^ c⟩:ATk),tkI (iO n)++(⟨115,[93],0⟩:ATk)::r) from rfl]
  have hc:scaA (2 ^ c)=some (c:Int):=by
   have:c=0∨c=1∨c=2∨c=3:=by omega
   rcases this with rfl|rfl|rfl|rfl<;>rfl
  show (match scaA (2 ^ c) with
   | some c'=>tT ⟨109,s,[],0,p,c'⟩ (tkI (iO n)++(⟨115,[93],0⟩:ATk)::r)
   | none=>.error 20)=_
  rw[hc];exact tail_any _ hn r
theorem tP {n:Nat}{p:Nat→Bool}(h:(List.range n).all p=true):∀k,k<n→p k=true:=fun k hk=>List.all_eq_true.1 h k (List.mem_range.2 hk)
def nmB (kind:Int) (n:Nat) (nm:Nat→Bs) (sh:Bs) (f:Nat→AFm):Bool:=(List.range n).all fun k=>wrdB (nm k)&&!decide (nm k=wA)&&decide (vU kind (nm k) sh sh.length=some (f k))
theorem vP {kind:Int}{n:Nat}{nm:Nat→Bs}{sh:Bs}{f:Nat→AFm}(h:nmB kind n nm sh f=true) {k:Nat}(hk:k<n):wrdB (nm k)=true∧nm k≠wA∧vU kind (nm k) sh sh.length=some (f k):=by
 have:=tP h k hk;simp only[Ky,Bool.not_eq_true',decide_eq_false_iff_not,Ac] at this;exact⟨this.1.1,this.1.2,this.2⟩
theorem nm_none:nmB 1 5 (fun k=>noneL.getD k []) [] (fun k=>.k (.always k) .nothing)=true:=by kernel_rfl
theorem nm_sing:nmB 1 6 (fun k=>singL.getD k []) [114] (fun k=>.k (.always (16+k:Nat)) .nothing)=true:=by kernel_rfl
theorem nm_regs:nmB 1 15 (fun k=>ariL.getD k []) [114,114] (fun k=>.k (.always (32+k:Nat)) .second)=true:=by kernel_rfl
theorem nm_shrt:nmB 1 15 (fun k=>ariL.getD k []++[46,98]) [114,118] (fun k=>.k (.always (48+k:Nat)) .value)=true:=by kernel_rfl
theorem nm_imm:nmB 1 15 (fun k=>ariL.getD k []++[46,119]) [114,118] (fun k=>.k (.always (64+k:Nat)) .value)=true:=by kernel_rfl
theorem nm_mem:nmB 1 7 (fun k=>accL.getD k []) [114,109] (fun k=>.k (.access k) .memory)=true:=by kernel_rfl
theorem nm_idx:nmB 1 7 (fun k=>accL.getD k []++[46,120]) [114,109] (fun k=>.k (.always (88+k:Nat)) .memory)=true:=by kernel_rfl
theorem nm_cond:nmB 1 14 (fun k=>[106]++vG.getD k []) [118] (fun k=>.k (.always (96+k:Nat)) .target)=true:=by kernel_rfl
def jmpN (k:Nat):Bs:=if k=0 then [106,109,112] else [99,97,108,108]
theorem nm_jump:nmB 1 2 jmpN [118] (fun k=>.k (.always (112+k:Nat)) .target)=true:=by kernel_rfl
theorem nm_sys:nmB 1 1 (fun _=>[115,121,115]) [118] (fun _=>.k (.always 128) .value)=true:=by kernel_rfl
def gscN (k:Nat):Bs:=if k=0 then [103,101,116,99] else [115,101,116,99]
theorem nm_gsc:nmB 1 2 gscN [114,118] (fun k=>.k (.always (129+k:Nat)) .control)=true:=by kernel_rfl
def szB (n:Nat) (op:Nat→Nat) (z:Nat):Bool:=(List.range n).all fun k=>decide (xJ (((op k:Nat):Int)%256)=z)
theorem qZ {n:Nat}{op:Nat→Nat}{z:Nat}(h:szB n op z=true) {k:Nat}(hk:k<n):xJ (((op k:Nat):Int)%256)=z:=Ke (tP h k hk)
theorem sz_all:szB 5 id 1=true∧szB 6 (16+·) 2=true∧szB 15 (32+·) 2=true∧szB 15 (48+·) 3=true∧szB 15 (64+·) 6=true∧szB 7 (80+·) 3=true∧szB 7 (88+·) 7=true∧szB 14 (96+·) 2=true∧szB 2 (112+·) 5=true∧szB 1 (fun _=>128) 2=true∧szB 2 (129+·) 2=true:=by
 refine⟨?_,?_,?_,?_,?_,?_,?_,?_,?_,?_,?_⟩<;>kernel_rfl
structure LnK (i:KI) (a:Nat) (l:List It) (st:ASt):Prop where
 tx:lnK i a=txI l
 ok:okI l
 par:pR 1 (tkI l)=.ok st
 lab:st.label=[]
 size:(st.size:Int)=i.size
 ins:∃sel fil v,st.form=some (.k sel fil)∧(∀lb,vL lb st.l=.ok v)∧insK sel fil st.shape st.l v a=i
theorem sx_fit {n:Nat}(hn:n<4294967296) (h:sxL (n%256) 8=n):vC n 8=true:=by
 unfold sxL at h;unfold vC;simp only[Nat.reducePow,Nat.reduceSub,Bool.or_eq_true,Ac] at h ⊢
 revert h
 split<;>omega
end Go.Proofs.YtkaepknpplhgkaaGreatDoor
namespace Go.Proofs.YtkaepknpplhgkaaGreatDoor
def tQ:List (List It)→List It
 | []=>[]
 | [t]=>t
 | t::r=>t++.c 44::.b 32::tQ r
def lnI (nm:Bs) (os:List (List It)):List It:=.w nm::(match os with
 | []=>[]
 | os=>.b 32::tQ os)
def okE (o:List It):Prop:=∀l,okI l→stI l=true→okI (o++l)
theorem joinI_tk:∀os:List (List It),tkI (tQ os)=sS (os.map tkI)
 | []=>rfl
 | [t]=>rfl
 | t::t2::r=>by
  have ih:=joinI_tk (t2::r);rw[tQ,tkI_app,sO,sO,ih]
  ·rfl
  ·simp
theorem joinI_ok:∀os:List (List It),(∀o∈os,okE o)→okI (tQ os)
 | [],_=>trivial
 | [t],h=>by
  have:=h t (by simp) [] trivial rfl
  rwa [Ah] at this
 | t::t2::r,h=>by
  have ih:=joinI_ok (t2::r) fun o ho=>h o (Kv _ ho);rw[tQ]
  ·exact h t (by simp) _ ⟨by decide,.inl rfl,ih⟩ rfl
  ·simp
theorem lnI_ok {nm:Bs}(hw:wrdB nm=true) {os:List (List It)}(h:∀o∈os,okE o):okI (lnI nm os):=by
 cases os with
 | nil=>exact⟨hw,rfl,trivial⟩
 | cons t r=>exact⟨hw,rfl,.inl rfl,joinI_ok _ h⟩
theorem lnI_tk (nm:Bs) (os:List (List It)):tkI (lnI nm os)=⟨119,nm,0⟩::sS (os.map tkI):=by
 cases os with
 | nil=>rfl
 | cons t r=>show [_]++([]++tkI (tQ (t::r)))=_;rw[joinI_tk];rfl
theorem opT_col {kind:Int}{t:List ATk}{o:AOp}(h:OpT kind t o):isA [58] t=false:=by
 obtain⟨h1,h2⟩:=h
 cases t with
 | nil=>exact absurd rfl h1
 | cons x t =>
  cases hx:isA [58] (x::t) with
  | false=>rfl
  | true =>
   have hx':(decide (x.kind=115)&&decide (x.s=[58]))=true:=hx;simp only[Ky,Ac] at hx';obtain⟨k,s,n⟩:=x;obtain⟨rfl,rfl⟩:=hx';have h3:=h2 [];unfold opA at h3;rw[Ah,Ad (by simp[isA]),Ad (by simp[isA]),Ad (fun ⟨t,a,b⟩=>by cases a;cases b)] at h3;cases h3
theorem joinT_col {kind:Int}:∀{ts:List (List ATk)}{os:List AOp},OpsT kind ts os→isA [58] (sS ts)=false
 | _,_,.nil=>rfl
 | _,_,.cons (t:=t) (ts:=ts) h k=>by
  have h1:=opT_col h
  cases t with
  | nil=>exact absurd rfl h.1
  | cons x t=>cases ts with
   | nil=>exact h1
   | cons t2 ts=>exact h1
theorem lnI_par {kind:Int}{nm:Bs}{os:List (List It)}{l:List AOp}{f:AFm}(h:OpsT kind (os.map tkI) l) (hf:vU kind nm (vV l) l.length=some f) (hz:nm≠wA):pR kind (tkI (lnI nm os))=.ok ⟨[],nm,vV l,l,some f,0,sizeA f l⟩:=by
 rw[lnI_tk];exact par_it h (joinT_col h) hf hz (joinT_len h)
theorem wJ {d:Nat}(h:d<16):okE [iR d]:=fun _ h1 h2=>⟨wrd_rnm d h,h2,h1⟩
theorem tN {n:Nat}(h:n<4294967296):okE [.n n]:=fun _ h1 h2=>⟨h,h2,h1⟩
theorem okE_sgn {n:Nat}(h:n<4294967296):okE (iS n):=fun l h1 h2=>by
 unfold iS
 split
 ·exact⟨by decide,by omega,h2,h1⟩
 ·exact⟨h,h2,h1⟩
theorem okE_mem {s n:Nat}{x:Option (Nat×Nat)}(hs:s<16) (hn:n<4294967296) (hx:∀p,x=some p→p.1<8∧p.2<4):okE (iM s x n):=fun l h1 _=>by
 have h3:okI (iO n++(.c 93::l)):=iO_ok hn rfl ⟨by decide,h1⟩;have e:iM s x n++l=.c 91::iR s::(iX x++(iO n++(.c 93::l))):=by unfold iM;simp
 rw[e];refine⟨by decide,wrd_rnm s hs,?_,?_⟩
 ·cases x with
  | none=>exact iO_st _ _
  | some p=>rfl
 ·cases x with
  | none=>exact h3
  | some p =>
   obtain⟨a1,a2⟩:=hx p rfl;refine⟨by decide,wrd_rnm p.1 (by omega),rfl,by decide,?_,iO_st _ _,h3⟩;have:2 ^ p.2≤2 ^ 3:=Nat.pow_le_pow_right (by omega) (by omega);omega
theorem vI {kind:Int}{d:Nat}(h:d<uE kind):OpT kind (tkI [iR d]) ⟨114,d,[],0,0,0⟩:=opT_reg h
theorem all1 {α:Type}{P:α→Prop}{a:α}(h:P a):∀x∈[a],P x:=fun x hx=>by cases An.1 hx;exact h
theorem all2 {α:Type}{P:α→Prop}{a b:α}(h:P a) (k:P b):∀x∈[a,b],P x:=fun x hx=>by
 rcases List.mem_cons.1 hx with rfl|hx
 ·exact h
 ·cases An.1 hx;exact k
theorem sub_to (a n z:Nat) (ha:a<4294967296) (hn:n<4294967296) (hz:z<100):subW (subW ((a+z+n)%4294967296) a) z=n:=by
 unfold subW;omega
theorem qW {i:KI}{a:Nat}{nm:Bs}{os:List (List It)}{ops:List AOp}{sel:KSel}{fil:KFil}{v:List Nat}(hw:wrdB nm=true) (hz:nm≠wA) (hf:vU 1 nm (vV ops) ops.length=some (.k sel fil)) (ho:∀o∈os,okE o) (h:OpsT 1 (os.map tkI) ops) (tx:lnK i a=txI (lnI nm os)) (hs:((sizeA (.k sel fil) ops:Nat):Int)=i.size) (hv:∀lb,vL lb ops=.ok v) (hi:insK sel fil (vV ops) ops v a=i):∃l st,LnK i a l st :=
 ⟨_,_,tx,lnI_ok hw ho,lnI_par h hf hz,rfl,hs,sel,fil,v,rfl,hv,hi⟩
theorem line_K {i:KI}(h:VK i) {a:Nat}(ha:a<4294967296):∃l st,LnK i a l st:=by
 obtain⟨z0,z1,z2,z3,z4,z5,z6,z7,z8,z9,z10⟩:=sz_all
 cases h with
 | none k hk =>
  obtain⟨n1,n2,n3⟩:=vP nm_none hk;have hz:=qZ z0 hk;refine qW (a:=a) (nm:=noneL.getD k []) (os:=[]) (ops:=[]) (v:=[]) n1 n2 n3 ((fun _ h=>nomatch h)) .nil ?_ ?_ (fun _=>rfl) ?_
  ·unfold lnK;dsimp only;rw[Ae (by omega)];simp[lnI,txI,itB]
  ·show ((xJ ((k:Int)%256):Nat):Int)=1;rw[show xJ ((k:Int)%256)=1 from hz];rfl
  ·show (⟨k,0,0,-1,0,0,(xJ ((k:Int)%256):Nat)⟩:KI)=_;rw[show xJ ((k:Int)%256)=1 from hz];rfl
 | reg k d hk hd =>
  obtain⟨n1,n2,n3⟩:=vP nm_sing hk;have hz:=qZ z1 hk;refine qW (a:=a) (nm:=singL.getD k []) (os:=[[iR d]]) (ops:=[⟨114,d,[],0,0,0⟩]) (v:=[0]) n1 n2 n3 ((all1 (wJ (by omega)))) (.cons (vI (by show d<8;omega)) .nil) ?_ ?_ (fun _=>rfl) ?_
  ·unfold lnK;dsimp only;rw[Ad (by omega),Ae (by omega),show ((16+k:Nat):Int)-16=(k:Nat) by omega,Int.toNat_natCast,sH (by omega)];simp[lnI,txI,itB,tQ]
  ·show ((xJ (((16+k:Nat):Int)%256):Nat):Int)=2;rw[hz];rfl
  ·show (⟨(16+k:Nat),d,0,-1,0,0,(xJ (((16+k:Nat):Int)%256):Nat)⟩:KI)=_;rw[hz];rfl
 | regs k d s hk hd hs =>
  obtain⟨n1,n2,n3⟩:=vP nm_regs hk;have hz:=qZ z2 hk;refine qW (a:=a) (nm:=ariL.getD k []) (os:=[[iR d],[iR s]]) (ops:=[⟨114,d,[],0,0,0⟩,⟨114,s,[],0,0,0⟩]) (v:=[0,0]) n1 n2 n3 ((all2 (wJ (by omega)) (wJ (by omega)))) (.cons (vI (by show d<8;omega)) (.cons (vI (by show s<8;omega)) .nil)) ?_ ?_ (fun _=>rfl) ?_
  ·unfold lnK;dsimp only;rw[Ad (by omega),Ad (by omega),Ae (by omega),show ((32+k:Nat):Int)-32=(k:Nat) by omega,Int.toNat_natCast,sH (by omega),sH (by omega)];simp[lnI,txI,itB,tQ]
  ·show ((xJ (((32+k:Nat):Int)%256):Nat):Int)=2;rw[hz];rfl
  ·show (⟨(32+k:Nat),d,s,-1,0,0,(xJ (((32+k:Nat):Int)%256):Nat)⟩:KI)=_;rw[hz];rfl
 | short k d n hk hd hn hf =>
  obtain⟨n1,n2,n3⟩:=vP nm_shrt hk;have hz:=qZ z3 hk;refine qW (a:=a) (nm:=ariL.getD k []++[46,98]) (os:=[[iR d],iS n]) (ops:=[⟨114,d,[],0,0,0⟩,rA n]) (v:=[0,n]) n1 n2 n3 ((all2 (wJ (by omega)) (okE_sgn hn))) (.cons (vI (by show d<8;omega)) (.cons (opT_sgn hn) .nil)) ?_ ?_ (fun _=>rfl) ?_
  ·unfold lnK;dsimp only;rw[Ad (by omega),Ad (by omega),Ad (by omega),Ae (by omega),show ((48+k:Nat):Int)-48=(k:Nat) by omega,Int.toNat_natCast,sH (by omega),← iS_tx];simp[lnI,txI,itB,tQ]
  ·show ((xJ (((48+k:Nat):Int)%256):Nat):Int)=3;rw[hz];rfl
  ·show (⟨(48+k:Nat),d,0,-1,0,n,(xJ (((48+k:Nat):Int)%256):Nat)⟩:KI)=_;rw[hz];rfl
 | imm k d n hk hd hn =>
  obtain⟨n1,n2,n3⟩:=vP nm_imm hk;have hz:=qZ z4 hk;refine qW (a:=a) (nm:=ariL.getD k []++[46,119]) (os:=[[iR d],iS n]) (ops:=[⟨114,d,[],0,0,0⟩,rA n]) (v:=[0,n]) n1 n2 n3 ((all2 (wJ (by omega)) (okE_sgn hn))) (.cons (vI (by show d<8;omega)) (.cons (opT_sgn hn) .nil)) ?_ ?_ (fun _=>rfl) ?_
  ·unfold lnK;dsimp only;rw[Ad (by omega),Ad (by omega),Ad (by omega),Ad (by omega),Ae (by omega),show ((64+k:Nat):Int)-64=(k:Nat) by omega,Int.toNat_natCast,sH (by omega),← iS_tx];simp[lnI,txI,itB,tQ]
  ·show ((xJ (((64+k:Nat):Int)%256):Nat):Int)=6;rw[hz];rfl
  ·show (⟨(64+k:Nat),d,0,-1,0,n,(xJ (((64+k:Nat):Int)%256):Nat)⟩:KI)=_;rw[hz];rfl
 | mem k d s n hk hd hs hn hf =>
  obtain⟨n1,n2,n3⟩:=vP nm_mem hk;have hz:=qZ z5 hk;have hft:=sx_fit hn hf
  have hop:opK (.access k) [⟨114,d,[],0,0,0⟩,mOp s none n]=((80+k:Nat):Int):=by
   show (if (-1:Int)<0∧vC n 8=true then ((80+k:Nat):Int) else _)=_;rw[Ae ⟨by omega,hft⟩]
  refine qW (a:=a) (nm:=accL.getD k []) (os:=[[iR d],iM s none n]) (ops:=[⟨114,d,[],0,0,0⟩,mOp s none n]) (v:=[0,n]) n1 n2 n3 ((all2 (wJ (by omega)) (okE_mem (by omega) hn (fun _ h=>nomatch h)))) (.cons (vI (by show d<8;omega)) (.cons (opT_mem (by show s<8;omega) hn (fun _ h=>nomatch h)) .nil)) ?_ ?_ (fun _=>rfl) ?_
  ·unfold lnK;dsimp only;rw[Ad (by omega),Ad (by omega),Ad (by omega),Ad (by omega),Ad (by omega),Ae (by omega),show ((80+k:Nat):Int)-80=(k:Nat) by omega,Int.toNat_natCast,sH (by omega),sH (by omega),← iO_tx];simp[lnI,txI,itB,tQ,iM,iX]
  ·show ((xJ ((opK (.access k) [⟨114,d,[],0,0,0⟩,mOp s none n])%256):Nat):Int)=3;rw[hop,hz];rfl
  ·show (⟨opK (.access k) [⟨114,d,[],0,0,0⟩,mOp s none n],d,s,-1,0,n,(xJ ((opK (.access k) [⟨114,d,[],0,0,0⟩,mOp s none n])%256):Nat)⟩:KI)=_;rw[hop,hz];rfl
 | idx k d s n x hk hd hs hn hx =>
  obtain⟨n1,n2,n3⟩:=vP nm_idx hk;have hz:=qZ z6 hk;refine qW (a:=a) (nm:=accL.getD k []++[46,120]) (os:=[[iR d],iM s x n]) (ops:=[⟨114,d,[],0,0,0⟩,mOp s x n]) (v:=[0,n]) n1 n2 n3 ((all2 (wJ (by omega)) (okE_mem (by omega) hn hx))) (.cons (vI (by show d<8;omega)) (.cons (opT_mem (by show s<8;omega) hn (fun p h=>⟨rfl,hx p h⟩)) .nil)) ?_ ?_ (fun _=>rfl) ?_
  ·unfold lnK;dsimp only;rw[Ad (by omega),Ad (by omega),Ad (by omega),Ad (by omega),Ad (by omega),Ad (by omega),Ae (by omega),show ((88+k:Nat):Int)-88=(k:Nat) by omega,Int.toNat_natCast,sH (by omega),sH (by omega),← iO_tx]
   cases x with
   | none =>
    rw[Ad (by show ¬(0:Int)≤-1;omega)];simp[lnI,txI,itB,tQ,iM,iX]
   | some p =>
    rw[Ae (by show (0:Int)≤p.1;omega),show idxV (some p)=(p.1:Int) from rfl,show scaV (some p)=(p.2:Int) from rfl,sH (by have:=(hx p rfl).1;omega),Int.toNat_natCast];simp[lnI,txI,itB,tQ,iM,iX]
  ·show ((xJ (((88+k:Nat):Int)%256):Nat):Int)=7;rw[hz];rfl
  ·show (⟨(88+k:Nat),d,s,idxV x,scaV x,n,(xJ (((88+k:Nat):Int)%256):Nat)⟩:KI)=_;rw[hz];rfl
 | cond k n hk hn hf =>
  obtain⟨n1,n2,n3⟩:=vP nm_cond hk;have hz:=qZ z7 hk;have ht:(a+2+n)%4294967296<4294967296:=Nat.mod_lt _ (by omega);refine qW (a:=a) (nm:=[106]++vG.getD k []) (os:=[[.n ((a+2+n)%4294967296)]]) (ops:=[rA ((a+2+n)%4294967296)]) (v:=[(a+2+n)%4294967296]) n1 n2 n3 ((all1 (tN ht))) (.cons (tZ 1 _) .nil) ?_ ?_ (fun _=>rfl) ?_
  ·unfold lnK;dsimp only;rw[Ad (by omega),Ad (by omega),Ad (by omega),Ad (by omega),Ad (by omega),Ad (by omega),Ad (by omega),Ae (by omega),show ((96+k:Nat):Int)-96=(k:Nat) by omega,Int.toNat_natCast];simp[lnI,txI,itB,tQ,toK]
  ·show ((xJ (((96+k:Nat):Int)%256):Nat):Int)=2;rw[hz];rfl
  ·show (⟨(96+k:Nat),0,0,-1,0,subW (subW ((a+2+n)%4294967296) a) (xJ (((96+k:Nat):Int)%256)),(xJ (((96+k:Nat):Int)%256):Nat)⟩:KI)=_;rw[hz,sub_to a n 2 ha hn (by omega)];rfl
 | jump k n hk hn =>
  obtain⟨n1,n2,n3⟩:=vP nm_jump hk;have hz:=qZ z8 hk;have ht:(a+5+n)%4294967296<4294967296:=Nat.mod_lt _ (by omega);refine qW (a:=a) (nm:=jmpN k) (os:=[[.n ((a+5+n)%4294967296)]]) (ops:=[rA ((a+5+n)%4294967296)]) (v:=[(a+5+n)%4294967296]) n1 n2 n3 ((all1 (tN ht))) (.cons (tZ 1 _) .nil) ?_ ?_ (fun _=>rfl) ?_
  ·unfold lnK;dsimp only;rw[Ad (by omega),Ad (by omega),Ad (by omega),Ad (by omega),Ad (by omega),Ad (by omega),Ad (by omega),Ad (by omega)];have:k=0∨k=1:=by omega
   rcases this with rfl|rfl
   ·rw[Ae (by omega)];simp[lnI,txI,itB,tQ,toK,jmpN]
   ·rw[Ad (by omega),Ae (by omega)];simp[lnI,txI,itB,tQ,toK,jmpN]
  ·show ((xJ (((112+k:Nat):Int)%256):Nat):Int)=5;rw[hz];rfl
  ·show (⟨(112+k:Nat),0,0,-1,0,subW (subW ((a+5+n)%4294967296) a) (xJ (((112+k:Nat):Int)%256)),(xJ (((112+k:Nat):Int)%256):Nat)⟩:KI)=_;rw[hz,sub_to a n 5 ha hn (by omega)];rfl
 | sys n hn =>
  obtain⟨n1,n2,n3⟩:=vP nm_sys (k:=0) (by omega);have hz:=qZ z9 (k:=0) (by omega);refine qW (a:=a) (nm:=[115,121,115]) (os:=[[.n n]]) (ops:=[rA n]) (v:=[n]) n1 n2 n3 ((all1 (tN (by omega)))) (.cons (tZ 1 _) .nil) ?_ ?_ (fun _=>rfl) ?_
  ·unfold lnK;dsimp only;rw[Ad (by omega),Ad (by omega),Ad (by omega),Ad (by omega),Ad (by omega),Ad (by omega),Ad (by omega),Ad (by omega),Ad (by omega),Ad (by omega),Ae (by omega)];simp[lnI,txI,itB,tQ]
  ·show ((xJ (((128:Nat):Int)%256):Nat):Int)=2;rw[hz];rfl
  ·show (⟨128,0,0,-1,0,n,(xJ (((128:Nat):Int)%256):Nat)⟩:KI)=_;rw[hz];rfl
 | getc d s hd hs =>
  obtain⟨n1,n2,n3⟩:=vP nm_gsc (k:=0) (by omega);have hz:=qZ z10 (k:=0) (by omega);refine qW (a:=a) (nm:=[103,101,116,99]) (os:=[[iR d],[.n s]]) (ops:=[⟨114,d,[],0,0,0⟩,rA s]) (v:=[0,s]) n1 n2 n3 ((all2 (wJ (by omega)) (tN (by omega)))) (.cons (vI (by show d<8;omega)) (.cons (tZ 1 _) .nil)) ?_ ?_ (fun _=>rfl) ?_
  ·unfold lnK;dsimp only;rw[Ad (by omega),Ad (by omega),Ad (by omega),Ad (by omega),Ad (by omega),Ad (by omega),Ad (by omega),Ad (by omega),Ad (by omega),Ad (by omega),Ad (by omega),Ae (by omega),sH (by omega),Int.toNat_natCast];simp[lnI,txI,itB,tQ]
  ·show ((xJ (((129+0:Nat):Int)%256):Nat):Int)=2;rw[hz];rfl
  ·show (⟨((129+0:Nat):Int),d,s,-1,0,0,(xJ (((129+0:Nat):Int)%256):Nat)⟩:KI)=_;rw[hz];rfl
 | setc d s hd hs =>
  obtain⟨n1,n2,n3⟩:=vP nm_gsc (k:=1) (by omega);have hz:=qZ z10 (k:=1) (by omega);refine qW (a:=a) (nm:=[115,101,116,99]) (os:=[[iR d],[.n s]]) (ops:=[⟨114,d,[],0,0,0⟩,rA s]) (v:=[0,s]) n1 n2 n3 ((all2 (wJ (by omega)) (tN (by omega)))) (.cons (vI (by show d<8;omega)) (.cons (tZ 1 _) .nil)) ?_ ?_ (fun _=>rfl) ?_
  ·unfold lnK;dsimp only;rw[Ad (by omega),Ad (by omega),Ad (by omega),Ad (by omega),Ad (by omega),Ad (by omega),Ad (by omega),Ad (by omega),Ad (by omega),Ad (by omega),Ad (by omega),Ad (by omega),sH (by omega),Int.toNat_natCast];simp[lnI,txI,itB,tQ]
  ·show ((xJ (((129+1:Nat):Int)%256):Nat):Int)=2;rw[hz];rfl
  ·show (⟨((129+1:Nat):Int),d,s,-1,0,0,(xJ (((129+1:Nat):Int)%256):Nat)⟩:KI)=_;rw[hz];rfl
end Go.Proofs.YtkaepknpplhgkaaGreatDoor
namespace Go.Proofs.YtkaepknpplhgkaaGreatDoor
inductive VQ:QI→Prop
 | rrr (k d a b:Nat) (hk:k<12) (hd:d<16) (ha:a<16) (hb:b<16):VQ ⟨(1+k:Nat),d,a,b,0⟩
 | logi (k d a n:Nat) (hk:k<3) (hd:d<16) (ha:a<16) (hn:n<262144):VQ ⟨(17+k:Nat),d,a,0,n⟩
 | rri (k d a n:Nat) (hk:k=16∨k=20∨k=21∨k=22∨k=27) (hd:d<16) (ha:a<16) (hn:n<4294967296) (hf:vC n 18=true):VQ ⟨k,d,a,0,n⟩
 | mem (k d a n:Nat) (hk:k<4) (hd:d<16) (ha:a<16) (hn:n<4294967296) (hf:vC n 18=true):VQ ⟨(23+k:Nat),d,a,0,n⟩
 | br (k d a n:Nat) (hk:k<6) (hd:d<16) (ha:a<16) (hn:n<4294967296) (hf:vC n 18=true):VQ ⟨(32+k:Nat),d,a,0,n⟩
 | jal (d n:Nat) (hd:d<16) (hn:n<4294967296) (hf:vC n 22=true):VQ ⟨40,d,0,0,n⟩
 | lui (d n:Nat) (hd:d<16) (hn:n<4194304):VQ ⟨41,d,0,0,n⟩
 | sys (n:Nat) (hn:n<262144):VQ ⟨48,0,0,0,n⟩
 | op (k:Nat) (hk:k<3):VQ ⟨(49+k:Nat),0,0,0,0⟩
 | sync (a:Nat) (ha:a<16):VQ ⟨52,0,a,0,0⟩
 | getc (d n:Nat) (hd:d<16) (hn:n<4):VQ ⟨53,d,0,0,n⟩
 | setc (a n:Nat) (ha:a<16) (hn:n<5):VQ ⟨54,0,a,0,n⟩
theorem sG {n:Int}(h:tO n true=true):∃k:Nat,n=k∧k<16:=by
 unfold tO at h;simp only[Bool.or_eq_true,Ky,Ac,Bool.true_and] at h;exact⟨n.toNat,by omega,by omega⟩
theorem uI {n:Int}(h:tO n false=true):n=0:=by
 unfold tO at h
 simpa using h
theorem vQ_of {i:QI}(hm:i.imm<4294967296) (h:(tI i).isSome=true):VQ i:=by
 obtain⟨op,d,a,b,n⟩:=i;unfold tI at h;dsimp only at h hm
 cases hs:sW op with
 | none=>rw[hs] at h;cases h
 | some s =>
  rw[hs] at h;dsimp only at h
  split at h
  ·next hh =>
   obtain⟨h1,h2,h3,h4⟩:=hh;unfold sW at hs
   by_cases c1:1≤op∧op≤12
   ·rw[Ae c1] at hs;cases hs;obtain⟨dn,rfl,hd⟩:=sG h1;obtain⟨an,rfl,ha⟩:=sG h2;obtain⟨bn,rfl,hb⟩:=sG h3;have h4:n=0:=Ke h4;subst h4;have:=VQ.rrr (op.toNat-1) dn an bn (by omega) hd ha hb
    rwa [show ((1+(op.toNat-1):Nat):Int)=op by omega] at this
   rw[Ad c1] at hs
   by_cases c2:op=17∨op=18∨op=19
   ·rw[Ae c2] at hs;cases hs;obtain⟨dn,rfl,hd⟩:=sG h1;obtain⟨an,rfl,ha⟩:=sG h2;obtain rfl:=uI h3;have h4:n/2 ^ 18=0:=Ke h4;have:=VQ.logi (op.toNat-17) dn an n (by omega) hd ha (by omega)
    rwa [show ((17+(op.toNat-17):Nat):Int)=op by omega] at this
   rw[Ad c2] at hs
   by_cases c3:16≤op∧op≤27
   ·rw[Ae c3] at hs;cases hs;obtain⟨dn,rfl,hd⟩:=sG h1;obtain⟨an,rfl,ha⟩:=sG h2;obtain rfl:=uI h3
    by_cases c4:23≤op∧op≤26
    ·have:=VQ.mem (op.toNat-23) dn an n (by omega) hd ha hm h4
     rwa [show ((23+(op.toNat-23):Nat):Int)=op by omega] at this
    ·have:=VQ.rri op.toNat dn an n (by omega) hd ha hm h4
     rwa [show ((op.toNat:Nat):Int)=op by omega] at this
   rw[Ad c3] at hs
   by_cases c4:32≤op∧op≤37
   ·rw[Ae c4] at hs;cases hs;obtain⟨dn,rfl,hd⟩:=sG h1;obtain⟨an,rfl,ha⟩:=sG h2;obtain rfl:=uI h3;have:=VQ.br (op.toNat-32) dn an n (by omega) hd ha hm h4
    rwa [show ((32+(op.toNat-32):Nat):Int)=op by omega] at this
   rw[Ad c4] at hs
   by_cases c5:op=40
   ·rw[Ae c5] at hs;cases hs;obtain⟨dn,rfl,hd⟩:=sG h1;obtain rfl:=uI h2;obtain rfl:=uI h3;subst c5;exact .jal dn n hd hm h4
   rw[Ad c5] at hs
   by_cases c6:op=41
   ·rw[Ae c6] at hs;cases hs;obtain⟨dn,rfl,hd⟩:=sG h1;obtain rfl:=uI h2;obtain rfl:=uI h3;have h4:n/2 ^ 22=0:=Ke h4;subst c6;exact .lui dn n hd (by omega)
   rw[Ad c6] at hs
   by_cases c7:op=48
   ·rw[Ae c7] at hs;cases hs;obtain rfl:=uI h1;obtain rfl:=uI h2;obtain rfl:=uI h3;have h4:n/2 ^ 18=0:=Ke h4;subst c7;exact .sys n (by omega)
   rw[Ad c7] at hs
   by_cases c8:op=49∨op=50∨op=51
   ·rw[Ae c8] at hs;cases hs;obtain rfl:=uI h1;obtain rfl:=uI h2;obtain rfl:=uI h3;have h4:n=0:=Ke h4;subst h4;have:=VQ.op (op.toNat-49) (by omega)
    rwa [show ((49+(op.toNat-49):Nat):Int)=op by omega] at this
   rw[Ad c8] at hs
   by_cases c9:op=52
   ·rw[Ae c9] at hs;cases hs;obtain rfl:=uI h1;obtain⟨an,rfl,ha⟩:=sG h2;obtain rfl:=uI h3;have h4:n=0:=Ke h4;subst h4 c9;exact .sync an ha
   rw[Ad c9] at hs
   by_cases c10:op=53
   ·rw[Ae c10] at hs;cases hs;obtain⟨dn,rfl,hd⟩:=sG h1;obtain rfl:=uI h2;obtain rfl:=uI h3;have h4:n≤3:=Ke h4;subst c10;exact .getc dn n hd (by omega)
   rw[Ad c10] at hs
   by_cases c11:op=54
   ·rw[Ae c11] at hs;cases hs;obtain rfl:=uI h1;obtain⟨an,rfl,ha⟩:=sG h2;obtain rfl:=uI h3;have h4:n≤4:=Ke h4;subst c11;exact .setc an n ha (by omega)
   rw[Ad c11] at hs;cases hs
  ·cases h
def wC (op:Nat):Bs:=((rG.find? fun p=>Nat.beq p.1 op).getD (0,[])).2
def joB:List Bs→Bs
 | []=>[]
 | [x]=>x
 | x::r=>x++[44,32]++joB r
def sB (i:QI) (a:Nat):Bs:=if rF i.op=true then Lib.decDigits ((a+4*i.imm)%4294967296) else if (17≤i.op∧i.op≤19)∨41≤i.op then Lib.decDigits i.imm else uK i.imm
def qS (i:QI):List Int:=if i.op=52∨i.op=54 then [i.a,i.b] else [i.d,i.a,i.b]
def oO (i:QI) (a:Nat) (c:UInt8) (k:Nat):Bs:=if c=114 then rgB ((qS i).getD k 0) else if c=118 then sB i a else [91]++rgB i.a++uO i.imm++[93]
def tD (i:QI) (a:Nat):List UInt8→Nat→List Bs
 | [],_=>[]
 | c::r,k=>oO i a c k::tD i a r (k+1)
def lnQ (i:QI) (a:Nat):Bs:=if wF i.op.toNat=[] then wC i.op.toNat else wC i.op.toNat++[32]++joB (tD i a (wF i.op.toNat) 0)
theorem joinI_tx:∀os:List (List It),txI (tQ os)=joB (os.map txI)
 | []=>rfl
 | [t]=>rfl
 | t::t2::r=>by
  have ih:=joinI_tx (t2::r);rw[tQ,txI_app,sP,sP,ih]
  ·show txI t++([44]++([32]++joB (txI t2::r.map txI)))=txI t++[44,32]++joB (txI t2::r.map txI);simp
  ·simp
theorem lnI_tx (nm:Bs) (os:List (List It)):txI (lnI nm os)=if os=[] then nm else nm++[32]++joB (os.map txI):=by
 cases os with
 | nil=>show nm++[]=_;rw[Ah];rfl
 | cons t r =>
  rw[Ad (by simp),← joinI_tx];show nm++([32]++txI (tQ (t::r)))=_;rw[Kr]
structure LnQ (i:QI) (a:Nat) (l:List It) (st:ASt):Prop where
 tx:lnQ i a=txI l
 ok:okI l
 par:pR 2 (tkI l)=.ok st
 lab:st.label=[]
 size:st.size=4
 ins:∃op v,st.form=some (.q op)∧(∀lb,vL lb st.l=.ok v)∧∃j,insQ op st.l v 0 ⟨op,0,0,0,0⟩=j∧(if rF op=true then (tE (subW j.imm a)).tmod 4=0∧{ j with imm:=((tE (subW j.imm a)).tdiv 4%4294967296).toNat }=i else j=i)
def insN:List AOp→List Nat→Nat→QI→QI
 | [],_,_,i=>i
 | o::l,v,k,i=>insN l (v.drop 1) (k+1) (if o.kind=118 then { i with imm:=v.headD 0 } else if o.kind=109 then fldQ { i with imm:=o.n } k o.r else fldQ i k o.r)
theorem insQ_n {op:Int}(h:op≠52∧op≠54):∀(l:List AOp) (v:List Nat) (k:Nat) (i:QI),insQ op l v k i=insN l v k i
 | [],_,_,_=>rfl
 | o::l,v,k,i=>by
  have e:(if op=52∨op=54 then k+1 else k)=k:=Ad (by omega);rw[insQ,insN];rw[e];exact insQ_n h l _ _ _
theorem nq_rrr:nmB 2 12 (fun k=>wC (1+k)) [114,114,114] (fun k=>.q (1+k:Nat))=true:=by kernel_rfl
theorem nq_rri:nmB 2 7 (fun k=>wC (16+k)) [114,114,118] (fun k=>.q (16+k:Nat))=true:=by kernel_rfl
theorem nq_jlr:nmB 2 1 (fun k=>wC (27+k)) [114,114,118] (fun k=>.q (27+k:Nat))=true:=by kernel_rfl
theorem nq_mem:nmB 2 4 (fun k=>wC (23+k)) [114,109] (fun k=>.q (23+k:Nat))=true:=by kernel_rfl
theorem nq_br:nmB 2 6 (fun k=>wC (32+k)) [114,114,118] (fun k=>.q (32+k:Nat))=true:=by kernel_rfl
theorem nq_jl:nmB 2 2 (fun k=>wC (40+k)) [114,118] (fun k=>.q (40+k:Nat))=true:=by kernel_rfl
theorem nq_sys:nmB 2 1 (fun k=>wC (48+k)) [118] (fun k=>.q (48+k:Nat))=true:=by kernel_rfl
theorem nq_op:nmB 2 3 (fun k=>wC (49+k)) [] (fun k=>.q (49+k:Nat))=true:=by kernel_rfl
theorem nq_sync:nmB 2 1 (fun k=>wC (52+k)) [114] (fun k=>.q (52+k:Nat))=true:=by kernel_rfl
theorem nq_gsc:nmB 2 2 (fun k=>wC (53+k)) [114,118] (fun k=>.q (53+k:Nat))=true:=by kernel_rfl
def shB (lo n:Nat) (sh:Bs):Bool:=(List.range n).all fun k=>decide (wF (lo+k)=sh)
theorem shB_at {lo n:Nat}{sh:Bs}(h:shB lo n sh=true) {k:Nat}(hk:k<n):wF (lo+k)=sh:=Ke (tP h k hk)
theorem sh_all:shB 1 12 [114,114,114]=true∧shB 16 7 [114,114,118]=true∧shB 27 1 [114,114,118]=true∧shB 23 4 [114,109]=true∧shB 32 6 [114,114,118]=true∧shB 40 2 [114,118]=true∧shB 48 1 [118]=true∧shB 49 3 []=true∧shB 52 1 [114]=true∧shB 53 2 [114,118]=true:=by
 refine⟨?_,?_,?_,?_,?_,?_,?_,?_,?_,?_⟩<;>kernel_rfl
theorem jmpQ_no {op:Int}(h:¬(32≤op∧op≤37)∧op≠40):¬rF op=true:=by
 unfold rF;rw[Ak h.1,Ak h.2];decide
theorem jmpQ_br {op:Int}(h:32≤op∧op≤37):rF op=true:=by
 unfold rF;rw[Aj h];rfl
theorem immB_s {i:QI}{a:Nat}(h:¬(32≤i.op∧i.op≤37)∧i.op≠40) (h2:¬((17≤i.op∧i.op≤19)∨41≤i.op)):sB i a=uK i.imm:=by
 unfold sB;rw[Ad (jmpQ_no h),Ad h2]
theorem immB_d {i:QI}{a:Nat}(h:¬(32≤i.op∧i.op≤37)∧i.op≠40) (h2:(17≤i.op∧i.op≤19)∨41≤i.op):sB i a=Lib.decDigits i.imm:=by
 unfold sB;rw[Ad (jmpQ_no h),Ae h2]
theorem far_to {a n:Nat}(ha:a<4294967296) (hn:n<4294967296) (hf:n<2097152∨4292870144≤n):(tE (subW ((a+4*n)%4294967296) a)).tmod 4=0∧((tE (subW ((a+4*n)%4294967296) a)).tdiv 4%4294967296).toNat=n:=by
 have e:subW ((a+4*n)%4294967296) a=(4*n)%4294967296:=by unfold subW;omega
 rw[e];rcases hf with hf|hf
 ·have e2:tE (4*n%4294967296)=4*(n:Int):=by
   unfold tE;rw[Ae (by omega)];omega
  rw[e2,Int.mul_tmod_right,Int.mul_tdiv_cancel_left _ (by decide)];omega
 ·have e2:tE (4*n%4294967296)=4*((n:Int)-4294967296):=by
   unfold tE;rw[Ad (by omega)];omega
  rw[e2,Int.mul_tmod_right,Int.mul_tdiv_cancel_left _ (by decide)];omega
theorem fit_18 {n:Nat}(h:vC n 18=true):n<2097152∨4292870144≤n:=by
 unfold vC at h;simp only[Nat.reducePow,Nat.reduceSub,Bool.or_eq_true,Ac] at h;omega
theorem fit_22 {n:Nat}(h:vC n 22=true):n<2097152∨4292870144≤n:=by
 unfold vC at h;simp only[Nat.reducePow,Nat.reduceSub,Bool.or_eq_true,Ac] at h;omega
theorem all3 {α:Type}{P:α→Prop}{a b c:α}(h:P a) (k:P b) (j:P c):∀x∈[a,b,c],P x:=fun x hx=>by
 rcases List.mem_cons.1 hx with rfl|hx
 ·exact h
 ·exact all2 k j x hx
theorem sV {d:Nat}(h:d<16):rgB d=txI [iR d]:=by rw[sH h];simp[txI]
theorem dec_tx (n:Nat):Lib.decDigits n=txI [.n n]:=by simp[txI,itB]
theorem mem_tx {a n:Nat}(h:a<16):[91]++rgB a++uO n++[93]=txI (iM a none n):=by
 rw[sH h,← iO_tx];simp[txI,itB,iM,iX]
theorem qY {i:QI}{a:Nat}{nm:Bs}{os:List (List It)}(h1:wC i.op.toNat=nm) (h2:tD i a (wF i.op.toNat) 0=os.map txI) (h3:(wF i.op.toNat=[]↔os=[])):lnQ i a=txI (lnI nm os):=by
 unfold lnQ;rw[lnI_tx,h1,h2]
 by_cases h:os=[]
 ·rw[Ae (h3.2 h),Ae h]
 ·rw[Ad (fun e=>h (h3.1 e)),Ad h]
end Go.Proofs.YtkaepknpplhgkaaGreatDoor
namespace Go.Proofs.YtkaepknpplhgkaaGreatDoor
theorem qK {i:QI}(h:i.op≠52∧i.op≠54):qS i=[i.d,i.a,i.b]:=by
 unfold qS;rw[Ad (by omega)]
theorem regsQ_a {i:QI}(h:i.op=52∨i.op=54):qS i=[i.a,i.b]:=by
 unfold qS;rw[Ae h]
theorem prtQ_r (i:QI) (a k:Nat):oO i a 114 k=rgB ((qS i).getD k 0):=rfl
theorem prtQ_v (i:QI) (a k:Nat):oO i a 118 k=sB i a:=rfl
theorem prtQ_m (i:QI) (a k:Nat):oO i a 109 k=[91]++rgB i.a++uO i.imm++[93]:=rfl
theorem qX {i:QI}{a:Nat}{nm:Bs}{os:List (List It)}{ops:List AOp}{op:Int}{v:List Nat}(hw:wrdB nm=true) (hz:nm≠wA) (hf:vU 2 nm (vV ops) ops.length=some (.q op)) (ho:∀o∈os,okE o) (h:OpsT 2 (os.map tkI) ops) (tx:lnQ i a=txI (lnI nm os)) (hv:∀lb,vL lb ops=.ok v) (j:QI) (hj:insQ op ops v 0 ⟨op,0,0,0,0⟩=j) (hi:if rF op=true then (tE (subW j.imm a)).tmod 4=0∧{ j with imm:=((tE (subW j.imm a)).tdiv 4%4294967296).toNat }=i else j=i):∃l st,LnQ i a l st :=
 ⟨_,_,tx,lnI_ok hw ho,lnI_par h hf hz,rfl,rfl,op,v,rfl,hv,j,hj,hi⟩
theorem line_Q {i:QI}(h:VQ i) {a:Nat}(ha:a<4294967296):∃l st,LnQ i a l st:=by
 obtain⟨s0,s1,s2,s3,s4,s5,s6,s7,s8,s9⟩:=sh_all;have hm16:uE 2=16:=rfl
 cases h with
 | rrr k d x b hk hd hx hb =>
  obtain⟨n1,n2,n3⟩:=vP nq_rrr hk;have hs:=shB_at s0 hk;have ho:((1+k:Nat):Int)≠52∧((1+k:Nat):Int)≠54:=by omega
  refine qX (a:=a) (nm:=wC (1+k)) (os:=[[iR d],[iR x],[iR b]]) (ops:=[⟨114,d,[],0,0,0⟩,⟨114,x,[],0,0,0⟩,⟨114,b,[],0,0,0⟩]) (v:=[0,0,0]) n1 n2 n3 ((all3 (wJ hd) (wJ hx) (wJ hb))) (.cons (vI (by omega)) (.cons (vI (by omega)) (.cons (vI (by omega)) .nil))) (qY M ?_ ?_) (fun _=>rfl) _ (insQ_n ho _ _ _ _) ?_
  ·dsimp only;rw[Int.toNat_natCast,hs];simp only[tD,prtQ_r,qK (i:=⟨((1+k:Nat):Int),d,x,b,0⟩) ho];show [rgB d,rgB x,rgB b]=_;rw[sV hd,sV hx,sV hb];rfl
  ·dsimp only;rw[Int.toNat_natCast,hs];simp
  ·rw[Ad (jmpQ_no (by omega))];rfl
 | logi k d x n hk hd hx hn =>
  obtain⟨n1,n2,n3⟩:=vP nq_rri (k:=1+k) (by omega);have hs:=shB_at s1 (k:=1+k) (by omega);rw[show 16+(1+k)=17+k by omega] at n1 n2 n3 hs;have ho:((17+k:Nat):Int)≠52∧((17+k:Nat):Int)≠54:=by omega
  refine qX (a:=a) (nm:=wC (17+k)) (os:=[[iR d],[iR x],[.n n]]) (ops:=[⟨114,d,[],0,0,0⟩,⟨114,x,[],0,0,0⟩,rA n]) (v:=[0,0,n]) n1 n2 n3 ((all3 (wJ hd) (wJ hx) (tN (by omega)))) (.cons (vI (by omega)) (.cons (vI (by omega)) (.cons (tZ _ _) .nil))) (qY M ?_ ?_) (fun _=>rfl) _ (insQ_n ho _ _ _ _) ?_
  ·dsimp only;rw[Int.toNat_natCast,hs];simp only[tD,prtQ_r,prtQ_v,qK (i:=⟨((17+k:Nat):Int),d,x,0,n⟩) ho];rw[immB_d (by dsimp only;omega) (by dsimp only;omega)];show [rgB d,rgB x,Lib.decDigits n]=_;rw[sV hd,sV hx,dec_tx];rfl
  ·dsimp only;rw[Int.toNat_natCast,hs];simp
  ·rw[Ad (jmpQ_no (by omega))];rfl
 | rri k d x n hk hd hx hn hf =>
  have ho:(k:Int)≠52∧(k:Int)≠54:=by omega
  obtain⟨⟨n1,n2,n3⟩,hs⟩:(wrdB (wC k)=true∧wC k≠wA∧vU 2 (wC k) [114,114,118] ([114,114,118]:Bs).length=some (.q k))∧wF k=[114,114,118]:=by
   by_cases h27:k=27
   ·subst h27;exact⟨vP nq_jlr (k:=0) (by omega),shB_at s2 (k:=0) (by omega)⟩
   ·have h1:=vP nq_rri (k:=k-16) (by omega);have h2:=shB_at s1 (k:=k-16) (by omega);rw[show 16+(k-16)=k by omega] at h1 h2;exact⟨h1,h2⟩
  refine qX (a:=a) (nm:=wC k) (os:=[[iR d],[iR x],iS n]) (ops:=[⟨114,d,[],0,0,0⟩,⟨114,x,[],0,0,0⟩,rA n]) (v:=[0,0,n]) n1 n2 n3 ((all3 (wJ hd) (wJ hx) (okE_sgn hn))) (.cons (vI (by omega)) (.cons (vI (by omega)) (.cons (opT_sgn hn) .nil))) (qY M ?_ ?_) (fun _=>rfl) _ (insQ_n ho _ _ _ _) ?_
  ·dsimp only;rw[Int.toNat_natCast,hs];simp only[tD,prtQ_r,prtQ_v,qK (i:=⟨(k:Int),d,x,0,n⟩) ho];rw[immB_s (by dsimp only;omega) (by dsimp only;omega)];show [rgB d,rgB x,uK n]=_;rw[sV hd,sV hx,← iS_tx];rfl
  ·dsimp only;rw[Int.toNat_natCast,hs];simp
  ·rw[Ad (jmpQ_no (by omega))];rfl
 | mem k d x n hk hd hx hn hf =>
  obtain⟨n1,n2,n3⟩:=vP nq_mem hk;have hs:=shB_at s3 hk;have ho:((23+k:Nat):Int)≠52∧((23+k:Nat):Int)≠54:=by omega
  refine qX (a:=a) (nm:=wC (23+k)) (os:=[[iR d],iM x none n]) (ops:=[⟨114,d,[],0,0,0⟩,mOp x none n]) (v:=[0,n]) n1 n2 n3 ((all2 (wJ hd) (okE_mem hx hn (fun _ h=>nomatch h)))) (.cons (vI (by omega)) (.cons (opT_mem (by omega) hn (fun _ h=>nomatch h)) .nil)) (qY M ?_ ?_) (fun _=>rfl) _ (insQ_n ho _ _ _ _) ?_
  ·dsimp only;rw[Int.toNat_natCast,hs];simp only[tD,prtQ_r,prtQ_m,qK (i:=⟨((23+k:Nat):Int),d,x,0,n⟩) ho];show [rgB d,[91]++rgB x++uO n++[93]]=_;rw[sV hd,mem_tx hx];rfl
  ·dsimp only;rw[Int.toNat_natCast,hs];simp
  ·rw[Ad (jmpQ_no (by omega))];rfl
 | br k d x n hk hd hx hn hf =>
  obtain⟨n1,n2,n3⟩:=vP nq_br hk;have hs:=shB_at s4 hk;have ho:((32+k:Nat):Int)≠52∧((32+k:Nat):Int)≠54:=by omega
  have hj:rF ((32+k:Nat):Int)=true:=jmpQ_br (by omega);obtain⟨f1,f2⟩:=far_to ha hn (fit_18 hf);refine qX (a:=a) (nm:=wC (32+k)) (os:=[[iR d],[iR x],[.n ((a+4*n)%4294967296)]]) (ops:=[⟨114,d,[],0,0,0⟩,⟨114,x,[],0,0,0⟩,rA ((a+4*n)%4294967296)]) (v:=[0,0,(a+4*n)%4294967296]) n1 n2 n3 ((all3 (wJ hd) (wJ hx) (tN (Nat.mod_lt _ (by omega))))) (.cons (vI (by omega)) (.cons (vI (by omega)) (.cons (tZ _ _) .nil))) (qY M ?_ ?_) (fun _=>rfl) _ (insQ_n ho _ _ _ _) ?_
  ·dsimp only;rw[Int.toNat_natCast,hs];simp only[tD,prtQ_r,prtQ_v,qK (i:=⟨((32+k:Nat):Int),d,x,0,n⟩) ho];have e:sB ⟨((32+k:Nat):Int),d,x,0,n⟩ a=Lib.decDigits ((a+4*n)%4294967296):=Ae hj;rw[e];show [rgB d,rgB x,Lib.decDigits ((a+4*n)%4294967296)]=_;rw[sV hd,sV hx,dec_tx];rfl
  ·dsimp only;rw[Int.toNat_natCast,hs];simp
  ·rw[Ae hj];refine⟨f1,?_⟩;show (⟨((32+k:Nat):Int),d,x,0,((tE (subW ((a+4*n)%4294967296) a)).tdiv 4%4294967296).toNat⟩:QI)=_;rw[f2]
 | jal d n hd hn hf =>
  obtain⟨n1,n2,n3⟩:=vP nq_jl (k:=0) (by omega);obtain⟨f1,f2⟩:=far_to ha hn (fit_22 hf);refine qX (a:=a) (nm:=wC 40) (os:=[[iR d],[.n ((a+4*n)%4294967296)]]) (ops:=[⟨114,d,[],0,0,0⟩,rA ((a+4*n)%4294967296)]) (v:=[0,(a+4*n)%4294967296]) n1 n2 n3 ((all2 (wJ hd) (tN (Nat.mod_lt _ (by omega))))) (.cons (vI (by omega)) (.cons (tZ _ _) .nil)) (qY M ?_ (by simp[wF])) (fun _=>rfl) _ M ?_
  ·show [rgB d,Lib.decDigits ((a+4*n)%4294967296)]=_;rw[sV hd,dec_tx];rfl
  ·rw[Ae (by decide)];refine⟨f1,?_⟩;show (⟨40,d,0,0,((tE (subW ((a+4*n)%4294967296) a)).tdiv 4%4294967296).toNat⟩:QI)=_;rw[f2]
 | lui d n hd hn =>
  obtain⟨n1,n2,n3⟩:=vP nq_jl (k:=1) (by omega);refine qX (a:=a) (nm:=wC 41) (os:=[[iR d],[.n n]]) (ops:=[⟨114,d,[],0,0,0⟩,rA n]) (v:=[0,n]) n1 n2 n3 ((all2 (wJ hd) (tN (by omega)))) (.cons (vI (by omega)) (.cons (tZ _ _) .nil)) (qY M ?_ (by simp[wF])) (fun _=>rfl) _ M ?_
  ·show [rgB d,Lib.decDigits n]=_;rw[sV hd,dec_tx];rfl
  ·rw[Ad (by decide)];rfl
 | sys n hn =>
  obtain⟨n1,n2,n3⟩:=vP nq_sys (k:=0) (by omega);refine qX (a:=a) (nm:=wC 48) (os:=[[.n n]]) (ops:=[rA n]) (v:=[n]) n1 n2 n3 ((all1 (tN (by omega)))) (.cons (tZ _ _) .nil) (qY M ?_ (by simp[wF])) (fun _=>rfl) _ M ?_
  ·show [Lib.decDigits n]=_;rw[dec_tx];rfl
  ·rw[Ad (by decide)];rfl
 | op k hk =>
  obtain⟨n1,n2,n3⟩:=vP nq_op hk;have hs:=shB_at s7 hk;refine qX (a:=a) (nm:=wC (49+k)) (os:=[]) (ops:=[]) (v:=[]) n1 n2 n3 ((fun _ h=>nomatch h)) .nil (qY M ?_ ?_) (fun _=>rfl) _ M ?_
  ·dsimp only;rw[Int.toNat_natCast,hs];rfl
  ·dsimp only;rw[Int.toNat_natCast,hs];simp
  ·rw[Ad (jmpQ_no (by omega))];rfl
 | sync x hx =>
  obtain⟨n1,n2,n3⟩:=vP nq_sync (k:=0) (by omega);refine qX (a:=a) (nm:=wC 52) (os:=[[iR x]]) (ops:=[⟨114,x,[],0,0,0⟩]) (v:=[0]) n1 n2 n3 ((all1 (wJ hx))) (.cons (vI (by omega)) .nil) (qY M ?_ (by simp[wF])) (fun _=>rfl) _ M ?_
  ·show [rgB x]=_;rw[sV hx];rfl
  ·rw[Ad (by decide)];rfl
 | getc d n hd hn =>
  obtain⟨n1,n2,n3⟩:=vP nq_gsc (k:=0) (by omega);refine qX (a:=a) (nm:=wC 53) (os:=[[iR d],[.n n]]) (ops:=[⟨114,d,[],0,0,0⟩,rA n]) (v:=[0,n]) n1 n2 n3 ((all2 (wJ hd) (tN (by omega)))) (.cons (vI (by omega)) (.cons (tZ _ _) .nil)) (qY M ?_ (by simp[wF])) (fun _=>rfl) _ M ?_
  ·show [rgB d,Lib.decDigits n]=_;rw[sV hd,dec_tx];rfl
  ·rw[Ad (by decide)];rfl
 | setc x n hx hn =>
  obtain⟨n1,n2,n3⟩:=vP nq_gsc (k:=1) (by omega);refine qX (a:=a) (nm:=wC 54) (os:=[[iR x],[.n n]]) (ops:=[⟨114,x,[],0,0,0⟩,rA n]) (v:=[0,n]) n1 n2 n3 ((all2 (wJ hx) (tN (by omega)))) (.cons (vI (by omega)) (.cons (tZ _ _) .nil)) (qY M ?_ (by simp[wF])) (fun _=>rfl) _ M ?_
  ·show [rgB x,Lib.decDigits n]=_;rw[sV hx,dec_tx];rfl
  ·rw[Ad (by decide)];rfl
end Go.Proofs.YtkaepknpplhgkaaGreatDoor
namespace Go.Proofs.YtkaepknpplhgkaaGreatDoor
def pM (s:Bs):Option KI:=match s with
 | []=>none
 | c::r=>match tB c.toNat with
  | none=>none
  | some (n,l)=>if (c::r).length<n then none else
   let i:=xM (((c::r).take n).drop 1) ⟨c.toNat,0,0,-1,0,0,n⟩ l
   if (tV i).isSome=true then some i else none
def mkQ (w:Nat) (s:QS):QI:=⟨(w/67108864:Nat),if s.d then (w/4194304%16:Nat) else 0,if s.a then (w/262144%16:Nat) else 0,if s.b then (w/16384%16:Nat) else 0,if s.kind=1 then sxL (w%2 ^ s.bits) s.bits else w%2 ^ s.bits⟩
def decQ (w:Nat):Option QI:=match sW ((w/67108864:Nat):Int) with
 | none=>none
 | some s=>if tI (mkQ w s)=some w then some (mkQ w s) else none
def bytB (l:Bs):Bs:=qQ++[32]++joB (l.map fun c=>Lib.decDigits c.toNat)
def nxtA (kind:Int) (s:Bs) (a:Nat):Bs×Nat :=
 if kind=1 then (match pM s with
  | some i=>(lnK i a,i.size.toNat)
  | none=>(bytB (s.take 1),1))
 else if s.length<4 then (bytB s,s.length) else match decQ (getL (s.take 4)) with
  | some i=>(lnQ i a,4)
  | none=>(bytB (s.take 4),4)
def disF (kind:Int) (org:Nat):Nat→Bs→Nat→List Bs
 | 0,_,_=>[]
 | f+1,s,at_=>if s=[] then [] else (nxtA kind s ((org+at_)%4294967296)).1::disF kind org f (s.drop (nxtA kind s ((org+at_)%4294967296)).2) (at_+(nxtA kind s ((org+at_)%4294967296)).2)
def pU (l:List Bs):Bs:=(l.map fun x=>x++[10]).flatten
def disA (kind:Int) (code:Bs) (org:Nat):Bs:=if kind≠1∧kind≠2 then [] else pU (disF kind org code.length code 0)
theorem putL_getL:∀(l:Bs),vD (getL l) l.length=l
 | []=>rfl
 | c::l=>by
  have hc:=UInt8.toNat_lt c;have ih:=putL_getL l;show byL ((c.toNat+256*getL l)%256)::vD ((c.toNat+256*getL l)/256) l.length=c::l;rw[show (c.toNat+256*getL l)%256=c.toNat by omega,show (c.toNat+256*getL l)/256=getL l by omega,ih];congr 1;exact UInt8.ofNat_toNat
theorem lowB_of (c:UInt8):wZ c.toNat=c:=by
 have hc:=UInt8.toNat_lt c;unfold wZ byL;rw[show ((c.toNat:Int)%256).toNat=c.toNat by omega];exact UInt8.ofNat_toNat
def pcB (c:UInt8):UInt8:=wZ (Int.ofNat ((((c.toNat/16:Nat):Int).toNat <<< 4) ||| ((c.toNat%16:Nat):Int).toNat))
theorem pair_of (c:UInt8):pcB c=c:=by
 unfold pcB;rw[Int.toNat_natCast,Int.toNat_natCast,← Nat.shiftLeft_add_eq_or_of_lt (by omega),Nat.shiftLeft_eq];rw[show c.toNat/16*2 ^ 4+c.toNat%16=c.toNat by omega];exact lowB_of c
theorem small_of (c:UInt8):byL (sxL c.toNat 8%256)=c:=by
 have hc:=UInt8.toNat_lt c
 have:sxL c.toNat 8%256=c.toNat:=by
  unfold sxL;simp only[Nat.reducePow,Nat.reduceSub]
  split<;>omega
 rw[this];exact UInt8.ofNat_toNat
theorem byL_of (c:UInt8):byL (c.toNat%256)=c:=by
 have hc:=UInt8.toNat_lt c;rw[show c.toNat%256=c.toNat by omega];exact UInt8.ofNat_toNat
theorem full_of (a b c d:UInt8):vD (getL [a,b,c,d]) 4=[a,b,c,d]:=putL_getL [a,b,c,d]
theorem list_len {l:Bs}:(l.length=1→∃a,l=[a])∧(l.length=2→∃a b,l=[a,b])∧(l.length=4→∃a b c d,l=[a,b,c,d])∧(l.length=5→∃a b c d e,l=[a,b,c,d,e])∧(l.length=6→∃a b c d e f,l=[a,b,c,d,e,f]):=by
 refine⟨?_,?_,?_,?_,?_⟩
 ·intro h
  match l,h with
  | [a],_=>exact⟨a,rfl⟩
 ·intro h
  match l,h with
  | [a,b],_=>exact⟨a,b,rfl⟩
 ·intro h
  match l,h with
  | [a,b,c,d],_=>exact⟨a,b,c,d,rfl⟩
 ·intro h
  match l,h with
  | [a,b,c,d,e],_=>exact⟨a,b,c,d,e,rfl⟩
 ·intro h
  match l,h with
  | [a,b,c,d,e,f],_=>exact⟨a,b,c,d,e,f,rfl⟩
theorem encK_rng {i:KI}{c:Bs}(h:tV i=some c):∃n l,tB i.op=some (n,l)∧i.size=n∧pS i=true∧c=wZ i.op::vH i l:=by
 unfold tV at h
 cases hf:tB i.op with
 | none=>rw[hf] at h;cases h
 | some p =>
  obtain⟨n,l⟩:=p;rw[hf] at h;dsimp only at h
  split at h
  ·next hh=>cases h;exact⟨n,l,rfl,hh.1,hh.2.1,rfl⟩
  ·cases h
theorem take_op (l:List Fld):∀(b:Bs) (i:KI),(xM b i l).op=i.op∧(xM b i l).size=i.size:=by
 induction l with
 | nil=>intro b i;exact⟨rfl,rfl⟩
 | cons f l ih =>
  intro b i;obtain⟨h1,h2⟩:=ih (qC b i f).2 (qC b i f).1;show (xM (qC b i f).2 (qC b i f).1 l).op=_∧(xM (qC b i f).2 (qC b i f).1 l).size=_;rw[h1,h2];cases f
  case index =>
   show (if b.headD 0=8 then i else _).op=_∧(if b.headD 0=8 then i else _).size=_
   split<;>exact⟨rfl,rfl⟩
  all_goals exact⟨rfl,rfl⟩
theorem rng_x {i:KI}(h:pS i=true):i.index≤7∧i.scale≤3:=by
 unfold pS at h;simp only[Ky,Ac] at h;exact⟨h.1.2.2,h.2.2⟩
theorem decK_some {s:Bs}{i:KI}(h:pM s=some i):∃n:Nat,i.size=n∧0<n∧n≤s.length∧tV i=some (s.take n):=by
 cases s with
 | nil=>cases h
 | cons c r =>
  unfold pM at h;dsimp only at h
  cases hf:tB (c.toNat:Int) with
  | none=>rw[hf] at h;cases h
  | some p =>
   obtain⟨n,l⟩:=p;rw[hf] at h;dsimp only at h
   split at h
   ·cases h
   ·next hlen =>
    split at h
    ·next he =>
     cases h;have hop:=take_op l (((c::r).take n).drop 1) ⟨c.toNat,0,0,-1,0,0,n⟩;obtain⟨d,hd⟩:=Option.isSome_iff_exists.1 he;obtain⟨n',l',h1,h2,h3,h4⟩:=encK_rng hd;rw[hop.1] at h1;dsimp only at h1;rw[hf] at h1;cases h1;refine⟨n,hop.2,?_,by omega,?_⟩
     ·rcases wO hf with ⟨_,_,rfl,_⟩|⟨_,_,rfl,_⟩|⟨_,_,rfl,_⟩|⟨_,_,rfl,_⟩|⟨_,_,rfl,_⟩|⟨_,_,rfl,_⟩|⟨_,_,rfl,_⟩|⟨_,_,rfl,_⟩|⟨_,_,rfl,_⟩|⟨_,rfl,_⟩|⟨_,_,rfl,_⟩<;>omega
     rw[hd,h4,hop.1]
     have hn0:∃m,n=m+1:=by
      rcases wO hf with ⟨_,_,rfl,_⟩|⟨_,_,rfl,_⟩|⟨_,_,rfl,_⟩|⟨_,_,rfl,_⟩|⟨_,_,rfl,_⟩|⟨_,_,rfl,_⟩|⟨_,_,rfl,_⟩|⟨_,_,rfl,_⟩|⟨_,_,rfl,_⟩|⟨_,rfl,_⟩|⟨_,_,rfl,_⟩<;>exact⟨_,rfl⟩
     obtain⟨m,rfl⟩:=hn0;have hx:=rng_x h3;rw[List.take_succ_cons,Kp,Kt] at hx ⊢;show some (wZ c.toNat::_)=_;rw[lowB_of];congr 2;have hl:(r.take m).length=m:=by rw[Kx];simp at hlen;omega
     generalize r.take m=b at hl hx ⊢;obtain⟨k1,k2,k4,k5,k6⟩:=list_len (l:=b);rcases wO hf with ⟨_,_,e,rfl⟩|⟨_,_,e,rfl⟩|⟨_,_,e,rfl⟩|⟨_,_,e,rfl⟩|⟨_,_,e,rfl⟩|⟨_,_,e,rfl⟩|⟨_,_,e,rfl⟩|⟨_,_,e,rfl⟩|⟨_,_,e,rfl⟩|⟨_,e,rfl⟩|⟨_,_,e,rfl⟩
     ·exact (List.eq_nil_of_length_eq_zero (by omega)).symm
     ·obtain⟨x,rfl⟩:=k1 (by omega);show [wZ x.toNat]++[]=_;rw[lowB_of];rfl
     ·obtain⟨x,rfl⟩:=k1 (by omega);show [pcB x]++[]=_;rw[pair_of x];rfl
     ·obtain⟨x,y,rfl⟩:=k2 (by omega);show [wZ x.toNat]++([byL (sxL y.toNat 8%256)]++[])=_;rw[lowB_of,small_of];rfl
     ·obtain⟨x,y,z,u,v,rfl⟩:=k5 (by omega);show [wZ x.toNat]++(vD (getL [y,z,u,v]) 4++[])=_;rw[lowB_of,full_of];rfl
     ·obtain⟨x,y,rfl⟩:=k2 (by omega);show [pcB x]++([byL (sxL y.toNat 8%256)]++[])=_;rw[pair_of x,small_of];rfl
     ·obtain⟨x,y,z,u,v,w,rfl⟩:=k6 (by omega)
      by_cases h8:y=8
      ·subst h8;show [pcB x]++([8]++(vD (getL [z,u,v,w]) 4++[]))=_;rw[pair_of x,full_of];rfl
      ·have e2:xM [x,y,z,u,v,w] ⟨c.toNat,0,0,-1,0,0,((m+1:Nat):Int)⟩ [.pair,.index,.full]=⟨c.toNat,(x.toNat/16:Nat),(x.toNat%16:Nat),(y.toNat%16:Nat),(y.toNat/16:Nat),getL [z,u,v,w],((m+1:Nat):Int)⟩:=by
        show (⟨_,_,_,_,_,_,_⟩:KI)=_;simp only[qC,List.headD_cons,Kp,Kt,Ad h8];rfl
       rw[e2];show [pcB x]++((if ((y.toNat%16:Nat):Int)<0 then [8] else [pcB y])++(vD (getL [z,u,v,w]) 4++[]))=_;rw[pair_of x,Ad (by omega),pair_of y,full_of];rfl
     ·obtain⟨y,rfl⟩:=k1 (by omega);show [byL (sxL y.toNat 8%256)]++[]=_;rw[small_of];rfl
     ·obtain⟨y,z,u,v,rfl⟩:=k4 (by omega);show vD (getL [y,z,u,v]) 4++[]=_;rw[full_of];rfl
     ·obtain⟨y,rfl⟩:=k1 (by omega);show [byL (y.toNat%256)]++[]=_;rw[byL_of];rfl
     ·obtain⟨x,rfl⟩:=k1 (by omega);show [pcB x]++[]=_;rw[pair_of x];rfl
    ·cases h
end Go.Proofs.YtkaepknpplhgkaaGreatDoor
namespace Go.Proofs.YtkaepknpplhgkaaGreatDoor
inductive DsA (kind:Int) (org:Nat):Nat→List Bs→List ASt→Bs→Prop
 | nil (a:Nat):DsA kind org a [] [] []
 | cons {a:Nat} {s:Bs} {st:ASt} {ls:List Bs} {sts:List ASt} {c d:Bs} {v:List Nat} (h:liA kind s=.ok st) (lab:st.label=[]) (hv:∀lb,vL lb st.l=.ok v) (hc:∀a',cdA { st with at_:=a' } v ((org+a)%4294967296)=.ok c) (hs:st.size=c.length) (t:DsA kind org (a+c.length) ls sts d):DsA kind org a (s::ls) (st::sts) (c++d)
theorem DsA.out {kind:Int}{org:Nat}{a:Nat}{ls:List Bs}{sts:List ASt}{c:Bs}(h:DsA kind org a ls sts c):∀(k:Nat) (out:Bs),outF org [] (plcS sts a) k out=.ok (out++c):=by
 induction h with
 | nil a=>intro k out;simp[outF,plcS]
 | @cons a s st ls sts c d v h lab hv hc hs t ih =>
  intro k out;rw[plcS,outF_ok (st:={ st with at_:=a }) (hv []) (hc a),hs,ih,Kr]
theorem DsA.app {kind:Int}{org:Nat}{a:Nat}{ls ls':List Bs}{sts sts':List ASt}{c c':Bs}(h:DsA kind org a ls sts c) (k:DsA kind org (a+c.length) ls' sts' c'):DsA kind org a (ls++ls') (sts++sts') (c++c'):=by
 induction h with
 | nil a=>exact k
 | @cons a s st ls sts c d v h lab hv hc hs t ih =>
  rw[Kr];exact .cons h lab hv hc hs (ih (by rw[Jx] at k;rw[Nat.add_assoc];exact k))
theorem DsA.empty {kind:Int}{org:Nat}{a:Nat}{s:Bs}{ls:List Bs}{sts:List ASt}{c:Bs}(h:liA kind s=.ok ⟨[],[],[],[],none,0,0⟩) (t:DsA kind org a ls sts c):DsA kind org a (s::ls) (⟨[],[],[],[],none,0,0⟩::sts) c :=
 DsA.cons (c:=[]) (v:=[]) h rfl (fun _=>rfl) (fun _=>rfl) rfl t
structure ItL (kind:Int) (a:Nat) (l:List It) (st:ASt) (c:Bs):Prop where
 ok:okI l
 par:pR kind (tkI l)=.ok st
 lab:st.label=[]
 cd:∃v,(∀lb,vL lb st.l=.ok v)∧∀a',cdA { st with at_:=a' } v a=.ok c
 size:st.size=c.length
theorem put_len (n k:Nat):(vD n k).length=k:=by
 induction k generalizing n with
 | zero=>rfl
 | succ k ih=>show (vD (n/256) k).length+1=_;rw[ih]
theorem sizes_K {i:KI}{c:Bs}(h:tV i=some c):(c.length:Int)=i.size:=by
 obtain⟨n,l,h1,h2,_,h4⟩:=encK_rng h;rw[h4,h2]
 have hx:∀f,(putF i f).length=match f with|.full=>4|_=>1:=by
  intro f;cases f
  case full=>exact put_len _ _
  case index=>show (if i.index<0 then [8] else [_]).length=1;split<;>rfl
  all_goals rfl
 rcases wO h1 with ⟨_,_,rfl,rfl⟩|⟨_,_,rfl,rfl⟩|⟨_,_,rfl,rfl⟩|⟨_,_,rfl,rfl⟩|⟨_,_,rfl,rfl⟩|⟨_,_,rfl,rfl⟩|⟨_,_,rfl,rfl⟩|⟨_,_,rfl,rfl⟩|⟨_,_,rfl,rfl⟩|⟨_,rfl,rfl⟩|⟨_,_,rfl,rfl⟩<;>simp[vH,hx]
theorem itl_K {i:KI}{c:Bs}(hm:i.imm<4294967296) (he:tV i=some c) {a:Nat}(ha:a<4294967296):∃l st,lnK i a=txI l∧ItL 1 a l st c:=by
 obtain⟨l,st,h⟩:=line_K (vK_of hm (by rw[he];rfl)) ha;obtain⟨sel,fil,v,hf,hv,hi⟩:=h.ins;refine⟨l,st,h.tx,h.ok,h.par,h.lab,⟨v,hv,fun a'=>?_⟩,?_⟩
 ·unfold cdA;dsimp only;rw[hf]
  show (match tV (insK sel fil st.shape st.l v a) with
   | some c=>Except.ok c
   | none=>Except.error 13)=_
  rw[hi,he]
 ·have h1:=h.size;have h2:=sizes_K he;omega
theorem itl_Q {i:QI}{w:Nat}(hm:i.imm<4294967296) (he:tI i=some w) {a:Nat}(ha:a<4294967296):∃l st,lnQ i a=txI l∧ItL 2 a l st (vD w 4):=by
 obtain⟨l,st,h⟩:=line_Q (vQ_of hm (by rw[he];rfl)) ha;obtain⟨op,v,hf,hv,j,hj,hi⟩:=h.ins;refine⟨l,st,h.tx,h.ok,h.par,h.lab,⟨v,hv,fun a'=>?_⟩,by rw[h.size,put_len]⟩;unfold cdA;dsimp only;rw[hf];dsimp only;unfold rC;dsimp only;rw[hj]
 by_cases hq:rF op=true
 ·rw[Ae hq] at hi ⊢;rw[Ae hi.1,hi.2,he]
 ·rw[Ad hq] at hi ⊢;rw[hi,he]
theorem opsT_bytes (kind:Int):∀l:Bs,OpsT kind ((l.map fun c=>[It.n c.toNat]).map tkI) (l.map fun c=>rA c.toNat)
 | []=>.nil
 | c::l=>.cons (tZ kind c.toNat) (opsT_bytes kind l)
theorem shp_bytes:∀l:Bs,vV (l.map fun c=>rA c.toNat)=l.map fun _=>118
 | []=>rfl
 | c::l=>by
  have:=shp_bytes l;unfold vV at this ⊢;rw[Af,Af,Af,this];rfl
theorem vals_bytes (lb:List (Bs×Nat)):∀l:Bs,vL lb (l.map fun c=>rA c.toNat)=.ok (l.map fun c=>c.toNat)
 | []=>rfl
 | c::l=>by
  show xP (vL lb (l.map fun c=>rA c.toNat)) _=_;rw[vals_bytes lb l];rfl
theorem byt_bytes:∀l:Bs,bytA false (l.map fun c=>c.toNat)=.ok l
 | []=>rfl
 | c::l=>by
  have hc:=UInt8.toNat_lt c;rw[Af,bytA,Ad (by omega),byt_bytes l];show Except.ok ([byL (c.toNat%256)]++l)=_;rw[byL_of];rfl
theorem itl_B (kind:Int) (b:Bs) (hb:b≠[]) (a:Nat):∃l st,bytB b=txI l∧ItL kind a l st b:=by
 have hw:wrdB qQ=true:=by decide
 have hf:vU kind qQ (vV (b.map fun c=>rA c.toNat)) (b.map fun c=>rA c.toNat).length=some .byte:=by
  unfold vU;rw[show dirA qQ=some .byte from rfl,shp_bytes];dsimp only;rw[Ad]
  rintro (h|h|⟨h,_⟩)
  ·exact hb (List.map_eq_nil_iff.1 h)
  ·revert h
   simp
  ·exact absurd h (by decide)
 refine⟨lnI qQ (b.map fun c=>[It.n c.toNat]),_,?_,lnI_ok hw (fun o ho=>?_),lnI_par (opsT_bytes kind b) hf (by decide),rfl,⟨_,fun lb=>vals_bytes lb b,fun _=>byt_bytes b⟩,?_⟩
 ·rw[lnI_tx,Ad (by simpa using hb)];unfold bytB;rw[List.map_map];congr 2;apply List.map_congr_left;intro c _;exact dec_tx c.toNat
 ·obtain⟨c,_,rfl⟩:=List.mem_map.1 ho;have:=UInt8.toNat_lt c;exact tN (by omega)
 ·show (b.map fun c=>rA c.toNat).length=_;rw[Ag]
theorem oH {w:Nat}{i:QI}(h:decQ w=some i):tI i=some w:=by
 unfold decQ at h
 cases hs:sW ((w/67108864:Nat):Int) with
 | none=>rw[hs] at h;cases h
 | some s =>
  rw[hs] at h;dsimp only at h
  split at h
  ·next he=>cases h;exact he
  ·cases h
theorem sxL_lt7 (n b:Nat) (hb:b=8∨b=18∨b=22):sxL n b<4294967296:=by
 unfold sxL;rcases hb with rfl|rfl|rfl<;>simp only[Nat.reducePow,Nat.reduceSub]<;>split<;>omega
theorem decQ_imm {w:Nat}{i:QI}(hw:w<4294967296) (h:decQ w=some i):i.imm<4294967296:=by
 unfold decQ at h
 cases hs:sW ((w/67108864:Nat):Int) with
 | none=>rw[hs] at h;cases h
 | some s =>
  rw[hs] at h;dsimp only at h
  split at h
  ·next he =>
   cases h;unfold mkQ;dsimp only
   split
   ·next hk =>
    refine sxL_lt7 _ _ ?_;unfold sW at hs
    by_cases c1:1≤((w/67108864:Nat):Int)∧((w/67108864:Nat):Int)≤12
    ·rw[Ae c1] at hs;cases hs;cases hk
    rw[Ad c1] at hs
    split at hs
    ·cases hs;cases hk
    split at hs
    ·cases hs;exact .inr (.inl M)
    split at hs
    ·cases hs;exact .inr (.inl M)
    split at hs
    ·cases hs;exact .inr (.inr M)
    split at hs
    ·cases hs;cases hk
    split at hs
    ·cases hs;cases hk
    split at hs
    ·cases hs;cases hk
    split at hs
    ·cases hs;cases hk
    split at hs
    ·cases hs;cases hk
    split at hs
    ·cases hs;cases hk
    ·cases hs
   ·exact Nat.lt_of_le_of_lt (Nat.mod_le _ _) hw
  ·cases h
theorem decK_imm {s:Bs}{i:KI}(h:pM s=some i):i.imm<4294967296:=by
 cases s with
 | nil=>cases h
 | cons c r =>
  unfold pM at h;dsimp only at h
  cases hf:tB (c.toNat:Int) with
  | none=>rw[hf] at h;cases h
  | some p =>
   obtain⟨n,l⟩:=p;rw[hf] at h;dsimp only at h
   split at h
   ·cases h
   ·split at h
    ·cases h
     have key:∀(l:List Fld) (b:Bs) (i:KI),i.imm<4294967296→(xM b i l).imm<4294967296:=by
      intro l
      induction l with
      | nil=>intro b i h;exact h
      | cons f l ih =>
       intro b i h;refine ih _ _ ?_;cases f
       case small=>exact sxL_lt7 _ 8 (.inl rfl)
       case plain=>have:=UInt8.toNat_lt (b.headD 0);show (b.headD 0).toNat<_;omega
       case full =>
        have h1:=pC (b.take 4);have h2:(b.take 4).length≤4:=List.length_take_le ..;have:256 ^ (b.take 4).length≤256 ^ 4:=Nat.pow_le_pow_right (by omega) h2;show getL (b.take 4)<_;omega
       case index =>
        show (if b.headD 0=8 then i else _:KI).imm<_
        split<;>exact h
       all_goals exact h
     exact key _ _ _ (by show 0<_;omega)
    ·cases h
theorem nxt_it {kind:Int}(hk:kind=1∨kind=2) {s:Bs}(hs:s≠[]) {a:Nat}(ha:a<4294967296):0<(nxtA kind s a).2∧(nxtA kind s a).2≤s.length∧∃l st,(nxtA kind s a).1=txI l∧ItL kind a l st (s.take (nxtA kind s a).2):=by
 have hs1:1≤s.length:=by cases s with|nil=>exact absurd rfl hs|cons _ _=>simp
 unfold nxtA;rcases hk with rfl|rfl
 ·rw[Ae rfl]
  cases hd:pM s with
  | none =>
   dsimp only;refine⟨by omega,hs1,itl_B 1 _ ?_ a⟩;intro e;have:=congrArg List.length e;rw[Kx,Jz] at this;omega
  | some i =>
   dsimp only;obtain⟨n,h1,h2,h3,h4⟩:=decK_some hd;rw[h1,Int.toNat_natCast];exact⟨h2,h3,itl_K (decK_imm hd) h4 ha⟩
 ·rw[Ad (by decide)]
  by_cases h4:s.length<4
  ·rw[Ae h4];dsimp only;rw[Kw];exact⟨hs1,Ab _,itl_B 2 _ hs a⟩
  ·rw[Ad h4];have hl:(s.take 4).length=4:=by rw[Kx];omega
   have hw:getL (s.take 4)<4294967296:=by have:=pC (s.take 4);rw[hl] at this;omega
   cases hd:decQ (getL (s.take 4)) with
   | none =>
    dsimp only;refine⟨by omega,by omega,itl_B 2 _ ?_ a⟩;intro e;rw[e] at hl;cases hl
   | some i =>
    dsimp only;have he:=oH hd;have:=itl_Q (decQ_imm hw hd) he ha;have e:=putL_getL (s.take 4);rw[hl] at e;rw[e] at this;exact⟨by omega,by omega,this⟩
inductive ItLs (kind:Int) (org:Nat):Nat→List Bs→List (List It)→List ASt→Bs→Prop
 | nil (a:Nat):ItLs kind org a [] [] [] []
 | cons {a:Nat} {s:Bs} {l:List It} {st:ASt} {ss:List Bs} {ls:List (List It)} {sts:List ASt} {c d:Bs} (hx:s=txI l) (h:ItL kind ((org+a)%4294967296) l st c) (t:ItLs kind org (a+c.length) ss ls sts d):ItLs kind org a (s::ss) (l::ls) (st::sts) (c++d)
theorem ItLs.ds {kind:Int}{org a:Nat}{ss:List Bs}{ls:List (List It)}{sts:List ASt}{c:Bs}(h:ItLs kind org a ss ls sts c):DsA kind org a ss sts c:=by
 induction h with
 | nil a=>exact .nil a
 | cons hx h _ ih =>
  obtain⟨v,h1,h2⟩:=h.cd;exact .cons (by rw[hx,liA_it kind h.ok];exact h.par) h.lab h1 h2 h.size ih
theorem li_empty (kind:Int):liA kind []=.ok ⟨[],[],[],[],none,0,0⟩:=by
 unfold liA;rw[lexA_no (fun _ h=>absurd h (by simp)),lexD_nil];show pR kind []=_;unfold pR;rw[Ad (by simp)];unfold stmA;rw[Ae rfl]
theorem DsA.end {kind:Int}{org a:Nat}{ss:List Bs}{sts:List ASt}{c:Bs}(h:DsA kind org a ss sts c):DsA kind org a (ss++[[]]) (sts++[⟨[],[],[],[],none,0,0⟩]) c:=by
 have:=h.app (.empty (li_empty kind) (.nil _))
 rwa [Ah] at this
end Go.Proofs.YtkaepknpplhgkaaGreatDoor
namespace Go.Proofs.YtkaepknpplhgkaaGreatDoor
open Go.RowKit
section
variable {P:Program}{n:Fr}{m:List (Nat×Value)}{ty:TypeId}{H:World→Prop}
theorem eqFields_ints {xs ys:Array Value}(d:Nat):∀(fs:List Field),(∀f∈fs,f.name ≠ "_"∧∃k a b,P.underlying f.type=some (.int k)∧xs[f.offset]? = some (.int k a)∧ys[f.offset]? = some (.int k b))→∃r:Bool,(∀w,(Op.eqFields (d+1) xs ys fs).run P w=.ok r w)∧(r=true↔∀f∈fs,xs[f.offset]? = ys[f.offset]?)
 | [],_=>⟨true,fun w=>by simp[Op.eqFields],by simp⟩
 | f::fs,h=>by
  obtain⟨hn,k,a,b,ht,hx,hy⟩:=h f (Ko ..);obtain⟨r,h1,h2⟩:=eqFields_ints d fs fun g hg=>h g (Kv _ hg);refine⟨a==b&&r,fun w=>?_,?_⟩
  ·have p1:=run_part1 (P:=P) ht rfl hx w;have p2:=run_part1 (P:=P) ht rfl hy w;have p3:=run_equalIn_int (P:=P) w d f.type k k a b ht;simp only[Op.eqFields,Sem.run_bind,Sem.run_ite,Ae hn,p1,p2,p3,Result.andThen_ok,Sem.run_pure]
   by_cases hab:a=b
   ·simp[hab,h1 w]
   ·simp[hab]
  ·rw[Ky,h2]
   constructor
   ·rintro⟨e1,e2⟩ g hg
    rcases List.mem_cons.1 hg with rfl|hg
    ·rw[hx,hy,Km e1]
    ·exact e2 g hg
   ·intro e;refine⟨?_,fun g hg=>e g (Kv _ hg)⟩;have:=e f (Ko ..);rw[hx,hy] at this;simp only[Option.some.injEq,Value.int.injEq] at this;simp[this.2]
end
theorem eqKi (o o':KI) (w:World):(Op.equalIn 10000 35 (.agg (kiC o).toArray) (.agg (kiC o').toArray)).run Tryz.prog w=.ok (decide (o=o')) w:=by
 have hf:Tryz.prog.underlying 35=some (.struct (Tryz.prog.fieldsOf 35)):=by kernel_rfl
 rw[show (10000:Nat)=9999+1 from rfl,run_equalIn_struct (P:=Tryz.prog) w 9999 35 _ _ hf (by kernel_rfl)];have hfs:=hf.symm.trans Tryz.underlying35;injection hfs with hfs;injection hfs with hfs
 obtain⟨r,h1,h2⟩:=eqFields_ints (P:=Tryz.prog) (xs:=(kiC o).toArray) (ys:=(kiC o').toArray) 9998 (Tryz.prog.fieldsOf 35).toList (by
  rw[hfs];intro f hf;simp only[List.mem_cons,List.not_mem_nil,or_false] at hf;rcases hf with rfl|rfl|rfl|rfl|rfl|rfl|rfl
  ·exact⟨by decide,_,_,_,Tryz.underlying3,rfl,rfl⟩
  ·exact⟨by decide,_,_,_,Tryz.underlying3,rfl,rfl⟩
  ·exact⟨by decide,_,_,_,Tryz.underlying3,rfl,rfl⟩
  ·exact⟨by decide,_,_,_,Tryz.underlying3,rfl,rfl⟩
  ·exact⟨by decide,_,_,_,Tryz.underlying3,rfl,rfl⟩
  ·exact⟨by decide,_,_,_,Tryz.underlying22,rfl,rfl⟩
  ·exact⟨by decide,_,_,_,Tryz.underlying3,rfl,rfl⟩)
 rw[hfs] at h2
 have e:r=decide (o=o'):=by
  rw[Ka,h2,decide_eq_true_iff]
  constructor
  ·intro h;have a0:=h _ (Ko ..);have a1:=h _ (Kv _ (Ko ..));have a2:=h _ (Kv _ (Kv _ (Ko ..)));have a3:=h _ (Kv _ (Kv _ (Kv _ (Ko ..))));have a4:=h _ (Kv _ (Kv _ (Kv _ (Kv _ (Ko ..)))));have a5:=h _ (Kv _ (Kv _ (Kv _ (Kv _ (Kv _ (Ko ..))))));have a6:=h _ (Kv _ (Kv _ (Kv _ (Kv _ (Kv _ (Kv _ (Ko ..)))))));obtain⟨x0,x1,x2,x3,x4,x5,x6⟩:=o;obtain⟨y0,y1,y2,y3,y4,y5,y6⟩:=o';have b0:x0=y0:=by injection a0 with a0;injection a0
   have b1:x1=y1:=by injection a1 with a1;injection a1
   have b2:x2=y2:=by injection a2 with a2;injection a2
   have b3:x3=y3:=by injection a3 with a3;injection a3
   have b4:x4=y4:=by injection a4 with a4;injection a4
   have b5:x5=y5:=by injection a5 with a5;injection a5 with _ a5;exact Int.ofNat_inj.1 a5
   have b6:x6=y6:=by injection a6 with a6;injection a6
   rw[b0,b1,b2,b3,b4,b5,b6]
  ·rintro rfl f _
   rfl
 rw[← e];exact h1 w
theorem ndL_fm:∀{n:Nat}{l:List Fld}{op:Int},tB op=some (n,l)→n=1+ndL l∧l.length≤3∧0≤op∧op<256:=by
 intro n l op h;rcases wO h with ⟨_,_,rfl,rfl⟩|⟨_,_,rfl,rfl⟩|⟨_,_,rfl,rfl⟩|⟨_,_,rfl,rfl⟩|⟨_,_,rfl,rfl⟩|⟨_,_,rfl,rfl⟩|⟨_,_,rfl,rfl⟩|⟨_,_,rfl,rfl⟩|⟨_,_,rfl,rfl⟩|⟨_,rfl,rfl⟩|⟨_,_,rfl,rfl⟩<;>exact⟨by decide,by decide,by omega,by omega⟩
theorem putK_nd (i:KI):∀l,(vH i l).length=ndL l
 | []=>rfl
 | f::l=>by
  have:(putF i f).length=ndF f:=by
   cases f
   case full=>exact pY _ _
   case index=>show (if i.index<0 then [8] else [_]).length=1;split<;>rfl
   all_goals rfl
  show (putF i f++vH i l).length=ndF f+ndL l;rw[Jx,this,putK_nd i l]
def wP (i:KI):Bool:=(tV i).isSome
theorem validK_no {i:KI}(h:tB i.op=none):wP i=false:=by unfold wP tV;rw[h];rfl
theorem validK_some {i:KI}{n:Nat}{l:List Fld}(h:tB i.op=some (n,l)):wP i=(decide (i.size=n)&&pS i&&decide (xM (vH i l) ⟨i.op,0,0,-1,0,0,n⟩ l=i)):=by
 unfold wP tV;rw[h];dsimp only
 by_cases h1:i.size=n
 ·by_cases h2:pS i=true
  ·by_cases h3:xM (vH i l) ⟨i.op,0,0,-1,0,0,n⟩ l=i
   ·rw[Ae ⟨h1,h2,h3⟩,Aj h1,h2,Aj h3];rfl
   ·rw[Ad (fun hh=>h3 hh.2.2),Ak h3,Bool.and_false];rfl
  ·rw[Ad (fun hh=>h2 hh.2.1)];simp only[Bool.not_eq_true] at h2;rw[h2,Bool.and_false,Bool.false_and];rfl
 ·rw[Ad (fun hh=>h1 hh.1),Ak h1,Bool.false_and,Bool.false_and];rfl
theorem qF (i:KI) (hi:i.imm<4294967296) (w_0:World):Calls Tryz.prog 58 #[.agg (kiC i).toArray] w_0 fun e w'=>e=.returned (.bool (wP i))∧Ext w_0 w':=by
 have hk:=fmtK_P i.op;have hf:=fun w=>find_any i.op w;unfold FdPost at hf
 cases hp:fmtP i.op with
 | none =>
  rw[hp] at hk hf;have hv:=validK_no hk;refine zH (args:=[.agg (kiC i).toArray]) Tryz.func58 M 39 M (Kc M)<|Z1 0 M<|zR (H':=Hp (fun _=>False) w_0 [] [] (fun _=>True)) (fun u hu=>?_) ?_
  ·subst hu;exact Hp.start0
  refine zX<|zZ<|zC .none M (yF M M) (fun b1=>?_);refine Za M M<|ZX<|zZ<|ZF M (Y35x0 M) ?_;refine ZF M (zV 0 M M M U3 M)<|zE .none M  (v:=.tuple #[.agg zFm.toArray,.bool false]) (by kernel_rfl) M (fun w hw=>(hf w).mono fun e w' ⟨h1,h2⟩=>⟨h2,h1⟩) ?_;refine Zm M M<|ZF M (yX M M)<|ZF M (yX M M)<|zC .none M (yS (z:=Ja) (cs:=Jl) (by kernel_rfl) M) (fun b3=>?_);refine ZR 0 M M M M M (by kernel_rfl) ?_;refine Za M M<|ZX<|zX<|Z5r 0 1 2 3 4 M M M M M<|Zm M M<|ZF M (xF M)<|Zm M M<|zF 13 M (fun hb=>?_) (fun hb=>?_)
  ·refine ZP M<|ZP M<|ZP M<|ZP M<|ZP M<|ZF M (zJ M M)<|Zm M M<|ZP M<|ZP M<|ZP M<|ZF M (zJ M M)<|ZT<|uA M<|zX<|Z6r 0 1 2 3 4 24 M M M M M M<|Za M M<|ZT<|zQ<|zT<|zO M M (fun w hw=>?_);exact⟨by rw[hv],(Kg hw).ext⟩
  ·exact absurd hb (by decide)
 | some p =>
  rw[hp] at hk hf;have hk':tB i.op=some (p.2.2.1,p.2.2.2):=hk;obtain⟨hn1,hn3,ho0,ho1⟩:=ndL_fm hk';have hv:=validK_some hk';have hpl:=putK_nd i p.2.2.2;have hlow:(((wZ i.op).toNat:Nat):Int)=i.op:=by rw[lowB_nat];omega
  have hnd:ndL p.2.2.2≤100:=by
   have:∀l:List Fld,ndL l≤4*l.length:=by
    intro l
    induction l with
    | nil=>exact Ab _
    | cons f l ih =>
     have:ndF f≤4:=by cases f<;>decide
     show ndF f+ndL l≤4*(l.length+1);omega
   have:=this p.2.2.2;omega
  refine zH (args:=[.agg (kiC i).toArray]) Tryz.func58 M 39 M (Kc M)<|Z1 0 M<|zR (H':=Hp (fun _=>False) w_0 [] [] (fun _=>True)) (fun u hu=>?_) ?_
  ·subst hu;exact Hp.start0
  refine zX<|zZ<|zC .none M (yF M M) (fun b1=>?_);refine Za M M<|ZX<|zZ<|ZF M (Y35x0 M) ?_;refine ZF M (zV 0 M M M U3 M)<|yG (ι:=Value×Value) (C:=fun v=>IsFn Tryz.prog v.1∧IsFn Tryz.prog v.2) (val:=fun v=>.tuple #[.agg (fmC p v).toArray,.bool true]) (TT:=fun v=>FmV p v) .none M  (by kernel_rfl) M (fun _ h=>h.elim) (fun _=>FmV.lies) (fun w hw=>(hf w).mono fun e w' ⟨h1,v,h2,h3⟩=>⟨v,⟨take_fn h3.1,put_fn h3.2⟩,h2,h1,h3⟩) (fun v F hfn hF=>?_);obtain⟨v1,v2⟩:=v;obtain⟨⟨f1,c1,e1,g1⟩,⟨f2,c2,e2,g2⟩⟩:=hfn;dsimp only at e1 e2;subst e1;subst e2;refine Zm M M<|ZF M (yX M M)<|ZF M (yX M M)<|zC .none M (yS (z:=Ja) (cs:=Jl) (by kernel_rfl) M) (fun b3=>?_);refine ZR 0 M M M M M (by kernel_rfl) ?_;refine Za M M<|ZX<|zX<|Z5r 0 1 2 3 4 M M M M M<|Zm M M<|ZF M (xF M)<|Zm M M<|zF 13 M (fun hb=>?_) (fun hb=>?_)
  ·exact absurd hb (by decide)
  ·refine ZG M M M (Y35x6 M) ?_;refine ZG M M M (zV 1 M M M U3 M)<|ZG M M M (Y135x2 M) ?_;refine ZG M M M (zV 0 M M M U3 M)<|ZG M M M (vW M M)<|ZF M (zM M M)<|Zm M M<|zF 20 M (fun h10=>?_) (fun h10=>?_)
   ·replace h10:=wE h10;refine ZP M<|ZP M<|ZP M<|ZF M (zJ M M)<|ZT<|uA M<|zX<|Z6r 0 1 2 3 4 24 M M M M M M<|Za M M<|ZT<|zQ<|zT<|zO M M (fun w hw=>?_);exact⟨by rw[hv,Ak h10];rfl,(Kg hw).ext⟩
   ·replace h10:=uY h10;refine ZG M M M (yU 1 M M U35 M (by kernel_rfl)) ?_;refine zE (.some M M) M  (v:=.bool (pS i)) (by kernel_rfl) M (fun w hw=>ranges_any i w) ?_;refine ZG M M M (xF M)<|ZF M (zM M M)<|ZT<|zW M (fun h24=>?_) (fun h24=>?_)
    ·refine zX<|Z6r 0 1 2 3 4 24 M M M M M M<|Za M M<|ZT<|zQ<|zT<|zO M M (fun w hw=>?_);exact⟨by rw[hv,show pS i=false by simpa using h24,Bool.and_false,Bool.false_and],(Kg hw).ext⟩
    ·have hrg:pS i=true:=by simpa using h24
     refine zL<|zP<|zX<|Z6 0 1 2 3 4 24 M M M M M M<|wX (γ:=Nat) [(1,.pointer (some ⟨b1,0,none⟩)),(3,.pointer (some ⟨b3,0,none⟩))] [(0,25,fun g=>.agg (fmC p (fcV f1 c1,fcV f2 c2)).toArray),(1,26,fun g=>.pointer (some ⟨b1,0,none⟩)),(2,27,fun g=>.int .i64 i.op),(3,28,fun g=>.int .u8 (wZ i.op).toNat),(4,29,fun g=>.slice (some ⟨g,0,none⟩) 1 1),(5,30,fun g=>.string ⟨[wZ i.op].toArray⟩),(6,31,fun g=>.pointer (some ⟨b3,4,none⟩)),(7,32,fun g=>fcV f2 c2),(8,33,fun g=>.agg (kiC i).toArray),(9,34,fun g=>.string ⟨(vH i p.2.2.2).toArray⟩),(10,35,fun g=>.string ⟨([wZ i.op]++vH i p.2.2.2).toArray⟩),(11,36,fun g=>.agg (kiC (xM (vH i p.2.2.2) ⟨i.op,0,0,-1,0,0,p.2.2.1⟩ p.2.2.2)).toArray),(12,37,fun g=>.agg (kiC i).toArray),(13,38,fun g=>.bool (decide (xM (vH i p.2.2.2) ⟨i.op,0,0,-1,0,0,p.2.2.1⟩ p.2.2.2=i))),(14,2,fun g=>.bool (decide (xM (vH i p.2.2.2) ⟨i.op,0,0,-1,0,0,p.2.2.1⟩ p.2.2.2=i)))] (fun D g=>fun w=>Hp (fun _=>False) w_0 [(b3,bk 135 (fmC p (fcV f1 c1,fcV f2 c2))),(b1,kiO i)] [] (fun u=>FmV p (fcV f1 c1,fcV f2 c2) F u∧True) w∧(D 4=true→Blk g (bk 5 [.int .u8 (wZ i.op).toNat]) w)) [[],[],[1],[2],[3],[4],[],[6],[],[7,8],[5,9],[0,10],[],[11,12],[13]] 0 (by kernel_rfl) (by kernel_rfl) (by kernel_rfl) (O2 M M) (fun D w h hw=>⟨Hp.drew hw,fun h4=>by rw[h 4 (by decide)] at h4;cases h4⟩) ⟨?_,?_,?_,?_,?_,?_,?_,?_,?_,?_,?_,?_,?_,?_,?_,trivial⟩ (fun g=>?_)
     ·intro D g hD hd;refine zS (v:=.agg (fmC p (fcV f1 c1,fcV f2 c2)).toArray) ?_ M Jv;refine xE (cs:=fmC p (fcV f1 c1,fcV f2 c2)) M U135 M (by kernel_rfl) (fun w hw=>(HpG.range (k:=0) hw.1 M fun j v hj=>by rw[Kz];exact hj))
     ·intro D g hD hd;refine zS (v:=.pointer (some ⟨b1,0,none⟩)) ?_ M Jv;refine zY (off:=0) (sz:=0) M U35 (by kernel_rfl) rfl
     ·intro D g hD hd;have hd1:D 1=true:=hd 1 (by simp);refine zS (v:=.int .i64 i.op) ?_ M Jv;refine zD M U3 M (fun w hw=>HpG.cell (k:=1) hw.1 M M)
     ·intro D g hD hd;have hd2:D 2=true:=hd 2 (by simp)
      refine zS (v:=.int .u8 (wZ i.op).toNat) ?_ M Jv;refine yQ M (by kernel_rfl) U5 (low_w i.op)
     ·intro D g hD hd;have hd3:D 3=true:=hd 3 (by simp);refine oi_new (wS (z:=.int .u8 0) M M Tryz.underlying53 (by kernel_rfl) (by kernel_rfl) M M) (fun w hw=>⟨w.heap.size,rfl,?_,HpG.onE hw.1 (Ext.alloc (Ext.refl w) _),fun _=>heap_alloc_new w _⟩)
      repeat' (first|exact trivial|apply And.intro|(intro _;rfl)|(intro h;rw[hD] at h;cases h))
     ·intro D g hD hd;have hd4:D 4=true:=hd 4 (by simp)
      refine zS (v:=.string ⟨[wZ i.op].toArray⟩) ?_ M Jv;refine yf_convB [wZ i.op] M (fun w hw=>hw.2 hd4) Tryz.underlying53 Tryz.underlying5 Tryz.underlying9 M (pW (wZ i.op))
     ·intro D g hD hd;refine zS (v:=.pointer (some ⟨b3,4,none⟩)) ?_ M Jv;refine zY (off:=4) (sz:=0) M U135 (by kernel_rfl) rfl
     ·intro D g hD hd;have hd6:D 6=true:=hd 6 (by simp);refine zS (v:=fcV f2 c2) ?_ M Jv;refine zD M Tryz.underlying133 M (fun w hw=>HpG.cell (k:=0) hw.1 M M)
     ·intro D g hD hd;refine zS (v:=.agg (kiC i).toArray) ?_ M Jv;refine xE (cs:=kiC i) M U35 M (by kernel_rfl) (fun w hw=>(HpG.range (k:=1) hw.1 M fun j v hj=>by rw[Kz];exact hj))
     ·intro D g hD hd;have hd7:D 7=true:=hd 7 (by simp);have hd8:D 8=true:=hd 8 (by simp);refine oi_callV (us:=[]) (vs:=[.agg (kiC i).toArray]) (cs:=c2) g2 M M (fun w hw=>put_call (HpG.x hw.1).1.2 hrg hi (by omega)) M (fun w w' hw hx=>⟨HpG.onE hw.1 hx,fun h=>(hw.2 h).onE hx⟩)
     ·intro D g hD hd;have hd5:D 5=true:=hd 5 (by simp);have hd9:D 9=true:=hd 9 (by simp);refine zS (v:=.string ⟨([wZ i.op]++vH i p.2.2.2).toArray⟩) ?_ M Jv;refine zN M M ?_;(· first|omega|simp<;>omega)
     ·intro D g hD hd;have hd0:D 0=true:=hd 0 (by simp);have hd10:D 10=true:=hd 10 (by simp);refine vR (v:=.agg (kiC (xM (vH i p.2.2.2) ⟨i.op,0,0,-1,0,0,p.2.2.1⟩ p.2.2.2)).toArray) (by kernel_rfl) M (fun w hw=>?_) M (fun w w' hw hx=>⟨HpG.onE hw.1 hx,fun h=>(hw.2 h).onE hx⟩);have:=read_any p f1 f2 c1 c2 g1 F ([wZ i.op]++vH i p.2.2.2) (wZ i.op) rfl (by rw[Jx,hpl];exact Ab _) (by rw[Jx,hpl];show 1+_≤_;omega) (by omega) w (HpG.x hw.1).1.1;rw[hlow] at this;exact this
     ·intro D g hD hd;refine zS (v:=.agg (kiC i).toArray) ?_ M Jv;refine xE (cs:=kiC i) M U35 M (by kernel_rfl) (fun w hw=>(HpG.range (k:=1) hw.1 M fun j v hj=>by rw[Kz];exact hj))
     ·intro D g hD hd;have hd11:D 11=true:=hd 11 (by simp);have hd12:D 12=true:=hd 12 (by simp);refine zS (v:=.bool (decide (xM (vH i p.2.2.2) ⟨i.op,0,0,-1,0,0,p.2.2.1⟩ p.2.2.2=i))) ?_ M Jv;refine yf_eqlAgg (r:=decide (xM (vH i p.2.2.2) ⟨i.op,0,0,-1,0,0,p.2.2.1⟩ p.2.2.2=i)) M M (by kernel_rfl) (fun w=>eqKi _ _ w)
     ·intro D g hD hd;have hd13:D 13=true:=hd 13 (by simp);refine zS (v:=.bool (decide (xM (vH i p.2.2.2) ⟨i.op,0,0,-1,0,0,p.2.2.1⟩ p.2.2.2=i))) ?_ M Jv;refine xZ rfl
     ·refine tF (m':=[(1,.pointer (some ⟨b1,0,none⟩)),(3,.pointer (some ⟨b3,0,none⟩)),(2,.bool (decide (xM (vH i p.2.2.2) ⟨i.op,0,0,-1,0,0,p.2.2.1⟩ p.2.2.2=i)))]) (H':=Hp (fun _=>False) w_0 [] [] (fun _=>True)) ?_ (O3 M M M) (fun w hw=>Hp.weakX (Hp.drop hw.1 (Ku _) (.refl _)) fun _ _=>trivial);refine zP<|zQ<|zO M M (fun w hw=>?_);exact⟨by rw[hv,Aj h10,hrg];rfl,(Kg hw).ext⟩
end Go.Proofs.YtkaepknpplhgkaaGreatDoor
namespace Go.Proofs.YtkaepknpplhgkaaGreatDoor
open Go.RowKit
theorem encode_any (i:KI) (hi:i.imm<4294967296) (w_0:World):Calls Tryz.prog 168 #[.agg (kiC i).toArray] w_0 fun e w'=>e=.returned (.tuple #[.string ⟨((tV i).getD []).toArray⟩,.int .i64 (if wP i=true then 0 else 12)])∧Ext w_0 w':=by
 have hk:=fmtK_P i.op;have hf:=fun w=>find_any i.op w;unfold FdPost at hf
 cases hvd:wP i with
 | false =>
  have hn:tV i=none:=by
   unfold wP at hvd
   cases he:tV i with
   | none=>rfl
   | some c=>rw[he] at hvd;cases hvd
  rw[hn];refine zH (args:=[.agg (kiC i).toArray]) Tryz.func168 M 25 M (Kc M)<|Z1 0 M<|zR (H':=Hp (fun _=>False) w_0 [] [] (fun _=>True)) (fun u hu=>?_) ?_
  ·subst hu;exact Hp.start0
  refine zX<|zZ<|zC .none M (yF M M) (fun b1=>?_);refine Za M M<|Za M M<|ZX<|zX<|zZ<|ZF M (yU 0 M M U35 M (by kernel_rfl)) ?_;refine zE .none M  (v:=.bool false) (by kernel_rfl) M (fun w hw=>(qF i hi w).mono fun e w' ⟨h1,h2⟩=>⟨by rw[h1,hvd],h2⟩) ?_;refine ZF M (xF M)<|ZT<|zW M (fun h8=>?_) (fun h8=>?_)
  ·refine zX<|Z5r 0 1 2 3 8 M M M M M<|Za M M<|Za M M<|ZT<|zQ<|zT<|uU M M M (fun w hw=>?_);exact⟨rfl,(Kg hw).ext⟩
  ·exact absurd h8 (by decide)
 | true =>
  obtain⟨cd,hcd⟩:∃c,tV i=some c:=by
   unfold wP at hvd;exact Option.isSome_iff_exists.1 hvd
  obtain⟨z,l,hfk,_,hrg,hcd2⟩:=encK_rng hcd
  cases hp:fmtP i.op with
  | none=>rw[hp] at hk;rw[hk] at hfk;cases hfk
  | some p =>
   rw[hp] at hk hf;have hk':tB i.op=some (p.2.2.1,p.2.2.2):=hk;rw[hfk] at hk';cases hk';obtain⟨hn1,hn3,ho0,ho1⟩:=ndL_fm hfk;have hpl:=putK_nd i p.2.2.2
   have hnd:ndL p.2.2.2≤100:=by
    have:∀l:List Fld,ndL l≤4*l.length:=by
     intro l
     induction l with
     | nil=>exact Ab _
     | cons f l ih =>
      have:ndF f≤4:=by cases f<;>decide
      show ndF f+ndL l≤4*(l.length+1);omega
    have:=this p.2.2.2;omega
   rw[hcd,hcd2];refine zH (args:=[.agg (kiC i).toArray]) Tryz.func168 M 25 M (Kc M)<|Z1 0 M<|zR (H':=Hp (fun _=>False) w_0 [] [] (fun _=>True)) (fun u hu=>?_) ?_
   ·subst hu;exact Hp.start0
   refine zX<|zZ<|zC .none M (yF M M) (fun b1=>?_);refine Za M M<|Za M M<|ZX<|zX<|zZ<|ZF M (yU 0 M M U35 M (by kernel_rfl)) ?_;refine zE .none M  (v:=.bool true) (by kernel_rfl) M (fun w hw=>(qF i hi w).mono fun e w' ⟨h1,h2⟩=>⟨by rw[h1,hvd],h2⟩) ?_;refine ZF M (xF M)<|ZT<|zW M (fun h8=>?_) (fun h8=>?_)
   ·exact absurd h8 (by decide)
   ·refine zL<|zP<|zX<|Z5r 0 1 2 3 8 M M M M M<|ZF M (Y35x0 M) ?_;refine ZF M (zV 0 M M M U3 M)<|yG (ι:=Value×Value) (C:=fun v=>IsFn Tryz.prog v.1∧IsFn Tryz.prog v.2) (val:=fun v=>.tuple #[.agg (fmC p v).toArray,.bool true]) (TT:=fun v=>FmV p v) .none M  (by kernel_rfl) M (fun _ h=>h.elim) (fun _=>FmV.lies) (fun w hw=>(hf w).mono fun e w' ⟨h1,v,h2,h3⟩=>⟨v,⟨take_fn h3.1,put_fn h3.2⟩,h2,h1,h3⟩) (fun v F hfn hF=>?_);obtain⟨v1,v2⟩:=v;obtain⟨⟨f1,c1,e1,g1⟩,⟨f2,c2,e2,g2⟩⟩:=hfn;dsimp only at e1 e2;subst e1;subst e2;refine Zm M M<|ZF M (yX M M)<|ZF M (yX M M)<|zC .none M (yS (z:=Ja) (cs:=Jl) (by kernel_rfl) M) (fun b4=>?_);refine ZR 0 M M M M M (by kernel_rfl) ?_;refine Za M M<|ZX<|Z6 0 1 2 3 4 8 M M M M M M<|wX (γ:=Nat) [(1,.pointer (some ⟨b1,0,none⟩)),(4,.pointer (some ⟨b4,0,none⟩))] [(0,15,fun g=>.pointer (some ⟨b1,0,none⟩)),(1,16,fun g=>.int .i64 i.op),(2,17,fun g=>.int .u8 (wZ i.op).toNat),(3,18,fun g=>.slice (some ⟨g,0,none⟩) 1 1),(4,19,fun g=>.string ⟨[wZ i.op].toArray⟩),(5,20,fun g=>.pointer (some ⟨b4,4,none⟩)),(6,21,fun g=>fcV f2 c2),(7,22,fun g=>.agg (kiC i).toArray),(8,23,fun g=>.string ⟨(vH i p.2.2.2).toArray⟩),(9,24,fun g=>.string ⟨([wZ i.op]++vH i p.2.2.2).toArray⟩),(10,2,fun g=>.string ⟨([wZ i.op]++vH i p.2.2.2).toArray⟩),(11,3,fun g=>.int .i64 0)] (fun D g=>fun w=>Hp (fun _=>False) w_0 [(b4,bk 135 (fmC p (fcV f1 c1,fcV f2 c2))),(b1,kiO i)] [] (fun u=>FmV p (fcV f1 c1,fcV f2 c2) F u∧True) w∧(D 3=true→Blk g (bk 5 [.int .u8 (wZ i.op).toNat]) w)) [[],[0],[1],[2],[3],[],[5],[],[6,7],[4,8],[9],[]] 0 (by kernel_rfl) (by kernel_rfl) (by kernel_rfl) (O2 M M) (fun D w h hw=>⟨Hp.drew hw,fun h4=>by rw[h 3 (by decide)] at h4;cases h4⟩) ⟨?_,?_,?_,?_,?_,?_,?_,?_,?_,?_,?_,?_,trivial⟩ (fun g=>?_)
    ·intro D g hD hd;refine zS (v:=.pointer (some ⟨b1,0,none⟩)) ?_ M Jv;refine zY (off:=0) (sz:=0) M U35 (by kernel_rfl) rfl
    ·intro D g hD hd;have hd0:D 0=true:=hd 0 (by simp);refine zS (v:=.int .i64 i.op) ?_ M Jv;refine zD M U3 M (fun w hw=>HpG.cell (k:=1) hw.1 M M)
    ·intro D g hD hd;have hd1:D 1=true:=hd 1 (by simp)
     refine zS (v:=.int .u8 (wZ i.op).toNat) ?_ M Jv;refine yQ M (by kernel_rfl) U5 (low_w i.op)
    ·intro D g hD hd;have hd2:D 2=true:=hd 2 (by simp);refine oi_new (wS (z:=.int .u8 0) M M Tryz.underlying53 (by kernel_rfl) (by kernel_rfl) M M) (fun w hw=>⟨w.heap.size,rfl,?_,HpG.onE hw.1 (Ext.alloc (Ext.refl w) _),fun _=>heap_alloc_new w _⟩)
     repeat' (first|exact trivial|apply And.intro|(intro _;rfl)|(intro h;rw[hD] at h;cases h))
    ·intro D g hD hd;have hd3:D 3=true:=hd 3 (by simp)
     refine zS (v:=.string ⟨[wZ i.op].toArray⟩) ?_ M Jv;refine yf_convB [wZ i.op] M (fun w hw=>hw.2 hd3) Tryz.underlying53 Tryz.underlying5 Tryz.underlying9 M (pW (wZ i.op))
    ·intro D g hD hd;refine zS (v:=.pointer (some ⟨b4,4,none⟩)) ?_ M Jv;refine zY (off:=4) (sz:=0) M U135 (by kernel_rfl) rfl
    ·intro D g hD hd;have hd5:D 5=true:=hd 5 (by simp);refine zS (v:=fcV f2 c2) ?_ M Jv;refine zD M Tryz.underlying133 M (fun w hw=>HpG.cell (k:=0) hw.1 M M)
    ·intro D g hD hd;refine zS (v:=.agg (kiC i).toArray) ?_ M Jv;refine xE (cs:=kiC i) M U35 M (by kernel_rfl) (fun w hw=>(HpG.range (k:=1) hw.1 M fun j v hj=>by rw[Kz];exact hj))
    ·intro D g hD hd;have hd6:D 6=true:=hd 6 (by simp);have hd7:D 7=true:=hd 7 (by simp);refine oi_callV (us:=[]) (vs:=[.agg (kiC i).toArray]) (cs:=c2) g2 M M (fun w hw=>put_call (HpG.x hw.1).1.2 hrg hi (by omega)) M (fun w w' hw hx=>⟨HpG.onE hw.1 hx,fun h=>(hw.2 h).onE hx⟩)
    ·intro D g hD hd;have hd4:D 4=true:=hd 4 (by simp);have hd8:D 8=true:=hd 8 (by simp);refine zS (v:=.string ⟨([wZ i.op]++vH i p.2.2.2).toArray⟩) ?_ M Jv;refine zN M M ?_;(· first|omega|simp<;>omega)
    ·intro D g hD hd;have hd9:D 9=true:=hd 9 (by simp);refine zS (v:=.string ⟨([wZ i.op]++vH i p.2.2.2).toArray⟩) ?_ M Jv;refine xZ rfl
    ·intro D g hD hd;refine zS (v:=.int .i64 0) ?_ M Jv;refine xZ rfl
    ·refine tF (m':=[(1,.pointer (some ⟨b1,0,none⟩)),(4,.pointer (some ⟨b4,0,none⟩)),(2,.string ⟨([wZ i.op]++vH i p.2.2.2).toArray⟩),(3,.int .i64 0)]) (H':=Hp (fun _=>False) w_0 [] [] (fun _=>True)) ?_ (O4 M M M M) (fun w hw=>Hp.weakX (Hp.drop hw.1 (Ku _) (.refl _)) fun _ _=>trivial);refine zP<|zQ<|uU M M M (fun w hw=>?_);exact⟨rfl,(Kg hw).ext⟩
end Go.Proofs.YtkaepknpplhgkaaGreatDoor
