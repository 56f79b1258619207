import Derived.Test.YtfpkpnkdnammnaaGreatDoorBase
import Derived.Deep.RegionWith
import Derived.Deep.DrawnRows
import Derived.StillTail
namespace Go.Proofs.YtfpkpnkdnammnaaGreatDoor
open Go.RowKit

def Ext (w w':World):Prop:=Below w.heap.size w w'
theorem Ext.refl (w:World):Ext w w:=Below.refl _ _
theorem Ext.size {w w':World}(h:Ext w w'):w.heap.size≤w'.heap.size:=Below.size h
theorem Ext.trans {a b c:World}(h:Ext a b) (k:Ext b c):Ext a c:=Below.trans h (Below.mono k h.size)
theorem Ext.alloc {a w:World}(h:Ext a w) (o:Obj):Ext a (w.alloc o):=Below.alloc h h.size o
theorem Ext.drew {a w:World}(h:Ext a w):Ext a w.drew:=Below.drew h
theorem Ext.block {w w':World}(h:Ext w w') {k:Nat}{o:Obj}(hk:w.heap[k]? = some o):w'.heap[k]? = some o :=
 (Below.block h k (Array.getElem?_eq_some_iff.1 hk).1).trans hk

section
variable {P:Program}{ops:Array Oper}{Q:Exit→Act→World→Prop}

def rI (ops:Array Oper) (j:Nat):Option Tmp:=(ops[j]?).bind (·.dst)
def uB (ops:Array Oper) (vs:Nat→Value):List Nat→Act→Act
 | [],a=>a
 | j::r,a=>uB ops vs r (a.put (rI ops j) (vs j))
theorem put_tmps_ne {a:Act}{d:Option Tmp}{v:Value}{t:Nat}(h:d≠some t):(a.put d v).tmps[t]? = a.tmps[t]? := by
 cases d with
 | none=>rfl
 | some e =>
  have:e≠t:=fun he=>h (by rw[he]);simp[Act.put,Array.getElem?_setIfInBounds_ne this]
theorem qZ {a:Act}{v:Value}{t:Nat}:(a.put (some t) v).tmps[t]? = (a.tmps[t]?).map fun _=>v:=by
 show (a.tmps.setIfInBounds t v)[t]? = _;rcases Nat.lt_or_ge t a.tmps.size with h|h
 ·simp[h]
 ·simp[Array.getElem?_eq_none h];exact h
theorem put_size (a:Act) (d:Option Tmp) (v:Value):(a.put d v).tmps.size=a.tmps.size:=by
 cases d<;>simp[Act.put]
theorem put_defers (a:Act) (d:Option Tmp) (v:Value):(a.put d v).defers=a.defers:=by
 cases d<;>rfl
theorem oU (vs:Nat→Value):∀(l:List Nat) (a:Act),(uB ops vs l a).tmps.size=a.tmps.size
 | [],_=>rfl
 | j::r,a=>by rw[uB,oU vs r,put_size]
theorem actS_defers (vs:Nat→Value):∀(l:List Nat) (a:Act),(uB ops vs l a).defers=a.defers
 | [],_=>rfl
 | j::r,a=>by rw[uB,actS_defers vs r,put_defers]
theorem oT (vs:Nat→Value) {t:Nat}:∀(l:List Nat) (a:Act),(∀j∈l,rI ops j≠some t)→(uB ops vs l a).tmps[t]? = a.tmps[t]?
 | [],_,_=>rfl
 | j::r,a,h=>by
  rw[uB,oT vs r _ (fun k hk=>h k (List.mem_cons_of_mem _ hk)),put_tmps_ne (h j (List.mem_cons_self ..))]
theorem actS_in (vs:Nat→Value) {t j:Nat}(hd:rI ops j=some t):∀(l:List Nat) (a:Act),j∈l→(∀k∈l,rI ops k=some t→k=j) →
  (uB ops vs l a).tmps[t]? = (a.tmps[t]?).map fun _=>vs j
 | [],_,h,_=>by cases h
 | k::r,a,h,hu=>by
  by_cases hr:j∈r
  ·rw[uB,actS_in vs hd r _ hr (fun m hm=>hu m (List.mem_cons_of_mem _ hm))]
   by_cases hk:rI ops k=some t
   ·rw[hk,qZ];cases a.tmps[t]? <;> rfl
   ·rw[put_tmps_ne hk]
  ·have hjk:j=k:=by
    rcases List.mem_cons.1 h with h|h
    ·exact h
    ·exact absurd h hr
   subst hjk;rw[uB,oT vs r _ (fun m hm he=>hr (by rw[← hu m (List.mem_cons_of_mem _ hm) he];exact hm)),hd,qZ]
theorem actS_append (vs:Nat→Value) (i:Nat):∀(l:List Nat) (a:Act),uB ops vs (l++[i]) a=(uB ops vs l a).put (rI ops i) (vs i)
 | [],_=>rfl
 | j::r,a=>by rw[List.cons_append,uB,actS_append vs i r,uB]
theorem actS_congr {vs us:Nat→Value}:∀(l:List Nat) (a:Act),(∀j∈l,vs j=us j)→uB ops vs l a=uB ops us l a
 | [],_,_=>rfl
 | j::r,a,h=>by rw[uB,uB,h j (List.mem_cons_self ..),actS_congr r _ (fun k hk=>h k (List.mem_cons_of_mem _ hk))]
theorem act_ext {a b:Act}(hd:a.defers=b.defers) (h:∀t:Nat,a.tmps[t]? = b.tmps[t]?):a=b:=by
 obtain⟨ta,da⟩:=a;obtain⟨tb,db⟩:=b;have:ta=tb:=Array.ext_getElem? h;subst this;have:da=db:=hd;subst this;rfl
theorem pB {a b:Act}{d:Option Tmp}{v v':Value}(hs:a.tmps.size=b.tmps.size) (h:a.put d v=a.put d v'):b.put d v=b.put d v':=by
 cases d with
 | none=>rfl
 | some t =>
  rcases Nat.lt_or_ge t a.tmps.size with ht|ht
  ·have h1:(a.put (some t) v).tmps[t]? = (a.put (some t) v').tmps[t]? := by rw[h]
   rw[qZ,qZ] at h1;simp[ht] at h1;rw[h1]
  ·have hb:b.tmps.size≤t:=by omega
   simp[Act.put,Array.setIfInBounds,Nat.not_lt.2 hb]
theorem upon_move {o:Oper}{a b:Act}{w:World}{G:Value→World→Prop}{K:Act→World→Prop}(hrun:execOp a.eval o=execOp b.eval o) (hs:a.tmps.size=b.tmps.size)
  (h:o.wp P a w (fun a'' w''=>∃v,a''=a.put o.dst v∧G v w'') (fun _ _ _=>False)) (hK:∀v w'',G v w''→K (b.put o.dst v) w''):o.wp P b w K Q:=by
 unfold Oper.wp at *;rw[hrun] at h;generalize (execOp b.eval o).run P w=r at *
 cases r with
 | ok nx w1 =>
  cases nx<;>simp only[Oper.upon] at h ⊢
  case value v=>obtain⟨v',he,hg⟩:=h;rw[pB hs he];exact hK _ _ hg
  case skip=>obtain⟨v',he,hg⟩:=h;rw[pB hs he];exact hK _ _ hg
  case defer d =>
   obtain⟨v',he,hg⟩:=h;have:=congrArg Act.defers he;rw[put_defers,put_defers] at this;simp at this
  case enter f args =>
   refine Calls.mono h fun e w'' he=>?_
   cases e with
   | returned u=>obtain⟨v',he,hg⟩:=he;show K (b.put o.dst u) w'';rw[pB hs he];exact hK _ _ hg
   | panicked c=>exact (he:False).elim
   | outgrown=>obtain⟨_,_,hf⟩:=he;exact hf.elim
  case row row args =>
   refine Rows.mono h fun u w'' he=>?_;obtain⟨v',he,hg⟩:=he;rw[pB hs he];exact hK _ _ hg
 | halt x w1=>cases x<;>simp only[Oper.upon] at h

def vE (m n:Nat):Array Bool:=((List.range m).map fun i=>decide (i<n)).toArray
structure ExtOk0 (ops:Array Oper) (n:Nat) (deps:List (List Nat)):Prop where
 le:n≤ops.size
 sel:Region.noSelect ops=true
 lower:∀i o,i<n→ops[i]? = some o→∀e∈o.after,Region.binds .any e=true→e.on<i
 waits:∀i,i<n→∀j∈deps.getD i [],j<n∧Region.waitsFor .any ops i j=true
 apart:∀i j d,i<n→j<n→rI ops j=some d→rI ops i=some d→i=j
 looks:∀i o j d,i<n→ops[i]? = some o→j<n→rI ops j=some d→d∈o.looksAt ops→j∈deps.getD i []
structure ExtOk (ops:Array Oper) (n:Nat) (deps:List (List Nat)):Prop extends ExtOk0 ops n deps where
 tail:n=ops.size∨(n<ops.size∧Region.sinkB .any ops n=true∧Region.chainB .any ops n=true)
 seq:Region.seqB .any ops (ops.size-n) n (vE ops.size n)=true
def extB0 (ops:Array Oper) (n:Nat) (deps:List (List Nat)):Bool :=
 Region.noSelect ops&&decide (n≤ops.size) &&
 (List.range n).all fun i=>match ops[i]? with
  | some o=>(o.after.all fun e=>!Region.binds .any e||decide (e.on<i))&&((deps.getD i []).all fun j=>decide (j<n)&&Region.waitsFor .any ops i j) &&
   (List.range n).all fun j=>match rI ops j with
    | some d=>(i==j||rI ops i != some d)&&(!(o.looksAt ops).contains d||(deps.getD i []).contains j)
    | none=>true
  | none=>false
theorem extB0_ok {n:Nat}{deps:List (List Nat)}(h:extB0 ops n deps=true):ExtOk0 ops n deps:=by
 unfold extB0 at h;simp only[Bool.and_eq_true,Bool.or_eq_true,decide_eq_true_eq,List.all_eq_true,List.mem_range] at h;obtain⟨⟨h1,h2⟩,h5⟩:=h
 have key:∀i o,i<n→ops[i]? = some o→(∀e∈o.after,Region.binds .any e=true→e.on<i)∧(∀j∈deps.getD i [],j<n∧Region.waitsFor .any ops i j=true) ∧
   (∀j d,j<n→rI ops j=some d→(i=j∨rI ops i≠some d)∧(d∈o.looksAt ops→j∈deps.getD i [])):=by
  intro i o hi ho;have:=h5 i hi;rw[ho] at this;simp only[Bool.and_eq_true,List.all_eq_true,List.mem_range,Array.all_eq_true_iff_forall_mem,Bool.or_eq_true,decide_eq_true_eq] at this;obtain⟨⟨a1,a2⟩,a3⟩:=this;refine⟨fun e he hb=>?_,fun j hj=>a2 j hj,fun j d hj hd=>?_⟩
  ·rcases a1 e he with h|h
   ·rw[hb] at h;cases h
   ·exact h
  ·have:=a3 j hj;rw[hd] at this;simp only[Bool.and_eq_true,Bool.or_eq_true,beq_iff_eq,bne_iff_ne,ne_eq,Bool.not_eq_true',List.contains_eq_mem,decide_eq_true_eq,decide_eq_false_iff_not] at this;refine⟨this.1,fun hm=>?_⟩;rcases this.2 with h|h
   ·exact absurd hm h
   ·exact h
 have get:∀i,i<n→∃o,ops[i]? = some o:=fun i hi=>⟨_,Array.getElem?_eq_getElem (Nat.lt_of_lt_of_le hi h2)⟩;refine⟨h2,h1,fun i o hi ho=>(key i o hi ho).1,fun i hi j hj=>?_,fun i j d hi hj hd he=>?_,fun i o j d hi ho hj hd=>((key i o hi ho).2.2 j d hj hd).2⟩
 ·obtain⟨o,ho⟩:=get i hi;exact (key i o hi ho).2.1 j hj
 ·obtain⟨o,ho⟩:=get i hi;rcases ((key i o hi ho).2.2 j d hj hd).1 with h|h
  ·exact h
  ·exact absurd he h

def unl (listed:Array Bool):Nat→Nat
 | 0=>0
 | n+1=>unl listed n+(if listed.getD n false then 0 else 1)
theorem sN {listed:Array Bool}{i:Nat}(h:i<listed.size):(listed.setIfInBounds i true).getD i false=true:=by
 simp[h]
theorem unl_far {listed:Array Bool}{i:Nat}:∀{n:Nat},n≤i→unl (listed.setIfInBounds i true) n=unl listed n
 | 0,_=>rfl
 | n+1,h=>by rw[unl,unl,unl_far (n:=n) (by omega),getD_set_ne false (by omega)]
theorem unl_set {listed:Array Bool}{i:Nat}(hs:i<listed.size) (h0:listed.getD i false=false):∀{n:Nat},i<n→unl (listed.setIfInBounds i true) n+1=unl listed n
 | 0,h=>by omega
 | n+1,h=>by
  by_cases hin:i=n
  ·subst hin;rw[unl,unl,unl_far (Nat.le_refl _),sN hs,h0];simp
  ·have:=unl_set hs h0 (n:=n) (by omega);rw[unl,unl,getD_set_ne false hin];omega
theorem unl_zero {listed:Array Bool}:∀{n:Nat},unl listed n=0→∀i,i<n→listed.getD i false=true
 | 0,_,i,hi=>by omega
 | n+1,h,i,hi=>by
  rw[unl] at h
  by_cases hin:i=n
  ·subst hin
   by_cases hl:listed.getD i false=true
   ·exact hl
   ·rw[if_neg hl] at h;omega
  ·exact unl_zero (n:=n) (by omega) i (by omega)
theorem unl_some {listed:Array Bool}:∀{n:Nat},0<unl listed n→∃i,i<n∧listed.getD i false=false∧∀j,j<i→listed.getD j false=true
 | 0,h=>by simp[unl] at h
 | n+1,h=>by
  by_cases h0:0<unl listed n
  ·obtain⟨i,hi,r⟩:=unl_some h0;exact⟨i,by omega,r⟩
  ·have hz:unl listed n=0:=by omega
   rw[unl,hz] at h;refine⟨n,by omega,?_,unl_zero hz⟩
   by_cases hl:listed.getD n false=true
   ·rw[if_pos hl] at h;omega
   ·simpa using hl
theorem unl_none (m:Nat):∀n,unl (Array.replicate m false) n=n
 | 0=>rfl
 | n+1=>by rw[unl,unl_none m n,getD_replicate_false];simp

variable {n:Nat}{deps:List (List Nat)}{T:Nat→Value→World→Prop}{a0:Act}{w0:World}
def OpOk (P:Program) (ops:Array Oper) (T:Nat→Value→World→Prop) (a0:Act) (w0:World) (i:Nat) (o:Oper) (dep:List Nat):Prop :=
 ∀(vs:Nat→Value) (w':World),Ext w0 w'→(∀j∈dep,T j (vs j) w')→∀K:Act→World→Prop,(∀v w'',Ext w' w''→T i v w''→K ((uB ops vs dep a0).put o.dst v) w'') →
  if Region.wanted o (yielded ops (uB ops vs dep a0).tmps)=true then o.wp P (uB ops vs dep a0) w' K (fun _ _ _=>False) else K ((uB ops vs dep a0).put o.dst undef) w'
def OpsOk (P:Program) (ops:Array Oper) (deps:List (List Nat)) (T:Nat→Value→World→Prop) (a0:Act) (w0:World) (n:Nat):Prop :=
 ∀i o,i<n→ops[i]? = some o→OpOk P ops T a0 w0 i o (deps.getD i [])
structure RInv (ops:Array Oper) (n:Nat) (T:Nat→Value→World→Prop) (a0:Act) (w0:World) (listed:Array Bool) (a:Act) (w:World):Prop where
 head:HeadInv .any ops n listed
 ext:Ext w0 w
 some_:∃(l:List Nat) (vs:Nat→Value),a=uB ops vs l a0∧(∀j,j∈l↔j<n∧listed.getD j false=true)∧∀j∈l,T j (vs j) w
theorem looks_same {i:Nat}{o:Oper}(E:ExtOk0 ops n deps) (hi:i<n) (ho:ops[i]? = some o) {l:List Nat}{vs:Nat→Value}(hl:∀j∈l,j<n) (hd:∀j∈deps.getD i [],j∈l) {t:Nat}(ht:t∈o.looksAt ops) :
  (uB ops vs l a0).tmps[t]? = (uB ops vs (deps.getD i []) a0).tmps[t]? := by
 by_cases hx:∃j,j<n∧rI ops j=some t
 ·obtain⟨j,hj,hdj⟩:=hx;have hjd:=E.looks i o j t hi ho hj hdj ht;rw[actS_in vs hdj l a0 (hd j hjd) (fun k hk he=>E.apart k j t (hl k hk) hj hdj he),actS_in vs hdj _ a0 hjd (fun k hk he=>E.apart k j t (E.waits i hi k hk).1 hj hdj he)]
 ·rw[oT vs l a0 (fun j hj he=>hx ⟨j,hl j hj,he⟩),oT vs _ a0 (fun j hj he=>hx ⟨j,(E.waits i hi j hj).1,he⟩)]
theorem step_ok (E:ExtOk0 ops n deps) (hmono:∀i v w w',T i v w→Ext w w'→T i v w') (hop:OpsOk P ops deps T a0 w0 n) {listed:Array Bool}{a:Act}{w:World}(inv:RInv ops n T a0 w0 listed a w)
  {i:Nat} (hi:i<n) (hr:i∈Region.ready .any ops listed):wpOp P ops Q i (fun a' w'=>RInv ops n T a0 w0 (listed.setIfInBounds i true) a' w') a w:=by
 obtain⟨hun,o,ho,hall⟩:=mem_ready.1 hr;obtain⟨hh,hx,l,vs,rfl,hl,hT⟩:=inv;have hln:∀j∈l,j<n:=fun j hj=>((hl j).1 hj).1;have hil:i∉l:=fun h=>by have:=((hl i).1 h).2;rw[getD_both hun] at this;cases this
 have hdl:∀j∈deps.getD i [],j∈l:=fun j hj=>by
  obtain⟨h1,h2⟩:=E.waits i hi j hj;obtain⟨o',ho',e,he,hb,hon⟩:=Region.waitsFor_spec h2;have:o'=o:=Option.some.inj (ho'.symm.trans ho);subst this;exact (hl j).2 ⟨h1,by rw[← hon];exact hall e he hb⟩
 have hsame:=fun t (ht:t∈o.looksAt ops)=>looks_same (a0:=a0) (vs:=vs) E hi ho hln hdl ht
 have heval:∀x∈o.op.operands,(uB ops vs (deps.getD i []) a0).eval x=(uB ops vs l a0).eval x:=fun x hx=>by
  cases x with
  | tmp t =>
   have:=hsame t (List.mem_append_left _ (List.mem_filterMap.2 ⟨.tmp t,by simpa using hx,rfl⟩));simp only[Act.eval,Array.getD_eq_getD_getElem?,this]
  | _=>rfl
 have hrun:execOp (uB ops vs (deps.getD i []) a0).eval o=execOp (uB ops vs l a0).eval o:=execOp_congr o (fun cs b=>Region.noSelect_spec E.sel i o cs b ho) heval
 have hwant:Region.wanted o (yielded ops (uB ops vs l a0).tmps)=Region.wanted o (yielded ops (uB ops vs (deps.getD i []) a0).tmps):=by
  unfold Region.wanted
  cases hg:o.guard with
  | none=>rfl
  | some gw =>
   obtain⟨g,want⟩:=gw
   have hy:yielded ops (uB ops vs l a0).tmps g=yielded ops (uB ops vs (deps.getD i []) a0).tmps g:=by
    unfold yielded
    cases ht:(ops[g]?).bind (·.dst) with
    | none=>rfl
    | some t =>
     have:=hsame t (by simp[Oper.looksAt,hg,ht]);simp only[Option.bind_some,this]
   simp only[hy]
 have next:∀v w'',(Ext w w''∧T i v w'')→RInv ops n T a0 w0 (listed.setIfInBounds i true) ((uB ops vs l a0).put o.dst v) w'':=fun v w'' hg=>by
  refine⟨hh.set hr hi,hx.trans hg.1,l++[i],fun j=>if j=i then v else vs j,?_,fun j=>?_,fun j hj=>?_⟩
  ·have hc:∀j∈l,(fun j=>if j=i then v else vs j) j=vs j:=fun j hj=>if_neg (fun e:j=i=>hil (by rw[← e];exact hj));rw[actS_append,actS_congr l a0 hc];simp[rI,ho]
  ·rw[List.mem_append,List.mem_singleton,hl j]
   constructor
   ·rintro (⟨h1,h2⟩|rfl)
    ·exact⟨h1,getD_set_true h2⟩
    ·exact⟨hi,sN (by rw[hh.size];exact Nat.lt_of_lt_of_le hi E.le)⟩
   ·rintro⟨h1,h2⟩
    by_cases hji:j=i
    ·exact .inr hji
    ·rw[getD_set_ne false (Ne.symm hji)] at h2;exact .inl ⟨h1,h2⟩
  ·rcases List.mem_append.1 hj with h|h
   ·show T j (if j=i then v else vs j) w'';rw[if_neg (fun e:j=i=>hil (by rw[← e];exact h))];exact hmono _ _ _ _ (hT j h) hg.1
   ·have:j=i:=by simpa using h
    subst this;show T j (if j=j then v else vs j) w'';rw[if_pos rfl];exact hg.2
 have H:=hop i o hi ho vs w hx (fun j hj=>hT j (hdl j hj)) (fun a'' w''=>∃v,a''=(uB ops vs (deps.getD i []) a0).put o.dst v∧(Ext w w''∧T i v w'')) (fun v w'' h1 h2=>⟨v,rfl,h1,h2⟩);unfold wpOp;rw[ho];show if Region.wanted o (yielded ops (uB ops vs l a0).tmps)=true then _ else _
 split
 ·rename_i hw;rw[hwant] at hw;rw[if_pos hw] at H;exact .inl (upon_move hrun (by rw[oU,oU]) H next)
 ·rename_i hw;rw[hwant] at hw;rw[if_neg hw] at H;obtain⟨v,he,hg⟩:=H;rw[pB (by rw[oU,oU]) he];exact next _ _ hg
theorem firstTrue_get {m n i:Nat}(h:i<m):(vE m n)[i]? = some (decide (i<n)):=by simp[vE,h]
theorem listed_full {listed:Array Bool}(hh:HeadInv .any ops n listed) (h:∀i,i<n→listed.getD i false=true):listed=vE ops.size n:=by
 apply Array.ext_getElem?;intro i;rcases Nat.lt_or_ge i ops.size with hi|hi
 ·rw[firstTrue_get hi];have hs:i<listed.size:=by rw[hh.size];exact hi
  rcases Nat.lt_or_ge i n with hn|hn
  ·have:=h i hn;simp[hs] at this ⊢;simp[this,hn]
  ·have:=hh.tail i hn hi;simp[hs] at this ⊢;rw[this];simp;omega
 ·rw[Array.getElem?_eq_none (by rw[hh.size];exact hi),Array.getElem?_eq_none (by simp[vE];exact hi)]
theorem ready_first (E:ExtOk0 ops n deps) {listed:Array Bool}(hh:HeadInv .any ops n listed) (hW:∀i,i<n→listed.getD i false=false→∀t,n≤t→t∉Region.ready .any ops listed) (h0:0<unl listed n):Region.ready .any ops listed≠[]∧∀i∈Region.ready .any ops listed,i<n:=by
 obtain⟨i,hi,hu,hb⟩:=unl_some h0;have his:i<ops.size:=Nat.lt_of_lt_of_le hi E.le;have hun:listed.getD i true=false:=getD_in (by rw[hh.size];exact his) hu
 constructor
 ·intro he;have:i∈Region.ready .any ops listed:=mem_ready.2 ⟨hun,ops[i],Array.getElem?_eq_getElem his,fun e hm hbd=>hb _ (E.lower i _ hi (Array.getElem?_eq_getElem his) e hm hbd)⟩;rw[he] at this;cases this
 ·intro j hj;rcases Nat.lt_or_ge j n with h|h
  ·exact h
  ·exact absurd hj (hW i hi hu j h)
theorem ExtOk.wait (E:ExtOk ops n deps) {listed:Array Bool}(hh:HeadInv .any ops n listed) (i:Nat) (hi:i<n) (hun:listed.getD i false=false) (j:Nat) (h:n≤j):j∉Region.ready .any ops listed:=fun hj=>by
 rcases E.tail with ht|⟨ht,hs,hc⟩
 ·obtain⟨_,o,ho,_⟩:=mem_ready.1 hj;have:=(Array.getElem?_eq_some_iff.1 ho).1;omega
 ·exact absurd hj (tail_waits hs hc ht hh _ i rfl hi (getD_in (by rw[hh.size];exact Nat.lt_of_lt_of_le hi E.le) hun) j h)
theorem walk_ok (E:ExtOk0 ops n deps) (hW:∀listed,HeadInv .any ops n listed→∀i,i<n→listed.getD i false=false→∀t,n≤t→t∉Region.ready .any ops listed) (hmono:∀i v w w',T i v w→Ext w w'→T i v w') (hop:OpsOk P ops deps T a0 w0 n)
  (hend:∀listed a w,RInv ops n T a0 w0 listed a w→unl listed n=0→wpAny P .any ops Q (ops.size-n) listed a w) :
  ∀(f:Nat) (listed:Array Bool) (a:Act) (w:World),RInv ops n T a0 w0 listed a w→unl listed n=f→wpAny P .any ops Q (f+(ops.size-n)) listed a w
 | 0,listed,a,w,inv,hf=>by rw[Nat.zero_add];exact hend _ _ _ inv hf
 | f+1,listed,a,w,inv,hf=>by
  rw[show f+1+(ops.size-n)=(f+(ops.size-n))+1 by omega];obtain⟨h1,h2⟩:=ready_first E inv.head (hW _ inv.head) (by omega);refine⟨fun h=>absurd h h1,fun i hi=>wpOp_mono (fun a' w' h'=>walk_ok E hW hmono hop hend f _ a' w' h' ?_) (step_ok E hmono hop inv (h2 i hi) hi)⟩;have hu:=(mem_ready.1 hi).1;have:=unl_set (n:=n) (by rw[inv.head.size];exact Nat.lt_of_lt_of_le (h2 i hi) E.le) (getD_both hu) (h2 i hi);omega
theorem OpsOk.zero:OpsOk P ops deps T a0 w0 0:=fun i _ hi=>by omega
theorem OpsOk.succ {l:List Oper}{o:Oper}(dep:List Nat) (h:OpsOk P l.toArray deps T a0 w0 n) (ho:l[n]? = some o) (hdep:deps.getD n []=dep) (h1:OpOk P l.toArray T a0 w0 n o dep):OpsOk P l.toArray deps T a0 w0 (n+1):=fun i o' hi ho'=>by
 by_cases hin:i=n
 ·subst hin;rw[List.getElem?_toArray] at ho';have:o'=o:=Option.some.inj (ho'.symm.trans ho);subst this;rw[hdep];exact h1
 ·exact h i o' (by omega) ho'
end
end Go.Proofs.YtfpkpnkdnammnaaGreatDoor
