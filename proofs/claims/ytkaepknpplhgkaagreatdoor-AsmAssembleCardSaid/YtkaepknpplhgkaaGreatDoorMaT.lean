import Derived.Test.YtkaepknpplhgkaaGreatDoorReg
import Derived.Deep.MidRow
namespace Go.Proofs.YtkaepknpplhgkaaGreatDoor
open Go.RowKit

structure Keep (G:Nat→Prop) (w w':World):Prop where
 os:w'.os=w.os
 tape:w'.tape=w.tape
 output:w'.output=w.output
 size:w.heap.size≤w'.heap.size
 block:∀k,k<w.heap.size→¬G k→w'.heap[k]? = w.heap[k]?
theorem Keep.refl (G:Nat→Prop) (w:World):Keep G w w:=⟨rfl,rfl,rfl,Nat.le_refl _,fun _ _ _=>rfl⟩
theorem Keep.trans {G:Nat→Prop}{a b c:World}(h:Keep G a b) (k:Keep G b c):Keep G a c :=
 ⟨k.os.trans h.os,k.tape.trans h.tape,k.output.trans h.output,Nat.le_trans h.size k.size,fun i hi hg=>(k.block i (Nat.lt_of_lt_of_le hi h.size) hg).trans (h.block i hi hg)⟩
theorem Keep.mono {G G':Nat→Prop}{w w':World}(h:Keep G w w') (hG:∀k,k<w.heap.size→G k→G' k):Keep G' w w' :=
 ⟨h.os,h.tape,h.output,h.size,fun k hk hn=>h.block k hk fun hg=>hn (hG k hk hg)⟩
theorem Keep.drew {G:Nat→Prop}{a w:World}(h:Keep G a w):Keep G a w.drew:=⟨h.os,h.tape,h.output,h.size,h.block⟩
theorem Keep.ext {w w':World}(h:Keep (fun _=>False) w w'):Ext w w':=⟨h.os,h.tape,h.output,h.size,fun k hk=>h.block k hk id⟩
theorem Keep.of_ext {G:Nat→Prop}{w w':World}(h:Ext w w'):Keep G w w':=⟨h.os,h.tape,h.output,Below.size h,fun k hk _=>Below.block h k hk⟩
theorem Keep.alloc {G:Nat→Prop}{a w:World}(h:Keep G a w) (o:Obj):Keep G a (w.alloc o) :=
 h.trans (Keep.of_ext (Ext.alloc (Ext.refl w) o))

section
variable {P:Program}{ops:Array Oper}{Q:Exit→Act→World→Prop}

def Ch (P:Program) (o:Oper) (a:Act) (w:World) (R:Value→World→Prop):Prop :=
 match (execOp a.eval o).run P w with
 | .ok (.value v) w'=>R v w'
 | .ok .skip w'=>R undef w'
 | .ok (.enter f args) w'=>Calls P f args w' fun e w''=>∃v,e=.returned v∧R v w''
 | _=>False
theorem Ch.wp {o:Oper}{a:Act}{w:World}{R:Value→World→Prop}{K:Act→World→Prop}(h:Ch P o a w R) (hK:∀v w',R v w'→K (a.put o.dst v) w'):o.wp P a w K Q:=by
 unfold Ch at h;unfold Oper.wp;generalize (execOp a.eval o).run P w=r at *
 cases r with
 | ok n w' =>
  cases n<;>simp only[Oper.upon] at h ⊢
  case value v=>exact hK _ _ h
  case skip=>exact hK _ _ h
  case enter f args=>exact h.mono fun e w'' ⟨v,he,hr⟩=>by subst he;exact hK _ _ hr
 | halt x w'=>exact h.elim
theorem Ch.mono {o:Oper}{a:Act}{w:World}{R R':Value→World→Prop}(h:Ch P o a w R) (hR:∀v w',R v w'→R' v w'):Ch P o a w R':=by
 unfold Ch at *;generalize (execOp a.eval o).run P w=r at *
 cases r with
 | ok n w' =>
  cases n<;>simp only at h ⊢
  case value v=>exact hR _ _ h
  case skip=>exact hR _ _ h
  case enter f args=>exact h.mono fun e w'' ⟨v,he,hr⟩=>⟨v,he,hR _ _ hr⟩
 | halt x w'=>exact h.elim
theorem Ch.ex {o:Oper}{a:Act}{w:World}{R:Value→World→Prop}(h:Ch P o a w R):∃v w',R v w':=by
 unfold Ch at h;generalize (execOp a.eval o).run P w=r at *
 cases r with
 | ok n w' =>
  cases n<;>simp only at h
  case value v=>exact⟨_,_,h⟩
  case skip=>exact⟨_,_,h⟩
  case enter f args=>obtain⟨e,w'',_,⟨v,_,hr⟩,_⟩:=h [];exact⟨_,_,hr⟩
 | halt x w'=>exact h.elim
def Yl (P:Program) (o:Oper) (a:Act) (w:World) (v:Value):Prop:=(execOp a.eval o).run P w=.ok (.value v) w
theorem Yl.ch {o:Oper}{a:Act}{w:World}{v:Value}(h:Yl P o a w v):Ch P o a w fun v' w'=>v'=v∧w'=w:=by
 unfold Ch Yl at *;rw[h];exact⟨rfl,rfl⟩
theorem Yl.uniq {o:Oper}{a:Act}{w:World}{v u:Value}(h:Yl P o a w v) (k:Yl P o a w u):v=u:=by
 unfold Yl at *;rw[h] at k;cases k;rfl

inductive Kd|free|chain|new
deriving DecidableEq
def kd (o:Oper):Kd:=match o.op with
 | .alloc _|.box ..|.buildSlice ..|.makeSlice ..=>.new
 | .move _|.assign _|.pick ..|.nilCheck _|.binOp ..|.unOp ..|.convert ..|.fieldAddr ..|.field ..|.indexAddr ..|.index ..|.extract ..|.slice ..|.build ..|.load ..|.makeInterface ..|.makeFunc ..|.lookup ..|.typeAssert ..=>.free
 | .call { callee:=.builtin .len,.. }|.call { callee:=.builtin .cap,.. }|.call { callee:=.builtin .min,.. }|.call { callee:=.builtin .max,.. }=>.free
 | _=>.chain
def tY (S:World→Prop):Prop:=∀w ob,S w→S (w.alloc ob)
theorem tY.and {S:World→Prop}(h:tY S) (g:Nat) (ob:Obj):tY fun w=>S w∧w.heap[g]? = some ob:=fun w o ⟨h1,h2⟩ =>
 ⟨h w o h1,(Below.heap_alloc w o g (Array.getElem?_eq_some_iff.1 h2).1).trans h2⟩

def sG (P:Program) (ops:Array Oper) (J:World→Prop) (Q:Exit→Act→World→Prop):List Nat→(Nat→Prop)→(World→Prop)→Act→Prop
 | [],_,S,a=>∀w,S w→J w→Q .normal a w
 | i::r,G,S,a=>∃o,ops[i]? = some o∧(∀cs b,o.op≠.select cs b) ∧
   ((Region.wanted o (yielded ops a.tmps)=false∧sG P ops J Q r G S (a.put o.dst undef)) ∨
    (Region.wanted o (yielded ops a.tmps)=true ∧
     ((kd o=.free∧∃v,(∀w,J w→Yl P o a w v)∧sG P ops J Q r G S (a.put o.dst v)) ∨
     (kd o=.new∧∃(ob:Obj) (f:Nat→Value),(∀w,(execOp a.eval o).run P w=.ok (.value (f w.heap.size)) (w.alloc ob)) ∧
      ∀g,¬G g→sG P ops J Q r (fun k=>k=g∨G k) (fun w=>S w∧w.heap[g]? = some ob) (a.put o.dst (f g))) ∨
     (kd o=.chain∧∀w,S w→J w→Ch P o a w fun v w'=>Keep G w w'∧J w'∧∃(S':World→Prop) (N:Nat→Prop),(∀k,N k→w.heap.size≤k∧k<w'.heap.size)∧tY S'∧S' w'∧sG P ops J Q r (fun k=>N k∨G k) S' (a.put o.dst v)))))
variable {J:World→Prop}
theorem nW:∀{l:List Nat}{G:Nat→Prop}{S S1:World→Prop}{a:Act},(∀w,S1 w→S w)→sG P ops J Q l G S a→sG P ops J Q l G S1 a
 | [],G,S,S1,a,h,hs=>fun w h1 hj=>hs w (h w h1) hj
 | i::r,G,S,S1,a,h,⟨o,ho,hsel,hs⟩=>⟨o,ho,hsel,by
  rcases hs with ⟨hw,hs⟩|⟨hw,⟨hk,v,hy,hs⟩|⟨hk,ob,f,hr,hs⟩|⟨hk,hs⟩⟩
  ·exact .inl ⟨hw,nW h hs⟩
  ·exact .inr ⟨hw,.inl ⟨hk,v,hy,nW h hs⟩⟩
  ·exact .inr ⟨hw,.inr (.inl ⟨hk,ob,f,hr,fun g hg=>nW (fun w ⟨h1,h2⟩=>⟨h w h1,h2⟩) (hs g hg)⟩)⟩
  ·exact .inr ⟨hw,.inr (.inr ⟨hk,fun w h1 hj=>hs w (h w h1) hj⟩)⟩⟩

def kdOk:Kd→Kd→Bool
 | .free,_=>true
 | .new,.chain=>false
 | .new,_=>true
 | .chain,.chain=>false
 | .chain,_=>true
def comm (ops:Array Oper) (x y:Nat):Bool :=
 match ops[x]?,ops[y]? with
 | some ox,some oy=>ox.apart ops oy&&kdOk (kd ox) (kd oy)
 | _,_=>false
theorem comm_spec {x y:Nat}(h:comm ops x y=true):∃ox oy,ops[x]? = some ox∧ops[y]? = some oy∧ox.apart ops oy=true∧kdOk (kd ox) (kd oy)=true:=by
 unfold comm at h
 split at h
 ·rename_i ox oy hx hy;simp only[Bool.and_eq_true] at h;exact⟨ox,oy,hx,hy,h.1,h.2⟩
 ·cases h
def Frees (P:Program) (ops:Array Oper) (J:World→Prop) (o:Oper) (a:Act) (v:Value):Prop :=
 (Region.wanted o (yielded ops a.tmps)=false∧v=undef)∨(Region.wanted o (yielded ops a.tmps)=true∧kd o=.free∧∀w,J w→Yl P o a w v)
theorem Frees.uniq {o:Oper}{a:Act}{v u:Value}(hj:∃w,J w) (h:Frees P ops J o a v) (k:Frees P ops J o a u):v=u:=by
 obtain⟨w,hw⟩:=hj;rcases h with ⟨h1,rfl⟩|⟨h1,_,h2⟩<;>rcases k with ⟨k1,rfl⟩|⟨k1,_,k2⟩
 ·rfl
 ·rw[h1] at k1;cases k1
 ·rw[h1] at k1;cases k1
 ·exact (h2 w hw).uniq (k2 w hw)
theorem Yl.put {x y:Oper}{a:Act}{w:World}{u v:Value}(hsel:∀cs b,y.op≠.select cs b) (h1:∀d,x.dst=some d→d∉y.looksAt ops):Yl P y (a.put x.dst u) w v↔Yl P y a w v:=by
 unfold Yl;rw[execOp_put y hsel a x.dst u h1]
theorem Ch.put {x y:Oper}{a:Act}{w:World}{u:Value}{R:Value→World→Prop}(hsel:∀cs b,y.op≠.select cs b) (h1:∀d,x.dst=some d→d∉y.looksAt ops):Ch P y (a.put x.dst u) w R↔Ch P y a w R:=by
 unfold Ch;rw[execOp_put y hsel a x.dst u h1]
theorem Frees.put {x y:Oper}{a:Act}{u v:Value}(hsel:∀cs b,y.op≠.select cs b) (h1:∀d,x.dst=some d→d∉y.looksAt ops):Frees P ops J y (a.put x.dst u) v↔Frees P ops J y a v:=by
 unfold Frees;rw[wanted_put y a x.dst u h1];simp only[Yl.put (P:=P) (ops:=ops) (a:=a) (u:=u) hsel h1]
theorem pullF (hj:∃w,J w) {i:Nat}{oi:Oper}{u:Value}(hi:ops[i]? = some oi) (hsel:∀cs b,oi.op≠.select cs b) {q:List Nat}:∀{p:List Nat}{G:Nat→Prop}{S:World→Prop}{a:Act},
  (∀x∈p,comm ops x i=true)→Frees P ops J oi a u→sG P ops J Q (p++i::q) G S a→sG P ops J Q (p++q) G S (a.put oi.dst u)
 | [],G,S,a,_,hf,⟨o,ho,hso,hs⟩=>by
  have:o=oi:=Option.some.inj (ho.symm.trans hi);subst this;rcases hf with ⟨h1,rfl⟩|⟨h1,hk,hy⟩
  ·rcases hs with ⟨_,hs⟩|⟨hw,_⟩
   ·exact hs
   ·rw[h1] at hw;cases hw
  ·rcases hs with ⟨hw,_⟩|⟨_,⟨_,v,hy',hs⟩|⟨hk',_⟩|⟨hk',_⟩⟩
   ·rw[h1] at hw;cases hw
   ·obtain⟨w,hw⟩:=hj;have:u=v:=(hy w hw).uniq (hy' w hw);subst this;exact hs
   ·rw[hk] at hk';cases hk'
   ·rw[hk] at hk';cases hk'
 | x::p,G,S,a,hc,hf,⟨o,ho,hso,hs⟩=>by
  obtain⟨ox,oy,hx,hy,hap,_⟩:=comm_spec (hc x (List.mem_cons_self ..));have e1:ox=o:=Option.some.inj (hx.symm.trans ho);have e2:oy=oi:=Option.some.inj (hy.symm.trans hi);subst e1;subst e2;obtain⟨h1,h2,h3⟩:=Oper.apart_spec hap;have hcp:∀x∈p,comm ops x i=true:=fun y hy=>hc y (List.mem_cons_of_mem _ hy)
  have key:∀{G:Nat→Prop} {S:World→Prop} {v:Value},sG P ops J Q (p++i::q) G S (a.put ox.dst v)→sG P ops J Q (p++q) G S ((a.put oy.dst u).put ox.dst v):=fun {G S v} hh=>by
   have:=pullF hj hi hsel hcp ((Frees.put (P:=P) (J:=J) (a:=a) (u:=v) hsel h1).2 hf) hh
   rwa [Act.put_comm a v u h2] at this
  have hw':=wanted_put (ops:=ops) ox a oy.dst u h3;refine⟨ox,ho,hso,?_⟩;rw[hw',execOp_put (ops:=ops) ox hso a oy.dst u h3];simp only[Yl.put (P:=P) (ops:=ops) (a:=a) (u:=u) hso h3,Ch.put (P:=P) (ops:=ops) (a:=a) (u:=u) hso h3];rcases hs with ⟨hw,hs⟩|⟨hw,⟨hk,v,hy,hs⟩|⟨hk,ob,f,hr,hs⟩|⟨hk,hs⟩⟩
  ·exact .inl ⟨hw,key hs⟩
  ·exact .inr ⟨hw,.inl ⟨hk,v,hy,key hs⟩⟩
  ·exact .inr ⟨hw,.inr (.inl ⟨hk,ob,f,hr,fun g hg=>key (hs g hg)⟩)⟩
  ·exact .inr ⟨hw,.inr (.inr ⟨hk,fun w h1 hj=>(hs w h1 hj).mono fun v w' ⟨k1,k2,S',N,kn,k3,k4,k5⟩=>⟨k1,k2,S',N,kn,k3,k4,key k5⟩⟩)⟩
inductive Known (P:Program) (ops:Array Oper) (J:World→Prop) (o:Oper) (a:Act):Prop
 | free (v:Value) (h:Frees P ops J o a v)
 | new (hw:Region.wanted o (yielded ops a.tmps)=true) (hk:kd o=.new) (ob:Obj) (f:Nat→Value) (h:∀w,(execOp a.eval o).run P w=.ok (.value (f w.heap.size)) (w.alloc ob))
 | chain (hw:Region.wanted o (yielded ops a.tmps)=true) (hk:kd o=.chain)
theorem Known.put {x y:Oper}{a:Act}{u:Value}(hsel:∀cs b,y.op≠.select cs b) (h1:∀d,x.dst=some d→d∉y.looksAt ops) (h:Known P ops J y (a.put x.dst u)):Known P ops J y a:=by
 have hw:=wanted_put (ops:=ops) y a x.dst u h1;rcases h with ⟨v,h⟩|⟨h0,hk,ob,f,h⟩|⟨h0,hk⟩
 ·exact .free v ((Frees.put (P:=P) (J:=J) (a:=a) (u:=u) hsel h1).1 h)
 ·rw[execOp_put (ops:=ops) y hsel a x.dst u h1] at h;exact .new (by rw[← hw];exact h0) hk ob f h
 ·exact .chain (by rw[← hw];exact h0) hk
structure Here (G:Nat→Prop) (S J:World→Prop) (w:World):Prop where
 s:S w
 j:J w
 ss:tY S
 js:tY J
 g:∀k,G k→k<w.heap.size
theorem known {i:Nat}{oi:Oper}(hi:ops[i]? = some oi) {q:List Nat}:∀{p:List Nat}{G:Nat→Prop}{S:World→Prop}{a:Act}{w:World},(∀x∈p,comm ops x i=true) →
  Here G S J w→sG P ops J Q (p++i::q) G S a→Known P ops J oi a∧(∀cs b,oi.op≠.select cs b)
 | [],G,S,a,w,_,hh,⟨o,ho,hso,hs⟩=>by
  have:o=oi:=Option.some.inj (ho.symm.trans hi);subst this;refine⟨?_,hso⟩;rcases hs with ⟨hw,hs⟩|⟨hw,⟨hk,v,hy,hs⟩|⟨hk,ob,f,hr,hs⟩|⟨hk,hs⟩⟩
  ·exact .free undef (.inl ⟨hw,rfl⟩)
  ·exact .free v (.inr ⟨hw,hk,hy⟩)
  ·exact .new hw hk ob f hr
  ·exact .chain hw hk
 | x::p,G,S,a,w,hc,hh,⟨o,ho,hso,hs⟩=>by
  obtain⟨ox,oy,hx,hy,hap,_⟩:=comm_spec (hc x (List.mem_cons_self ..));have e1:ox=o:=Option.some.inj (hx.symm.trans ho);have e2:oy=oi:=Option.some.inj (hy.symm.trans hi);subst e1;subst e2;obtain⟨h1,h2,h3⟩:=Oper.apart_spec hap;have hcp:∀x∈p,comm ops x i=true:=fun y hy=>hc y (List.mem_cons_of_mem _ hy)
  have fin:∀{G:Nat→Prop} {S:World→Prop} {v:Value} {w:World},Here G S J w→sG P ops J Q (p++i::q) G S (a.put ox.dst v)→Known P ops J oy a∧(∀cs b,oy.op≠.select cs b):=fun {G S v w} h k=>by
   obtain⟨k1,k2⟩:=known hi hcp h k;exact⟨k1.put k2 h1,k2⟩
  rcases hs with ⟨hw,hs⟩|⟨hw,⟨hk,v,hy,hs⟩|⟨hk,ob,f,hr,hs⟩|⟨hk,hs⟩⟩
  ·exact fin hh hs
  ·exact fin hh hs
  ·have hg:¬G w.heap.size:=fun h=>absurd (hh.g _ h) (by omega);refine fin (w:=w.alloc ob) ⟨⟨hh.ss w ob hh.s,heap_alloc_new w ob⟩,hh.js w ob hh.j,hh.ss.and _ _,hh.js,fun k hk=>?_⟩ (hs w.heap.size hg);rcases hk with rfl|hk
   ·simp
   ·have:=hh.g k hk;simp;omega
  ·obtain⟨v,w',k1,k2,S',N,kn,k3,k4,k5⟩:=(hs w hh.s hh.j).ex;exact fin (w:=w') ⟨k4,k2,k3,hh.js,fun k hk=>hk.elim (fun h=>(kn k h).2) fun h=>Nat.lt_of_lt_of_le (hh.g k h) k1.size⟩ k5
theorem pullN {i:Nat}{oi:Oper}{ob:Obj}{f:Nat→Value}(hi:ops[i]? = some oi) (hsel:∀cs b,oi.op≠.select cs b) (hki:kd oi=.new) {q:List Nat}{g:Nat}:∀{p:List Nat}{G:Nat→Prop}{S:World→Prop}{a:Act},
  (∀x∈p,comm ops x i=true)→Region.wanted oi (yielded ops a.tmps)=true→(∀w,(execOp a.eval oi).run P w=.ok (.value (f w.heap.size)) (w.alloc ob))→¬G g→sG P ops J Q (p++i::q) G S a →
  sG P ops J Q (p++q) (fun k=>k=g∨G k) (fun w=>S w∧w.heap[g]? = some ob) (a.put oi.dst (f g))
 | [],G,S,a,_,hwt,hrun,hg,⟨o,ho,hso,hs⟩=>by
  have:o=oi:=Option.some.inj (ho.symm.trans hi);subst this;rcases hs with ⟨hw,hs⟩|⟨hw,⟨hk,v,hy,hs⟩|⟨hk,ob',f',hr,hs⟩|⟨hk,hs⟩⟩
  ·rw[hwt] at hw;cases hw
  ·rw[hki] at hk;cases hk
  ·have hb:∀w:World,f w.heap.size=f' w.heap.size∧w.alloc ob=w.alloc ob':=fun w=>by
    have:=(hrun w).symm.trans (hr w);injection this with h1 h2;injection h1 with h1;exact⟨h1,h2⟩
   have e1:f g=f' g:=by
    have:=(hb { (default:World) with heap:=Array.replicate g default }).1
    simpa using this
   have e2:ob=ob':=by
    have h3:=(hb default).2;have h1:=heap_alloc_new (default:World) ob;rw[h3,heap_alloc_new] at h1;exact (Option.some.inj h1).symm
   subst e2;rw[e1];exact hs g hg
  ·rw[hki] at hk;cases hk
 | x::p,G,S,a,hc,hwt,hrun,hg,⟨o,ho,hso,hs⟩=>by
  obtain⟨ox,oy,hx,hy,hap,_⟩:=comm_spec (hc x (List.mem_cons_self ..));have e1:ox=o:=Option.some.inj (hx.symm.trans ho);have e2:oy=oi:=Option.some.inj (hy.symm.trans hi);subst e1;subst e2;obtain⟨h1,h2,h3⟩:=Oper.apart_spec hap;have hcp:∀x∈p,comm ops x i=true:=fun y hy=>hc y (List.mem_cons_of_mem _ hy)
  have key:∀{G:Nat→Prop} {S:World→Prop} {v:Value},¬G g→sG P ops J Q (p++i::q) G S (a.put ox.dst v)→sG P ops J Q (p++q) (fun k=>k=g∨G k) (fun w=>S w∧w.heap[g]? = some ob) ((a.put oy.dst (f g)).put ox.dst v):=fun {G S v} hg hh=>by
   have:=pullN (a:=a.put ox.dst v) hi hsel hki hcp (by rw[wanted_put (ops:=ops) oy a ox.dst v h1];exact hwt) (by rw[execOp_put (ops:=ops) oy hsel a ox.dst v h1];exact hrun) hg hh
   rwa [Act.put_comm a v (f g) h2] at this
  refine⟨ox,ho,hso,?_⟩;rw[wanted_put (ops:=ops) ox a oy.dst (f g) h3,execOp_put (ops:=ops) ox hso a oy.dst (f g) h3];simp only[Yl.put (P:=P) (ops:=ops) (a:=a) (u:=f g) hso h3,Ch.put (P:=P) (ops:=ops) (a:=a) (u:=f g) hso h3];rcases hs with ⟨hw,hs⟩|⟨hw,⟨hk,v,hy,hs⟩|⟨hk,ob1,f1,hr,hs⟩|⟨hk,hs⟩⟩
  ·exact .inl ⟨hw,key hg hs⟩
  ·exact .inr ⟨hw,.inl ⟨hk,v,hy,key hg hs⟩⟩
  ·refine .inr ⟨hw,.inr (.inl ⟨hk,ob1,f1,hr,fun g1 hg1=>?_⟩)⟩;have:=key (G:=fun k=>k=g1∨G k) (fun h=>h.elim (fun e=>hg1 (.inl e.symm)) hg) (hs g1 (fun h=>hg1 (.inr h)))
   have hG:(fun k=>k=g∨k=g1∨G k)=(fun k=>k=g1∨k=g∨G k):=by
    funext k;exact propext or_left_comm
   rw[hG] at this;exact nW (fun w ⟨⟨h1,h2⟩,h3⟩=>⟨⟨h1,h3⟩,h2⟩) this
  ·refine .inr ⟨hw,.inr (.inr ⟨hk,fun w ⟨h1,hb⟩ hj=>(hs w h1 hj).mono fun v w' ⟨k1,k2,S',N,kn,k3,k4,k5⟩=>⟨k1.mono fun _ _ h=>.inr h,k2,fun w=>S' w∧w.heap[g]? = some ob,N,kn,k3.and _ _,⟨k4,?_⟩,?_⟩⟩)⟩
   ·rw[k1.block g (Array.getElem?_eq_some_iff.1 hb).1 hg];exact hb
   ·have hgs:=(Array.getElem?_eq_some_iff.1 hb).1;have:=key (G:=fun k=>N k∨G k) (fun h=>h.elim (fun h=>by have:=(kn g h).1;omega) hg) k5
    have hG:(fun k=>k=g∨N k∨G k)=(fun k=>N k∨k=g∨G k):=by
     funext k;exact propext or_left_comm
    rw[hG] at this;exact this
theorem pullC {i:Nat}{oi:Oper}(hi:ops[i]? = some oi) (hsel:∀cs b,oi.op≠.select cs b) (hki:kd oi=.chain) {q:List Nat}:∀{p:List Nat}{G:Nat→Prop}{S:World→Prop}{a:Act},
  (∀x∈p,comm ops x i=true)→Region.wanted oi (yielded ops a.tmps)=true→sG P ops J Q (p++i::q) G S a →
  ∀w,S w→J w→Ch P oi a w fun v w'=>Keep G w w'∧J w'∧∃(S':World→Prop) (N:Nat→Prop),(∀k,N k→w.heap.size≤k∧k<w'.heap.size)∧tY S'∧S' w'∧sG P ops J Q (p++q) (fun k=>N k∨G k) S' (a.put oi.dst v)
 | [],G,S,a,_,hwt,⟨o,ho,hso,hs⟩=>by
  have:o=oi:=Option.some.inj (ho.symm.trans hi);subst this;rcases hs with ⟨hw,hs⟩|⟨hw,⟨hk,v,hy,hs⟩|⟨hk,ob',f',hr,hs⟩|⟨hk,hs⟩⟩
  ·rw[hwt] at hw;cases hw
  ·rw[hki] at hk;cases hk
  ·rw[hki] at hk;cases hk
  ·exact hs
 | x::p,G,S,a,hc,hwt,⟨o,ho,hso,hs⟩=>by
  obtain⟨ox,oy,hx,hy,hap,hkk⟩:=comm_spec (hc x (List.mem_cons_self ..));have e1:ox=o:=Option.some.inj (hx.symm.trans ho);have e2:oy=oi:=Option.some.inj (hy.symm.trans hi);subst e1;subst e2;obtain⟨h1,h2,h3⟩:=Oper.apart_spec hap;have hcp:∀x∈p,comm ops x i=true:=fun y hy=>hc y (List.mem_cons_of_mem _ hy)
  have key:∀{u:Value},sG P ops J Q (p++i::q) G S (a.put ox.dst u)→Frees P ops J ox a u→∀w,S w→J w→Ch P oy a w fun v w'=>Keep G w w'∧J w'∧∃(S':World→Prop) (N:Nat→Prop),(∀k,N k→w.heap.size≤k∧k<w'.heap.size)∧tY S'∧S' w'∧sG P ops J Q (x::p++q) (fun k=>N k∨G k) S' (a.put oy.dst v):=fun {u} hh hf w hS hJ=>by
   have:=pullC (a:=a.put ox.dst u) hi hsel hki hcp (by rw[wanted_put (ops:=ops) oy a ox.dst u h1];exact hwt) hh w hS hJ;rw[Ch.put (P:=P) (ops:=ops) (a:=a) (u:=u) hsel h1] at this;refine this.mono fun v w' ⟨k1,k2,S',N,kn,k3,k4,k5⟩=>⟨k1,k2,S',N,kn,k3,k4,ox,hx,hso,?_⟩;rw[Act.put_comm a u v h2] at k5;rw[wanted_put (ops:=ops) ox a oy.dst v h3];rcases hf with ⟨e1,rfl⟩|⟨e1,ek,ey⟩
   ·exact .inl ⟨e1,k5⟩
   ·exact .inr ⟨e1,.inl ⟨ek,u,fun w hw=>(Yl.put (P:=P) (ops:=ops) (a:=a) (u:=v) hso h3).2 (ey w hw),k5⟩⟩
  rcases hs with ⟨hw,hs⟩|⟨hw,⟨hk,v,hy,hs⟩|⟨hk,ob1,f1,hr,hs⟩|⟨hk,hs⟩⟩
  ·exact key hs (.inl ⟨hw,rfl⟩)
  ·exact key hs (.inr ⟨hw,hk,hy⟩)
  ·rw[hk,hki] at hkk;cases hkk
  ·rw[hk,hki] at hkk;cases hkk

def ancB (ops:Array Oper) (c:Array Nat) (j i:Nat):Bool :=
 match ops[j]? with
 | some o=>o.after.any fun e=>Region.binds .any e&&decide (e.on<j)&&(e.on==i||(decide (i<e.on)&&(c.getD e.on 0).testBit i))
 | none=>false
def sD (f:Nat→Nat→Bool):List Nat→Bool
 | []=>true
 | x::r=>r.all (f x)&&sD f r
def sC (ops:Array Oper) (c:Array Nat) (x y:Nat):Bool:=x != y&&((decide (x<y)&&(c.getD y 0).testBit x)||comm ops x y)
def lowerB (ops:Array Oper):Bool:=(List.range ops.size).all fun i=>match ops[i]? with|some o=>o.after.all fun e=>!Region.binds .any e||decide (e.on<i)|none=>true
def okB (ops:Array Oper) (σ:List Nat):Bool :=
 let c:=Region.before ops
 ((List.range ops.size).all fun j=>(List.range j).all fun i=>!(c.getD j 0).testBit i||ancB ops c j i) &&
 σ.all (fun i=>decide (i<ops.size))&&(List.range ops.size).all (fun i=>σ.contains i)&&sD (sC ops c) σ&&lowerB ops
theorem pairsB_at {f:Nat→Nat→Bool}:∀{p q:List Nat}{y:Nat},sD f (p++y::q)=true→(∀x∈p,f x y=true)∧(∀z∈q,f y z=true)∧sD f (p++q)=true
 | [],q,y,h=>by
  simp only[List.nil_append,sD,Bool.and_eq_true,List.all_eq_true] at h;exact⟨fun x hx=>(by cases hx),h.1,by simpa using h.2⟩
 | x::p,q,y,h=>by
  simp only[List.cons_append,sD,Bool.and_eq_true,List.all_eq_true] at h;obtain⟨h1,h2,h3⟩:=pairsB_at h.2;refine⟨fun z hz=>?_,h2,?_⟩
  ·rcases List.mem_cons.1 hz with rfl|hz
   ·exact h.1 y (by simp)
   ·exact h1 z hz
  ·simp only[List.cons_append,sD,Bool.and_eq_true,List.all_eq_true];refine⟨fun z hz=>h.1 z ?_,h3⟩;rcases List.mem_append.1 hz with hz|hz<;>simp[hz]
structure Ok (ops:Array Oper) (σ:List Nat):Prop where
 anc:∀j,j<ops.size→∀i,i<j→((Region.before ops).getD j 0).testBit i=true→ancB ops (Region.before ops) j i=true
 lt:∀i∈σ,i<ops.size
 all:∀i,i<ops.size→i∈σ
 pairs:sD (sC ops (Region.before ops)) σ=true
 lower:∀i o,ops[i]? = some o→∀e∈o.after,Region.binds .any e=true→e.on<i
theorem okB_ok {σ:List Nat}(h:okB ops σ=true):Ok ops σ:=by
 unfold okB lowerB at h;simp only[Bool.and_eq_true,decide_eq_true_eq,List.all_eq_true,List.mem_range] at h;obtain⟨⟨⟨⟨h1,h2⟩,h3⟩,h4⟩,h5⟩:=h;refine⟨fun j hj i hi hb=>?_,h2,fun i hi=>by simpa using h3 i hi,h4,fun i o ho e he hb=>?_⟩
 ·have:=h1 j hj i hi;simp only[Bool.or_eq_true,Bool.not_eq_true'] at this;rcases this with h|h
  ·rw[hb] at h;cases h
  ·exact h
 ·have:=h5 i (Array.getElem?_eq_some_iff.1 ho).1;rw[ho] at this;have:=Array.all_eq_true_iff_forall_mem.1 this e he
  simpa [hb] using this
theorem anc_listed {σ:List Nat}(hok:Ok ops σ) {listed:Array Bool}(hcl:∀j o,ops[j]? = some o→listed.getD j false=true→∀e∈o.after,Region.binds .any e=true→listed.getD e.on false=true) :
  ∀(j:Nat),j<ops.size→(∀o,ops[j]? = some o→∀e∈o.after,Region.binds .any e=true→listed.getD e.on false=true)→∀i,i<j→((Region.before ops).getD j 0).testBit i=true→listed.getD i false=true:=by
 intro j
 induction j using Nat.strongRecOn with
 | _ j ih =>
  intro hj hd i hi hb;have:=hok.anc j hj i hi hb;unfold ancB at this
  split at this
  ·rename_i o ho;obtain⟨e,he,hc⟩:=Array.any_eq_true'.1 this;simp only[Bool.and_eq_true,Bool.or_eq_true,decide_eq_true_eq,beq_iff_eq] at hc;obtain⟨⟨hbd,hlt⟩,hc⟩:=hc;have hl:=hd o ho e he hbd;rcases hc with hc|⟨hc1,hc⟩
   ·rw[← hc];exact hl
   ·exact ih e.on hlt (by omega) (fun o' ho' e' he' hb'=>hcl e.on o' ho' hl e' he' hb') i hc1 hc
  ·cases this
structure Inv (ops:Array Oper) (listed:Array Bool) (R:List Nat):Prop where
 size:listed.size=ops.size
 closed:∀j o,ops[j]? = some o→listed.getD j false=true→∀e∈o.after,Region.binds .any e=true→listed.getD e.on false=true
 mem:∀i,i∈R↔i<ops.size∧listed.getD i false=false
 pairs:sD (sC ops (Region.before ops)) R=true
theorem pick {σ:List Nat}(hok:Ok ops σ) {listed:Array Bool}{R:List Nat}{i:Nat}(inv:Inv ops listed R) (hr:i∈Region.ready .any ops listed) :
  ∃p q,R=p++i::q∧(∀x∈p,comm ops x i=true)∧Inv ops (listed.setIfInBounds i true) (p++q):=by
 obtain⟨hun,o,ho,hall⟩:=mem_ready.1 hr;have hi:i<ops.size:=(Array.getElem?_eq_some_iff.1 ho).1;have hil:i<listed.size:=by rw[inv.size];exact hi
 obtain⟨p,q,rfl⟩:=List.append_of_mem ((inv.mem i).2 ⟨hi,getD_both hun⟩);obtain⟨h1,h2,h3⟩:=pairsB_at inv.pairs;refine⟨p,q,rfl,fun x hx=>?_,by simp[inv.size],?_,fun j=>?_,h3⟩
 ·have:=h1 x hx;unfold sC at this;simp only[Bool.and_eq_true,Bool.or_eq_true,decide_eq_true_eq] at this;rcases this.2 with ⟨hlt,hb⟩|h
  ·have hl:=anc_listed hok inv.closed i hi (fun o' ho'=>by have:o'=o:=Option.some.inj (ho'.symm.trans ho);subst this;exact hall) x hlt hb;have:=((inv.mem x).1 (List.mem_append_left _ hx)).2;rw[hl] at this;cases this
  ·exact h
 ·intro j oj hj hl e he hb
  by_cases hij:i=j
  ·subst hij;have:oj=o:=Option.some.inj (hj.symm.trans ho);subst this;exact getD_set_true (hall e he hb)
  ·rw[getD_set_ne false hij] at hl;exact getD_set_true (inv.closed j oj hj hl e he hb)
 ·have hm:=inv.mem j
  by_cases hij:i=j
  ·subst hij;rw[getD_set_self hil]
   constructor
   ·intro h
    exfalso
    rcases List.mem_append.1 h with h|h
    ·have:=h1 i h;unfold sC at this;simp at this
    ·have:=h2 i h;unfold sC at this;simp at this
   ·intro h;cases h.2
  ·rw[getD_set_ne false hij,← hm]
   constructor
   ·intro h;rcases List.mem_append.1 h with h|h<;>simp[h]
   ·intro h;rcases List.mem_append.1 h with h|h
    ·exact List.mem_append_left _ h
    ·rcases List.mem_cons.1 h with h|h
     ·exact absurd h.symm hij
     ·exact List.mem_append_right _ h
theorem ready_some {σ:List Nat}(hok:Ok ops σ) {listed:Array Bool}(hsz:listed.size=ops.size):∀n,(∀i,i<ops.size-n→listed.getD i false=true)→(∃i,i<ops.size∧listed.getD i false=false)→n≤ops.size→Region.ready .any ops listed≠[]
 | 0,h,⟨i,hi,hu⟩,_=>by rw[h i (by omega)] at hu;cases hu
 | n+1,h,hx,hn=>by
  by_cases hl:listed.getD (ops.size-(n+1)) false=true
  ·refine ready_some hok hsz n (fun i hi=>?_) hx (by omega)
   by_cases he:i=ops.size-(n+1)
   ·rw[he];exact hl
   ·exact h i (by omega)
  ·intro he;have hlt:ops.size-(n+1)<ops.size:=by omega
   have:ops.size-(n+1)∈Region.ready .any ops listed:=mem_ready.2 ⟨getD_in (by rw[hsz];exact hlt) (by simpa using hl),ops[ops.size-(n+1)],Array.getElem?_eq_getElem hlt,fun e hm hb=>h _ (hok.lower _ _ (Array.getElem?_eq_getElem hlt) e hm hb)⟩;rw[he] at this;cases this
theorem seqS_any {σ:List Nat}(hok:Ok ops σ):∀(n:Nat) (listed:Array Bool) (R:List Nat) (G:Nat→Prop) (S:World→Prop) (a:Act) (w:World),R.length=n→Inv ops listed R→Here G S J w→sG P ops J Q R G S a→wpAny P .any ops Q n listed a w
 | 0,listed,R,G,S,a,w,hn,inv,hh,hs=>by
  have:R=[]:=List.eq_nil_of_length_eq_zero hn;subst this;refine⟨?_,hs w hh.s hh.j⟩;rcases hq:Region.ready .any ops listed with _|⟨i,r⟩
  ·rfl
  ·exfalso
   have hi:i∈Region.ready .any ops listed:=by rw[hq];exact List.mem_cons_self ..
   obtain⟨hun,o,ho,_⟩:=mem_ready.1 hi;have:=(inv.mem i).2 ⟨(Array.getElem?_eq_some_iff.1 ho).1,getD_both hun⟩;cases this
 | n+1,listed,R,G,S,a,w,hn,inv,hh,hs=>by
  refine⟨fun he=>?_,fun i hi=>?_⟩
  ·exfalso
   rcases R with _|⟨i,r⟩
   ·cases hn
   ·have:=(inv.mem i).1 (List.mem_cons_self ..);exact ready_some hok inv.size ops.size (fun i hi=>by omega) ⟨i,this⟩ (Nat.le_refl _) he
  ·obtain⟨p,q,rfl,hc,inv'⟩:=pick hok inv hi;obtain⟨hun,o,ho,hall⟩:=mem_ready.1 hi;have hlen:(p++q).length=n:=by simp at hn ⊢;omega
   obtain⟨hk,hsel⟩:=known ho hc hh hs;unfold wpOp;rw[ho];show if Region.wanted o (yielded ops a.tmps)=true then _ else _;rcases hk with ⟨v,hf⟩|⟨hw,hk,ob,f,hr⟩|⟨hw,hk⟩
   ·have hs':=pullF ⟨w,hh.j⟩ ho hsel hc hf hs;rcases hf with ⟨hw,rfl⟩|⟨hw,hk,hy⟩
    ·rw[if_neg (by rw[hw];exact Bool.false_ne_true)];exact seqS_any hok n _ _ G S _ w hlen inv' hh hs'
    ·rw[if_pos hw];exact .inl ((hy w hh.j).ch.wp fun v' w' ⟨h1,h2⟩=>by subst h1;subst h2;exact seqS_any hok n _ _ G S _ w' hlen inv' hh hs')
   ·rw[if_pos hw];have hg:¬G w.heap.size:=fun h=>absurd (hh.g _ h) (by omega);have hs':=pullN ho hsel hk hc hw hr hg hs;refine .inl (Ch.wp (R:=fun v' w'=>v'=f w.heap.size∧w'=w.alloc ob) ?_ fun v' w' ⟨h1,h2⟩=>?_)
    ·unfold Ch;rw[hr w];exact⟨rfl,rfl⟩
    ·subst h1;subst h2;refine seqS_any hok n _ _ _ _ _ _ hlen inv' ⟨⟨hh.ss w ob hh.s,heap_alloc_new w ob⟩,hh.js w ob hh.j,hh.ss.and _ _,hh.js,fun k hk=>?_⟩ hs';rcases hk with rfl|hk
     ·simp
     ·have:=hh.g k hk;simp;omega
   ·rw[if_pos hw]
    exact .inl ((pullC ho hsel hk hc hw hs w hh.s hh.j).wp fun v w' ⟨k1,k2,S',N,kn,k3,k4,k5⟩ =>
     seqS_any hok n _ _ _ S' _ w' hlen inv' ⟨k4,k2,k3,hh.js,fun k hk=>hk.elim (fun h=>(kn k h).2) fun h=>Nat.lt_of_lt_of_le (hh.g k h) k1.size⟩ k5)
theorem region_S {id:Nat}{a:Act}{w:World}{σ:List Nat}(hm:P.follows .mixedOrders=true) (hB:okB ops σ=true) (G:Nat→Prop) (S:World→Prop) (hS:tY S) (hJ:tY J) (h0:S w.drew) (hj:J w.drew) (hG:∀k,G k→k<w.heap.size)
  (h:sG P ops J Q σ G S a):(Code.region id ops true).wp P Q a w:=by
 have hok:=okB_ok hB;refine wp_region_any hm ?_;have hp:=hok.pairs
 have inv:Inv ops (Array.replicate ops.size false) σ:=by
  refine⟨by simp,fun j o _ hl=>(by rw[getD_replicate_false] at hl;cases hl),fun i=>?_,hok.pairs⟩;rw[getD_replicate_false];exact⟨fun h=>⟨hok.lt i h,rfl⟩,fun h=>hok.all i h.1⟩
 have hlen:σ.length=ops.size:=by
  have hnd:σ.Nodup:=by
   clear hB hj h0 hG h inv hok
   induction σ with
   | nil=>exact List.nodup_nil
   | cons x r ih =>
    simp only[sD,Bool.and_eq_true,List.all_eq_true] at hp;refine List.nodup_cons.2 ⟨fun hx=>?_,ih hp.2⟩;have:=hp.1 x hx;unfold sC at this;simp at this
  have h1:σ.Subset (List.range ops.size):=fun i hi=>List.mem_range.2 (hok.lt i hi);have h2:(List.range ops.size).Subset σ:=fun i hi=>hok.all i (List.mem_range.1 hi);have a1:=List.Nodup.length_le_of_subset hnd h1;have a2:=List.Nodup.length_le_of_subset List.nodup_range h2;simp at a1 a2;omega
 have:=seqS_any hok σ.length _ σ G S a w.drew rfl inv ⟨h0,hj,hS,hJ,hG⟩ h;rw[hlen] at this;exact this
def okT (ops:Array Oper) (n:Nat) (σ:List Nat):Bool :=
 let c:=Region.before ops
 decide (n<ops.size)&&Region.sinkB .any ops n&&Region.chainB .any ops n&&Region.seqB .any ops (ops.size-n) n (rL ops.size n) &&
 ((List.range n).all fun j=>(List.range j).all fun i=>!(c.getD j 0).testBit i||ancB ops c j i) &&
 σ.all (fun i=>decide (i<n))&&(List.range n).all (fun i=>σ.contains i)&&sD (sC ops c) σ&&lowerB ops
structure OkT (ops:Array Oper) (n:Nat) (σ:List Nat):Prop where
 le:n<ops.size
 sink:Region.sinkB .any ops n=true
 chn:Region.chainB .any ops n=true
 seq:Region.seqB .any ops (ops.size-n) n (rL ops.size n)=true
 anc:∀j,j<n→∀i,i<j→((Region.before ops).getD j 0).testBit i=true→ancB ops (Region.before ops) j i=true
 lt:∀i∈σ,i<n
 all:∀i,i<n→i∈σ
 pairs:sD (sC ops (Region.before ops)) σ=true
 lower:∀i o,ops[i]? = some o→∀e∈o.after,Region.binds .any e=true→e.on<i
theorem okT_ok {n:Nat}{σ:List Nat}(h:okT ops n σ=true):OkT ops n σ:=by
 unfold okT lowerB at h;simp only[Bool.and_eq_true,decide_eq_true_eq,List.all_eq_true,List.mem_range] at h;obtain⟨⟨⟨⟨⟨⟨⟨⟨h1,h2⟩,h3⟩,h4⟩,h5⟩,h6⟩,h7⟩,h8⟩,h9⟩:=h;refine⟨h1,h2,h3,h4,fun j hj i hi hb=>?_,h6,fun i hi=>by simpa using h7 i hi,h8,fun i o ho e he hb=>?_⟩
 ·have:=h5 j hj i hi;simp only[Bool.or_eq_true,Bool.not_eq_true'] at this;rcases this with h|h
  ·rw[hb] at h;cases h
  ·exact h
 ·have:=h9 i (Array.getElem?_eq_some_iff.1 ho).1;rw[ho] at this;have:=Array.all_eq_true_iff_forall_mem.1 this e he
  simpa [hb] using this
structure InvT (ops:Array Oper) (n:Nat) (listed:Array Bool) (R:List Nat):Prop where
 head:HeadInv .any ops n listed
 mem:∀i,i∈R↔i<n∧listed.getD i false=false
 pairs:sD (sC ops (Region.before ops)) R=true
theorem ancT_listed {n:Nat}{σ:List Nat}(hok:OkT ops n σ) {listed:Array Bool}(hcl:∀j o,ops[j]? = some o→listed.getD j false=true→∀e∈o.after,Region.binds .any e=true→listed.getD e.on false=true) :
  ∀(j:Nat),j<n→(∀o,ops[j]? = some o→∀e∈o.after,Region.binds .any e=true→listed.getD e.on false=true)→∀i,i<j→((Region.before ops).getD j 0).testBit i=true→listed.getD i false=true:=by
 intro j
 induction j using Nat.strongRecOn with
 | _ j ih =>
  intro hj hd i hi hb;have:=hok.anc j hj i hi hb;unfold ancB at this
  split at this
  ·rename_i o ho;obtain⟨e,he,hc⟩:=Array.any_eq_true'.1 this;simp only[Bool.and_eq_true,Bool.or_eq_true,decide_eq_true_eq,beq_iff_eq] at hc;obtain⟨⟨hbd,hlt⟩,hc⟩:=hc;have hl:=hd o ho e he hbd;rcases hc with hc|⟨hc1,hc⟩
   ·rw[← hc];exact hl
   ·exact ih e.on hlt (by omega) (fun o' ho' e' he' hb'=>hcl e.on o' ho' hl e' he' hb') i hc1 hc
  ·cases this
theorem pickT {n:Nat}{σ:List Nat}(hok:OkT ops n σ) {listed:Array Bool}{R:List Nat}{i:Nat}(inv:InvT ops n listed R) (hr:i∈Region.ready .any ops listed) (hin:i<n) :
  ∃p q,R=p++i::q∧(∀x∈p,comm ops x i=true)∧InvT ops n (listed.setIfInBounds i true) (p++q):=by
 obtain⟨hun,o,ho,hall⟩:=mem_ready.1 hr;have hi:i<ops.size:=(Array.getElem?_eq_some_iff.1 ho).1;have hil:i<listed.size:=by rw[inv.head.size];exact hi
 obtain⟨p,q,rfl⟩:=List.append_of_mem ((inv.mem i).2 ⟨hin,getD_both hun⟩);obtain⟨h1,h2,h3⟩:=pairsB_at inv.pairs;refine⟨p,q,rfl,fun x hx=>?_,inv.head.set hr hin,fun j=>?_,h3⟩
 ·have:=h1 x hx;unfold sC at this;simp only[Bool.and_eq_true,Bool.or_eq_true,decide_eq_true_eq] at this;rcases this.2 with ⟨hlt,hb⟩|h
  ·have hl:=ancT_listed hok inv.head.closed i hin (fun o' ho'=>by have:o'=o:=Option.some.inj (ho'.symm.trans ho);subst this;exact hall) x hlt hb;have:=((inv.mem x).1 (List.mem_append_left _ hx)).2;rw[hl] at this;cases this
  ·exact h
 ·have hm:=inv.mem j
  by_cases hij:i=j
  ·subst hij;rw[getD_set_self hil]
   constructor
   ·intro h
    exfalso
    rcases List.mem_append.1 h with h|h
    ·have:=h1 i h;unfold sC at this;simp at this
    ·have:=h2 i h;unfold sC at this;simp at this
   ·intro h;cases h.2
  ·rw[getD_set_ne false hij,← hm]
   constructor
   ·intro h;rcases List.mem_append.1 h with h|h<;>simp[h]
   ·intro h;rcases List.mem_append.1 h with h|h
    ·exact List.mem_append_left _ h
    ·rcases List.mem_cons.1 h with h|h
     ·exact absurd h.symm hij
     ·exact List.mem_append_right _ h
theorem readyT {n:Nat}{σ:List Nat}(hok:OkT ops n σ) {listed:Array Bool}{R:List Nat}(inv:InvT ops n listed R) (hR:R≠[]):Region.ready .any ops listed≠[]∧∀i∈Region.ready .any ops listed,i<n:=by
 obtain⟨x,r,rfl⟩:=List.exists_cons_of_ne_nil hR;have hx:=(inv.mem x).1 (List.mem_cons_self ..)
 have hpos:0<unl listed n:=by
  rcases Nat.eq_zero_or_pos (unl listed n) with h|h
  ·rw[unl_zero h x hx.1] at hx;cases hx.2
  ·exact h
 obtain⟨i,hi,hu,hb⟩:=unl_some hpos;have hle:=hok.le;have his:i<ops.size:=by omega
 have hun:listed.getD i true=false:=getD_in (by rw[inv.head.size];exact his) hu
 constructor
 ·intro he;have:i∈Region.ready .any ops listed:=mem_ready.2 ⟨hun,ops[i],Array.getElem?_eq_getElem his,fun e hm hbd=>hb _ (hok.lower i _ (Array.getElem?_eq_getElem his) e hm hbd)⟩;rw[he] at this;cases this
 ·intro j hj;rcases Nat.lt_or_ge j n with h|h
  ·exact h
  ·exact absurd hj (tail_waits hok.sink hok.chn hok.le inv.head _ i rfl hi hun j h)
theorem nX {n:Nat}{σ:List Nat}{l:List Oper}(hok:OkT l.toArray n σ):∀(f:Nat) (listed:Array Bool) (R:List Nat) (G:Nat→Prop) (S:World→Prop) (a:Act) (w:World),R.length=f→InvT l.toArray n listed R→Here G S J w →
  sG P l.toArray J (fun _ a w=>wpList P l.toArray Q (l.drop n) a w) R G S a→wpAny P .any l.toArray Q (f+(l.toArray.size-n)) listed a w
 | 0,listed,R,G,S,a,w,hn,inv,hh,hs=>by
  have:R=[]:=List.eq_nil_of_length_eq_zero hn;subst this;rw[Nat.zero_add]
  have hfull:listed=rL l.toArray.size n:=listed_full inv.head fun i hi=>by
   cases hl:listed.getD i false with
   | true=>rfl
   | false=>have:=(inv.mem i).2 ⟨hi,hl⟩;cases this
  have h1:=hs w hh.s hh.j;have hlen:(l.drop n).length=l.toArray.size-n:=by simp
  have:=wpAny_of_seq (md:=.any) (Q':=Q) (l.drop n) n listed a w (fun j=>by simp[List.getElem?_drop]) (by rw[hlen,hfull];exact hok.seq) h1
  rwa [hlen] at this
 | f+1,listed,R,G,S,a,w,hn,inv,hh,hs=>by
  rw[show f+1+(l.toArray.size-n)=(f+(l.toArray.size-n))+1 by omega];obtain⟨hr1,hr2⟩:=readyT hok inv (by intro h;subst h;cases hn);refine⟨fun he=>absurd he hr1,fun i hi=>?_⟩;obtain⟨p,q,rfl,hc,inv'⟩:=pickT hok inv hi (hr2 i hi);obtain⟨hun,o,ho,hall⟩:=mem_ready.1 hi;have hlen:(p++q).length=f:=by simp at hn ⊢;omega
  obtain⟨hk,hsel⟩:=known ho hc hh hs;unfold wpOp;rw[ho];show if Region.wanted o (yielded l.toArray a.tmps)=true then _ else _;rcases hk with ⟨v,hf⟩|⟨hw,hk,ob,fv,hr⟩|⟨hw,hk⟩
  ·have hs':=pullF ⟨w,hh.j⟩ ho hsel hc hf hs;rcases hf with ⟨hw,rfl⟩|⟨hw,hk,hy⟩
   ·rw[if_neg (by rw[hw];exact Bool.false_ne_true)];exact nX hok f _ _ G S _ w hlen inv' hh hs'
   ·rw[if_pos hw];exact .inl ((hy w hh.j).ch.wp fun v' w' ⟨h1,h2⟩=>by subst h1;subst h2;exact nX hok f _ _ G S _ w' hlen inv' hh hs')
  ·rw[if_pos hw];have hg:¬G w.heap.size:=fun h=>absurd (hh.g _ h) (by omega);have hs':=pullN ho hsel hk hc hw hr hg hs;refine .inl (Ch.wp (R:=fun v' w'=>v'=fv w.heap.size∧w'=w.alloc ob) ?_ fun v' w' ⟨h1,h2⟩=>?_)
   ·unfold Ch;rw[hr w];exact⟨rfl,rfl⟩
   ·subst h1;subst h2;refine nX hok f _ _ _ _ _ _ hlen inv' ⟨⟨hh.ss w ob hh.s,heap_alloc_new w ob⟩,hh.js w ob hh.j,hh.ss.and _ _,hh.js,fun k hk=>?_⟩ hs';rcases hk with rfl|hk
    ·simp
    ·have:=hh.g k hk;simp;omega
  ·rw[if_pos hw]
   exact .inl ((pullC ho hsel hk hc hw hs w hh.s hh.j).wp fun v w' ⟨k1,k2,S',N,kn,k3,k4,k5⟩ =>
    nX hok f _ _ _ S' _ w' hlen inv' ⟨k4,k2,k3,hh.js,fun k hk=>hk.elim (fun h=>(kn k h).2) fun h=>Nat.lt_of_lt_of_le (hh.g k h) k1.size⟩ k5)
theorem region_ST {id:Nat}{a:Act}{w:World}{n:Nat}{σ:List Nat}{l:List Oper}(hm:P.follows .mixedOrders=true) (hB:okT l.toArray n σ=true) (G:Nat→Prop) (S:World→Prop) (hS:tY S) (hJ:tY J) (h0:S w.drew) (hj:J w.drew) (hG:∀k,G k→k<w.heap.size)
  (h:sG P l.toArray J (fun _ a w=>wpList P l.toArray Q (l.drop n) a w) σ G S a):(Code.region id l.toArray true).wp P Q a w:=by
 have hok:=okT_ok hB;refine wp_region_any hm ?_;have hp:=hok.pairs
 have inv:InvT l.toArray n (Array.replicate l.toArray.size false) σ:=by
  refine⟨⟨by simp,fun j oj _ hl=>(by rw[getD_replicate_false] at hl;cases hl),fun t _ ht=>getD_in (by simpa using ht) (getD_replicate_false _ _)⟩,fun i=>?_,hok.pairs⟩;rw[getD_replicate_false];exact⟨fun h=>⟨hok.lt i h,rfl⟩,fun h=>hok.all i h.1⟩
 have hlen:σ.length=n:=by
  have hnd:σ.Nodup:=by
   clear hB hj h0 hG h inv hok
   induction σ with
   | nil=>exact List.nodup_nil
   | cons x r ih =>
    simp only[sD,Bool.and_eq_true,List.all_eq_true] at hp;refine List.nodup_cons.2 ⟨fun hx=>?_,ih hp.2⟩;have:=hp.1 x hx;unfold sC at this;simp at this
  have h1:σ.Subset (List.range n):=fun i hi=>List.mem_range.2 (hok.lt i hi);have h2:(List.range n).Subset σ:=fun i hi=>hok.all i (List.mem_range.1 hi);have a1:=List.Nodup.length_le_of_subset hnd h1;have a2:=List.Nodup.length_le_of_subset List.nodup_range h2;simp at a1 a2;omega
 have hle:=hok.le;have:=nX hok σ.length _ σ G S a w.drew rfl inv ⟨h0,hj,hS,hJ,hG⟩ h;rw[hlen,show n+(l.toArray.size-n)=l.toArray.size by omega] at this;exact this
end
end Go.Proofs.YtkaepknpplhgkaaGreatDoor
namespace Go.Proofs.YtkaepknpplhgkaaGreatDoor
open Go.RowKit

def look:List (Nat×Value)→Nat→Option Value
 | [],_=>none
 | (k,v)::r,i=>bif Nat.beq k i then some v else look r i
structure Fr where
 s:Nat
 D:List Deferred
instance (k:Nat):OfNat Fr k:=⟨⟨k,[]⟩⟩
instance:Coe Fr Nat:=⟨Fr.s⟩
structure Sat (n:Fr) (m:List (Nat×Value)) (a:Act):Prop where
 size:a.tmps.size=n.s
 dfr:a.defers=n.D
 get:∀i v,look m i=some v→a.tmps[i]? = some v
section
variable {n:Fr}{m:List (Nat×Value)}{a:Act}
theorem vB {k i:Nat}{v:Value}(h:k≠i):look ((k,v)::m) i=look m i:=by
 have:Nat.beq k i=false:=by
  cases h':Nat.beq k i
  ·rfl
  ·exact absurd (Nat.eq_of_beq_eq_true h') h
 simp[look,this]
theorem qM {k:Nat}{v:Value}:look ((k,v)::m) k=some v:=by
 simp[look]
theorem Sat.put (h:Sat n m a) {d:Nat}{v:Value}(hd:Nat.blt d n=true):Sat n ((d,v)::m) (a.put (some d) v):=by
 have hd':d<n.s:=by simpa [Nat.blt_eq] using hd
 refine⟨by rw[put_size];exact h.size,by rw[put_defers];exact h.dfr,fun i u hu=>?_⟩
 by_cases hi:d=i
 ·subst hi;rw[qM] at hu;cases hu;rw[put_tmps_eq,Array.getElem?_eq_getElem (by rw[h.size];exact hd')];rfl
 ·rw[vB hi] at hu;rw[qY (by simpa using hi)];exact h.get i u hu
theorem Sat.put0 (h:Sat n m a) {v:Value}:Sat n m (a.put none v):=h
inductive Pr (m:List (Nat×Value)):List (Nat×Value)→Prop
 | nil:Pr m []
 | cons {i:Nat} {v:Value} {l:List (Nat×Value)} (h:look m i=some v) (t:Pr m l):Pr m ((i,v)::l)
theorem Pr.consE {i:Nat}{v v':Value}{l:List (Nat×Value)}(h:look m i=some v) (e:v=v') (t:Pr m l):Pr m ((i,v')::l):=by subst e;exact .cons h t
theorem Pr.get {l:List (Nat×Value)}(h:Pr m l):∀i v,look l i=some v→look m i=some v:=by
 induction h with
 | nil=>intro i v h;cases h
 | @cons j u l hj t ih =>
  intro i v hv
  by_cases hi:j=i
  ·subst hi;rw[qM] at hv;cases hv;exact hj
  ·rw[vB hi] at hv;exact ih i v hv
theorem Sat.weak {l:List (Nat×Value)}(h:Sat n m a) (hp:Pr m l):Sat n l a:=⟨h.size,h.dfr,fun i v hv=>h.get i v (hp.get i v hv)⟩
def ev (m:List (Nat×Value)):Operand→Option Value
 | .tmp t=>look m t
 | .const v=>some v
 | .global g=>some (.pointer (some ⟨g,0,none⟩))
 | .func f=>some (.func (.func f) #[] #[])
theorem Sat.ev (h:Sat n m a) {x:Operand}{v:Value}(hx:ev m x=some v):a.eval x=v:=by
 cases x with
 | tmp t =>
  have:=h.get t v hx;simp[Act.eval,Array.getD_eq_getD_getElem?,this]
 | const u=>cases hx;rfl
 | global g=>cases hx;rfl
 | func f=>cases hx;rfl
inductive Gd (ops:Array Oper) (m:List (Nat×Value)):Option (Nat×Bool)→Prop
 | none:Gd ops m none
 | some {j:Nat} {want:Bool} {t:Nat} (ht:(ops[j]?).bind (·.dst)=some t) (hv:look m t=some (.bool want)):Gd ops m (some (j,want))
inductive Gn (ops:Array Oper) (m:List (Nat×Value)):Option (Nat×Bool)→Prop
 | some {j:Nat} {want b:Bool} {t:Nat} (ht:(ops[j]?).bind (·.dst)=some t) (hv:look m t=some (.bool b)) (hne:(b==want)=false):Gn ops m (some (j,want))
theorem yielded_look {ops:Array Oper}{j t:Nat}{b:Bool}(h:Sat n m a) (ht:(ops[j]?).bind (·.dst)=some t) (hv:look m t=some (.bool b)):yielded ops a.tmps j=some b:=by
 simp[yielded,ht,h.get t _ hv]
theorem Gd.wanted {ops:Array Oper}{o:Oper}(h:Sat n m a) (hg:Gd ops m o.guard):Region.wanted o (yielded ops a.tmps)=true:=by
 unfold Region.wanted;generalize o.guard=g at hg
 cases hg with
 | none=>rfl
 | @some j want t ht hv=>simp[yielded_look h ht hv]
theorem Gn.wanted {ops:Array Oper}{o:Oper}(h:Sat n m a) (hg:Gn ops m o.guard):Region.wanted o (yielded ops a.tmps)=false:=by
 unfold Region.wanted;generalize o.guard=g at hg
 cases hg with
 | @some j want b t ht hv hne=>simp[yielded_look h ht hv];simpa using hne
end
section
variable {P:Program}{ops:Array Oper}{Q:Exit→Act→World→Prop}{n:Fr}{m:List (Nat×Value)}{H J:World→Prop}{rest:List Oper}
def WC (P:Program) (c:Code) (Q:Exit→Act→World→Prop) (n:Fr) (m:List (Nat×Value)) (H:World→Prop):Prop:=∀a w,Sat n m a→H w→c.wp P Q a w
def WL (P:Program) (ops:Array Oper) (Q:Exit→Act→World→Prop) (l:List Oper) (n:Fr) (m:List (Nat×Value)) (H:World→Prop):Prop:=∀a w,Sat n m a→H w→wpList P ops Q l a w
def WD (P:Program) (ops:Array Oper) (J:World→Prop) (Q:Exit→Act→World→Prop) (σ:List Nat) (G:Nat→Prop) (n:Fr) (m:List (Nat×Value)) (H:World→Prop):Prop:=∀a,Sat n m a→sG P ops J Q σ G H a
def WQ (Q:Exit→Act→World→Prop) (e:Exit) (n:Fr) (m:List (Nat×Value)) (H:World→Prop):Prop:=∀a w,Sat n m a→H w→Q e a w
theorem yT {a b:Int}(h:(a==b)=false):a≠b:=fun e=>by subst e;simp at h
theorem wJ {a b:Int}(h:(a != b)=false):a=b:=by simpa using h
theorem xD {a b:Int}(h:(a != b)=true):a≠b:=by simpa using h
theorem zX {x y:Code}(h:WC P x (Exit.then (y.wp P Q) Q) n m H):WC P (.seq x y) Q n m H:=fun a w hs hw=>wp_seq (h a w hs hw)
theorem zR (h:WQ Q .normal n m H):WC P .skip Q n m H:=fun a w hs hw=>wp_skip (h a w hs hw)
theorem zK (h:WQ Q .ret n m H):WC P .ret Q n m H:=fun a w hs hw=>wp_ret (h a w hs hw)
theorem yM {i:Nat}(h:WQ Q (.exit i) n m H):WC P (.exit i) Q n m H:=fun a w hs hw=>wp_exit (h a w hs hw)
theorem zJ {i:Nat}{c:Code}(h:WC P c (Exit.inBlock i Q) n m H):WC P (.block i c) Q n m H:=fun a w hs hw=>wp_block (h a w hs hw)
theorem zT {t:Nat}{x y:Code}{b:Bool}(hv:look m t=some (.bool b)) (h1:b=true→WC P x Q n m H) (h2:b=false→WC P y Q n m H):WC P (.cond (.tmp t) x y) Q n m H:=fun a w hs hw =>
 wp_cond_split (hs.ev (x:=.tmp t) hv) (fun h=>h1 h a w hs hw) (fun h=>h2 h a w hs hw)
theorem wY {t:Nat}{x y:Code}(hv:look m t=some (.bool true)) (h1:WC P x Q n m H):WC P (.cond (.tmp t) x y) Q n m H:=zT hv (fun _=>h1) (fun h=>by cases h)
theorem zD {t:Nat}{x y:Code}(hv:look m t=some (.bool false)) (h1:WC P y Q n m H):WC P (.cond (.tmp t) x y) Q n m H:=zT hv (fun h=>by cases h) (fun _=>h1)
theorem zZ {id:Nat}{l:List Oper}(h:WL P l.toArray Q l n m H):WC P (.region id l.toArray false) Q n m H:=fun a w hs hw=>wp_region_lit (h a w hs hw)
theorem yJ {c:Code}{l:List (Nat×Value)}(hp:Pr m l) (h:WC P c Q n l H):WC P c Q n m H:=fun a w hs hw=>h a w (hs.weak hp) hw
theorem zG {c:Code}{H':World→Prop}(hH:∀w,H w→H' w) (h:WC P c Q n m H'):WC P c Q n m H:=fun a w hs hw=>h a w hs (hH w hw)
theorem wc_ex {ι:Type}{c:Code}{H':ι→World→Prop}(hH:∀w,H w→∃i,H' i w) (h:∀i,WC P c Q n m (H' i)):WC P c Q n m H:=fun a w hs hw=>by
 obtain⟨i,hi⟩:=hH w hw;exact h i a w hs hi
theorem zV {y:Code}(h:WC P y Q n m H):WQ (Exit.then (y.wp P Q) Q) .normal n m H:=h
theorem zW {K:Act→World→Prop}(h:WQ Q .ret n m H):WQ (Exit.then K Q) .ret n m H:=h
theorem zP {K:Act→World→Prop}{i:Nat}(h:WQ Q (.exit i) n m H):WQ (Exit.then K Q) (.exit i) n m H:=h
theorem zH {i:Nat}(h:WQ Q .normal n m H):WQ (Exit.inBlock i Q) .normal n m H:=h
theorem zM {i:Nat}(h:WQ Q .ret n m H):WQ (Exit.inBlock i Q) .ret n m H:=h
theorem yN {i:Nat}(h:WQ Q .normal n m H):WQ (Exit.inBlock i Q) (.exit i) n m H:=fun a w hs hw=>by
 show if i=i then _ else _;rw[if_pos rfl];exact h a w hs hw
theorem wq_far {i j:Nat}(hne:Nat.beq j i=false) (h:WQ Q (.exit j) n m H):WQ (Exit.inBlock i Q) (.exit j) n m H:=fun a w hs hw=>by
 show if j=i then _ else _;rw[if_neg (fun e=>by subst e;simp at hne)];exact h a w hs hw
theorem zB {ι:Type}{x y:Code}(I:ι→List (Nat×Value)) (HI:ι→World→Prop) (h1:WC P x (Exit.then (fun a w=>∃i,Sat n (I i) a∧HI i w) Q) n m H) (h2:∀i,WC P y Q n (I i) (HI i)):WC P (.seq x y) Q n m H:=fun a w hs hw =>
 wp_seq (wp_mono (h1 a w hs hw) fun e a' w' hq=>by
  cases e with
  | normal=>obtain⟨i,k1,k2⟩:=hq;exact h2 i a' w' k1 k2
  | exit _=>exact hq
  | goto _=>exact hq
  | ret=>exact hq
  | panic _=>exact hq
  | outgrown=>exact hq)
theorem zU {ι:Type}{I:ι→List (Nat×Value)}{HI:ι→World→Prop}(i:ι) (hp:Pr m (I i)) (hH:∀w,H w→HI i w):WQ (Exit.then (fun a w=>∃i,Sat n (I i) a∧HI i w) Q) .normal n m H:=fun _ w hs hw=>⟨i,hs.weak hp,hH w hw⟩
theorem yF {ι:Type}{body:Code}(I:ι→List (Nat×Value)) (HI:ι→World→Prop) (μ:ι→Nat) (i0:ι) (hp:Pr m (I i0)) (hH:∀w,H w→HI i0 w)
  (round:∀i,WC P body (Exit.then (fun a w=>∃j,μ j<μ i∧Sat n (I j) a∧HI j w) Q) n (I i) (HI i)):WC P (.loop body) Q n m H:=fun a w hs hw=>by
 have key:∀k i a w,μ i=k→Sat n (I i) a→HI i w→(Code.loop body).wp P Q a w:=by
  intro k i a w hk h1 h2
  have ex:∀a w,(∃i,Sat n (I i) a∧HI i w)→∃k,(∃i,μ i=k∧Sat n (I i) a∧HI i w)∧∀j,(∃i,μ i=j∧Sat n (I i) a∧HI i w)→k≤j:=fun a w ⟨i,h1,h2⟩=>by
   have:∀d k,(∃i,μ i=k∧Sat n (I i) a∧HI i w)→k≤d→∃k,(∃i,μ i=k∧Sat n (I i) a∧HI i w)∧∀j,(∃i,μ i=j∧Sat n (I i) a∧HI i w)→k≤j:=by
    intro d
    induction d with
    | zero=>intro k hk hd;exact⟨k,hk,fun j _=>by omega⟩
    | succ d ih =>
     intro k hk hd
     by_cases hx:∃j,(∃i,μ i=j∧Sat n (I i) a∧HI i w)∧j<k
     ·obtain⟨j,hj,hlt⟩:=hx;exact ih j hj (by omega)
     ·exact⟨k,hk,fun j hj=>by
       rcases Nat.lt_or_ge j k with h|h
       ·exact absurd ⟨j,hj,h⟩ hx
       ·exact h⟩
   exact this _ (μ i) ⟨i,rfl,h1,h2⟩ (Nat.le_refl _)
  classical
  let mu:Act→World→Nat:=fun a w=>if h:∃i,Sat n (I i) a∧HI i w then (ex a w h).choose else 0
  refine wp_loop (fun a w=>∃i,Sat n (I i) a∧HI i w) mu ⟨i,h1,h2⟩ fun a w hi=>?_;have hmu:mu a w=(ex a w hi).choose:=dif_pos hi;obtain⟨⟨i,hi1,hi2,hi3⟩,_⟩:=(ex a w hi).choose_spec;refine wp_mono (round i a w hi2 hi3) fun e a' w' hq=>?_
  cases e with
  | normal =>
   obtain⟨j,hj1,hj2,hj3⟩:=hq;have hx:∃i,Sat n (I i) a'∧HI i w':=⟨j,hj2,hj3⟩;refine⟨hx,?_⟩;have hmu':mu a' w'=(ex a' w' hx).choose:=dif_pos hx;have:=(ex a' w' hx).choose_spec.2 (μ j) ⟨j,rfl,hj2,hj3⟩;rw[hmu,hmu'];omega
  | exit _=>exact hq
  | goto _=>exact hq
  | ret=>exact hq
  | panic _=>exact hq
  | outgrown=>exact hq
 exact key _ i0 a w rfl (hs.weak hp) (hH w hw)
theorem yV {ι:Type}{I:ι→List (Nat×Value)}{HI:ι→World→Prop}{μ:ι→Nat}{m0:Nat}(j:ι) (hμ:μ j<m0) (hp:Pr m (I j)) (hH:∀w,H w→HI j w) :
  WQ (Exit.then (fun a w=>∃j,μ j<m0∧Sat n (I j) a∧HI j w) Q) .normal n m H:=fun _ w hs hw=>⟨j,hμ,hs.weak hp,hH w hw⟩
theorem zN {f:FuncId}{fn:Func}{c:Code}{args:List Value}{w:World}{R:Ending→World→Prop}(hf:P.funcs[f]? = some fn) (hb:fn.body=some c) (n:Fr) (hn:fn.ntmps=n.s) (ha:args.length≤n.s)
  (h:WC P c (bodyPost P fn R) n (args.zipIdx.map fun p=>(p.2,p.1)) (fun u=>u=w)) (hz:n.D=[]:=by rfl):Calls P f args.toArray w R:=by
 refine calls_of_wp hf hb (h _ w ⟨?_,hz.symm,fun i v hv=>?_⟩ rfl)
 ·rw[hn];simp;omega
 ·have key:∀(l:List Value) (k:Nat),look ((l.zipIdx k).map fun p=>(p.2,p.1)) i=some v→k≤i∧l[i-k]? = some v:=by
   intro l
   induction l with
   | nil=>intro k h;cases h
   | cons x l ih =>
    intro k h;simp only[List.zipIdx_cons,List.map_cons] at h
    by_cases hk:k=i
    ·subst hk;rw[qM] at h;cases h;simp
    ·rw[vB hk] at h;obtain⟨h1,h2⟩:=ih (k+1) h;refine⟨by omega,?_⟩;rw[show i-k=(i-(k+1))+1 by omega];simpa using h2
  obtain⟨_,h2⟩:=key args 0 hv;rw[Nat.sub_zero] at h2;show (args.toArray++Array.replicate _ undef)[i]? = some v;rw[Array.getElem?_append_left (by simpa using (List.getElem?_eq_some_iff.1 h2).1)]
  simpa using h2
theorem yY {fn:Func}{R:Ending→World→Prop}{t:Tmp}{v:Value}(hr:fn.results=#[.tmp t]) (hv:look m t=some v) (h:∀w,H w→R (.returned v) w) (hz:n.D=[]:=by rfl):WQ (bodyPost P fn R) .ret n m H:=fun a w hs hw =>
 bodyPost_ret (v:=v) (by rw[results_tmp hr];simp[Array.getD_eq_getD_getElem?,hs.get t v hv]) (hs.dfr.trans hz) (h w hw)
theorem uW {fn:Func}{R:Ending→World→Prop}{t u:Tmp}{v x:Value}(hr:fn.results=#[.tmp t,.tmp u]) (hv:look m t=some v) (hx:look m u=some x) (h:∀w,H w→R (.returned (.tuple #[v,x])) w) (hz:n.D=[]:=by rfl):WQ (bodyPost P fn R) .ret n m H:=fun a w hs hw =>
 bodyPost_ret (v:=.tuple #[v,x]) (by rw[results_tmp2 hr];simp[Array.getD_eq_getD_getElem?,hs.get t v hv,hs.get u x hx]) (hs.dfr.trans hz) (h w hw)
theorem vJ {fn:Func}{R:Ending→World→Prop}(hr:fn.results=#[]) (h:∀w,H w→R (.returned (.tuple #[])) w) (hz:n.D=[]:=by rfl):WQ (bodyPost P fn R) .normal n m H:=fun _ w hs hw =>
 bodyPost_end (v:=.tuple #[]) (results_none hr _ _ _) (hs.dfr.trans hz) (h w hw)
def YF (P:Program) (op:Op) (ty:TypeId) (n:Fr) (m:List (Nat×Value)) (H:World→Prop) (v:Value):Prop:=∀a w d pos af g,Sat n m a→H w→Yl P ⟨d,op,ty,pos,af,g⟩ a w v
theorem zS (h:WQ Q .normal n m H):WL P ops Q [] n m H:=fun a w hs hw=>wpList_nil (h a w hs hw)
theorem wl_of_ch {o:Oper}{a:Act}{w:World}{R:Value→World→Prop}(hg:Region.wanted o (yielded ops a.tmps)=true) (h:Ch P o a w R) (hK:∀v w',R v w'→wpList P ops Q rest (a.put o.dst v) w'):wpList P ops Q (o::rest) a w:=by
 unfold wpList;rw[if_pos hg];exact .inl (h.wp hK)
theorem tU {op:Op}{d:Nat}{ty:TypeId}{pos:String}{af:Array Edge}{g:Option (Nat×Bool)}{v:Value}(hg:Gd ops m g) (hd:Nat.blt d n=true) (hy:YF P op ty n m H v) (h:WL P ops Q rest n ((d,v)::m) H) :
  WL P ops Q (⟨some d,op,ty,pos,af,g⟩::rest) n m H:=fun a w hs hw =>
 wl_of_ch (hg.wanted hs) (hy a w _ pos af g hs hw).ch fun v' w' ⟨e1,e2⟩=>by subst e1;subst e2;exact h _ _ (hs.put hd) hw
theorem wl_pass {op:Op}{d:Nat}{ty:TypeId}{pos:String}{af:Array Edge}{g:Option (Nat×Bool)}(hg:Gn ops m g) (hd:Nat.blt d n=true) (h:WL P ops Q rest n ((d,undef)::m) H) :
  WL P ops Q (⟨some d,op,ty,pos,af,g⟩::rest) n m H:=fun a w hs hw=>by
 unfold wpList;rw[if_neg (by rw[Gn.wanted (o:=⟨some d,op,ty,pos,af,g⟩) hs hg];exact Bool.false_ne_true)];exact h _ _ (hs.put hd) hw
theorem zQ {l:List Oper}{b:Bool}(t:Nat) (hv:look m t=some (.bool b)) (h1:b=true→WL P ops Q l n ((t,.bool true)::m) H) (h2:b=false→WL P ops Q l n ((t,.bool false)::m) H):WL P ops Q l n m H:=fun a w hs hw=>by
 have key:Sat n ((t,.bool b)::m) a:=⟨hs.size,hs.dfr,fun i u hu=>by
  by_cases hi:t=i
  ·subst hi;rw[qM] at hu;cases hu;exact hs.get t _ hv
  ·rw[vB hi] at hu;exact hs.get i u hu⟩
 cases b
 ·exact h2 rfl a w key hw
 ·exact h1 rfl a w key hw
def CF {ι:Type}(P:Program) (op:Op) (ty:TypeId) (n:Fr) (m:List (Nat×Value)) (H:World→Prop) (val:ι→Value) (H':ι→World→Prop):Prop:=∀a w d pos af g,Sat n m a→H w→Ch P ⟨d,op,ty,pos,af,g⟩ a w fun v w'=>∃i,v=val i∧H' i w'
theorem xY {ι:Type}{op:Op}{d:Nat}{ty:TypeId}{pos:String}{af:Array Edge}{g:Option (Nat×Bool)}{val:ι→Value}{H':ι→World→Prop}(hg:Gd ops m g) (hd:Nat.blt d n=true) (hc:CF P op ty n m H val H')
  (h:∀i,WL P ops Q rest n ((d,val i)::m) (H' i)):WL P ops Q (⟨some d,op,ty,pos,af,g⟩::rest) n m H:=fun a w hs hw =>
 wl_of_ch (hg.wanted hs) (hc a w _ pos af g hs hw) fun v' w' ⟨i,e1,e2⟩=>by subst e1;exact h i _ _ (hs.put hd) e2
theorem yP {ι:Type}{op:Op}{ty:TypeId}{pos:String}{af:Array Edge}{g:Option (Nat×Bool)}{val:ι→Value}{H':ι→World→Prop}(hg:Gd ops m g) (hc:CF P op ty n m H val H')
  (h:∀i,WL P ops Q rest n m (H' i)):WL P ops Q (⟨none,op,ty,pos,af,g⟩::rest) n m H:=fun a w hs hw =>
 wl_of_ch (hg.wanted hs) (hc a w _ pos af g hs hw) fun v' w' ⟨i,e1,e2⟩=>by exact h i _ _ hs.put0 e2
variable {G:Nat→Prop}{σ:List Nat}{i:Nat}
def WDo (P:Program) (ops:Array Oper) (J:World→Prop) (Q:Exit→Act→World→Prop) (o:Oper) (σ:List Nat) (G:Nat→Prop) (n:Fr) (m:List (Nat×Value)) (H:World→Prop):Prop:=∀a,Sat n m a→(∀cs b,o.op≠.select cs b) ∧
   ((Region.wanted o (yielded ops a.tmps)=false∧sG P ops J Q σ G H (a.put o.dst undef)) ∨
    (Region.wanted o (yielded ops a.tmps)=true ∧
     ((kd o=.free∧∃v,(∀w,J w→Yl P o a w v)∧sG P ops J Q σ G H (a.put o.dst v)) ∨
     (kd o=.new∧∃(ob:Obj) (f:Nat→Value),(∀w,(execOp a.eval o).run P w=.ok (.value (f w.heap.size)) (w.alloc ob)) ∧
      ∀g,¬G g→sG P ops J Q σ (fun k=>k=g∨G k) (fun w=>H w∧w.heap[g]? = some ob) (a.put o.dst (f g))) ∨
     (kd o=.chain∧∀w,H w→J w→Ch P o a w fun v w'=>Keep G w w'∧J w'∧∃(S':World→Prop) (N:Nat→Prop),(∀k,N k→w.heap.size≤k∧k<w'.heap.size)∧tY S'∧S' w'∧sG P ops J Q σ (fun k=>N k∨G k) S' (a.put o.dst v)))))
def nthO:List Oper→Nat→Option Oper
 | [],_=>none
 | o::l,i=>bif Nat.beq i 0 then some o else nthO l (Nat.pred i)
theorem nthO_eq:∀{l:List Oper}{i:Nat}{o:Oper},nthO l i=some o→l[i]? = some o
 | [],_,_,h=>by cases h
 | x::l,0,o,h=>by simpa [nthO] using h
 | x::l,i+1,o,h=>by
  have:Nat.beq (i+1) 0=false:=rfl;simp only[nthO,this,cond_false,Nat.pred_succ] at h
  simpa using nthO_eq h
theorem vP {l:List Oper}{o:Oper}(ho:nthO l i=some o) (h:WDo P l.toArray J Q o σ G n m H):WD P l.toArray J Q (i::σ) G n m H:=fun a hs=>⟨o,by rw[List.getElem?_toArray];exact nthO_eq ho,(h a hs).1,(h a hs).2⟩
theorem wd_free {op:Op}{d:Nat}{ty:TypeId}{pos:String}{af:Array Edge}{g:Option (Nat×Bool)}{v:Value}(hk:kd ⟨some d,op,ty,pos,af,g⟩=.free) (hg:Gd ops m g) (hd:Nat.blt d n=true)
  (hy:YF P op ty n m J v) (h:WD P ops J Q σ G n ((d,v)::m) H):WDo P ops J Q ⟨some d,op,ty,pos,af,g⟩ σ G n m H:=fun a hs =>
 ⟨(fun cs b e=>by cases e;cases hk),.inr ⟨hg.wanted (o:=⟨some d,op,ty,pos,af,g⟩) hs,.inl ⟨hk,v,fun w hw=>hy a w _ pos af g hs hw,h _ (hs.put hd)⟩⟩⟩
theorem wd_pass {op:Op}{d:Nat}{ty:TypeId}{pos:String}{af:Array Edge}{g:Option (Nat×Bool)}(hsel:∀cs b,op≠.select cs b) (hg:Gn ops m g) (hd:Nat.blt d n=true)
  (h:WD P ops J Q σ G n ((d,undef)::m) H):WDo P ops J Q ⟨some d,op,ty,pos,af,g⟩ σ G n m H:=fun _ hs =>
 ⟨hsel,.inl ⟨Gn.wanted (o:=⟨some d,op,ty,pos,af,g⟩) hs hg,h _ (hs.put hd)⟩⟩
theorem wd_split {b:Bool}(t:Nat) (hv:look m t=some (.bool b)) (h1:b=true→WD P ops J Q σ G n ((t,.bool true)::m) H) (h2:b=false→WD P ops J Q σ G n ((t,.bool false)::m) H):WD P ops J Q σ G n m H:=fun a hs=>by
 have key:Sat n ((t,.bool b)::m) a:=⟨hs.size,hs.dfr,fun i u hu=>by
  by_cases hi:t=i
  ·subst hi;rw[qM] at hu;cases hu;exact hs.get t _ hv
  ·rw[vB hi] at hu;exact hs.get i u hu⟩
 cases b
 ·exact h2 rfl a key
 ·exact h1 rfl a key
def NF (P:Program) (op:Op) (ty:TypeId) (n:Fr) (m:List (Nat×Value)) (ob:Obj) (f:Nat→Value):Prop:=∀a w d pos af g,Sat n m a→(execOp a.eval ⟨d,op,ty,pos,af,g⟩).run P w=.ok (.value (f w.heap.size)) (w.alloc ob)
theorem wd_new {op:Op}{d:Nat}{ty:TypeId}{pos:String}{af:Array Edge}{g:Option (Nat×Bool)}{ob:Obj}{f:Nat→Value}(hk:kd ⟨some d,op,ty,pos,af,g⟩=.new) (hg:Gd ops m g) (hd:Nat.blt d n=true)
  (hn:NF P op ty n m ob f) (h:∀b,¬G b→WD P ops J Q σ (fun k=>k=b∨G k) n ((d,f b)::m) (fun w=>H w∧w.heap[b]? = some ob)):WDo P ops J Q ⟨some d,op,ty,pos,af,g⟩ σ G n m H:=fun a hs =>
 ⟨(fun cs b e=>by cases e;cases hk),.inr ⟨hg.wanted (o:=⟨some d,op,ty,pos,af,g⟩) hs,.inr (.inl ⟨hk,ob,f,fun w=>hn a w _ pos af g hs,fun b hb=>h b hb _ (hs.put hd)⟩)⟩⟩
def DF {ι:Type}(P:Program) (op:Op) (ty:TypeId) (n:Fr) (m:List (Nat×Value)) (G:Nat→Prop) (J H:World→Prop) (val:ι→Value) (H':ι→World→Prop):Prop:=∀a w d pos af g,Sat n m a→H w→J w →
 Ch P ⟨d,op,ty,pos,af,g⟩ a w fun v w'=>Keep G w w'∧J w'∧∃i,v=val i∧H' i w'
theorem no_new {G:Nat→Prop}:(fun k=>(fun _:Nat=>False) k∨G k)=G:=by funext k;exact propext ⟨fun h=>h.elim False.elim id,.inr⟩
theorem wd_chainN {ι:Type}{op:Op}{d:Nat}{ty:TypeId}{pos:String}{af:Array Edge}{g:Option (Nat×Bool)}{val:ι→Value}{H':ι→World→Prop}{N:ι→Nat→Prop}(hk:kd ⟨some d,op,ty,pos,af,g⟩=.chain) (hsel:∀cs b,op≠.select cs b)
  (hg:Gd ops m g) (hd:Nat.blt d n=true) (hst:∀i,tY (H' i)) (hN:∀a w pos af g,Sat n m a→H w→J w→Ch P ⟨some d,op,ty,pos,af,g⟩ a w fun v w'=>Keep G w w'∧J w'∧∃i,v=val i∧H' i w'∧∀k,N i k→w.heap.size≤k∧k<w'.heap.size) (h:∀i,WD P ops J Q σ (fun k=>N i k∨G k) n ((d,val i)::m) (H' i)):WDo P ops J Q ⟨some d,op,ty,pos,af,g⟩ σ G n m H:=fun a hs =>
 ⟨hsel,.inr ⟨hg.wanted (o:=⟨some d,op,ty,pos,af,g⟩) hs,.inr (.inr ⟨hk,fun w hw hj=>(hN a w pos af g hs hw hj).mono fun v w' ⟨k1,k2,i,e1,e2,e3⟩=>by subst e1;exact⟨k1,k2,H' i,N i,e3,hst i,e2,h i _ (hs.put hd)⟩⟩)⟩⟩
theorem wd_chain {ι:Type}{op:Op}{d:Nat}{ty:TypeId}{pos:String}{af:Array Edge}{g:Option (Nat×Bool)}{val:ι→Value}{H':ι→World→Prop}(hk:kd ⟨some d,op,ty,pos,af,g⟩=.chain) (hsel:∀cs b,op≠.select cs b)
  (hg:Gd ops m g) (hd:Nat.blt d n=true) (hst:∀i,tY (H' i)) (hc:DF P op ty n m G J H val H') (h:∀i,WD P ops J Q σ G n ((d,val i)::m) (H' i)):WDo P ops J Q ⟨some d,op,ty,pos,af,g⟩ σ G n m H:=fun a hs =>
 ⟨hsel,.inr ⟨hg.wanted (o:=⟨some d,op,ty,pos,af,g⟩) hs,.inr (.inr ⟨hk,fun w hw hj=>(hc a w _ pos af g hs hw hj).mono fun v w' ⟨k1,k2,i,e1,e2⟩=>by subst e1;exact⟨k1,k2,H' i,fun _=>False,fun _ h=>h.elim,hst i,e2,by rw[no_new];exact h i _ (hs.put hd)⟩⟩)⟩⟩
end
end Go.Proofs.YtkaepknpplhgkaaGreatDoor
namespace Go.Proofs.YtkaepknpplhgkaaGreatDoor
open Go.RowKit

structure Rw where
 v:Value
 E:TypeId
 size:Nat
 n:Nat
 xs:List Value
def uR (L:List (Nat×Obj)) (R:List Rw):List Nat:=L.map (·.1)++R.filterMap (·.v.ownBlock)
def Foot (F:Nat→Prop) (X:World→Prop) (w:World):Prop:=∀w',(∀k,F k→w'.heap[k]? = w.heap[k]?)→X w'
structure HpG (G B:Nat→Prop) (w0:World) (L:List (Nat×Obj)) (R:List Rw) (X:World→Prop) (w:World):Prop where
 keep:Keep B w0 w
 own:∀p∈L,w.heap[p.1]? = some p.2
 mine:∀p∈L,w0.heap.size≤p.1∨B p.1
 rows:∀r∈R,w.ownsRow w0.heap.size r.E r.size r.v r.n r.xs
 nd:(uR L R).Nodup
 inG:∀k∈uR L R,G k
 foot:∃F:Nat→Prop,(∀k,F k→k<w.heap.size∧¬B k∧k∉uR L R∧G k)∧Foot F X w
def Hp (B:Nat→Prop) (w0:World) (L:List (Nat×Obj)) (R:List Rw) (X:World→Prop) (w:World):Prop:=HpG (fun _=>True) B w0 L R X w
section
variable {G B:Nat→Prop}{w0 w w':World}{L:List (Nat×Obj)}{R:List Rw}{X:World→Prop}
theorem HpG.x (h:HpG G B w0 L R X w):X w:=by
 obtain⟨F,_,hX⟩:=h.foot;exact hX w fun _ _=>rfl
theorem HpG.lt (h:HpG G B w0 L R X w):∀k∈uR L R,k<w.heap.size:=fun k hk=>by
 rcases List.mem_append.1 hk with hk|hk
 ·obtain⟨p,hp,rfl⟩:=List.mem_map.1 hk;exact (Array.getElem?_eq_some_iff.1 (h.own p hp)).1
 ·obtain⟨r,hr,he⟩:=List.mem_filterMap.1 hk;exact ((h.rows r hr).lt k he).2
theorem HpG.size (h:HpG G B w0 L R X w):w0.heap.size≤w.heap.size:=h.keep.size
theorem HpG.ext (h:HpG G (fun _=>False) w0 L R X w):Ext w0 w:=h.keep.ext
theorem HpG.mono {G':Nat→Prop}(h:HpG G B w0 L R X w) (hG:∀k,k<w.heap.size→G k→G' k):HpG G' B w0 L R X w:=by
 obtain⟨F,hF,hX⟩:=h.foot;exact⟨h.keep,h.own,h.mine,h.rows,h.nd,fun k hk=>hG k (h.lt k hk) (h.inG k hk),F,fun k hk=>⟨(hF k hk).1,(hF k hk).2.1,(hF k hk).2.2.1,hG k (hF k hk).1 (hF k hk).2.2.2⟩,hX⟩
theorem HpG.hp (h:HpG G B w0 L R X w):Hp B w0 L R X w:=h.mono fun _ _ _=>trivial
theorem Hp.inn (h:Hp B w0 L R X w):HpG (fun k=>k<w.heap.size) B w0 L R X w:=h.mono fun _ hk _=>hk
theorem HpG.on (h:HpG G B w0 L R X w) (hk:Keep (fun k=>B k∧k∉uR L R) w w'):HpG G B w0 L R X w':=by
 have hlt:=h.lt;obtain⟨F,hF,hX⟩:=h.foot;have blk:∀k∈uR L R,w'.heap[k]? = w.heap[k]? := fun k hm=>hk.block k (hlt k hm) fun ⟨_,hn⟩=>hn hm;refine⟨h.keep.trans (hk.mono fun k _ hb=>hb.1),fun p hp=>?_,h.mine,fun r hr=>?_,h.nd,h.inG,F,fun k hk'=>?_,fun u hu=>hX u fun k hk'=>?_⟩
 ·rw[blk p.1 (List.mem_append_left _ (List.mem_map.2 ⟨p,hp,rfl⟩))];exact h.own p hp
 ·obtain⟨e,hr'⟩:=h.rows r hr;refine⟨e,?_⟩;rcases hr' with hr'|⟨g,cap,cur,hv,h1,h2,h3⟩
  ·exact .inl hr'
  ·refine .inr ⟨g,cap,cur,hv,h1,?_,h3⟩;rw[blk g (List.mem_append_right _ (List.mem_filterMap.2 ⟨r,hr,by rw[hv];rfl⟩))];exact h2
 ·obtain⟨h1,h2⟩:=hF k hk';exact⟨Nat.lt_of_lt_of_le h1 hk.size,h2⟩
 ·obtain⟨h1,h2,h3,_⟩:=hF k hk';rw[hu k hk',hk.block k h1 fun hb=>h2 hb.1]
theorem HpG.onE (h:HpG G B w0 L R X w) (hk:Ext w w'):HpG G B w0 L R X w':=h.on (Keep.of_ext hk)
theorem HpG.drew (h:HpG G B w0 L R X w):HpG G B w0 L R X w.drew:=⟨h.keep.drew,h.own,h.mine,h.rows,h.nd,h.inG,h.foot⟩
theorem HpG.stab:tY (HpG G B w0 L R X):=fun w ob h=>h.onE (Ext.alloc (Ext.refl w) ob)
theorem Hp.stab:tY (Hp B w0 L R X):=HpG.stab
theorem Hp.drew (h:Hp B w0 L R X w):Hp B w0 L R X w.drew:=HpG.drew h
theorem HpG.join (h:HpG G B w0 L R X w) {g:Nat}{ob:Obj}(hg:w.heap[g]? = some ob) (hG:¬G g) (hm:w0.heap.size≤g):HpG (fun k=>k=g∨G k) B w0 ((g,ob)::L) R X w:=by
 obtain⟨F,hF,hX⟩:=h.foot;refine⟨h.keep,fun p hp=>?_,fun p hp=>?_,h.rows,List.nodup_cons.2 ⟨fun hx=>hG (h.inG g hx),h.nd⟩,fun k hk=>?_,F,fun k hk=>?_,hX⟩
 ·rcases List.mem_cons.1 hp with rfl|hp
  ·exact hg
  ·exact h.own p hp
 ·rcases List.mem_cons.1 hp with rfl|hp
  ·exact .inl hm
  ·exact h.mine p hp
 ·rcases List.mem_cons.1 (show k∈g::uR L R from hk) with rfl|hk
  ·exact .inl rfl
  ·exact .inr (h.inG k hk)
 ·obtain⟨a,b,c,d⟩:=hF k hk;refine⟨a,b,fun hx=>?_,.inr d⟩;rcases List.mem_cons.1 (show k∈g::uR L R from hx) with rfl|hx
  ·exact hG d
  ·exact c hx
theorem Hp.new (h:Hp B w0 L R X w) (ob:Obj):Hp B w0 ((w.heap.size,ob)::L) R X (w.alloc ob) :=
 (HpG.join (HpG.onE h.inn (Ext.alloc (Ext.refl w) ob)) (heap_alloc_new w ob) (Nat.lt_irrefl _) h.keep.size).hp
theorem blks_set {k:Nat}{g:Nat}{o o':Obj}(hk:L[k]? = some (g,o)):uR (L.set k (g,o')) R=uR L R:=by
 unfold uR;congr 1;apply List.ext_getElem?;intro j;simp only[List.getElem?_map,List.getElem?_set]
 by_cases hj:k=j
 ·subst hj;obtain⟨hlt,he⟩:=List.getElem?_eq_some_iff.1 hk;simp[hlt,he]
 ·simp[hj]
theorem nodup_idx {α:Type}{l:List α}(h:l.Nodup) {i j:Nat}{x:α}(hi:l[i]? = some x) (hj:l[j]? = some x):i=j:=by
 have a:=List.getElem?_eq_some_iff.1 hi;have b:=List.getElem?_eq_some_iff.1 hj;obtain⟨a1,a2⟩:=a;obtain⟨b1,b2⟩:=b;exact (List.getElem_inj h).1 (a2.trans b2.symm)
theorem HpG.turn (h:HpG G B w0 L R X w) {k g:Nat}{o o':Obj}(hk:L[k]? = some (g,o)) (hK:Keep (fun j=>j=g) w w') (hg:w'.heap[g]? = some o'):HpG G B w0 (L.set k (g,o')) R X w':=by
 have hlt:=h.lt;have hb:=blks_set (R:=R) (o':=o') hk;have hmem:(g,o)∈L:=List.mem_of_getElem? hk;have hgb:g∈uR L R:=List.mem_append_left _ (List.mem_map.2 ⟨_,hmem,rfl⟩);have hmine:=h.mine _ hmem;have hnd:=h.nd;obtain⟨F,hF,hX⟩:=h.foot;have hLnd:(L.map (·.1)).Nodup:=(List.nodup_append.1 hnd).1;have hap:∀x∈L.map (·.1),∀y∈R.filterMap (·.v.ownBlock),x≠y:=(List.nodup_append.1 hnd).2.2;refine⟨?_,fun p hp=>?_,fun p hp=>?_,fun r hr=>?_,by rw[hb];exact hnd,by rw[hb];exact h.inG,F,fun j hj=>?_,fun u hu=>hX u fun j hj=>?_⟩
 ·refine⟨hK.os.trans h.keep.os,hK.tape.trans h.keep.tape,hK.output.trans h.keep.output,Nat.le_trans h.keep.size hK.size,fun j hj hB=>?_⟩;rw[hK.block j (Nat.lt_of_lt_of_le hj h.keep.size) (fun e=>?_)]
  ·exact h.keep.block j hj hB
  ·subst e;rcases hmine with hm|hm
   ·exact absurd hj (Nat.not_lt.2 hm)
   ·exact hB hm
 ·obtain⟨j,hj⟩:=List.mem_iff_getElem?.1 hp;rw[List.getElem?_set] at hj
  by_cases hkj:k=j
  ·subst hkj;have hlt':=(List.getElem?_eq_some_iff.1 hk).1;simp[hlt'] at hj;subst hj;exact hg
  ·rw[if_neg hkj] at hj;have hpL:=List.mem_of_getElem? hj;have hne:p.1≠g:=fun e=>hkj (nodup_idx hLnd (x:=g) (by rw[List.getElem?_map,hk];rfl) (by rw[List.getElem?_map,hj];simp[e]));rw[hK.block p.1 (hlt p.1 (List.mem_append_left _ (List.mem_map.2 ⟨p,hpL,rfl⟩))) hne];exact h.own p hpL
 ·obtain⟨j,hj⟩:=List.mem_iff_getElem?.1 hp;rw[List.getElem?_set] at hj
  by_cases hkj:k=j
  ·subst hkj;have hlt':=(List.getElem?_eq_some_iff.1 hk).1;simp[hlt'] at hj;subst hj;exact hmine
  ·rw[if_neg hkj] at hj;exact h.mine p (List.mem_of_getElem? hj)
 ·obtain⟨e,hr'⟩:=h.rows r hr;refine⟨e,?_⟩;rcases hr' with hr'|⟨g',cap,cur,hv,h1,h2,h3⟩
  ·exact .inl hr'
  ·refine .inr ⟨g',cap,cur,hv,h1,?_,h3⟩;have hm':g'∈R.filterMap (·.v.ownBlock):=List.mem_filterMap.2 ⟨r,hr,by rw[hv];rfl⟩;rw[hK.block g' (hlt g' (List.mem_append_right _ hm')) (fun e=>hap g (List.mem_map.2 ⟨_,hmem,rfl⟩) g' hm' e.symm)];exact h2
 ·obtain⟨h1,h2,h3,h4⟩:=hF j hj;exact⟨Nat.lt_of_lt_of_le h1 hK.size,h2,by rw[hb];exact h3,h4⟩
 ·obtain⟨h1,h2,h3,_⟩:=hF j hj;rw[hu j hj,hK.block j h1 (fun e=>h3 (e▸hgb))]
theorem blks_row {k:Nat}{r r':Rw}(hk:R[k]? = some r) (h1:∀x∈(uR L R),∀b,r'.v.ownBlock=some b→(x=b→r.v.ownBlock=some b)) (hnd:(uR L R).Nodup) :
  (uR L (R.set k r')).Nodup∧∀x∈uR L (R.set k r'),x∈uR L R∨r'.v.ownBlock=some x:=by
 have hset:R.set k r'=R.take k++r'::R.drop (k+1):=by
  have hlt:=(List.getElem?_eq_some_iff.1 hk).1;rw[List.set_eq_take_append_cons_drop,if_pos hlt]
 have hR:R=R.take k++r::R.drop (k+1):=by
  have hlt:=(List.getElem?_eq_some_iff.1 hk);obtain⟨a,b⟩:=hlt;rw[← b,← List.drop_eq_getElem_cons a,List.take_append_drop]
 have e1:uR L (R.set k r')=L.map (·.1)++((R.take k).filterMap (·.v.ownBlock)++(r'.v.ownBlock.toList++(R.drop (k+1)).filterMap (·.v.ownBlock))):=by
  unfold uR;rw[hset,List.filterMap_append,List.filterMap_cons];cases r'.v.ownBlock<;>simp
 have e2:uR L R=L.map (·.1)++((R.take k).filterMap (·.v.ownBlock)++(r.v.ownBlock.toList++(R.drop (k+1)).filterMap (·.v.ownBlock))):=by
  unfold uR;conv=>lhs;rw[hR,List.filterMap_append,List.filterMap_cons]
  cases r.v.ownBlock<;>simp
 generalize L.map (·.1)=A at *;generalize (R.take k).filterMap (·.v.ownBlock)=C at *;generalize (R.drop (k+1)).filterMap (·.v.ownBlock)=D at *;rw[e2] at hnd h1;rw[e1,e2]
 cases hv':r'.v.ownBlock with
 | none =>
  refine⟨?_,fun x hx=>?_⟩
  ·refine hnd.sublist ?_;refine List.Sublist.append (List.Sublist.refl _) (List.Sublist.append (List.Sublist.refl _) ?_);simp
  ·simp at hx ⊢;rcases hx with hx|hx|hx
   ·exact .inl hx
   ·exact .inr (.inl hx)
   ·exact .inr (.inr (.inr hx))
 | some b =>
  refine⟨?_,fun x hx=>?_⟩
  ·by_cases hr:r.v.ownBlock=some b
   ·rw[hr] at hnd;exact hnd
   ·have hb:b∉A++(C++(r.v.ownBlock.toList++D)):=fun hx=>hr (h1 b hx b hv' rfl);have hnd':(A++(C++D)).Nodup:=hnd.sublist (List.Sublist.append (List.Sublist.refl _) (List.Sublist.append (List.Sublist.refl _) (by simp)));have hb':b∉A++(C++D):=fun hx=>hb (by simp at hx ⊢;rcases hx with h|h|h<;>simp[h])
    have hp:(A++(C++((some b).toList++D))).Perm (b::(A++(C++D))):=by
     simp only[Option.toList_some,List.singleton_append];rw[← List.append_assoc,← List.append_assoc];exact List.perm_middle
    exact hp.nodup_iff.2 (List.nodup_cons.2 ⟨hb',hnd'⟩)
  ·simp at hx ⊢;rcases hx with hx|hx|rfl|hx
   ·exact .inl (.inl hx)
   ·exact .inl (.inr (.inl hx))
   ·exact .inr rfl
   ·exact .inl (.inr (.inr (.inr hx)))
theorem Hp.row (h:Hp B w0 L R X w) {k:Nat}{r r':Rw}(hk:R[k]? = some r) (hg:w.grownBy w' r.v.ownBlock) (hr':w'.ownsRow w0.heap.size r'.E r'.size r'.v r'.n r'.xs) (hb:r'.v.ownBlock=r.v.ownBlock∨∀b,r'.v.ownBlock=some b→w.heap.size≤b) :
  Hp B w0 L (R.set k r') X w':=by
 have hlt:=HpG.lt h;obtain⟨F,hF,hX⟩:=HpG.foot h;have hmemr:r∈R:=List.mem_of_getElem? hk;have hK:Keep (fun j=>r.v.ownBlock=some j) w w':=⟨hg.os,hg.tape,hg.output,hg.size,fun j hj hne=>hg.block j hj (fun e=>hne e.symm)⟩;have hown:=(HpG.rows h r hmemr).lt
 obtain⟨hnd,hsub⟩:=blks_row (L:=L) (r':=r') hk (fun x hx b hb' e=>by
  subst e;rcases hb with hb|hb
  ·rw[← hb];exact hb'
  ·exact absurd (hlt x hx) (by have:=hb x hb';omega)) (HpG.nd h)
 have hnd0:=HpG.nd h;have hap:∀x∈L.map (·.1),∀y∈R.filterMap (·.v.ownBlock),x≠y:=(List.nodup_append.1 hnd0).2.2;have hRnd:(R.filterMap (·.v.ownBlock)).Nodup:=(List.nodup_append.1 hnd0).2.1;refine⟨?_,fun p hp=>?_,HpG.mine h,fun s hs=>?_,hnd,fun _ _=>trivial,F,fun j hj=>?_,fun u hu=>hX u fun j hj=>?_⟩
 ·refine⟨hK.os.trans (HpG.keep h).os,hK.tape.trans (HpG.keep h).tape,hK.output.trans (HpG.keep h).output,Nat.le_trans (HpG.keep h).size hK.size,fun j hj hB=>?_⟩;rw[hK.block j (Nat.lt_of_lt_of_le hj (HpG.keep h).size) (fun e=>absurd hj (Nat.not_lt.2 (hown j e).1))];exact (HpG.keep h).block j hj hB
 ·have hp1:p.1∈L.map (·.1):=List.mem_map.2 ⟨p,hp,rfl⟩;rw[hK.block p.1 (hlt _ (List.mem_append_left _ hp1)) (fun e=>hap p.1 hp1 p.1 (List.mem_filterMap.2 ⟨r,hmemr,e⟩) rfl)];exact HpG.own h p hp
 ·obtain⟨j,hj⟩:=List.mem_iff_getElem?.1 hs;rw[List.getElem?_set] at hj
  by_cases hkj:k=j
  ·subst hkj;have hlt':=(List.getElem?_eq_some_iff.1 hk).1;simp[hlt'] at hj;subst hj;exact hr'
  ·rw[if_neg hkj] at hj;have hsR:=List.mem_of_getElem? hj;obtain⟨e,hs'⟩:=HpG.rows h s hsR;refine⟨e,?_⟩;rcases hs' with hs'|⟨g',cap,cur,hv,h1,h2,h3⟩
   ·exact .inl hs'
   ·refine .inr ⟨g',cap,cur,hv,h1,?_,h3⟩;have hm':g'∈R.filterMap (·.v.ownBlock):=List.mem_filterMap.2 ⟨s,hsR,by rw[hv];rfl⟩;rw[hK.block g' (hlt g' (List.mem_append_right _ hm')) (fun e=>?_)];exact h2
    -- two rows of one block
    have key:∀{l:List Rw},(l.filterMap (·.v.ownBlock)).Nodup→∀{i j:Nat} {x y:Rw} {b:Nat},l[i]? = some x→l[j]? = some y→x.v.ownBlock=some b→y.v.ownBlock=some b→i=j:=by
     intro l
     induction l with
     | nil=>intro _ i j x y b hi;simp at hi
     | cons z l ih =>
      intro hn i j x y b hi hj hx hy;rw[List.filterMap_cons] at hn
      have hn':(l.filterMap (·.v.ownBlock)).Nodup:=by
       cases hz:z.v.ownBlock with
       | none=>rw[hz] at hn;exact hn
       | some c=>rw[hz] at hn;exact (List.nodup_cons.1 hn).2
      cases i with
      | zero =>
       cases j with
       | zero=>rfl
       | succ j =>
        simp at hi hj;subst hi;rw[hx] at hn;exact absurd (List.mem_filterMap.2 ⟨y,List.mem_of_getElem? hj,hy⟩) (List.nodup_cons.1 hn).1
      | succ i =>
       cases j with
       | zero =>
        simp at hi hj;subst hj;rw[hy] at hn;exact absurd (List.mem_filterMap.2 ⟨x,List.mem_of_getElem? hi,hx⟩) (List.nodup_cons.1 hn).1
       | succ j =>
        simp at hi hj;rw[ih hn' hi hj hx hy]
    exact hkj (key hRnd hk hj e (by rw[hv];rfl))
 ·obtain⟨h1,h2,h3,h4⟩:=hF j hj;refine⟨Nat.lt_of_lt_of_le h1 hK.size,h2,fun hx=>?_,trivial⟩;rcases hsub j hx with hx|hx
  ·exact h3 hx
  ·rcases hb with hb|hb
   ·exact h3 (List.mem_append_right _ (List.mem_filterMap.2 ⟨r,hmemr,by rw[← hb];exact hx⟩))
   ·exact absurd h1 (by have:=hb j hx;omega)
 ·obtain⟨h1,h2,h3,_⟩:=hF j hj;rw[hu j hj,hK.block j h1 (fun e=>h3 (List.mem_append_right _ (List.mem_filterMap.2 ⟨r,hmemr,e⟩)))]
theorem Hp.addRow (h:Hp B w0 L R X w) (hx:Ext w w') {r:Rw}(hr:w'.ownsRow w.heap.size r.E r.size r.v r.n r.xs):Hp B w0 L (r::R) X w':=by
 have h':=HpG.onE h hx;have hlt:=HpG.lt h
 have hr':w'.ownsRow w0.heap.size r.E r.size r.v r.n r.xs:=by
  obtain⟨e,hr⟩:=hr;refine⟨e,?_⟩;rcases hr with hr|⟨g,cap,cur,hv,h1,h2⟩
  ·exact .inl hr
  ·exact .inr ⟨g,cap,cur,hv,Nat.le_trans (HpG.size h) h1,h2⟩
 have hap:∀b,r.v.ownBlock=some b→b∉uR L R:=fun b hb hm=>absurd (hlt b hm) (by have:=(hr.lt b hb).1;omega)
 have hperm:(uR L (r::R)).Perm (r.v.ownBlock.toList++uR L R):=by
  unfold uR;rw[List.filterMap_cons]
  cases r.v.ownBlock with
  | none=>exact List.Perm.refl _
  | some b=>exact List.perm_middle
 obtain⟨F,hF,hX⟩:=HpG.foot h;refine⟨h'.keep,h'.own,h'.mine,fun s hs=>?_,hperm.nodup_iff.2 ?_,fun _ _=>trivial,F,fun j hj=>?_,fun u hu=>hX u fun j hj=>?_⟩
 ·rcases List.mem_cons.1 hs with rfl|hs
  ·exact hr'
  ·exact h'.rows s hs
 ·cases hb:r.v.ownBlock with
  | none=>exact HpG.nd h
  | some b=>exact List.nodup_cons.2 ⟨hap b hb,HpG.nd h⟩
 ·obtain⟨h1,h2,h3,_⟩:=hF j hj;refine⟨Nat.lt_of_lt_of_le h1 (Ext.size hx),h2,fun hm=>?_,trivial⟩;rcases List.mem_append.1 (hperm.mem_iff.1 hm) with hm|hm
  ·have hb:r.v.ownBlock=some j:=by simpa using hm
   exact absurd h1 (by have:=(hr.lt j hb).1;omega)
  ·exact h3 hm
 ·obtain⟨h1,h2,h3,_⟩:=hF j hj;rw[hu j hj,Below.block hx j h1]
theorem Hp.addX (h:Hp B w0 L R X w) {X2:World→Prop}(hx:∃F:Nat→Prop,(∀k,F k→k<w.heap.size∧¬B k∧k∉uR L R)∧Foot F X2 w):Hp B w0 L R (fun u=>X2 u∧X u) w:=by
 obtain⟨F,hF,hX⟩:=HpG.foot h;obtain⟨F2,hF2,hX2⟩:=hx;refine⟨HpG.keep h,HpG.own h,HpG.mine h,HpG.rows h,HpG.nd h,HpG.inG h,fun k=>F2 k∨F k,fun k hk=>?_,fun u hu=>⟨hX2 u fun k hk=>hu k (.inl hk),hX u fun k hk=>hu k (.inr hk)⟩⟩;rcases hk with hk|hk
 ·obtain⟨a,b,c⟩:=hF2 k hk;exact⟨a,b,c,trivial⟩
 ·exact hF k hk
theorem Hp.start {w:World}(hX:∃F:Nat→Prop,(∀k,F k→k<w.heap.size∧¬B k)∧Foot F X w):Hp B w [] [] X w:=by
 obtain⟨F,hF,hX⟩:=hX;exact⟨Keep.refl _ _,fun p hp=>(by cases hp),fun p hp=>(by cases hp),fun p hp=>(by cases hp),List.nodup_nil,fun _ _=>trivial,F,fun k hk=>⟨(hF k hk).1,(hF k hk).2,(by simp[uR]),trivial⟩,hX⟩
theorem Hp.start0 {w:World}:Hp B w [] [] (fun _=>True) w:=Hp.start ⟨fun _=>False,fun _ h=>h.elim,fun _ _=>trivial⟩
theorem Hp.startB {w:World}{g:Nat}{o:Obj}(hg:w.heap[g]? = some o) (hX:∃F:Nat→Prop,(∀k,F k→k<w.heap.size∧k≠g)∧Foot F X w):Hp (fun k=>k=g) w [(g,o)] [] X w:=by
 obtain⟨F,hF,hX⟩:=hX;exact⟨Keep.refl _ _,fun p hp=>(by simp at hp;subst hp;exact hg),fun p hp=>(by simp at hp;subst hp;exact .inr rfl),fun p hp=>(by cases hp),by simp[uR],fun _ _=>trivial,F,fun k hk=>⟨(hF k hk).1,(hF k hk).2,(by simp[uR];exact (hF k hk).2),trivial⟩,hX⟩
theorem Hp.startB0 {w:World}{g:Nat}{o:Obj}(hg:w.heap[g]? = some o):Hp (fun k=>k=g) w [(g,o)] [] (fun _=>True) w:=Hp.startB hg ⟨fun _=>False,fun _ h=>h.elim,fun _ _=>trivial⟩
theorem Hp.nil (h:Hp B w0 L R X w) (E:TypeId) (size:Nat):Hp B w0 L (⟨.slice none 0 0,E,size,0,[]⟩::R) X w :=
 Hp.addRow h (Ext.refl w) (World.ownsRow_nil w _ E size)
theorem Hp.weakX (h:Hp B w0 L R X w) {X':World→Prop}(hX:∀u,X u→X' u):Hp B w0 L R X' w:=by
 obtain⟨F,hF,hx⟩:=HpG.foot h;exact⟨HpG.keep h,HpG.own h,HpG.mine h,HpG.rows h,HpG.nd h,HpG.inG h,F,hF,fun u hu=>hX u (hx u hu)⟩
end
end Go.Proofs.YtkaepknpplhgkaaGreatDoor
namespace Go.Proofs.YtkaepknpplhgkaaGreatDoor
open Go.RowKit
attribute [local simp] Result.andThen

abbrev bk (T:TypeId) (cs:List Value):Obj:=.cells cs.toArray T (0,0)
section
variable {P:Program}{n:Fr}{m:List (Nat×Value)}{H:World→Prop}{ty:TypeId}
theorem yW {x:Operand}{v:Value}(hx:ev m x=some v):YF P (.move x) ty n m H v:=fun a w d pos af g hs hw=>by simp[Yl,execOp,hs.ev hx]
theorem wD {x:Operand}{v:Value}(hx:ev m x=some v):YF P (.assign x) ty n m H v:=fun a w d pos af g hs hw=>by simp[Yl,execOp,hs.ev hx]
theorem yA {c x y:Operand}{u:Value}(hc:ev m c=some (.bool true)) (hx:ev m x=some u):YF P (.pick c x y) ty n m H u:=fun a w d pos af g hs hw=>by
 simp[Yl,execOp,hs.ev hc,hs.ev hx,asBool]
theorem yD {c x y:Operand}{v:Value}(hc:ev m c=some (.bool false)) (hy:ev m y=some v):YF P (.pick c x y) ty n m H v:=fun a w d pos af g hs hw=>by
 simp[Yl,execOp,hs.ev hc,hs.ev hy,asBool]
theorem xV {x:Operand}{p:Addr}(hx:ev m x=some (.pointer (some p))):YF P (.nilCheck x) ty n m H (.pointer (some p)):=fun a w d pos af g hs hw=>by
 simp[Yl,execOp,hs.ev hx]
section
variable {x y:Operand}{k:IntKind}{a b c:Int}{t t':TypeId}
theorem zF (hx:ev m x=some (.int k a)) (hy:ev m y=some (.int k b)) (hc:k.wrap (a+b)=c):YF P (.binOp .add t x y t') ty n m H (.int k c):=fun _ w d pos af g hs hw=>by
 simp[Yl,execOp,hs.ev hx,hs.ev hy,binOp,Op.intArith,eqGuard_add,hc]
theorem vL (hx:ev m x=some (.int k a)) (hy:ev m y=some (.int k b)) (hc:k.wrap (a-b)=c):YF P (.binOp .sub t x y t') ty n m H (.int k c):=fun _ w d pos af g hs hw=>by
 simp[Yl,execOp,hs.ev hx,hs.ev hy,binOp,Op.intArith,eqGuard_sub,hc]
theorem vE (hx:ev m x=some (.int k a)) (hy:ev m y=some (.int k b)) (hc:k.wrap (a*b)=c):YF P (.binOp .mul t x y t') ty n m H (.int k c):=fun _ w d pos af g hs hw=>by
 simp[Yl,execOp,hs.ev hx,hs.ev hy,binOp,Op.intArith,eqGuard_mul,hc]
theorem yf_quo (hx:ev m x=some (.int k a)) (hy:ev m y=some (.int k b)) (h0:b≠0) (hc:k.wrap (a.tdiv b)=c):YF P (.binOp .quo t x y t') ty n m H (.int k c):=fun _ w d pos af g hs hw=>by
 simp[Yl,execOp,hs.ev hx,hs.ev hy,binOp,Op.intDiv,eqGuard_quo,hc,h0]
theorem yf_rem (hx:ev m x=some (.int k a)) (hy:ev m y=some (.int k b)) (h0:b≠0) (hc:a.tmod b=c):YF P (.binOp .rem t x y t') ty n m H (.int k c):=fun _ w d pos af g hs hw=>by
 simp[Yl,execOp,hs.ev hx,hs.ev hy,binOp,Op.intDiv,eqGuard_rem,hc,h0]
theorem yf_and (hx:ev m x=some (.int k a)) (hy:ev m y=some (.int k b)) (hc:bits .and k a b=c):YF P (.binOp .and t x y t') ty n m H (.int k c):=fun _ w d pos af g hs hw=>by
 simp[Yl,execOp,hs.ev hx,hs.ev hy,binOp,intBits_and,eqGuard_and,hc]
theorem yf_or (hx:ev m x=some (.int k a)) (hy:ev m y=some (.int k b)) (hc:bits .or k a b=c):YF P (.binOp .or t x y t') ty n m H (.int k c):=fun _ w d pos af g hs hw=>by
 simp[Yl,execOp,hs.ev hx,hs.ev hy,binOp,intBits_or,eqGuard_or,hc]
theorem sP {k':IntKind}(hx:ev m x=some (.int k a)) (hy:ev m y=some (.int k' b)) (h0:0≤b) (hc:k.wrap (a*2 ^ (min b.toNat k.bits))=c):YF P (.binOp .shl t x y t') ty n m H (.int k c):=fun _ w d pos af g hs hw=>by
 simp[Yl,execOp,hs.ev hx,hs.ev hy,binOp,Op.shift,eqGuard_shl,hc,Int.not_lt.2 h0]
theorem qE {k':IntKind}(hx:ev m x=some (.int k a)) (hy:ev m y=some (.int k' b)) (h0:0≤b) (hc:a.fdiv (2 ^ (min b.toNat k.bits))=c):YF P (.binOp .shr t x y t') ty n m H (.int k c):=fun _ w d pos af g hs hw=>by
 simp[Yl,execOp,hs.ev hx,hs.ev hy,binOp,Op.shift,eqGuard_shr,hc,Int.not_lt.2 h0]
theorem oW (hx:ev m x=some (.int k a)) (hy:ev m y=some (.int k b)):YF P (.binOp .eql t x y t') ty n m H (.bool (a==b)):=fun _ w d pos af g hs hw=>by
 simp[Yl,execOp,hs.ev hx,hs.ev hy,binOp,Op.intCmp,eqGuard_at_int]
theorem xF (hx:ev m x=some (.int k a)) (hy:ev m y=some (.int k b)):YF P (.binOp .neq t x y t') ty n m H (.bool (a != b)):=fun _ w d pos af g hs hw=>by
 simp[Yl,execOp,hs.ev hx,hs.ev hy,binOp,Op.intCmp,eqGuard_at_int]
theorem yR (hx:ev m x=some (.int k a)) (hy:ev m y=some (.int k b)):YF P (.binOp .lss t x y t') ty n m H (.bool (decide (a<b))):=fun _ w d pos af g hs hw=>by
 simp[Yl,execOp,hs.ev hx,hs.ev hy,binOp,Op.intCmp,eqGuard_at_int]
theorem xE (hx:ev m x=some (.int k a)) (hy:ev m y=some (.int k b)):YF P (.binOp .leq t x y t') ty n m H (.bool (decide (a≤b))):=fun _ w d pos af g hs hw=>by
 simp[Yl,execOp,hs.ev hx,hs.ev hy,binOp,Op.intCmp,eqGuard_at_int]
theorem vS (hx:ev m x=some (.int k a)) (hy:ev m y=some (.int k b)):YF P (.binOp .gtr t x y t') ty n m H (.bool (decide (b<a))):=fun _ w d pos af g hs hw=>by
 simp[Yl,execOp,hs.ev hx,hs.ev hy,binOp,Op.intCmp,eqGuard_at_int]
theorem yC (hx:ev m x=some (.int k a)) (hy:ev m y=some (.int k b)):YF P (.binOp .geq t x y t') ty n m H (.bool (decide (b≤a))):=fun _ w d pos af g hs hw=>by
 simp[Yl,execOp,hs.ev hx,hs.ev hy,binOp,Op.intCmp,eqGuard_at_int]
theorem xO {p:Bool}(hx:ev m x=some (.bool p)):YF P (.unOp .not t x) ty n m H (.bool (!p)):=fun _ w d pos af g hs hw=>by
 simp[Yl,execOp,hs.ev hx,Op.unary]
theorem yf_neg (hx:ev m x=some (.int k a)) (hc:k.wrap (0-a)=c):YF P (.unOp .neg t x) ty n m H (.int k c):=fun _ w d pos af g hs hw=>by
 simp[Yl,execOp,hs.ev hx,Op.unary,Op.intArith];simpa using hc
theorem yf_conv {k':IntKind}(hx:ev m x=some (.int k a)) (h1:(P.underlying t).isSome=true) (h2:P.underlying t'=some (.int k')) (hc:k'.wrap a=c):YF P (.convert t t' x) ty n m H (.int k' c):=fun _ w d pos af g hs hw=>by
 obtain⟨s,hs1⟩:=Option.isSome_iff_exists.1 h1
 simp[Yl,execOp,hs.ev hx,convert,run_underlying hs1,run_underlying h2,Conv.intToInt,hc]
theorem zC {i:Nat}{vs:Array Value}{v:Value}(hx:ev m x=some (.tuple vs)) (hv:vs[i]? = some v):YF P (.extract x i) ty n m H v:=fun _ w d pos af g hs hw=>by
 simp[Yl,execOp,hs.ev hx,Instr.extract,hv]
theorem yK {e:TypeId}{p:Option Addr}{l cap:Nat}(hx:ev m x=some (.slice p l cap)) (ht:P.underlying t=some (.slice e)):YF P (.call { callee:=.builtin .len,args:=#[x],argTypes:=#[t] }) ty n m H (.int .i64 l):=fun _ w d pos af g hs hw=>by
 simp[Yl,execOp,resolve,invoke,builtin,hs.ev hx,Builtin.len_,run_underlying ht,goInt]
theorem yf_lenStr {s:ByteArray}(hx:ev m x=some (.string s)) (ht:P.underlying t=some .string):YF P (.call { callee:=.builtin .len,args:=#[x],argTypes:=#[t] }) ty n m H (.int .i64 s.size):=fun _ w d pos af g hs hw=>by
 simp[Yl,execOp,resolve,invoke,builtin,hs.ev hx,Builtin.len_,run_underlying ht,goInt]
theorem yf_min {ts:Array TypeId}(hx:ev m x=some (.int k a)) (hy:ev m y=some (.int k b)):YF P (.call { callee:=.builtin .min,args:=#[x,y],argTypes:=ts }) ty n m H (.int k (if b<a then b else a)):=fun _ w d pos af g hs hw=>by
 simp[Yl,execOp,resolve,invoke,builtin,hs.ev hx,hs.ev hy,Builtin.min_,Builtin.min2]
theorem yf_max {ts:Array TypeId}(hx:ev m x=some (.int k a)) (hy:ev m y=some (.int k b)):YF P (.call { callee:=.builtin .max,args:=#[x,y],argTypes:=ts }) ty n m H (.int k (if b>a then b else a)):=fun _ w d pos af g hs hw=>by
 simp[Yl,execOp,resolve,invoke,builtin,hs.ev hx,hs.ev hy,Builtin.max_,Builtin.max2]
end
section
variable {x y:Operand}{t e:TypeId}{g o:Nat}
theorem uJ {t:TypeId}{s:Nat}(h:(P.info? t).map (·.size)=some s) (w:World):(sizeOf t).run P w=.ok s w:=by
 cases hq:P.info? t with
 | none=>simp[hq] at h
 | some i=>simp[hq] at h;subst h;simp[sizeOf,typeInfo,hq]
theorem zY {i off c:Nat}{fs:Array Field}{sz:Nat}(hx:ev m x=some (.pointer (some ⟨g,o,none⟩))) (ht:P.underlying t=some (.struct fs)) (hf:(fs[i]?).map (fun f=>(f.offset,(P.info? f.type).map (·.size)))=some (off,some (sz+1))) (hc:o+off=c) :
  YF P (.fieldAddr t x i) ty n m H (.pointer (some ⟨g,c,none⟩)):=fun _ w d pos af gd hs hw=>by
 cases hq:fs[i]? with
 | none=>simp[hq] at hf
 | some f =>
  simp[hq] at hf;obtain⟨h1,j,h2,h3⟩:=hf;subst hc;subst h1;simp[Yl,execOp,hs.ev hx,Instr.fieldAt,run_underlying ht,hq,Instr.sureAddr,fieldPlace,uJ (P:=P) (t:=f.type) (s:=sz+1) (by simp[h2,h3]),Addr.add_mid]
theorem yf_indexAddrS {k:IntKind}{len cap j es c:Nat}{i:Int}(hx:ev m x=some (.slice (some ⟨g,o,none⟩) len cap)) (hy:ev m y=some (.int k i)) (ht:P.underlying t=some (.slice e)) (hs':(P.info? e).map (·.size)=some es) (hi:i=j) (hj:j<len) (hc:o+j*es=c) :
  YF P (.indexAddr t x y) ty n m H (.pointer (some ⟨g,c,none⟩)):=fun _ w d pos af gd hs hw=>by
 subst hi;subst hc;simp[Yl,execOp,hs.ev hx,hs.ev hy,Instr.indexAt,asIntOf,run_underlying ht,uJ hs',hj,Addr.add_mid]
theorem yf_indexAddrA {k:IntKind}{len j es c:Nat}{i:Int}(hx:ev m x=some (.pointer (some ⟨g,o,none⟩))) (hy:ev m y=some (.int k i)) (ht:P.underlying t=some (.array len e)) (hs':(P.info? e).map (·.size)=some es) (hi:i=j) (hj:j<len) (hc:o+j*es=c) :
  YF P (.indexAddr t x y) ty n m H (.pointer (some ⟨g,c,none⟩)):=fun _ w d pos af gd hs hw=>by
 subst hi;subst hc;simp[Yl,execOp,hs.ev hx,hs.ev hy,Instr.indexAt,asIntOf,run_underlying ht,uJ hs',hj,Addr.add_mid,Instr.sureAddr]
theorem zL {d:TypeDesc}{v:Value}(hx:ev m x=some (.pointer (some ⟨g,o,none⟩))) (ht:P.underlying t=some d) (hd:d.isRow=false) (hc:∀w,H w→w.cell? ⟨g,o,none⟩=some v):YF P (.load t x) ty n m H v:=fun _ w dd pos af gd hs hw=>by
 have hagg:(isAgg t).run P w=.ok false w:=by
  unfold isAgg;rw[Sem.run_bind,run_underlying ht w];cases d<;>simp_all
 simp[Yl,execOp,hs.ev hx,Instr.loadAt,Instr.sureAddr,loadVar,hagg,hc w hw]
theorem xL {d:TypeDesc}{cs:List Value}(hx:ev m x=some (.pointer (some ⟨g,o,none⟩))) (ht:P.underlying t=some d) (hd:d.isRow=true) (hs':(P.info? t).map (·.size)=some cs.length) (hc:∀w,H w→w.rangeAt g o cs):YF P (.load t x) ty n m H (.agg cs.toArray):=fun _ w dd pos af gd hs hw=>by
 simp[Yl,execOp,hs.ev hx,run_loadAt_mid (P:=P) w g o t cs d (hc w hw) ht hd hs']
theorem run_part1 {d:TypeDesc}{cs:Array Value}{off:Nat}{v:Value}(ht:P.underlying t=some d) (hd:d.isRow=false) (hv:cs[off]? = some v) (w:World):(part t cs off).run P w=.ok v w:=by
 have hagg:(isAgg t).run P w=.ok false w:=by
  unfold isAgg;rw[Sem.run_bind,run_underlying ht w];cases d<;>simp_all
 simp[part,hagg,hv]
theorem tQ {i off ft:Nat}{d:TypeDesc}{fs:Array Field}{cs:Array Value}{v:Value}(hx:ev m x=some (.agg cs)) (ht:P.underlying t=some (.struct fs)) (hf:(fs[i]?).map (fun f=>(f.offset,f.type))=some (off,ft)) (hft:P.underlying ft=some d) (hd:d.isRow=false) (hv:cs[off]? = some v) :
  YF P (.field t x i) ty n m H v:=fun _ w dd pos af gd hs hw=>by
 cases hq:fs[i]? with
 | none=>simp[hq] at hf
 | some f =>
  simp[hq] at hf;obtain⟨h1,h2⟩:=hf;subst h1;subst h2;simp[Yl,execOp,hs.ev hx,Instr.field,run_underlying ht,hq,asAgg,run_part1 hft hd hv]
theorem yf_indexStr {k:IntKind}{i:Int}{j:Nat}{s:ByteArray}(hx:ev m x=some (.string s)) (hy:ev m y=some (.int k i)) (ht:P.underlying t=some .string) (hi:i=j) (hj:j<s.size) :
  YF P (.index t x y) ty n m H (.int .u8 (s[j]'hj).toNat):=fun _ w dd pos af gd hs hw=>by
 subst hi;simp[Yl,execOp,hs.ev hx,hs.ev hy,Instr.index,asIntOf,run_underlying ht,hj]
def evs (m:List (Nat×Value)):List (Nat×Operand)→Option (List (Nat×Value))
 | []=>some []
 | (i,x)::r=>match ev m x,evs m r with
  | some v,some l=>some ((i,v)::l)
  | _,_=>none
theorem evs_map {a:Act}(hs:Sat n m a):∀{l:List (Nat×Operand)}{vs:List (Nat×Value)},evs m l=some vs→l.map (fun p=>(p.1,a.eval p.2))=vs
 | [],vs,h=>by cases h;rfl
 | (i,x)::r,vs,h=>by
  unfold evs at h
  split at h
  ·rename_i v l h1 h2;cases h;simp[hs.ev h1,evs_map hs h2]
  ·cases h
theorem wM {parts:List (Nat×Operand)}{vs:List (Nat×Value)}{cells:Array Value}(hp:evs m parts=some vs) (hb:P.built t vs=some cells):YF P (.build t parts.toArray) ty n m H (.agg cells):=fun a w d pos af gd hs hw=>by
 have:=evs_map hs hp;simp only[Yl,execOp,List.map_toArray];rw[show parts.map (fun x=>match x with|(i,x)=>(i,a.eval x))=vs from this];simp[run_build (P:=P) w t vs.toArray cells (by simpa using hb)]
end
section
variable {x:Operand}{t:TypeId}
theorem yQ {v:Value}{cs:List Value}(hx:ev m x=some v) (hc:v.cells=cs.toArray):NF P (.box t x) ty n m (bk t cs) (fun g=>.pointer (some ⟨g,0,none⟩)):=fun _ w d pos af gd hs=>by
 simp[execOp,hs.ev hx,Instr.box,newVar,newRow,hc]
theorem pT {z:Value}{cs:List Value}(hz:(P.info? t).bind (·.zero)=some z) (hc:z.cells=cs.toArray):NF P (.alloc t) ty n m (bk t cs) (fun g=>.pointer (some ⟨g,0,none⟩)):=fun _ w d pos af gd hs=>by
 cases hq:P.info? t with
 | none=>simp[hq] at hz
 | some i =>
  have hz':i.zero=some z:=by simpa [hq] using hz
  simp[execOp,Instr.alloc,zeroValue,typeInfo,hq,hz',newVar,newRow,hc]
end
section
variable {G B:Nat→Prop}{w0 w:World}{L:List (Nat×Obj)}{R:List Rw}{X:World→Prop}{x y:Operand}{t T:TypeId}{g o k:Nat}{cs:List Value}
theorem HpG.cell (h:HpG G B w0 L R X w) (hk:L[k]? = some (g,bk T cs)) {v:Value}(hv:cs[o]? = some v):w.cell? ⟨g,o,none⟩=some v:=by
 have:=h.own _ (List.mem_of_getElem? hk);rw[cell_of_row w g o _ _ _ this,List.getElem?_toArray];exact hv
theorem HpG.range (h:HpG G B w0 L R X w) (hk:L[k]? = some (g,bk T cs)) {seg:List Value}(hv:∀j v,seg[j]? = some v→cs[o+j]? = some v):w.rangeAt g o seg:=fun j v hj=>h.cell hk (hv j v hj)
theorem yU {d:TypeDesc}{v:Value}(k:Nat) (hx:ev m x=some (.pointer (some ⟨g,o,none⟩))) (hk:L[k]? = some (g,bk T cs)) (hv:cs[o]? = some v) (ht:P.underlying t=some d) (hd:d.isRow=false):YF P (.load t x) ty n m (HpG G B w0 L R X) v :=
 zL hx ht hd fun _ h=>h.cell hk hv
theorem yf_loadRowL {d:TypeDesc}{seg:List Value}(k:Nat) (hx:ev m x=some (.pointer (some ⟨g,o,none⟩))) (hk:L[k]? = some (g,bk T cs)) (hv:∀j v,seg[j]? = some v→cs[o+j]? = some v) (ht:P.underlying t=some d) (hd:d.isRow=true) (hs:(P.info? t).map (·.size)=some seg.length) :
  YF P (.load t x) ty n m (HpG G B w0 L R X) (.agg seg.toArray):=xL hx ht hd hs fun _ h=>h.range hk hv
theorem yf_loadAllL {d:TypeDesc}(k:Nat) (hx:ev m x=some (.pointer (some ⟨g,0,none⟩))) (hk:L[k]? = some (g,bk T cs)) (ht:P.underlying t=some d) (hd:d.isRow=true) (hs:(P.info? t).map (·.size)=some cs.length) :
  YF P (.load t x) ty n m (HpG G B w0 L R X) (.agg cs.toArray):=yf_loadRowL k hx hk (fun j v h=>by rw[Nat.zero_add];exact h) ht hd hs
theorem keep_setRow {g:Nat}(w:World) (cs:Array Value):Keep (fun j=>j=g) w (w.setRow g cs):=⟨rfl,rfl,rfl,by simp,fun k _ hk=>setRow_other w g k cs hk⟩
theorem ch_store {a:Act}{v:Value}{d:Option Tmp}{pos:String}{af:Array Edge}{gd:Option (Nat×Bool)}(hs:Sat n m a) (hx:ev m x=some (.pointer (some ⟨g,o,none⟩))) (hy:ev m y=some v) (h1:v.oneCell'=true) (ho:o<cs.length) (hs':(P.info? t).map (·.size)=some 1) (hg:w.heap[g]? = some (bk T cs)) :
  Ch P ⟨d,.store t x y,ty,pos,af,gd⟩ a w fun u w'=>u=undef∧Keep (fun j=>j=g) w w'∧w'.heap[g]? = some (bk T (cs.set o v)):=by
 have hc:v.cells=#[v]:=by cases v<;>first|rfl|cases h1
 have hcell:w.cell? ⟨g,o,none⟩=some cs[o]:=by rw[cell_of_row w g o _ _ _ hg];simp[ho]
 have hfr:w.frozen? ⟨g,o,none⟩=false:=frozen_of_row w g o _ _ hg
 have hrun:(execOp a.eval ⟨d,.store t x y,ty,pos,af,gd⟩).run P w=.ok .skip (w.setRow g (cs.set o v).toArray):=by
  have hst:(store (⟨g,o,none⟩:Addr) v).run P w=.ok () (w.setRow g (cs.set o v).toArray):=by
   rw[run_store P w _ v _ h1,hcell];simp[hfr,setCell_eq_setRow w g o _ _ (0,0) v hg]
  simp[execOp,hs.ev hx,hs.ev hy,Instr.storeAt,Instr.sureAddr,storeVar,uJ hs',hc,storeCells,Addr.add_zero',hst]
 unfold Ch;rw[hrun];exact⟨rfl,keep_setRow w _,setRow_heap w g _ _ _ _ hg⟩
theorem wA {v:Value}(k:Nat) (hx:ev m x=some (.pointer (some ⟨g,o,none⟩))) (hy:ev m y=some v) (hk:L[k]? = some (g,bk T cs)) (h1:v.oneCell'=true) (ho:Nat.blt o cs.length=true) (hs':(P.info? t).map (·.size)=some 1) :
  CF P (.store t x y) ty n m (HpG G B w0 L R X) (fun _:Unit=>undef) (fun _=>HpG G B w0 (L.set k (g,bk T (cs.set o v))) R X):=fun a w d pos af gd hs hw =>
 (ch_store hs hx hy h1 (by simpa [Nat.blt_eq] using ho) hs' (hw.own _ (List.mem_of_getElem? hk))).mono fun u w' ⟨h1,h2,h3⟩=>⟨(),h1,hw.turn hk h2 h3⟩
theorem ch_storeRow {a:Act}{seg:List Value}{d:Option Tmp}{pos:String}{af:Array Edge}{gd:Option (Nat×Bool)}(hs:Sat n m a) (hx:ev m x=some (.pointer (some ⟨g,o,none⟩))) (hy:ev m y=some (.agg seg.toArray)) (h1:∀v∈seg,v.oneCell'=true) (ho:o+seg.length≤cs.length) (hs':(P.info? t).map (·.size)=some seg.length) (hg:w.heap[g]? = some (bk T cs)) :
  Ch P ⟨d,.store t x y,ty,pos,af,gd⟩ a w fun u w'=>u=undef∧Keep (fun j=>j=g) w w'∧w'.heap[g]? = some (bk T (cs.take o++seg++cs.drop (o+seg.length))):=by
 have hrun:(execOp a.eval ⟨d,.store t x y,ty,pos,af,gd⟩).run P w=.ok .skip (w.setRow g (cs.take o++seg++cs.drop (o+seg.length)).toArray):=by
  have hst:=run_storeCells_at (P:=P) g o T seg 0 cs.toArray w hg (by simpa using ho) h1;simp[execOp,hs.ev hx,hs.ev hy,Instr.storeAt,Instr.sureAddr,storeVar,uJ hs',Value.cells,hst]
 unfold Ch;rw[hrun];exact⟨rfl,keep_setRow w _,setRow_heap w g _ _ _ _ hg⟩
theorem vG {seg:List Value}(k:Nat) (hx:ev m x=some (.pointer (some ⟨g,o,none⟩))) (hy:ev m y=some (.agg seg.toArray)) (hk:L[k]? = some (g,bk T cs)) (h1:seg.all (·.oneCell')=true) (ho:Nat.ble (o+seg.length) cs.length=true) (hs':(P.info? t).map (·.size)=some seg.length) :
  CF P (.store t x y) ty n m (HpG G B w0 L R X) (fun _:Unit=>undef) (fun _=>HpG G B w0 (L.set k (g,bk T (cs.take o++seg++cs.drop (o+seg.length)))) R X):=fun _ _ _ _ _ _ hs hw =>
 (ch_storeRow hs hx hy (List.all_eq_true.1 h1) (Nat.le_of_ble_eq_true ho) hs' (hw.own _ (List.mem_of_getElem? hk))).mono fun _ _ ⟨h1,h2,h3⟩=>⟨(),h1,hw.turn hk h2 h3⟩
theorem zA {ops:Array Oper}{Q:Exit→Act→World→Prop}{rest:List Oper}{op:Op}{d:Nat}{pos:String}{af:Array Edge}{gd:Option (Nat×Bool)}{ob:Obj}{f:Nat→Value}(hg:Gd ops m gd) (hd:Nat.blt d n=true) (hn:NF P op ty n m ob f)
  (h:∀b,WL P ops Q rest n ((d,f b)::m) (Hp B w0 ((b,ob)::L) R X)):WL P ops Q (⟨some d,op,ty,pos,af,gd⟩::rest) n m (Hp B w0 L R X):=fun a w hs hw =>
 wl_of_ch (R:=fun v w'=>v=f w.heap.size∧w'=w.alloc ob) (hg.wanted hs) (by unfold Ch;rw[hn a w _ pos af gd hs];exact⟨rfl,rfl⟩) fun v w' ⟨e1,e2⟩=>by
  subst e1;subst e2;exact h w.heap.size _ _ (hs.put hd) (Hp.new hw ob)
def evl (m:List (Nat×Value)):List Operand→Option (List Value)
 | []=>some []
 | x::r=>match ev m x,evl m r with
  | some v,some l=>some (v::l)
  | _,_=>none
theorem oX {a:Act}(hs:Sat n m a):∀{l:List Operand}{vs:List Value},evl m l=some vs→l.map a.eval=vs
 | [],vs,h=>by cases h;rfl
 | x::r,vs,h=>by
  unfold evl at h
  split at h
  ·rename_i v l h1 h2;cases h;simp[hs.ev h1,oX hs h2]
  ·cases h
def goes (P:Program) (f:FuncId):Bool:=match P.funcs[f]? with|some fn=>!(fn.name == "runtime.NumGoroutine")&&fn.body.isSome|none=>false
theorem qO {f:FuncId}(hf:goes P f=true) (args:Array Value) (w:World):(callFunc f args).run P w=.ok (.enter f args) w:=by
 unfold goes at hf
 cases hq:P.funcs[f]? with
 | none=>simp[hq] at hf
 | some fn =>
  simp only[hq,Bool.and_eq_true,Bool.not_eq_true'] at hf;obtain⟨h1,h2⟩:=hf;have h3:fn.body≠none:=by intro hb;simp[hb] at h2
  have h4:fn.name ≠ "runtime.NumGoroutine":=by simpa using h1
  simp[callFunc,hq,h4,h3]
theorem ch_call {a:Act}{f:FuncId}{args:List Operand}{ats:Array TypeId}{vs:List Value}{d:Option Tmp}{pos:String}{af:Array Edge}{gd:Option (Nat×Bool)}{Rr:Value→World→Prop}(hs:Sat n m a) (hf:goes P f=true) (ha:evl m args=some vs)
  (hC:Calls P f vs.toArray w fun e w'=>∃v,e=.returned v∧Rr v w'):Ch P ⟨d,.call { callee:=.value (.func f),args:=args.toArray,argTypes:=ats },ty,pos,af,gd⟩ a w Rr:=by
 have hrun:(execOp a.eval ⟨d,.call { callee:=.value (.func f),args:=args.toArray,argTypes:=ats },ty,pos,af,gd⟩).run P w=.ok (.enter f vs.toArray) w:=by
  have:=oX hs ha;simp[execOp,resolve,Act.eval,Deferred.ofValue,invoke,this,qO hf]
 unfold Ch;rw[hrun];exact hC
theorem rF {ι:Type}{f:FuncId}{args:List Operand}{ats:Array TypeId}{vs:List Value}{H:World→Prop}{val:ι→Value}{H':ι→World→Prop}(hf:goes P f=true) (ha:evl m args=some vs)
  (hC:∀w,H w→Calls P f vs.toArray w fun e w'=>∃v,e=.returned v∧∃i,v=val i∧H' i w'):CF P (.call { callee:=.value (.func f),args:=args.toArray,argTypes:=ats }) ty n m H val H':=fun _ w _ _ _ _ hs hw=>ch_call hs hf ha (hC w hw)
theorem cf_pure {f:FuncId}{args:List Operand}{ats:Array TypeId}{vs:List Value}{v:Value}(hf:goes P f=true) (ha:evl m args=some vs)
  (hC:∀w,HpG G B w0 L R X w→Calls P f vs.toArray w fun e w'=>e=.returned v∧Ext w w'):CF P (.call { callee:=.value (.func f),args:=args.toArray,argTypes:=ats }) ty n m (HpG G B w0 L R X) (fun _:Unit=>v) (fun _=>HpG G B w0 L R X) :=
 rF hf ha fun w hw=>(hC w hw).mono fun _ _ ⟨e1,e2⟩=>⟨v,e1,(),rfl,hw.onE e2⟩
end
end
end Go.Proofs.YtkaepknpplhgkaaGreatDoor
namespace Go.Proofs.YtkaepknpplhgkaaGreatDoor
open Go.RowKit
section
variable {P:Program}{ops:Array Oper}{Q:Exit→Act→World→Prop}{n:Fr}{m:List (Nat×Value)}{H:World→Prop}{tail rest:List Oper}
def WT (P:Program) (ops:Array Oper) (Q:Exit→Act→World→Prop) (tail l:List Oper) (n:Fr) (m:List (Nat×Value)) (H:World→Prop):Prop:=∀a w,Sat n m a→H w→wpStill P ops w (fun a'=>wpList P ops Q tail a' w) l a
theorem wc_still {id:Nat}{l:List Oper}(k:Nat) (hm:P.follows .mixedOrders=true) (hB:Region.lexTailB .any l.toArray k=true) (hd:∀w,H w→H w.drew) (h:WT P l.toArray Q (l.drop k) (l.take k) n m H):WC P (.region id l.toArray true) Q n m H:=fun a w hs hw =>
 wp_region_still_tail k hm hB (h a w.drew hs (hd w hw))
theorem wt_tail (h:WL P ops Q tail n m H):WT P ops Q tail [] n m H:=fun a w hs hw=>wpStill_nil (h a w hs hw)
theorem yO {op:Op}{d:Nat}{ty:TypeId}{pos:String}{af:Array Edge}{g:Option (Nat×Bool)}{v:Value}(hg:Gd ops m g) (hd:Nat.blt d n=true) (hy:YF P op ty n m H v) (h:WT P ops Q tail rest n ((d,v)::m) H) :
  WT P ops Q tail (⟨some d,op,ty,pos,af,g⟩::rest) n m H:=fun a w hs hw=>by
 unfold wpStill;rw[if_pos (hg.wanted (o:=⟨some d,op,ty,pos,af,g⟩) hs)];have:=hy a w (some d) pos af g hs hw;unfold Oper.still;unfold Yl at this;rw[this];exact⟨rfl,h _ w (hs.put hd) hw⟩
theorem oD {id:Nat}{l:List Oper}{B:Nat→Prop}{w0:World}{L:List (Nat×Obj)}{Rs:List Rw}{X:World→Prop}(σ:List Nat) (J:World→Prop) (hm:P.follows .mixedOrders=true) (hB:okB l.toArray σ=true) (hJ:tY J) (hj:∀w,Hp B w0 L Rs X w→J w)
  (h:∀n0,w0.heap.size≤n0→WD P l.toArray J Q σ (fun k=>k<n0) n m (HpG (fun k=>k<n0) B w0 L Rs X)):WC P (.region id l.toArray true) Q n m (Hp B w0 L Rs X):=fun a w hs hw =>
 region_S (J:=J) hm hB (fun k=>k<w.heap.size) (HpG (fun k=>k<w.heap.size) B w0 L Rs X) HpG.stab hJ (HpG.drew hw.inn) (hj _ (Hp.drew hw)) (fun _ h=>h) (h w.heap.size (HpG.size hw) a hs)
theorem qQ {J:World→Prop}{G G' B:Nat→Prop}{w0:World}{L:List (Nat×Obj)}{Rs:List Rw}{X:World→Prop}(h:WQ Q .normal n m (Hp B w0 L Rs X)):WD P ops J Q [] G' n m (HpG G B w0 L Rs X):=fun a hs w hw _=>h a w hs hw.hp
theorem yS {fn:Func}{R:Ending→World→Prop}{p:Tmp}{t T:TypeId}{g:Nat}{cs:List Value}{d:TypeDesc}{G B:Nat→Prop}{w0:World}{L:List (Nat×Obj)}{Rs:List Rw}{X:World→Prop}(hr:fn.results=#[.cell p t]) (hp:look m p=some (.pointer (some ⟨g,0,none⟩)))
  (k:Nat) (hk:L[k]? = some (g,bk T cs)) (ht:P.underlying t=some d) (hd:(match d with|.struct _|.array _ _=>true|_=>false)=true) (hs':(P.info? t).map (·.size)=some cs.length)
  (h:∀w,HpG G B w0 L Rs X w→R (.returned (.agg cs.toArray)) w) (hz:n.D=[]:=by rfl):WQ (bodyPost P fn R) .ret n m (HpG G B w0 L Rs X):=fun a w hs hw =>
 bodyPost_ret (v:=.agg cs.toArray) (results_cell_row hr a.tmps w g T cs.toArray (0,0) d (by simp[Array.getD_eq_getD_getElem?,hs.get p _ hp]) (hw.own _ (List.mem_of_getElem? hk)) ht hd (by simpa using hs')) (hs.dfr.trans hz) (h w hw)
end
theorem i64_in (x:Int) (h1:-9223372036854775808≤x) (h2:x≤9223372036854775807):IntKind.i64.wrap x=x:=IntWalk.i64_in x (by omega)
theorem qV (x:Int) (h1:0≤x) (h2:x≤4294967295):IntKind.u32.wrap x=x:=by
 simp only[IntKind.wrap,IntKind.bits,IntKind.signed];simp;omega
theorem u64_in (x:Int) (h1:0≤x) (h2:x≤18446744073709551615):IntKind.u64.wrap x=x:=by
 simp only[IntKind.wrap,IntKind.bits,IntKind.signed];simp;omega
theorem u8_in (x:Int) (h1:0≤x) (h2:x≤255):IntKind.u8.wrap x=x:=by
 simp only[IntKind.wrap,IntKind.bits,IntKind.signed];simp;omega
end Go.Proofs.YtkaepknpplhgkaaGreatDoor
namespace Go.Proofs.YtkaepknpplhgkaaGreatDoor
open Go.RowKit
section
variable {P:Program}{n:Fr}{m:List (Nat×Value)}{ty:TypeId}{x y:Operand}{t e:TypeId}
theorem foldl_set (vs:List Value):∀(k o:Nat) (pre mid post:List Value),pre.length=o+k→mid.length=vs.length →
  (vs.zipIdx k).foldl (fun (cs:Array Value) (p:Value×Nat)=>cs.setIfInBounds (o+p.2) p.1) (pre++mid++post).toArray=(pre++vs++post).toArray:=by
 induction vs with
 | nil=>intro k o pre mid post _ h;simp at h;subst h;rfl
 | cons v vs ih =>
  intro k o pre mid post h1 h2
  cases mid with
  | nil=>simp at h2
  | cons u mid =>
   simp only[List.zipIdx_cons,List.foldl_cons]
   have e1:(pre++u::mid++post).toArray.setIfInBounds (o+k) v=((pre++[v])++mid++post).toArray:=by
    rw[List.setIfInBounds_toArray];congr 1;rw[List.append_assoc,List.set_append_right _ _ (by omega)];have:o+k-pre.length=0:=by omega
    rw[this];simp
   rw[e1,ih (k+1) o (pre++[v]) mid post (by simp;omega) (by simpa using h2)];simp
theorem nJ {size off:Nat}{place:Nat→Option (Nat×Nat)}{i:Nat}{v:Value}{vs pre mid post:List Value}(hp:place i=some (off,size)) (hv:v.cells=vs.toArray) (hs:vs.length=size) (h1:pre.length=off) (h2:mid.length=size) (rest:List (Nat×Value)) :
  Instr.fill place (pre++mid++post).toArray ((i,v)::rest)=Instr.fill place (pre++vs++post).toArray rest:=by
 have:=foldl_set vs 0 off pre mid post (by omega) (by omega);simp only[Instr.fill,hp,hv,List.size_toArray];rw[if_neg (by simp[hs];omega)];congr 1;rw[← this];simp
theorem run_bs {parts:Array (Nat×Value)}{len:Nat}{z:Value}{size:Nat}{cs:List Value}(ht:P.underlying t=some (.slice e)) (hz:(P.info? e).bind (·.zero)=some z) (hs:(P.info? e).map (·.size)=some size) (hlen:len*size≤16777216) (h0:len*size≠0)
  (hf:∀mid:List Value,mid.length=len*size→Instr.fill (fun i=>some (i*size,size)) mid.toArray parts.toList=some cs.toArray) (w:World) :
  (Instr.buildSlice t len parts).run P w=.ok (.slice (some ⟨w.heap.size,0,none⟩) len len) (w.alloc (bk e cs)):=by
 cases hq:P.info? e with
 | none=>simp[hq] at hz
 | some i =>
  have hz':i.zero=some z:=by simpa [hq] using hz
  have hs':i.size=size:=by simpa [hq] using hs
  have hfill:=hf ((Array.range (len*size)).map (z.cells[·%z.cells.size]!)).toList (by simp);simp only[Array.toArray_toList] at hfill;have hlen':¬16777216<len*size:=by omega
  simp[Instr.buildSlice,run_underlying ht,sizeOf,typeInfo,zeroValue,hq,hz',hs',hfill,newRow,hlen'];exact fun h=>absurd h h0
def setParts (places:List (Nat×Nat)):List Value→List (Nat×Value)→List Value
 | z,[]=>z
 | z,(i,v)::r=>match places[i]? with
  | some (off,size)=>setParts places (z.take off++v.cells.toList++z.drop (off+size)) r
  | none=>[]
def partsOk (places:List (Nat×Nat)) (len:Nat):List (Nat×Value)→Bool
 | []=>true
 | (i,v)::r=>(match places[i]? with
  | some (off,size)=>Nat.beq v.cells.size size&&Nat.ble (off+size) len
  | none=>false)&&partsOk places len r
theorem fill_parts (places:List (Nat×Nat)):∀(vs:List (Nat×Value)) (z:List Value),partsOk places z.length vs=true→Instr.fill (places.toArray[·]?) z.toArray vs=some (setParts places z vs).toArray
 | [],z,_=>rfl
 | (i,v)::r,z,h=>by
  simp only[partsOk,Bool.and_eq_true] at h;obtain⟨h1,h2⟩:=h
  cases hp:places[i]? with
  | none=>rw[hp] at h1;cases h1
  | some q =>
   obtain⟨off,size⟩:=q;rw[hp] at h1;simp only[Bool.and_eq_true] at h1;have hs:v.cells.size=size:=Nat.eq_of_beq_eq_true h1.1;have hle:=Nat.le_of_ble_eq_true h1.2
   have e1:z=z.take off++(z.drop off).take size++z.drop (off+size):=by
    rw[List.append_assoc,← List.drop_drop,List.take_append_drop,List.take_append_drop]
   have:=nJ (place:=(places.toArray[·]?)) (i:=i) (off:=off) (size:=size) (v:=v) (vs:=v.cells.toList) (pre:=z.take off) (mid:=(z.drop off).take size) (post:=z.drop (off+size)) (by simp[hp]) (by simp) (by simpa using hs) (by simp;omega) (by simp;omega) r;rw[← e1] at this
   rw[this,fill_parts places r _ (by
    have hl:(z.take off++v.cells.toList++z.drop (off+size)).length=z.length:=by simp[hs];omega
    rw[hl];exact h2)]
   simp[setParts,hp]
def placesOf (P:Program) (t:TypeId):Option (List (Nat×Nat)):=match P.underlying t with
 | some (.struct fs)=>fs.toList.mapM fun f=>(P.info? f.type).map fun i=>(f.offset,i.size)
 | _=>none
theorem yf_buildS {H:World→Prop}{parts:List (Nat×Operand)}{vs:List (Nat×Value)}(z:List Value) (places:List (Nat×Nat)) (hp:evs m parts=some vs) (hz:(P.info? t).bind (fun i=>i.zero.map (·.cells))=some z.toArray) (hpl:placesOf P t=some places) (hok:partsOk places z.length vs=true) :
  YF P (.build t parts.toArray) ty n m H (.agg (setParts places z vs).toArray):=by
 refine wM hp ?_
 cases hq:P.info? t with
 | none=>simp[hq] at hz
 | some it =>
  unfold placesOf at hpl
  split at hpl
  ·rename_i fs hu
   cases hzz:it.zero with
   | none=>simp[hq,hzz] at hz
   | some zz =>
    have hc:zz.cells=z.toArray:=by simpa [hq,hzz] using hz
    simp only[Program.built,hq,hu,hzz,hpl,hc];exact fill_parts places vs z hok
  ·cases hpl
theorem nf_bs1 {v:Value}{cs:List Value}{z:Value}(hx:ev m x=some v) (hc:v.cells=cs.toArray) (ht:P.underlying t=some (.slice e)) (hz:(P.info? e).bind (·.zero)=some z) (hs':(P.info? e).map (·.size)=some cs.length) (hl:Nat.blt 0 cs.length=true) (hl2:Nat.ble cs.length 16777216=true) :
  NF P (.buildSlice t 1 #[(0,x)]) ty n m (bk e cs) (fun g=>.slice (some ⟨g,0,none⟩) 1 1):=fun a w d pos af gd hs=>by
 have h0:0<cs.length:=by simpa [Nat.blt_eq] using hl
 have h1:=Nat.le_of_ble_eq_true hl2
 have:=run_bs (P:=P) (parts:=#[(0,v)]) (len:=1) ht hz hs' (by omega) (by omega) (cs:=cs) (fun mid hm=>by
  have:=nJ (place:=fun i=>some (i*cs.length,cs.length)) (i:=0) (off:=0) (pre:=[]) (mid:=mid) (post:=[]) (by simp) hc rfl rfl (by simpa using hm) [];simp only[List.nil_append,List.append_nil] at this
  exact this) w
 simp[execOp,hs.ev hx,this]
theorem pU {v u:Value}{cs ds:List Value}{z:Value}(hx:ev m x=some v) (hy:ev m y=some u) (hc:v.cells=cs.toArray) (hd:u.cells=ds.toArray) (ht:P.underlying t=some (.slice e)) (hz:(P.info? e).bind (·.zero)=some z) (hs':(P.info? e).map (·.size)=some cs.length) (hl:Nat.blt 0 cs.length=true) (hl2:Nat.ble cs.length 8388608=true) (hcd:ds.length=cs.length) :
  NF P (.buildSlice t 2 #[(0,x),(1,y)]) ty n m (bk e (cs++ds)) (fun g=>.slice (some ⟨g,0,none⟩) 2 2):=fun a w d pos af gd hs=>by
 have h0:0<cs.length:=by simpa [Nat.blt_eq] using hl
 have h1:=Nat.le_of_ble_eq_true hl2
 have:=run_bs (P:=P) (parts:=#[(0,v),(1,u)]) (len:=2) ht hz hs' (by omega) (by omega) (cs:=cs++ds) (fun mid hm=>by
  have e1:mid=mid.take cs.length++mid.drop cs.length:=(List.take_append_drop _ _).symm;have f1:=nJ (place:=fun i=>some (i*cs.length,cs.length)) (i:=0) (off:=0) (pre:=[]) (mid:=mid.take cs.length) (post:=mid.drop cs.length) (by simp) hc rfl rfl (by simp;omega) [(1,u)];have f2:=nJ (place:=fun i=>some (i*cs.length,cs.length)) (i:=1) (off:=cs.length) (pre:=cs) (mid:=mid.drop cs.length) (post:=[]) (by simp) hd hcd rfl (by simp;omega) [];simp only[List.nil_append,List.append_nil] at f1 f2;rw[e1,f1,f2]
  rfl) w
 simp[execOp,hs.ev hx,hs.ev hy,this]
section
variable {G B:Nat→Prop}{w0 w:World}{L:List (Nat×Obj)}{R:List Rw}{X:World→Prop}
theorem ch_append {a:Act}{d:Option Tmp}{pos:String}{af:Array Edge}{gd:Option (Nat×Bool)}{r:Rw}{c mm:Nat}{ad:Addr}{news:List Value}{z:Value}{bytes:Nat}(hs:Sat n m a) (k:Nat) (hx:ev m x=some r.v) (hk:R[k]? = some r) (hy:ev m y=some (.slice (some ad) mm c)) (hn:∀j u,news[j]? = some u→w.cell? (ad.add j)=some u)
  (ht:P.underlying t=some (.slice r.E)) (hi:(P.info? r.E).map (fun i=>(i.zero,i.size,i.bytes))=some (some z,r.size,bytes)) (hzs:z.cells.size=r.size) (hsz:0<r.size) (hl:news.length=mm*r.size) (h1:∀v∈news,v.oneCell'=true) (hm:0<mm) (h63:r.n+mm≤9223372036854775807) (hb:(r.n+mm)*bytes≤140737488355328)
  (hw:Hp B w0 L R X w):Ch P ⟨d,.call { callee:=.builtin .append,args:=#[x,y],argTypes:=#[t,t] },ty,pos,af,gd⟩ a w fun v w'=>∃g cap,v=.slice (some ⟨g,0,none⟩) (r.n+mm) cap∧Hp B w0 L (R.set k ⟨.slice (some ⟨g,0,none⟩) (r.n+mm) cap,r.E,r.size,r.n+mm,r.xs++news⟩) X w':=by
 have hown:=HpG.rows hw r (List.mem_of_getElem? hk)
 obtain⟨i,hq,hz,hs1,hb1⟩:∃i,P.info? r.E=some i∧i.zero=some z∧i.size=r.size∧i.bytes=bytes:=by
  cases hq:P.info? r.E with
  | none=>simp[hq] at hi
  | some i=>exact⟨i,rfl,by simpa [hq] using hi⟩
 obtain⟨g,cap,w',hr,h2,h3,h4,h5⟩:=run_append_lies (P:=P) (w:=w) t ty w0.heap.size r.E i z r.size bytes ht hq hz hs1 hb1 hzs hsz r.v r.n r.xs hown ad mm c news hl hn h1 hm (by unfold maxLen;omega) hb (HpG.size hw) _ rfl
 have hrun:(execOp a.eval ⟨d,.call { callee:=.builtin .append,args:=#[x,y],argTypes:=#[t,t] },ty,pos,af,gd⟩).run P w=.ok (.value (.slice (some ⟨g,0,none⟩) (r.n+mm) cap)) w':=by
  simp[execOp,resolve,invoke,builtin,hs.ev hx,hs.ev hy,hr]
 unfold Ch;rw[hrun];refine⟨g,cap,rfl,Hp.row hw hk h3 h2 ?_⟩;rcases h4 with h4|h4
 ·exact .inl h4.symm
 ·exact .inr fun b hb'=>by
   have:b=g:=by simpa [Value.ownBlock] using hb'.symm
   omega
theorem cf_append {r:Rw}{c mm g:Nat}{T:TypeId}{news:List Value}{z:Value}{bytes:Nat}(k:Nat) (j:Nat) (hx:ev m x=some r.v) (hk:R[k]? = some r) (hy:ev m y=some (.slice (some ⟨g,0,none⟩) mm c)) (hj:L[j]? = some (g,bk T news))
  (ht:P.underlying t=some (.slice r.E)) (hi:(P.info? r.E).map (fun i=>(i.zero,i.size,i.bytes))=some (some z,r.size,bytes)) (hzs:z.cells.size=r.size) (hsz:Nat.blt 0 r.size=true) (hl:news.length=mm*r.size) (h1:news.all (·.oneCell')=true) (hm:Nat.blt 0 mm=true) (h63:r.n+mm≤9223372036854775807) (hb:(r.n+mm)*bytes≤140737488355328) :
  CF P (.call { callee:=.builtin .append,args:=#[x,y],argTypes:=#[t,t] }) ty n m (Hp B w0 L R X) (fun i:Nat×Nat=>.slice (some ⟨i.1,0,none⟩) (r.n+mm) i.2) (fun i=>Hp B w0 L (R.set k ⟨.slice (some ⟨i.1,0,none⟩) (r.n+mm) i.2,r.E,r.size,r.n+mm,r.xs++news⟩) X):=fun a w d pos af gd hs hw =>
 (ch_append hs k hx hk hy (fun j' u hu=>by rw[Addr.add_mid,Nat.zero_add];exact HpG.cell hw hj hu) ht hi hzs (by simpa [Nat.blt_eq] using hsz) hl (List.all_eq_true.1 h1) (by simpa [Nat.blt_eq] using hm) h63 hb hw).mono fun v w' ⟨g,cap,h1,h2⟩=>⟨(g,cap),h1,h2⟩
theorem wl_append {ops:Array Oper}{Q:Exit→Act→World→Prop}{rest:List Oper}{d:Nat}{pos:String}{af:Array Edge}{gd:Option (Nat×Bool)}{v:Value}{E size len:Nat}{xs:List Value}{c mm g:Nat}{T:TypeId}{news:List Value}{z:Value}{bytes:Nat}(k:Nat) (j:Nat) (hg:Gd ops m gd) (hd:Nat.blt d n=true) (hk:R[k]? = some ⟨v,E,size,len,xs⟩) (hj:L[j]? = some (g,bk T news)) (hx:ev m x=some v) (hy:ev m y=some (.slice (some ⟨g,0,none⟩) mm c))
  (ht:P.underlying t=some (.slice E)) (hi:(P.info? E).map (fun i=>(i.zero,i.size,i.bytes))=some (some z,size,bytes)) (hzs:z.cells.size=size) (hsz:Nat.blt 0 size=true) (hl:news.length=mm*size) (h1:news.all (·.oneCell')=true) (hm:Nat.blt 0 mm=true) (h63:len+mm≤9223372036854775807) (hb:(len+mm)*bytes≤140737488355328)
  (h:∀b cap,WL P ops Q rest n ((d,.slice (some ⟨b,0,none⟩) (len+mm) cap)::m) (Hp B w0 L (R.set k ⟨.slice (some ⟨b,0,none⟩) (len+mm) cap,E,size,len+mm,xs++news⟩) X)) :
  WL P ops Q (⟨some d,.call { callee:=.builtin .append,args:=#[x,y],argTypes:=#[t,t] },ty,pos,af,gd⟩::rest) n m (Hp B w0 L R X) :=
 xY hg hd (cf_append (r:=⟨v,E,size,len,xs⟩) k j hx hk hy hj ht hi hzs hsz hl h1 hm h63 hb) fun i=>h i.1 i.2
theorem cf_turnE {ι:Type}{C:ι→Prop}{val:ι→Value}{ob':ι→Obj}{f:FuncId}{args:List Operand}{ats:Array TypeId}{vs:List Value}{ob:Obj}{g:Nat}(k:Nat) (hf:goes P f=true) (ha:evl m args=some vs) (hk:L[k]? = some (g,ob))
  (hC:∀w,w.heap[g]? = some ob→HpG G B w0 L R X w→Calls P f vs.toArray w fun e w'=>∃i,C i∧e=.returned (val i)∧Keep (fun j=>j=g) w w'∧w'.heap[g]? = some (ob' i)) :
  CF P (.call { callee:=.value (.func f),args:=args.toArray,argTypes:=ats }) ty n m (HpG G B w0 L R X) (fun i:{i // C i}=>val i.1) (fun i=>HpG G B w0 (L.set k (g,ob' i.1)) R X) :=
 rF hf ha fun w hw=>(hC w (hw.own _ (List.mem_of_getElem? hk)) hw).mono fun _ _ ⟨i,c,e1,e2,e3⟩=>⟨_,e1,⟨i,c⟩,rfl,hw.turn hk e2 e3⟩
theorem cf_pureE {ι:Type}{C:ι→Prop}{val:ι→Value}{f:FuncId}{args:List Operand}{ats:Array TypeId}{vs:List Value}(hf:goes P f=true) (ha:evl m args=some vs)
  (hC:∀w,HpG G B w0 L R X w→Calls P f vs.toArray w fun e w'=>∃i,C i∧e=.returned (val i)∧Ext w w') :
  CF P (.call { callee:=.value (.func f),args:=args.toArray,argTypes:=ats }) ty n m (HpG G B w0 L R X) (fun i:{i // C i}=>val i.1) (fun _=>HpG G B w0 L R X) :=
 rF hf ha fun w hw=>(hC w hw).mono fun _ _ ⟨i,c,e1,e2⟩=>⟨_,e1,⟨i,c⟩,rfl,hw.onE e2⟩
theorem wl_turnE {ι:Type}{C:ι→Prop}{ops:Array Oper}{Q:Exit→Act→World→Prop}{rest:List Oper}{d:Nat}{pos:String}{af:Array Edge}{gd:Option (Nat×Bool)}{val:ι→Value}{ob':ι→Obj}{f:FuncId}{args:List Operand}{ats:Array TypeId}{vs:List Value}{ob:Obj}{g:Nat}(hg:Gd ops m gd) (hd:Nat.blt d n=true) (k:Nat) (hf:goes P f=true) (ha:evl m args=some vs) (hk:L[k]? = some (g,ob))
  (hC:∀w,w.heap[g]? = some ob→HpG G B w0 L R X w→Calls P f vs.toArray w fun e w'=>∃i,C i∧e=.returned (val i)∧Keep (fun j=>j=g) w w'∧w'.heap[g]? = some (ob' i))
  (h:∀i,C i→WL P ops Q rest n ((d,val i)::m) (HpG G B w0 (L.set k (g,ob' i)) R X)):WL P ops Q (⟨some d,.call { callee:=.value (.func f),args:=args.toArray,argTypes:=ats },ty,pos,af,gd⟩::rest) n m (HpG G B w0 L R X) :=
 xY hg hd (cf_turnE k hf ha hk hC) fun i=>h i.1 i.2
theorem wl_pureE {ι:Type}{C:ι→Prop}{ops:Array Oper}{Q:Exit→Act→World→Prop}{rest:List Oper}{d:Nat}{pos:String}{af:Array Edge}{gd:Option (Nat×Bool)}{val:ι→Value}{f:FuncId}{args:List Operand}{ats:Array TypeId}{vs:List Value}(hg:Gd ops m gd) (hd:Nat.blt d n=true) (hf:goes P f=true) (ha:evl m args=some vs)
  (hC:∀w,HpG G B w0 L R X w→Calls P f vs.toArray w fun e w'=>∃i,C i∧e=.returned (val i)∧Ext w w')
  (h:∀i,C i→WL P ops Q rest n ((d,val i)::m) (HpG G B w0 L R X)):WL P ops Q (⟨some d,.call { callee:=.value (.func f),args:=args.toArray,argTypes:=ats },ty,pos,af,gd⟩::rest) n m (HpG G B w0 L R X) :=
 xY hg hd (cf_pureE hf ha hC) fun i=>h i.1 i.2
theorem xW {ops:Array Oper}{Q:Exit→Act→World→Prop}{rest:List Oper}{d:Nat}{pos:String}{af:Array Edge}{gd:Option (Nat×Bool)}{v:Value}{f:FuncId}{args:List Operand}{ats:Array TypeId}{vs:List Value}(hg:Gd ops m gd) (hd:Nat.blt d n=true) (hf:goes P f=true) (ha:evl m args=some vs)
  (hC:∀w,HpG G B w0 L R X w→Calls P f vs.toArray w fun e w'=>e=.returned v∧Ext w w')
  (h:WL P ops Q rest n ((d,v)::m) (HpG G B w0 L R X)):WL P ops Q (⟨some d,.call { callee:=.value (.func f),args:=args.toArray,argTypes:=ats },ty,pos,af,gd⟩::rest) n m (HpG G B w0 L R X) :=
 xY hg hd (cf_pure hf ha hC) fun _=>h
theorem Hp.drop {L':List (Nat×Obj)}{R':List Rw}(h:Hp B w0 L R X w) (hL:L'.Sublist L) (hR:R'.Sublist R):Hp B w0 L' R' X w:=by
 have hsub:(uR L' R').Sublist (uR L R):=(hL.map _).append (hR.filterMap _);obtain⟨F,hF,hx⟩:=HpG.foot h;exact⟨HpG.keep h,fun p hp=>HpG.own h p (hL.subset hp),fun p hp=>HpG.mine h p (hL.subset hp),fun r hr=>HpG.rows h r (hR.subset hr),(HpG.nd h).sublist hsub,fun _ _=>trivial,F,fun k hk=>⟨(hF k hk).1,(hF k hk).2.1,fun hx=>(hF k hk).2.2.1 (hsub.subset hx),trivial⟩,hx⟩
end
end
end Go.Proofs.YtkaepknpplhgkaaGreatDoor
