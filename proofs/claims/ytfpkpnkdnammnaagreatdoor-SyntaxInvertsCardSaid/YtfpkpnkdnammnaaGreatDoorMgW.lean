/- Turned: a program with one change. -/
import Derived.Test.YtfpkpnkdnammnaaGreatDoorMgU
import Derived.Test.YtfpkpnkdnammnaaGreatDoorSxR
namespace Go.Proofs.YtfpkpnkdnammnaaGreatDoor
open Go.RowKit
section
variable {P:Program}{Q:Exit→Act→World→Prop}{n:Nat}{m:List (Nat×Value)}{H:World→Prop}
theorem sW {ι:Type}{I:ι→List (Nat×Value)}{HI:ι→World→Prop}(h:∀w,H w→∃i,Pr m (I i)∧HI i w):WQ (Exit.then (fun a w=>∃i,Sat n (I i) a∧HI i w) Q) .normal n m H:=fun _ w hs hw=>by
 obtain⟨i,h1,h2⟩:=h w hw;exact⟨i,hs.weak h1,h2⟩
end
section
variable {ca cb m:List Value}{q j:Nat}{v:Value}
theorem qM (hc:ca.length=3*q) (h:m[j]? = some v) (o:Nat) (ho:o=3*q+j):(ca++m++cb)[o]? = some v:=by
 have hj:=(List.getElem?_eq_some_iff.1 h).1;rw[List.append_assoc,List.getElem?_append_right (by omega),List.getElem?_append_left (by omega)];rw[show o-ca.length=j by omega];exact h
theorem rK (hc:ca.length=3*q) (hj:j<m.length) (o:Nat) (ho:o=3*q+j):(ca++m++cb).set o v=ca++m.set j v++cb:=by
 rw[List.append_assoc,List.set_append_right _ _ (by omega),List.set_append_left _ _ (by omega),show o-ca.length=j by omega,List.append_assoc]
end
/-- The cells of the program when one function has been changed. -/
structure TuK (fs:List Fn) (q:Nat) (ca cb:List Value) (F:Nat→Prop) (u:World):Prop where
 a:FnsV F u (fs.take q) ca
 b:FnsV F u (fs.drop (q+1)) cb
theorem TuK.put {fs:List Fn}{q:Nat}{ca cb:List Value}{F F':Nat→Prop}{u:World}{f:Fn}{a:FnA}(h:TuK fs q ca cb F u) (hq:q<fs.length) (k:fnsK F' u f a):FnsV (fun k=>F k∨F' k) u (fs.set q f) (ca++wK f a++cb):=by
 rw[List.set_eq_take_append_cons_drop,if_pos hq];show FnsV _ u (fs.take q++(f::fs.drop (q+1))) _;rw[List.append_assoc];exact FnsV.append (FnsV.lies.mono (fun _ h=>.inl h) h.a) (FnsV.append (l:=[f]) (FnsV.lies.mono (fun _ h=>.inr h) k.one) (FnsV.lies.mono (fun _ h=>.inl h) h.b))
theorem TuK.lies {fs:List Fn}{q:Nat}{ca cb:List Value}:Lies fun F u=>TuK fs q ca cb F u :=
 ⟨fun hk ⟨a,b⟩=>⟨FnsV.lies.foot hk a,FnsV.lies.foot hk b⟩,fun ⟨a,b⟩=>⟨FnsV.lies.lt a,FnsV.lies.lt b⟩,fun hF ⟨a,b⟩=>⟨FnsV.lies.mono hF a,FnsV.lies.mono hF b⟩⟩
/-- A body with one statement more. -/
theorem fn_snoc {F F2 G:Nat→Prop}{u:World}{f:Fn}{A1 A2:Option Addr}{c1 c2:Nat}{xb:List Value}{t:St}{a:StA}(p1:Cp f.params.length c1) (p2:Cp (f.body.length+1) c2) (h1:RdF G A1 (xX f.params) u) (h2:RdF G A2 (xb++rR t a) u) (k:StsV F u f.body xb) (k2:stsK F2 u t a):fnsK (fun k=>(F k∨F2 k)∨G k) u ⟨f.name,f.params,f.body++[t]⟩ ⟨A1,A2,c1,c2⟩ :=
 ⟨p1,by show Cp (f.body++[t]).length c2;rw[List.length_append];exact p2,RdF.lies.mono (fun _ h=>.inr h) h1,⟨_,RdF.lies.mono (fun _ h=>.inr h) h2,StsV.lies.mono (fun _ h=>.inl h) (StsV.snoc k k2)⟩⟩
theorem fn_cons {F F2 G:Nat→Prop}{u:World}{f:Fn}{A1 A2:Option Addr}{c1 c2:Nat}{xb:List Value}{t:St}{a:StA}(p1:Cp f.params.length c1) (p2:Cp (1+f.body.length) c2) (h1:RdF G A1 (xX f.params) u) (h2:RdF G A2 (rR t a++xb) u) (k:StsV F u f.body xb) (k2:stsK F2 u t a):fnsK (fun k=>(F k∨F2 k)∨G k) u ⟨f.name,f.params,t::f.body⟩ ⟨A1,A2,c1,c2⟩ :=
 ⟨p1,by show Cp (f.body.length+1) c2;rw[Nat.add_comm];exact p2,RdF.lies.mono (fun _ h=>.inr h) h1,⟨_,RdF.lies.mono (fun _ h=>.inr h) h2,StsV.append (l:=[t]) (StsV.lies.mono (fun _ h=>.inl (.inr h)) k2.one) (StsV.lies.mono (fun _ h=>.inl (.inl h)) k)⟩⟩
end Go.Proofs.YtfpkpnkdnammnaaGreatDoor
/- Turned: a program with one change. -/
namespace Go.Proofs.YtfpkpnkdnammnaaGreatDoor
open Go.RowKit
theorem CpP.last {fs:List Fn}{q n0:Nat}{F:Nat→Prop}{i:Nat}{cs:List Value}{rows:List Rw}{X:World→Prop}(h:CpP fs q n0 F i cs rows X) (hi:q<i):∃(f:Fn) (G:Nat→Prop) (ca cb xb:List Value) (a:FnA),fs[q]? = some f∧(∀k,G k→F k∨n0≤k)∧cs=ca++wK f a++cb∧rows=cpR f a xb∧X=fun u=>FnsV G u (fs.take q) ca∧FnsV G u ((fs.drop (q+1)).take (i-(q+1))) cb∧StsV G u f.body xb:=by
 cases h with
 | pre G hi' hG=>omega
 | post f G ca cb xb a hi' hf hG hcs=>exact⟨f,G,ca,cb,xb,a,hf,hG,hcs,rfl,rfl⟩
section
variable {ops:Array Oper}{Q:Exit→Act→World→Prop}{n:Nat}{m:List (Nat×Value)}{ty:TypeId}{w0:World}{L:List (Nat×Obj)}{R:List Rw}{X:World→Prop}{rest:List Oper}{d:Nat}{pos:String}{af:Array Edge}{gd:Option (Nat×Bool)}{args:List Operand}{ats:Array TypeId}
set_option maxRecDepth 100000 in
theorem wl_copy (fs:List Fn) (q:Nat) (F00:Nat→Prop) (A0:Option Addr) (c0:Nat) (v0:World) (hP:PgK F00 v0 fs A0 c0) (hX:∀u,X u→xF F00 v0 u) (hlen:fs.length≤1000000) (hsz:∀f∈fs,f.params.length≤1000000∧f.body.length≤1000000) (hg:Gd ops m gd) (hd:Nat.blt d n=true) (ha:evl m args=some [.agg [Value.slice A0 fs.length c0].toArray])
  (h:∀j:CpJ,CpOk fs q w0.heap.size F00 j→j.i=fs.length→WL Tryz.prog ops Q rest n ((d,.agg #[.slice j.A j.i j.cap])::m) (Hp (fun _=>False) w0 L (⟨.slice j.A j.i j.cap,62,3,j.i,j.cs⟩::(j.rows++R)) (fun u=>j.X u∧X u))) :
  WL Tryz.prog ops Q (⟨some d,.call { callee:=.value (.func 41),args:=args.toArray,argTypes:=ats },ty,pos,af,gd⟩::rest) n m (Hp (fun _=>False) w0 L R X) :=
 xQ (ι:={j:CpJ // CpOk fs q w0.heap.size F00 j∧j.i=fs.length}) (val:=fun j=>.agg #[.slice j.1.A j.1.i j.1.cap]) (H':=fun j=>Hp (fun _=>False) w0 L (⟨.slice j.1.A j.1.i j.1.cap,62,3,j.1.i,j.1.cs⟩::(j.1.rows++R)) (fun u=>j.1.X u∧X u)) hg hd
  (wB (by kernel_rfl) ha fun w hw=>(copy_any fs q F00 A0 c0 v0 w0 L R X w hP hX hw hlen hsz).mono fun _ w' ⟨j,e1,e2,e3,e4⟩=>⟨_,e3,⟨j,e1,e2⟩,rfl,e4⟩) fun j=>h j.1 j.2.1 j.2.2
end
section
variable {P:Program}{ops:Array Oper}{Q:Exit→Act→World→Prop}{n:Nat}{m:List (Nat×Value)}{ty:TypeId}{B:Nat→Prop}{w0:World}{L:List (Nat×Obj)}{R:List Rw}{X:World→Prop}{rest:List Oper}{d:Nat}{pos:String}{af:Array Edge}{gd:Option (Nat×Bool)}
/-- append of a block that is known by a fact. -/
theorem wl_appendF {x y:Operand}{t:TypeId}{v:Value}{E size len:Nat}{xs:List Value}{c mm g T:Nat}{news:List Value}{z:Value}{bytes:Nat}(k:Nat) (hg:Gd ops m gd) (hd:Nat.blt d n=true) (hk:R[k]? = some ⟨v,E,size,len,xs⟩) (hB:∀w,Hp B w0 L R X w→Blk g (bk T news) w) (hx:ev m x=some v) (hy:ev m y=some (.slice (some ⟨g,0,none⟩) mm c))
  (ht:P.underlying t=some (.slice E)) (hi:(P.info? E).map (fun i=>(i.zero,i.size,i.bytes))=some (some z,size,bytes)) (hzs:z.cells.size=size) (hsz:Nat.blt 0 size=true) (hl:news.length=mm*size) (h1:news.all (·.oneCell')=true) (hm:Nat.blt 0 mm=true) (h63:len+mm≤9223372036854775807) (hb:(len+mm)*bytes≤140737488355328)
  (h:∀b cap,WL P ops Q rest n ((d,.slice (some ⟨b,0,none⟩) (len+mm) cap)::m) (Hp B w0 L (R.set k ⟨.slice (some ⟨b,0,none⟩) (len+mm) cap,E,size,len+mm,xs++news⟩) X)) :
  WL P ops Q (⟨some d,.call { callee:=.builtin .append,args:=#[x,y],argTypes:=#[t,t] },ty,pos,af,gd⟩::rest) n m (Hp B w0 L R X) :=
 xQ (ι:=Nat×Nat) (val:=fun i=>.slice (some ⟨i.1,0,none⟩) (len+mm) i.2) (H':=fun i=>Hp B w0 L (R.set k ⟨.slice (some ⟨i.1,0,none⟩) (len+mm) i.2,E,size,len+mm,xs++news⟩) X) hg hd
  (fun _ _ _ _ _ _ hs hw=>(ch_append (r:=⟨v,E,size,len,xs⟩) hs k hx hk hy (fun j' u hu=>by
   rw[Addr.add_mid,Nat.zero_add,cell_of_row _ g _ _ _ _ (hB _ hw),List.getElem?_toArray];exact hu) ht hi hzs (by simpa [Nat.blt_eq] using hsz) hl (List.all_eq_true.1 h1) (by simpa [Nat.blt_eq] using hm) h63 hb hw).mono fun v w' ⟨g,cap,h1,h2⟩=>⟨(g,cap),h1,h2⟩) fun i=>h i.1 i.2
end
def FB (F:Nat→Prop) (x:Nat) (ob:Obj) (u:World):Prop:=F x∧x<u.heap.size∧Blk x ob u
theorem tdiv9 (n:Int) (h1:-9223372036854775808≤n) (h2:n≤9223372036854775807):IntKind.i64.wrap (n.tdiv 9)=n.tdiv 9:=by
 have h3:=Int.mul_tdiv_add_tmod n 9;have h4:=mod_eq n 9 (by decide);exact i64_in _ (by omega) (by omega)
/-- The end of each change: what was turned becomes the program. -/
theorem tu_fin {fs:List Fn}{q n0 g cap l1 l2 c1 c2:Nat}{ca cb cs' xb ps:List Value}{F00 G F':Nat→Prop}{A1 A2:Option Addr}{w0 w:World}{L:List (Nat×Obj)}{X:World→Prop}{f':Fn}(hq:q<fs.length) (h:Hp (fun _=>False) w0 L [⟨.slice (some ⟨g,0,none⟩) fs.length cap,62,3,fs.length,cs'⟩,⟨.slice A2 l2 c2,60,5,l2,xb⟩,⟨.slice A1 l1 c1,9,1,l1,ps⟩] X w) (hn:n0=w0.heap.size)
  (hG:∀k,G k→F00 k∨n0≤k) (hF':∀k,F' k→F00 k∨n0≤k) (hT:∀u,X u→TuK fs q ca cb G u) (hcs:cs'=ca++wK f' ⟨A1,A2,c1,c2⟩++cb) (hk:Cp l1 c1→Cp l2 c2→∀(Gb:Nat→Prop) u,RdF Gb A1 ps u→RdF Gb A2 xb u→X u→fnsK (fun k=>F' k∨Gb k) u f' ⟨A1,A2,c1,c2⟩) :
  ∃(cs:List Value) (F:Nat→Prop),(∀k,F k→F00 k∨n0≤k)∧Hp (fun _=>False) w0 L [⟨.slice (some ⟨g,0,none⟩) fs.length cap,62,3,fs.length,cs⟩] (fun u=>FnsV F u (fs.set q f') cs) w:=by
 have hc2:=HpG.rowCp h (j:=1) rfl;have hc1:=HpG.rowCp h (j:=2) rfl;have h1:=Hp.swapR h (List.perm_append_comm (l₁:=[_]) (l₂:=[_,_]));obtain⟨Gb,hGb,h2⟩:=Hp.rowX h1;obtain⟨Gp,hGp,h3⟩:=Hp.rowX h2;subst hn;refine⟨cs',fun k=>G k∨(F' k∨(Gp k∨Gb k)),fun k hk=>hk.elim (hG k) fun hk=>hk.elim (hF' k) fun hk=>.inr (hk.elim (hGp k) (hGb k)),Hp.weakX h3 fun u hu=>?_⟩;rw[hcs];exact TuK.put (hT u hu.2.2) hq (hk hc1 hc2 (fun k=>Gp k∨Gb k) u (RdF.lies.mono (fun _ h=>.inl h) hu.1) (RdF.lies.mono (fun _ h=>.inr h) hu.2.1) hu.2.2)
theorem tail_put {xb seg z:List Value}{k:Nat}(hx:xb.length=5*k) (hs:seg.length=5) (hz:z.length=5) (o:Nat) (ho:o=k*5):(xb++z).take o++seg++(xb++z).drop (o+seg.length)=xb++seg:=by
 rw[ho,List.take_append_of_le_length (by omega),List.take_of_length_le (by omega),List.drop_of_length_le (by rw[List.length_append];omega),List.append_nil]
theorem wrap_u32 (x:Int):IntKind.u32.wrap x=((x%4294967296).toNat:Int):=by
 have h1:=Int.emod_nonneg x (show (4294967296:Int)≠0 by decide);rw[Int.toNat_of_nonneg h1];rfl
theorem exsV_in {F:Nat→Prop}{u:World}:xR F u inE none 0:=xR.leaf
end Go.Proofs.YtfpkpnkdnammnaaGreatDoor
