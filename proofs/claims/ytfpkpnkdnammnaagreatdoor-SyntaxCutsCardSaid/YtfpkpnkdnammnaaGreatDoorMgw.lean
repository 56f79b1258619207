import Derived.Test.YtfpkpnkdnammnaaGreatDoorMge
namespace Go.Proofs.YtfpkpnkdnammnaaGreatDoor
def tU:List Bs:=[[45],[126],[33]]
def xK (k:Nat) (s:Bs) (len:Nat):Bool :=
 if k=1∨k=5 then decide (s=[])&&decide (len=0)
 else if k=2 then yG s&&decide (len=0)
 else if k=3 then yG s
 else if k=4 then decide (s=[])&&decide (len=1)
 else if k=6 then decide (s∈tU)&&decide (len=1)
 else if k=7 then (wA s).isSome&&decide (len=2)
 else false
mutual
def yJ:Ex→Bool
 | .mk k n s kids=>xK k s kids.length&&(decide (k=1)||decide (n=0))&&rightExs kids
def rightExs:List Ex→Bool
 | []=>true
 | x::l=>yJ x&&rightExs l
end
theorem wK:∀l:List Ex,rightExs l=l.all yJ
 | []=>by simp[rightExs]
 | x::l=>by simp[rightExs,wK l]
def pA (k:Nat) (s:Bs) (es b c:Nat):Bool :=
 decide (1≤k)&&decide (k≤8)&&decide (es=if k=3 then 2 else 1)&&(if k=1∨k=2 then yG s else decide (s=[]))&&(decide (k=4∨k=5)||decide (b=0))&&(decide (k=4)||decide (c=0))
mutual
def xH:St→Bool
 | .mk k s es b c=>pA k s es.length b.length c.length&&rightExs es&&rightSts b&&rightSts c
def rightSts:List St→Bool
 | []=>true
 | x::l=>xH x&&rightSts l
end
theorem uQ:∀l:List St,rightSts l=l.all xH
 | []=>by simp[rightSts]
 | x::l=>by simp[rightSts,uQ l]
def vO (f:Fn):Bool:=f.params.all yG&&yG f.name&&rightSts f.body
def wD (l:List Fn):Bool:=l.all vO
def rH {α:Type}(q:α→Bool):List α→Int
 | []=>-1
 | x::r=>if q x=true then 0 else if rH q r<0 then -1 else rH q r+1
structure IxQ {α:Type}(q:α→Bool) (l:List α) (k:Nat):Prop where
 le:k≤l.length
 no:∀j x,j<k→l[j]? = some x→q x=false
variable {α:Type}{q:α→Bool}
theorem idxQ_at {l:List α}{k:Nat}{x:α}(h:IxQ q l k) (hk:l[k]? = some x) (hq:q x=true):rH q l=k:=by
 induction k generalizing l with
 | zero =>
  cases l with
  | nil=>cases hk
  | cons y l=>cases hk;simp[rH,hq]
 | succ k ih =>
  cases l with
  | nil=>cases hk
  | cons y l =>
   have h0:=h.no 0 y (by omega) rfl;have:=ih (l:=l) ⟨by have:=h.le;simp at this;exact this,fun j z hj hz=>h.no (j+1) z (by omega) hz⟩ hk;unfold rH;rw[if_neg (by rw[h0];exact Bool.false_ne_true),this,if_neg (by omega)];simp
theorem idxQ_none {l:List α}(h:IxQ q l l.length):rH q l=-1:=by
 induction l with
 | nil=>rfl
 | cons x l ih =>
  have h0:=h.no 0 x (by simp) rfl;have:=ih ⟨Nat.le_refl _,fun j y hj hy=>h.no (j+1) y (by simpa using hj) hy⟩;unfold rH;rw[if_neg (by rw[h0];exact Bool.false_ne_true),this];rfl
theorem idxQ_ge (l:List α):decide (0≤rH q l)=l.any q:=by
 rw[Bool.eq_iff_iff,decide_eq_true_iff]
 induction l with
 | nil=>simp[rH]
 | cons x l ih =>
  unfold rH;cases h:q x
  ·simp only[Bool.false_eq_true,if_false,List.any_cons,h,Bool.false_or]
   split
   ·rw[← ih];omega
   ·rw[← ih];omega
  ·simp[h]
end Go.Proofs.YtfpkpnkdnammnaaGreatDoor
namespace Go.Proofs.YtfpkpnkdnammnaaGreatDoor
mutual
def exN:Ex→Nat
 | .mk _ _ _ kids=>1+exNs kids
def exNs:List Ex→Nat
 | []=>0
 | x::l=>exN x+exNs l
end
mutual
def exD:Ex→Nat
 | .mk _ _ _ kids=>1+exDs kids
def exDs:List Ex→Nat
 | []=>0
 | x::l=>max (exD x) (exDs l)
end
mutual
def stN:St→Nat
 | .mk _ _ es b c=>1+exNs es+stNs b+stNs c
def stNs:List St→Nat
 | []=>0
 | x::l=>stN x+stNs l
end
mutual
def stV:St→Nat
 | .mk k _ _ b c=>(if k=1 then 1 else 0)+stVs b+stVs c
def stVs:List St→Nat
 | []=>0
 | x::l=>stV x+stVs l
end
mutual
def stBad:Nat→St→Bool
 | d,.mk _ _ es b c=>decide (8<d)||decide (8<exDs es)||stsBad (d+1) b||stsBad (d+1) c
def stsBad:Nat→List St→Bool
 | _,[]=>false
 | d,x::l=>stBad d x||stsBad d l
end
def tG (fs:List Fn) (s:Bs):Int:=rH (fun f:Fn=>decide (f.name=s)) fs
def noFn:Fn:=⟨[],[],[]⟩
def vM (err e:Nat):Nat:=if err=0 then e else err
mutual
def erE (fs:List Fn) (nm:List Bs):Ex→Nat→Nat
 | .mk k _ s kids,err=>erEs fs nm kids (
   if k=2 then (if s∈nm then err else vM err 21)
   else if k=3 then (if tG fs s<0 then vM err 21 else if (fs.getD (tG fs s).toNat noFn).params.length≠kids.length then vM err 23 else err)
   else err)
def erEs (fs:List Fn) (nm:List Bs):List Ex→Nat→Nat
 | [],err=>err
 | x::l,err=>erEs fs nm l (erE fs nm x err)
end
def tX (p:List Bs×Nat) (s:Bs):List Bs×Nat:=(p.1++[s],if s∈p.1 then vM p.2 22 else p.2)
mutual
def ckS (fs:List Fn):St→List Bs×Nat→List Bs×Nat
 | .mk k s es b c,p=>ckB fs c (ckB fs b (
   if k=1 then tX (p.1,erEs fs p.1 es (if k=2∧s∉p.1 then vM p.2 21 else p.2)) s
   else (p.1,erEs fs p.1 es (if k=2∧s∉p.1 then vM p.2 21 else p.2))))
def ckB (fs:List Fn):List St→List Bs×Nat→List Bs×Nat
 | [],p=>p
 | x::l,p=>ckB fs l (ckS fs x p)
end
def ckF (fs:List Fn) (p:Bool×Nat) (f:Fn):Bool×Nat :=
 let deep:=p.1||stsBad 1 f.body
 let err:=if 4<f.params.length∨12<f.params.length+stVs f.body∨400<stNs f.body∨deep=true then vM p.2 2 else p.2
 (deep,(ckB fs f.body (f.params.foldl tX ([],err))).2)
def checkP (fs:List Fn):Nat :=
 if wD fs=false then 1
 else if 16<fs.length then 2
 else if (List.range fs.length).any (fun i=>decide (tG fs (fs.getD i noFn).name≠i)) then 22
 else if tG fs [109,97,105,110]<0 then 21
 else if 0<(fs.getD (tG fs [109,97,105,110]).toNat noFn).params.length then 23
 else (fs.foldl (ckF fs) (false,0)).2
theorem exD_le:∀x:Ex,exD x≤exN x:=by
 have key:∀(N:Nat),(∀x:Ex,SizeOf.sizeOf x<N→exD x≤exN x)∧(∀l:List Ex,SizeOf.sizeOf l<N→exDs l≤exNs l):=by
  intro N
  induction N with
  | zero=>exact⟨fun _ h=>absurd h (by omega),fun _ h=>absurd h (by omega)⟩
  | succ N ih =>
   refine⟨fun x h=>?_,fun l h=>?_⟩
   ·cases x with
    | mk k n s kids =>
     have:=ih.2 kids (by simp only[Ex.mk.sizeOf_spec] at h;omega);simp only[exD,exN];omega
   ·cases l with
    | nil=>simp[exDs,exNs]
    | cons x l =>
     have h1:=ih.1 x (by simp only[List.cons.sizeOf_spec] at h;omega);have h2:=ih.2 l (by simp only[List.cons.sizeOf_spec] at h;omega);simp only[exDs,exNs];omega
 exact fun x=>(key _).1 x (Nat.lt_succ_self _)
theorem uP:∀(l m:List Ex),exNs (l++m)=exNs l+exNs m
 | [],m=>by simp[exNs]
 | x::l,m=>by simp only[List.cons_append,exNs,uP l m];omega
theorem qW:∀(l m:List Ex),exDs (l++m)=max (exDs l) (exDs m)
 | [],m=>by simp[exDs]
 | x::l,m=>by simp only[List.cons_append,exDs,qW l m];omega
theorem exN_mem {x:Ex}{l:List Ex}(h:x∈l):exN x≤exNs l:=by
 obtain⟨a,b,rfl⟩:=List.append_of_mem h;rw[uP];simp only[exNs];omega
theorem sB:∀(l m:List St),stNs (l++m)=stNs l+stNs m
 | [],m=>by simp[stNs]
 | x::l,m=>by simp only[List.cons_append,stNs,sB l m];omega
theorem rB:∀(l m:List St),stVs (l++m)=stVs l+stVs m
 | [],m=>by simp[stVs]
 | x::l,m=>by simp only[List.cons_append,stVs,rB l m];omega
theorem stsBad_append (d:Nat):∀(l m:List St),stsBad d (l++m)=(stsBad d l||stsBad d m)
 | [],m=>by simp[stsBad]
 | x::l,m=>by simp only[List.cons_append,stsBad,stsBad_append d l m,Bool.or_assoc]
theorem erEs_append (fs:List Fn) (nm:List Bs):∀(l m:List Ex) (e:Nat),erEs fs nm (l++m) e=erEs fs nm m (erEs fs nm l e)
 | [],m,e=>by simp[erEs]
 | x::l,m,e=>by simp only[List.cons_append,erEs,erEs_append fs nm l m]
theorem ckB_append (fs:List Fn):∀(l m:List St) (p:List Bs×Nat),ckB fs (l++m) p=ckB fs m (ckB fs l p)
 | [],m,p=>by simp[ckB]
 | x::l,m,p=>by simp only[List.cons_append,ckB,ckB_append fs l m]
theorem wF {α:Type}{l:List α}{i:Nat}{x:α}(h:l[i]? = some x):l.take (i+1)=l.take i++[x]:=by
 rw[List.take_add_one,h];rfl
end Go.Proofs.YtfpkpnkdnammnaaGreatDoor
