import Derived.Test.YtfpkpnkdnammnaaGreatDoorMgA
import Derived.Test.YtfpkpnkdnammnaaGreatDoorMgr
import Derived.Test.YtfpkpnkdnammnaaGreatDoorMgL
import Derived.Test.YtfpkpnkdnammnaaGreatDoorMgI
import Derived.Test.YtfpkpnkdnammnaaGreatDoorMge
namespace Go.Proofs.YtfpkpnkdnammnaaGreatDoor
abbrev Tk:=Nat×Bs×Nat
def stT (t:Tok):Tk:=(t.kind,t.text,t.value)
def sg (x:Bs):Tk:=(3,x,0)
def nmT (x:Bs):Tk:=(2,x,0)
def nuT (n:Nat):Tk:=(1,Lib.decDigits n,n)
def wt (all:Bool) (k:Nat) (s:Bs) (least:Int) (t:List Tk):List Tk:=if (k=7∧vZ s<least)∨(all=true∧k≠2) then sg [40]::(t++[sg [41]]) else t
mutual
def tx (all:Bool):Ex→List Tk
 | .mk k n s kids=>if k=1 then [nuT n] else if k=2 then [nmT s] else if k=3 then nmT s::sg [40]::(txs all kids++[sg [41]]) else if k=4 then sg kMem::sg [91]::(txH all kids 0++[sg [93]]) else if k=5 then [sg kIn] else if k=6 then sg s::txH all kids 8 else txH all kids (vZ s)++sg s::txS all kids (vZ s+1)
def txs (all:Bool):List Ex→List Tk
 | []=>[]
 | x::l=>wt all x.kind x.name 0 (tx all x)++txt all l
def txt (all:Bool):List Ex→List Tk
 | []=>[]
 | x::l=>sg [44]::(wt all x.kind x.name 0 (tx all x)++txt all l)
def txH (all:Bool):List Ex→Int→List Tk
 | [],_=>[]
 | x::_,least=>wt all x.kind x.name least (tx all x)
def txS (all:Bool):List Ex→Int→List Tk
 | [],_=>[]
 | _::l,least=>txH all l least
end
def twi (all:Bool) (x:Ex) (least:Int):List Tk:=wt all x.kind x.name least (tx all x)
def At (tk:Nat→Tok) (a:Nat) (l:List Tk):Prop:=∀j x,l[j]? = some x→stT (tk (a+j))=x
section
variable {tk:Nat→Tok}{a:Nat}
theorem At.head {x:Tk}{l:List Tk}(h:At tk a (x::l)):stT (tk a)=x:=h 0 x rfl
theorem At.tail {x:Tk}{l:List Tk}(h:At tk a (x::l)):At tk (a+1) l:=fun j y hj=>by
 have:=h (j+1) y hj;rw[show a+1+j=a+(j+1) by omega];exact this
theorem At.left {l m:List Tk}(h:At tk a (l++m)):At tk a l:=fun j x hj=>h j x (by rw[List.getElem?_append_left (Jm.1 hj).1];exact hj)
theorem At.right {l m:List Tk}(h:At tk a (l++m)):At tk (a+l.length) m:=fun j x hj=>by
 have:=h (l.length+j) x (by rw[List.getElem?_append_right (by omega)];rw[show l.length+j-l.length=j by omega];exact hj);rw[show a+l.length+j=a+(l.length+j) by omega];exact this
theorem At.pre {l m:List Tk}{x:Tk}(h:At tk a (l++x::m)):At tk a (l++[x]):=by
 rw[show l++x::m=(l++[x])++m by simp] at h;exact h.left
abbrev pst (a:Nat):PS:=⟨a,0,0⟩
theorem tH {x:Bs}{y:Bs}(h:stT (tk a)=sg x):isP tk y (pst a)=decide (x=y):=by
 unfold stT sg at h;injection h with h1 h2;injection h2 with h2 h3;unfold isP;rw[h1,h2];simp
theorem isP_no {x:Tk}{y:Bs}(h:stT (tk a)=x) (hk:x.1≠3):isP tk y (pst a)=false:=by
 unfold isP;have:(tk a).kind=x.1:=by rw[← h];rfl
 simp[this,hk]
theorem rS {x:Bs}(h:stT (tk a)=sg x):yA tk x (pst a)=pst (a+1):=by
 unfold yA;rw[tH h,Kv rfl];rfl
theorem sY {x:Tk}(h:stT (tk a)=x):(tk a).kind=x.1:=by rw[← h];rfl
theorem rE {x:Tk}(h:stT (tk a)=x):(tk a).text=x.2.1:=by rw[← h];rfl
theorem val_of {x:Tk}(h:stT (tk a)=x):(tk a).value=x.2.2:=by rw[← h];rfl
def EvB (tk:Nat→Tok) (n:Nat) (s:PS) (R:Ex×PS):Prop:=∃f,(exF tk f).bin n s=some R
def EvL (tk:Nat→Tok) (n:Nat) (e:Ex) (s:PS) (R:Ex×PS):Prop:=∃f,(exF tk f).loop n e s=some R
def EvU (tk:Nat→Tok) (s:PS) (R:Ex×PS):Prop:=∃f,(exF tk f).un s=some R
def EvP (tk:Nat→Tok) (s:PS) (R:Ex×PS):Prop:=∃f,(exF tk f).prim s=some R
def EvA (tk:Nat→Tok) (acc:List Ex) (s:PS) (R:List Ex×PS):Prop:=∃f,(exF tk f).list acc s=some R
theorem evB {n:Nat}{s s1:PS}{e:Ex}{R:Ex×PS}(h:EvU tk s (e,s1)) (k:EvL tk n e s1 R):EvB tk n s R:=by
 obtain⟨f,hf⟩:=h;obtain⟨g,hg⟩:=k;refine⟨max f g+1,?_⟩;show andThen ((exF tk (max f g)).un s) (fun e s=>(exF tk (max f g)).loop n e s)=some R;rw[(exF_le (tk:=tk) (Nat.le_max_left f g)).un s _ hf];exact (exF_le (tk:=tk) (Nat.le_max_right f g)).loop n e s1 _ hg
def Stp (n:Nat) (t:Tk):Prop:=t.1=3→∀l,wA t.2.1=some l→l<n
theorem evL_stop {n:Nat}{e:Ex}{t:Tk}(h:stT (tk a)=t) (hs:Stp n t):EvL tk n e (pst a) (e,pst a):=by
 refine⟨1,?_⟩;show uY tk _ n e (pst a)=_;unfold uY
 split
 ·next hk =>
  have h3:t.1=3:=by rw[← sY h];exact hk.2
  rw[rE h]
  cases hl:wA t.2.1 with
  | none=>rfl
  | some l=>dsimp only;rw[Kp (hs h3 l hl)]
 ·rfl
theorem evL_op {n l:Nat}{e x:Ex}{op:Bs}{s1:PS}{R:Ex×PS}(h:stT (tk a)=sg op) (hl:wA op=some l) (hn:n≤l) (h1:EvB tk (l+1) (pst (a+1)) (x,s1)) (h2:EvL tk n (.mk 7 0 op [e,x]) s1 R):EvL tk n e (pst a) R:=by
 obtain⟨f,hf⟩:=h1;obtain⟨g,hg⟩:=h2;refine⟨max f g+1,?_⟩;show uY tk (exF tk (max f g)) n e (pst a)=some R;unfold uY;have hk:(tk (pst a).at_).kind=3:=sY h;have ht:(tk (pst a).at_).text=op:=rE h;rw[Kp ⟨rfl,hk⟩,ht,hl];dsimp only;rw[Ko (by omega)];have hb:=(exF_le (tk:=tk) (Nat.le_max_left f g)).bin (l+1) (pst (a+1)) _ hf;show andThen ((exF tk (max f g)).bin (l+1) (pst (a+1))) _=some R;rw[hb];exact (exF_le (tk:=tk) (Nat.le_max_right f g)).loop n _ s1 _ hg
theorem rP {t:Tk}{R:Ex×PS}(h:stT (tk a)=t) (hn:t.1=3→t.2.1≠[45]∧t.2.1≠[126]∧t.2.1≠[33]) (k:EvP tk (pst a) R):EvU tk (pst a) R:=by
 obtain⟨f,hf⟩:=k;refine⟨f+1,?_⟩;show unS tk (exF tk f) (pst a)=some R
 have key:∀y:Bs,(y=[45]∨y=[126]∨y=[33])→isP tk y (pst a)=false:=fun y hy=>by
  by_cases h3:t.1=3
  ·have:=hn h3;unfold isP;have ht:(tk (pst a).at_).text=t.2.1:=rE h;rw[ht];rcases hy with rfl|rfl|rfl
   ·simp[this.1]
   ·simp[this.2.1]
   ·simp[this.2.2]
  ·exact isP_no h h3
 unfold unS;rw[key [45] (.inl rfl),key [126] (.inr (.inl rfl)),key [33] (.inr (.inr rfl))];exact hf
theorem evU_un {op:Bs}{e:Ex}{s1:PS}(h:stT (tk a)=sg op) (ho:op∈tU) (k:EvU tk (pst (a+1)) (e,s1)):EvU tk (pst a) (.mk 6 0 op [e],s1):=by
 obtain⟨f,hf⟩:=k;refine⟨f+1,?_⟩;show unS tk (exF tk f) (pst a)=some _;unfold unS;have hf':(exF tk f).un (adv (pst a))=some (e,s1):=hf;simp only[tU,List.mem_cons,List.not_mem_nil,or_false] at ho;rcases ho with rfl|rfl|rfl
 ·rw[tH h,Kv rfl];show andThen ((exF tk f).un (adv (pst a))) _=_;rw[hf'];rfl
 ·rw[tH h,tH h,Kw (by decide),Kv rfl];show andThen ((exF tk f).un (adv (pst a))) _=_;rw[hf'];rfl
 ·rw[tH h,tH h,tH h,Kw (by decide),Kw (by decide),Kv rfl];show andThen ((exF tk f).un (adv (pst a))) _=_;rw[hf'];rfl
theorem evP_num {n:Nat}(h:stT (tk a)=nuT n) (hn:n<4294967296):EvP tk (pst a) (.mk 1 n [] [],pst (a+1)):=by
 refine⟨1,?_⟩;show vS tk _ (pst a)=_;unfold vS;have hk:(tk (pst a).at_).kind=1:=sY h;have hv:(tk (pst a).at_).value=n:=val_of h;rw[Ko (by simp),Kp ⟨hk,by rw[hv];exact hn⟩,hv];rfl
theorem evP_name {s:Bs}{t:Tk}(h:stT (tk a)=nmT s) (h2:stT (tk (a+1))=t) (ht:t≠sg [40]) (hv:t.1=3→t.2.2=0):EvP tk (pst a) (.mk 2 0 s [],pst (a+1)):=by
 refine⟨1,?_⟩;show vS tk _ (pst a)=_;unfold vS;have hk:(tk (pst a).at_).kind=2:=sY h;have hx:(tk (pst a).at_).text=s:=rE h
 have hp:isP tk [40] (adv (pst a))=false:=by
  show isP tk [40] (pst (a+1))=false
  by_cases h3:t.1=3
  ·obtain⟨t1,t2,t3⟩:=t;dsimp only at h3 hv;subst h3;have:=hv rfl;subst this;rw[tH (x:=t2) h2,Kw (fun e=>ht (by rw[e];rfl))]
  ·exact isP_no h2 h3
 rw[Ko (by simp),Ko (by omega),Kp hk,hx,hp];rfl
theorem evP_call0 {s:Bs}(h:stT (tk a)=nmT s) (h2:stT (tk (a+1))=sg [40]) (h3:stT (tk (a+2))=sg [41]):EvP tk (pst a) (.mk 3 0 s [],pst (a+3)):=by
 refine⟨1,?_⟩;show vS tk _ (pst a)=_;unfold vS;have hk:(tk (pst a).at_).kind=2:=sY h;have hx:(tk (pst a).at_).text=s:=rE h;have hp:isP tk [40] (adv (pst a))=true:=by show isP tk [40] (pst (a+1))=true;rw[tH h2,Kv rfl]
 have hq:isP tk [41] (adv (adv (pst a)))=true:=by show isP tk [41] (pst (a+2))=true;rw[tH h3,Kv rfl]
 rw[Ko (by simp),Ko (by omega),Kp hk,hx,hp,hq];rfl
theorem evP_call {s:Bs}{t:Tk}{l:List Ex}{s1:PS}(h:stT (tk a)=nmT s) (h2:stT (tk (a+1))=sg [40]) (h3:stT (tk (a+2))=t) (ht:t.2.1≠[41]∨t.1≠3) (k:EvA tk [] (pst (a+2)) (l,s1)):EvP tk (pst a) (.mk 3 0 s l,s1):=by
 obtain⟨f,hf⟩:=k;refine⟨f+1,?_⟩;show vS tk (exF tk f) (pst a)=_;unfold vS;have hk:(tk (pst a).at_).kind=2:=sY h;have hx:(tk (pst a).at_).text=s:=rE h;have hp:isP tk [40] (adv (pst a))=true:=by show isP tk [40] (pst (a+1))=true;rw[tH h2,Kv rfl]
 have hq:isP tk [41] (adv (adv (pst a)))=false:=by
  show isP tk [41] (pst (a+2))=false;rcases ht with ht|ht
  ·unfold isP;have:(tk (pst (a+2)).at_).text=t.2.1:=rE h3;rw[this];simp[ht]
  ·exact isP_no h3 ht
 rw[Ko (by simp),Ko (by omega),Kp hk,hx,hp,hq];show andThen ((exF tk f).list [] (pst (a+2))) _=_;rw[hf];rfl
theorem prim_sg {r:EF}{x:Bs}(h:stT (tk a)=sg x):vS tk r (pst a)=bif decide (x=kMem) then andThen (r.bin 0 (yA tk [91] (pst (a+1)))) (fun e s=>some (.mk 4 0 [] [e],yA tk [93] s)) else bif decide (x=kIn) then some (.mk 5 0 [] [],pst (a+1)) else bif decide (x=[40]) then andThen (r.bin 0 (pst (a+1))) (fun e s=>some (e,yA tk [41] s)) else some (noEx,tE tk (pst a)):=by
 unfold vS;have hk:(tk (pst a).at_).kind=3:=sY h;rw[Ko (by simp),Ko (by omega),Ko (by omega),tH h,tH h,tH h];rfl
theorem evP_mem {e:Ex}{b:Nat}(h:stT (tk a)=sg kMem) (h2:stT (tk (a+1))=sg [91]) (k:EvB tk 0 (pst (a+2)) (e,pst b)) (h3:stT (tk b)=sg [93]):EvP tk (pst a) (.mk 4 0 [] [e],pst (b+1)):=by
 obtain⟨f,hf⟩:=k;refine⟨f+1,?_⟩;show vS tk (exF tk f) (pst a)=_;rw[prim_sg h,Kv rfl,rS h2,hf,cond_true];show some (_,yA tk [93] (pst b))=_;rw[rS h3]
theorem evP_in (h:stT (tk a)=sg kIn):EvP tk (pst a) (.mk 5 0 [] [],pst (a+1)):=by
 refine⟨1,?_⟩;show vS tk _ (pst a)=_;rw[prim_sg h,Kw (by decide),Kv rfl];rfl
theorem evP_par {e:Ex}{b:Nat}(h:stT (tk a)=sg [40]) (k:EvB tk 0 (pst (a+1)) (e,pst b)) (h3:stT (tk b)=sg [41]):EvP tk (pst a) (e,pst (b+1)):=by
 obtain⟨f,hf⟩:=k;refine⟨f+1,?_⟩;show vS tk (exF tk f) (pst a)=_;rw[prim_sg h,Kw (by decide),Kw (by decide),Kv rfl,hf];show some (_,yA tk [41] (pst b))=_;rw[rS h3]
theorem evA_last {acc:List Ex}{e:Ex}{b:Nat}(k:EvB tk 0 (pst a) (e,pst b)) (h:stT (tk b)=sg [41]):EvA tk acc (pst a) (acc++[e],pst (b+1)):=by
 obtain⟨f,hf⟩:=k;refine⟨f+1,?_⟩;show sX tk (exF tk f) acc (pst a)=_;unfold sX;rw[Ko (by simp),hf];show (bif isP tk [41] (pst b) then _ else _)=_;rw[tH h,Kv rfl];rfl
theorem evA_more {acc:List Ex}{e:Ex}{b:Nat}{R:List Ex×PS}(k:EvB tk 0 (pst a) (e,pst b)) (h:stT (tk b)=sg [44]) (k2:EvA tk (acc++[e]) (pst (b+1)) R):EvA tk acc (pst a) R:=by
 obtain⟨f,hf⟩:=k;obtain⟨g,hg⟩:=k2;refine⟨max f g+1,?_⟩;show sX tk (exF tk (max f g)) acc (pst a)=_;unfold sX;rw[Ko (by simp),(exF_le (tk:=tk) (Nat.le_max_left f g)).bin 0 _ _ hf];show (bif isP tk [41] (pst b) then _ else (exF tk (max f g)).list (acc++[e]) (yA tk [44] (pst b)))=_;rw[tH h,Kw (by decide),rS h];exact (exF_le (tk:=tk) (Nat.le_max_right f g)).list _ _ _ hg
structure Fol (m:Nat) (t:Tk):Prop where
 par:t≠sg [40]
 val:t.1=3→t.2.2=0
 lev:t.1=3→∀l,wA t.2.1=some l→l≤m
theorem Fol.up {m m':Nat}{t:Tk}(h:Fol m t) (hm:m≤m'):Fol m' t:=⟨h.par,h.val,fun h3 l hl=>Kx (h.lev h3 l hl) hm⟩
theorem Fol.stp {m n:Nat}{t:Tk}(h:Fol m t) (hm:m<n):Stp n t:=fun h3 l hl=>Nat.lt_of_le_of_lt (h.lev h3 l hl) hm
theorem fol_of {x:Bs}(hx:x≠[40]) (h:wA x=none) (m:Nat):Fol m (sg x):=⟨fun e=>hx (congrArg (fun t:Tk=>t.2.1) e),fun _=>rfl,fun _ l hl=>(by
 have h2:wA x=some l:=hl
 rw[h] at h2;cases h2)⟩
theorem stp_of {x:Bs}(h:wA x=none) (m:Nat):Stp m (sg x):=fun _ l hl=>(by
 have h2:wA x=some l:=hl
 rw[h] at h2;cases h2)
end
end Go.Proofs.YtfpkpnkdnammnaaGreatDoor
namespace Go.Proofs.YtfpkpnkdnammnaaGreatDoor
variable {tk:Nat→Tok}{all:Bool}
structure Rb (tk:Nat→Tok) (all:Bool) (x:Ex):Prop where
 un:x.kind≠7→∀a t,At tk a (tx all x++[t])→Fol 8 t→EvU tk (pst a) (x,pst (a+(tx all x).length))
 bin:x.kind=7→∀a t n R,n≤levN x.name→At tk a (tx all x++[t])→Fol (levN x.name) t→EvL tk n x (pst (a+(tx all x).length)) R→EvB tk n (pst a) R
theorem Rb.bare {x:Ex}(h:Rb tk all x) {a:Nat}{t:Tk}{n:Nat}{R:Ex×PS}(hn:x.kind=7→n≤levN x.name) (hf:Fol n t) (hA:At tk a (tx all x++[t])) (k:EvL tk n x (pst (a+(tx all x).length)) R):EvB tk n (pst a) R:=by
 by_cases h7:x.kind=7
 ·exact h.bin h7 a t n R (hn h7) hA (hf.up (hn h7)) k
 ·exact evB (h.un h7 a t hA ⟨hf.par,hf.val,fun h3 l hl=>by
   have:=lev_le t.2.1;unfold levN at this;rw[hl] at this
   exact Kx this (by omega)⟩) k
theorem fol_par (m:Nat):Fol m (sg [41]):=fol_of (by decide) rfl m
theorem fol_br (m:Nat):Fol m (sg [93]):=fol_of (by decide) rfl m
theorem stp_par (m:Nat):Stp m (sg [41]):=stp_of rfl m
theorem Rb.par {x:Ex}(h:Rb tk all x) {a:Nat}(hA:At tk a (sg [40]::(tx all x++[sg [41]]))):EvU tk (pst a) (x,pst (a+((tx all x).length+2))):=by
 have h1:=hA.tail;have hb:EvB tk 0 (pst (a+1)) (x,pst (a+1+(tx all x).length)):=h.bare (fun _=>Kl _) (fol_par 0) h1 (evL_stop (h1.right.head) (stp_par 0));have:=evP_par hA.head hb h1.right.head;rw[show a+1+(tx all x).length+1=a+((tx all x).length+2) by omega] at this;exact rP hA.head (fun _=>by decide) this
theorem Rb.wu {x:Ex}(h:Rb tk all x) {a:Nat}{t:Tk}{m:Int}(hm:x.kind=7→vZ x.name<m∨all=true) (hA:At tk a (twi all x m++[t])) (hf:Fol 8 t):EvU tk (pst a) (x,pst (a+(twi all x m).length)):=by
 unfold twi at hA ⊢;unfold wt at hA ⊢
 split
 ·next hp =>
  rw[Kp hp] at hA;have:=h.par hA.left;rw[show (sg [40]::(tx all x++[sg [41]])).length=(tx all x).length+2 by simp];exact this
 ·next hp =>
  rw[Ko hp] at hA
  exact h.un (fun h7=>by
   rcases hm h7 with h1|h1
   ·exact hp (.inl ⟨h7,h1⟩)
   ·exact hp (.inr ⟨h1,by omega⟩)) a t hA hf
theorem Rb.wb {x:Ex}(h:Rb tk all x) (hx:x.kind=7→∃l,wA x.name=some l) {a:Nat}{t:Tk}{m n:Nat}{R:Ex×PS}(hnm:n≤m) (hA:At tk a (twi all x m++[t])) (hf:Fol m t) (k:EvL tk n x (pst (a+(twi all x m).length)) R):EvB tk n (pst a) R:=by
 by_cases hc:x.kind=7→vZ x.name<(m:Int)∨all=true
 ·exact evB (h.wu hc hA ⟨hf.par,hf.val,fun h3 l hl=>by
   have:=lev_le t.2.1;unfold levN at this;rw[hl] at this
   exact Kx this (by omega)⟩) k
 ·have h7:x.kind=7:=Classical.byContradiction fun h7=>hc fun h=>absurd h h7;have hr:¬(vZ x.name<(m:Int)∨all=true):=fun h=>hc fun _=>h;obtain⟨l,hl⟩:=hx h7;rw[pC hl] at hr
  have e:twi all x m=tx all x:=by
   unfold twi wt;rw[Ko]
   rintro (⟨_,h1⟩|⟨h1,_⟩)
   ·rw[pC hl] at h1;exact hr (.inl h1)
   ·exact hr (.inr h1)
  rw[e] at hA k;exact h.bin h7 a t n R (by omega) hA (hf.up (by omega)) k
theorem Rb.w0 {x:Ex}(h:Rb tk all x) (hx:x.kind=7→∃l,wA x.name=some l) {a:Nat}{t:Tk}{m:Nat}(hA:At tk a (twi all x m++[t])) (hf:Fol m t) (hs:Stp m t):EvB tk m (pst a) (x,pst (a+(twi all x m).length)) :=
 h.wb hx (Km _) hA hf (evL_stop hA.right.head hs)
def Beg (y:Tk):Prop:=y.1=3→y.2.1∈[kMem,kIn,[40],[45],[126],[33]]
theorem wt_beg {k:Nat}{s:Bs}{m:Int}{t:List Tk}(h:∃y r,t=y::r∧Beg y):∃y r,wt all k s m t=y::r∧Beg y:=by
 unfold wt
 split
 ·exact⟨_,_,rfl,fun _=>by decide⟩
 ·exact h
theorem right_lev {k n:Nat}{s:Bs}{kids:List Ex}(h:yJ (.mk k n s kids)=true) (h7:k=7):∃l,wA s=some l:=by
 subst h7;simp only[yJ,Kj] at h;exact (okEx7 h.1.1 (by omega) (by omega) (by omega) (by omega) (by omega) (by omega)).2
theorem sF {x:Ex}(h:yJ x=true) (h7:x.kind=7):∃l,wA x.name=some l:=by
 cases x;exact right_lev h h7
theorem tx_beg:∀(N:Nat) (x:Ex),SizeOf.sizeOf x<N→yJ x=true→∃y r,tx all x=y::r∧Beg y
 | 0,_,h,_=>absurd h (by omega)
 | N+1,.mk k n s kids,h,hr=>by
  have hr0:=hr;simp only[yJ,Kj] at hr;obtain⟨⟨hok,_⟩,hk⟩:=hr;rw[tx]
  by_cases g1:k=1
  ·rw[Kp g1];exact⟨_,_,rfl,fun h=>by cases h⟩
  rw[Ko g1]
  by_cases g2:k=2
  ·rw[Kp g2];exact⟨_,_,rfl,fun h=>by cases h⟩
  rw[Ko g2]
  by_cases g3:k=3
  ·rw[Kp g3];exact⟨_,_,rfl,fun h=>by cases h⟩
  rw[Ko g3]
  by_cases g4:k=4
  ·rw[Kp g4];exact⟨_,_,rfl,fun _=>by simp[sg]⟩
  rw[Ko g4]
  by_cases g5:k=5
  ·rw[Kp g5];exact⟨_,_,rfl,fun _=>by simp[sg]⟩
  rw[Ko g5]
  by_cases g6:k=6
  ·rw[Kp g6];subst g6;rw[xC rfl] at hok;simp only[Kj,Kn] at hok;refine⟨_,_,rfl,fun _=>?_⟩;have this:s∈tU:=hok.1;simp only[tU,List.mem_cons,List.not_mem_nil,or_false] at this;rcases this with h|h|h<;>rw[h]<;>simp[sg]
  rw[Ko g6];obtain⟨rfl,_⟩:=okEx7 hok g1 g2 g3 g4 g5 g6;rw[xD rfl] at hok;simp only[Kj,Kn] at hok
  match kids,hok.2,hk,h with
  | [x,y],_,hk,h =>
   simp only[rightExs,Kj] at hk;obtain⟨z,r,e,hz⟩:=wt_beg (all:=all) (k:=x.kind) (s:=x.name) (m:=vZ s) (tx_beg N x (by simp only[Ex.mk.sizeOf_spec,List.cons.sizeOf_spec] at h;omega) hk.1);simp only[txH];rw[e];exact⟨_,_,rfl,hz⟩
theorem tx_beg' {x:Ex}(h:yJ x=true):∃y r,tx all x=y::r∧Beg y:=tx_beg _ x (Nat.lt_succ_self _) h
theorem twi_beg {x:Ex}(h:yJ x=true) (m:Int):∃y r,twi all x m=y::r∧Beg y:=wt_beg (tx_beg' h)
theorem ev_list {l:List Ex}(hR:∀x∈l,Rb tk all x∧yJ x=true):∀(x:Ex) (acc:List Ex) (a:Nat),Rb tk all x→yJ x=true→At tk a (twi all x 0++txt all l++[sg [41]])→EvA tk acc (pst a) (acc++x::l,pst (a+(twi all x 0++txt all l).length+1)):=by
 induction l with
 | nil =>
  intro x acc a h hr hA;rw[txt,Ku] at hA ⊢;exact evA_last (h.w0 (m:=0) (sF hr) hA (fol_par 0) (stp_par 0)) hA.right.head
 | cons z l ih =>
  intro x acc a h hr hA;rw[txt,Kb,List.cons_append] at hA;have hf:Fol 0 (sg [44]):=fol_of (by decide) rfl 0;have h1:=h.w0 (m:=0) (sF hr) hA.pre hf (stp_of rfl 0);have h2:=hA.right;have hz:=hR z (Jy ..);have:=ih (fun y hy=>hR y (Kg _ hy)) z (acc++[x]) _ hz.1 hz.2 h2.tail;rw[Kb] at this
  have e:a+(twi all x 0).length+1+(twi all z 0++txt all l).length+1=a+(twi all x 0++txt all (z::l)).length+1:=by
   rw[txt];simp only[Ji,Jj];unfold twi;omega
  show EvA tk acc (pst a) (acc++x::z::l,pst (a+(twi all x 0++txt all (z::l)).length+1));rw[← e];exact evA_more h1 h2.head this
theorem rb_step (k n:Nat) (s:Bs) (kids:List Ex) (hr:yJ (.mk k n s kids)=true) (hu:exU (.mk k n s kids)=true) (IH:∀x∈kids,Rb tk all x):Rb tk all (.mk k n s kids):=by
 have hr0:=hr;simp only[yJ,Kj] at hr;obtain⟨⟨hok,hn0⟩,hk⟩:=hr;rw[wK,List.all_eq_true] at hk;simp only[exU,Kj,Kn] at hu;have hz:k≠1→n=0:=fun h=>by simpa [h] using hn0
 refine⟨fun h7 a t hA hf=>?_,fun h7 a t m R hm hA hf hL=>?_⟩
 ·show EvU tk (pst a) (.mk k n s kids,pst (a+(tx all (.mk k n s kids)).length));have h7:k≠7:=h7;rw[tx] at hA ⊢
  by_cases g1:k=1
  ·subst g1;rw[Kp rfl] at hA ⊢;rw[wW (.inl rfl)] at hok;simp only[Kj,Kn] at hok;obtain⟨rfl,h0⟩:=hok
   cases kids with
   | cons _ _=>simp at h0
   | nil=>exact rP hA.head (fun h=>by cases h) (evP_num hA.head hu.1)
  rw[Ko g1] at hA ⊢;have hn:=hz g1;subst hn
  by_cases g2:k=2
  ·subst g2;rw[Kp rfl] at hA ⊢;rw[wZ rfl] at hok;simp only[Kj,Kn] at hok;have h0:=hok.2
   cases kids with
   | cons _ _=>simp at h0
   | nil=>exact rP hA.head (fun h=>by cases h) (evP_name hA.head hA.tail.head hf.par hf.val)
  rw[Ko g2] at hA ⊢
  by_cases g3:k=3
  ·subst g3;rw[Kp rfl] at hA ⊢
   cases kids with
   | nil=>exact rP hA.head (fun h=>by cases h) (evP_call0 hA.head hA.tail.head hA.tail.tail.head)
   | cons x l =>
    have h2:At tk (a+2) (twi all x 0++txt all l++[sg [41]]):=(hA.left).tail.tail;obtain⟨y,r,e,hy⟩:=twi_beg (all:=all) (hk x (by simp)) 0
    have hh:stT (tk (a+2))=y:=by
     have h3:=h2;rw[e] at h3;exact h3.head
    have:=ev_list (l:=l) (fun y hy=>⟨IH y (by simp[hy]),hk y (by simp[hy])⟩) x [] (a+2) (IH x (by simp)) (hk x (by simp)) h2
    have e2:a+2+(twi all x 0++txt all l).length+1=a+(nmT s::sg [40]::(txs all (x::l)++[sg [41]])).length:=by
     rw[txs];simp only[Ji,Jj,Jk];unfold twi;omega
    rw[e2] at this;refine rP hA.head (fun h=>by cases h) (evP_call hA.head hA.tail.head hh ?_ this)
    by_cases h3:y.1=3
    ·left
     have:=hy h3;intro h;rw[h] at this;exact absurd this (by decide)
    ·exact .inr h3
  rw[Ko g3] at hA ⊢
  by_cases g4:k=4
  ·subst g4;rw[Kp rfl] at hA ⊢;rw[xB rfl] at hok;simp only[Kj,Kn] at hok;obtain⟨rfl,h0⟩:=hok;obtain⟨x,rfl⟩:=List.length_eq_one_iff.1 h0;have h2:At tk (a+2) (twi all x 0++[sg [93]]):=(hA.left).tail.tail;have:=evP_mem hA.head hA.tail.head ((IH x (by simp)).w0 (m:=0) (sF (hk x (by simp))) h2 (fol_br 0) (stp_of rfl 0)) h2.right.head
   have e2:a+2+(twi all x 0).length+1=a+(sg kMem::sg [91]::(txH all [x] 0++[sg [93]])).length:=by
    rw[txH];simp only[Ji,Jj,Jk];unfold twi;omega
   rw[show ((0:Nat):Int)=0 from rfl,e2] at this;exact rP hA.head (fun _=>by decide) this
  rw[Ko g4] at hA ⊢
  by_cases g5:k=5
  ·subst g5;rw[Kp rfl] at hA ⊢;rw[wW (.inr rfl)] at hok;simp only[Kj,Kn] at hok;obtain⟨rfl,h0⟩:=hok
   cases kids with
   | cons _ _=>simp at h0
   | nil=>exact rP hA.head (fun _=>by decide) (evP_in hA.head)
  rw[Ko g5] at hA ⊢
  by_cases g6:k=6
  ·subst g6;rw[Kp rfl] at hA ⊢;rw[xC rfl] at hok;simp only[Kj,Kn] at hok;obtain⟨x,rfl⟩:=List.length_eq_one_iff.1 hok.2;rw[txH] at hA ⊢;have h2:At tk (a+1) (twi all x 8++[t]):=hA.tail
   have hw:=(IH x (by simp)).wu (m:=8) (fun h7=>.inl (by
    obtain⟨l,hl⟩:=sF (hk x (by simp)) h7;rw[pC hl];have:=lev_le x.name
    omega)) h2 hf
   have:=evU_un hA.head hok.1 hw
   have e2:a+1+(twi all x 8).length=a+(sg s::wt all x.kind x.name 8 (tx all x)).length:=by
    simp only[Jj];unfold twi;omega
   rw[e2] at this;exact this
  exact absurd (okEx7 hok g1 g2 g3 g4 g5 g6).1 h7
 ·have h7:k=7:=h7;subst h7;have hn:=hz (by omega);subst hn;obtain⟨l,hl⟩:=right_lev hr0 rfl;have hlv:levN s=l:=by unfold levN;rw[hl];rfl
  rw[xD rfl] at hok;simp only[Kj,Kn] at hok
  match kids,hok.2,hk,IH,hL,hA with
  | [x,y],_,hk,IH,hL,hA =>
   have e0:tx all (.mk 7 0 s [x,y])=twi all x (l:Nat)++sg s::twi all y ((l+1:Nat):Int):=by
    rw[tx,Ko (by omega),Ko (by omega),Ko (by omega),Ko (by omega),Ko (by omega),Ko (by omega),txH,txS,txH,pC hl,hlv];rfl
   rw[e0] at hA hL;have hm:m≤l:=by rw[← hlv];exact hm
   have hf:Fol l t:=by rw[← hlv];exact hf
   rw[Kb,List.cons_append] at hA
   have hs40:s≠[40]:=fun e=>by
    rw[e,show wA [40]=none from rfl] at hl;cases hl
   have hfs:Fol l (sg s):=⟨fun e=>hs40 (congrArg (fun t:Tk=>t.2.1) e),fun _=>rfl,fun _ l' hl'=>(by
    have h2:wA s=some l':=hl'
    rw[hl] at h2;cases h2;exact Km _)⟩
   have hy:=hA.right;refine (IH x (by simp)).wb (sF (hk x (by simp))) (m:=l) hm hA.pre hfs ?_;have hy1:=(IH y (by simp)).w0 (m:=l+1) (sF (hk y (by simp))) hy.tail (hf.up (by omega)) (hf.stp (by omega));refine evL_op hy.head hl hm hy1 ?_
   have e2:a+(twi all x (l:Nat)).length+1+(twi all y ((l+1:Nat):Int)).length=a+(twi all x (l:Nat)++sg s::twi all y ((l+1:Nat):Int)).length:=by
    simp only[Ji,Jj];omega
   rw[e2];exact hL
theorem rb_all:∀(N:Nat) (x:Ex),SizeOf.sizeOf x<N→yJ x=true→exU x=true→Rb tk all x
 | 0,_,h,_,_=>absurd h (by omega)
 | N+1,.mk k n s kids,h,hr,hu=>rb_step k n s kids hr hu fun x hx=>by
  simp only[yJ,Kj] at hr;simp only[exU,Kj] at hu;have hk:=hr.2;rw[wK,List.all_eq_true] at hk;exact rb_all N x (by have:=tM (k:=k) (n:=n) (s:=s) hx;omega) (hk x hx) (qX hu.2 x hx)
theorem rb_any {x:Ex}(hr:yJ x=true) (hu:exU x=true):Rb tk all x:=rb_all _ x (Nat.lt_succ_self _) hr hu
theorem ev_ex {x:Ex}(hr:yJ x=true) (hu:exU x=true) {a:Nat}{t:Tk}(hA:At tk a (twi all x 0++[t])) (hf:Fol 0 t) (hs:Stp 0 t):EvB tk 0 (pst a) (x,pst (a+(twi all x 0).length)):=(rb_any hr hu).w0 (m:=0) (sF hr) hA hf hs
end Go.Proofs.YtfpkpnkdnammnaaGreatDoor
namespace Go.Proofs.YtfpkpnkdnammnaaGreatDoor
mutual
def tS (all:Bool):St→List Tk
 | .mk k s es b c =>
  if k=1 then sg kVar::nmT s::sg [61]::(txH all es 0++[sg [59]])
  else if k=2 then nmT s::sg [61]::(txH all es 0++[sg [59]])
  else if k=3 then sg kMem::sg [91]::(txH all es 0++sg [93]::sg [61]::(txS all es 0++[sg [59]]))
  else if k=4 then sg kIf::(txH all es 0++sg [123]::(tB all b++sg [125]::(if 0<c.length then sg tI::sg [123]::(tB all c++[sg [125]]) else [])))
  else if k=5 then sg kWhile::(txH all es 0++sg [123]::(tB all b++[sg [125]]))
  else if k=6 then sg kRet::(txH all es 0++[sg [59]])
  else if k=7 then sg kOut::(txH all es 0++[sg [59]])
  else if k=8 then txH all es 0++[sg [59]]
  else []
def tB (all:Bool):List St→List Tk
 | []=>[]
 | x::l=>tS all x++tB all l
end
variable {tk:Nat→Tok}{all:Bool}{a:Nat}
def EvS (tk:Nat→Tok) (s:PS) (R:St×PS):Prop:=∃f g,(stF tk ((exF tk f).bin 0) g).stm s=some R
def EvK (tk:Nat→Tok) (acc:List St) (s:PS) (R:List St×PS):Prop:=∃f g,(stF tk ((exF tk f).bin 0) g).blk acc s=some R
theorem rM {f g:Nat}(h:f≤g) (s:PS):OLe ((exF tk f).bin 0 s) ((exF tk g).bin 0 s):=(exF_le (tk:=tk) h).bin 0 s
theorem st_le {f f' g g':Nat}(h:f≤f') (k:g≤g'):SF.Le (stF tk ((exF tk f).bin 0) g) (stF tk ((exF tk f').bin 0) g'):=stF_le (fun s=>rM h s) k
theorem uM {y:Tk}{x:Bs}(h:stT (tk a)=y) (hn:y.1=3→y.2.1≠x):isP tk x (pst a)=false:=by
 by_cases h3:y.1=3
 ·unfold isP;have:(tk (pst a).at_).text=y.2.1:=rE h;rw[this];simp[hn h3]
 ·exact isP_no h h3
theorem sJ {x:Bs}(h:stT (tk a)=sg x):isP tk x (pst a)=true:=by rw[tH h,Kv rfl]
theorem name_ok {x:Bs}(h:stT (tk a)=nmT x):xM tk (pst a)=(x,pst (a+1)):=by
 unfold xM;have hk:(tk (pst a).at_).kind=2:=sY h;have hx:(tk (pst a).at_).text=x:=rE h;rw[Kp ⟨rfl,hk⟩,hx];rfl
theorem evK_end {acc:List St}(h:stT (tk a)=sg [125]):EvK tk acc (pst a) (acc,pst (a+1)):=by
 refine⟨0,1,?_⟩;show qV tk _ acc (pst a)=_;unfold qV;rw[Ko (by simp),sJ h];rfl
theorem evK_more {acc:List St}{x:St}{b:Nat}{y:Tk}{R:List St×PS}(h:stT (tk a)=y) (hn:y.1=3→y.2.1≠[125]) (k:EvS tk (pst a) (x,pst b)) (k2:EvK tk (acc++[x]) (pst b) R):EvK tk acc (pst a) R:=by
 obtain⟨f,g,h1⟩:=k;obtain⟨f',g',h2⟩:=k2;refine⟨max f f',max g g'+1,?_⟩;show qV tk (stF tk ((exF tk (max f f')).bin 0) (max g g')) acc (pst a)=_;unfold qV;rw[Ko (by simp),uM h hn,(st_le (Nat.le_max_left f f') (Nat.le_max_left g g')).stm _ _ h1];exact (st_le (Nat.le_max_right f f') (Nat.le_max_right g g')).blk _ _ _ h2
theorem sim_ok {E:PS→Option (Ex×PS)}{k:Nat}{nm:Bs}{l:List Ex}{e:Ex}{b:Nat}(h:E (pst a)=some (e,pst b)) (hb:stT (tk b)=sg [59]):rA tk E k nm l (pst a)=some (.mk k nm (l++[e]) [] [],pst (b+1)):=by
 unfold rA;rw[h];show some (_,yA tk [59] (pst b))=_;rw[rS hb]
theorem evS_var {s:Bs}{e:Ex}{b:Nat}(h0:stT (tk a)=sg kVar) (h1:stT (tk (a+1))=nmT s) (h2:stT (tk (a+2))=sg [61]) (k:EvB tk 0 (pst (a+3)) (e,pst b)) (h3:stT (tk b)=sg [59]):EvS tk (pst a) (.mk 1 s [e] [] [],pst (b+1)):=by
 obtain⟨f,hf⟩:=k;refine⟨f,1,?_⟩;show sS tk _ _ (pst a)=_;unfold sS;rw[sJ h0];show rA tk _ 1 (xM tk (pst (a+1))).1 [] (yA tk [61] (xM tk (pst (a+1))).2)=_;rw[name_ok h1];show rA tk _ 1 s [] (yA tk [61] (pst (a+1+1)))=_;rw[rS (a:=a+1+1) h2,sim_ok hf h3];rfl
theorem evS_ret {e:Ex}{b:Nat}(h0:stT (tk a)=sg kRet) (k:EvB tk 0 (pst (a+1)) (e,pst b)) (h3:stT (tk b)=sg [59]):EvS tk (pst a) (.mk 6 [] [e] [] [],pst (b+1)):=by
 obtain⟨f,hf⟩:=k;refine⟨f,1,?_⟩;show sS tk _ _ (pst a)=_;unfold sS;rw[uM h0 (fun _=>by decide),uM h0 (fun _=>by decide),uM h0 (fun _=>by decide),sJ h0];exact sim_ok (a:=a+1) hf h3
theorem evS_out {e:Ex}{b:Nat}(h0:stT (tk a)=sg kOut) (k:EvB tk 0 (pst (a+1)) (e,pst b)) (h3:stT (tk b)=sg [59]):EvS tk (pst a) (.mk 7 [] [e] [] [],pst (b+1)):=by
 obtain⟨f,hf⟩:=k;refine⟨f,1,?_⟩;show sS tk _ _ (pst a)=_;unfold sS;rw[uM h0 (fun _=>by decide),uM h0 (fun _=>by decide),uM h0 (fun _=>by decide),uM h0 (fun _=>by decide),sJ h0];exact sim_ok (a:=a+1) hf h3
theorem blk_ok {r:SF}{R:Option (List St×PS)}(h:stT (tk a)=sg [123]) (k:r.blk [] (pst (a+1))=R):vQ tk r (pst a)=R:=by
 unfold vQ;rw[rS h];exact k
theorem evS_while {e:Ex}{l:List St}{b c:Nat}(h0:stT (tk a)=sg kWhile) (k:EvB tk 0 (pst (a+1)) (e,pst b)) (h3:stT (tk b)=sg [123]) (k2:EvK tk [] (pst (b+1)) (l,pst c)):EvS tk (pst a) (.mk 5 [] [e] l [],pst c):=by
 obtain⟨f,hf⟩:=k;obtain⟨f',g',h2⟩:=k2;refine⟨max f f',g'+1,?_⟩;show sS tk ((exF tk (max f f')).bin 0) (stF tk ((exF tk (max f f')).bin 0) g') (pst a)=_;unfold sS;rw[uM h0 (fun _=>by decide),uM h0 (fun _=>by decide),sJ h0];show andThen ((exF tk (max f f')).bin 0 (pst (a+1))) _=_;rw[rM (Nat.le_max_left f f') _ _ hf];show andThen (vQ tk (stF tk ((exF tk (max f f')).bin 0) g') (pst b)) _=_;rw[blk_ok h3 ((st_le (Nat.le_max_right f f') (Km g')).blk _ _ _ h2)];rfl
theorem evS_if {e:Ex}{l:List St}{b c:Nat}{y:Tk}(h0:stT (tk a)=sg kIf) (k:EvB tk 0 (pst (a+1)) (e,pst b)) (h3:stT (tk b)=sg [123]) (k2:EvK tk [] (pst (b+1)) (l,pst c)) (h4:stT (tk c)=y) (hy:y.1=3→y.2.1≠tI):EvS tk (pst a) (.mk 4 [] [e] l [],pst c):=by
 obtain⟨f,hf⟩:=k;obtain⟨f',g',h2⟩:=k2;refine⟨max f f',g'+1,?_⟩;show sS tk ((exF tk (max f f')).bin 0) (stF tk ((exF tk (max f f')).bin 0) g') (pst a)=_;unfold sS;rw[uM h0 (fun _=>by decide),sJ h0];show andThen ((exF tk (max f f')).bin 0 (pst (a+1))) _=_;rw[rM (Nat.le_max_left f f') _ _ hf];show andThen (vQ tk (stF tk ((exF tk (max f f')).bin 0) g') (pst b)) _=_;rw[blk_ok h3 ((st_le (Nat.le_max_right f f') (Km g')).blk _ _ _ h2)];show (bif isP tk tI (pst c) then _ else _)=_;rw[uM h4 hy];rfl
theorem evS_else {e:Ex}{l m:List St}{b c d:Nat}(h0:stT (tk a)=sg kIf) (k:EvB tk 0 (pst (a+1)) (e,pst b)) (h3:stT (tk b)=sg [123]) (k2:EvK tk [] (pst (b+1)) (l,pst c)) (h4:stT (tk c)=sg tI) (h5:stT (tk (c+1))=sg [123]) (k3:EvK tk [] (pst (c+2)) (m,pst d)):EvS tk (pst a) (.mk 4 [] [e] l m,pst d):=by
 obtain⟨f,hf⟩:=k;obtain⟨f',g',h2⟩:=k2;obtain⟨f2,g2,h6⟩:=k3;have m1:f≤max f (max f' f2):=Nat.le_max_left _ _;have m2:f'≤max f (max f' f2):=Kx (Nat.le_max_left _ _) (Nat.le_max_right _ _);have m3:f2≤max f (max f' f2):=Kx (Nat.le_max_right _ _) (Nat.le_max_right _ _);generalize max f (max f' f2)=F at m1 m2 m3;refine⟨F,max g' g2+1,?_⟩;show sS tk ((exF tk F).bin 0) (stF tk ((exF tk F).bin 0) (max g' g2)) (pst a)=_;unfold sS;rw[uM h0 (fun _=>by decide),sJ h0];show andThen ((exF tk F).bin 0 (pst (a+1))) _=_;rw[rM m1 _ _ hf];show andThen (vQ tk (stF tk ((exF tk F).bin 0) (max g' g2)) (pst b)) _=_;rw[blk_ok h3 ((st_le m2 (Nat.le_max_left g' g2)).blk _ _ _ h2)];show (bif isP tk tI (pst c) then andThen (vQ tk (stF tk ((exF tk F).bin 0) (max g' g2)) (pst (c+1))) _ else _)=_;rw[sJ h4,blk_ok h5 ((st_le m3 (Nat.le_max_right g' g2)).blk _ _ _ h6)];rfl
theorem stm_ex {E:PS→Option (Ex×PS)}{r:SF}{y:Tk}(h:stT (tk a)=y) (hn:y.1=3→y.2.1∉[kVar,kIf,kWhile,kRet,kOut]):sS tk E r (pst a)=andThen (E (pst a)) fun e s1 =>
  if (tk a).kind=2∧e.kind=2∧isP tk [61] s1=true then rA tk E 2 e.name [] (adv s1)
  else if (tk a).text=kMem∧e.kind=4∧isP tk [61] s1=true then rA tk E 3 [] e.kids (adv s1)
  else some (.mk 8 [] [e] [] [],yA tk [59] s1):=by
 unfold sS;rw[uM h (fun h3 e=>hn h3 (by rw[e];simp)),uM h (fun h3 e=>hn h3 (by rw[e];simp)),uM h (fun h3 e=>hn h3 (by rw[e];simp)),uM h (fun h3 e=>hn h3 (by rw[e];simp)),uM h (fun h3 e=>hn h3 (by rw[e];simp))];rfl
theorem evS_set {s:Bs}{e:Ex}{b:Nat}(h0:stT (tk a)=nmT s) (h1:stT (tk (a+1))=sg [61]) (k:EvB tk 0 (pst (a+2)) (e,pst b)) (h3:stT (tk b)=sg [59]):EvS tk (pst a) (.mk 2 s [e] [] [],pst (b+1)):=by
 obtain⟨f,hf⟩:=k;have h:EvB tk 0 (pst a) (.mk 2 0 s [],pst (a+1)):=evB (rP h0 (fun h=>by cases h) (evP_name h0 h1 (by decide) (fun _=>rfl))) (evL_stop h1 (stp_of rfl 0));obtain⟨g,hg⟩:=h;refine⟨max f g,1,?_⟩;show sS tk ((exF tk (max f g)).bin 0) _ (pst a)=_;rw[stm_ex h0 (fun h=>by cases h),rM (Nat.le_max_right f g) _ _ hg];show (if (tk a).kind=2∧(2:Nat)=2∧isP tk [61] (pst (a+1))=true then rA tk ((exF tk (max f g)).bin 0) 2 s [] (pst (a+2)) else _)=_;rw[Kp ⟨sY h0,rfl,sJ h1⟩,sim_ok (rM (Nat.le_max_left f g) _ _ hf) h3];rfl
theorem evS_put {x e:Ex}{b c:Nat}(h0:stT (tk a)=sg kMem) (h1:stT (tk (a+1))=sg [91]) (k:EvB tk 0 (pst (a+2)) (x,pst b)) (h2:stT (tk b)=sg [93]) (h3:stT (tk (b+1))=sg [61]) (k2:EvB tk 0 (pst (b+2)) (e,pst c)) (h4:stT (tk c)=sg [59]):EvS tk (pst a) (.mk 3 [] [x,e] [] [],pst (c+1)):=by
 obtain⟨f,hf⟩:=k2;have h:EvB tk 0 (pst a) (.mk 4 0 [] [x],pst (b+1)):=evB (rP h0 (fun _=>by decide) (evP_mem h0 h1 k h2)) (evL_stop h3 (stp_of rfl 0));obtain⟨g,hg⟩:=h;refine⟨max f g,1,?_⟩;show sS tk ((exF tk (max f g)).bin 0) _ (pst a)=_;rw[stm_ex h0 (fun _=>by decide),rM (Nat.le_max_right f g) _ _ hg];have hk:(tk a).kind=3:=sY h0;have ht:(tk a).text=kMem:=rE h0;show (if (tk a).kind=2∧(Ex.mk 4 0 [] [x]).kind=2∧isP tk [61] (pst (b+1))=true then _ else if (tk a).text=kMem∧(Ex.mk 4 0 [] [x]).kind=4∧isP tk [61] (pst (b+1))=true then rA tk ((exF tk (max f g)).bin 0) 3 [] [x] (pst (b+2)) else _)=_;rw[Ko (fun h=>by rw[hk] at h;exact absurd h.1 (by omega)),Kp ⟨ht,rfl,sJ h3⟩,sim_ok (rM (Nat.le_max_left f g) _ _ hf) h4];rfl
theorem evS_do {e:Ex}{b:Nat}{y:Tk}(h0:stT (tk a)=y) (hy:Beg y) (k:EvB tk 0 (pst a) (e,pst b)) (h3:stT (tk b)=sg [59]):EvS tk (pst a) (.mk 8 [] [e] [] [],pst (b+1)):=by
 obtain⟨f,hf⟩:=k;refine⟨f,1,?_⟩;show sS tk ((exF tk f).bin 0) _ (pst a)=_
 rw[stm_ex h0 (fun h3 hm=>by
  have:=hy h3;simp only[List.mem_cons,List.not_mem_nil,or_false] at this hm
  rcases this with h|h|h|h|h|h<;>rw[h] at hm<;>exact absurd hm (by decide)),hf]
 show (if _∧_∧isP tk [61] (pst b)=true then _ else if _∧_∧isP tk [61] (pst b)=true then _ else some (_,yA tk [59] (pst b)))=_;have hp:isP tk [61] (pst b)=false:=uM h3 (fun _=>by decide);rw[hp,Ko (by simp),Ko (by simp),rS h3]
def BegS (y:Tk):Prop:=y.1=3→y.2.1≠tI∧y.2.1≠[125]
theorem Beg.s {y:Tk}(h:Beg y):BegS y:=fun h3=>by
 have:=h h3;simp only[List.mem_cons,List.not_mem_nil,or_false] at this;rcases this with h|h|h|h|h|h<;>rw[h]<;>decide
theorem rightSt_at {k:Nat}{s:Bs}{es:List Ex}{b c:List St}(h:xH (.mk k s es b c)=true):1≤k∧k≤8∧es.length=(if k=3 then 2 else 1)∧(k≠1→k≠2→s=[])∧(k≠4→k≠5→b=[])∧(k≠4→c=[])∧(∀x∈es,yJ x=true)∧(∀x∈b,xH x=true)∧(∀x∈c,xH x=true):=by
 rw[xH,Kj,Kj,Kj] at h;obtain⟨⟨⟨hok,he⟩,hb⟩,hc⟩:=h;rw[wK,List.all_eq_true] at he;rw[uQ,List.all_eq_true] at hb hc;unfold pA at hok;simp only[Kj,Bool.or_eq_true,Kn] at hok;obtain⟨⟨⟨⟨⟨h1,h8⟩,hl⟩,hn⟩,h4⟩,h5⟩:=hok;refine⟨h1,h8,hl,fun g1 g2=>?_,fun g1 g2=>?_,fun g1=>?_,he,hb,hc⟩
 ·rw[Ko (by omega)] at hn;exact Jo hn
 ·exact List.length_eq_zero_iff.1 (h4.resolve_left (by omega))
 ·exact List.length_eq_zero_iff.1 (h5.resolve_left (by omega))
theorem tS_beg {x:St}(h:xH x=true):∃y r,tS all x=y::r∧BegS y:=by
 obtain⟨k,s,es,b,c⟩:=x;obtain⟨h1,h8,hl,_,_,_,he,_,_⟩:=rightSt_at h;rw[tS];have:k=1∨k=2∨k=3∨k=4∨k=5∨k=6∨k=7∨k=8:=by omega
 rcases this with rfl|rfl|rfl|rfl|rfl|rfl|rfl|rfl
 ·exact⟨_,_,rfl,fun _=>by decide⟩
 ·exact⟨_,_,rfl,fun h=>by cases h⟩
 ·exact⟨_,_,rfl,fun _=>by decide⟩
 ·exact⟨_,_,rfl,fun _=>by decide⟩
 ·exact⟨_,_,rfl,fun _=>by decide⟩
 ·exact⟨_,_,rfl,fun _=>by decide⟩
 ·exact⟨_,_,rfl,fun _=>by decide⟩
 ·obtain⟨e,rfl⟩:=List.length_eq_one_iff.1 hl;obtain⟨y,r,e1,hy⟩:=twi_beg (all:=all) (he e (by simp)) 0;refine⟨y,r++[sg [59]],?_,hy.s⟩;show txH all [e] 0++[sg [59]]=_;rw[txH];unfold twi at e1;rw[e1];rfl
theorem ev_blk {l:List St}(hR:∀x∈l,xH x=true∧∀a t,At tk a (tS all x++[t])→(t.1=3→t.2.1≠tI)→EvS tk (pst a) (x,pst (a+(tS all x).length))):∀(acc:List St) (a:Nat),At tk a (tB all l++[sg [125]])→EvK tk acc (pst a) (acc++l,pst (a+(tB all l).length+1)):=by
 induction l with
 | nil=>intro acc a hA;rw[Ku];exact evK_end hA.head
 | cons x l ih =>
  intro acc a hA;rw[tB,Kb] at hA;have hx:=hR x (by simp);obtain⟨y,r,e,hy⟩:=tS_beg (all:=all) hx.1
  have hh:stT (tk a)=y:=by
   have h2:=hA;rw[e] at h2;exact h2.head
  obtain⟨z,r2,e2,hz⟩:∃z r2,tB all l++[sg [125]]=z::r2∧(z.1=3→z.2.1≠tI):=by
   cases l with
   | nil=>exact⟨_,_,rfl,fun _=>by decide⟩
   | cons w l =>
    obtain⟨z,r2,e2,hz⟩:=tS_beg (all:=all) (hR w (by simp)).1;exact⟨z,r2++(tB all l++[sg [125]]),by rw[tB,e2,Kb];rfl,fun h3=>(hz h3).1⟩
  have h1:=hx.2 a z (by rw[e2] at hA;exact hA.pre) hz;have h2:=ih (fun y hy=>hR y (Kg _ hy)) (acc++[x]) _ hA.right;have e3:a+(tS all x).length+(tB all l).length+1=a+(tB all (x::l)).length+1:=by rw[tB,Ji];omega
  rw[e3,Kb] at h2;exact evK_more hh (fun h3=>(hy h3).2) h1 h2
theorem fol0 {x:Bs}(h1:x≠[40]) (h2:wA x=none):Fol 0 (sg x)∧Stp 0 (sg x):=⟨fol_of h1 h2 0,stp_of h2 0⟩
theorem st_step (k:Nat) (s:Bs) (es:List Ex) (b c:List St) (hr:xH (.mk k s es b c)=true) (hu:stU (.mk k s es b c)=true) (IH:∀x,(x∈b∨x∈c)→∀a t,At tk a (tS all x++[t])→(t.1=3→t.2.1≠tI)→EvS tk (pst a) (x,pst (a+(tS all x).length))) (a:Nat) (t:Tk) (hA:At tk a (tS all (.mk k s es b c)++[t])) (ht:t.1=3→t.2.1≠tI):EvS tk (pst a) (.mk k s es b c,pst (a+(tS all (.mk k s es b c)).length)):=by
 obtain⟨h1,h8,hl,hs,hb,hc,he,hbr,hcr⟩:=rightSt_at hr;simp only[stU,Kj] at hu;obtain⟨⟨hue,hub⟩,huc⟩:=hu;have hue:=qX hue;have exq:∀{x:Ex} {a:Nat} {z:Bs},x∈es→At tk a (twi all x 0++[sg z])→z≠[40]→wA z=none→EvB tk 0 (pst a) (x,pst (a+(twi all x 0).length)):=fun hx hA h1 h2=>ev_ex (he _ hx) (hue _ hx) hA (fol0 h1 h2).1 (fol0 h1 h2).2;have hA0:=hA.left;have:k=1∨k=2∨k=3∨k=4∨k=5∨k=6∨k=7∨k=8:=by omega
 rcases this with rfl|rfl|rfl|rfl|rfl|rfl|rfl|rfl
 ·have hb:=hb (by omega) (by omega);have hc:=hc (by omega);subst hb hc;obtain⟨e,rfl⟩:=List.length_eq_one_iff.1 hl;have e0:tS all (.mk 1 s [e] [] [])=sg kVar::nmT s::sg [61]::(twi all e 0++[sg [59]]):=by rw[tS,Kp rfl,txH];rfl
  rw[e0] at hA0 ⊢;have h3:=hA0.tail.tail.tail;have:=evS_var hA0.head hA0.tail.head hA0.tail.tail.head (exq (by simp) h3 (by decide) rfl) h3.right.head;rw[show a+(sg kVar::nmT s::sg [61]::(twi all e 0++[sg [59]])).length=a+3+(twi all e 0).length+1 by simp only[Jj,Ji,Jk];omega];exact this
 ·have hb:=hb (by omega) (by omega);have hc:=hc (by omega);subst hb hc;obtain⟨e,rfl⟩:=List.length_eq_one_iff.1 hl;have e0:tS all (.mk 2 s [e] [] [])=nmT s::sg [61]::(twi all e 0++[sg [59]]):=by rw[tS,Ko (by omega),Kp rfl,txH];rfl
  rw[e0] at hA0 ⊢;have h3:=hA0.tail.tail;have:=evS_set hA0.head hA0.tail.head (exq (by simp) h3 (by decide) rfl) h3.right.head;rw[show a+(nmT s::sg [61]::(twi all e 0++[sg [59]])).length=a+2+(twi all e 0).length+1 by simp only[Jj,Ji,Jk];omega];exact this
 ·have hb:=hb (by omega) (by omega);have hc:=hc (by omega);have hs:=hs (by omega) (by omega);subst hb hc hs;rw[Kp rfl] at hl
  obtain⟨x,e,rfl⟩:∃x e,es=[x,e]:=by
   match es,hl with
   | [x,e],_=>exact⟨x,e,rfl⟩
  ·have e0:tS all (.mk 3 [] [x,e] [] [])=sg kMem::sg [91]::(twi all x 0++sg [93]::sg [61]::(twi all e 0++[sg [59]])):=by rw[tS,Ko (by omega),Ko (by omega),Kp rfl,txH,txS,txH];rfl
   rw[e0] at hA0 ⊢;have h3:=hA0.tail.tail;have h4:=h3.right;have h5:=h4.tail.tail;have:=evS_put hA0.head hA0.tail.head (exq (x:=x) (by simp) h3.pre (by decide) rfl) h4.head h4.tail.head (exq (x:=e) (by simp) h5 (by decide) rfl) h5.right.head;rw[show a+(sg kMem::sg [91]::(twi all x 0++sg [93]::sg [61]::(twi all e 0++[sg [59]]))).length=a+2+(twi all x 0).length+1+1+(twi all e 0).length+1 by simp only[Jj,Ji,Jk];omega];exact this
 ·have hs:=hs (by omega) (by omega);subst hs;obtain⟨e,rfl⟩:=List.length_eq_one_iff.1 hl
  by_cases hcl:0<c.length
  ·have e0:tS all (.mk 4 [] [e] b c)=sg kIf::(twi all e 0++sg [123]::(tB all b++sg [125]::sg tI::sg [123]::(tB all c++[sg [125]]))):=by rw[tS,Ko (by omega),Ko (by omega),Ko (by omega),Kp rfl,txH,Kp hcl];rfl
   rw[e0] at hA0 ⊢;have h3:=hA0.tail;have h4:=h3.right;have h5:=h4.tail;have h6:=h5.right;have h7:=h6.tail.tail.tail;have kb:=ev_blk (l:=b) (fun x hx=>⟨hbr x hx,IH x (.inl hx)⟩) [] _ h5.pre;have kc:=ev_blk (l:=c) (fun x hx=>⟨hcr x hx,IH x (.inr hx)⟩) [] _ h7;have:=evS_else hA0.head (exq (x:=e) (by simp) h3.pre (by decide) rfl) h4.head kb h6.tail.head h6.tail.tail.head kc;rw[show a+(sg kIf::(twi all e 0++sg [123]::(tB all b++sg [125]::sg tI::sg [123]::(tB all c++[sg [125]])))).length=a+1+(twi all e 0).length+1+(tB all b).length+1+1+1+(tB all c).length+1 by simp only[Jj,Ji,Jk];omega];exact this
  ·have hc0:c=[]:=by cases c with
    | nil=>rfl
    | cons _ _=>simp at hcl
   subst hc0;have e0:tS all (.mk 4 [] [e] b [])=sg kIf::(twi all e 0++sg [123]::(tB all b++[sg [125]])):=by rw[tS,Ko (by omega),Ko (by omega),Ko (by omega),Kp rfl,txH,Ko hcl];rfl
   rw[e0] at hA hA0 ⊢;have h3:=hA0.tail;have h4:=h3.right;have h5:=h4.tail;have kb:=ev_blk (l:=b) (fun x hx=>⟨hbr x hx,IH x (.inl hx)⟩) [] _ h5;have hle:a+(sg kIf::(twi all e 0++sg [123]::(tB all b++[sg [125]]))).length=a+1+(twi all e 0).length+1+(tB all b).length+1:=by simp only[Jj,Ji,Jk];omega
   have hend:=hA.right.head;rw[hle] at hend ⊢;exact evS_if hA0.head (exq (x:=e) (by simp) h3.pre (by decide) V) h4.head kb hend ht
 ·have hs:=hs (by omega) (by omega);have hc:=hc (by omega);subst hs hc;obtain⟨e,rfl⟩:=List.length_eq_one_iff.1 hl;have e0:tS all (.mk 5 [] [e] b [])=sg kWhile::(twi all e 0++sg [123]::(tB all b++[sg [125]])):=by rw[tS,Ko (by omega),Ko (by omega),Ko (by omega),Ko (by omega),Kp rfl,txH];rfl
  rw[e0] at hA0 ⊢;have h3:=hA0.tail;have h4:=h3.right;have h5:=h4.tail;have kb:=ev_blk (l:=b) (fun x hx=>⟨hbr x hx,IH x (.inl hx)⟩) [] _ h5;rw[show a+(sg kWhile::(twi all e 0++sg [123]::(tB all b++[sg [125]]))).length=a+1+(twi all e 0).length+1+(tB all b).length+1 by simp only[Jj,Ji,Jk];omega];exact evS_while hA0.head (exq (x:=e) (by simp) h3.pre (by decide) V) h4.head kb
 ·have hb:=hb (by omega) (by omega);have hc:=hc (by omega);have hs:=hs (by omega) (by omega);subst hb hc hs;obtain⟨e,rfl⟩:=List.length_eq_one_iff.1 hl;have e0:tS all (.mk 6 [] [e] [] [])=sg kRet::(twi all e 0++[sg [59]]):=by rw[tS,Ko (by omega),Ko (by omega),Ko (by omega),Ko (by omega),Ko (by omega),Kp rfl,txH];rfl
  rw[e0] at hA0 ⊢;have h3:=hA0.tail;rw[show a+(sg kRet::(twi all e 0++[sg [59]])).length=a+1+(twi all e 0).length+1 by simp only[Jj,Ji,Jk];omega];exact evS_ret hA0.head (exq (by simp) h3 (by decide) V) h3.right.head
 ·have hb:=hb (by omega) (by omega);have hc:=hc (by omega);have hs:=hs (by omega) (by omega);subst hb hc hs;obtain⟨e,rfl⟩:=List.length_eq_one_iff.1 hl;have e0:tS all (.mk 7 [] [e] [] [])=sg kOut::(twi all e 0++[sg [59]]):=by rw[tS,Ko (by omega),Ko (by omega),Ko (by omega),Ko (by omega),Ko (by omega),Ko (by omega),Kp rfl,txH];rfl
  rw[e0] at hA0 ⊢;have h3:=hA0.tail;rw[show a+(sg kOut::(twi all e 0++[sg [59]])).length=a+1+(twi all e 0).length+1 by simp only[Jj,Ji,Jk];omega];exact evS_out hA0.head (exq (by simp) h3 (by decide) V) h3.right.head
 ·have hb:=hb (by omega) (by omega);have hc:=hc (by omega);have hs:=hs (by omega) (by omega);subst hb hc hs;obtain⟨e,rfl⟩:=List.length_eq_one_iff.1 hl;have e0:tS all (.mk 8 [] [e] [] [])=twi all e 0++[sg [59]]:=by rw[tS,Ko (by omega),Ko (by omega),Ko (by omega),Ko (by omega),Ko (by omega),Ko (by omega),Ko (by omega),Kp rfl,txH];rfl
  rw[e0] at hA0 ⊢;obtain⟨y,r,e1,hy⟩:=twi_beg (all:=all) (he e (by simp)) 0
  have hh:stT (tk a)=y:=by
   have h2:=hA0;rw[e1] at h2;exact h2.head
  rw[show a+(twi all e 0++[sg [59]]).length=a+(twi all e 0).length+1 by simp only[Ji,Jj,Jk];omega];exact evS_do hh hy (exq (by simp) hA0 (by decide) V) hA0.right.head
theorem st_backs:∀(N:Nat) (x:St),SizeOf.sizeOf x<N→xH x=true→stU x=true→∀a t,At tk a (tS all x++[t])→(t.1=3→t.2.1≠tI)→EvS tk (pst a) (x,pst (a+(tS all x).length))
 | 0,_,h,_,_=>absurd h (by omega)
 | N+1,.mk k s es b c,h,hr,hu=>st_step k s es b c hr hu fun x hx=>by
  obtain⟨_,_,_,_,_,_,_,hb,hc⟩:=rightSt_at hr;simp only[stU,Kj] at hu;exact st_backs N x (by have:=vF (k:=k) (s:=s) (es:=es) hx;omega) (hx.elim (hb x) (hc x)) (hx.elim (stsU_all hu.1.2 x) (stsU_all hu.2 x))
theorem blk_any {l:List St}(hr:rightSts l=true) (hu:stsU l=true) {a:Nat}(hA:At tk a (tB all l++[sg [125]])):EvK tk [] (pst a) (l,pst (a+(tB all l).length+1)):=by
 rw[uQ,List.all_eq_true] at hr;exact ev_blk (l:=l) (fun x hx=>⟨hr x hx,st_backs _ x (Nat.lt_succ_self _) (hr x hx) (stsU_all hu x hx)⟩) [] a hA
end Go.Proofs.YtfpkpnkdnammnaaGreatDoor
namespace Go.Proofs.YtfpkpnkdnammnaaGreatDoor
def prt:List Bs→List Tk
 | []=>[]
 | q::l=>sg [44]::nmT q::prt l
def pr:List Bs→List Tk
 | []=>[]
 | p::l=>nmT p::prt l
def tF (all:Bool) (f:Fn):List Tk:=sg kFn::nmT f.name::sg [40]::(pr f.params++sg [41]::sg [123]::(tB all f.body++[sg [125]]))
def tP (all:Bool) (fs:List Fn):List Tk:=(fs.map (tF all)).flatten++[(0,[],0)]
variable {tk:Nat→Tok}{all:Bool}
theorem parF_ok:∀(l:List Bs) (p:Bs) (acc:List Bs) (a f:Nat),l.length<f→At tk a (nmT p::prt l++[sg [41]])→rK tk f acc (pst a)=some (acc++p::l,pst (a+(nmT p::prt l).length+1))
 | _,_,_,_,0,h,_=>absurd h (by omega)
 | [],p,acc,a,f+1,_,hA=>by
  unfold rK;have h1:stT (tk (a+1))=sg [41]:=hA.tail.head;rw[Ko (by simp),name_ok hA.head,sJ h1];rfl
 | q::l,p,acc,a,f+1,h,hA=>by
  have hA':At tk a (nmT p::sg [44]::(nmT q::prt l++[sg [41]])):=hA;have h1:stT (tk (a+1))=sg [44]:=hA'.tail.head;have ih:=parF_ok l q (acc++[p]) (a+2) f (by simp at h;omega) hA'.tail.tail;unfold rK;rw[Ko (by simp),name_ok hA'.head];show (bif isP tk [41] (pst (a+1)) then _ else rK tk f (acc++[p]) (yA tk [44] (pst (a+1))))=_;rw[uM h1 (fun _=>by decide),rS h1,cond_false,ih,Kb];rw[show a+2+(nmT q::prt l).length+1=a+(nmT p::prt (q::l)).length+1 by simp only[prt,Jj];omega];rfl
theorem parS_ok {ps:List Bs}{a f:Nat}(hf:ps.length<f) (hA:At tk a (pr ps++[sg [41]])):pV tk f (pst a)=some (ps,pst (a+(pr ps).length+1)):=by
 unfold pV
 cases ps with
 | nil=>rw[sJ hA.head];rfl
 | cons p l =>
  have h0:stT (tk a)=nmT p:=hA.head;rw[uM h0 (fun h=>by cases h),cond_false];exact parF_ok l p [] a f (by simp at hf;omega) hA
def EvF (tk:Nat→Tok) (s:PS) (R:Fn×PS):Prop:=∃f,fnS tk ((exF tk f).bin 0) f s=some R
theorem ev_fn {f:Fn}(hr:rightSts f.body=true) (hu:stsU f.body=true) {a:Nat}(hA:At tk a (tF all f)):EvF tk (pst a) (f,pst (a+(tF all f).length)):=by
 obtain⟨nm,ps,body⟩:=f;have hA':At tk a (sg kFn::nmT nm::sg [40]::(pr ps++sg [41]::sg [123]::(tB all body++[sg [125]]))):=hA;have h3:=hA'.tail.tail.tail;have h4:=h3.right;have h5:=h4.tail.tail;obtain⟨f,g,hk⟩:=blk_any hr hu h5;have m1:f≤max f (max g (ps.length+1)):=Nat.le_max_left _ _;have m2:g≤max f (max g (ps.length+1)):=Kx (Nat.le_max_left _ _) (Nat.le_max_right _ _);have m3:ps.length+1≤max f (max g (ps.length+1)):=Kx (Nat.le_max_right _ _) (Nat.le_max_right _ _);generalize max f (max g (ps.length+1))=F at m1 m2 m3;refine⟨F,?_⟩;unfold fnS;rw[rS hA'.head,name_ok hA'.tail.head];show andThen (pV tk F (yA tk [40] (pst (a+1+1)))) _=_;rw[rS (a:=a+1+1) hA'.tail.tail.head,parS_ok (by omega) h3.pre];show andThen (vQ tk (stF tk ((exF tk F).bin 0) F) (pst (a+1+1+1+(pr ps).length+1))) _=_;rw[blk_ok h4.tail.head ((st_le m1 m2).blk _ _ _ hk)];show some (_,_)=_
 rw[show a+(tF all ⟨nm,ps,body⟩).length=a+1+1+1+(pr ps).length+1+1+(tB all body).length+1 by
  show a+(sg kFn::nmT nm::sg [40]::(pr ps++sg [41]::sg [123]::(tB all body++[sg [125]]))).length=_
  simp only[Jj,Ji,Jk];omega]
theorem fn_le {f g:Nat}(h:f≤g) (s:PS):OLe (fnS tk ((exF tk f).bin 0) f s) (fnS tk ((exF tk g).bin 0) g s):=fnS_le (fun s=>rM h s) h s
theorem ev_prg:∀(fs:List Fn) (acc:List Fn) (a:Nat),(∀f∈fs,rightSts f.body=true∧stsU f.body=true)→At tk a (tP all fs)→∃f g b,rL tk ((exF tk f).bin 0) f g acc (pst a)=some (acc++fs,pst b)
 | [],acc,a,_,hA=>by
  refine⟨0,1,a,?_⟩;have hk:(tk a).kind=0:=sY hA.head;unfold rL;rw[Ko (fun h=>h.2 hk),Ku]
 | x::fs,acc,a,h,hA=>by
  have hA':At tk a (tF all x++tP all fs):=by
   have:tP all (x::fs)=tF all x++tP all fs:=by unfold tP;rw[Kq,Kr,Kb]
   rw[← this];exact hA
  obtain⟨f,hf⟩:=ev_fn (h x (by simp)).1 (h x (by simp)).2 hA'.left;obtain⟨f',g,b,hg⟩:=ev_prg fs (acc++[x]) _ (fun y hy=>h y (Kg _ hy)) hA'.right;refine⟨max f f',g+1,b,?_⟩;have hk:(tk a).kind=3:=sY (x:=sg kFn) (hA'.left).head;unfold rL;rw[Kp ⟨rfl,by show (tk a).kind≠0;omega⟩,fn_le (Nat.le_max_left f f') _ _ hf];show rL tk ((exF tk (max f f')).bin 0) (max f f') g (acc++[x]) (pst (a+(tF all x).length))=_;rw[prgF_le (fun s=>rM (Nat.le_max_right f f') s) (Nat.le_max_right f f') (Km g) _ _ _ hg,Kb];rfl
theorem parse_back {fs:List Fn}(h:∀f∈fs,rightSts f.body=true∧stsU f.body=true) (hA:At tk 0 (tP all fs)):∃F,runP tk ((exF tk F).bin 0) F=some (fs,0,0):=by
 obtain⟨f,g,b,hg⟩:=ev_prg fs [] 0 h hA;refine⟨max f g,?_⟩;unfold runP;rw[prgF_le (fun s=>rM (Nat.le_max_left f g) s) (Nat.le_max_left f g) (Nat.le_max_right f g) [] (pst 0) _ hg];rfl
end Go.Proofs.YtfpkpnkdnammnaaGreatDoor
namespace Go.Proofs.YtfpkpnkdnammnaaGreatDoor
open Go.RowKit
theorem dig_blank {c:UInt8}(h:vW c=true):wP c=false:=by
 unfold vW vB at h;unfold wP qM;simp only[Kj,Kn] at h;simp;omega
theorem decL_snoc (l:Bs) (d:UInt8):sV (l++[d])=10*sV l+(d.toNat-48):=by simp[sV]
theorem digit_nat {n:Nat}(h:n<10):(UInt8.ofNat (48+n)).toNat=48+n:=by
 rw[UInt8.toNat_ofNat'];omega
theorem digit_ok {n:Nat}(h:n<10):vW (UInt8.ofNat (48+n))=true:=by
 have:∀i:Fin 10,vW (UInt8.ofNat (48+i.val))=true:=by decide
 exact this ⟨n,h⟩
theorem dec_step {u:Nat}(h:¬u<10):Lib.decDigits u=Lib.decDigits (u/10)++[UInt8.ofNat (48+u%10)]:=by rw[Lib.decDigits,dif_neg h]
theorem decL_dec:∀u:Nat,sV (Lib.decDigits u)=u∧∀c∈Lib.decDigits u,vW c=true:=by
 intro u
 induction u using Nat.strongRecOn with
 | _ u ih =>
  by_cases h:u<10
  ·rw[dd1 h];refine⟨?_,fun c hc=>?_⟩
   ·show 10*0+((UInt8.ofNat (48+u)).toNat-48)=u;rw[digit_nat h];omega
   ·rw[Aa] at hc;subst hc;exact digit_ok h
  ·obtain⟨i1,i2⟩:=ih (u/10) (by omega);rw[dec_step h];refine⟨?_,fun c hc=>?_⟩
   ·rw[decL_snoc,i1,digit_nat (by omega)];omega
   ·rcases Kz.1 hc with hc|hc
    ·exact i2 c hc
    ·rw[Aa] at hc;subst hc;exact digit_ok (by omega)
theorem dec_ne (u:Nat):Lib.decDigits u≠[]:=by
 by_cases h:u<10
 ·rw[dd1 h];simp
 ·rw[dec_step h];simp
end Go.Proofs.YtfpkpnkdnammnaaGreatDoor
namespace Go.Proofs.YtfpkpnkdnammnaaGreatDoor
def lx (s:Bs):List Tk:=(pW 0 s).map stT
theorem tokD_free:∀(k:Nat) (i j:Nat) (s:Bs),s.length=k→(pW i s).map stT=(pW j s).map stT:=by
 intro k
 induction k using Nat.strongRecOn with
 | _ k ih =>
  intro i j s hk
  cases h:s.drop (spanL wP s) with
  | nil=>rw[sT h,sT h];rfl
  | cons c r =>
   have hl:=rZ c r;have hd:(c::r).length≤s.length:=by rw[← h,Kc];omega
   rw[uU h,uU h,Kq,Kq,ih _ (by rw[Kc];omega) _ (j+spanL wP s+(xP (c::r)).text.length) _ rfl];rfl
theorem lx_end:lx []=[(0,[],0)]:=rfl
theorem lx_blank {c:UInt8}{r:Bs}(h:wP c=true):lx (c::r)=lx r:=by
 have hs:spanL wP (c::r)=spanL wP r+1:=by unfold spanL;rw[List.takeWhile_cons,Kp h];rfl
 unfold lx
 cases hd:r.drop (spanL wP r) with
 | nil =>
  rw[sT hd,sT (s:=c::r) (by rw[hs];exact hd)];rfl
 | cons d t =>
  rw[uU hd,uU (s:=c::r) (by rw[hs];exact hd),Kq,Kq,tokD_free _ _ (0+spanL wP r+(xP (d::t)).text.length) _ rfl];rfl
theorem lx_next {c:UInt8}{r:Bs}(h:wP c=false):lx (c::r)=((xP (c::r)).kind,(xP (c::r)).text,(xP (c::r)).value)::lx ((c::r).drop (xP (c::r)).text.length):=by
 have hs:spanL wP (c::r)=0:=by unfold spanL;rw[List.takeWhile_cons,Ko (by rw[h];simp)];rfl
 unfold lx;rw[uU (s:=c::r) (c:=c) (r:=r) (by rw[hs];rfl),Kq,tokD_free _ _ 0 _ rfl];rfl
theorem takeW {p:UInt8→Bool}:∀{w r:Bs},(∀c∈w,p c=true)→(∀c t,r=c::t→p c=false)→(w++r).takeWhile p=w
 | [],[],_,_=>rfl
 | [],c::t,_,h=>by rw[List.nil_append,List.takeWhile_cons,Ko (by rw[h c t rfl];simp)]
 | c::w,r,hw,h=>by rw[List.cons_append,List.takeWhile_cons,Kp (hw c (by simp)),takeW (fun x hx=>hw x (Kg _ hx)) h]
def brkL:Bs:=[32,10,40,41,91,93,123,125,44,59,9,13]
def Bk (r:Bs):Prop:=∀c t,r=c::t→c∈brkL
theorem bk_cons {c:UInt8}{t:Bs}(h:c∈brkL):Bk (c::t):=fun d u e=>by cases e;exact h
theorem brk_wor:∀c∈brkL,vH c=false:=by decide
theorem brk_dig:∀c∈brkL,vW c=false:=by decide
theorem Bk.wor {r:Bs}(h:Bk r):∀c t,r=c::t→vH c=false:=fun c t e=>brk_wor c (h c t e)
theorem Bk.dig {r:Bs}(h:Bk r):∀c t,r=c::t→vW c=false:=fun c t e=>brk_dig c (h c t e)
theorem let_wor {c:UInt8}(h:qN c=true):vH c=true:=by
 have:(sP c.toNat||vB c.toNat)=true:=by rw[show sP c.toNat=true from h];rfl
 exact this
theorem let_dig {c:UInt8}(h:qN c=true):vW c=false∧wP c=false:=by
 have h1:sP c.toNat=true:=h;unfold sP at h1;simp only[Kj,Kn] at h1;exact⟨by show vB c.toNat=false;unfold vB;simp;omega,by show qM c.toNat=false;unfold qM;simp;omega⟩
theorem lx_word {c:UInt8}{w r:Bs}(h1:qN c=true) (hw:∀x∈w,vH x=true) (hl:(c::w).length≤12) (hr:Bk r):lx (c::w++r)=((if c::w∈vN then 3 else 2),c::w,0)::lx r:=by
 obtain⟨hd,hb⟩:=let_dig h1
 have ht:(c::w++r).takeWhile vH=c::w:=takeW (w:=c::w) (fun x hx=>by
  rcases List.mem_cons.1 hx with rfl|hx
  ·exact let_wor h1
  ·exact hw x hx) hr.wor
 have hn:xP (c::w++r)=⟨if c::w∈vN then 3 else 2,0,c::w,0⟩:=by
  have ht':(c::(w++r)).takeWhile vH=c::w:=ht;unfold xP;show (if vW c=true then _ else _)=_;rw[List.cons_append];rw[Ko (by rw[hd];simp),Kp h1,ht',Ko (by omega)]
 have e:c::w++r=c::(w++r):=rfl;rw[e,lx_next hb,← e,hn];dsimp only;rw[List.drop_left' rfl]
theorem lx_num {n:Nat}(hn:n<4294967296) {r:Bs}(hr:Bk r):lx (Lib.decDigits n++r)=nuT n::lx r:=by
 obtain⟨h1,h2⟩:=decL_dec n;have h3:=dec_ne n;unfold nuT;generalize Lib.decDigits n=ds at *
 cases ds with
 | nil=>exact absurd rfl h3
 | cons c w =>
  have hc:=h2 c (by simp);have ht:(c::w++r).takeWhile vW=c::w:=takeW (w:=c::w) h2 hr.dig
  have hnx:xP (c::w++r)=⟨1,0,c::w,n⟩:=by
   have ht':(c::(w++r)).takeWhile vW=c::w:=ht;unfold xP;rw[List.cons_append];dsimp only;rw[Kp hc,ht',h1,Nat.min_eq_left (by omega)]
  have e:c::w++r=c::(w++r):=rfl;rw[e,lx_next (dig_blank hc),← e,hnx];dsimp only;rw[List.drop_left' rfl]
theorem lx_sym {s r:Bs}{c:UInt8}{t:Bs}(hs:s=c::t) (hb:wP c=false) (hd:vW c=false) (hl:qN c=false) (h:uZ (s++r)=s.length):lx (s++r)=sg s::lx r:=by
 subst hs
 have hnx:xP (c::t++r)=⟨3,0,c::t,0⟩:=by
  have h':uZ (c::(t++r))=(c::t).length:=h;unfold xP;rw[List.cons_append];dsimp only;rw[Ko (by rw[hd];simp),Ko (by rw[hl];simp),h',Ko (by simp)];congr 1;exact List.take_left' (l₁:=c::t) (l₂:=r) rfl
 have e:c::t++r=c::(t++r):=rfl;rw[e,lx_next hb,← e,hnx];dsimp only;rw[List.drop_left' rfl];rfl
theorem symL_two {s:Bs}(h:s∈rX) (r:Bs):uZ (s++r)=2:=by
 unfold uZ;simp only[rX,List.mem_cons,List.not_mem_nil,or_false] at h;rcases h with rfl|rfl|rfl|rfl|rfl|rfl<;>exact Kp (show List.take 2 (_::_::r)∈rX by rw[show ∀(x y:UInt8),List.take 2 (x::y::r)=[x,y] from fun _ _=>rfl];decide)
theorem symL_one {c:UInt8}(hc:c∈sE) {r:Bs}(h:∀d t,r=d::t→[c,d]∉rX):uZ (c::r)=1:=by
 unfold uZ
 cases r with
 | nil =>
  rw[Ko]
  ·dsimp only;rw[Kp hc]
  ·show [c]∉rX;intro h2;simp[rX] at h2
 | cons d t =>
  rw[show List.take 2 (c::d::t)=[c,d] from rfl,Ko (h d t rfl)];dsimp only;rw[Kp hc]
theorem one_free {c:UInt8}(hc:c∈([40,41,91,93,123,125,44,59,45,126]:Bs)) (r:Bs):lx (c::r)=sg [c]::lx r:=by
 have h1:∀c∈([40,41,91,93,123,125,44,59,45,126]:Bs),c∈sE∧wP c=false∧vW c=false∧qN c=false∧c∉rX.map (fun s=>s.headD 0):=by decide
 obtain⟨a1,a2,a3,a4,a5⟩:=h1 c hc;exact lx_sym (s:=[c]) (t:=[]) V a2 a3 a4 (symL_one a1 fun d t _ hm=>a5 (List.mem_map.2 ⟨[c,d],hm,rfl⟩))
theorem brk_two:∀c∈sE,∀d∈brkL,[c,d]∉rX:=by decide
theorem sym_bk {c:UInt8}(hc:c∈sE) {r:Bs}(hr:Bk r):lx (c::r)=sg [c]::lx r:=by
 have h1:∀c∈sE,wP c=false∧vW c=false∧qN c=false:=by decide
 obtain⟨a2,a3,a4⟩:=h1 c hc;exact lx_sym (s:=[c]) (t:=[]) V a2 a3 a4 (symL_one hc fun d t e=>brk_two c hc d (hr d t e))
theorem lev_sym {s:Bs}{l:Nat}(h:wA s=some l):s∈rX∨∃c,s=[c]∧c∈sE:=by
 have key:∀(t:List (Bs×Nat)),(∀p∈t,p.1∈rX∨∃c,p.1=[c]∧c∈sE)→∀{v},vC s t=some v→s∈rX∨∃c,s=[c]∧c∈sE:=by
  intro t
  induction t with
  | nil=>intro _ v h;cases h
  | cons p t ih =>
   intro hp v hv;obtain⟨x,y⟩:=p;unfold vC at hv
   split at hv
   ·next e=>subst e;exact hp (s,y) (by simp)
   ·exact ih (fun q hq=>hp q (Kg _ hq)) hv
 refine key levT ?_ h;intro p hp;simp only[levT,List.mem_cons,List.not_mem_nil,or_false] at hp;rcases hp with rfl|rfl|rfl|rfl|rfl|rfl|rfl|rfl|rfl|rfl|rfl|rfl|rfl|rfl|rfl|rfl
 all_goals first
 | exact .inl (by decide)
 | exact .inr ⟨_,rfl,by decide⟩
theorem lx_op {s:Bs}{l:Nat}(h:wA s=some l) {r:Bs}(hr:Bk r):lx (s++r)=sg s::lx r:=by
 rcases lev_sym h with h2|⟨c,rfl,hc⟩
 ·have h1:∀s∈rX,∃c t,s=c::t∧wP c=false∧vW c=false∧qN c=false∧s.length=2:=by
   intro s hs;simp only[rX,List.mem_cons,List.not_mem_nil,or_false] at hs;rcases hs with rfl|rfl|rfl|rfl|rfl|rfl<;>exact⟨_,_,rfl,by decide,by decide,by decide,rfl⟩
  obtain⟨c,t,e,a1,a2,a3,a4⟩:=h1 s h2;exact lx_sym e a1 a2 a3 (by rw[symL_two h2,a4])
 ·exact sym_bk hc hr
def PF (s:Bs) (l:List Tk):Prop:=∀r,lx (s++r)=l++lx r
def PB' (s:Bs) (l:List Tk):Prop:=∀r,Bk r→lx (s++r)=l++lx r
def Sb (s:Bs):Prop:=∃c t,s=c::t∧c∈brkL
theorem PF.b {s:Bs}{l:List Tk}(h:PF s l):PB' s l:=fun r _=>h r
theorem PF.app {s s':Bs}{l l':List Tk}(h:PF s l) (k:PF s' l'):PF (s++s') (l++l'):=fun r=>by rw[Kb,h,k,Kb]
theorem PF.appB {s s':Bs}{l l':List Tk}(h:PF s l) (k:PB' s' l'):PB' (s++s') (l++l'):=fun r hr=>by rw[Kb,h,k r hr,Kb]
theorem Sb.bk {s:Bs}(h:Sb s) (r:Bs):Bk (s++r):=by
 obtain⟨c,t,rfl,hc⟩:=h;exact bk_cons hc
theorem PB'.app {s s':Bs}{l l':List Tk}(h:PB' s l) (hs:Sb s') (k:PF s' l'):PF (s++s') (l++l'):=fun r=>by rw[Kb,h _ (hs.bk r),k,Kb]
theorem PB'.appB {s s':Bs}{l l':List Tk}(h:PB' s l) (hs:Sb s') (k:PB' s' l'):PB' (s++s') (l++l'):=fun r hr=>by rw[Kb,h _ (hs.bk r),k r hr,Kb]
theorem pf_nil:PF [] []:=fun _=>rfl
theorem pf_sp:PF [32] []:=fun r=>lx_blank (r:=r) (by decide)
theorem pf_nl:PF [10] []:=fun r=>lx_blank (r:=r) (by decide)
theorem uN {c:UInt8}(hc:c∈([40,41,91,93,123,125,44,59,45,126]:Bs)):PF [c] [sg [c]]:=fun r=>one_free hc r
theorem pb_one {c:UInt8}(hc:c∈sE):PB' [c] [sg [c]]:=fun r hr=>sym_bk hc hr
theorem pb_name {s:Bs}(h:yG s=true):PB' s [nmT s]:=by
 cases s with
 | nil=>cases h
 | cons c w =>
  unfold yG at h;simp only[Kj,Nat.ble_eq,Bool.not_eq_true',decide_eq_false_iff_not] at h;obtain⟨⟨⟨h1,h2⟩,h3⟩,h4⟩:=h;intro r hr;rw[lx_word h3 (fun x hx=>List.all_eq_true.1 h4 x (Kg _ hx)) h1 hr,Ko h2];rfl
theorem pb_key {s:Bs}(h:s∈vN):PB' s [sg s]:=by
 intro r hr
 have h1:∀s∈vN,∃c w,s=c::w∧qN c=true∧(∀x∈w,vH x=true)∧(c::w).length≤12:=by
  intro s hs;simp only[vN,List.mem_cons,List.not_mem_nil,or_false] at hs;rcases hs with rfl|rfl|rfl|rfl|rfl|rfl|rfl|rfl|rfl<;>exact⟨_,_,rfl,by decide,by decide,by decide⟩
 obtain⟨c,w,e,a1,a2,a3⟩:=h1 s h;subst e;rw[lx_word a1 a2 a3 hr,Kp h];rfl
theorem pf_ind:∀d,PF (Lib.repeatL [32,32] d) []
 | 0=>pf_nil
 | d+1=>by
  have:=(pf_sp.app pf_sp).app (pf_ind d);exact this
end Go.Proofs.YtfpkpnkdnammnaaGreatDoor
namespace Go.Proofs.YtfpkpnkdnammnaaGreatDoor
theorem PF.cast {s s':Bs}{l l':List Tk}(h:PF s l) (e1:s'=s) (e2:l'=l):PF s' l':=by subst e1 e2;exact h
theorem PB'.cast {s s':Bs}{l l':List Tk}(h:PB' s l) (e1:s'=s) (e2:l'=l):PB' s' l':=by subst e1 e2;exact h
theorem sb {c:UInt8}{t:Bs}(h:c∈brkL):Sb (c::t):=⟨c,t,rfl,h⟩
variable {all:Bool}
theorem wr_hd {k:Nat}{s:Bs}{m:Int}{t:Bs}(h:∃c r,t=c::r∧c≠61):∃c r,wr all k s m t=c::r∧c≠61:=by
 unfold wr
 split
 ·exact⟨40,t++[41],rfl,by decide⟩
 ·exact h
theorem name_hd {s:Bs}(h:yG s=true) (r:Bs):∃c t,s++r=c::t∧c≠61:=by
 cases s with
 | nil=>cases h
 | cons c w =>
  unfold yG at h;simp only[Kj] at h;exact⟨c,w++r,rfl,fun e=>by rw[e] at h;exact absurd h.1.2 (by decide)⟩
theorem dec_hd (n:Nat):∃c t,Lib.decDigits n=c::t∧c≠61:=by
 have h2:=(decL_dec n).2;have h3:=dec_ne n
 cases h:Lib.decDigits n with
 | nil=>exact absurd h h3
 | cons c t =>
  refine⟨c,t,rfl,fun e=>?_⟩;have:=h2 c (by rw[h];simp);rw[e] at this;exact absurd this (by decide)
theorem rtx_hd:∀(N:Nat) (x:Ex),SizeOf.sizeOf x<N→yJ x=true→∃c t,rtx all x=c::t∧c≠61
 | 0,_,h,_=>absurd h (by omega)
 | N+1,.mk k n s kids,h,hr=>by
  simp only[yJ,Kj] at hr;obtain⟨⟨hok,_⟩,hk⟩:=hr;rw[rtx]
  by_cases g1:k=1
  ·rw[Kp g1];exact dec_hd n
  rw[Ko g1]
  by_cases g2:k=2
  ·rw[Kp g2];rw[wZ g2] at hok;simp only[Kj] at hok;have:=name_hd hok.1 [];rw[Ku] at this;exact this
  rw[Ko g2]
  by_cases g3:k=3
  ·rw[Kp g3];rw[wX g3] at hok;rw[Kb,Kb];exact name_hd hok _
  rw[Ko g3]
  by_cases g4:k=4
  ·rw[Kp g4];exact⟨109,_,rfl,by decide⟩
  rw[Ko g4]
  by_cases g5:k=5
  ·rw[Kp g5];exact⟨105,_,rfl,by decide⟩
  rw[Ko g5]
  by_cases g6:k=6
  ·rw[Kp g6];rw[xC g6] at hok;simp only[Kj,Kn] at hok;have this:s∈tU:=hok.1;simp only[tU,List.mem_cons,List.not_mem_nil,or_false] at this;rcases this with h|h|h<;>rw[h]
   ·exact⟨45,_,rfl,by decide⟩
   ·exact⟨126,_,rfl,by decide⟩
   ·exact⟨33,_,rfl,by decide⟩
  rw[Ko g6];obtain⟨rfl,_⟩:=okEx7 hok g1 g2 g3 g4 g5 g6;rw[xD rfl] at hok;simp only[Kj,Kn] at hok
  obtain⟨x,y,rfl⟩:∃x y,kids=[x,y]:=by
   match kids,hok.2 with
   | [x,y],_=>exact⟨x,y,rfl⟩
  simp only[rightExs,Kj] at hk;obtain⟨c,t,e,hc⟩:=wr_hd (all:=all) (k:=x.kind) (s:=x.name) (m:=vZ s) (rtx_hd N x (by simp only[Ex.mk.sizeOf_spec,List.cons.sizeOf_spec] at h;omega) hk.1);simp only[rtxH];rw[e];exact⟨c,_,rfl,hc⟩
theorem rwi_hd {x:Ex}(h:yJ x=true) (m:Int):∃c t,rwi all x m=c::t∧c≠61:=wr_hd (rtx_hd _ x (Nat.lt_succ_self _) h)
def jtt:List (Bs×List Tk)→List Tk
 | []=>[]
 | q::l=>sg [44]::(q.2++jtt l)
def jt:List (Bs×List Tk)→List Tk
 | []=>[]
 | p::l=>p.2++jtt l
theorem pf_tail:∀l:List (Bs×List Tk),(∀p∈l,PB' p.1 p.2)→PF (Lib.joinTail [44,32] (l.map (·.1))++[41]) (jtt l++[sg [41]])∧Sb (Lib.joinTail [44,32] (l.map (·.1))++[41])
 | [],_=>⟨(uN (c:=41) (by decide)).cast rfl rfl,sb (by decide)⟩
 | q::l,h=>by
  obtain⟨h1,h2⟩:=pf_tail l fun p hp=>h p (Kg _ hp);have e:Lib.joinTail [44,32] ((q::l).map (·.1))=[44]++([32]++(q.1++Lib.joinTail [44,32] (l.map (·.1)))):=by simp[Lib.joinTail]
  have:=(uN (c:=44) (by decide)).app (pf_sp.app ((h q (by simp)).app h2 h1));exact⟨this.cast (by rw[e];simp) (by simp[jtt]),by rw[e];exact sb (by decide)⟩
theorem pf_join (l:List (Bs×List Tk)) (h:∀p∈l,PB' p.1 p.2):PF (Lib.join (l.map (·.1)) [44,32]++[41]) (jt l++[sg [41]]):=by
 cases l with
 | nil=>exact (uN (c:=41) (by decide)).cast (by rw[List.map_nil,Lib.join_nil];rfl) rfl
 | cons p l =>
  obtain⟨h1,h2⟩:=pf_tail l fun q hq=>h q (Kg _ hq);exact ((h p (by simp)).app h2 h1).cast (by rw[Kq,Lib.join_cons,Kb]) (by simp[jt])
theorem pb_w {k:Nat}{s:Bs}{m:Int}{t:Bs}{l:List Tk}(h:PB' t l):PB' (wr all k s m t) (wt all k s m l):=by
 unfold wr wt
 split
 ·exact ((uN (c:=40) (by decide)).app (h.app (sb (by decide)) (uN (c:=41) (by decide)))).b.cast (by rw[Kb]) rfl
 ·exact h
theorem rtxs_map (l:List Ex):rtxs all l=(l.map fun x=>(rwi all x 0,twi all x 0)).map (·.1):=by
 induction l with
 | nil=>rfl
 | cons x l ih=>rw[rtxs,ih];rfl
theorem txt_map (l:List Ex):txt all l=jtt (l.map fun x=>(rwi all x 0,twi all x 0)):=by
 induction l with
 | nil=>rfl
 | cons x l ih=>rw[txt,ih];rfl
theorem txs_map (l:List Ex):txs all l=jt (l.map fun x=>(rwi all x 0,twi all x 0)):=by
 cases l with
 | nil=>rfl
 | cons x l=>rw[txs,txt_map];rfl
theorem pb_ex:∀(N:Nat) (x:Ex),SizeOf.sizeOf x<N→yJ x=true→exU x=true→PB' (rtx all x) (tx all x)
 | 0,_,h,_,_=>absurd h (by omega)
 | N+1,.mk k n s kids,h,hr,hu=>by
  have hr0:=hr;simp only[yJ,Kj] at hr;obtain⟨⟨hok,_⟩,hk⟩:=hr;rw[wK,List.all_eq_true] at hk;simp only[exU,Kj,Kn] at hu;have IH:∀x∈kids,∀m,PB' (rwi all x m) (twi all x m):=fun x hx m=>pb_w (pb_ex N x (by have:=tM (k:=k) (n:=n) (s:=s) hx;omega) (hk x hx) (qX hu.2 x hx));rw[rtx,tx]
  by_cases g1:k=1
  ·rw[Kp g1,Kp g1];exact fun r hr=>lx_num hu.1 hr
  rw[Ko g1,Ko g1]
  by_cases g2:k=2
  ·rw[Kp g2,Kp g2];rw[wZ g2] at hok;simp only[Kj] at hok;exact pb_name hok.1
  rw[Ko g2,Ko g2]
  by_cases g3:k=3
  ·rw[Kp g3,Kp g3];rw[wX g3] at hok
   have hj:=pf_join (kids.map fun x=>(rwi all x 0,twi all x 0)) (fun p hp=>by
    obtain⟨x,hx,rfl⟩:=List.mem_map.1 hp
    exact IH x hx 0)
   rw[← rtxs_map,← txs_map] at hj;exact ((pb_name hok).app (sb (by decide)) ((uN (c:=40) (by decide)).app hj)).b.cast (by simp) (by simp)
  rw[Ko g3,Ko g3]
  by_cases g4:k=4
  ·rw[Kp g4,Kp g4];rw[xB g4] at hok;simp only[Kj,Kn] at hok;obtain⟨x,rfl⟩:=List.length_eq_one_iff.1 hok.2;rw[rtxH,txH];exact ((pb_key (s:=kMem) (by decide)).app (sb (by decide)) ((uN (c:=91) (by decide)).app ((IH x (by simp) 0).app (sb (by decide)) (uN (c:=93) (by decide))))).b.cast (by simp[kMem,rwi]) (by simp[twi])
  rw[Ko g4,Ko g4]
  by_cases g5:k=5
  ·rw[Kp g5,Kp g5];exact pb_key (s:=kIn) (by decide)
  rw[Ko g5,Ko g5]
  by_cases g6:k=6
  ·rw[Kp g6,Kp g6];rw[xC g6] at hok;simp only[Kj,Kn] at hok;obtain⟨x,rfl⟩:=List.length_eq_one_iff.1 hok.2;have this:s∈tU:=hok.1;simp only[tU,List.mem_cons,List.not_mem_nil,or_false] at this;rw[rtxH,txH];have hx:=IH x (by simp) 8;rcases this with rfl|rfl|rfl
   ·exact ((uN (c:=45) (by decide)).appB hx).cast V V
   ·exact ((uN (c:=126) (by decide)).appB hx).cast V V
   ·intro r hr;obtain⟨c,t,e,hc⟩:=rwi_hd (all:=all) (hk x (by simp)) 8
    have h1:lx ([33]++(rwi all x 8++r))=sg [33]::lx (rwi all x 8++r):=by
     refine lx_sym (s:=[33]) (c:=33) (t:=[]) V (by decide) (by decide) (by decide) (symL_one (by decide) fun d u hd hm=>?_);rw[e,List.cons_append] at hd;cases hd
     have:∀d:UInt8,[33,d]∈rX→d=61:=by
      intro d hd;simp only[rX,List.mem_cons,List.not_mem_nil,or_false] at hd;rcases hd with h|h|h|h|h|h<;>injection h with h1 h2<;>first|exact absurd h1 (by decide)|(injection h2)
     exact hc (this _ hm)
    have h2:=hx r hr;show lx (([33]++rwi all x 8)++r)=(sg [33]::twi all x 8)++lx r;rw[Kb,h1,h2];rfl
  rw[Ko g6,Ko g6];obtain⟨rfl,l,hl⟩:=okEx7 hok g1 g2 g3 g4 g5 g6;rw[xD rfl] at hok;simp only[Kj,Kn] at hok
  obtain⟨x,y,rfl⟩:∃x y,kids=[x,y]:=by
   match kids,hok.2 with
   | [x,y],_=>exact⟨x,y,rfl⟩
  rw[rtxH,rtxS,rtxH,txH,txS,txH];have hop:PB' s [sg s]:=fun r hr=>lx_op hl hr;exact ((IH x (by simp) (vZ s)).appB (sb (by decide)) (pf_sp.appB (hop.appB (sb (by decide)) (pf_sp.appB (IH y (by simp) (vZ s+1)))))).cast (by simp[rwi]) (by simp[twi])
theorem pb_wi {x:Ex}(hr:yJ x=true) (hu:exU x=true) (m:Int):PB' (rwi all x m) (twi all x m):=pb_w (pb_ex _ x (Nat.lt_succ_self _) hr hu)
theorem pf_end {x:Ex}(hr:yJ x=true) (hu:exU x=true):PF (rwi all x 0++([59]++[10])) (twi all x 0++([sg [59]]++[])):=(pb_wi hr hu 0).app (sb (by decide)) ((uN (c:=59) (by decide)).app pf_nl)
theorem pf_eq {s:Bs}{l:List Tk}(h:PF s l):PF ([32]++([61]++([32]++s))) ([]++([sg [61]]++([]++l))):=pf_sp.app ((pb_one (c:=61) (by decide)).app (sb (by decide)) (pf_sp.app h))
theorem pf_kw {w s:Bs}{l:List Tk}(hw:w∈vN) (h:PF s l):PF (w++([32]++s)) ([sg w]++([]++l)):=(pb_key hw).app (sb (by decide)) (pf_sp.app h)
theorem pf_open {s:Bs}{l:List Tk}(h:PF s l):PF ([32]++([123]++([10]++s))) ([]++([sg [123]]++([]++l))):=pf_sp.app ((uN (c:=123) (by decide)).app (pf_nl.app h))
theorem pf_st (k:Nat) (s:Bs) (es:List Ex) (b c:List St) (hr:xH (.mk k s es b c)=true) (hu:stU (.mk k s es b c)=true) (hB:∀d,PF (rLs all d b) (tB all b)) (hC:∀d,PF (rLs all d c) (tB all c)) (d:Nat):PF (rLn all d (.mk k s es b c)) (tS all (.mk k s es b c)):=by
 have hnm:k=1∨k=2→yG s=true:=fun hk=>by
  rw[xH,Kj,Kj,Kj] at hr;have hok:=hr.1.1.1;unfold pA at hok;simp only[Kj] at hok;have:=hok.1.1.2
  rwa [Kp hk] at this
 obtain⟨h1,h8,hl,hs,hb,hc,he,_,_⟩:=rightSt_at hr;simp only[stU,Kj] at hu;have hue:=qX hu.1.1;have hi:=pf_ind d;have:k=1∨k=2∨k=3∨k=4∨k=5∨k=6∨k=7∨k=8:=by omega
 rcases this with rfl|rfl|rfl|rfl|rfl|rfl|rfl|rfl
 ·obtain⟨e,rfl⟩:=List.length_eq_one_iff.1 hl;have:=hi.app (pf_kw (w:=kVar) (by decide) ((pb_name (hnm (.inl rfl))).app (sb (by decide)) (pf_eq (pf_end (all:=all) (he e (by simp)) (hue e (by simp))))));exact this.cast (by rw[rLn,rtxH];simp[kVar,rwi]) (by rw[tS,txH];simp[twi])
 ·obtain⟨e,rfl⟩:=List.length_eq_one_iff.1 hl;have:=hi.app ((pb_name (hnm (.inr rfl))).app (sb (by decide)) (pf_eq (pf_end (all:=all) (he e (by simp)) (hue e (by simp)))));exact this.cast (by rw[rLn,rtxH];simp[rwi]) (by rw[tS,txH];simp[twi])
 ·rw[Kp rfl] at hl
  obtain⟨x,e,rfl⟩:∃x e,es=[x,e]:=by
   match es,hl with
   | [x,e],_=>exact⟨x,e,rfl⟩
  have:=hi.app ((pb_key (s:=kMem) (by decide)).app (sb (by decide)) ((uN (c:=91) (by decide)).app ((pb_wi (all:=all) (he x (by simp)) (hue x (by simp)) 0).app (sb (by decide)) ((uN (c:=93) (by decide)).app (pf_eq (pf_end (all:=all) (he e (by simp)) (hue e (by simp))))))));exact this.cast (by rw[rLn,rtxH,rtxS,rtxH];simp[kMem,rwi]) (by rw[tS,txH,txS,txH];simp[twi])
 ·obtain⟨e,rfl⟩:=List.length_eq_one_iff.1 hl
  by_cases hcl:0<c.length
  ·have t1:=(pf_sp.app (pf_kw (w:=tI) (by decide) ((uN (c:=123) (by decide)).app (pf_nl.app ((hC (d+1)).app (hi.app ((uN (c:=125) (by decide)).app pf_nl)))))));have t2:=(pf_kw (w:=kIf) (by decide) ((pb_wi (all:=all) (he e (by simp)) (hue e (by simp)) 0).app (sb (by decide)) (pf_open ((hB (d+1)).app (hi.app ((uN (c:=125) (by decide)).app t1))))));exact (hi.app t2).cast (by rw[rLn,rtxH];simp[kIf,tI,rwi,hcl]) (by rw[tS,txH];simp[twi,hcl])
  ·have t2:=(pf_kw (w:=kIf) (by decide) ((pb_wi (all:=all) (he e (by simp)) (hue e (by simp)) 0).app (sb (by decide)) (pf_open ((hB (d+1)).app (hi.app ((uN (c:=125) (by decide)).app pf_nl))))));exact (hi.app t2).cast (by rw[rLn,rtxH];simp[kIf,rwi,hcl]) (by rw[tS,txH];simp[twi,hcl])
 ·obtain⟨e,rfl⟩:=List.length_eq_one_iff.1 hl;have t2:=(pf_kw (w:=kWhile) (by decide) ((pb_wi (all:=all) (he e (by simp)) (hue e (by simp)) 0).app (sb (by decide)) (pf_open ((hB (d+1)).app (hi.app ((uN (c:=125) (by decide)).app pf_nl))))));exact (hi.app t2).cast (by rw[rLn,rtxH];simp[kWhile,rwi]) (by rw[tS,txH];simp[twi])
 ·obtain⟨e,rfl⟩:=List.length_eq_one_iff.1 hl;have:=hi.app (pf_kw (w:=kRet) (by decide) (pf_end (all:=all) (he e (by simp)) (hue e (by simp))));exact this.cast (by rw[rLn,rtxH];simp[kRet,rwi]) (by rw[tS,txH];simp[twi])
 ·obtain⟨e,rfl⟩:=List.length_eq_one_iff.1 hl;have:=hi.app (pf_kw (w:=kOut) (by decide) (pf_end (all:=all) (he e (by simp)) (hue e (by simp))));exact this.cast (by rw[rLn,rtxH];simp[kOut,rwi]) (by rw[tS,txH];simp[twi])
 ·obtain⟨e,rfl⟩:=List.length_eq_one_iff.1 hl;have:=hi.app (pf_end (all:=all) (he e (by simp)) (hue e (by simp)));exact this.cast (by rw[rLn,rtxH];simp[rwi]) (by rw[tS,txH];simp[twi])
mutual
theorem pf_stm:∀(x:St),xH x=true→stU x=true→∀d,PF (rLn all d x) (tS all x)
 | .mk k s es b c,hr,hu,d=>by
  have hr0:=hr;rw[xH,Kj,Kj,Kj] at hr;have hu0:=hu;simp only[stU,Kj] at hu;exact pf_st k s es b c hr0 hu0 (pf_blk b hr.1.2 hu.1.2) (pf_blk c hr.2 hu.2) d
theorem pf_blk:∀(l:List St),rightSts l=true→stsU l=true→∀d,PF (rLs all d l) (tB all l)
 | [],_,_,d=>by rw[rLs,tB];exact pf_nil
 | x::l,hr,hu,d=>by
  rw[rightSts,Kj] at hr;simp only[stsU,Kj] at hu;rw[rLs,tB];exact (pf_stm x hr.1 hu.1 d).app (pf_blk l hr.2 hu.2 d)
end
theorem pr_map (ps:List Bs):pr ps=jt (ps.map fun p=>(p,[nmT p])):=by
 have key:∀l:List Bs,prt l=jtt (l.map fun p=>(p,[nmT p])):=by
  intro l
  induction l with
  | nil=>rfl
  | cons p l ih=>rw[prt,ih];rfl
 cases ps with
 | nil=>rfl
 | cons p l=>rw[pr,key];rfl
theorem pf_fn {f:Fn}(hr:vO f=true) (hu:stsU f.body=true):PF (rFn all f) (tF all f):=by
 obtain⟨nm,ps,body⟩:=f;unfold vO at hr;simp only[Kj] at hr;obtain⟨⟨h1,h2⟩,h3⟩:=hr
 have hj:=pf_join (ps.map fun p=>(p,[nmT p])) (fun q hq=>by
  obtain⟨p,hp,rfl⟩:=List.mem_map.1 hq
  exact pb_name (List.all_eq_true.1 h1 p hp))
 rw[← pr_map] at hj;have hm:(ps.map fun p=>(p,[nmT p])).map (·.1)=ps:=by rw[List.map_map];exact List.map_id ps
 rw[hm] at hj;have t1:=pf_open ((pf_blk (all:=all) body h3 hu 1).app ((uN (c:=125) (by decide)).app pf_nl));have t2:=hj.app t1;have:=pf_kw (w:=kFn) (by decide) ((pb_name h2).app (sb (by decide)) ((uN (c:=40) (by decide)).app t2));exact this.cast (by simp[rFn,kFn]) (by simp[tF])
theorem pf_src:∀fs:List Fn,wD fs=true→(∀f∈fs,stsU f.body=true)→PF (rSrc all fs) ((fs.map (tF all)).flatten)
 | [],_,_=>pf_nil
 | f::fs,hr,hu=>by
  unfold wD at hr;rw[List.all_cons,Kj] at hr;have h1:=pf_fn (all:=all) hr.1 (hu f (by simp));have h2:=pf_src fs hr.2 fun g hg=>hu g (Kg _ hg);exact (h1.app h2).cast (by simp[rSrc]) (by simp)
end Go.Proofs.YtfpkpnkdnammnaaGreatDoor
