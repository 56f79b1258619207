/- Made: blocks of every depth; empty slices to append to. -/
import Derived.Test.YtfpkpnkdnammnaaGreatDoorMdG
namespace Go.Proofs.YtfpkpnkdnammnaaGreatDoor
open Go.RowKit
section
variable {P:Program} {n:Nat} {m:List (Nat×Value)} {ty t e:TypeId}
variable {ops:Array Oper} {Q:Exit→Act→World→Prop} {J:World→Prop} {σ:List Nat} {G:Nat→Prop} {w0:World} {L:List (Nat×Obj)} {R:List Rw} {X:World→Prop} {d:Nat} {pos:String} {af:Array Edge} {gd:Option (Nat×Bool)}
variable {B:Nat→Prop} {w:World}
theorem HpG.neR {i k g:Nat} {o:Obj} {r:Rw} (h:HpG G B w0 L R X w) (hi:L[i]? = some (g,o)) (hk:R[k]? = some r):r.v.ownBlock≠some g:=fun e =>
 (List.nodup_append.1 h.nd).2.2 g (List.mem_map.2 ⟨_,List.mem_of_getElem? hi,rfl⟩) g (List.mem_filterMap.2 ⟨r,List.mem_of_getElem? hk,e⟩) rfl
/-- append of a known block onto a row, in a region that draws its order. -/
theorem wd_appendR {x y:Operand} {v:Value} {E size len:Nat} {xs:List Value} {c mm b0 T:Nat} {news:List Value} {z:Value} {bytes:Nat} (k j:Nat) (hg:Gd ops m gd) (hd:Nat.blt d n=true) (hk:R[k]? = some ⟨v,E,size,len,xs⟩) (hj:L[j]? = some (b0,bk T news)) (hx:ev m x=some v) (hy:ev m y=some (.slice (some ⟨b0,0,none⟩) mm c))
  (ht:P.underlying t=some (.slice E)) (hi:(P.info? E).map (fun i=>(i.zero,i.size,i.bytes))=some (some z,size,bytes)) (hzs:z.cells.size=size) (hsz:Nat.blt 0 size=true) (hl:news.length=mm*size) (h1:news.all (·.oneCell')=true) (hm:Nat.blt 0 mm=true) (h63:len+mm≤9223372036854775807) (hb:(len+mm)*bytes≤140737488355328)
  (hJ:∀w w',HpG G B w0 L R X w→J w→Keep (fun q=>v.ownBlock=some q) w w'→J w')
  (h:∀g cap (N:Nat→Prop),len+mm≤cap→WD P ops J Q σ (fun j=>N j∨G j) n ((d,.slice (some ⟨g,0,none⟩) (len+mm) cap)::m) (HpG (fun j=>N j∨G j) B w0 L (R.set k ⟨.slice (some ⟨g,0,none⟩) (len+mm) cap,E,size,len+mm,xs++news⟩) X)) :
  WDo P ops J Q ⟨some d,.call { callee:=.builtin .append,args:=#[x,y],argTypes:=#[t,t] },ty,pos,af,gd⟩ σ G n m (HpG G B w0 L R X):=by
 have hsz':0<size:=by simpa [Nat.blt_eq] using hsz
 have hm':0<mm:=by simpa [Nat.blt_eq] using hm
 refine wd_chainN (ι:={i:(Nat×Nat)×(Nat→Prop) // len+mm≤i.1.2}) (val:=fun i=>.slice (some ⟨i.1.1.1,0,none⟩) (len+mm) i.1.1.2) (N:=fun i=>i.1.2) (H':=fun i=>HpG (fun j=>i.1.2 j∨G j) B w0 L (R.set k ⟨.slice (some ⟨i.1.1.1,0,none⟩) (len+mm) i.1.1.2,E,size,len+mm,xs++news⟩) X) V (fun _ _ e=>by cases e) hg hd (fun _=>HpG.stab) (fun a w pos af gd hs hw hjw=>?_) fun i=>h i.1.1.1 i.1.1.2 i.1.2 i.2
 obtain⟨i,hq,hz,hs1,hb1⟩:∃i,P.info? E=some i∧i.zero=some z∧i.size=size∧i.bytes=bytes:=by
  cases hq:P.info? E with
  | none=>simp[hq] at hi
  | some i=>exact⟨i,rfl,by simpa [hq] using hi⟩
 have hmem:=List.mem_of_getElem? hk;have hown:=HpG.rows hw _ hmem;have hlt:=hown.lt;obtain⟨F,hF,hX⟩:=hw.foot
 obtain⟨g,cap,w',hr,h2,h3,h4,h5⟩:=run_append_lies (P:=P) (w:=w) t ty w0.heap.size E i z size bytes ht hq hz hs1 hb1 hzs hsz' v len xs hown ⟨b0,0,none⟩ mm c news hl (fun j' u hu=>by
  rw[Addr.add_mid,Nat.zero_add];exact HpG.cell hw hj hu) (List.all_eq_true.1 h1) hm' (by unfold maxLen;omega) hb hw.size _ rfl
 have hrun:(execOp a.eval ⟨some d,.call { callee:=.builtin .append,args:=#[x,y],argTypes:=#[t,t] },ty,pos,af,gd⟩).run P w=.ok (.value (.slice (some ⟨g,0,none⟩) (len+mm) cap)) w':=by
  simp[execOp,resolve,invoke,builtin,hs.ev hx,hs.ev hy,hr]
 have hle:len+mm≤cap:=by
  obtain⟨_,hr⟩:=h2;rcases hr with ⟨hv,_⟩|⟨g',c',cur,hv,_,_,hle,_⟩
  ·cases hv
  ·injection hv with h1 h2 h3;omega
 have hob:(Value.slice (some ⟨g,0,none⟩) (len+mm) cap).ownBlock=some g:=rfl
 have hres:=Hp.row hw.hp (k:=k) (r':=⟨.slice (some ⟨g,0,none⟩) (len+mm) cap,E,size,len+mm,xs++news⟩) hk h3 h2 (h4.elim (fun h4=>.inl (by rw[hob];exact h4.symm)) fun h4=>.inr fun b' hb'=>by
  have:b'=g:=by rw[hob] at hb';injection hb' with e;exact e.symm
  omega)
 have hK:Keep (fun q=>v.ownBlock=some q) w w':=⟨h3.os,h3.tape,h3.output,h3.size,fun j hj hne=>h3.block j hj (fun e=>hne e.symm)⟩
 have hsub:=(blks_row (L:=L) (r':=⟨.slice (some ⟨g,0,none⟩) (len+mm) cap,E,size,len+mm,xs++news⟩) hk (fun x' hx' b hb' e=>by
  subst e;rw[hob] at hb';injection hb' with hb';subst hb';rcases h4 with h4|h4
  ·exact h4
  ·have:=hw.lt _ hx';omega) hw.nd).2
 have hbm:∀q,v.ownBlock=some q→q∈wF L R:=fun q hq=>List.mem_append_right _ (List.mem_filterMap.2 ⟨_,hmem,hq⟩);unfold Ch;rw[hrun];refine⟨hK.mono fun q _ hq=>hw.inG _ (hbm q hq),hJ w w' hw hjw hK,⟨((g,cap),fun q=>q=g∧w.heap.size≤q),hle⟩,rfl,⟨hres.keep,hres.own,hres.mine,hres.rows,hres.nd,fun q hq=>?_,F,fun q hq=>?_,fun u hu=>hX u fun q hq=>?_⟩,fun q hq=>⟨hq.2,hq.1▸h5⟩⟩
 ·rcases hsub q hq with hq|hq
  ·exact .inr (hw.inG _ hq)
  ·rw[hob] at hq;injection hq with hq;subst hq;rcases h4 with h4|h4
   ·exact .inr (hw.inG _ (hbm _ h4))
   ·exact .inl ⟨rfl,Nat.le_of_eq h4.symm⟩
 ·obtain⟨f1,f2,f3,f4⟩:=hF q hq;refine⟨Nat.lt_of_lt_of_le f1 h3.size,f2,fun hm=>?_,.inr f4⟩;rcases hsub q hm with hm|hm
  ·exact f3 hm
  ·rw[hob] at hm;injection hm with hm;subst hm;rcases h4 with h4|h4
   ·exact f3 (hbm _ h4)
   ·omega
 ·obtain⟨f1,f2,f3,f4⟩:=hF q hq;rw[hu q hq,hK.block q f1 (fun e=>f3 (hbm q e))]
end
end Go.Proofs.YtfpkpnkdnammnaaGreatDoor
