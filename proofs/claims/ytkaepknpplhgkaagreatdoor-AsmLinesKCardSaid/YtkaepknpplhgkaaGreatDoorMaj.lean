import Derived.Test.YtkaepknpplhgkaaGreatDoorMai
import Derived.Test.YtkaepknpplhgkaaGreatDoorMah
namespace Go.Proofs.YtkaepknpplhgkaaGreatDoor
open Go.RowKit
end Go.Proofs.YtkaepknpplhgkaaGreatDoor
namespace Go.Proofs.YtkaepknpplhgkaaGreatDoor
end Go.Proofs.YtkaepknpplhgkaaGreatDoor
namespace Go.Proofs.YtkaepknpplhgkaaGreatDoor
open Go.RowKit
section
variable {n:Fr}{m:List (Nat×Value)}{B:Nat→Prop}{w0:World}{L:List (Nat×Obj)}{R:List Rw}{X:World→Prop}
abbrev rwG (g cap:Nat) (l:Bs):Rw:=rwB (some ⟨g,0,none⟩) cap l
theorem wE {x:Operand}{ty:TypeId}{g cap:Nat}{l:Bs}(j:Nat) (hj:R[j]? = some (rwG g cap l)) (hx:ev m x=some (.slice (some ⟨g,0,none⟩) l.length cap)):YF Tryz.prog (.convert 53 9 x) ty n m (Hp B w0 L R X) (.string ⟨l.toArray⟩):=fun a w d pos af gd hs hw=>by
 obtain⟨rest,hb⟩:=HpG.rowBlock hw hj
 exact yf_convB (H:=Blk g (bk 5 (Lib.byteCells l++rest))) l hx (fun _ h=>h) Tryz.underlying53 Tryz.underlying5 Tryz.underlying9 M (fun i hi=>by
  rw[Kq,List.getElem?_append_left (by rw[Lib.byteCells_length];exact hi)];unfold Lib.byteCells
  rw[List.getElem?_map,Ka hi];rfl) a w d pos af gd hs hb
end
section
variable {P:Program}{n:Fr}{m:List (Nat×Value)}{ty:TypeId}{G B:Nat→Prop}{w0 w:World}{L:List (Nat×Obj)}{R:List Rw}{X J:World→Prop}{Q:Exit→Act→World→Prop}{ops:Array Oper}{σ:List Nat}
theorem wd_rowC {ι:Type}{op:Op}{d:Nat}{pos:String}{af:Array Edge}{gd:Option (Nat×Bool)}{r:Rw}{rr:ι→Rw}{val:ι→Value}(k:Nat) (hk:R[k]? = some r) (hkd:kd ⟨some d,op,ty,pos,af,gd⟩=.chain) (hsel:∀cs b,op≠.select cs b) (hg:Gd ops m gd) (hd:Nat.blt d n=true)
  (hrun:∀a w pos af gd,Sat n m a→HpG G B w0 L R X w→Ch P ⟨some d,op,ty,pos,af,gd⟩ a w fun v w'=>∃i,v=val i∧w.grownBy w' r.v.ownBlock∧w'.ownsRow w0.heap.size (rr i).E (rr i).size (rr i).v (rr i).n (rr i).xs∧((rr i).v.ownBlock=r.v.ownBlock∨∀b,(rr i).v.ownBlock=some b→w.heap.size≤b))
  (hJ:∀w w',HpG G B w0 L R X w→J w→Keep (fun q=>r.v.ownBlock=some q) w w'→J w')
  (h:∀i (N:Nat→Prop),WD P ops J Q σ (fun j=>N j∨G j) n ((d,val i)::m) (HpG (fun j=>N j∨G j) B w0 L (R.set k (rr i)) X)) :
  WDo P ops J Q ⟨some d,op,ty,pos,af,gd⟩ σ G n m (HpG G B w0 L R X):=by
 refine wd_chainN (ι:=ι×(Nat→Prop)) (val:=fun i=>val i.1) (N:=fun i=>i.2) (H':=fun i=>HpG (fun j=>i.2 j∨G j) B w0 L (R.set k (rr i.1)) X) hkd hsel hg hd (fun _=>HpG.stab) (fun a w pos af gd hs hw hjw=>?_) fun i=>h i.1 i.2;have hmem:=Kb hk;obtain⟨F,hF,hX⟩:=hw.foot;refine (hrun a w pos af gd hs hw).mono fun v w' ⟨i,e1,h3,h2,h4⟩=>?_;have hres:=Hp.row hw.hp (k:=k) (r':=rr i) hk h3 h2 h4;have hK:Keep (fun q=>r.v.ownBlock=some q) w w':=⟨h3.os,h3.tape,h3.output,h3.size,fun j hj hne=>h3.block j hj (fun e=>hne e.symm)⟩
 have hsub:=(blks_row (L:=L) (r':=rr i) hk (fun x' hx' b hb' e=>by
  subst e;rcases h4 with h4|h4
  ·rw[← h4];exact hb'
  ·have h5:=h4 _ hb';have h6:=hw.lt _ hx'
   omega) hw.nd).2
 have hbm:∀q,r.v.ownBlock=some q→q∈vH L R:=fun q hq=>List.mem_append_right _ (List.mem_filterMap.2 ⟨_,hmem,hq⟩);refine⟨hK.mono fun q _ hq=>hw.inG _ (hbm q hq),hJ w w' hw hjw hK,(i,fun q=>(rr i).v.ownBlock=some q∧w.heap.size≤q),e1,⟨hres.keep,hres.own,hres.mine,hres.rows,hres.nd,fun q hq=>?_,F,fun q hq=>?_,fun u hu=>hX u fun q hq=>?_⟩,fun q hq=>⟨hq.2,(h2.lt q hq.1).2⟩⟩
 ·rcases hsub q hq with hq|hq
  ·exact .inr (hw.inG _ hq)
  ·rcases h4 with h4|h4
   ·rw[h4] at hq;exact .inr (hw.inG _ (hbm _ hq))
   ·exact .inl ⟨hq,h4 q hq⟩
 ·obtain⟨f1,f2,f3,f4⟩:=hF q hq;refine⟨Kf f1 h3.size,f2,fun hm=>?_,.inr f4⟩;rcases hsub q hm with hm|hm
  ·exact f3 hm
  ·rcases h4 with h4|h4
   ·rw[h4] at hm;exact f3 (hbm _ hm)
   ·have:=h4 q hm;omega
 ·obtain⟨f1,f2,f3,f4⟩:=hF q hq;rw[hu q hq,hK.block q f1 (fun e=>f3 (hbm q e))]
end
section
variable {n:Fr}{m:List (Nat×Value)}{G B:Nat→Prop}{w0 w:World}{L:List (Nat×Obj)}{R:List Rw}{X J:World→Prop}{Q:Exit→Act→World→Prop}{ops:Array Oper}{σ:List Nat}
theorem HpG.neRow {i k g:Nat}{o:Obj}{r:Rw}(h:HpG G B w0 L R X w) (hi:L[i]? = some (g,o)) (hk:R[k]? = some r):r.v.ownBlock≠some g:=fun e =>
 (List.nodup_append.1 h.nd).2.2 g (List.mem_map.2 ⟨_,Kb hi,rfl⟩) g (List.mem_filterMap.2 ⟨r,Kb hk,e⟩) rfl
theorem blk_row {i k g:Nat}{o:Obj}{r:Rw}{w w':World}(h:HpG G B w0 L R X w) (hi:L[i]? = some (g,o)) (hk:R[k]? = some r) (hb:Blk g o w) (hK:Keep (fun q=>r.v.ownBlock=some q) w w'):Blk g o w' :=
 (hK.block g hb.lt (HpG.neRow h hi hk)).trans hb
end
def RowJ (g:Nat) (l:Bs) (w:World):Prop:=∃rest,Blk g (bk 5 (Lib.byteCells l++rest)) w
theorem RowJ.stab {g:Nat}{l:Bs}:uM (RowJ g l):=fun w ob ⟨r,h⟩=>⟨r,Blk.stab w ob h⟩
theorem RowJ.onE {g:Nat}{l:Bs}{w w':World}(h:RowJ g l w) (hx:Ext w w'):RowJ g l w':=h.elim fun r h=>⟨r,Blk.onE h hx⟩
end Go.Proofs.YtkaepknpplhgkaaGreatDoor
