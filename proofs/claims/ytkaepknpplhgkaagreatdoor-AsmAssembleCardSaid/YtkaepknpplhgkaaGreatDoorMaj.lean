import Derived.Test.YtkaepknpplhgkaaGreatDoorMai
import Derived.Test.YtkaepknpplhgkaaGreatDoorMah
namespace Go.Proofs.YtkaepknpplhgkaaGreatDoor
open Go.RowKit
theorem short_any (s:Bs) (hs:s.length≤9223372036854775807) (k:Nat) (hk:k≤1000000000) (w_0:World):Calls Tryz.prog 16 #[.string ⟨s.toArray⟩,.int .i64 k] w_0 fun e w'=>e=.returned (.string ⟨(s.take k).toArray⟩)∧Ext w_0 w':=by
 refine zN (args:=[.string ⟨s.toArray⟩,.int .i64 k]) Tryz.func16 rfl 11 rfl (Kh rfl)<|Z2 0 1 rfl<|Z0<|zX<|zZ<|Za rfl rfl<|ZX<|zZ<|Zm rfl rfl<|Zm rfl rfl<|ZF rfl (wZ rfl U9)<|Zm rfl rfl<|ZF rfl (yf_min rfl rfl)<|ZF rfl (yf_strHi (c:=s.take k) rfl rfl Tryz.underlying9 (by split<;>omega) (by split<;>omega) (by split<;>first|(rw[Int.toNat_natCast,List.take_of_length_le (Ae s.length),List.take_of_length_le (show s.length≤k by omega)])|rw[Int.toNat_natCast])) ?_;refine Za M M<|ZU M M fun w hw=>⟨rfl,hw.ext0⟩
end Go.Proofs.YtkaepknpplhgkaaGreatDoor
namespace Go.Proofs.YtkaepknpplhgkaaGreatDoor
end Go.Proofs.YtkaepknpplhgkaaGreatDoor
namespace Go.Proofs.YtkaepknpplhgkaaGreatDoor
open Go.RowKit
section
variable {n:Fr}{m:List (Nat×Value)}{B:Nat→Prop}{w0:World}{L:List (Nat×Obj)}{R:List Rw}{X:World→Prop}
abbrev rwG (g cap:Nat) (l:Bs):Rw:=rwB (some ⟨g,0,none⟩) cap l
theorem ch_appStr {a:Act}{w:World}{base:Nat}{d:Option Nat}{pos:String}{af:Array Edge}{gd:Option (Nat×Bool)}{x y:Operand}{g0 cap:Nat}{l s:Bs}(hs:Sat n m a) (hown:w.ownsRow base 5 1 (.slice (some ⟨g0,0,none⟩) l.length cap) l.length (Lib.byteCells l)) (hb:base≤w.heap.size) (hx:ev m x=some (.slice (some ⟨g0,0,none⟩) l.length cap)) (hy:ev m y=some (.string ⟨s.toArray⟩)) (hl:l.length+s.length≤140737488355328) :
  Ch Tryz.prog ⟨d,.call { callee:=.builtin .append,args:=#[x,y],argTypes:=#[53,9] },53,pos,af,gd⟩ a w fun v w'=>∃i:Nat×Nat,v=.slice (some ⟨i.1,0,none⟩) (l++s).length i.2∧w.grownBy w' (some g0)∧w'.ownsRow base 5 1 (.slice (some ⟨i.1,0,none⟩) (l++s).length i.2) (l++s).length (Lib.byteCells (l++s))∧((Value.slice (some ⟨i.1,0,none⟩) (l++s).length i.2).ownBlock=some g0∨∀b,(Value.slice (some ⟨i.1,0,none⟩) (l++s).length i.2).ownBlock=some b→w.heap.size≤b):=by
 have hmap:(Tryz.prog.info? 5).map (fun i=>(i.zero,i.size,i.bytes))=some (some (.int .u8 0),1,1):=by kernel_rfl
 obtain⟨i,hq',hii⟩:=Option.map_eq_some_iff.1 hmap;obtain⟨hz,hs1,hb1⟩:i.zero=some (.int .u8 0)∧i.size=1∧i.bytes=1:=by simpa using hii
 obtain⟨v',w',hr,ho',hgr,hblk,hnil⟩:=app_str (P:=Tryz.prog) (w:=w) (base:=base) (t:=53) (u:=9) (ty:=53) (e:=5) (i:=i) Tryz.underlying53 Tryz.underlying9 hq' hz hs1 hb1 hown ⟨s.toArray⟩ (by simpa [ByteArray.size] using hl) hb;have e8:Lib.byteCells (l++s)=Lib.byteCells l++Lib.strCells ⟨s.toArray⟩:=by simp[Lib.byteCells,Lib.strCells]
 have ho2:w'.ownsRow base 5 1 v' (l++s).length (Lib.byteCells (l++s)):=by
  rw[Kb,e8];simpa [ByteArray.size] using ho'
 obtain⟨g',c',rfl⟩:∃g c,v'=.slice (some ⟨g,0,none⟩) (l++s).length c:=by
  rcases ho2.2 with ⟨e1,e2⟩|⟨g,cap,cur,e1,_⟩
  ·have:=(hnil.1 e1).1;cases this
  exact⟨_,_,e1⟩
 have ex:=hs.ev (x:=x) hx;have ey:=hs.ev (x:=y) hy
 have hrun:(execOp a.eval ⟨d,.call { callee:=.builtin .append,args:=#[x,y],argTypes:=#[53,9] },53,pos,af,gd⟩).run Tryz.prog w=.ok (.value (.slice (some ⟨g',0,none⟩) (l++s).length c')) w':=by
  simp[execOp,resolve,invoke,builtin,ex,ey,hr]
 unfold Ch;rw[hrun];exact⟨(g',c'),rfl,hgr,ho2,hblk⟩
theorem cf_appStr {x y:Operand}{g0 cap:Nat}{l s:Bs}(j:Nat) (hj:R[j]? = some (rwG g0 cap l)) (hx:ev m x=some (.slice (some ⟨g0,0,none⟩) l.length cap)) (hy:ev m y=some (.string ⟨s.toArray⟩)) (hl:l.length+s.length≤140737488355328) :
  CF Tryz.prog (.call { callee:=.builtin .append,args:=#[x,y],argTypes:=#[53,9] }) 53 n m (Hp B w0 L R X) (fun i:Nat×Nat=>.slice (some ⟨i.1,0,none⟩) (l++s).length i.2) (fun i=>Hp B w0 L (R.set j (rwG i.1 i.2 (l++s))) X):=fun a w d pos af gd hs hw =>
 (ch_appStr hs (HpG.rows hw _ (Ko hj)) (HpG.size hw) hx hy hl).mono fun v w' ⟨i,e1,e2,e3,e4⟩=>⟨i,e1,Hp.row (r':=rwG i.1 i.2 (l++s)) hw hj e2 e3 e4⟩
theorem wG {x:Operand}{ty:TypeId}{g cap:Nat}{l:Bs}(j:Nat) (hj:R[j]? = some (rwG g cap l)) (hx:ev m x=some (.slice (some ⟨g,0,none⟩) l.length cap)):YF Tryz.prog (.convert 53 9 x) ty n m (Hp B w0 L R X) (.string ⟨l.toArray⟩):=fun a w d pos af gd hs hw=>by
 obtain⟨rest,hb⟩:=HpG.rowBlock hw hj
 exact oF (H:=Blk g (bk 5 (Lib.byteCells l++rest))) l hx (fun _ h=>h) Tryz.underlying53 Tryz.underlying5 Tryz.underlying9 M (fun i hi=>by
  rw[Ac,List.getElem?_append_left (by rw[Lib.byteCells_length];exact hi)];unfold Lib.byteCells
  rw[List.getElem?_map,Kn hi];rfl) a w d pos af gd hs hb
end
section
variable {P:Program}{n:Fr}{m:List (Nat×Value)}{ty:TypeId}{G B:Nat→Prop}{w0 w:World}{L:List (Nat×Obj)}{R:List Rw}{X J:World→Prop}{Q:Exit→Act→World→Prop}{ops:Array Oper}{σ:List Nat}
theorem wd_rowC {ι:Type}{op:Op}{d:Nat}{pos:String}{af:Array Edge}{gd:Option (Nat×Bool)}{r:Rw}{rr:ι→Rw}{val:ι→Value}(k:Nat) (hk:R[k]? = some r) (hkd:kd ⟨some d,op,ty,pos,af,gd⟩=.chain) (hsel:∀cs b,op≠.select cs b) (hg:Gd ops m gd) (hd:Nat.blt d n=true)
  (hrun:∀a w pos af gd,Sat n m a→HpG G B w0 L R X w→Ch P ⟨some d,op,ty,pos,af,gd⟩ a w fun v w'=>∃i,v=val i∧w.grownBy w' r.v.ownBlock∧w'.ownsRow w0.heap.size (rr i).E (rr i).size (rr i).v (rr i).n (rr i).xs∧((rr i).v.ownBlock=r.v.ownBlock∨∀b,(rr i).v.ownBlock=some b→w.heap.size≤b))
  (hJ:∀w w',HpG G B w0 L R X w→J w→Keep (fun q=>r.v.ownBlock=some q) w w'→J w')
  (h:∀i (N:Nat→Prop),WD P ops J Q σ (fun j=>N j∨G j) n ((d,val i)::m) (HpG (fun j=>N j∨G j) B w0 L (R.set k (rr i)) X)) :
  WDo P ops J Q ⟨some d,op,ty,pos,af,gd⟩ σ G n m (HpG G B w0 L R X):=by
 refine wd_chainN (ι:=ι×(Nat→Prop)) (val:=fun i=>val i.1) (N:=fun i=>i.2) (H':=fun i=>HpG (fun j=>i.2 j∨G j) B w0 L (R.set k (rr i.1)) X) hkd hsel hg hd (fun _=>HpG.stab) (fun a w pos af gd hs hw hjw=>?_) fun i=>h i.1 i.2;have hmem:=Ko hk;obtain⟨F,hF,hX⟩:=hw.foot;refine (hrun a w pos af gd hs hw).mono fun v w' ⟨i,e1,h3,h2,h4⟩=>?_;have hres:=Hp.row hw.hp (k:=k) (r':=rr i) hk h3 h2 h4;have hK:Keep (fun q=>r.v.ownBlock=some q) w w':=⟨h3.os,h3.tape,h3.output,h3.size,fun j hj hne=>h3.block j hj (fun e=>hne e.symm)⟩
 have hsub:=(blks_row (L:=L) (r':=rr i) hk (fun x' hx' b hb' e=>by
  subst e;rcases h4 with h4|h4;rw[← h4];exact hb';have h5:=h4 _ hb';have h6:=hw.lt _ hx'
  omega) hw.nd).2
 have hbm:∀q,r.v.ownBlock=some q→q∈uR L R:=fun q hq=>List.mem_append_right _ (List.mem_filterMap.2 ⟨_,hmem,hq⟩);refine⟨hK.mono fun q _ hq=>hw.inG _ (hbm q hq),hJ w w' hw hjw hK,(i,fun q=>(rr i).v.ownBlock=some q∧w.heap.size≤q),e1,⟨hres.keep,hres.own,hres.mine,hres.rows,hres.nd,fun q hq=>?_,F,fun q hq=>?_,fun u hu=>hX u fun q hq=>?_⟩,fun q hq=>⟨hq.2,(h2.lt q hq.1).2⟩⟩
 ·rcases hsub q hq with hq|hq;exact .inr (hw.inG _ hq);rcases h4 with h4|h4
  ·rw[h4] at hq;exact .inr (hw.inG _ (hbm _ hq))
  exact .inl ⟨hq,h4 q hq⟩
 ·obtain⟨f1,f2,f3,f4⟩:=hF q hq;refine⟨Kr f1 h3.size,f2,fun hm=>?_,.inr f4⟩;rcases hsub q hm with hm|hm;exact f3 hm;rcases h4 with h4|h4
  ·rw[h4] at hm;exact f3 (hbm _ hm)
  have:=h4 q hm;omega
 obtain⟨f1,f2,f3,f4⟩:=hF q hq;rw[hu q hq,hK.block q f1 (fun e=>f3 (hbm q e))]
end
section
variable {n:Fr}{m:List (Nat×Value)}{G B:Nat→Prop}{w0 w:World}{L:List (Nat×Obj)}{R:List Rw}{X J:World→Prop}{Q:Exit→Act→World→Prop}{ops:Array Oper}{σ:List Nat}
theorem HpG.neRow {i k g:Nat}{o:Obj}{r:Rw}(h:HpG G B w0 L R X w) (hi:L[i]? = some (g,o)) (hk:R[k]? = some r):r.v.ownBlock≠some g:=fun e =>
 (List.nodup_append.1 h.nd).2.2 g (List.mem_map.2 ⟨_,Ko hi,rfl⟩) g (List.mem_filterMap.2 ⟨r,Ko hk,e⟩) rfl
theorem blk_row {i k g:Nat}{o:Obj}{r:Rw}{w w':World}(h:HpG G B w0 L R X w) (hi:L[i]? = some (g,o)) (hk:R[k]? = some r) (hb:Blk g o w) (hK:Keep (fun q=>r.v.ownBlock=some q) w w'):Blk g o w' :=
 (hK.block g hb.lt (HpG.neRow h hi hk)).trans hb
end
def RowJ (g:Nat) (l:Bs) (w:World):Prop:=∃rest,Blk g (bk 5 (Lib.byteCells l++rest)) w
theorem RowJ.stab {g:Nat}{l:Bs}:tY (RowJ g l):=fun w ob ⟨r,h⟩=>⟨r,Blk.stab w ob h⟩
theorem RowJ.onE {g:Nat}{l:Bs}{w w':World}(h:RowJ g l w) (hx:Ext w w'):RowJ g l w':=h.elim fun r h=>⟨r,Blk.onE h hx⟩
end Go.Proofs.YtkaepknpplhgkaaGreatDoor
