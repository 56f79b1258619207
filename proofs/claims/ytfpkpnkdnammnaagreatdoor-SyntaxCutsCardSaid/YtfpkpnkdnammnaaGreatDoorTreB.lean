import Derived.Test.YtfpkpnkdnammnaaGreatDoorTree
import Derived.ArgAppend
import Derived.Scope
namespace Go.Proofs.YtfpkpnkdnammnaaGreatDoor
open Go.RowKit
section
variable {G B:Nat→Prop}{w0 w w':World}{L:List (Nat×Obj)}{R:List Rw}{X:World→Prop}{g k:Nat}{ob ob' o:Obj}
theorem Hp.toX (h:Hp B w0 ((g,o)::L) R X w) (hB:¬B g):Hp B w0 L R (fun u=>Blk g o u∧X u) w:=by
 have hnd:=HpG.nd h;have hg:=HpG.own h _ (Jy ..);have hn:g∉wB L R:=(List.nodup_cons.1 hnd).1;exact Hp.addX (Hp.drop h (Js _ _) (Jr _)) ⟨fun k=>k=g,fun k hk=>by subst hk;exact⟨(Jv.1 hg).1,hB,hn⟩,fun u hu=>(hu _ V).trans hg⟩
theorem Blk.rdF {T:TypeId}{cs:List Value}{F:Nat→Prop}(h:Blk g (bk T cs) w) (hF:F g):RdF F (some ⟨g,0,none⟩) cs w:=fun _=>⟨g,0,rfl,hF,(Jv.1 h).1,fun i hi=>by
 rw[Kk,cell_of_row w g i _ _ _ h]
 simp[Ka,hi]⟩
theorem HpG.fresh {b i j:Nat}(h:HpG G (fun k=>k=b) w0 L R X w) (hj:L[j]? = some (g,ob)) (hi:L[i]? = some (b,ob')) (hij:Nat.beq j i=false):w0.heap.size≤g :=
 h.mineL hj (h.ne hj hi hij)
theorem HpG.blkL (h:HpG G B w0 L R X w) {j:Nat}(hj:L[j]? = some (g,ob)):w.heap[g]? = some ob:=h.own _ (Ju hj)
theorem Hp.start2 {w:World}{g1 g2:Nat}{o1 o2:Obj}(h1:w.heap[g1]? = some o1) (h2:w.heap[g2]? = some o2) (hne:g1≠g2) (hX:∃F:Nat→Prop,(∀k,F k→k<w.heap.size∧k≠g1∧k≠g2)∧Foot F X w):Hp (fun k=>k=g1∨k=g2) w [(g1,o1),(g2,o2)] [] X w:=by
 obtain⟨F,hF,hX⟩:=hX;refine⟨Keep.refl _ _,fun p hp=>?_,fun p hp=>?_,fun p hp=>(by cases hp),by simp[wB,hne],fun _ _=>trivial,F,fun k hk=>⟨(hF k hk).1,fun hb=>?_,(by simp[wB];exact (hF k hk).2),trivial⟩,hX⟩
 ·simp at hp;rcases hp with rfl|rfl
  ·exact h1
  ·exact h2
 ·simp at hp;rcases hp with rfl|rfl
  ·exact .inr (.inl V)
  ·exact .inr (.inr V)
 ·obtain⟨_,b,c⟩:=hF k hk;rcases hb with hb|hb
  ·exact b hb
  ·exact c hb
theorem Hp.call2T {T:(Nat→Prop)→World→Prop}(hT:Lies T) (h:Hp B w0 L R X w) (hB:∀k,B k→k<w0.heap.size) {i j g1 g2:Nat}{o1 o2 o1' o2':Obj}(hi:L[i]? = some (g1,o1)) (hj:L[j]? = some (g2,o2)) (hij:Nat.beq i j=false) (hK:Keep (fun k=>k=g1∨k=g2) w w') (h1:w'.heap[g1]? = some o1') (h2:w'.heap[g2]? = some o2') (hl:T (fun k=>w.heap.size≤k) w') :
  ∃F:Nat→Prop,(∀k,F k→w0.heap.size≤k)∧Hp B w0 ((L.set i (g1,o1')).set j (g2,o2')) R (fun u=>T F u∧X u) w':=by
 have hne:g1≠g2:=HpG.ne h hi hj hij;have hi1:g1<w.heap.size:=HpG.lt h g1 (List.mem_append_left _ (List.mem_map.2 ⟨_,Ju hi,rfl⟩))
 let w1:World:={ w with heap:=w.heap.setIfInBounds g1 o1' }
 have k1:Keep (fun k=>k=g1) w w1:=⟨rfl,rfl,rfl,by simp[w1],fun k _ hk=>by simp[w1,Ne.symm hk]⟩;have e1:w1.heap[g1]? = some o1':=by simp[w1,hi1]
 have hp1:=HpG.turn h hi k1 e1;have hij':i≠j:=fun e=>by subst e;simp at hij
 have hj':(L.set i (g1,o1'))[j]? = some (g2,o2):=by rw[List.getElem?_set_ne hij'];exact hj
 have hs:w1.heap.size=w.heap.size:=by simp[w1]
 have k2:Keep (fun k=>k=g2) w1 w':=⟨hK.os,hK.tape,hK.output,by rw[hs];exact hK.size,fun k hk hk2=>by
  by_cases e:k=g1
  ·subst e;rw[h1,e1]
  ·rw[hK.block k (by rw[← hs];exact hk) (fun hc=>hc.elim e hk2)];simp[w1,Ne.symm e]⟩
 have hp2:=HpG.turn hp1 hj' k2 h2;refine Hp.lie hT hp2 hl (HpG.size h) (fun b hb=>HpG.lt h b ?_) (fun b hb=>Jx (hB b hb) (HpG.size h))
 rwa [blks_set hj',blks_set hi] at hb
variable {P:Program}{ops:Array Oper}{Q:Exit→Act→World→Prop}{n:Nat}{m:List (Nat×Value)}{ty:TypeId}{rest:List Oper}{d:Nat}{pos:String}{af:Array Edge}{gd:Option (Nat×Bool)}
theorem uO {x y:Operand}{t:TypeId}{v:Value}{E size len:Nat}{xs:List Value}{c mm b0:Nat}{T:TypeId}{news:List Value}{z:Value}{bytes:Nat}(k:Nat) (j:Nat) (hg:Gd ops m gd) (hd:Nat.blt d n=true) (hk:R[k]? = some ⟨v,E,size,len,xs⟩) (hj:L[j]? = some (b0,bk T news)) (hx:ev m x=some v) (hy:ev m y=some (.slice (some ⟨b0,0,none⟩) mm c))
  (ht:P.underlying t=some (.slice E)) (hi:(P.info? E).map (fun i=>(i.zero,i.size,i.bytes))=some (some z,size,bytes)) (hzs:z.cells.size=size) (hsz:Nat.blt 0 size=true) (hl:news.length=mm*size) (h1:news.all (·.oneCell')=true) (hm:Nat.blt 0 mm=true) (h63:len+mm≤9223372036854775807) (hb:(len+mm)*bytes≤140737488355328)
  (h:∀b cap,len+mm≤cap→WL P ops Q rest n ((d,.slice (some ⟨b,0,none⟩) (len+mm) cap)::m) (Hp B w0 L (R.set k ⟨.slice (some ⟨b,0,none⟩) (len+mm) cap,E,size,len+mm,xs++news⟩) X)) :
  WL P ops Q (⟨some d,.call { callee:=.builtin .append,args:=#[x,y],argTypes:=#[t,t] },ty,pos,af,gd⟩::rest) n m (Hp B w0 L R X) :=
 xQ (ι:={i:Nat×Nat // len+mm≤i.2}) (val:=fun i=>.slice (some ⟨i.1.1,0,none⟩) (len+mm) i.1.2) (H':=fun i=>Hp B w0 L (R.set k ⟨.slice (some ⟨i.1.1,0,none⟩) (len+mm) i.1.2,E,size,len+mm,xs++news⟩) X) hg hd
  (fun a w d pos af gd hs hw=>(ch_append (r:=⟨v,E,size,len,xs⟩) hs k hx hk hy (fun j' u hu=>by rw[Addr.add_mid,Kk];exact HpG.cell hw hj hu) ht hi hzs (by simpa [Nat.blt_eq] using hsz) hl (List.all_eq_true.1 h1) (by simpa [Nat.blt_eq] using hm) h63 hb hw).mono fun v w' ⟨g,cap,e1,e2⟩=>by
   have hrow:=HpG.rows e2 _ (List.mem_set (Jm.1 hk).1 _);obtain⟨_,hr⟩:=hrow;rcases hr with ⟨hv,_⟩|⟨g',c',cur,hv,_,_,hle,_⟩
   ·cases hv
   ·injection hv with h1 h2 h3;dsimp only at hle
    exact⟨⟨(g,cap),by show len+mm≤cap;omega⟩,e1,e2⟩) fun i=>h i.1.1 i.1.2 i.2
theorem wl_appendX {x y:Operand}{t:TypeId}{A:Option Addr}{E size len:Nat}{olds:List Value}{c mm b0:Nat}{T:TypeId}{news:List Value}{z:Value}{bytes:Nat}(j:Nat) (hg:Gd ops m gd) (hd:Nat.blt d n=true) (hA:len=0→A=none) (hol:olds.length=len*size) (hX:∀w,Hp B w0 L R X w→Rd A olds w) (hj:L[j]? = some (b0,bk T news)) (hx:ev m x=some (.slice A len len)) (hy:ev m y=some (.slice (some ⟨b0,0,none⟩) mm c))
  (ht:P.underlying t=some (.slice E)) (hi:(P.info? E).map (fun i=>(i.zero,i.size,i.bytes))=some (some z,size,bytes)) (hzs:z.cells.size=size) (hsz:Nat.blt 0 size=true) (hl:news.length=mm*size) (h1:news.all (·.oneCell')=true) (hm:Nat.blt 0 mm=true) (h63:len+mm≤9223372036854775807) (hb:(len+mm)*bytes≤140737488355328)
  (h:∀b cap,len+mm≤cap→WL P ops Q rest n ((d,.slice (some ⟨b,0,none⟩) (len+mm) cap)::m) (Hp B w0 L (⟨.slice (some ⟨b,0,none⟩) (len+mm) cap,E,size,len+mm,olds++news⟩::R) X)) :
  WL P ops Q (⟨some d,.call { callee:=.builtin .append,args:=#[x,y],argTypes:=#[t,t] },ty,pos,af,gd⟩::rest) n m (Hp B w0 L R X):=by
 have hsz':0<size:=by simpa [Nat.blt_eq] using hsz
 have hm':0<mm:=by simpa [Nat.blt_eq] using hm
 refine xQ (ι:={i:Nat×Nat // len+mm≤i.2}) (val:=fun i=>.slice (some ⟨i.1.1,0,none⟩) (len+mm) i.1.2) (H':=fun i=>Hp B w0 L (⟨.slice (some ⟨i.1.1,0,none⟩) (len+mm) i.1.2,E,size,len+mm,olds++news⟩::R) X) hg hd (fun a w d pos af gd hs hw=>?_) fun i=>h i.1.1 i.1.2 i.2
 obtain⟨i,hq,hz,hs1,hb1⟩:∃i,P.info? E=some i∧i.zero=some z∧i.size=size∧i.bytes=bytes:=by
  cases hq:P.info? E with
  | none=>simp[hq] at hi
  | some i=>exact⟨i,rfl,by simpa [hq] using hi⟩
 have hnews:∀j' u,news[j']? = some u→w.cell? ((⟨b0,0,none⟩:Addr).add j')=some u:=fun j' u hu=>by rw[Addr.add_mid,Kk];exact HpG.cell hw hj hu
 have fin:∀v' w',(Builtin.append_ #[t,t] ty #[.slice A len len,.slice (some ⟨b0,0,none⟩) mm c]).run P w=.ok v' w'→w'.ownsRow w.heap.size E size v' (len+mm) (olds++news)→w.grownBy w' none →
   Ch P ⟨d,.call { callee:=.builtin .append,args:=#[x,y],argTypes:=#[t,t] },ty,pos,af,gd⟩ a w fun v w'=>∃i:{i:Nat×Nat // len+mm≤i.2},v=.slice (some ⟨i.1.1,0,none⟩) (len+mm) i.1.2∧Hp B w0 L (⟨.slice (some ⟨i.1.1,0,none⟩) (len+mm) i.1.2,E,size,len+mm,olds++news⟩::R) X w':=fun v' w' hr ho hgr=>by
  have hext:Ext w w':=⟨hgr.os,hgr.tape,hgr.output,hgr.size,fun k hk=>hgr.block k hk (fun e=>by cases e)⟩;have hp:=Hp.addRow (r:=⟨v',E,size,len+mm,olds++news⟩) hw hext ho;obtain⟨g,cap,rfl,_,hlt⟩:=ho.form (by omega)
  have hle:len+mm≤cap:=by
   obtain⟨_,hr⟩:=ho;rcases hr with ⟨hv,_⟩|⟨g',c',cur,hv,_,_,hle,_⟩
   ·cases hv
   ·injection hv with h1 h2 h3;omega
  have hrun:(execOp a.eval ⟨d,.call { callee:=.builtin .append,args:=#[x,y],argTypes:=#[t,t] },ty,pos,af,gd⟩).run P w=.ok (.value (.slice (some ⟨g,0,none⟩) (len+mm) cap)) w':=by
   simp[execOp,resolve,invoke,builtin,hs.ev hx,hs.ev hy,hr]
  unfold Ch;rw[hrun];exact⟨⟨(g,cap),hle⟩,rfl,hp⟩
 rcases Nat.eq_zero_or_pos len with h0|h0
 ·obtain rfl:=hA h0;subst h0;have hon:olds=[]:=List.eq_nil_of_length_eq_zero (by omega);subst hon;obtain⟨g,cap,w',hr,h2,h3,_,_⟩:=run_append_lies (P:=P) (w:=w) t ty w.heap.size E i z size bytes ht hq hz hs1 hb1 hzs hsz' (.slice none 0 0) 0 [] (World.ownsRow_nil w _ E size) ⟨b0,0,none⟩ mm c news hl hnews (List.all_eq_true.1 h1) hm' (by unfold maxLen;omega) (by omega) (Km _) _ rfl;exact fin _ w' hr h2 h3
 ·obtain⟨b,off,rfl,hc⟩:=hX w hw (by rw[hol];exact Nat.mul_pos h0 hsz')
  obtain⟨v',w',hr,h2,h3⟩:=run_append_arg_grows (P:=P) w t ty E i z size bytes ht hq hz hs1 hb1 hzs hsz' ⟨b,off,none⟩ len len olds hol (fun j' u hu=>by
   rw[Addr.add_mid,hc j' (Jm.1 hu).1,Ka,hu];rfl) ⟨b0,0,none⟩ mm c news hl hnews (by omega) (by unfold maxLen;omega) hb
  exact fin _ w' hr h2 h3
end
section
variable {P:Program}{n:Nat}{m:List (Nat×Value)}{H:World→Prop}
theorem wc_scope {c:Code}{Q:Exit→Act→World→Prop}(h:WC P c (Exit.noGoto Q) n m H):WC P (.scope c) Q n m H:=fun a w hs hw=>wp_scope_straight (h a w hs hw)
theorem wc_label {l:Nat}{Q:Exit→Act→World→Prop}(h:WQ Q .normal n m H):WC P (.label l) Q n m H:=fun a w hs hw=>wp_label (h a w hs hw)
theorem wq_scope_ret {Q:Exit→Act→World→Prop}(h:WQ Q .ret n m H):WQ (Exit.noGoto Q) .ret n m H:=h
end
section
variable {P:Program}{n:Nat}{m:List (Nat×Value)}{G B:Nat→Prop}{w0:World}{L:List (Nat×Obj)}{Rs:List Rw}{X:World→Prop}
theorem wq_retC3 {fn:Func}{R:Ending→World→Prop}{p t1 t2:Tmp}{t T:TypeId}{g:Nat}{cs:List Value}{d:TypeDesc}{v1 v2:Value}(hr:fn.results=#[.cell p t,.tmp t1,.tmp t2]) (hp:yU m p=some (.pointer (some ⟨g,0,none⟩))) (h1:yU m t1=some v1) (h2:yU m t2=some v2)
  (k:Nat) (hk:L[k]? = some (g,bk T cs)) (ht:P.underlying t=some d) (hd:(match d with|.struct _|.array _ _=>true|_=>false)=true) (hs':(P.info? t).map (·.size)=some cs.length)
  (h:∀w,HpG G B w0 L Rs X w→R (.returned (.tuple #[.agg cs.toArray,v1,v2])) w):WQ (bodyPost P fn R) .ret n m (HpG G B w0 L Rs X):=fun a w hs hw=>by
 have hg:=hw.own _ (Ju hk);have hp':a.tmps[p]?.getD undef=.pointer (some ⟨g,0,none⟩):=by simp[hs.get p _ hp]
 have e1:a.tmps[t1]?.getD undef=v1:=by simp[hs.get t1 _ h1]
 have e2:a.tmps[t2]?.getD undef=v2:=by simp[hs.get t2 _ h2]
 have hl:=run_loadVar_row w g T t cs.toArray (0,0) d hg ht hd (by simpa using hs');exact bodyPost_ret (v:=.tuple #[.agg cs.toArray,v1,v2]) (by simp[results,hr,hp',e1,e2,asAddr,hl]) hs.dfr (h w hw)
theorem wd_storeRow {ops:Array Oper}{Q:Exit→Act→World→Prop}{J:World→Prop}{σ:List Nat}{x y:Operand}{t T ty:TypeId}{g o:Nat}{cs seg:List Value}{pos:String}{af:Array Edge}{gd:Option (Nat×Bool)}{R:List Rw}(k:Nat) (hg:Gd ops m gd) (hx:ev m x=some (.pointer (some ⟨g,o,none⟩))) (hy:ev m y=some (.agg seg.toArray)) (hk:L[k]? = some (g,bk T cs)) (h1:seg.all (·.oneCell')=true) (ho:Nat.ble (o+seg.length) cs.length=true) (hs':(P.info? t).map (·.size)=some seg.length)
  (hJ:∀w w',HpG G B w0 L R X w→J w→Keep (fun j=>j=g) w w'→J w')
  (h:WD P ops J Q σ G n m (HpG G B w0 (L.set k (g,bk T (cs.take o++seg++cs.drop (o+seg.length)))) R X)):WDo P ops J Q ⟨none,.store t x y,ty,pos,af,gd⟩ σ G n m (HpG G B w0 L R X) :=
 wd_chain0 (ι:=Unit) (val:=fun _=>undef) (H':=fun _=>HpG G B w0 (L.set k (g,bk T (cs.take o++seg++cs.drop (o+seg.length)))) R X) rfl (fun _ _ e=>by cases e) hg (fun _=>Ky)
  (fun _ w _ _ _ _ hs hw hj=>(ch_storeRow hs hx hy (List.all_eq_true.1 h1) (Jn ho) hs' (hw.own _ (Ju hk))).mono fun u w' ⟨e1,e2,e3⟩ =>
   ⟨e2.mono fun j _ hjg=>by subst hjg;exact hw.inG j (List.mem_append_left _ (List.mem_map.2 ⟨_,Ju hk,rfl⟩)),hJ w w' hw hj e2,(),e1,hw.turn hk e2 e3⟩) fun _=>h
end
end Go.Proofs.YtfpkpnkdnammnaaGreatDoor
