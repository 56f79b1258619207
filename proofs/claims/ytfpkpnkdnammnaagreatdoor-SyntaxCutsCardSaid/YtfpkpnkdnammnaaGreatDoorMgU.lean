import Derived.Test.YtfpkpnkdnammnaaGreatDoorMdG
namespace Go.Proofs.YtfpkpnkdnammnaaGreatDoor
open Go.RowKit
theorem stG_len {E:GE}{rec:GS→List St×GS}(deep k:Nat) (s:GS):(stG E rec deep k s).1.length≤2:=by
 unfold stG
 split
 ·simp
 split
 ·simp
 split
 ·simp
 split
 ·unfold ifG;split<;>simp
 split
 ·simp[whG]
 split
 ·split<;>simp
 split<;>simp
theorem blG_len {E:GE}{rec:GS→List St×GS}(deep:Nat):∀(n:Nat) (acc:List St) (s:GS),(blG E rec deep n acc s).1.length≤acc.length+2*n
 | 0,acc,s=>Km _
 | n+1,acc,s=>by
  unfold blG
  split
  ·show acc.length≤_;omega
  ·refine Kx (blG_len deep n _ _) ?_;have:=stG_len (E:=E) (rec:=rec) deep (s.lf.v E 12) (s.lf.nx E);rw[Ji];omega
theorem stsG_len {E:GE}(r:Nat) (s:GS):(stsG E r s).1.length≤10:=by
 have hv5:s.v E 5<5:=wU _ _ (by decide)
 cases r with
 | zero=>exact Kx (blG_len 4 _ _ _) (by simp;omega)
 | succ r=>exact Kx (blG_len _ _ _ _) (by simp;omega)
theorem gsts_any (E:GE) (hE:E.Ok):∀r:Nat,r≤3→GsOk E (stsG E r) ((4-r:Nat):Int)
 | 0,_=>gstmts_step E hE 4 (by decide) (fun s=>([],s)) (fun _=>SL.refl) (fun _=>Kl _) (fun h=>absurd h (by decide))
 | r+1,h=>gstmts_step E hE (4-(r+1)) (by omega) (stsG E r) (stsG_in hE r) (stsG_len r) (fun _=>by
   rw[show (((4-(r+1):Nat):Int)+1)=((4-r:Nat):Int) by omega]
   exact gsts_any E hE r (by omega))
section
variable {P:Program}{n:Nat}{m:List (Nat×Value)}{ty t e:TypeId}
theorem nf_bs0 {size:Nat}(ht:P.underlying t=some (.slice e)) (hs':(P.info? e).map (·.size)=some size):NF P (.buildSlice t 0 #[]) ty n m (bk e []) (fun g=>.slice (some ⟨g,0,none⟩) 0 0):=by
 intro a w d pos af g hs
 cases hq:P.info? e with
 | none=>simp[hq] at hs'
 | some i =>
  have:(Instr.buildSlice t 0 #[]).run P w=.ok (.slice (some ⟨w.heap.size,0,none⟩) 0 0) (w.alloc (bk e [])):=by
   simp[Instr.buildSlice,run_underlying ht,sizeOf,typeInfo,hq,newRow,Instr.fill];rw[show Array.range 0=#[] from Array.ext (by simp) (by simp),Array.map_empty]
  simp[execOp,this]
variable {ops:Array Oper}{Q:Exit→Act→World→Prop}{J:World→Prop}{σ:List Nat}{G:Nat→Prop}{w0:World}{L:List (Nat×Obj)}{R:List Rw}{X:World→Prop}{d:Nat}{pos:String}{af:Array Edge}{gd:Option (Nat×Bool)}
theorem wd_append0 {x y:Operand}{E size b mm c:Nat}{A2:Option Addr}{news:List Value}{z:Value}{bytes:Nat}(hg:Gd ops m gd) (hd:Nat.blt d n=true) (hx:ev m x=some (.slice (some ⟨b,0,none⟩) 0 0)) (hy:ev m y=some (.slice A2 mm c)) (hrd:∀w,HpG G (fun _=>False) w0 ((b,bk E [])::L) R X w→Rd A2 news w)
  (ht:P.underlying t=some (.slice E)) (hi:(P.info? E).map (fun i=>(i.zero,i.size,i.bytes))=some (some z,size,bytes)) (hzs:z.cells.size=size) (hsz:Nat.blt 0 size=true) (hl:news.length=mm*size) (h1:∀v∈news,v.oneCell'=true) (h63:mm≤maxLen) (hb:mm*bytes≤140737488355328)
  (hJ:∀w w',HpG G (fun _=>False) w0 ((b,bk E [])::L) R X w→J w→Keep (fun j=>j=b) w w'→J w')
  (h:∀A' cap' (N:Nat→Prop),mm≤cap'→WD P ops J Q σ (fun j=>N j∨G j) n ((d,.slice A' mm cap')::m) (HpG (fun j=>N j∨G j) (fun _=>False) w0 L (⟨.slice A' mm cap',E,size,mm,news⟩::R) X)) :
  WDo P ops J Q ⟨some d,.call { callee:=.builtin .append,args:=#[x,y],argTypes:=#[t,t] },ty,pos,af,gd⟩ σ G n m (HpG G (fun _=>False) w0 ((b,bk E [])::L) R X):=by
 have hsz':0<size:=by simpa [Nat.blt_eq] using hsz
 refine wd_chainN (ι:={i:(Option Addr×Nat)×(Nat→Prop) // mm≤i.1.2}) (val:=fun i=>.slice i.1.1.1 mm i.1.1.2) (N:=fun i=>i.1.2) (H':=fun i=>HpG (fun j=>i.1.2 j∨G j) (fun _=>False) w0 L (⟨.slice i.1.1.1 mm i.1.1.2,E,size,mm,news⟩::R) X) V (fun _ _ e=>by cases e) hg hd (fun _=>Ky) (fun a w pos af gd hs hw hj=>?_) fun i=>h i.1.1.1 i.1.1.2 i.1.2 i.2
 obtain⟨i,hq,hz,hs1,hb1⟩:∃i,P.info? E=some i∧i.zero=some z∧i.size=size∧i.bytes=bytes:=by
  cases hq:P.info? E with
  | none=>simp[hq] at hi
  | some i=>exact⟨i,rfl,by simpa [hq] using hi⟩
 have hb0:w0.heap.size≤b:=(hw.mine _ (Jy ..)).elim id False.elim;have hrow:=Hp.toRow (size:=size) (k:=0) hw.hp hb0 (by simp) (Kl _);obtain⟨F,hF,hX⟩:=hw.foot
 have hperm:(wB L (⟨.slice (some ⟨b,0,none⟩) 0 0,E,size,0,[]⟩::R)).Perm (wB ((b,bk E [])::L) R):=by
  unfold wB;rw[List.filterMap_cons];exact List.perm_middle
 rcases Nat.eq_zero_or_pos mm with h0|h0
 ·subst h0;have hn:news=[]:=List.eq_nil_of_length_eq_zero (by omega);subst hn
  have happ:(Builtin.append_ #[t,t] ty #[.slice (some ⟨b,0,none⟩) 0 0,.slice A2 0 c]).run P w=.ok (.slice (some ⟨b,0,none⟩) 0 0) w:=by
   cases A2<;>simp[Builtin.append_,run_underlying ht,sizeOf,typeInfo,hq,Builtin.lenOf,Builtin.firstCells,loadCells,loadCellsFrom,storeCells]
  have hrun:(execOp a.eval ⟨some d,.call { callee:=.builtin .append,args:=#[x,y],argTypes:=#[t,t] },ty,pos,af,gd⟩).run P w=.ok (.value (.slice (some ⟨b,0,none⟩) 0 0)) w:=by
   simp[execOp,resolve,invoke,builtin,hs.ev hx,hs.ev hy,happ]
  unfold Ch;rw[hrun];refine⟨Keep.refl _ _,hj,⟨((some ⟨b,0,none⟩,0),fun _=>False),Kl _⟩,rfl,⟨hrow.keep,hrow.own,hrow.mine,hrow.rows,hrow.nd,fun k hk=>.inr (hw.inG k (hperm.mem_iff.1 hk)),F,fun k hk=>⟨(hF k hk).1,id,fun hm=>(hF k hk).2.2.1 (hperm.mem_iff.1 hm),.inr (hF k hk).2.2.2⟩,hX⟩,fun _ h=>h.elim⟩
 ·obtain⟨b2,off,e,hc⟩:=hrd w hw (by rw[hl];exact Nat.mul_pos h0 hsz');subst e;have hown:=HpG.rows hrow _ (Jy ..)
  obtain⟨g,cap,w',hr,h2,h3,h4,h5⟩:=run_append_lies (P:=P) (w:=w) t ty w0.heap.size E i z size bytes ht hq hz hs1 hb1 hzs hsz' _ 0 [] hown ⟨b2,off,none⟩ mm c news hl (fun j u hu=>by
   rw[Addr.add_mid,hc j (Jm.1 hu).1,Ka,hu];rfl) h1 h0 (by rw[Kk];exact h63) (by rw[Kk];exact hb) hw.size _ rfl
  rw[Kk] at hr h2
  have hrun:(execOp a.eval ⟨some d,.call { callee:=.builtin .append,args:=#[x,y],argTypes:=#[t,t] },ty,pos,af,gd⟩).run P w=.ok (.value (.slice (some ⟨g,0,none⟩) mm cap)) w':=by
   simp[execOp,resolve,invoke,builtin,hs.ev hx,hs.ev hy,hr]
  have hle:mm≤cap:=by
   obtain⟨_,hr⟩:=h2;rcases hr with ⟨hv,_⟩|⟨g',c',cur,hv,_,_,hle,_⟩
   ·cases hv
   ·injection hv with h1 h2 h3;omega
  have hres:=Hp.row hrow (k:=0) (r':=⟨.slice (some ⟨g,0,none⟩) mm cap,E,size,mm,news⟩) rfl h3 h2 (h4.elim (fun h4=>.inl h4.symm) fun h4=>.inr fun b' hb'=>by
   have:b'=g:=by simpa [Value.ownBlock] using hb'.symm
   omega)
  have hbb:(Value.slice (some ⟨b,0,none⟩) 0 0).ownBlock=some b:=rfl;have hK:Keep (fun j=>j=b) w w':=⟨h3.os,h3.tape,h3.output,h3.size,fun j hj hne=>h3.block j hj (fun e=>hne (by rw[hbb] at e;injection e))⟩;have hbm:b∈wB ((b,bk E [])::L) R:=List.mem_append_left _ (Jy ..)
  have hperm2:(wB L (⟨.slice (some ⟨g,0,none⟩) mm cap,E,size,mm,news⟩::R)).Perm (g::wB L R):=by
   unfold wB;rw[List.filterMap_cons];exact List.perm_middle
  have hLR:∀k∈wB L R,k∈wB ((b,bk E [])::L) R:=fun k hk=>Kg _ hk;have hgb:g=b∨g=w.heap.size:=h4.imp (fun h4=>by rw[hbb] at h4;injection h4 with h4;exact h4.symm) id;unfold Ch;rw[hrun];refine⟨hK.mono fun j _ hj=>by subst hj;exact hw.inG _ hbm,hJ w w' hw hj hK,⟨((some ⟨g,0,none⟩,cap),fun j=>j=g∧w.heap.size≤j),hle⟩,rfl,⟨hres.keep,hres.own,hres.mine,hres.rows,hres.nd,fun k hk=>?_,F,fun k hk=>?_,fun u hu=>hX u fun k hk=>?_⟩,fun k hk=>⟨hk.2,hk.1▸h5⟩⟩
  ·rcases List.mem_cons.1 (hperm2.mem_iff.1 hk) with e|hk
   ·subst e;rcases hgb with e|e
    ·exact .inr (hw.inG _ (e▸hbm))
    ·exact .inl ⟨rfl,Nat.le_of_eq e.symm⟩
   ·exact .inr (hw.inG _ (hLR k hk))
  ·obtain⟨f1,f2,f3,f4⟩:=hF k hk;refine⟨Jx f1 h3.size,id,fun hm=>?_,.inr f4⟩;rcases List.mem_cons.1 (hperm2.mem_iff.1 hm) with e|hm
   ·rcases hgb with e2|e2
    ·exact f3 (by rw[e,e2];exact hbm)
    ·omega
   ·exact f3 (hLR k hm)
  ·obtain⟨f1,f2,f3,f4⟩:=hF k hk;rw[hu k hk,hK.block k f1 (fun e=>f3 (e▸hbm))]
variable {B:Nat→Prop}{w:World}
theorem HpG.neR {i k g:Nat}{o:Obj}{r:Rw}(h:HpG G B w0 L R X w) (hi:L[i]? = some (g,o)) (hk:R[k]? = some r):r.v.ownBlock≠some g:=fun e =>
 (List.nodup_append.1 h.nd).2.2 g (List.mem_map.2 ⟨_,Ju hi,rfl⟩) g (List.mem_filterMap.2 ⟨r,Ju hk,e⟩) rfl
theorem wd_appendR {x y:Operand}{v:Value}{E size len:Nat}{xs:List Value}{c mm b0 T:Nat}{news:List Value}{z:Value}{bytes:Nat}(k j:Nat) (hg:Gd ops m gd) (hd:Nat.blt d n=true) (hk:R[k]? = some ⟨v,E,size,len,xs⟩) (hj:L[j]? = some (b0,bk T news)) (hx:ev m x=some v) (hy:ev m y=some (.slice (some ⟨b0,0,none⟩) mm c))
  (ht:P.underlying t=some (.slice E)) (hi:(P.info? E).map (fun i=>(i.zero,i.size,i.bytes))=some (some z,size,bytes)) (hzs:z.cells.size=size) (hsz:Nat.blt 0 size=true) (hl:news.length=mm*size) (h1:news.all (·.oneCell')=true) (hm:Nat.blt 0 mm=true) (h63:len+mm≤9223372036854775807) (hb:(len+mm)*bytes≤140737488355328)
  (hJ:∀w w',HpG G B w0 L R X w→J w→Keep (fun q=>v.ownBlock=some q) w w'→J w')
  (h:∀g cap (N:Nat→Prop),len+mm≤cap→WD P ops J Q σ (fun j=>N j∨G j) n ((d,.slice (some ⟨g,0,none⟩) (len+mm) cap)::m) (HpG (fun j=>N j∨G j) B w0 L (R.set k ⟨.slice (some ⟨g,0,none⟩) (len+mm) cap,E,size,len+mm,xs++news⟩) X)) :
  WDo P ops J Q ⟨some d,.call { callee:=.builtin .append,args:=#[x,y],argTypes:=#[t,t] },ty,pos,af,gd⟩ σ G n m (HpG G B w0 L R X):=by
 have hsz':0<size:=by simpa [Nat.blt_eq] using hsz
 have hm':0<mm:=by simpa [Nat.blt_eq] using hm
 refine wd_chainN (ι:={i:(Nat×Nat)×(Nat→Prop) // len+mm≤i.1.2}) (val:=fun i=>.slice (some ⟨i.1.1.1,0,none⟩) (len+mm) i.1.1.2) (N:=fun i=>i.1.2) (H':=fun i=>HpG (fun j=>i.1.2 j∨G j) B w0 L (R.set k ⟨.slice (some ⟨i.1.1.1,0,none⟩) (len+mm) i.1.1.2,E,size,len+mm,xs++news⟩) X) V (fun _ _ e=>by cases e) hg hd (fun _=>Ky) (fun a w pos af gd hs hw hjw=>?_) fun i=>h i.1.1.1 i.1.1.2 i.1.2 i.2
 obtain⟨i,hq,hz,hs1,hb1⟩:∃i,P.info? E=some i∧i.zero=some z∧i.size=size∧i.bytes=bytes:=by
  cases hq:P.info? E with
  | none=>simp[hq] at hi
  | some i=>exact⟨i,rfl,by simpa [hq] using hi⟩
 have hmem:=Ju hk;have hown:=HpG.rows hw _ hmem;have hlt:=hown.lt;obtain⟨F,hF,hX⟩:=hw.foot
 obtain⟨g,cap,w',hr,h2,h3,h4,h5⟩:=run_append_lies (P:=P) (w:=w) t ty w0.heap.size E i z size bytes ht hq hz hs1 hb1 hzs hsz' v len xs hown ⟨b0,0,none⟩ mm c news hl (fun j' u hu=>by
  rw[Addr.add_mid,Kk];exact HpG.cell hw hj hu) (List.all_eq_true.1 h1) hm' (by unfold maxLen;omega) hb hw.size _ rfl
 have hrun:(execOp a.eval ⟨some d,.call { callee:=.builtin .append,args:=#[x,y],argTypes:=#[t,t] },ty,pos,af,gd⟩).run P w=.ok (.value (.slice (some ⟨g,0,none⟩) (len+mm) cap)) w':=by
  simp[execOp,resolve,invoke,builtin,hs.ev hx,hs.ev hy,hr]
 have hle:len+mm≤cap:=by
  obtain⟨_,hr⟩:=h2;rcases hr with ⟨hv,_⟩|⟨g',c',cur,hv,_,_,hle,_⟩
  ·cases hv
  ·injection hv with h1 h2 h3;omega
 have hob:(Value.slice (some ⟨g,0,none⟩) (len+mm) cap).ownBlock=some g:=rfl
 have hres:=Hp.row hw.hp (k:=k) (r':=⟨.slice (some ⟨g,0,none⟩) (len+mm) cap,E,size,len+mm,xs++news⟩) hk h3 h2 (h4.elim (fun h4=>.inl (by rw[hob];exact h4.symm)) fun h4=>.inr fun b' hb'=>by
  have:b'=g:=by rw[hob] at hb';injection hb' with e;exact e.symm
  omega)
 have hK:Keep (fun q=>v.ownBlock=some q) w w':=⟨h3.os,h3.tape,h3.output,h3.size,fun j hj hne=>h3.block j hj (fun e=>hne e.symm)⟩
 have hsub:=(blks_row (L:=L) (r':=⟨.slice (some ⟨g,0,none⟩) (len+mm) cap,E,size,len+mm,xs++news⟩) hk (fun x' hx' b hb' e=>by
  subst e;rw[hob] at hb';injection hb' with hb';subst hb';rcases h4 with h4|h4
  ·exact h4
  ·have:=hw.lt _ hx';omega) hw.nd).2
 have hbm:∀q,v.ownBlock=some q→q∈wB L R:=fun q hq=>List.mem_append_right _ (List.mem_filterMap.2 ⟨_,hmem,hq⟩);unfold Ch;rw[hrun];refine⟨hK.mono fun q _ hq=>hw.inG _ (hbm q hq),hJ w w' hw hjw hK,⟨((g,cap),fun q=>q=g∧w.heap.size≤q),hle⟩,rfl,⟨hres.keep,hres.own,hres.mine,hres.rows,hres.nd,fun q hq=>?_,F,fun q hq=>?_,fun u hu=>hX u fun q hq=>?_⟩,fun q hq=>⟨hq.2,hq.1▸h5⟩⟩
 ·rcases hsub q hq with hq|hq
  ·exact .inr (hw.inG _ hq)
  ·rw[hob] at hq;injection hq with hq;subst hq;rcases h4 with h4|h4
   ·exact .inr (hw.inG _ (hbm _ h4))
   ·exact .inl ⟨rfl,Nat.le_of_eq h4.symm⟩
 ·obtain⟨f1,f2,f3,f4⟩:=hF q hq;refine⟨Jx f1 h3.size,f2,fun hm=>?_,.inr f4⟩;rcases hsub q hm with hm|hm
  ·exact f3 hm
  ·rw[hob] at hm;injection hm with hm;subst hm;rcases h4 with h4|h4
   ·exact f3 (hbm _ h4)
   ·omega
 ·obtain⟨f1,f2,f3,f4⟩:=hF q hq;rw[hu q hq,hK.block q f1 (fun e=>f3 (hbm q e))]
end
end Go.Proofs.YtfpkpnkdnammnaaGreatDoor
namespace Go.Proofs.YtfpkpnkdnammnaaGreatDoor
open Go.RowKit
theorem Rd.take {A:Option Addr}{cs:List Value}{w:World}(h:Rd A cs w) (k:Nat):Rd A (cs.take k) w:=fun h0=>by
 rw[Ki] at h0;obtain⟨b,off,e,hc⟩:=h (by omega);refine⟨b,off,e,fun i hi=>?_⟩;rw[Ki] at hi;rw[hc i (by omega),Ka,Ka,List.getElem?_take_of_lt (by omega)]
structure HdJ where
 i:Nat
 acc:List Fn
 a:Nat
 A:Option Addr
 cap:Nat
 cs:List Value
 F:Nat→Prop
structure HdOk (l:List Int) (many n0 bp:Nat) (j:HdJ):Prop where
 run:hdG l (many-j.i) j.acc j.a=hdG l many [] (nxA l 0)
 len:j.acc.length=j.i
 le:j.i≤many
 at_:j.a≤l.length
 par:∀f∈j.acc,f.params.length≤4
 F:∀k,j.F k→n0≤k∧k≠bp
abbrev hdC (lA:Option Addr) (ln lc a:Nat) (A:Option Addr) (i cap:Nat):List Value:=[.slice lA ln lc,.int .i64 a,.int .i64 0,.int .i64 0,.slice none 0 0,.int .i64 0,.int .i64 0,.slice A i cap]
theorem hdG_step {l:List Int}{n:Nat}{acc:List Fn}{a:Nat}:hdG l (n+1) acc a=hdG l n (acc++[⟨sD.getD acc.length [],rW.take (if acc.length=0 then 0 else nxV l a 5),[]⟩]) (if acc.length=0 then a else nxA l a):=by
 conv=>lhs;unfold hdG
 by_cases h:acc.length=0
 ·rw[Kp h,Kp h,Kp h];rfl
 ·rw[Ko h,Ko h,Ko h]
structure BdJ where
 i:Nat
 acc:List Fn
 s:GS
 me:Nat
 p:Option Addr×Nat
 A:Option Addr
 cap:Nat
 cs:List Value
 F:Nat→Prop
structure BdOk (l:List Int) (fs:List Fn) (many n0 a0:Nat) (j:BdJ):Prop where
 run:bdG l fs (many-j.i) j.acc j.s.at_=bdG l fs many [] a0
 len:j.acc.length=j.i
 le:j.i≤many
 at_:j.s.at_≤l.length
 F:∀k,j.F k→n0≤k
theorem bdG_step {l:List Int}{fs:List Fn}{n:Nat}{acc:List Fn}{a:Nat}:bdG l fs (n+1) acc a=bdG l fs n (acc++[⟨(fs.getD acc.length wJ).name,(fs.getD acc.length wJ).params,(stsG ⟨l,fs,acc.length⟩ 3 ⟨a,8,150,0,(fs.getD acc.length wJ).params⟩).1⟩]) (stsG ⟨l,fs,acc.length⟩ 3 ⟨a,8,150,0,(fs.getD acc.length wJ).params⟩).2.at_:=rfl
set_option maxHeartbeats 4000000 in
set_option maxRecDepth 100000 in
theorem made_walk (l:List Int) (lA:Option Addr) (lc:Nat) (hl:l.length≤9223372036854775807) (F00:Nat→Prop) (w_0:World) (hX0:RdF F00 lA (qC l) w_0) :
  Calls Tryz.prog 19 #[.slice lA l.length lc] w_0 fun e w'=>∃A cap,e=.returned (.agg #[.slice A (wI l).length cap])∧Ext w_0 w'∧PgK (fun k=>w_0.heap.size≤k) w' (wI l) A cap:=by
 obtain⟨F0,hF0,hXF⟩:∃F0:Nat→Prop,(∀k,F0 k→k<w_0.heap.size)∧RdF F0 lA (qC l) w_0:=⟨_,fun _ h=>h.2,RdF.lies.lt hX0⟩;have hv4:nxV l 0 4<4:=wU _ _ (by decide);have hmade:wI l=(bdG l (hdG l (1+nxV l 0 4) [] (nxA l 0)).1 (1+nxV l 0 4) [] (hdG l (1+nxV l 0 4) [] (nxA l 0)).2).1:=rfl;generalize hmany:1+nxV l 0 4=many at hmade;have hmany4:many≤4:=by omega
 have hm0:0<many:=by omega
 refine yV (args:=[.slice lA l.length lc]) Tryz.func19 V 97 V (Jn V)<|Z1 0 V<|zD (H':=Hp (fun _=>False) w_0 [] [] (RdF F0 lA (qC l))) (fun u hu=>?_) ?_
 ·subst hu;exact Hp.startT RdF.lies hXF
 refine zY<|zX<|zC .none V (yK (z:=Jb) (cs:=Jh) (by kernel_rfl) V) (fun b2=>?_);refine ZX<|zX<|Zm V V<|ZF V (yQ [.slice none 0 0,.int .i64 0,.int .i64 0,.int .i64 0,.slice none 0 0,.int .i64 0,.int .i64 0,.slice none 0 0] [(0,1),(1,1),(2,1),(3,1),(4,1),(5,1),(6,1),(7,1)] V (by kernel_rfl) (by kernel_rfl) V) ?_;refine zC .none V (vY V V) (fun b14=>?_);refine Za V V<|ZX<|Z3r 0 2 3 V V V<|zC .none V (wM (z:=Ja) V V V V U22 (by kernel_rfl) (by kernel_rfl) V V) (fun b15=>?_);refine Za V V<|ZX<|Z4r 0 2 3 4 V V V V<|zC .none V (wM (z:=Ja) V V V V U22 (by kernel_rfl) (by kernel_rfl) V V) (fun b16=>?_);refine Za V V<|ZX<|Z5 0 2 3 4 5 V V V V V<|wc_fact (φ:=w_0.heap.size≤b14) (fun w h=>HpG.mineL h (j:=2) V id) (fun hb14=>?_);have hF0n:∀k,F0 k→k≠b14:=fun k hk e=>by have:=hF0 k hk;omega
 refine zX<|Zm V V<|tN ⟨lA,lc,none,0,none,0,[]⟩ ⟨l,[],0⟩ ⟨0,0,0,0,[]⟩ 4 b14 2 (by decide) (by decide) hl (Kl _) hF0n (fun w h=>h) .none V  V V ?_;refine ZF V (yI (c:=(many:Int)) V V (by show IntKind.i64.wrap (1+((nxV l 0 4:Nat):Int))=_;rw[show (1+((nxV l 0 4:Nat):Int))=((1+nxV l 0 4:Nat):Int) by omega,hmany];exact i64_in _ (by omega) (by omega))) ?_;refine Za V V<|ZX<|zY<|Z6r 0 2 3 4 5 6 V V V V V V<|Za V V<|ZT<|yY<|xV (ι:={j:HdJ // HdOk l many w_0.heap.size b14 j}) (fun j=>[(2,.pointer (some ⟨b2,0,none⟩)),(3,.pointer (some ⟨b14,0,none⟩)),(4,.slice (some ⟨b15,0,none⟩) 4 4),(5,.slice (some ⟨b16,0,none⟩) 4 4),(6,.int .i64 many),(7,.int .i64 j.1.i)]) (fun j=>Hp (fun _=>False) w_0 [(b16,bk 9 (xX sD)),(b15,bk 9 (xX rW)),(b14,bk 71 (hdC lA l.length lc j.1.a j.1.A j.1.i j.1.cap)),(b2,bk 32 [.slice none 0 0])] [⟨.slice j.1.A j.1.i j.1.cap,62,3,j.1.i,j.1.cs⟩] (fun u=>FnsV j.1.F u j.1.acc j.1.cs∧RdF F0 lA (qC l) u)) (fun j=>many-j.1.i) ⟨⟨0,[],nxA l 0,none,0,[],fun _=>False⟩,⟨rfl,rfl,Kl _,nxA_le l (Kl _),(fun _ h=>by cases h),fun _ h=>h.elim⟩⟩ ?_ ?_ (fun j=>?_)
 ·exact .cons V<|.cons V<|.cons V<|.cons V<|.cons V<|.cons V<|.nil
 ·exact fun w h=>Hp.nil (Hp.weakX h fun u hu=>⟨.nil,hu⟩) _ _
 obtain⟨⟨i,acc,a,A,cap,cs,F⟩,⟨hrun,hlen,hle,hat,hpar,hFn⟩⟩:=j;dsimp only at hrun hlen hle hat hpar hFn ⊢;subst hlen;refine zY<|zY<|zX<|Zm V V<|Zm V V<|ZF V (xS V V)<|ZT<|zT V (fun h22=>?_) (fun h22=>?_)
 ·replace h22:=Jo h22;have hi:acc.length<many:=by omega
  rw[show many-acc.length=(many-(acc.length+1))+1 by omega,hdG_step] at hrun;have hv5:nxV l a 5<5:=wU _ _ (by decide);refine zG<|zQ<|zY<|yY<|zY<|Z7r 2 3 4 5 6 7 22 V V V V V V V<|Za V V<|ZT<|xA (ι:={q:Nat×Nat // q.1=(if acc.length=0 then 0 else nxV l a 5)∧q.2=(if acc.length=0 then a else nxA l a)}) (fun q=>[(2,.pointer (some ⟨b2,0,none⟩)),(3,.pointer (some ⟨b14,0,none⟩)),(4,.slice (some ⟨b15,0,none⟩) 4 4),(5,.slice (some ⟨b16,0,none⟩) 4 4),(6,.int .i64 many),(7,.int .i64 acc.length),(8,.int .i64 q.1.1)]) (fun q=>Hp (fun _=>False) w_0 [(b16,bk 9 (xX sD)),(b15,bk 9 (xX rW)),(b14,bk 71 (hdC lA l.length lc q.1.2 A acc.length cap)),(b2,bk 32 [.slice none 0 0])] [⟨.slice A acc.length cap,62,3,acc.length,cs⟩] (fun u=>FnsV F u acc cs∧RdF F0 lA (qC l) u)) ?_ (fun q=>?_)
  ·refine zY<|zX<|Zm V V<|ZF V (wO V V)<|ZT<|zT V (fun h26=>?_) (fun h26=>?_)
   ·replace h26:=Jo h26;refine Z9r 2 3 4 5 6 7 8 22 26 V V V V V V V V V<|Zm V V<|tN ⟨lA,lc,none,0,A,cap,cs⟩ ⟨l,acc,0⟩ ⟨a,0,0,0,[]⟩ 5 b14 2 (by decide) (by decide) hl hat hF0n (fun w h=>h.2) .none V  V V ?_;refine Za V V<|zU<|zA (ι:={q:Nat×Nat // q.1=(if acc.length=0 then 0 else nxV l a 5)∧q.2=(if acc.length=0 then a else nxA l a)}) ⟨(nxV l a 5,nxA l a),(Ko (by omega)).symm,(Ko (by omega)).symm⟩ (O7 V V V V V V V) (fun w h=>h)
   ·replace h26:=Jp h26;refine zG<|zA (ι:={q:Nat×Nat // q.1=(if acc.length=0 then 0 else nxV l a 5)∧q.2=(if acc.length=0 then a else nxA l a)}) ⟨(0,a),(Kp (by omega)).symm,(Kp (by omega)).symm⟩ (O7 V V V V V V V) (fun w h=>h)
  ·obtain⟨⟨nn,a2⟩,hq1,hq2⟩:=q;dsimp only at hq1 hq2 ⊢;rw[← hq1,← hq2] at hrun;have hnn:nn≤4:=by rw[hq1];split<;>omega
   have ha2:a2≤l.length:=by rw[hq2];split;exact hat;exact nxA_le l hat
   have hpl:(rW.take nn).length=nn:=by rw[Ki];show min nn 4=nn;omega
   refine wR 17 [0,1,2,3,4,5,6,7,8,9,10,11,12,13,14,15,16] (fun u=>Blk b14 (bk 71 (hdC lA l.length lc a2 A acc.length cap)) u∧Blk b16 (bk 9 (xX sD)) u) (by kernel_rfl) (by kernel_rfl) (fun u ob h=>⟨Blk.stab u ob h.1,Blk.stab u ob h.2⟩) (fun w h=>⟨HpG.blk h (k:=2) rfl,HpG.blk h (k:=0) rfl⟩) (fun n0 hn0=>?_);refine Zd V V V (zO V)<|Zd V V V (zO V)<|Zd V V V (yR V)<|Zd V V V (Y71x7 V) ?_;refine Zd V V V (yO (v:=.slice A acc.length cap) V U30 V (fun u h=>by rw[cell_of_row u b14 _ _ _ _ h.1];rfl)) ?_;refine Zd V V V (zO V)<|Zd V V V (zO V)<|Zd V V V (zJ (es:=1) V V U22 (by kernel_rfl) V (by omega) V) ?_;refine Zd V V V (yO (v:=.string ⟨(sD.getD acc.length []).toArray⟩) V U9 V (fun u h=>by rw[cell_of_row u b16 _ _ _ _ h.2,Kk,Nat.mul_one];show (xX sD).toArray[acc.length]? = _;rw[List.getElem?_toArray];exact uR (l:=sD) (show acc.length<4 by omega))) ?_;refine xF V<|tA ?_ .none V (fun k hk=>Jx hk hn0) (nf_bs0 (size:=1) U22 (by kernel_rfl)) (fun b38 hb38=>?_)
   ·rfl
   refine xF V<|sL V .none V (zO V)<|Zd V V V (zO V)<|Zd V V V (yf_sliceHi (size:=1) V V U22 (by kernel_rfl) V (by omega)) ?_;refine xF V<|wd_append0 (z:=Ja) (bytes:=16) (news:=(xX rW).take nn) .none V  V V (fun w h=>Rd.take (HpG.rdL h (j:=2) V) nn) Tryz.underlying22 (by kernel_rfl) V V ?_ ?_ ?_ ?_ (fun w w' h1 h2 hK=>⟨Blk.keep h2.1 hK (HpG.ne h1 (i:=3) (j:=0) V V V),Blk.keep h2.2 hK (HpG.ne h1 (i:=1) (j:=0) V V V)⟩) (fun A42 c42 N42 h42=>?_)
   ·rw[Ki,strs_len];show min nn 4=nn*1;omega
   ·exact fun v hv=>by
     obtain⟨x,_,rfl⟩:=List.mem_map.1 (List.mem_of_mem_take hv);rfl
   ·unfold maxLen;omega
   ·omega
   refine xF V<|sL V .none V (yQ [.string ⟨#[]⟩,.slice none 0 0,.slice none 0 0] [(0,1),(1,1),(2,1)] V (by kernel_rfl) (by kernel_rfl) V) ?_;refine xF V<|tA ?_ .none V (fun k hk=>.inr (.inr (Jx hk hn0))) (xR (z:=.agg #[.string ⟨#[]⟩,.slice none 0 0,.slice none 0 0]) V V U30 (by kernel_rfl) (by kernel_rfl) V V) (fun b44 hb44=>?_)
   ·rfl
   refine xF V<|wd_appendR (z:=.agg #[.string ⟨#[]⟩,.slice none 0 0,.slice none 0 0]) (bytes:=64) 1 0 .none V  V V V V Tryz.underlying30 (by kernel_rfl) V V V V V (by omega) (by omega) (fun w w' h1 h2 hK=>⟨Blk.keep h2.1 hK (HpG.neR h1 (i:=3) (k:=1) V V),Blk.keep h2.2 hK (HpG.neR h1 (i:=1) (k:=1) V V)⟩) (fun a45 c45 N45 h45=>?_);refine wL ?_;simp only[Jz,Ke];refine Zn V V<|ZF V (Y71x7 V) ?_;refine ZS 3 V V V V V (by kernel_rfl) ?_;refine zU<|zM<|zQ<|Z7r 2 3 4 5 6 7 8 V V V V V V V<|Zm V V<|ZF V (yI V V (i64_in _ (by omega) (by omega))) ?_;refine Za V V<|zU<|uG (fun w h=>?_);have h0:=Hp.drop h (Js _ _) (Jr _);have hcp:=HpG.rowCp h0 (j:=0) rfl;obtain⟨G,hG,h1⟩:=Hp.rowXd h0;have hbm:b14∈wB [(b16,bk 9 (xX sD)),(b15,bk 9 (xX rW)),(b14,bk 71 (hdC lA l.length lc a2 (some ⟨a45,0,none⟩) (acc.length+1) c45)),(b2,bk 32 [.slice none 0 0])] []:=by simp[wB]
   refine⟨⟨⟨acc.length+1,acc++[⟨sD.getD acc.length [],rW.take nn,[]⟩],a2,some ⟨a45,0,none⟩,c45,cs++fnC (sD.getD acc.length []) A42 nn c42 none 0 0,fun k=>F k∨G k⟩,⟨hrun,by simp,hi,ha2,fun f hf=>?_,fun k hk=>hk.elim (hFn k) fun hk=>⟨(hG k hk).1,fun e=>(hG k hk).2 ?_⟩⟩⟩,by show many-(acc.length+1)<many-acc.length;omega,.cons V<|.cons V<|.cons V<|.cons V<|.cons V<|.cons V<|.nil,Hp.weakX h1 fun u hu=>⟨?_,hu.2.2⟩⟩
   ·rcases Kz.1 hf with hf|hf
    ·exact hpar f hf
    ·have:f=⟨sD.getD acc.length [],rW.take nn,[]⟩:=by simpa using hf
     subst this;show (rW.take nn).length≤4;omega
   ·subst e;exact List.mem_append_left _ (by simp[List.set])
   ·refine FnsV.append (FnsV.lies.mono (fun _ h=>.inl h) hu.2.1) ?_
    have hk1:fnsK (fun k=>F k∨G k) u ⟨sD.getD acc.length [],rW.take nn,[]⟩ ⟨A42,none,c42,0⟩:=⟨by show Cp (rW.take nn).length c42;rw[hpl];exact hcp,uV,by
     show RdF _ A42 (xX (rW.take nn)) u;rw[show xX (rW.take nn)=(xX rW).take nn from (List.map_take).symm▸rfl]
     exact RdF.lies.mono (fun _ h=>.inr h) hu.1,⟨[],RdF.nil,.nil⟩⟩
    have h9:=hk1.one;unfold rG at h9;dsimp only at h9;rw[hpl] at h9;exact h9
 ·replace h22:=Jp h22;have hi:acc.length=many:=by omega
  rw[hi,Nat.sub_self] at hrun;have hrun0:(acc,a)=hdG l many [] (nxA l 0):=hrun;rw[← hrun0] at hmade;dsimp only at hmade;refine xY<|zN<|zN<|xZ<|zQ<|zY<|Z7 2 3 4 5 6 7 22 V V V V V V V<|wc_ex (ι:={G:Nat→Prop // ∀k,G k→w_0.heap.size≤k∧k≠b14}) (H':=fun G=>Hp (fun _=>False) w_0 [(b14,bk 71 (hdC lA l.length lc a A acc.length cap)),(b2,bk 32 [.slice none 0 0])] [] (fun u=>(RdF G.1 A cs u∧FnsV G.1 u acc cs)∧RdF F0 lA (qC l) u)) (fun w h=>?_) (fun ⟨G,hG⟩=>?_)
  ·have h0:=Hp.drop h (.cons _ (.cons _ (.refl _))) (Jr _);obtain⟨G,hG,h1⟩:=Hp.rowXd h0;exact⟨⟨fun k=>F k∨G k,fun k hk=>hk.elim (hFn k) fun hk=>⟨(hG k hk).1,fun e=>(hG k hk).2 (by subst e;simp[wB])⟩⟩,Hp.weakX h1 fun u hu=>⟨⟨RdF.lies.mono (fun _ h=>.inr h) hu.1,FnsV.lies.mono (fun _ h=>.inl h) hu.2.1⟩,hu.2.2⟩⟩
  have hFG:∀k,(F0 k∨G k)→k≠b14:=fun k hk=>hk.elim (hF0n k) fun hk=>(hG k hk).2;refine zX<|ZF V (yQ [.slice none 0 0] [(0,1)] V (by kernel_rfl) (by kernel_rfl) V) ?_;refine zC .none V (yK (z:=Jb) (cs:=Jh) (by kernel_rfl) V) (fun b9=>?_);refine ZR 0 V V V V V (by kernel_rfl) ?_;refine ZX<|zY<|Z8r 2 3 4 5 6 7 9 22 V V V V V V V V<|Za V V<|ZT<|yY<|xV (ι:={j:BdJ // BdOk l acc many w_0.heap.size a j}) (fun j=>[(2,.pointer (some ⟨b2,0,none⟩)),(3,.pointer (some ⟨b14,0,none⟩)),(6,.int .i64 many),(9,.pointer (some ⟨b9,0,none⟩)),(10,.int .i64 j.1.i)]) (fun j=>Hp (fun _=>False) w_0 [(b9,bk 32 [.slice j.1.A j.1.i j.1.cap]),(b14,gO (GM.nm ⟨lA,lc,none,0,A,cap,cs⟩ j.1.p) ⟨l,acc,j.1.me⟩ j.1.s),(b2,bk 32 [.slice none 0 0])] [⟨.slice j.1.A j.1.i j.1.cap,62,3,j.1.i,j.1.cs⟩] (fun u=>FnsV j.1.F u j.1.acc j.1.cs∧(RdF G A cs u∧FnsV G u acc cs)∧RdF F0 lA (qC l) u)) (fun j=>many-j.1.i) ⟨⟨0,[],⟨a,0,0,0,[]⟩,0,(none,0),none,0,[],fun _=>False⟩,⟨rfl,rfl,Kl _,hat,fun _ h=>h.elim⟩⟩ ?_ ?_ (fun j=>?_)
  ·exact .cons V<|.cons V<|.cons V<|.cons V<|.cons V<|.nil
  ·exact fun w h=>Hp.nil (Hp.weakX h fun u hu=>⟨.nil,hu⟩) _ _
  obtain⟨⟨i2,acc2,s,me2,p2,A2,cap2,cs2,F2⟩,⟨hrun2,hlen2,hle2,hat2,hFn2⟩⟩:=j;dsimp only at hrun2 hlen2 hle2 hat2 hFn2 ⊢;subst hlen2;refine zY<|zY<|zX<|Zm V V<|Zm V V<|ZF V (xS V V)<|ZT<|zT V (fun h51=>?_) (fun h51=>?_)
  ·replace h51:=Jo h51;have hi2:acc2.length<many:=by omega
   rw[show many-acc2.length=(many-(acc2.length+1))+1 by omega,bdG_step] at hrun2;have hfi:acc[acc2.length]? = some (acc.getD acc2.length wJ):=getD_is (by omega) wJ;generalize hf:acc.getD acc2.length wJ=f at hrun2 hfi;have hpf:f.params.length≤4:=hpar f (Ju hfi);have hE:GE.Ok ⟨l,acc,acc2.length⟩:=⟨hpar,by show acc.length≤4;omega,by show acc2.length<acc.length;omega,hl⟩;have hst:=(stsG_in hE 3 ⟨s.at_,8,150,0,f.params⟩).at_ hat2;have hgsi:GSI ⟨l,acc,acc2.length⟩ 0 ⟨s.at_,8,150,0,f.params⟩:=⟨hat2,Km _,by show (-500000:Int)≤150-(0:Nat)-1000*((8:Nat):Int);decide,by show (150:Int)≤1000;decide,by show 0≤8;decide,by show f.params.length≤100+0;omega⟩;refine zG<|zQ<|zY<|yY<|zY<|Z6r 2 3 6 9 10 51 V V V V V V<|Zm V V<|Zm V V<|Zn V V<|ZF V (Y71x6 V) ?_;refine ZS 1 V V V V V (by kernel_rfl) ?_;refine ZX<|Z6r 2 3 6 9 10 51 V V V V V V<|Zm V V<|Zn V V<|ZF V (Y71x2 V) ?_;refine ZS 1 V V V V V (by kernel_rfl) ?_;refine ZX<|Z6r 2 3 6 9 10 51 V V V V V V<|Zm V V<|Zn V V<|ZF V (Y71x3 V) ?_;refine ZS 1 V V V V V (by kernel_rfl) ?_;refine ZX<|Z6r 2 3 6 9 10 51 V V V V V V<|Zm V V<|Zn V V<|ZF V (Y71x5 V) ?_;refine ZS 1 V V V V V (by kernel_rfl) ?_;refine ZX<|Z6 2 3 6 9 10 51 V V V V V V<|zD (H':=Hp (fun _=>False) w_0 [(b9,bk 32 [.slice A2 acc2.length cap2]),(b14,gO (GM.nm ⟨lA,lc,none,0,A,cap,cs⟩ p2) ⟨l,acc,acc2.length⟩ ⟨s.at_,8,150,0,s.names⟩),(b2,bk 32 [.slice none 0 0])] [⟨.slice A2 acc2.length cap2,62,3,acc2.length,cs2⟩] (fun u=>FnsV F2 u acc2 cs2∧(RdF G A cs u∧FnsV G u acc cs)∧RdF F0 lA (qC l) u)) (fun w h=>h) ?_;refine wc_fact (φ:=∃af,∀F' u,FnsV F' u acc cs→fnsK F' u f af∧∀(j:Nat) (v:Value),(rG f af)[j]? = some v→cs[3*acc2.length+j]? = some v) (fun w h=>FnsV.fix (HpG.x h).2.1.2 hfi) (fun ⟨af,hfix⟩=>?_)
   refine wc_fact (φ:=∃b off,A=some ⟨b,off,none⟩) (fun w h=>by
    obtain⟨b,off,e,_⟩:=(HpG.x h).2.1.1 (by rw[(HpG.x h).2.1.2.len];omega)
    exact⟨b,off,e⟩) (fun ⟨bQ,oQ,hAQ⟩=>?_)
   subst hAQ;refine zX<|Zm V V<|zC .none V (nf_bs0 (size:=1) U22 (by kernel_rfl)) (fun b68=>?_);refine wl_conseq (fun w h=>Hp.toRow (size:=1) (k:=0) h (HpG.mineL h (j:=0) V id) V (Kl _)) ?_;refine Zm V V<|Zn V V<|ZF V (Y71x7 V) ?_;refine ZF V (zW 1 V V V U30 V)<|Zm V V<|ZF V (zJ (es:=3) V V U30 (by kernel_rfl) V (by show acc2.length<acc.length;omega) V) ?_;refine ZF V (Y62x1 V) ?_
   refine ZF V (yO (v:=.slice af.A1 f.params.length af.c1) V U22 V (fun w h=>by
   have h2:=(hfix _ w (HpG.x h).2.1.2).2 1 _ rfl
   exact RdF.part (HpG.x h).2.1.1 (Jm.1 h2).1 (by omega) h2)) ?_
   refine wl_appendS (z:=Ja) (bytes:=16) (news:=xX f.params) 0 .none V  V V V (fun w h=>((hfix _ w (HpG.x h).2.1.2).1.h1).rd) Tryz.underlying22 (by kernel_rfl) V V (by rw[strs_len,Nat.mul_one]) (fun v hv=>by
     obtain⟨x,_,rfl⟩:=List.mem_map.1 hv
     rfl) (by omega) (by omega) (Km _) (fun A77 c77 h77=>?_)
   rw[Kk f.params.length,List.nil_append (xX f.params)];refine Zn V V<|ZF V (Y71x4 V) ?_;refine ZS 1 V V V V V (by kernel_rfl) ?_;refine ZX<|Z6r 2 3 6 9 10 51 V V V V V V<|Zm V V<|Zn V V<|ZF V (Y71x7 V) ?_;refine ZF V (zW 1 V V V U30 V)<|Zm V V<|ZF V (zJ (es:=3) V V U30 (by kernel_rfl) V (by show acc2.length<acc.length;omega) V) ?_
   refine ZF V (yD (cs:=rG f af) V U62 V (by kernel_rfl) (fun w h j v hv=>by
   have h2:=(hfix _ w (HpG.x h).2.1.2).2 j v hv
   exact RdF.part (HpG.x h).2.1.1 (Jm.1 h2).1 (by omega) h2)) ?_
   refine zC .none V (yK (z:=.agg #[.string ⟨#[]⟩,.slice none 0 0,.slice none 0 0]) (cs:=Jg) (by kernel_rfl) V) (fun b11=>?_);refine ZR 0 V V V V V (by kernel_rfl) ?_;refine ZX<|Z7r 2 3 6 9 10 11 51 V V V V V V V<|Zm V V<|wl_sts (GM.nm ⟨lA,lc,none,0,some ⟨bQ,oQ,none⟩,cap,cs⟩ (A77,c77)) ⟨l,acc,acc2.length⟩ ⟨s.at_,8,150,0,f.params⟩ (stsG ⟨l,acc,acc2.length⟩ 3) _ b14 2 0 (gsts_any _ hE 3 (by decide)) hgsi hFG (fun w h=>⟨RdF.lies.mono (fun _ h=>.inl h) h.2.2,RdF.lies.mono (fun _ h=>.inr h) h.2.1.1,FnsV.lies.mono (fun _ h=>.inr h) h.2.1.2⟩) .none V  V V V (fun A88 c88 p88 x88 F88 hF88=>?_);generalize hr:stsG ⟨l,acc,acc2.length⟩ 3 ⟨s.at_,8,150,0,f.params⟩=r at hrun2 hst ⊢;refine ZF V (Y62x2 V) ?_;refine ZS 0 V V V V V (by kernel_rfl) ?_;refine ZT<|Z7r 2 3 6 9 10 11 51 V V V V V V V<|ZF V (Y32x0 V) ?_;refine ZF V (zW 1 V V V U30 V)<|ZF V (yX 0 V V U62 V (by kernel_rfl)) ?_;refine zC .none V (xR (z:=.agg #[.string ⟨#[]⟩,.slice none 0 0,.slice none 0 0]) V V U30 (by kernel_rfl) (by kernel_rfl) V V) (fun b93=>?_);refine vI (z:=.agg #[.string ⟨#[]⟩,.slice none 0 0,.slice none 0 0]) (bytes:=64) 2 0 .none V V V V V U30 (by kernel_rfl) V V V V V (by omega) (by omega) (fun a94 c94=>?_);refine ZF V (Y32x0 V) ?_;refine ZS 2 V V V V V (by kernel_rfl) ?_;refine zU<|zM<|zQ<|Z7r 2 3 6 9 10 11 51 V V V V V V V<|Zm V V<|ZF V (yI V V (i64_in _ (by omega) (by omega))) ?_;refine Za V V<|zU<|uG (fun w h=>?_);have h0:=Hp.drop h (.cons _ (.cons _ (.refl _))) (.cons_cons _ (.cons _ (.refl _)));have hcp:=HpG.rowCp h0 (j:=0) rfl;obtain⟨G2,hG2,h1⟩:=Hp.rowX h0;refine⟨⟨⟨acc2.length+1,acc2++[⟨f.name,f.params,r.1⟩],r.2,acc2.length,p88,some ⟨a94,0,none⟩,c94,cs2++fnC f.name af.A1 f.params.length af.c1 A88 r.1.length c88,fun k=>F2 k∨(G k∨(F88 k∨G2 k))⟩,⟨hrun2,by simp,hi2,hst,fun k hk=>hk.elim (hFn2 k) fun hk=>hk.elim (fun hk=>(hG k hk).1) fun hk=>hk.elim (hF88 k) (hG2 k)⟩⟩,by show many-(acc2.length+1)<many-acc2.length;omega,.cons V<|.cons V<|.cons V<|.cons V<|.cons V<|.nil,Hp.weakX h1 fun u hu=>⟨?_,hu.2.2.2⟩⟩;have hk:=(hfix _ u hu.2.2.2.1.2).1;exact FnsV.append (FnsV.lies.mono (fun _ h=>.inl h) hu.2.2.1) (fnsK.one (f:=⟨f.name,f.params,r.1⟩) (a:=⟨af.A1,A88,af.c1,c88⟩) ⟨hk.p1,hcp,RdF.lies.mono (fun _ h=>.inr (.inl h)) hk.h1,⟨_,RdF.lies.mono (fun _ h=>.inr (.inr (.inr h))) hu.1,StsV.lies.mono (fun _ h=>.inr (.inr (.inl h))) hu.2.1⟩⟩)
  ·replace h51:=Jp h51;have hi2:acc2.length=many:=by omega
   rw[hi2,Nat.sub_self] at hrun2;have hrun3:(acc2,s.at_)=bdG l acc many [] a:=hrun2;rw[← hrun3] at hmade;have hmade':wI l=acc2:=hmade;refine xY<|zN<|zN<|xZ<|zQ<|zY<|Z6r 2 3 6 9 10 51 V V V V V V<|ZF V (yX 0 V V U32 V (by kernel_rfl)) ?_;refine ZR 2 V V V V V (by kernel_rfl) ?_;refine ZT<|zK<|yF V V 2 V U32 V (by kernel_rfl) (fun w hw=>?_);rw[hmade'];exact⟨A2,cap2,rfl,(Jq hw).ext,HpG.rowCp hw (j:=0) rfl,cs2,HpG.rowF hw (j:=0) rfl,FnsV.lies.mono hFn2 (HpG.x hw).1⟩
end Go.Proofs.YtfpkpnkdnammnaaGreatDoor
namespace Go.Proofs.YtfpkpnkdnammnaaGreatDoor
open Go.RowKit
theorem StsV.cell {F:Nat→Prop}{w:World}{l:List St}{cs:List Value}(h:StsV F w l cs):∀v∈cs,v.oneCell'=true:=by
 induction h with
 | nil=>intro v hv;cases hv
 | cons p1 p2 p3 h1 h2 h3 k1 k2 k3 h4 i2 i3 i4 =>
  intro v hv;rcases Kz.1 hv with hv|hv
  ·simp only[List.mem_cons,List.not_mem_nil,or_false] at hv;rcases hv with rfl|rfl|rfl|rfl|rfl<;>rfl
  ·exact i4 v hv
end Go.Proofs.YtfpkpnkdnammnaaGreatDoor
