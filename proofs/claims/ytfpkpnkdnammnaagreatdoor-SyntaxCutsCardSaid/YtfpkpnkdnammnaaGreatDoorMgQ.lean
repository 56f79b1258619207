import Derived.Test.YtfpkpnkdnammnaaGreatDoorMgY
import Derived.Test.YtfpkpnkdnammnaaGreatDoorMgI
import Derived.Test.YtfpkpnkdnammnaaGreatDoorMgK
import Derived.Test.YtfpkpnkdnammnaaGreatDoorMgL
import Derived.Test.YtfpkpnkdnammnaaGreatDoorSxN
import Derived.Test.YtfpkpnkdnammnaaGreatDoorSyX
set_option maxRecDepth 100000
set_option maxHeartbeats 4000000
namespace Go.Proofs.YtfpkpnkdnammnaaGreatDoor
open Go.RowKit
structure GM where
 (lA:Option Addr)
 (lc:Nat)
 (nA:Option Addr)
 (nc:Nat)
 (fA:Option Addr)
 (fc:Nat)
 (fcs:List Value)
abbrev gC (M:GM) (E:GE) (s:GS):List Value:=[.slice M.lA E.l.length M.lc,.int .i64 s.at_,.int .i64 s.left,.int .i64 s.nodes,.slice M.nA s.names.length M.nc,.int .i64 s.vars,.int .i64 E.me,.slice M.fA E.fs.length M.fc]
abbrev gO (M:GM) (E:GE) (s:GS):Obj:=bk 71 (gC M E s)
def qC (l:List Int):List Value:=l.map (.int .i64)
@[simp] theorem ints_len (l:List Int):(qC l).length=l.length:=by simp[qC]
structure GX (M:GM) (l:List Int) (nm:List Bs) (fs:List Fn) (F:Nat→Prop) (u:World):Prop where
 l:RdF F M.lA (qC l) u
 nm:RdF F M.nA (xX nm) u
 fr:RdF F M.fA M.fcs u
 fs:FnsV F u fs M.fcs
theorem GX.lies {M:GM}{l:List Int}{nm:List Bs}{fs:List Fn}:Lies fun F u=>GX M l nm fs F u :=
 ⟨fun hk ⟨a,b,d,e⟩=>⟨RdF.lies.foot hk a,RdF.lies.foot hk b,RdF.lies.foot hk d,FnsV.lies.foot hk e⟩,fun ⟨a,b,d,e⟩=>⟨RdF.lies.lt a,RdF.lies.lt b,RdF.lies.lt d,FnsV.lies.lt e⟩,fun hF ⟨a,b,d,e⟩=>⟨RdF.lies.mono hF a,RdF.lies.mono hF b,RdF.lies.mono hF d,FnsV.lies.mono hF e⟩⟩
theorem Hp.startG {g:Nat}{o:Obj}{w:World}{T:(Nat→Prop)→World→Prop}(hT:Lies T) {F:Nat→Prop}(hF:∀k,F k→k≠g) (h:T F w) (hb:w.heap[g]? = some o):Hp (fun k=>k=g) w [(g,o)] [] (T F) w :=
 Hp.startB hb ⟨fun k=>F k∧k<w.heap.size,fun k hk=>⟨hk.2,hF k hk.1⟩,fun u hu=>hT.mono (fun _ hk=>hk.1) (hT.foot (F:=fun k=>F k∧k<w.heap.size) hu (hT.lt h))⟩
theorem Lies.keep {T:(Nat→Prop)→World→Prop}(hT:Lies T) {F K:Nat→Prop}{w w':World}(h:T F w) (hk:Keep K w w') (hF:∀k,F k→¬K k):T F w' :=
 hT.mono (fun _ h=>h.1) (hT.foot (F:=fun k=>F k∧k<w.heap.size) (fun k h=>hk.block k h.2 (hF k h.1)) (hT.lt h))
def GJ (M:GM) (E:GE) (nm:List Bs) (bp:Nat) (u:World):Prop:=∃s:GS,s.names=nm∧u.heap[bp]? = some (gO M E s)
theorem GJ.stab {M:GM}{E:GE}{nm:List Bs}{bp:Nat}:vA (GJ M E nm bp):=fun w ob ⟨s,h1,h2⟩=>⟨s,h1,Blk.stab w ob h2⟩
section
variable {M:GM}{E:GE}{nm:List Bs}{bp:Nat}{u:World}
theorem GJ.c4 (h:GJ M E nm bp u):u.cell? ⟨bp,4,none⟩=some (.slice M.nA nm.length M.nc):=by
 obtain⟨s,rfl,h⟩:=h;rw[cell_of_row u bp _ _ _ _ h];rfl
theorem GJ.c6 (h:GJ M E nm bp u):u.cell? ⟨bp,6,none⟩=some (.int .i64 E.me):=by
 obtain⟨s,rfl,h⟩:=h;rw[cell_of_row u bp _ _ _ _ h];rfl
theorem GJ.c7 (h:GJ M E nm bp u):u.cell? ⟨bp,7,none⟩=some (.slice M.fA E.fs.length M.fc):=by
 obtain⟨s,rfl,h⟩:=h;rw[cell_of_row u bp _ _ _ _ h];rfl
end
section
variable {P:Program}{ops:Array Oper}{Q:Exit→Act→World→Prop}{n:Nat}{m:List (Nat×Value)}{ty:TypeId}{G B:Nat→Prop}{w0:World}{L:List (Nat×Obj)}{R:List Rw}{X:World→Prop}{J:World→Prop}{σ:List Nat}{ι:Type}{C:ι→Prop}{d:Nat}{pos:String}{af:Array Edge}{gd:Option (Nat×Bool)}{f:FuncId}{args:List Operand}{ats:Array TypeId}{vs:List Value}{g:Nat}{ob:Obj}
theorem wd_turnJ {val:ι→Value}{ob':ι→Obj}(hg:Gd ops m gd) (hd:Nat.blt d n=true) (k:Nat) (hf:goes P f=true) (ha:evl m args=some vs) (hk:L[k]? = some (g,ob))
  (hJ:∀w w' i,HpG G B w0 L R X w→J w→Keep (fun j=>j=g) w w'→w'.heap[g]? = some (ob' i)→J w')
  (hC:∀w,w.heap[g]? = some ob→HpG G B w0 L R X w→Calls P f vs.toArray w fun e w'=>∃i,C i∧e=.returned (val i)∧Keep (fun j=>j=g) w w'∧w'.heap[g]? = some (ob' i))
  (h:∀i,C i→WD P ops J Q σ G n ((d,val i)::m) (HpG G B w0 (L.set k (g,ob' i)) R X)):WDo P ops J Q ⟨some d,.call { callee:=.value (.func f),args:=args.toArray,argTypes:=ats },ty,pos,af,gd⟩ σ G n m (HpG G B w0 L R X) :=
 wd_chain (ι:={i // C i}) (val:=fun i=>val i.1) (H':=fun i=>HpG G B w0 (L.set k (g,ob' i.1)) R X) rfl (fun _ _ e=>by cases e) hg hd (fun _=>Ky)
  (fun _ w _ _ _ _ hs hw hj=>(ch_call hs hf ha ((hC w (hw.own _ (Ju hk)) hw).mono fun _ _ ⟨i,c,e1,e2,e3⟩=>⟨_,e1,⟨⟨i,c⟩,rfl,e2,e3⟩⟩)).mono
   (R:=fun v w'=>∃i:{i // C i},v=val i.1∧Keep (fun j=>j=g) w w'∧w'.heap[g]? = some (ob' i.1)) fun v w' ⟨i,e1,e2,e3⟩ =>
    ⟨e2.mono fun j _ hjg=>by subst hjg;exact hw.inG j (List.mem_append_left _ (List.mem_map.2 ⟨_,Ju hk,rfl⟩)),hJ w w' _ hw hj e2 e3,i,e1,hw.turn hk e2 e3⟩) fun i=>h i.1 i.2
end
theorem ints_at {l:List Int}{i:Nat}(h:i<l.length):(qC l)[i]? = some (.int .i64 (l.getD i 0)):=by
 simp[qC,List.getElem?_map,Jt h,Ka]
theorem gnext_any (M:GM) (E:GE) (s:GS) (k:Nat) (h0:0<k) (h1:k≤1000000) (hl:E.l.length≤9223372036854775807) (hs:s.at_≤E.l.length) {F:Nat→Prop}(bp:Nat) (hF:∀k,F k→k≠bp) (w_0:World) (hb:w_0.heap[bp]? = some (gO M E s)) (hX:RdF F M.lA (qC E.l) w_0) :
  Calls Tryz.prog 39 #[.pointer (some ⟨bp,0,none⟩),.int .i64 k] w_0 fun e w'=>e=.returned (.int .i64 (s.v E k))∧Keep (fun j=>j=bp) w_0 w'∧w'.heap[bp]? = some (gO M E (s.nx E)):=by
 have hA:s.at_<E.l.length→∃b off,M.lA=some ⟨b,off,none⟩:=fun h0=>by
  obtain⟨b,off,e,_⟩:=hX (by rw[ints_len];omega);exact⟨b,off,e⟩
 refine yV (args:=[.pointer (some ⟨bp,0,none⟩),.int .i64 k]) Tryz.func39 V 35 V (Jn V)<|Z2 0 1 V V<|zD (H':=Hp (fun k=>k=bp) w_0 [(bp,gO M E s)] [] (RdF F M.lA (qC E.l))) (fun u hu=>?_) ?_
 ·subst hu;exact Hp.startG RdF.lies hF hX hb
 refine zY<|zX<|Za V V<|ZX<|zY<|wc_draw0 [0,1,2,3,4,5,6,7,8,9] _ (by kernel_rfl) (by kernel_rfl) Ky Ky (fun _ h=>HpG.drew h) (fun _ h=>h) ?_;refine Zd V V V (zO V)<|Zd V V V (yR V)<|Zd V V V (Y71x1 V) ?_;refine Zd V V V (zW 0 V V V U3 V)<|Zd V V V (zO V)<|Zd V V V (yR V)<|Zd V V V (zZ (off:=0) (sz:=0) V Tryz.underlying71 (by kernel_rfl) V) ?_;refine Zd V V V (zW 0 V V V U26 V)<|Zd V V V (yM V U26)<|Zd V V V (tO V V)<|wd_end<|zQ<|zT V (fun h14=>?_) (fun h14=>?_)
 ·replace h14:=Jo h14;have hn:¬s.at_<E.l.length:=by omega
  have hv:s.v E k=0:=Ko hn;have he:s.nx E=s:=by show ({ s with at_:=nxA E.l s.at_ }:GS)=s;rw[show nxA E.l s.at_=s.at_ from Ko hn]
  refine zY<|Z4r 0 1 4 14 V V V V<|Za V V<|ZT<|zK<|zV<|zI V V (fun w hw=>?_);exact⟨by rw[hv];rfl,Jq hw,by rw[he];exact HpG.blkL (j:=0) hw rfl⟩
 ·replace h14:=Jp h14;have hn:s.at_<E.l.length:=by omega
  obtain⟨b,off,hlA⟩:=hA hn;have ha:nxA E.l s.at_=s.at_+1:=Kp hn;have hsum:IntKind.i64.wrap ((s.at_:Int)+1)=((nxA E.l s.at_:Nat):Int):=by rw[ha];exact i64_in ((s.at_+1:Nat):Int) (by omega) (by omega)
  have hsub:IntKind.i64.wrap (((nxA E.l s.at_:Nat):Int)-1)=(s.at_:Int):=by rw[ha,show (((s.at_+1:Nat):Int)-1)=(s.at_:Int) by omega];exact i64_in _ (by omega) (by omega)
  have hv:E.l.getD s.at_ 0%(k:Int)=((s.v E k:Nat):Int):=by
   show _=((nxV E.l s.at_ k:Nat):Int);unfold nxV;rw[Kp hn];have:=Int.emod_nonneg (E.l.getD s.at_ 0) (show (k:Int)≠0 by omega);omega
  refine zG<|zQ<|zY<|Z4r 0 1 4 14 V V V V<|Zm V V<|Zn V V<|ZF V (Y71x1 V) ?_;refine ZF V (zW 0 V V V U3 V)<|ZF V (yI V V hsum)<|Zn V V<|ZF V (Y71x1 V) ?_;refine ZS 0 V V V V V (by kernel_rfl) ?_;refine ZX<|Z4 0 1 4 14 V V V V<|wc_drawN [0,1,2,3,4,5,6,7,8,9,10,11,12,13] (fun u=>Blk bp (gO M E (s.nx E)) u∧RdF F M.lA (qC E.l) u) (by kernel_rfl) (by kernel_rfl) (fun u ob h=>⟨Blk.stab u ob h.1,RdF.lies.ext h.2 (Ext.alloc (Ext.refl u) ob)⟩) (fun w h=>⟨HpG.blk h (k:=0) rfl,HpG.x h⟩) (fun n0 hn0=>?_);refine Zd V V V (zO V)<|Zd V V V (yR V)<|Zd V V V (zZ (off:=0) (sz:=0) V Tryz.underlying71 (by kernel_rfl) V) ?_;refine Zd V V V (yO (v:=.slice (some ⟨b,off,none⟩) E.l.length M.lc) V U26 V (fun u h=>by rw[cell_of_row u bp _ _ _ _ h.1,← hlA];rfl)) ?_;refine Zd V V V (zO V)<|Zd V V V (yR V)<|Zd V V V (Y71x1 V) ?_;refine Zd V V V (yO (v:=.int .i64 ((nxA E.l s.at_:Nat):Int)) V U3 V (fun u h=>by rw[cell_of_row u bp _ _ _ _ h.1];rfl)) ?_;refine Zd rfl rfl rfl (wG rfl rfl hsub)<|Zd rfl rfl rfl (zJ (es:=1) rfl rfl U26 (by kernel_rfl) rfl (by first|decide|omega|(simp;done)|(simp;omega)) rfl) ?_;refine Zd V V V (yO (v:=.int .i64 (E.l.getD s.at_ 0)) V U3 V (fun w h=>RdF.part (hlA▸h.2) (by rw[ints_len];exact hn) (by omega) (ints_at hn))) ?_;refine Zd V V V (zO V)<|xF V<|sM .none V  (v:=.int .i64 ((s.v E k:Nat):Int)) (by kernel_rfl) V (fun w w' h hx=>⟨Blk.onE h.1 hx,RdF.lies.ext h.2 hx⟩) (fun w hw=>by rw[← hv];exact mod_any _ _ (by omega) (by omega) w) ?_;refine Zd V V V (tW V)<|wd_endH<|zQ<|zK<|zI V V (fun w hw=>?_);exact⟨rfl,Jq hw,HpG.blkL (j:=0) hw rfl⟩
end Go.Proofs.YtfpkpnkdnammnaaGreatDoor
namespace Go.Proofs.YtfpkpnkdnammnaaGreatDoor
open Go.RowKit
section
variable {ops:Array Oper}{Q:Exit→Act→World→Prop}{J:World→Prop}{σ:List Nat}{n:Nat}{m:List (Nat×Value)}{ty:TypeId}{G B:Nat→Prop}{w0:World}{L:List (Nat×Obj)}{R:List Rw}{X:World→Prop}{rest:List Oper}{d:Nat}{pos:String}{af:Array Edge}{gd:Option (Nat×Bool)}{args:List Operand}{ats:Array TypeId}{F:Nat→Prop}
theorem tN (M:GM) (E:GE) (s:GS) (v:Nat) (bp:Nat) (k:Nat) (h0:0<v) (h1:v≤1000000) (hl:E.l.length≤9223372036854775807) (hs:s.at_≤E.l.length) (hF:∀k,F k→k≠bp) (hX:∀w,X w→RdF F M.lA (qC E.l) w) (hg:Gd ops m gd) (hd:Nat.blt d n=true) (ha:evl m args=some [.pointer (some ⟨bp,0,none⟩),.int .i64 v]) (hk:L[k]? = some (bp,gO M E s))
  (h:WL Tryz.prog ops Q rest n ((d,.int .i64 (s.v E v))::m) (HpG G B w0 (L.set k (bp,gO M E (s.nx E))) R X)):WL Tryz.prog ops Q (⟨some d,.call { callee:=.value (.func 39),args:=args.toArray,argTypes:=ats },ty,pos,af,gd⟩::rest) n m (HpG G B w0 L R X) :=
 vV (ι:=Unit) (C:=fun _=>True) (val:=fun _=>.int .i64 (s.v E v)) (ob':=fun _=>gO M E (s.nx E)) hg hd k (by kernel_rfl) ha hk (fun w hb hw=>(gnext_any M E s v h0 h1 hl hs bp hF w hb (hX w hw.x)).mono fun _ _ ⟨e1,e2,e3⟩=>⟨(),trivial,e1,e2,e3⟩) fun _ _=>h
theorem wd_nx (M:GM) (E:GE) (s:GS) (v:Nat) (bp:Nat) (k:Nat) (h0:0<v) (h1:v≤1000000) (hl:E.l.length≤9223372036854775807) (hs:s.at_≤E.l.length) (hF:∀k,F k→k≠bp) (hX:∀w,X w→RdF F M.lA (qC E.l) w)
  (hJ:∀w w',HpG G B w0 L R X w→J w→Keep (fun j=>j=bp) w w'→w'.heap[bp]? = some (gO M E (s.nx E))→J w') (hg:Gd ops m gd) (hd:Nat.blt d n=true) (ha:evl m args=some [.pointer (some ⟨bp,0,none⟩),.int .i64 v]) (hk:L[k]? = some (bp,gO M E s))
  (h:WD Tryz.prog ops J Q σ G n ((d,.int .i64 (s.v E v))::m) (HpG G B w0 (L.set k (bp,gO M E (s.nx E))) R X)):WDo Tryz.prog ops J Q ⟨some d,.call { callee:=.value (.func 39),args:=args.toArray,argTypes:=ats },ty,pos,af,gd⟩ σ G n m (HpG G B w0 L R X) :=
 wd_turnJ (ι:=Unit) (C:=fun _=>True) (val:=fun _=>.int .i64 (s.v E v)) (ob':=fun _=>gO M E (s.nx E)) hg hd k (by kernel_rfl) ha hk (fun w w' _ h1 h2 h3 h4=>hJ w w' h1 h2 h3 h4) (fun w hb hw=>(gnext_any M E s v h0 h1 hl hs bp hF w hb (hX w hw.x)).mono fun _ _ ⟨e1,e2,e3⟩=>⟨(),trivial,e1,e2,e3⟩) fun _ _=>h
end
def GePost (M:GM) (E:GE) (bp:Nat) (w:World) (p:Ex×GS) (e:Ending) (w':World):Prop:=∃A cap,e=.returned (.agg (xL p.1 A cap).toArray)∧Keep (fun j=>j=bp) w w'∧w'.heap[bp]? = some (gO M E p.2)∧xT (fun k=>w.heap.size≤k) w' p.1 A cap
theorem getD_is {α:Type}{l:List α}{i:Nat}(h:i<l.length) (x:α):l[i]? = some (l.getD i x):=by
 rw[Ka,Jt h];rfl
def u32v (l:List Nat):List Value:=l.map fun (v:Nat)=>Value.int .u32 (v:Int)
theorem u32v_at {l:List Nat}{i:Nat}(h:i<l.length):(u32v l)[i]? = some (.int .u32 ((l.getD i 0:Nat):Int)):=by
 rw[u32v,List.getElem?_map,getD_is h 0];rfl
theorem uR {l:List Bs}{i:Nat}(h:i<l.length):(xX l)[i]? = some (.string ⟨(l.getD i []).toArray⟩):=by
 rw[xX,List.getElem?_map,getD_is h []];rfl
theorem xT.leaf {F:Nat→Prop}{w:World}{k n:Nat}{s:Bs}:xT F w (.mk k n s []) none 0:=⟨uV,[],RdF.nil,.nil⟩
theorem constant_any (M:GM) (E:GE) (s:GS) (hl:E.l.length≤9223372036854775807) (hs:s.at_≤E.l.length) {F:Nat→Prop}(bp:Nat) (hF:∀k,F k→k≠bp) (w_0:World) (hb:w_0.heap[bp]? = some (gO M E s)) (hX:RdF F M.lA (qC E.l) w_0) :
  Calls Tryz.prog 115 #[.pointer (some ⟨bp,0,none⟩)] w_0 (GePost M E bp w_0 (conG E s)):=by
 have hi:s.v E 15<conL.length:=wU _ _ (by decide);have hi2:s.v E 15<15:=hi;refine yV (args:=[.pointer (some ⟨bp,0,none⟩)]) Tryz.func115 V 13 V (Jn V)<|Z1 0 V<|zD (H':=Hp (fun k=>k=bp) w_0 [(bp,gO M E s)] [] (RdF F M.lA (qC E.l))) (fun u hu=>?_) ?_
 ·subst hu;exact Hp.startG RdF.lies hF hX hb
 refine zY<|zX<|zC .none V (yK (z:=.agg #[.int .i64 0,.int .u32 0,.string ⟨#[]⟩,.slice none 0 0]) (cs:=Je) (by kernel_rfl) V) (fun b2=>?_);refine ZX<|zX<|zC .none V (wM (z:=.int .u32 0) V V V V Tryz.underlying169 (by kernel_rfl) (by kernel_rfl) V V) (fun b4=>?_);refine Za V V<|ZX<|Z3r 0 2 3 V V V<|Zm V V<|Zm V V<|Zm V V<|ZF V (yM V Tryz.underlying169)<|tN M E s 15 bp 2 (by decide) (by decide) hl hs hF (fun _ h=>h) .none V  V V ?_;refine ZF rfl (zJ (es:=1) rfl rfl Tryz.underlying169 (by kernel_rfl) rfl (by first|decide|omega|(simp;done)|(simp;omega)) rfl) ?_;refine ZF V (zW (v:=.int .u32 ((conL.getD (s.v E 15) 0:Nat):Int)) 0 V V (by rw[Kk,Nat.mul_one];exact u32v_at hi) U50 V) ?_;refine ZF V (yQ [.int .i64 0,.int .u32 0,.string ⟨#[]⟩,.slice none 0 0] [(0,1),(1,1),(2,1),(3,1)] V (by kernel_rfl) (by kernel_rfl) V) ?_;refine ZR 1 V V V V V (by kernel_rfl) ?_;refine ZT<|zK<|yF V V 1 V U57 V (by kernel_rfl) (fun w hw=>?_);exact⟨none,0,rfl,Jq hw,HpG.blkL (j:=2) hw rfl,xT.leaf⟩
structure GOk (E:GE) (c:Nat) (s:GS):Prop where
 at_:s.at_≤E.l.length
 lo:-1000000≤s.nodes-c
 hi:s.nodes≤1000
 nm:s.names.length≤1000
theorem GOk.step {E:GE}{c d:Nat}{s t:GS}(h:GOk E (c+d) s) (k:EL E c s t):GOk E d t :=
 ⟨k.at_ h.at_,by have:=h.lo;have:=k.lo;omega,by have:=h.hi;have:=k.hi;omega,by rw[k.nm];exact h.nm⟩
theorem GOk.mono {E:GE}{c d:Nat}{s:GS}(h:GOk E c s) (hcd:d≤c):GOk E d s:=⟨h.at_,by have:=h.lo;omega,h.hi,h.nm⟩
def GeOk (E:GE) (rec:GS→Ex×GS) (c:Nat) (dp:Int):Prop:=∀(M:GM) (s:GS) (F:Nat→Prop) (bp:Nat) (w:World),GOk E c s→(∀k,F k→k≠bp)→w.heap[bp]? = some (gO M E s)→GX M E.l s.names E.fs F w→Calls Tryz.prog 74 #[.pointer (some ⟨bp,0,none⟩),.int .i64 dp] w (GePost M E bp w (rec s))
section
variable {ops:Array Oper}{Q:Exit→Act→World→Prop}{J:World→Prop}{σ:List Nat}{n:Nat}{m:List (Nat×Value)}{ty:TypeId}{G B:Nat→Prop}{w0:World}{L:List (Nat×Obj)}{R:List Rw}{X:World→Prop}{rest:List Oper}{d:Nat}{pos:String}{af:Array Edge}{gd:Option (Nat×Bool)}{f:FuncId}{args:List Operand}{ats:Array TypeId}{vs:List Value}
theorem qL (M:GM) (E:GE) (s:GS) (p:Ex×GS) (bp:Nat) (k:Nat) (hB:∀k,B k→k<w0.heap.size) (hC:∀w,w.heap[bp]? = some (gO M E s)→Hp B w0 L R X w→Calls Tryz.prog f vs.toArray w (GePost M E bp w p)) (hg:Gd ops m gd) (hd:Nat.blt d n=true) (hf:goes Tryz.prog f=true) (ha:evl m args=some vs) (hk:L[k]? = some (bp,gO M E s))
  (h:∀A cap F,(∀k,F k→w0.heap.size≤k)→WL Tryz.prog ops Q rest n ((d,.agg (xL p.1 A cap).toArray)::m) (Hp B w0 (L.set k (bp,gO M E p.2)) R (fun u=>xT F u p.1 A cap∧X u))) :
  WL Tryz.prog ops Q (⟨some d,.call { callee:=.value (.func f),args:=args.toArray,argTypes:=ats },ty,pos,af,gd⟩::rest) n m (Hp B w0 L R X) :=
 pH (ι:=Option Addr×Nat) (C:=fun _=>True) (val:=fun i=>.agg (xL p.1 i.1 i.2).toArray) (obi:=fun _=>gO M E p.2) (TT:=fun i F u=>xT F u p.1 i.1 i.2) hg hd k hf ha hk hB (fun _=>xT.lies)
  (fun w h1 hw=>(hC w h1 hw).mono fun _ _ ⟨A,cap,e1,e2,e3,e4⟩=>⟨(A,cap),trivial,e1,e2,e3,e4⟩) fun i F _ hF=>h i.1 i.2 F hF
theorem wd_ge (M:GM) (E:GE) (s:GS) (p:Ex×GS) (bp:Nat) (k:Nat) (hB:∀k,B k→k<w0.heap.size) (hJ:∀w w',HpG G B w0 L R X w→J w→Keep (fun j=>j=bp) w w'→J w') (hC:∀w,w.heap[bp]? = some (gO M E s)→HpG G B w0 L R X w→Calls Tryz.prog f vs.toArray w (GePost M E bp w p)) (hg:Gd ops m gd) (hd:Nat.blt d n=true) (hf:goes Tryz.prog f=true) (ha:evl m args=some vs) (hk:L[k]? = some (bp,gO M E s))
  (h:∀A cap F,(∀k,F k→w0.heap.size≤k)→WD Tryz.prog ops J Q σ (fun j=>F j∨G j) n ((d,.agg (xL p.1 A cap).toArray)::m) (HpG (fun j=>F j∨G j) B w0 (L.set k (bp,gO M E p.2)) R (fun u=>xT F u p.1 A cap∧X u))) :
  WDo Tryz.prog ops J Q ⟨some d,.call { callee:=.value (.func f),args:=args.toArray,argTypes:=ats },ty,pos,af,gd⟩ σ G n m (HpG G B w0 L R X) :=
 wd_callT (ι:=Option Addr×Nat) (C:=fun _=>True) (val:=fun i=>.agg (xL p.1 i.1 i.2).toArray) (obi:=fun _=>gO M E p.2) (TT:=fun i F u=>xT F u p.1 i.1 i.2) hg hd k hf ha hk hB (fun _=>xT.lies) hJ
  (fun w h1 hw=>(hC w h1 hw).mono fun _ _ ⟨A,cap,e1,e2,e3,e4⟩=>⟨(A,cap),trivial,e1,e2,e3,e4⟩) fun i F _ hF=>h i.1 i.2 F hF
end
theorem gp_lt {M:GM}{E:GE}{s:GS}{bp:Nat}{w:World}(hb:w.heap[bp]? = some (gO M E s)):∀k,k=bp→k<w.heap.size:=fun k hk=>by subst hk;exact (Jv.1 hb).1
end Go.Proofs.YtfpkpnkdnammnaaGreatDoor
namespace Go.Proofs.YtfpkpnkdnammnaaGreatDoor
open Go.RowKit
structure KiJ where
 i:Nat
 acc:List Ex
 s:GS
 A:Option Addr
 cap:Nat
 xs:List Value
 F:Nat→Prop
structure KiOk (E:GE) (rec:GS→Ex×GS) (c n0 n:Nat) (s0:GS) (j:KiJ):Prop where
 run:uK rec (n-j.i) j.acc j.s=uK rec n [] s0
 len:j.acc.length=j.i
 le:j.i≤n
 ok:GOk E ((n-j.i)*c) j.s
 nm:j.s.names=s0.names
 cap:j.i≤j.cap
 F:∀k,j.F k→n0≤k
theorem gcall_any (M:GM) (E:GE) (s0:GS) (f:Fn) (a:FnA) (rec:GS→Ex×GS) (c:Nat) (dp:Int) (hdp:0<dp) (hdp2:dp≤1000) (hr:∀s,EL E c s (rec s).2) (hrec:GeOk E rec c (dp-1)) (hok:GOk E (4*c) s0) (hf:f.params.length≤4) {F:Nat→Prop}(bp:Nat) (hF:∀k,F k→k≠bp) (w_0:World) (hb:w_0.heap[bp]? = some (gO M E s0)) (hX:GX M E.l s0.names E.fs F w_0) :
  Calls Tryz.prog 75 #[.pointer (some ⟨bp,0,none⟩),.agg (rG f a).toArray,.int .i64 dp] w_0 (GePost M E bp w_0 (tC rec f s0)):=by
 unfold tC;obtain⟨nm,ps,bd⟩:=f;obtain⟨A1,A2,c1,c2⟩:=a;dsimp only at hf ⊢;show Calls Tryz.prog 75 #[.pointer (some ⟨bp,0,none⟩),.agg (fnC nm A1 ps.length c1 A2 bd.length c2).toArray,.int .i64 dp] w_0 _;generalize hn:ps.length=np at hf ⊢;refine yV (args:=[.pointer (some ⟨bp,0,none⟩),.agg (fnC nm A1 np c1 A2 bd.length c2).toArray,.int .i64 dp]) Tryz.func75 V 29 V (Jn V)<|Z3 0 1 2 V V V<|zD (H':=Hp (fun k=>k=bp) w_0 [(bp,gO M E s0)] [] (GX M E.l s0.names E.fs F)) (fun u hu=>?_) ?_
 ·subst hu;exact Hp.startG GX.lies hF hX hb
 refine zY<|zX<|zC .none V (vY V V) (fun b4=>?_);refine zC .none V (yK (z:=.agg #[.int .i64 0,.int .u32 0,.string ⟨#[]⟩,.slice none 0 0]) (cs:=Je) (by kernel_rfl) V) (fun b6=>?_);refine ZX<|zX<|ZF V (Y62x0 V) ?_;refine ZF V (zW 1 V V V U9 V)<|ZF V (yQ [.int .i64 0,.int .u32 0,.string ⟨#[]⟩,.slice none 0 0] [(0,1),(1,1),(2,1),(3,1)] V (by kernel_rfl) (by kernel_rfl) V) ?_;refine zC .none V (yK (z:=.agg #[.int .i64 0,.int .u32 0,.string ⟨#[]⟩,.slice none 0 0]) (cs:=Je) (by kernel_rfl) V) (fun b7=>?_);refine ZR 0 V V V V V (by kernel_rfl) ?_;refine ZX<|zY<|Z6r 0 1 2 4 6 7 V V V V V V<|Za V V<|ZT<|yY<|xV (ι:={j:KiJ // KiOk E rec c w_0.heap.size np s0 j}) (fun j=>[(0,.pointer (some ⟨bp,0,none⟩)),(2,.int .i64 dp),(4,.pointer (some ⟨b4,0,none⟩)),(6,.pointer (some ⟨b6,0,none⟩)),(7,.pointer (some ⟨b7,0,none⟩)),(8,.int .i64 j.1.i)]) (fun j=>Hp (fun k=>k=bp) w_0 [(b7,bk 57 (exC 3 0 nm j.1.A j.1.i j.1.cap)),(b6,bk 57 (exC 0 0 [] none 0 0)),(b4,bk 62 (fnC nm A1 np c1 A2 bd.length c2)),(bp,gO M E j.1.s)] [⟨.slice j.1.A j.1.i j.1.cap,57,4,j.1.i,j.1.xs⟩] (fun u=>ExsV j.1.F u j.1.acc j.1.xs∧GX M E.l s0.names E.fs F u)) (fun j=>np-j.1.i) ⟨⟨0,[],s0,none,0,[],fun _=>False⟩,⟨rfl,rfl,Kl _,hok.mono (Nat.mul_le_mul_right c (by omega)),rfl,Km _,fun _ h=>h.elim⟩⟩ ?_ ?_ (fun j=>?_)
 ·exact .cons V<|.cons V<|.cons V<|.cons V<|.cons V<|.cons V<|.nil
 ·exact fun w h=>Hp.nil (Hp.weakX h fun u hu=>⟨.nil,hu⟩) _ _
 obtain⟨⟨i,acc,s,A,cap,xs,F1⟩,⟨hrun,hlen,hle,hko,hnm,hcap,hF1⟩⟩:=j;dsimp only at hrun hlen hle hko hnm hcap hF1 ⊢;refine zY<|zY<|zX<|Zm V V<|ZF V (Y62x1 V) ?_;refine ZF V (zW 2 V V V U22 V)<|ZF V (yM V U22)<|ZF V (xS V V)<|ZT<|zT V (fun hc=>?_) (fun hc=>?_)
 ·replace hc:=Jo hc;have hi:i<np:=by omega
  have hsub:np-i=np-(i+1)+1:=by omega
  rw[hsub] at hrun hko;have hko':GOk E c s:=hko.mono (by rw[Nat.succ_mul];omega);have hkn:GOk E ((np-(i+1))*c) (rec s).2:=GOk.step (by rw[Nat.succ_mul,Nat.add_comm] at hko;exact hko) (hr s);refine zG<|zQ<|zY<|yY<|Z7 0 2 4 6 7 8 16 V V V V V V V<|wR 7 [0,1,2,3,4,5,6] (Blk b7 (bk 57 (exC 3 0 nm A i cap))) (by kernel_rfl) (by kernel_rfl) Blk.stab (fun w h=>HpG.blk h (k:=0) V) (fun n0 hn0=>?_);refine Zd V V V (Y57x3 V) ?_;refine Zd V V V (uH V V U55 V)<|Zd V V V (zO V)<|Zd V V V (zO V)<|Zd V V V (wG V V (i64_in _ (by omega) (by omega))) ?_;refine xF V<|wd_ge M E s (rec s) bp 3 (gp_lt hb) (fun w w' h1 h2 hK=>h2.keep hK (HpG.ne h1 (i:=0) (j:=3) V V V)) (fun w h1 h2=>hrec M s F bp w hko' hF h1 (by rw[hnm];exact (HpG.x h2).2)) .none V  (by kernel_rfl) V V (fun A2 cap2 F2 hF2=>?_);refine xF V<|tA ?_ .none V (fun k hk=>.inr (Jx hk hn0)) (xR (z:=.agg #[.int .i64 0,.int .u32 0,.string ⟨#[]⟩,.slice none 0 0]) V V U55 (by kernel_rfl) (by kernel_rfl) V V) (fun b25 hb25=>?_)
  ·rfl
  refine wL ?_;simp only[Jz,Ke];refine wl_appendL (z:=.agg #[.int .i64 0,.int .u32 0,.string ⟨#[]⟩,.slice none 0 0]) (bytes:=56) 0 0 .none V V V V V U55 (by kernel_rfl) V V V V (by omega) (by omega) (by omega) (fun a26 c26 h26=>?_);refine ZF V (Y57x3 V) ?_;refine ZS 1 V V V V V (by kernel_rfl) ?_;refine zU<|zM<|zQ<|Z7r 0 2 4 6 7 8 16 V V V V V V V<|Zm V V<|ZF V (yI V V (i64_in _ (by omega) (by omega))) ?_;refine Za V V<|zU<|yC (ι:={j:KiJ // KiOk E rec c w_0.heap.size np s0 j}) ⟨⟨i+1,acc++[(rec s).1],(rec s).2,a26,c26,xs++xL (rec s).1 A2 cap2,fun k=>F1 k∨F2 k⟩,⟨hrun,by rw[Ji,hlen];rfl,hi,hkn,(hr s).nm.trans hnm,h26,fun k hk=>hk.elim (hF1 k) (hF2 k)⟩⟩ (by show np-(i+1)<np-i;omega) (O6 V V V V V V) (fun w h=>?_);exact Hp.weakX (Hp.drop h (Js _ _) (Jr _)) fun u hu=>⟨ExsV.append (ExsV.lies.mono (fun _ h=>.inl h) hu.2.1) (ExsV.lies.mono (fun _ h=>.inr h) hu.1.one),hu.2.2⟩
 ·replace hc:=Jp hc;have hi:i=np:=by omega
  subst hi;rw[Nat.sub_self] at hrun;refine xY<|zN<|zN<|xZ<|zQ<|zY<|Z7r 0 2 4 6 7 8 16 V V V V V V V<|ZF V (yX 0 V V U57 V (by kernel_rfl)) ?_;refine ZR 1 V V V V V (by kernel_rfl) ?_;refine ZT<|zK<|yF V V 1 V U57 V (by kernel_rfl) (fun w hw=>?_);rw[← hrun];subst hlen;exact⟨A,cap,rfl,Jq hw,HpG.blkL (j:=3) hw rfl,HpG.rowCp (j:=0) hw rfl,_,HpG.rowF (j:=0) hw rfl,ExsV.lies.mono hF1 (HpG.x hw).1⟩
end Go.Proofs.YtfpkpnkdnammnaaGreatDoor
namespace Go.Proofs.YtfpkpnkdnammnaaGreatDoor
open Go.RowKit
section
variable {P:Program}{ops:Array Oper}{Q:Exit→Act→World→Prop}{n:Nat}
theorem wa_abs {k0:Nat}{l0:Array Bool}{m0:List (Nat×Value)}{H0:World→Prop}(h:∀W:Nat→Array Bool→List (Nat×Value)→(World→Prop)→Prop,(∀k l m H,W k l m H↔WA P ops Q k l n m H)→WA P ops Q k0 l0 n m0 H0):WA P ops Q k0 l0 n m0 H0:=h (fun k l m H=>WA P ops Q k l n m H) fun _ _ _ _=>Iff.rfl
theorem yH {W:Nat→Array Bool→List (Nat×Value)→(World→Prop)→Prop}(hW:∀k l m H,W k l m H↔WA P ops Q k l n m H) {k:Nat}{l l':Array Bool}{m m':List (Nat×Value)}{H H':World→Prop}(hl:l=l') (hp:Pr m m') (hH:∀w,H w→H' w) (h:W k l' m' H'):WA P ops Q k l n m H:=fun a w hs hw=>by
 subst hl;exact (hW _ _ _ _).1 h a w (hs.weak hp) (hH w hw)
theorem Hp.swapL {B:Nat→Prop}{w0 w:World}{L L':List (Nat×Obj)}{R:List Rw}{X:World→Prop}(h:Hp B w0 L R X w) (hp:L.Perm L'):Hp B w0 L' R X w:=by
 have hm:(L'.map (·.1)).Perm (L.map (·.1)):=(hp.map _).symm
 have hb:(wB L' R).Perm (wB L R):=by
  unfold wB;exact hm.append_right _
 obtain⟨F,hF,hX⟩:=h.foot;exact⟨h.keep,fun p hm=>h.own p (hp.mem_iff.2 hm),fun p hm=>h.mine p (hp.mem_iff.2 hm),h.rows,hb.nodup_iff.2 h.nd,fun _ _=>trivial,F,fun k hk=>⟨(hF k hk).1,(hF k hk).2.1,fun hm=>(hF k hk).2.2.1 (hb.mem_iff.1 hm),trivial⟩,hX⟩
theorem Hp.swapR {B:Nat→Prop}{w0 w:World}{L:List (Nat×Obj)}{R R':List Rw}{X:World→Prop}(h:Hp B w0 L R X w) (hp:R.Perm R'):Hp B w0 L R' X w:=by
 have hb:(wB L R').Perm (wB L R):=by
  unfold wB;exact (hp.symm.filterMap _).append_left _
 obtain⟨F,hF,hX⟩:=h.foot;exact⟨h.keep,h.own,h.mine,fun r hr=>h.rows r (hp.mem_iff.2 hr),hb.nodup_iff.2 h.nd,fun _ _=>trivial,F,fun k hk=>⟨(hF k hk).1,(hF k hk).2.1,fun hm=>(hF k hk).2.2.1 (hb.mem_iff.1 hm),trivial⟩,hX⟩
end
end Go.Proofs.YtfpkpnkdnammnaaGreatDoor
namespace Go.Proofs.YtfpkpnkdnammnaaGreatDoor
open Go.RowKit
def GK (M:GM) (E:GE) (nm:List Bs) (F:Nat→Prop) (bp:Nat) (u:World):Prop:=GJ M E nm bp u∧GX M E.l nm E.fs F u
theorem GK.stab {M:GM}{E:GE}{nm:List Bs}{F:Nat→Prop}{bp:Nat}:vA (GK M E nm F bp):=fun w ob ⟨h1,h2⟩=>⟨GJ.stab w ob h1,GX.lies.ext h2 (Ext.alloc (Ext.refl w) ob)⟩
theorem GK.turn {M:GM}{E:GE}{s:GS}{nm:List Bs}{F:Nat→Prop}{bp:Nat}{w w':World}(h:GK M E nm F bp w) (hF:∀k,F k→k≠bp) (hs:s.names=nm) (hk:Keep (fun j=>j=bp) w w') (hb:w'.heap[bp]? = some (gO M E s)):GK M E nm F bp w':=⟨⟨s,hs,hb⟩,GX.lies.keep h.2 hk hF⟩
theorem GX.nmA {M:GM}{l:List Int}{nm:List Bs}{fs:List Fn}{F:Nat→Prop}{u:World}(h:GX M l nm fs F u) (h0:0<nm.length):∃b off,M.nA=some ⟨b,off,none⟩:=by
 obtain⟨b,off,e,_⟩:=h.nm (by rw[strs_len];exact h0);exact⟨b,off,e⟩
theorem GX.fsA {M:GM}{l:List Int}{nm:List Bs}{fs:List Fn}{F:Nat→Prop}{u:World}(h:GX M l nm fs F u) (h0:0<fs.length):∃b off,M.fA=some ⟨b,off,none⟩:=by
 obtain⟨b,off,e,_⟩:=h.fr (by rw[h.fs.len];omega);exact⟨b,off,e⟩
theorem gexpr_step (M:GM) (E:GE) (hE:E.Ok) (s0:GS) (dn:Nat) (rec:GS→Ex×GS) (c:Nat) (hdn:dn≤1000) (hr:∀s,EL E c s (rec s).2) (hrec:2≤dn→GeOk E rec c ((dn:Int)-1)) (hok:GOk E (1+4*c) s0) {F:Nat→Prop}(bp:Nat) (hF:∀k,F k→k≠bp) (w_0:World) (hb:w_0.heap[bp]? = some (gO M E s0)) (hX:GX M E.l s0.names E.fs F w_0) :
  Calls Tryz.prog 74 #[.pointer (some ⟨bp,0,none⟩),.int .i64 dn] w_0 (GePost M E bp w_0 (tD E rec (exKG E dn s0) (s0.dn.nx E))):=by
 have hB:=gp_lt hb;have hm1:=hE.me;have hm2:=hE.fs;have hlo:=hok.lo;have hhi:=hok.hi;have hok':GOk E (4*c) (s0.dn.nx E):=GOk.step hok (EL.dn.trans EL.nx);have hv16:s0.v E 16<16:=wU _ _ (by decide);refine yV (args:=[.pointer (some ⟨bp,0,none⟩),.int .i64 dn]) Tryz.func74 V 168 V (Jn V)<|Z2 0 1 V V<|zD (H':=Hp (fun k=>k=bp) w_0 [(bp,gO M E s0)] [] (GX M E.l s0.names E.fs F)) (fun u hu=>?_) ?_
 ·subst hu;exact Hp.startG GX.lies hF hX hb
 refine zY<|zX<|zC .none V (yK (z:=.agg #[.int .i64 0,.int .u32 0,.string ⟨#[]⟩,.slice none 0 0]) (cs:=Je) (by kernel_rfl) V) (fun b4=>?_);refine ZX<|zX<|Zm V V<|Zn V V<|ZF V (Y71x3 V) ?_;refine ZF V (zW 1 V V V U3 V)<|ZF V (wG V V (i64_in _ (by omega) (by omega))) ?_;refine Zn V V<|ZF V (Y71x3 V) ?_;refine ZS 1 V V V V V (by kernel_rfl) ?_;refine ZX<|Z3r 0 1 4 V V V<|Zm V V<|tN M E s0.dn 16 bp 1 (by decide) (by decide) hE.l hok.at_ hF (fun _ h=>h.l) .none V  V V ?_;refine Za V V<|ZT<|xA (ι:=Unit) (fun _=>[(0,.pointer (some ⟨bp,0,none⟩)),(1,.int .i64 dn),(4,.pointer (some ⟨b4,0,none⟩)),(5,.int .i64 (exKG E dn s0:Nat))]) (fun _=>Hp (fun k=>k=bp) w_0 [(b4,bk 57 (exC 0 0 [] none 0 0)),(bp,gO M E (s0.dn.nx E))] [] (GX M E.l s0.names E.fs F)) ?_ (fun _=>?_)
 ·refine zY<|Z4r 0 1 4 5 V V V V<|Zm V V<|ZF V (yf_leq V V)<|Zm V V<|zH 21 V (fun h20=>?_) (fun h20=>?_)
  ·replace h20:=Jo h20;have h20':dn≤1:=by omega
   refine ZP V<|ZP V<|ZP V<|ZP V<|ZP V<|ZF V (zP V V)<|ZT<|uT V<|Z5r 0 1 4 5 27 V V V V V<|Zm V V<|ZF V (yf_rem (c:=((s0.v E 16%4:Nat):Int)) V V (by decide) (by show ((s0.v E 16:Nat):Int).tmod 4=_;rw[Int.tmod_eq_emod_of_nonneg (by omega)];omega)) ?_;refine Za V V<|zU ?_
   refine zA (ι:=Unit) () (.cons V<|.cons V<|.cons V<|.cons (by
    show some (Value.int .i64 _)=some (Value.int .i64 _);congr 2;unfold exKG;have hd1:(s0.dn.nx E).nodes=s0.nodes-1:=rfl
    first
    | (rw[Kp (by omega)];done)
    | (rw[Ko (by omega)];rfl))<|.nil) (fun w h=>h)
  ·replace h20:=Jp h20;have h20':¬dn≤1:=by omega
   refine ZG V V V (zO V)<|ZG V V V (yR V)<|ZG V V V (Y71x3 V) ?_;refine ZG V V V (zW 1 V V V U3 V)<|ZG V V V (xS V V)<|ZF V (zL V V)<|ZT<|zT V (fun h27=>?_) (fun h27=>?_)
   ·replace h27:=Jo h27;refine Z5r 0 1 4 5 27 V V V V V<|Zm V V<|ZF V (yf_rem (c:=((s0.v E 16%4:Nat):Int)) V V (by decide) (by show ((s0.v E 16:Nat):Int).tmod 4=_;rw[Int.tmod_eq_emod_of_nonneg (by omega)];omega)) ?_;refine Za V V<|zU ?_
    refine zA (ι:=Unit) () (.cons V<|.cons V<|.cons V<|.cons (by
     show some (Value.int .i64 _)=some (Value.int .i64 _);congr 2;unfold exKG;have hd1:(s0.dn.nx E).nodes=s0.nodes-1:=rfl
     first
     | (rw[Kp (by omega)];done)
     | (rw[Ko (by omega)];rfl))<|.nil) (fun w h=>h)
   ·replace h27:=Jp h27;refine zG ?_
    refine zA (ι:=Unit) () (.cons V<|.cons V<|.cons V<|.cons (by
     show some (Value.int .i64 _)=some (Value.int .i64 _);congr 2;unfold exKG;have hd1:(s0.dn.nx E).nodes=s0.nodes-1:=rfl
     first
     | (rw[Kp (by omega)];done)
     | (rw[Ko (by omega)];rfl))<|.nil) (fun w h=>h)
 ·have hk4:dn≤1→exKG E dn s0<4:=fun h=>by unfold exKG;rw[Kp (.inl h)];omega
  have hk16:exKG E dn s0<16:=by unfold exKG;split<;>omega
  generalize exKG E dn s0=k at hk4 hk16 ⊢;have hnm:(s0.dn.nx E).names=s0.names:=rfl;rw[← hnm] at hX;rw[← hnm];clear hnm hok hlo hhi hv16 hb;generalize s0.dn.nx E=s at hok' hX ⊢;refine zY<|yY<|xA (ι:=Unit) (fun _=>[(0,.pointer (some ⟨bp,0,none⟩)),(1,.int .i64 dn),(4,.pointer (some ⟨b4,0,none⟩)),(5,.int .i64 k),(30,.bool (decide ((k=1∨k=2)∧0<s.names.length)))]) (fun _=>Hp (fun k=>k=bp) w_0 [(b4,bk 57 (exC 0 0 [] none 0 0)),(bp,gO M E s)] [] (GX M E.l s.names E.fs F)) ?_ (fun _=>?_)
  ·refine zX<|Zm V V<|ZF V (yS V V)<|Zm V V<|zH 33 V (fun h32=>?_) (fun h32=>?_)
   ·replace h32:=Jw h32;refine ZG V V V (zO V)<|ZG V V V (yR V)<|ZG V V V (Y71x4 V) ?_;refine ZG V V V (zW 1 V V V U22 V)<|ZG V V V (yM V U22)<|ZG V V V (wO V V)<|ZF V (zP V V)<|Zm V V<|zH 41 V (fun h40=>?_) (fun h40=>?_)
    ·replace h40:=Jo h40;refine ZP V<|ZP V<|ZP V<|yZ V V V<|yZ V V V<|yZ V V V<|yZ V V V<|yZ V V V<|yZ V V V<|ZP V<|ZF V (zP V V)<|Za V V<|zU ?_
     refine zA (ι:=Unit) () (.cons V<|.cons V<|.cons V<|.cons V<|.cons (by
      show some (Value.bool _)=some (Value.bool _);congr 2;rw[Jl];simp
      first|omega|exact fun _=>List.eq_nil_of_length_eq_zero (by omega))<|.nil) (fun w h=>h)
    ·replace h40:=Jp h40;refine ZG V V V (zO V)<|ZG V V V (yS V V)<|ZG V V V (zO V)<|zH 44 V (fun h43=>?_) (fun h43=>?_)
     ·replace h43:=Jw h43;refine ZG V V V (zO V)<|ZG V V V (yR V)<|ZG V V V (Y71x4 V) ?_;refine ZG V V V (zW 1 V V V U22 V)<|ZG V V V (yM V U22)<|ZG V V V (wO V V)<|ZG V V V (zP V V)<|ZF V (zL V V)<|Za V V<|zU ?_
      refine zA (ι:=Unit) () (.cons V<|.cons V<|.cons V<|.cons V<|.cons (by
       show some (Value.bool _)=some (Value.bool _);congr 2;rw[Jl];simp
       first|omega|exact fun _=>List.eq_nil_of_length_eq_zero (by omega))<|.nil) (fun w h=>h)
     ·replace h43:=yP h43;refine ZP V<|ZP V<|ZP V<|ZP V<|ZP V<|ZP V<|ZG V V V (zL V V)<|ZF V (zL V V)<|Za V V<|zU ?_
      refine zA (ι:=Unit) () (.cons V<|.cons V<|.cons V<|.cons V<|.cons (by
       show some (Value.bool _)=some (Value.bool _);congr 2;rw[Jl];simp
       first|omega|exact fun _=>List.eq_nil_of_length_eq_zero (by omega))<|.nil) (fun w h=>h)
   ·replace h32:=yP h32;refine ZP V<|ZP V<|ZP V<|ZP V<|ZP V<|ZP V<|ZF V (zL V V)<|Zm V V<|ZG V V V (zO V)<|ZG V V V (yS V V)<|ZG V V V (zO V)<|zH 44 V (fun h43=>?_) (fun h43=>?_)
    ·replace h43:=Jw h43;refine ZG V V V (zO V)<|ZG V V V (yR V)<|ZG V V V (Y71x4 V) ?_;refine ZG V V V (zW 1 V V V U22 V)<|ZG V V V (yM V U22)<|ZG V V V (wO V V)<|ZG V V V (zP V V)<|ZF V (zL V V)<|Za V V<|zU ?_
     refine zA (ι:=Unit) () (.cons V<|.cons V<|.cons V<|.cons V<|.cons (by
      show some (Value.bool _)=some (Value.bool _);congr 2;rw[Jl];simp
      first|omega|exact fun _=>List.eq_nil_of_length_eq_zero (by omega))<|.nil) (fun w h=>h)
    ·replace h43:=yP h43;refine ZP V<|ZP V<|ZP V<|ZP V<|ZP V<|ZP V<|ZG V V V (zL V V)<|ZF V (zL V V)<|Za V V<|zU ?_
     refine zA (ι:=Unit) () (.cons V<|.cons V<|.cons V<|.cons V<|.cons (by
      show some (Value.bool _)=some (Value.bool _);congr 2;rw[Jl];simp
      first|omega|exact fun _=>List.eq_nil_of_length_eq_zero (by omega))<|.nil) (fun w h=>h)
  ·refine zT V (fun h30=>?_) (fun h30=>?_)
   ·have hs6:(k=1∨k=2)∧0<s.names.length:=Jo h30;have he:tD E rec k s=(.mk 2 0 (nmG E s).1 [],(nmG E s).2):=Kp hs6;obtain⟨bN,oN,hNA⟩:=GX.nmA hX hs6.2;have hlt:s.v E s.names.length<s.names.length:=wU _ _ hs6.2;have hn1:=hok'.nm;refine zY<|wR 11 [0,1,2,3,4,5,6,7,8,9,10] (GJ M E s.names bp) (by kernel_rfl) (by kernel_rfl) GJ.stab (fun w h=>⟨s,rfl,HpG.blk h (k:=1) rfl⟩) (fun n0 hn0=>?_);refine Zd V V V (zO V)<|Zd V V V (yR V)<|Zd V V V (Y71x4 V) ?_;refine Zd V V V (yO (v:=.slice (some ⟨bN,oN,none⟩) s.names.length M.nc) V U22 V (fun u h=>by rw[h.c4,hNA])) ?_;refine Zd V V V (zO V)<|Zd V V V (zO V)<|Zd V V V (yR V)<|Zd V V V (Y71x4 V) ?_;refine Zd V V V (yO (v:=.slice (some ⟨bN,oN,none⟩) s.names.length M.nc) V U22 V (fun u h=>by rw[h.c4,hNA])) ?_;refine Zd V V V (yM V U22)<|xF V<|wd_nx M E s s.names.length bp 1 (by omega) (by omega) hE.l hok'.at_ hF (fun _ h=>h.l) (fun w w' h1 h2 h3 h4=>⟨s.nx E,rfl,h4⟩) .none V  V V ?_;refine wL ?_;simp only[Jz,Ke];refine ZF rfl (zJ (es:=1) rfl rfl U22 (by kernel_rfl) rfl (by first|decide|omega|(simp;done)|(simp;omega)) rfl) ?_;refine ZF V (yO (v:=.string ⟨(nmG E s).1.toArray⟩) V U9 V (fun w h=>RdF.part (hNA▸(HpG.x h).nm) (by rw[strs_len];exact hlt) (by omega) (uR hlt))) ?_;refine ZF V (yQ [.int .i64 0,.int .u32 0,.string ⟨#[]⟩,.slice none 0 0] [(0,1),(1,1),(2,1),(3,1)] V (by kernel_rfl) (by kernel_rfl) V) ?_;refine ZR 0 V V V V V (by kernel_rfl) ?_;refine ZT<|zK<|zR<|zV<|yF V V 0 V U57 V (by kernel_rfl) (fun w hw=>?_);rw[he];exact⟨none,0,rfl,Jq hw,HpG.blkL (j:=1) hw rfl,xT.leaf⟩
   ·have hs6:¬((k=1∨k=2)∧0<s.names.length):=Jp h30;refine zY<|zX<|Zm V V<|ZF V (yS V V)<|Za V V<|ZT<|zT V (fun h67=>?_) (fun h67=>?_)
    ·replace h67:=Jw h67;have hk3:k=3:=by omega
     have he:tD E rec k s=(.mk 5 0 [] [],s):=by unfold tD;rw[Ko hs6,Kp hk3]
     refine zY<|Z6r 0 1 4 5 30 67 V V V V V V<|ZF V (yQ [.int .i64 0,.int .u32 0,.string ⟨#[]⟩,.slice none 0 0] [(0,1),(1,1),(2,1),(3,1)] V (by kernel_rfl) (by kernel_rfl) V) ?_;refine ZR 0 V V V V V (by kernel_rfl) ?_;refine ZT<|zK<|zR<|zV<|yF V V 0 V U57 V (by kernel_rfl) (fun w hw=>?_);rw[he];exact⟨none,0,rfl,Jq hw,HpG.blkL (j:=1) hw rfl,xT.leaf⟩
    ·replace h67:=yP h67;have hk3:k≠3:=by omega
     refine xA (ι:=Unit) (fun _=>[(0,.pointer (some ⟨bp,0,none⟩)),(1,.int .i64 dn),(4,.pointer (some ⟨b4,0,none⟩)),(5,.int .i64 k),(71,.bool (decide (k=4∨k=5)))]) (fun _=>Hp (fun k=>k=bp) w_0 [(b4,bk 57 (exC 0 0 [] none 0 0)),(bp,gO M E s)] [] (GX M E.l s.names E.fs F)) ?_ (fun _=>?_)
     ·refine Z6r 0 1 4 5 30 67 V V V V V V<|Zm V V<|ZF V (yS V V)<|Zm V V<|zH 74 V (fun h73=>?_) (fun h73=>?_)
      ·replace h73:=Jw h73;refine ZP V<|ZP V<|ZF V (zP V V)<|Za V V<|zU ?_
       refine zA (ι:=Unit) () (.cons V<|.cons V<|.cons V<|.cons V<|.cons (by
        show some (Value.bool _)=some (Value.bool _);congr 2;rw[Jl];simp
        omega)<|.nil) (fun w h=>h)
      ·replace h73:=yP h73;refine ZG V V V (zO V)<|ZG V V V (yS V V)<|ZF V (zL V V)<|Za V V<|zU ?_
       refine zA (ι:=Unit) () (.cons V<|.cons V<|.cons V<|.cons V<|.cons (by
        show some (Value.bool _)=some (Value.bool _);congr 2;rw[Jl];simp
        omega)<|.nil) (fun w h=>h)
     ·refine zT V (fun h71=>?_) (fun h71=>?_)
      ·have hs9:k=4∨k=5:=Jo h71;have he:tD E rec k s=(.mk 4 0 [] [(rec s).1],(rec s).2):=by unfold tD;rw[Ko hs6,Ko hk3,Kp hs9]
       have hd2:2≤dn:=Nat.lt_of_not_le fun h=>by have:=hk4 h;omega
       refine zY<|zX<|Zm V V<|Zm V V<|ZF V (wG V V (i64_in _ (by omega) (by omega))) ?_;refine qL M E s (rec s) bp 1 hB (fun w h1 h2=>hrec hd2 M s F bp w (hok'.mono (by omega)) hF h1 (HpG.x h2)) .none V  (by kernel_rfl) V V (fun A cap F2 hF2=>?_);refine zC .none V (xR (z:=.agg #[.int .i64 0,.int .u32 0,.string ⟨#[]⟩,.slice none 0 0]) V V U55 (by kernel_rfl) (by kernel_rfl) V V) (fun b82=>?_);refine ZF V (yQ [.int .i64 0,.int .u32 0,.string ⟨#[]⟩,.slice none 0 0] [(0,1),(1,1),(2,1),(3,1)] V (by kernel_rfl) (by kernel_rfl) V) ?_;refine ZR 1 V V V V V (by kernel_rfl) ?_;refine ZT<|zK<|zR<|zV<|yF V V 1 V U57 V (by kernel_rfl) (fun w hw=>?_);rw[he];exact⟨some ⟨b82,0,none⟩,1,rfl,Jq hw,HpG.blkL (j:=2) hw rfl,pK,_,HpG.rdF (j:=0) hw V (HpG.fresh (j:=0) (i:=2) hw V V V),ExsV.lies.mono hF2 (HpG.x hw).1.one⟩
      ·have hs9:¬(k=4∨k=5):=Jp h71;refine zY<|zX<|Zm V V<|ZF V (yS V V)<|Za V V<|ZT<|zT V (fun h84=>?_) (fun h84=>?_)
       ·replace h84:=Jw h84;have hk6:k=6:=by omega
        have he:tD E rec k s=(.mk 6 0 (unL.getD (s.v E 3) []) [(rec (s.nx E)).1],(rec (s.nx E)).2):=by unfold tD;rw[Ko hs6,Ko hk3,Ko hs9,Kp hk6]
        have hd2:2≤dn:=Nat.lt_of_not_le fun h=>by have:=hk4 h;omega
        have hlt:s.v E 3<3:=wU _ _ (by decide);have hokn:GOk E c (s.nx E):=GOk.step (hok'.mono (show 0+c≤4*c by omega)) EL.nx;refine zY<|Z6 0 1 4 5 71 84 V V V V V V<|wc_drawA 0 [] (fun _=>True) (by kernel_rfl) (by kernel_rfl) (fun _ _ _=>trivial) (fun _ _=>trivial) (fun n0 hn0=>?_);refine wd_endA<|wa_abs (fun W hW=>?_)
        have sd12_2047:∀(b87:Nat) (A95:Option Addr) (cap95:Nat) (F95:Nat→Prop) (hF95:∀k,F95 k→w_0.heap.size≤k) (b96:Nat),W 1 #[true,true,true,true,true,true,true,true,true,true,true,false] [(0,.pointer (some ⟨bp,0,none⟩)),(1,.int .i64 dn),(4,.pointer (some ⟨b4,0,none⟩)),(97,.agg (exC 6 0 (unL.getD (s.v E 3) []) (some ⟨b96,0,none⟩) 1 1).toArray)] (Hp (fun k=>k=bp) w_0 [(b96,bk 57 (xL (rec (s.nx E)).1 A95 cap95)),(b87,bk 9 (xX unL)),(b4,bk 57 (exC 0 0 [] none 0 0)),(bp,gO M E (rec (s.nx E)).2)] [] (fun u=>xT F95 u (rec (s.nx E)).1 A95 cap95∧GX M E.l s.names E.fs F u)):=by
         intro b87 A95 cap95 F95 hF95 b96;refine (hW _ _ _ _).2 (yN (k:=0) [11] (by kernel_rfl) (by simp) ⟨⟨_,rfl,?_⟩,trivial⟩)
         ·refine ZR 2 V V V V V (by kernel_rfl) ?_;refine zU<|yW<|qU (by kernel_rfl) ?_;refine zQ<|zK<|zR<|zV<|yF V V 2 V U57 V (by kernel_rfl) (fun w hw=>?_);rw[he];exact⟨some ⟨b96,0,none⟩,1,rfl,Jq hw,HpG.blkL (j:=3) hw rfl,pK,_,HpG.rdF (j:=0) hw V (HpG.fresh (j:=0) (i:=3) hw V V V),ExsV.lies.mono hF95 (HpG.x hw).1.one⟩
        have sd12_1023:∀(b87:Nat) (A95:Option Addr) (cap95:Nat) (F95:Nat→Prop) (hF95:∀k,F95 k→w_0.heap.size≤k) (b96:Nat),W 2 #[true,true,true,true,true,true,true,true,true,true,false,false] [(0,.pointer (some ⟨bp,0,none⟩)),(1,.int .i64 dn),(4,.pointer (some ⟨b4,0,none⟩)),(91,.string ⟨(unL.getD (s.v E 3) []).toArray⟩),(96,.slice (some ⟨b96,0,none⟩) 1 1)] (Hp (fun k=>k=bp) w_0 [(b96,bk 57 (xL (rec (s.nx E)).1 A95 cap95)),(b87,bk 9 (xX unL)),(b4,bk 57 (exC 0 0 [] none 0 0)),(bp,gO M E (rec (s.nx E)).2)] [] (fun u=>xT F95 u (rec (s.nx E)).1 A95 cap95∧GX M E.l s.names E.fs F u)):=by
         intro b87 A95 cap95 F95 hF95 b96;refine (hW _ _ _ _).2 (yN (k:=1) [10] (by kernel_rfl) (by simp) ⟨⟨_,rfl,?_⟩,trivial⟩)
         ·refine ZF V (yQ [.int .i64 0,.int .u32 0,.string ⟨#[]⟩,.slice none 0 0] [(0,1),(1,1),(2,1),(3,1)] V (by kernel_rfl) (by kernel_rfl) V) ?_;exact zU<|yW<|yH hW (by kernel_rfl) (O4 V V V V) (fun w h=>h) (sd12_2047 b87 A95 cap95 F95 hF95 b96)
        have sd12_511:∀(b87:Nat) (A95:Option Addr) (cap95:Nat) (F95:Nat→Prop) (hF95:∀k,F95 k→w_0.heap.size≤k),W 3 #[true,true,true,true,true,true,true,true,true,false,false,false] [(0,.pointer (some ⟨bp,0,none⟩)),(1,.int .i64 dn),(4,.pointer (some ⟨b4,0,none⟩)),(91,.string ⟨(unL.getD (s.v E 3) []).toArray⟩),(95,.agg (xL (rec (s.nx E)).1 A95 cap95).toArray)] (Hp (fun k=>k=bp) w_0 [(b87,bk 9 (xX unL)),(b4,bk 57 (exC 0 0 [] none 0 0)),(bp,gO M E (rec (s.nx E)).2)] [] (fun u=>xT F95 u (rec (s.nx E)).1 A95 cap95∧GX M E.l s.names E.fs F u)):=by
         intro b87 A95 cap95 F95 hF95;refine (hW _ _ _ _).2 (yN (k:=2) [9] (by kernel_rfl) (by simp) ⟨⟨_,rfl,?_⟩,trivial⟩)
         ·refine zC .none V (xR (z:=.agg #[.int .i64 0,.int .u32 0,.string ⟨#[]⟩,.slice none 0 0]) V V U55 (by kernel_rfl) (by kernel_rfl) V V) (fun b96=>?_);exact zU<|yW<|yH hW (by kernel_rfl) (O5 V V V V V) (fun w h=>h) (sd12_1023 b87 A95 cap95 F95 hF95 b96)
        have sd12_1007:∀(b87:Nat) (A95:Option Addr) (cap95:Nat) (F95:Nat→Prop) (hF95:∀k,F95 k→w_0.heap.size≤k) (b96:Nat),W 3 #[true,true,true,true,false,true,true,true,true,true,false,false] [(0,.pointer (some ⟨bp,0,none⟩)),(1,.int .i64 dn),(4,.pointer (some ⟨b4,0,none⟩)),(90,.pointer (some ⟨b87,0+s.v E 3*1,none⟩)),(96,.slice (some ⟨b96,0,none⟩) 1 1)] (Hp (fun k=>k=bp) w_0 [(b96,bk 57 (xL (rec (s.nx E)).1 A95 cap95)),(b87,bk 9 (xX unL)),(b4,bk 57 (exC 0 0 [] none 0 0)),(bp,gO M E (rec (s.nx E)).2)] [] (fun u=>xT F95 u (rec (s.nx E)).1 A95 cap95∧GX M E.l s.names E.fs F u)):=by
         intro b87 A95 cap95 F95 hF95 b96;refine (hW _ _ _ _).2 (yN (k:=2) [4] (by kernel_rfl) (by simp) ⟨⟨_,rfl,?_⟩,trivial⟩)
         ·refine ZF V (zW (v:=.string ⟨(unL.getD (s.v E 3) []).toArray⟩) 1 V V (by rw[Kk,Nat.mul_one];exact uR hlt) U9 V) ?_;exact zU<|yW<|yH hW (by kernel_rfl) (O5 V V V V V) (fun w h=>h) (sd12_1023 b87 A95 cap95 F95 hF95 b96)
        have sd12_255:∀(b87:Nat),W 4 #[true,true,true,true,true,true,true,true,false,false,false,false] [(0,.pointer (some ⟨bp,0,none⟩)),(1,.int .i64 dn),(4,.pointer (some ⟨b4,0,none⟩)),(91,.string ⟨(unL.getD (s.v E 3) []).toArray⟩),(92,.pointer (some ⟨bp,0,none⟩)),(94,.int .i64 ((dn:Int)-1))] (Hp (fun k=>k=bp) w_0 [(b87,bk 9 (xX unL)),(b4,bk 57 (exC 0 0 [] none 0 0)),(bp,gO M E (s.nx E))] [] (fun u=>GX M E.l s.names E.fs F u)):=by
         intro b87;refine (hW _ _ _ _).2 (yN (k:=3) [8] (by kernel_rfl) (by simp) ⟨⟨_,rfl,?_⟩,trivial⟩)
         ·refine qL M E (s.nx E) (rec (s.nx E)) bp 2 hB (fun w h1 h2=>hrec hd2 M (s.nx E) F bp w hokn hF h1 (HpG.x h2)) .none V  (by kernel_rfl) V V (fun A95 cap95 F95 hF95=>?_);exact zU<|yW<|yH hW (by kernel_rfl) (O5 V V V V V) (fun w h=>h) (sd12_511 b87 A95 cap95 F95 hF95)
        have sd12_495:∀(b87:Nat) (A95:Option Addr) (cap95:Nat) (F95:Nat→Prop) (hF95:∀k,F95 k→w_0.heap.size≤k),W 4 #[true,true,true,true,false,true,true,true,true,false,false,false] [(0,.pointer (some ⟨bp,0,none⟩)),(1,.int .i64 dn),(4,.pointer (some ⟨b4,0,none⟩)),(90,.pointer (some ⟨b87,0+s.v E 3*1,none⟩)),(95,.agg (xL (rec (s.nx E)).1 A95 cap95).toArray)] (Hp (fun k=>k=bp) w_0 [(b87,bk 9 (xX unL)),(b4,bk 57 (exC 0 0 [] none 0 0)),(bp,gO M E (rec (s.nx E)).2)] [] (fun u=>xT F95 u (rec (s.nx E)).1 A95 cap95∧GX M E.l s.names E.fs F u)):=by
         intro b87 A95 cap95 F95 hF95;refine (hW _ _ _ _).2 (yN (k:=3) [4,9] (by kernel_rfl) (by simp) ⟨⟨_,rfl,?_⟩,⟨_,rfl,?_⟩,trivial⟩)
         ·refine ZF V (zW (v:=.string ⟨(unL.getD (s.v E 3) []).toArray⟩) 0 V V (by rw[Kk,Nat.mul_one];exact uR hlt) U9 V) ?_;exact zU<|yW<|yH hW (by kernel_rfl) (O5 V V V V V) (fun w h=>h) (sd12_511 b87 A95 cap95 F95 hF95)
         ·refine zC .none V (xR (z:=.agg #[.int .i64 0,.int .u32 0,.string ⟨#[]⟩,.slice none 0 0]) V V U55 (by kernel_rfl) (by kernel_rfl) V V) (fun b96=>?_);exact zU<|yW<|yH hW (by kernel_rfl) (O5 V V V V V) (fun w h=>h) (sd12_1007 b87 A95 cap95 F95 hF95 b96)
        have sd12_999:∀(b87:Nat) (A95:Option Addr) (cap95:Nat) (F95:Nat→Prop) (hF95:∀k,F95 k→w_0.heap.size≤k) (b96:Nat),W 4 #[true,true,true,false,false,true,true,true,true,true,false,false] [(0,.pointer (some ⟨bp,0,none⟩)),(1,.int .i64 dn),(4,.pointer (some ⟨b4,0,none⟩)),(87,.slice (some ⟨b87,0,none⟩) 3 3),(89,.int .i64 (s.v E 3:Nat)),(96,.slice (some ⟨b96,0,none⟩) 1 1)] (Hp (fun k=>k=bp) w_0 [(b96,bk 57 (xL (rec (s.nx E)).1 A95 cap95)),(b87,bk 9 (xX unL)),(b4,bk 57 (exC 0 0 [] none 0 0)),(bp,gO M E (rec (s.nx E)).2)] [] (fun u=>xT F95 u (rec (s.nx E)).1 A95 cap95∧GX M E.l s.names E.fs F u)):=by
         intro b87 A95 cap95 F95 hF95 b96;refine (hW _ _ _ _).2 (yN (k:=3) [3] (by kernel_rfl) (by simp) ⟨⟨_,rfl,?_⟩,trivial⟩)
         ·refine ZF rfl (zJ (es:=1) rfl rfl U22 (by kernel_rfl) rfl (by first|decide|omega|(simp;done)|(simp;omega)) rfl) ?_;exact zU<|yW<|yH hW (by kernel_rfl) (O5 V V V V V) (fun w h=>h) (sd12_1007 b87 A95 cap95 F95 hF95 b96)
        have sd12_127:∀(b87:Nat),W 5 #[true,true,true,true,true,true,true,false,false,false,false,false] [(0,.pointer (some ⟨bp,0,none⟩)),(1,.int .i64 dn),(4,.pointer (some ⟨b4,0,none⟩)),(91,.string ⟨(unL.getD (s.v E 3) []).toArray⟩),(92,.pointer (some ⟨bp,0,none⟩)),(93,.int .i64 dn)] (Hp (fun k=>k=bp) w_0 [(b87,bk 9 (xX unL)),(b4,bk 57 (exC 0 0 [] none 0 0)),(bp,gO M E (s.nx E))] [] (fun u=>GX M E.l s.names E.fs F u)):=by
         intro b87;refine (hW _ _ _ _).2 (yN (k:=4) [7] (by kernel_rfl) (by simp) ⟨⟨_,rfl,?_⟩,trivial⟩)
         ·refine ZF V (wG V V (i64_in _ (by omega) (by omega))) ?_;exact zU<|yW<|yH hW (by kernel_rfl) (O6 V V V V V V) (fun w h=>h) (sd12_255 b87)
        have sd12_223:∀(b87:Nat),W 5 #[true,true,true,true,true,false,true,true,false,false,false,false] [(0,.pointer (some ⟨bp,0,none⟩)),(1,.int .i64 dn),(4,.pointer (some ⟨b4,0,none⟩)),(91,.string ⟨(unL.getD (s.v E 3) []).toArray⟩),(94,.int .i64 ((dn:Int)-1))] (Hp (fun k=>k=bp) w_0 [(b87,bk 9 (xX unL)),(b4,bk 57 (exC 0 0 [] none 0 0)),(bp,gO M E (s.nx E))] [] (fun u=>GX M E.l s.names E.fs F u)):=by
         intro b87;refine (hW _ _ _ _).2 (yN (k:=4) [5] (by kernel_rfl) (by simp) ⟨⟨_,rfl,?_⟩,trivial⟩)
         ·exact Zm V V<|zU<|yW<|yH hW (by kernel_rfl) (O6 V V V V V V) (fun w h=>h) (sd12_255 b87)
        have sd12_239:∀(b87:Nat),W 5 #[true,true,true,true,false,true,true,true,false,false,false,false] [(0,.pointer (some ⟨bp,0,none⟩)),(1,.int .i64 dn),(4,.pointer (some ⟨b4,0,none⟩)),(90,.pointer (some ⟨b87,0+s.v E 3*1,none⟩)),(92,.pointer (some ⟨bp,0,none⟩)),(94,.int .i64 ((dn:Int)-1))] (Hp (fun k=>k=bp) w_0 [(b87,bk 9 (xX unL)),(b4,bk 57 (exC 0 0 [] none 0 0)),(bp,gO M E (s.nx E))] [] (fun u=>GX M E.l s.names E.fs F u)):=by
         intro b87;refine (hW _ _ _ _).2 (yN (k:=4) [4,8] (by kernel_rfl) (by simp) ⟨⟨_,rfl,?_⟩,⟨_,rfl,?_⟩,trivial⟩)
         ·refine ZF V (zW (v:=.string ⟨(unL.getD (s.v E 3) []).toArray⟩) 0 V V (by rw[Kk,Nat.mul_one];exact uR hlt) U9 V) ?_;exact zU<|yW<|yH hW (by kernel_rfl) (O6 V V V V V V) (fun w h=>h) (sd12_255 b87)
         ·refine qL M E (s.nx E) (rec (s.nx E)) bp 2 hB (fun w h1 h2=>hrec hd2 M (s.nx E) F bp w hokn hF h1 (HpG.x h2)) .none V  (by kernel_rfl) V V (fun A95 cap95 F95 hF95=>?_);exact zU<|yW<|yH hW (by kernel_rfl) (O5 V V V V V) (fun w h=>h) (sd12_495 b87 A95 cap95 F95 hF95)
        have sd12_487:∀(b87:Nat) (A95:Option Addr) (cap95:Nat) (F95:Nat→Prop) (hF95:∀k,F95 k→w_0.heap.size≤k),W 5 #[true,true,true,false,false,true,true,true,true,false,false,false] [(0,.pointer (some ⟨bp,0,none⟩)),(1,.int .i64 dn),(4,.pointer (some ⟨b4,0,none⟩)),(87,.slice (some ⟨b87,0,none⟩) 3 3),(89,.int .i64 (s.v E 3:Nat)),(95,.agg (xL (rec (s.nx E)).1 A95 cap95).toArray)] (Hp (fun k=>k=bp) w_0 [(b87,bk 9 (xX unL)),(b4,bk 57 (exC 0 0 [] none 0 0)),(bp,gO M E (rec (s.nx E)).2)] [] (fun u=>xT F95 u (rec (s.nx E)).1 A95 cap95∧GX M E.l s.names E.fs F u)):=by
         intro b87 A95 cap95 F95 hF95;refine (hW _ _ _ _).2 (yN (k:=4) [3,9] (by kernel_rfl) (by simp) ⟨⟨_,rfl,?_⟩,⟨_,rfl,?_⟩,trivial⟩)
         ·refine ZF rfl (zJ (es:=1) rfl rfl U22 (by kernel_rfl) rfl (by first|decide|omega|(simp;done)|(simp;omega)) rfl) ?_;exact zU<|yW<|yH hW (by kernel_rfl) (O5 V V V V V) (fun w h=>h) (sd12_495 b87 A95 cap95 F95 hF95)
         ·refine zC .none V (xR (z:=.agg #[.int .i64 0,.int .u32 0,.string ⟨#[]⟩,.slice none 0 0]) V V U55 (by kernel_rfl) (by kernel_rfl) V V) (fun b96=>?_);exact zU<|yW<|yH hW (by kernel_rfl) (O6 V V V V V V) (fun w h=>h) (sd12_999 b87 A95 cap95 F95 hF95 b96)
        have sd12_998:∀(A95:Option Addr) (cap95:Nat) (F95:Nat→Prop) (hF95:∀k,F95 k→w_0.heap.size≤k) (b96:Nat),W 5 #[false,true,true,false,false,true,true,true,true,true,false,false] [(0,.pointer (some ⟨bp,0,none⟩)),(1,.int .i64 dn),(4,.pointer (some ⟨b4,0,none⟩)),(89,.int .i64 (s.v E 3:Nat)),(96,.slice (some ⟨b96,0,none⟩) 1 1)] (Hp (fun k=>k=bp) w_0 [(b96,bk 57 (xL (rec (s.nx E)).1 A95 cap95)),(b4,bk 57 (exC 0 0 [] none 0 0)),(bp,gO M E (rec (s.nx E)).2)] [] (fun u=>xT F95 u (rec (s.nx E)).1 A95 cap95∧GX M E.l s.names E.fs F u)):=by
         intro A95 cap95 F95 hF95 b96;refine (hW _ _ _ _).2 (yN (k:=4) [0] (by kernel_rfl) (by simp) ⟨⟨_,rfl,?_⟩,trivial⟩)
         ·refine zC .none V (wM (z:=Ja) V V V V U22 (by kernel_rfl) (by kernel_rfl) V V) (fun b87=>?_);exact zU<|yW<|yH hW (by kernel_rfl) (O6 V V V V V V) (fun w h=>Hp.swapL h (.swap _ _ _)) (sd12_999 b87 A95 cap95 F95 hF95 b96)
        have sd12_63:∀(b87:Nat),W 6 #[true,true,true,true,true,true,false,false,false,false,false,false] [(0,.pointer (some ⟨bp,0,none⟩)),(1,.int .i64 dn),(4,.pointer (some ⟨b4,0,none⟩)),(91,.string ⟨(unL.getD (s.v E 3) []).toArray⟩),(92,.pointer (some ⟨bp,0,none⟩))] (Hp (fun k=>k=bp) w_0 [(b87,bk 9 (xX unL)),(b4,bk 57 (exC 0 0 [] none 0 0)),(bp,gO M E (s.nx E))] [] (fun u=>GX M E.l s.names E.fs F u)):=by
         intro b87;refine (hW _ _ _ _).2 (yN (k:=5) [6] (by kernel_rfl) (by simp) ⟨⟨_,rfl,?_⟩,trivial⟩)
         ·exact Zm V V<|zU<|yW<|yH hW (by kernel_rfl) (O6 V V V V V V) (fun w h=>h) (sd12_127 b87)
        have sd12_95:∀(b87:Nat),W 6 #[true,true,true,true,true,false,true,false,false,false,false,false] [(0,.pointer (some ⟨bp,0,none⟩)),(1,.int .i64 dn),(4,.pointer (some ⟨b4,0,none⟩)),(91,.string ⟨(unL.getD (s.v E 3) []).toArray⟩),(93,.int .i64 dn)] (Hp (fun k=>k=bp) w_0 [(b87,bk 9 (xX unL)),(b4,bk 57 (exC 0 0 [] none 0 0)),(bp,gO M E (s.nx E))] [] (fun u=>GX M E.l s.names E.fs F u)):=by
         intro b87;refine (hW _ _ _ _).2 (yN (k:=5) [5,7] (by kernel_rfl) (by simp) ⟨⟨_,rfl,?_⟩,⟨_,rfl,?_⟩,trivial⟩)
         ·exact Zm V V<|zU<|yW<|yH hW (by kernel_rfl) (O6 V V V V V V) (fun w h=>h) (sd12_127 b87)
         ·refine ZF V (wG V V (i64_in _ (by omega) (by omega))) ?_;exact zU<|yW<|yH hW (by kernel_rfl) (O5 V V V V V) (fun w h=>h) (sd12_223 b87)
        have sd12_111:∀(b87:Nat),W 6 #[true,true,true,true,false,true,true,false,false,false,false,false] [(0,.pointer (some ⟨bp,0,none⟩)),(1,.int .i64 dn),(4,.pointer (some ⟨b4,0,none⟩)),(90,.pointer (some ⟨b87,0+s.v E 3*1,none⟩)),(92,.pointer (some ⟨bp,0,none⟩)),(93,.int .i64 dn)] (Hp (fun k=>k=bp) w_0 [(b87,bk 9 (xX unL)),(b4,bk 57 (exC 0 0 [] none 0 0)),(bp,gO M E (s.nx E))] [] (fun u=>GX M E.l s.names E.fs F u)):=by
         intro b87;refine (hW _ _ _ _).2 (yN (k:=5) [4,7] (by kernel_rfl) (by simp) ⟨⟨_,rfl,?_⟩,⟨_,rfl,?_⟩,trivial⟩)
         ·refine ZF V (zW (v:=.string ⟨(unL.getD (s.v E 3) []).toArray⟩) 0 V V (by rw[Kk,Nat.mul_one];exact uR hlt) U9 V) ?_;exact zU<|yW<|yH hW (by kernel_rfl) (O6 V V V V V V) (fun w h=>h) (sd12_127 b87)
         ·refine ZF V (wG V V (i64_in _ (by omega) (by omega))) ?_;exact zU<|yW<|yH hW (by kernel_rfl) (O6 V V V V V V) (fun w h=>h) (sd12_239 b87)
        have sd12_207:∀(b87:Nat),W 6 #[true,true,true,true,false,false,true,true,false,false,false,false] [(0,.pointer (some ⟨bp,0,none⟩)),(1,.int .i64 dn),(4,.pointer (some ⟨b4,0,none⟩)),(90,.pointer (some ⟨b87,0+s.v E 3*1,none⟩)),(94,.int .i64 ((dn:Int)-1))] (Hp (fun k=>k=bp) w_0 [(b87,bk 9 (xX unL)),(b4,bk 57 (exC 0 0 [] none 0 0)),(bp,gO M E (s.nx E))] [] (fun u=>GX M E.l s.names E.fs F u)):=by
         intro b87;refine (hW _ _ _ _).2 (yN (k:=5) [4,5] (by kernel_rfl) (by simp) ⟨⟨_,rfl,?_⟩,⟨_,rfl,?_⟩,trivial⟩)
         ·refine ZF V (zW (v:=.string ⟨(unL.getD (s.v E 3) []).toArray⟩) 0 V V (by rw[Kk,Nat.mul_one];exact uR hlt) U9 V) ?_;exact zU<|yW<|yH hW (by kernel_rfl) (O5 V V V V V) (fun w h=>h) (sd12_223 b87)
         ·exact Zm V V<|zU<|yW<|yH hW (by kernel_rfl) (O6 V V V V V V) (fun w h=>h) (sd12_239 b87)
        have sd12_231:∀(b87:Nat),W 6 #[true,true,true,false,false,true,true,true,false,false,false,false] [(0,.pointer (some ⟨bp,0,none⟩)),(1,.int .i64 dn),(4,.pointer (some ⟨b4,0,none⟩)),(87,.slice (some ⟨b87,0,none⟩) 3 3),(89,.int .i64 (s.v E 3:Nat)),(92,.pointer (some ⟨bp,0,none⟩)),(94,.int .i64 ((dn:Int)-1))] (Hp (fun k=>k=bp) w_0 [(b87,bk 9 (xX unL)),(b4,bk 57 (exC 0 0 [] none 0 0)),(bp,gO M E (s.nx E))] [] (fun u=>GX M E.l s.names E.fs F u)):=by
         intro b87;refine (hW _ _ _ _).2 (yN (k:=5) [3,8] (by kernel_rfl) (by simp) ⟨⟨_,rfl,?_⟩,⟨_,rfl,?_⟩,trivial⟩)
         ·refine ZF rfl (zJ (es:=1) rfl rfl U22 (by kernel_rfl) rfl (by first|decide|omega|(simp;done)|(simp;omega)) rfl) ?_;exact zU<|yW<|yH hW (by kernel_rfl) (O6 V V V V V V) (fun w h=>h) (sd12_239 b87)
         ·refine qL M E (s.nx E) (rec (s.nx E)) bp 2 hB (fun w h1 h2=>hrec hd2 M (s.nx E) F bp w hokn hF h1 (HpG.x h2)) .none V  (by kernel_rfl) V V (fun A95 cap95 F95 hF95=>?_);exact zU<|yW<|yH hW (by kernel_rfl) (O6 V V V V V V) (fun w h=>h) (sd12_487 b87 A95 cap95 F95 hF95)
        have sd12_486:∀(A95:Option Addr) (cap95:Nat) (F95:Nat→Prop) (hF95:∀k,F95 k→w_0.heap.size≤k),W 6 #[false,true,true,false,false,true,true,true,true,false,false,false] [(0,.pointer (some ⟨bp,0,none⟩)),(1,.int .i64 dn),(4,.pointer (some ⟨b4,0,none⟩)),(89,.int .i64 (s.v E 3:Nat)),(95,.agg (xL (rec (s.nx E)).1 A95 cap95).toArray)] (Hp (fun k=>k=bp) w_0 [(b4,bk 57 (exC 0 0 [] none 0 0)),(bp,gO M E (rec (s.nx E)).2)] [] (fun u=>xT F95 u (rec (s.nx E)).1 A95 cap95∧GX M E.l s.names E.fs F u)):=by
         intro A95 cap95 F95 hF95;refine (hW _ _ _ _).2 (yN (k:=5) [0,9] (by kernel_rfl) (by simp) ⟨⟨_,rfl,?_⟩,⟨_,rfl,?_⟩,trivial⟩)
         ·refine zC .none V (wM (z:=Ja) V V V V U22 (by kernel_rfl) (by kernel_rfl) V V) (fun b87=>?_);exact zU<|yW<|yH hW (by kernel_rfl) (O6 V V V V V V) (fun w h=>h) (sd12_487 b87 A95 cap95 F95 hF95)
         ·refine zC .none V (xR (z:=.agg #[.int .i64 0,.int .u32 0,.string ⟨#[]⟩,.slice none 0 0]) V V U55 (by kernel_rfl) (by kernel_rfl) V V) (fun b96=>?_);exact zU<|yW<|yH hW (by kernel_rfl) (O5 V V V V V) (fun w h=>h) (sd12_998 A95 cap95 F95 hF95 b96)
        have sd12_31:∀(b87:Nat),W 7 #[true,true,true,true,true,false,false,false,false,false,false,false] [(0,.pointer (some ⟨bp,0,none⟩)),(1,.int .i64 dn),(4,.pointer (some ⟨b4,0,none⟩)),(91,.string ⟨(unL.getD (s.v E 3) []).toArray⟩)] (Hp (fun k=>k=bp) w_0 [(b87,bk 9 (xX unL)),(b4,bk 57 (exC 0 0 [] none 0 0)),(bp,gO M E (s.nx E))] [] (fun u=>GX M E.l s.names E.fs F u)):=by
         intro b87;refine (hW _ _ _ _).2 (yN (k:=6) [5,6] (by kernel_rfl) (by simp) ⟨⟨_,rfl,?_⟩,⟨_,rfl,?_⟩,trivial⟩)
         ·exact Zm V V<|zU<|yW<|yH hW (by kernel_rfl) (O5 V V V V V) (fun w h=>h) (sd12_63 b87)
         ·exact Zm V V<|zU<|yW<|yH hW (by kernel_rfl) (O5 V V V V V) (fun w h=>h) (sd12_95 b87)
        have sd12_47:∀(b87:Nat),W 7 #[true,true,true,true,false,true,false,false,false,false,false,false] [(0,.pointer (some ⟨bp,0,none⟩)),(1,.int .i64 dn),(4,.pointer (some ⟨b4,0,none⟩)),(90,.pointer (some ⟨b87,0+s.v E 3*1,none⟩)),(92,.pointer (some ⟨bp,0,none⟩))] (Hp (fun k=>k=bp) w_0 [(b87,bk 9 (xX unL)),(b4,bk 57 (exC 0 0 [] none 0 0)),(bp,gO M E (s.nx E))] [] (fun u=>GX M E.l s.names E.fs F u)):=by
         intro b87;refine (hW _ _ _ _).2 (yN (k:=6) [4,6] (by kernel_rfl) (by simp) ⟨⟨_,rfl,?_⟩,⟨_,rfl,?_⟩,trivial⟩)
         ·refine ZF V (zW (v:=.string ⟨(unL.getD (s.v E 3) []).toArray⟩) 0 V V (by rw[Kk,Nat.mul_one];exact uR hlt) U9 V) ?_;exact zU<|yW<|yH hW (by kernel_rfl) (O5 V V V V V) (fun w h=>h) (sd12_63 b87)
         ·exact Zm V V<|zU<|yW<|yH hW (by kernel_rfl) (O6 V V V V V V) (fun w h=>h) (sd12_111 b87)
        have sd12_79:∀(b87:Nat),W 7 #[true,true,true,true,false,false,true,false,false,false,false,false] [(0,.pointer (some ⟨bp,0,none⟩)),(1,.int .i64 dn),(4,.pointer (some ⟨b4,0,none⟩)),(90,.pointer (some ⟨b87,0+s.v E 3*1,none⟩)),(93,.int .i64 dn)] (Hp (fun k=>k=bp) w_0 [(b87,bk 9 (xX unL)),(b4,bk 57 (exC 0 0 [] none 0 0)),(bp,gO M E (s.nx E))] [] (fun u=>GX M E.l s.names E.fs F u)):=by
         intro b87;refine (hW _ _ _ _).2 (yN (k:=6) [4,5,7] (by kernel_rfl) (by simp) ⟨⟨_,rfl,?_⟩,⟨_,rfl,?_⟩,⟨_,rfl,?_⟩,trivial⟩)
         ·refine ZF V (zW (v:=.string ⟨(unL.getD (s.v E 3) []).toArray⟩) 0 V V (by rw[Kk,Nat.mul_one];exact uR hlt) U9 V) ?_;exact zU<|yW<|yH hW (by kernel_rfl) (O5 V V V V V) (fun w h=>h) (sd12_95 b87)
         ·exact Zm V V<|zU<|yW<|yH hW (by kernel_rfl) (O6 V V V V V V) (fun w h=>h) (sd12_111 b87)
         ·refine ZF V (wG V V (i64_in _ (by omega) (by omega))) ?_;exact zU<|yW<|yH hW (by kernel_rfl) (O5 V V V V V) (fun w h=>h) (sd12_207 b87)
        have sd12_103:∀(b87:Nat),W 7 #[true,true,true,false,false,true,true,false,false,false,false,false] [(0,.pointer (some ⟨bp,0,none⟩)),(1,.int .i64 dn),(4,.pointer (some ⟨b4,0,none⟩)),(87,.slice (some ⟨b87,0,none⟩) 3 3),(89,.int .i64 (s.v E 3:Nat)),(92,.pointer (some ⟨bp,0,none⟩)),(93,.int .i64 dn)] (Hp (fun k=>k=bp) w_0 [(b87,bk 9 (xX unL)),(b4,bk 57 (exC 0 0 [] none 0 0)),(bp,gO M E (s.nx E))] [] (fun u=>GX M E.l s.names E.fs F u)):=by
         intro b87;refine (hW _ _ _ _).2 (yN (k:=6) [3,7] (by kernel_rfl) (by simp) ⟨⟨_,rfl,?_⟩,⟨_,rfl,?_⟩,trivial⟩)
         ·refine ZF rfl (zJ (es:=1) rfl rfl U22 (by kernel_rfl) rfl (by first|decide|omega|(simp;done)|(simp;omega)) rfl) ?_;exact zU<|yW<|yH hW (by kernel_rfl) (O6 V V V V V V) (fun w h=>h) (sd12_111 b87)
         ·refine ZF V (wG V V (i64_in _ (by omega) (by omega))) ?_;exact zU<|yW<|yH hW (by kernel_rfl) (O7 V V V V V V V) (fun w h=>h) (sd12_231 b87)
        have sd12_199:∀(b87:Nat),W 7 #[true,true,true,false,false,false,true,true,false,false,false,false] [(0,.pointer (some ⟨bp,0,none⟩)),(1,.int .i64 dn),(4,.pointer (some ⟨b4,0,none⟩)),(87,.slice (some ⟨b87,0,none⟩) 3 3),(89,.int .i64 (s.v E 3:Nat)),(94,.int .i64 ((dn:Int)-1))] (Hp (fun k=>k=bp) w_0 [(b87,bk 9 (xX unL)),(b4,bk 57 (exC 0 0 [] none 0 0)),(bp,gO M E (s.nx E))] [] (fun u=>GX M E.l s.names E.fs F u)):=by
         intro b87;refine (hW _ _ _ _).2 (yN (k:=6) [3,5] (by kernel_rfl) (by simp) ⟨⟨_,rfl,?_⟩,⟨_,rfl,?_⟩,trivial⟩)
         ·refine ZF rfl (zJ (es:=1) rfl rfl U22 (by kernel_rfl) rfl (by first|decide|omega|(simp;done)|(simp;omega)) rfl) ?_;exact zU<|yW<|yH hW (by kernel_rfl) (O5 V V V V V) (fun w h=>h) (sd12_207 b87)
         ·exact Zm V V<|zU<|yW<|yH hW (by kernel_rfl) (O7 V V V V V V V) (fun w h=>h) (sd12_231 b87)
        have sd12_227:∀(b87:Nat),W 7 #[true,true,false,false,false,true,true,true,false,false,false,false] [(0,.pointer (some ⟨bp,0,none⟩)),(1,.int .i64 dn),(4,.pointer (some ⟨b4,0,none⟩)),(87,.slice (some ⟨b87,0,none⟩) 3 3),(88,.pointer (some ⟨bp,0,none⟩)),(92,.pointer (some ⟨bp,0,none⟩)),(94,.int .i64 ((dn:Int)-1))] (Hp (fun k=>k=bp) w_0 [(b87,bk 9 (xX unL)),(b4,bk 57 (exC 0 0 [] none 0 0)),(bp,gO M E s)] [] (fun u=>GX M E.l s.names E.fs F u)):=by
         intro b87;refine (hW _ _ _ _).2 (yN (k:=6) [2] (by kernel_rfl) (by simp) ⟨⟨_,rfl,?_⟩,trivial⟩)
         ·refine tN M E s 3 bp 2 (by decide) (by decide) hE.l hok'.at_ hF (fun _ h=>h.l) .none V  V V ?_;exact zU<|yW<|yH hW (by kernel_rfl) (O7 V V V V V V V) (fun w h=>h) (sd12_231 b87)
        have sd12_230:W 7 #[false,true,true,false,false,true,true,true,false,false,false,false] [(0,.pointer (some ⟨bp,0,none⟩)),(1,.int .i64 dn),(4,.pointer (some ⟨b4,0,none⟩)),(89,.int .i64 (s.v E 3:Nat)),(92,.pointer (some ⟨bp,0,none⟩)),(94,.int .i64 ((dn:Int)-1))] (Hp (fun k=>k=bp) w_0 [(b4,bk 57 (exC 0 0 [] none 0 0)),(bp,gO M E (s.nx E))] [] (fun u=>GX M E.l s.names E.fs F u)):=by
         refine (hW _ _ _ _).2 (yN (k:=6) [0,8] (by kernel_rfl) (by simp) ⟨⟨_,rfl,?_⟩,⟨_,rfl,?_⟩,trivial⟩)
         ·refine zC .none V (wM (z:=Ja) V V V V U22 (by kernel_rfl) (by kernel_rfl) V V) (fun b87=>?_);exact zU<|yW<|yH hW (by kernel_rfl) (O7 V V V V V V V) (fun w h=>h) (sd12_231 b87)
         ·refine qL M E (s.nx E) (rec (s.nx E)) bp 1 hB (fun w h1 h2=>hrec hd2 M (s.nx E) F bp w hokn hF h1 (HpG.x h2)) .none V  (by kernel_rfl) V V (fun A95 cap95 F95 hF95=>?_);exact zU<|yW<|yH hW (by kernel_rfl) (O5 V V V V V) (fun w h=>h) (sd12_486 A95 cap95 F95 hF95)
        have sd12_15:∀(b87:Nat),W 8 #[true,true,true,true,false,false,false,false,false,false,false,false] [(0,.pointer (some ⟨bp,0,none⟩)),(1,.int .i64 dn),(4,.pointer (some ⟨b4,0,none⟩)),(90,.pointer (some ⟨b87,0+s.v E 3*1,none⟩))] (Hp (fun k=>k=bp) w_0 [(b87,bk 9 (xX unL)),(b4,bk 57 (exC 0 0 [] none 0 0)),(bp,gO M E (s.nx E))] [] (fun u=>GX M E.l s.names E.fs F u)):=by
         intro b87;refine (hW _ _ _ _).2 (yN (k:=7) [4,5,6] (by kernel_rfl) (by simp) ⟨⟨_,rfl,?_⟩,⟨_,rfl,?_⟩,⟨_,rfl,?_⟩,trivial⟩)
         ·refine ZF V (zW (v:=.string ⟨(unL.getD (s.v E 3) []).toArray⟩) 0 V V (by rw[Kk,Nat.mul_one];exact uR hlt) U9 V) ?_;exact zU<|yW<|yH hW (by kernel_rfl) (O4 V V V V) (fun w h=>h) (sd12_31 b87)
         ·exact Zm V V<|zU<|yW<|yH hW (by kernel_rfl) (O5 V V V V V) (fun w h=>h) (sd12_47 b87)
         ·exact Zm V V<|zU<|yW<|yH hW (by kernel_rfl) (O5 V V V V V) (fun w h=>h) (sd12_79 b87)
        have sd12_39:∀(b87:Nat),W 8 #[true,true,true,false,false,true,false,false,false,false,false,false] [(0,.pointer (some ⟨bp,0,none⟩)),(1,.int .i64 dn),(4,.pointer (some ⟨b4,0,none⟩)),(87,.slice (some ⟨b87,0,none⟩) 3 3),(89,.int .i64 (s.v E 3:Nat)),(92,.pointer (some ⟨bp,0,none⟩))] (Hp (fun k=>k=bp) w_0 [(b87,bk 9 (xX unL)),(b4,bk 57 (exC 0 0 [] none 0 0)),(bp,gO M E (s.nx E))] [] (fun u=>GX M E.l s.names E.fs F u)):=by
         intro b87;refine (hW _ _ _ _).2 (yN (k:=7) [3,6] (by kernel_rfl) (by simp) ⟨⟨_,rfl,?_⟩,⟨_,rfl,?_⟩,trivial⟩)
         ·refine ZF rfl (zJ (es:=1) rfl rfl U22 (by kernel_rfl) rfl (by first|decide|omega|(simp;done)|(simp;omega)) rfl) ?_;exact zU<|yW<|yH hW (by kernel_rfl) (O5 V V V V V) (fun w h=>h) (sd12_47 b87)
         ·exact Zm V V<|zU<|yW<|yH hW (by kernel_rfl) (O7 V V V V V V V) (fun w h=>h) (sd12_103 b87)
        have sd12_71:∀(b87:Nat),W 8 #[true,true,true,false,false,false,true,false,false,false,false,false] [(0,.pointer (some ⟨bp,0,none⟩)),(1,.int .i64 dn),(4,.pointer (some ⟨b4,0,none⟩)),(87,.slice (some ⟨b87,0,none⟩) 3 3),(89,.int .i64 (s.v E 3:Nat)),(93,.int .i64 dn)] (Hp (fun k=>k=bp) w_0 [(b87,bk 9 (xX unL)),(b4,bk 57 (exC 0 0 [] none 0 0)),(bp,gO M E (s.nx E))] [] (fun u=>GX M E.l s.names E.fs F u)):=by
         intro b87;refine (hW _ _ _ _).2 (yN (k:=7) [3,5,7] (by kernel_rfl) (by simp) ⟨⟨_,rfl,?_⟩,⟨_,rfl,?_⟩,⟨_,rfl,?_⟩,trivial⟩)
         ·refine ZF rfl (zJ (es:=1) rfl rfl U22 (by kernel_rfl) rfl (by first|decide|omega|(simp;done)|(simp;omega)) rfl) ?_;exact zU<|yW<|yH hW (by kernel_rfl) (O5 V V V V V) (fun w h=>h) (sd12_79 b87)
         ·exact Zm V V<|zU<|yW<|yH hW (by kernel_rfl) (O7 V V V V V V V) (fun w h=>h) (sd12_103 b87)
         ·refine ZF V (wG V V (i64_in _ (by omega) (by omega))) ?_;exact zU<|yW<|yH hW (by kernel_rfl) (O6 V V V V V V) (fun w h=>h) (sd12_199 b87)
        have sd12_99:∀(b87:Nat),W 8 #[true,true,false,false,false,true,true,false,false,false,false,false] [(0,.pointer (some ⟨bp,0,none⟩)),(1,.int .i64 dn),(4,.pointer (some ⟨b4,0,none⟩)),(87,.slice (some ⟨b87,0,none⟩) 3 3),(88,.pointer (some ⟨bp,0,none⟩)),(92,.pointer (some ⟨bp,0,none⟩)),(93,.int .i64 dn)] (Hp (fun k=>k=bp) w_0 [(b87,bk 9 (xX unL)),(b4,bk 57 (exC 0 0 [] none 0 0)),(bp,gO M E s)] [] (fun u=>GX M E.l s.names E.fs F u)):=by
         intro b87;refine (hW _ _ _ _).2 (yN (k:=7) [2,7] (by kernel_rfl) (by simp) ⟨⟨_,rfl,?_⟩,⟨_,rfl,?_⟩,trivial⟩)
         ·refine tN M E s 3 bp 2 (by decide) (by decide) hE.l hok'.at_ hF (fun _ h=>h.l) .none V  V V ?_;exact zU<|yW<|yH hW (by kernel_rfl) (O7 V V V V V V V) (fun w h=>h) (sd12_103 b87)
         ·refine ZF V (wG V V (i64_in _ (by omega) (by omega))) ?_;exact zU<|yW<|yH hW (by kernel_rfl) (O7 V V V V V V V) (fun w h=>h) (sd12_227 b87)
        have sd12_195:∀(b87:Nat),W 8 #[true,true,false,false,false,false,true,true,false,false,false,false] [(0,.pointer (some ⟨bp,0,none⟩)),(1,.int .i64 dn),(4,.pointer (some ⟨b4,0,none⟩)),(87,.slice (some ⟨b87,0,none⟩) 3 3),(88,.pointer (some ⟨bp,0,none⟩)),(94,.int .i64 ((dn:Int)-1))] (Hp (fun k=>k=bp) w_0 [(b87,bk 9 (xX unL)),(b4,bk 57 (exC 0 0 [] none 0 0)),(bp,gO M E s)] [] (fun u=>GX M E.l s.names E.fs F u)):=by
         intro b87;refine (hW _ _ _ _).2 (yN (k:=7) [2,5] (by kernel_rfl) (by simp) ⟨⟨_,rfl,?_⟩,⟨_,rfl,?_⟩,trivial⟩)
         ·refine tN M E s 3 bp 2 (by decide) (by decide) hE.l hok'.at_ hF (fun _ h=>h.l) .none V  V V ?_;exact zU<|yW<|yH hW (by kernel_rfl) (O6 V V V V V V) (fun w h=>h) (sd12_199 b87)
         ·exact Zm V V<|zU<|yW<|yH hW (by kernel_rfl) (O7 V V V V V V V) (fun w h=>h) (sd12_227 b87)
        have sd12_225:∀(b87:Nat),W 8 #[true,false,false,false,false,true,true,true,false,false,false,false] [(0,.pointer (some ⟨bp,0,none⟩)),(1,.int .i64 dn),(4,.pointer (some ⟨b4,0,none⟩)),(87,.slice (some ⟨b87,0,none⟩) 3 3),(92,.pointer (some ⟨bp,0,none⟩)),(94,.int .i64 ((dn:Int)-1))] (Hp (fun k=>k=bp) w_0 [(b87,bk 9 (xX unL)),(b4,bk 57 (exC 0 0 [] none 0 0)),(bp,gO M E s)] [] (fun u=>GX M E.l s.names E.fs F u)):=by
         intro b87;refine (hW _ _ _ _).2 (yN (k:=7) [1] (by kernel_rfl) (by simp) ⟨⟨_,rfl,?_⟩,trivial⟩)
         ·exact Zm V V<|zU<|yW<|yH hW (by kernel_rfl) (O7 V V V V V V V) (fun w h=>h) (sd12_227 b87)
        have sd12_102:W 8 #[false,true,true,false,false,true,true,false,false,false,false,false] [(0,.pointer (some ⟨bp,0,none⟩)),(1,.int .i64 dn),(4,.pointer (some ⟨b4,0,none⟩)),(89,.int .i64 (s.v E 3:Nat)),(92,.pointer (some ⟨bp,0,none⟩)),(93,.int .i64 dn)] (Hp (fun k=>k=bp) w_0 [(b4,bk 57 (exC 0 0 [] none 0 0)),(bp,gO M E (s.nx E))] [] (fun u=>GX M E.l s.names E.fs F u)):=by
         refine (hW _ _ _ _).2 (yN (k:=7) [0,7] (by kernel_rfl) (by simp) ⟨⟨_,rfl,?_⟩,⟨_,rfl,?_⟩,trivial⟩)
         ·refine zC .none V (wM (z:=Ja) V V V V U22 (by kernel_rfl) (by kernel_rfl) V V) (fun b87=>?_);exact zU<|yW<|yH hW (by kernel_rfl) (O7 V V V V V V V) (fun w h=>h) (sd12_103 b87)
         ·refine ZF V (wG V V (i64_in _ (by omega) (by omega))) ?_;exact zU<|yW<|yH hW (by kernel_rfl) (O6 V V V V V V) (fun w h=>h) (sd12_230)
        have sd12_198:W 8 #[false,true,true,false,false,false,true,true,false,false,false,false] [(0,.pointer (some ⟨bp,0,none⟩)),(1,.int .i64 dn),(4,.pointer (some ⟨b4,0,none⟩)),(89,.int .i64 (s.v E 3:Nat)),(94,.int .i64 ((dn:Int)-1))] (Hp (fun k=>k=bp) w_0 [(b4,bk 57 (exC 0 0 [] none 0 0)),(bp,gO M E (s.nx E))] [] (fun u=>GX M E.l s.names E.fs F u)):=by
         refine (hW _ _ _ _).2 (yN (k:=7) [0,5] (by kernel_rfl) (by simp) ⟨⟨_,rfl,?_⟩,⟨_,rfl,?_⟩,trivial⟩)
         ·refine zC .none V (wM (z:=Ja) V V V V U22 (by kernel_rfl) (by kernel_rfl) V V) (fun b87=>?_);exact zU<|yW<|yH hW (by kernel_rfl) (O6 V V V V V V) (fun w h=>h) (sd12_199 b87)
         ·exact Zm V V<|zU<|yW<|yH hW (by kernel_rfl) (O6 V V V V V V) (fun w h=>h) (sd12_230)
        have sd12_226:W 8 #[false,true,false,false,false,true,true,true,false,false,false,false] [(0,.pointer (some ⟨bp,0,none⟩)),(1,.int .i64 dn),(4,.pointer (some ⟨b4,0,none⟩)),(88,.pointer (some ⟨bp,0,none⟩)),(92,.pointer (some ⟨bp,0,none⟩)),(94,.int .i64 ((dn:Int)-1))] (Hp (fun k=>k=bp) w_0 [(b4,bk 57 (exC 0 0 [] none 0 0)),(bp,gO M E s)] [] (fun u=>GX M E.l s.names E.fs F u)):=by
         refine (hW _ _ _ _).2 (yN (k:=7) [0,2] (by kernel_rfl) (by simp) ⟨⟨_,rfl,?_⟩,⟨_,rfl,?_⟩,trivial⟩)
         ·refine zC .none V (wM (z:=Ja) V V V V U22 (by kernel_rfl) (by kernel_rfl) V V) (fun b87=>?_);exact zU<|yW<|yH hW (by kernel_rfl) (O7 V V V V V V V) (fun w h=>h) (sd12_227 b87)
         ·refine tN M E s 3 bp 1 (by decide) (by decide) hE.l hok'.at_ hF (fun _ h=>h.l) .none V  V V ?_;exact zU<|yW<|yH hW (by kernel_rfl) (O6 V V V V V V) (fun w h=>h) (sd12_230)
        have sd12_7:∀(b87:Nat),W 9 #[true,true,true,false,false,false,false,false,false,false,false,false] [(0,.pointer (some ⟨bp,0,none⟩)),(1,.int .i64 dn),(4,.pointer (some ⟨b4,0,none⟩)),(87,.slice (some ⟨b87,0,none⟩) 3 3),(89,.int .i64 (s.v E 3:Nat))] (Hp (fun k=>k=bp) w_0 [(b87,bk 9 (xX unL)),(b4,bk 57 (exC 0 0 [] none 0 0)),(bp,gO M E (s.nx E))] [] (fun u=>GX M E.l s.names E.fs F u)):=by
         intro b87;refine (hW _ _ _ _).2 (yN (k:=8) [3,5,6] (by kernel_rfl) (by simp) ⟨⟨_,rfl,?_⟩,⟨_,rfl,?_⟩,⟨_,rfl,?_⟩,trivial⟩)
         ·refine ZF rfl (zJ (es:=1) rfl rfl U22 (by kernel_rfl) rfl (by first|decide|omega|(simp;done)|(simp;omega)) rfl) ?_;exact zU<|yW<|yH hW (by kernel_rfl) (O4 V V V V) (fun w h=>h) (sd12_15 b87)
         ·exact Zm V V<|zU<|yW<|yH hW (by kernel_rfl) (O6 V V V V V V) (fun w h=>h) (sd12_39 b87)
         ·exact Zm V V<|zU<|yW<|yH hW (by kernel_rfl) (O6 V V V V V V) (fun w h=>h) (sd12_71 b87)
        have sd12_35:∀(b87:Nat),W 9 #[true,true,false,false,false,true,false,false,false,false,false,false] [(0,.pointer (some ⟨bp,0,none⟩)),(1,.int .i64 dn),(4,.pointer (some ⟨b4,0,none⟩)),(87,.slice (some ⟨b87,0,none⟩) 3 3),(88,.pointer (some ⟨bp,0,none⟩)),(92,.pointer (some ⟨bp,0,none⟩))] (Hp (fun k=>k=bp) w_0 [(b87,bk 9 (xX unL)),(b4,bk 57 (exC 0 0 [] none 0 0)),(bp,gO M E s)] [] (fun u=>GX M E.l s.names E.fs F u)):=by
         intro b87;refine (hW _ _ _ _).2 (yN (k:=8) [2,6] (by kernel_rfl) (by simp) ⟨⟨_,rfl,?_⟩,⟨_,rfl,?_⟩,trivial⟩)
         ·refine tN M E s 3 bp 2 (by decide) (by decide) hE.l hok'.at_ hF (fun _ h=>h.l) .none V  V V ?_;exact zU<|yW<|yH hW (by kernel_rfl) (O6 V V V V V V) (fun w h=>h) (sd12_39 b87)
         ·exact Zm V V<|zU<|yW<|yH hW (by kernel_rfl) (O7 V V V V V V V) (fun w h=>h) (sd12_99 b87)
        have sd12_67:∀(b87:Nat),W 9 #[true,true,false,false,false,false,true,false,false,false,false,false] [(0,.pointer (some ⟨bp,0,none⟩)),(1,.int .i64 dn),(4,.pointer (some ⟨b4,0,none⟩)),(87,.slice (some ⟨b87,0,none⟩) 3 3),(88,.pointer (some ⟨bp,0,none⟩)),(93,.int .i64 dn)] (Hp (fun k=>k=bp) w_0 [(b87,bk 9 (xX unL)),(b4,bk 57 (exC 0 0 [] none 0 0)),(bp,gO M E s)] [] (fun u=>GX M E.l s.names E.fs F u)):=by
         intro b87;refine (hW _ _ _ _).2 (yN (k:=8) [2,5,7] (by kernel_rfl) (by simp) ⟨⟨_,rfl,?_⟩,⟨_,rfl,?_⟩,⟨_,rfl,?_⟩,trivial⟩)
         ·refine tN M E s 3 bp 2 (by decide) (by decide) hE.l hok'.at_ hF (fun _ h=>h.l) .none V  V V ?_;exact zU<|yW<|yH hW (by kernel_rfl) (O6 V V V V V V) (fun w h=>h) (sd12_71 b87)
         ·exact Zm V V<|zU<|yW<|yH hW (by kernel_rfl) (O7 V V V V V V V) (fun w h=>h) (sd12_99 b87)
         ·refine ZF V (wG V V (i64_in _ (by omega) (by omega))) ?_;exact zU<|yW<|yH hW (by kernel_rfl) (O6 V V V V V V) (fun w h=>h) (sd12_195 b87)
        have sd12_97:∀(b87:Nat),W 9 #[true,false,false,false,false,true,true,false,false,false,false,false] [(0,.pointer (some ⟨bp,0,none⟩)),(1,.int .i64 dn),(4,.pointer (some ⟨b4,0,none⟩)),(87,.slice (some ⟨b87,0,none⟩) 3 3),(92,.pointer (some ⟨bp,0,none⟩)),(93,.int .i64 dn)] (Hp (fun k=>k=bp) w_0 [(b87,bk 9 (xX unL)),(b4,bk 57 (exC 0 0 [] none 0 0)),(bp,gO M E s)] [] (fun u=>GX M E.l s.names E.fs F u)):=by
         intro b87;refine (hW _ _ _ _).2 (yN (k:=8) [1,7] (by kernel_rfl) (by simp) ⟨⟨_,rfl,?_⟩,⟨_,rfl,?_⟩,trivial⟩)
         ·exact Zm V V<|zU<|yW<|yH hW (by kernel_rfl) (O7 V V V V V V V) (fun w h=>h) (sd12_99 b87)
         ·refine ZF V (wG V V (i64_in _ (by omega) (by omega))) ?_;exact zU<|yW<|yH hW (by kernel_rfl) (O6 V V V V V V) (fun w h=>h) (sd12_225 b87)
        have sd12_193:∀(b87:Nat),W 9 #[true,false,false,false,false,false,true,true,false,false,false,false] [(0,.pointer (some ⟨bp,0,none⟩)),(1,.int .i64 dn),(4,.pointer (some ⟨b4,0,none⟩)),(87,.slice (some ⟨b87,0,none⟩) 3 3),(94,.int .i64 ((dn:Int)-1))] (Hp (fun k=>k=bp) w_0 [(b87,bk 9 (xX unL)),(b4,bk 57 (exC 0 0 [] none 0 0)),(bp,gO M E s)] [] (fun u=>GX M E.l s.names E.fs F u)):=by
         intro b87;refine (hW _ _ _ _).2 (yN (k:=8) [1,5] (by kernel_rfl) (by simp) ⟨⟨_,rfl,?_⟩,⟨_,rfl,?_⟩,trivial⟩)
         ·exact Zm V V<|zU<|yW<|yH hW (by kernel_rfl) (O6 V V V V V V) (fun w h=>h) (sd12_195 b87)
         ·exact Zm V V<|zU<|yW<|yH hW (by kernel_rfl) (O6 V V V V V V) (fun w h=>h) (sd12_225 b87)
        have sd12_38:W 9 #[false,true,true,false,false,true,false,false,false,false,false,false] [(0,.pointer (some ⟨bp,0,none⟩)),(1,.int .i64 dn),(4,.pointer (some ⟨b4,0,none⟩)),(89,.int .i64 (s.v E 3:Nat)),(92,.pointer (some ⟨bp,0,none⟩))] (Hp (fun k=>k=bp) w_0 [(b4,bk 57 (exC 0 0 [] none 0 0)),(bp,gO M E (s.nx E))] [] (fun u=>GX M E.l s.names E.fs F u)):=by
         refine (hW _ _ _ _).2 (yN (k:=8) [0,6] (by kernel_rfl) (by simp) ⟨⟨_,rfl,?_⟩,⟨_,rfl,?_⟩,trivial⟩)
         ·refine zC .none V (wM (z:=Ja) V V V V U22 (by kernel_rfl) (by kernel_rfl) V V) (fun b87=>?_);exact zU<|yW<|yH hW (by kernel_rfl) (O6 V V V V V V) (fun w h=>h) (sd12_39 b87)
         ·exact Zm V V<|zU<|yW<|yH hW (by kernel_rfl) (O6 V V V V V V) (fun w h=>h) (sd12_102)
        have sd12_70:W 9 #[false,true,true,false,false,false,true,false,false,false,false,false] [(0,.pointer (some ⟨bp,0,none⟩)),(1,.int .i64 dn),(4,.pointer (some ⟨b4,0,none⟩)),(89,.int .i64 (s.v E 3:Nat)),(93,.int .i64 dn)] (Hp (fun k=>k=bp) w_0 [(b4,bk 57 (exC 0 0 [] none 0 0)),(bp,gO M E (s.nx E))] [] (fun u=>GX M E.l s.names E.fs F u)):=by
         refine (hW _ _ _ _).2 (yN (k:=8) [0,5,7] (by kernel_rfl) (by simp) ⟨⟨_,rfl,?_⟩,⟨_,rfl,?_⟩,⟨_,rfl,?_⟩,trivial⟩)
         ·refine zC .none V (wM (z:=Ja) V V V V U22 (by kernel_rfl) (by kernel_rfl) V V) (fun b87=>?_);exact zU<|yW<|yH hW (by kernel_rfl) (O6 V V V V V V) (fun w h=>h) (sd12_71 b87)
         ·exact Zm V V<|zU<|yW<|yH hW (by kernel_rfl) (O6 V V V V V V) (fun w h=>h) (sd12_102)
         ·refine ZF V (wG V V (i64_in _ (by omega) (by omega))) ?_;exact zU<|yW<|yH hW (by kernel_rfl) (O5 V V V V V) (fun w h=>h) (sd12_198)
        have sd12_98:W 9 #[false,true,false,false,false,true,true,false,false,false,false,false] [(0,.pointer (some ⟨bp,0,none⟩)),(1,.int .i64 dn),(4,.pointer (some ⟨b4,0,none⟩)),(88,.pointer (some ⟨bp,0,none⟩)),(92,.pointer (some ⟨bp,0,none⟩)),(93,.int .i64 dn)] (Hp (fun k=>k=bp) w_0 [(b4,bk 57 (exC 0 0 [] none 0 0)),(bp,gO M E s)] [] (fun u=>GX M E.l s.names E.fs F u)):=by
         refine (hW _ _ _ _).2 (yN (k:=8) [0,2,7] (by kernel_rfl) (by simp) ⟨⟨_,rfl,?_⟩,⟨_,rfl,?_⟩,⟨_,rfl,?_⟩,trivial⟩)
         ·refine zC .none V (wM (z:=Ja) V V V V U22 (by kernel_rfl) (by kernel_rfl) V V) (fun b87=>?_);exact zU<|yW<|yH hW (by kernel_rfl) (O7 V V V V V V V) (fun w h=>h) (sd12_99 b87)
         ·refine tN M E s 3 bp 1 (by decide) (by decide) hE.l hok'.at_ hF (fun _ h=>h.l) .none V  V V ?_;exact zU<|yW<|yH hW (by kernel_rfl) (O6 V V V V V V) (fun w h=>h) (sd12_102)
         ·refine ZF V (wG V V (i64_in _ (by omega) (by omega))) ?_;exact zU<|yW<|yH hW (by kernel_rfl) (O6 V V V V V V) (fun w h=>h) (sd12_226)
        have sd12_194:W 9 #[false,true,false,false,false,false,true,true,false,false,false,false] [(0,.pointer (some ⟨bp,0,none⟩)),(1,.int .i64 dn),(4,.pointer (some ⟨b4,0,none⟩)),(88,.pointer (some ⟨bp,0,none⟩)),(94,.int .i64 ((dn:Int)-1))] (Hp (fun k=>k=bp) w_0 [(b4,bk 57 (exC 0 0 [] none 0 0)),(bp,gO M E s)] [] (fun u=>GX M E.l s.names E.fs F u)):=by
         refine (hW _ _ _ _).2 (yN (k:=8) [0,2,5] (by kernel_rfl) (by simp) ⟨⟨_,rfl,?_⟩,⟨_,rfl,?_⟩,⟨_,rfl,?_⟩,trivial⟩)
         ·refine zC .none V (wM (z:=Ja) V V V V U22 (by kernel_rfl) (by kernel_rfl) V V) (fun b87=>?_);exact zU<|yW<|yH hW (by kernel_rfl) (O6 V V V V V V) (fun w h=>h) (sd12_195 b87)
         ·refine tN M E s 3 bp 1 (by decide) (by decide) hE.l hok'.at_ hF (fun _ h=>h.l) .none V  V V ?_;exact zU<|yW<|yH hW (by kernel_rfl) (O5 V V V V V) (fun w h=>h) (sd12_198)
         ·exact Zm V V<|zU<|yW<|yH hW (by kernel_rfl) (O6 V V V V V V) (fun w h=>h) (sd12_226)
        have sd12_224:W 9 #[false,false,false,false,false,true,true,true,false,false,false,false] [(0,.pointer (some ⟨bp,0,none⟩)),(1,.int .i64 dn),(4,.pointer (some ⟨b4,0,none⟩)),(92,.pointer (some ⟨bp,0,none⟩)),(94,.int .i64 ((dn:Int)-1))] (Hp (fun k=>k=bp) w_0 [(b4,bk 57 (exC 0 0 [] none 0 0)),(bp,gO M E s)] [] (fun u=>GX M E.l s.names E.fs F u)):=by
         refine (hW _ _ _ _).2 (yN (k:=8) [0,1] (by kernel_rfl) (by simp) ⟨⟨_,rfl,?_⟩,⟨_,rfl,?_⟩,trivial⟩)
         ·refine zC .none V (wM (z:=Ja) V V V V U22 (by kernel_rfl) (by kernel_rfl) V V) (fun b87=>?_);exact zU<|yW<|yH hW (by kernel_rfl) (O6 V V V V V V) (fun w h=>h) (sd12_225 b87)
         ·exact Zm V V<|zU<|yW<|yH hW (by kernel_rfl) (O6 V V V V V V) (fun w h=>h) (sd12_226)
        have sd12_3:∀(b87:Nat),W 10 #[true,true,false,false,false,false,false,false,false,false,false,false] [(0,.pointer (some ⟨bp,0,none⟩)),(1,.int .i64 dn),(4,.pointer (some ⟨b4,0,none⟩)),(87,.slice (some ⟨b87,0,none⟩) 3 3),(88,.pointer (some ⟨bp,0,none⟩))] (Hp (fun k=>k=bp) w_0 [(b87,bk 9 (xX unL)),(b4,bk 57 (exC 0 0 [] none 0 0)),(bp,gO M E s)] [] (fun u=>GX M E.l s.names E.fs F u)):=by
         intro b87;refine (hW _ _ _ _).2 (yN (k:=9) [2,5,6] (by kernel_rfl) (by simp) ⟨⟨_,rfl,?_⟩,⟨_,rfl,?_⟩,⟨_,rfl,?_⟩,trivial⟩)
         ·refine tN M E s 3 bp 2 (by decide) (by decide) hE.l hok'.at_ hF (fun _ h=>h.l) .none V  V V ?_;exact zU<|yW<|yH hW (by kernel_rfl) (O5 V V V V V) (fun w h=>h) (sd12_7 b87)
         ·exact Zm V V<|zU<|yW<|yH hW (by kernel_rfl) (O6 V V V V V V) (fun w h=>h) (sd12_35 b87)
         ·exact Zm V V<|zU<|yW<|yH hW (by kernel_rfl) (O6 V V V V V V) (fun w h=>h) (sd12_67 b87)
        have sd12_33:∀(b87:Nat),W 10 #[true,false,false,false,false,true,false,false,false,false,false,false] [(0,.pointer (some ⟨bp,0,none⟩)),(1,.int .i64 dn),(4,.pointer (some ⟨b4,0,none⟩)),(87,.slice (some ⟨b87,0,none⟩) 3 3),(92,.pointer (some ⟨bp,0,none⟩))] (Hp (fun k=>k=bp) w_0 [(b87,bk 9 (xX unL)),(b4,bk 57 (exC 0 0 [] none 0 0)),(bp,gO M E s)] [] (fun u=>GX M E.l s.names E.fs F u)):=by
         intro b87;refine (hW _ _ _ _).2 (yN (k:=9) [1,6] (by kernel_rfl) (by simp) ⟨⟨_,rfl,?_⟩,⟨_,rfl,?_⟩,trivial⟩)
         ·exact Zm V V<|zU<|yW<|yH hW (by kernel_rfl) (O6 V V V V V V) (fun w h=>h) (sd12_35 b87)
         ·exact Zm V V<|zU<|yW<|yH hW (by kernel_rfl) (O6 V V V V V V) (fun w h=>h) (sd12_97 b87)
        have sd12_65:∀(b87:Nat),W 10 #[true,false,false,false,false,false,true,false,false,false,false,false] [(0,.pointer (some ⟨bp,0,none⟩)),(1,.int .i64 dn),(4,.pointer (some ⟨b4,0,none⟩)),(87,.slice (some ⟨b87,0,none⟩) 3 3),(93,.int .i64 dn)] (Hp (fun k=>k=bp) w_0 [(b87,bk 9 (xX unL)),(b4,bk 57 (exC 0 0 [] none 0 0)),(bp,gO M E s)] [] (fun u=>GX M E.l s.names E.fs F u)):=by
         intro b87;refine (hW _ _ _ _).2 (yN (k:=9) [1,5,7] (by kernel_rfl) (by simp) ⟨⟨_,rfl,?_⟩,⟨_,rfl,?_⟩,⟨_,rfl,?_⟩,trivial⟩)
         ·exact Zm V V<|zU<|yW<|yH hW (by kernel_rfl) (O6 V V V V V V) (fun w h=>h) (sd12_67 b87)
         ·exact Zm V V<|zU<|yW<|yH hW (by kernel_rfl) (O6 V V V V V V) (fun w h=>h) (sd12_97 b87)
         ·refine ZF V (wG V V (i64_in _ (by omega) (by omega))) ?_;exact zU<|yW<|yH hW (by kernel_rfl) (O5 V V V V V) (fun w h=>h) (sd12_193 b87)
        have sd12_6:W 10 #[false,true,true,false,false,false,false,false,false,false,false,false] [(0,.pointer (some ⟨bp,0,none⟩)),(1,.int .i64 dn),(4,.pointer (some ⟨b4,0,none⟩)),(89,.int .i64 (s.v E 3:Nat))] (Hp (fun k=>k=bp) w_0 [(b4,bk 57 (exC 0 0 [] none 0 0)),(bp,gO M E (s.nx E))] [] (fun u=>GX M E.l s.names E.fs F u)):=by
         refine (hW _ _ _ _).2 (yN (k:=9) [0,5,6] (by kernel_rfl) (by simp) ⟨⟨_,rfl,?_⟩,⟨_,rfl,?_⟩,⟨_,rfl,?_⟩,trivial⟩)
         ·refine zC .none V (wM (z:=Ja) V V V V U22 (by kernel_rfl) (by kernel_rfl) V V) (fun b87=>?_);exact zU<|yW<|yH hW (by kernel_rfl) (O5 V V V V V) (fun w h=>h) (sd12_7 b87)
         ·exact Zm V V<|zU<|yW<|yH hW (by kernel_rfl) (O5 V V V V V) (fun w h=>h) (sd12_38)
         ·exact Zm V V<|zU<|yW<|yH hW (by kernel_rfl) (O5 V V V V V) (fun w h=>h) (sd12_70)
        have sd12_34:W 10 #[false,true,false,false,false,true,false,false,false,false,false,false] [(0,.pointer (some ⟨bp,0,none⟩)),(1,.int .i64 dn),(4,.pointer (some ⟨b4,0,none⟩)),(88,.pointer (some ⟨bp,0,none⟩)),(92,.pointer (some ⟨bp,0,none⟩))] (Hp (fun k=>k=bp) w_0 [(b4,bk 57 (exC 0 0 [] none 0 0)),(bp,gO M E s)] [] (fun u=>GX M E.l s.names E.fs F u)):=by
         refine (hW _ _ _ _).2 (yN (k:=9) [0,2,6] (by kernel_rfl) (by simp) ⟨⟨_,rfl,?_⟩,⟨_,rfl,?_⟩,⟨_,rfl,?_⟩,trivial⟩)
         ·refine zC .none V (wM (z:=Ja) V V V V U22 (by kernel_rfl) (by kernel_rfl) V V) (fun b87=>?_);exact zU<|yW<|yH hW (by kernel_rfl) (O6 V V V V V V) (fun w h=>h) (sd12_35 b87)
         ·refine tN M E s 3 bp 1 (by decide) (by decide) hE.l hok'.at_ hF (fun _ h=>h.l) .none V  V V ?_;exact zU<|yW<|yH hW (by kernel_rfl) (O5 V V V V V) (fun w h=>h) (sd12_38)
         ·exact Zm V V<|zU<|yW<|yH hW (by kernel_rfl) (O6 V V V V V V) (fun w h=>h) (sd12_98)
        have sd12_66:W 10 #[false,true,false,false,false,false,true,false,false,false,false,false] [(0,.pointer (some ⟨bp,0,none⟩)),(1,.int .i64 dn),(4,.pointer (some ⟨b4,0,none⟩)),(88,.pointer (some ⟨bp,0,none⟩)),(93,.int .i64 dn)] (Hp (fun k=>k=bp) w_0 [(b4,bk 57 (exC 0 0 [] none 0 0)),(bp,gO M E s)] [] (fun u=>GX M E.l s.names E.fs F u)):=by
         refine (hW _ _ _ _).2 (yN (k:=9) [0,2,5,7] (by kernel_rfl) (by simp) ⟨⟨_,rfl,?_⟩,⟨_,rfl,?_⟩,⟨_,rfl,?_⟩,⟨_,rfl,?_⟩,trivial⟩)
         ·refine zC .none V (wM (z:=Ja) V V V V U22 (by kernel_rfl) (by kernel_rfl) V V) (fun b87=>?_);exact zU<|yW<|yH hW (by kernel_rfl) (O6 V V V V V V) (fun w h=>h) (sd12_67 b87)
         ·refine tN M E s 3 bp 1 (by decide) (by decide) hE.l hok'.at_ hF (fun _ h=>h.l) .none V  V V ?_;exact zU<|yW<|yH hW (by kernel_rfl) (O5 V V V V V) (fun w h=>h) (sd12_70)
         ·exact Zm V V<|zU<|yW<|yH hW (by kernel_rfl) (O6 V V V V V V) (fun w h=>h) (sd12_98)
         ·refine ZF V (wG V V (i64_in _ (by omega) (by omega))) ?_;exact zU<|yW<|yH hW (by kernel_rfl) (O5 V V V V V) (fun w h=>h) (sd12_194)
        have sd12_96:W 10 #[false,false,false,false,false,true,true,false,false,false,false,false] [(0,.pointer (some ⟨bp,0,none⟩)),(1,.int .i64 dn),(4,.pointer (some ⟨b4,0,none⟩)),(92,.pointer (some ⟨bp,0,none⟩)),(93,.int .i64 dn)] (Hp (fun k=>k=bp) w_0 [(b4,bk 57 (exC 0 0 [] none 0 0)),(bp,gO M E s)] [] (fun u=>GX M E.l s.names E.fs F u)):=by
         refine (hW _ _ _ _).2 (yN (k:=9) [0,1,7] (by kernel_rfl) (by simp) ⟨⟨_,rfl,?_⟩,⟨_,rfl,?_⟩,⟨_,rfl,?_⟩,trivial⟩)
         ·refine zC .none V (wM (z:=Ja) V V V V U22 (by kernel_rfl) (by kernel_rfl) V V) (fun b87=>?_);exact zU<|yW<|yH hW (by kernel_rfl) (O6 V V V V V V) (fun w h=>h) (sd12_97 b87)
         ·exact Zm V V<|zU<|yW<|yH hW (by kernel_rfl) (O6 V V V V V V) (fun w h=>h) (sd12_98)
         ·refine ZF V (wG V V (i64_in _ (by omega) (by omega))) ?_;exact zU<|yW<|yH hW (by kernel_rfl) (O5 V V V V V) (fun w h=>h) (sd12_224)
        have sd12_192:W 10 #[false,false,false,false,false,false,true,true,false,false,false,false] [(0,.pointer (some ⟨bp,0,none⟩)),(1,.int .i64 dn),(4,.pointer (some ⟨b4,0,none⟩)),(94,.int .i64 ((dn:Int)-1))] (Hp (fun k=>k=bp) w_0 [(b4,bk 57 (exC 0 0 [] none 0 0)),(bp,gO M E s)] [] (fun u=>GX M E.l s.names E.fs F u)):=by
         refine (hW _ _ _ _).2 (yN (k:=9) [0,1,5] (by kernel_rfl) (by simp) ⟨⟨_,rfl,?_⟩,⟨_,rfl,?_⟩,⟨_,rfl,?_⟩,trivial⟩)
         ·refine zC .none V (wM (z:=Ja) V V V V U22 (by kernel_rfl) (by kernel_rfl) V V) (fun b87=>?_);exact zU<|yW<|yH hW (by kernel_rfl) (O5 V V V V V) (fun w h=>h) (sd12_193 b87)
         ·exact Zm V V<|zU<|yW<|yH hW (by kernel_rfl) (O5 V V V V V) (fun w h=>h) (sd12_194)
         ·exact Zm V V<|zU<|yW<|yH hW (by kernel_rfl) (O5 V V V V V) (fun w h=>h) (sd12_224)
        have sd12_1:∀(b87:Nat),W 11 #[true,false,false,false,false,false,false,false,false,false,false,false] [(0,.pointer (some ⟨bp,0,none⟩)),(1,.int .i64 dn),(4,.pointer (some ⟨b4,0,none⟩)),(87,.slice (some ⟨b87,0,none⟩) 3 3)] (Hp (fun k=>k=bp) w_0 [(b87,bk 9 (xX unL)),(b4,bk 57 (exC 0 0 [] none 0 0)),(bp,gO M E s)] [] (fun u=>GX M E.l s.names E.fs F u)):=by
         intro b87;refine (hW _ _ _ _).2 (yN (k:=10) [1,5,6] (by kernel_rfl) (by simp) ⟨⟨_,rfl,?_⟩,⟨_,rfl,?_⟩,⟨_,rfl,?_⟩,trivial⟩)
         ·exact Zm V V<|zU<|yW<|yH hW (by kernel_rfl) (O5 V V V V V) (fun w h=>h) (sd12_3 b87)
         ·exact Zm V V<|zU<|yW<|yH hW (by kernel_rfl) (O5 V V V V V) (fun w h=>h) (sd12_33 b87)
         ·exact Zm V V<|zU<|yW<|yH hW (by kernel_rfl) (O5 V V V V V) (fun w h=>h) (sd12_65 b87)
        have sd12_2:W 11 #[false,true,false,false,false,false,false,false,false,false,false,false] [(0,.pointer (some ⟨bp,0,none⟩)),(1,.int .i64 dn),(4,.pointer (some ⟨b4,0,none⟩)),(88,.pointer (some ⟨bp,0,none⟩))] (Hp (fun k=>k=bp) w_0 [(b4,bk 57 (exC 0 0 [] none 0 0)),(bp,gO M E s)] [] (fun u=>GX M E.l s.names E.fs F u)):=by
         refine (hW _ _ _ _).2 (yN (k:=10) [0,2,5,6] (by kernel_rfl) (by simp) ⟨⟨_,rfl,?_⟩,⟨_,rfl,?_⟩,⟨_,rfl,?_⟩,⟨_,rfl,?_⟩,trivial⟩)
         ·refine zC .none V (wM (z:=Ja) V V V V U22 (by kernel_rfl) (by kernel_rfl) V V) (fun b87=>?_);exact zU<|yW<|yH hW (by kernel_rfl) (O5 V V V V V) (fun w h=>h) (sd12_3 b87)
         ·refine tN M E s 3 bp 1 (by decide) (by decide) hE.l hok'.at_ hF (fun _ h=>h.l) .none V  V V ?_;exact zU<|yW<|yH hW (by kernel_rfl) (O4 V V V V) (fun w h=>h) (sd12_6)
         ·exact Zm V V<|zU<|yW<|yH hW (by kernel_rfl) (O5 V V V V V) (fun w h=>h) (sd12_34)
         ·exact Zm V V<|zU<|yW<|yH hW (by kernel_rfl) (O5 V V V V V) (fun w h=>h) (sd12_66)
        have sd12_32:W 11 #[false,false,false,false,false,true,false,false,false,false,false,false] [(0,.pointer (some ⟨bp,0,none⟩)),(1,.int .i64 dn),(4,.pointer (some ⟨b4,0,none⟩)),(92,.pointer (some ⟨bp,0,none⟩))] (Hp (fun k=>k=bp) w_0 [(b4,bk 57 (exC 0 0 [] none 0 0)),(bp,gO M E s)] [] (fun u=>GX M E.l s.names E.fs F u)):=by
         refine (hW _ _ _ _).2 (yN (k:=10) [0,1,6] (by kernel_rfl) (by simp) ⟨⟨_,rfl,?_⟩,⟨_,rfl,?_⟩,⟨_,rfl,?_⟩,trivial⟩)
         ·refine zC .none V (wM (z:=Ja) V V V V U22 (by kernel_rfl) (by kernel_rfl) V V) (fun b87=>?_);exact zU<|yW<|yH hW (by kernel_rfl) (O5 V V V V V) (fun w h=>h) (sd12_33 b87)
         ·exact Zm V V<|zU<|yW<|yH hW (by kernel_rfl) (O5 V V V V V) (fun w h=>h) (sd12_34)
         ·exact Zm V V<|zU<|yW<|yH hW (by kernel_rfl) (O5 V V V V V) (fun w h=>h) (sd12_96)
        have sd12_64:W 11 #[false,false,false,false,false,false,true,false,false,false,false,false] [(0,.pointer (some ⟨bp,0,none⟩)),(1,.int .i64 dn),(4,.pointer (some ⟨b4,0,none⟩)),(93,.int .i64 dn)] (Hp (fun k=>k=bp) w_0 [(b4,bk 57 (exC 0 0 [] none 0 0)),(bp,gO M E s)] [] (fun u=>GX M E.l s.names E.fs F u)):=by
         refine (hW _ _ _ _).2 (yN (k:=10) [0,1,5,7] (by kernel_rfl) (by simp) ⟨⟨_,rfl,?_⟩,⟨_,rfl,?_⟩,⟨_,rfl,?_⟩,⟨_,rfl,?_⟩,trivial⟩)
         ·refine zC .none V (wM (z:=Ja) V V V V U22 (by kernel_rfl) (by kernel_rfl) V V) (fun b87=>?_);exact zU<|yW<|yH hW (by kernel_rfl) (O5 V V V V V) (fun w h=>h) (sd12_65 b87)
         ·exact Zm V V<|zU<|yW<|yH hW (by kernel_rfl) (O5 V V V V V) (fun w h=>h) (sd12_66)
         ·exact Zm V V<|zU<|yW<|yH hW (by kernel_rfl) (O5 V V V V V) (fun w h=>h) (sd12_96)
         ·refine ZF V (wG V V (i64_in _ (by omega) (by omega))) ?_;exact zU<|yW<|yH hW (by kernel_rfl) (O4 V V V V) (fun w h=>h) (sd12_192)
        have sd12_0:W 12 #[false,false,false,false,false,false,false,false,false,false,false,false] [(0,.pointer (some ⟨bp,0,none⟩)),(1,.int .i64 dn),(4,.pointer (some ⟨b4,0,none⟩))] (Hp (fun k=>k=bp) w_0 [(b4,bk 57 (exC 0 0 [] none 0 0)),(bp,gO M E s)] [] (fun u=>GX M E.l s.names E.fs F u)):=by
         refine (hW _ _ _ _).2 (yN (k:=11) [0,1,5,6] (by kernel_rfl) (by simp) ⟨⟨_,rfl,?_⟩,⟨_,rfl,?_⟩,⟨_,rfl,?_⟩,⟨_,rfl,?_⟩,trivial⟩)
         ·refine zC .none V (wM (z:=Ja) V V V V U22 (by kernel_rfl) (by kernel_rfl) V V) (fun b87=>?_);exact zU<|yW<|yH hW (by kernel_rfl) (O4 V V V V) (fun w h=>h) (sd12_1 b87)
         ·exact Zm V V<|zU<|yW<|yH hW (by kernel_rfl) (O4 V V V V) (fun w h=>h) (sd12_2)
         ·exact Zm V V<|zU<|yW<|yH hW (by kernel_rfl) (O4 V V V V) (fun w h=>h) (sd12_32)
         ·exact Zm V V<|zU<|yW<|yH hW (by kernel_rfl) (O4 V V V V) (fun w h=>h) (sd12_64)
        exact yH hW (by kernel_rfl) (O3 V V V) (fun w h=>h) sd12_0
       ·replace h84:=yP h84;have hk6:k≠6:=by omega
        refine xA (ι:=Unit) (fun _=>[(0,.pointer (some ⟨bp,0,none⟩)),(1,.int .i64 dn),(4,.pointer (some ⟨b4,0,none⟩)),(5,.int .i64 k),(98,.bool (decide (k=7∧E.me+1<E.fs.length)))]) (fun _=>Hp (fun k=>k=bp) w_0 [(b4,bk 57 (exC 0 0 [] none 0 0)),(bp,gO M E s)] [] (GX M E.l s.names E.fs F)) ?_ (fun _=>?_)
        ·refine Z6 0 1 4 5 71 84 V V V V V V<|wc_draw0 [0,1,2,3,4,5,6,7,8,9,10,11,12,13,14,15] _ (by kernel_rfl) (by kernel_rfl) Ky Ky (fun _ h=>HpG.drew h) (fun _ h=>h) ?_;refine Zd V V V (zO V)<|Zd V V V (yS V V)<|Zd V V V (zO V)<|wd_split 101 V (fun h101=>?_) (fun h101=>?_)
         ·replace h101:=Jw h101;refine Zg V V V V V (zO V)<|Zg V V V V V (yR V)<|Zg V V V V V (Y71x6 V) ?_;refine Zg V V V V V (zW 1 V V V U3 V)<|Zg V V V V V (yI V V (i64_in _ (by omega) (by omega))) ?_;refine Zg V V V V V (zO V)<|Zg V V V V V (yR V)<|Zg V V V V V (Y71x7 V) ?_;refine Zg V V V V V (zW 1 V V V U30 V)<|Zg V V V V V (yM V U30)<|Zg V V V V V (xS V V)<|Zd V V V (zP V V)<|Zd V V V (tW V)<|wd_end ?_
          refine zA (ι:=Unit) () (.cons V<|.cons V<|.cons V<|.cons V<|.cons (by
           show some (Value.bool _)=some (Value.bool _);congr 2;rw[Jl];simp
           omega)<|.nil) (fun w h=>h)
         ·replace h101:=yP h101;refine ZD V V<|ZD V V<|ZD V V<|ZD V V<|ZD V V<|ZD V V<|ZD V V<|ZD V V<|ZD V V<|ZD V V<|ZD V V<|Zd V V V (zL V V)<|Zd V V V (tW V)<|wd_end ?_
          refine zA (ι:=Unit) () (.cons V<|.cons V<|.cons V<|.cons V<|.cons (by
           show some (Value.bool _)=some (Value.bool _);congr 2;rw[Jl];simp
           omega)<|.nil) (fun w h=>h)
        ·refine zT V (fun h98=>?_) (fun h98=>?_)
         ·have hs7:k=7∧E.me+1<E.fs.length:=Jo h98;have he:tD E rec k s=tC rec (fnG E s) (s.nx E):=by unfold tD;rw[Ko hs6,Ko hk3,Ko hs9,Ko hk6,Kp hs7]
          have hd2:2≤dn:=Nat.lt_of_not_le fun h=>by have:=hk4 h;omega
          have hlt:s.v E (E.fs.length-E.me-1)<E.fs.length-E.me-1:=wU _ _ (by omega);have hokn:GOk E (4*c) (s.nx E):=GOk.step (by rw[Kk];exact hok') EL.nx;obtain⟨bQ,oQ,hfA⟩:=GX.fsA hX (by omega);have hfi:E.fs[E.me+1+s.v E (E.fs.length-E.me-1)]? = some (fnG E s):=getD_is (by omega) wJ;obtain⟨a,hfix⟩:=hX.fs.fix hfi;refine zY<|wR 26 [0,1,2,3,4,5,6,7,8,9,10,11,12,13,14,15,16,17,18,19,20,21,22,23,24,25] (GK M E s.names F bp) (by kernel_rfl) (by kernel_rfl) GK.stab (fun w h=>⟨⟨s,rfl,HpG.blk h (k:=1) rfl⟩,HpG.x h⟩) (fun n0 hn0=>?_);refine Zd V V V (zO V)<|Zd V V V (yR V)<|Zd V V V (Y71x7 V) ?_;refine Zd V V V (yO (v:=.slice (some ⟨bQ,oQ,none⟩) E.fs.length M.fc) V U30 V (fun u h=>by rw[h.1.c7,hfA])) ?_;refine Zd V V V (zO V)<|Zd V V V (yR V)<|Zd V V V (Y71x6 V) ?_;refine Zd V V V (yO (v:=.int .i64 E.me) V U3 V (fun u h=>h.1.c6)) ?_;refine Zd V V V (yI V V (i64_in _ (by omega) (by omega))) ?_;refine Zd V V V (zO V)<|Zd V V V (zO V)<|Zd V V V (yR V)<|Zd V V V (Y71x7 V) ?_;refine Zd V V V (yO (v:=.slice (some ⟨bQ,oQ,none⟩) E.fs.length M.fc) V U30 V (fun u h=>by rw[h.1.c7,hfA])) ?_;refine Zd V V V (yM V U30)<|Zd V V V (zO V)<|Zd V V V (yR V)<|Zd V V V (Y71x6 V) ?_;refine Zd V V V (yO (v:=.int .i64 E.me) V U3 V (fun u h=>h.1.c6)) ?_;refine Zd V V V (wG V V (i64_in _ (by omega) (by omega))) ?_;refine Zd V V V (wG (c:=((E.fs.length-E.me-1:Nat):Int)) V V (by rw[show ((E.fs.length:Int)-(E.me:Int)-1)=((E.fs.length-E.me-1:Nat):Int) by omega];exact i64_in _ (by omega) (by omega))) ?_;refine xF V<|wd_nx M E s (E.fs.length-E.me-1) bp 1 (by omega) (by omega) hE.l hok'.at_ hF (fun _ h=>h.l) (fun w w' h1 h2 h3 h4=>h2.turn (s:=s.nx E) hF V h3 h4) .none V  V V ?_;refine Zd V V V (yI (c:=((E.me+1+s.v E (E.fs.length-E.me-1):Nat):Int)) V V (by rw[show ((E.me:Int)+1+(s.v E (E.fs.length-E.me-1):Nat))=((E.me+1+s.v E (E.fs.length-E.me-1):Nat):Int) by omega];exact i64_in _ (by omega) (by omega))) ?_;refine Zd rfl rfl rfl (zJ (es:=3) rfl rfl U30 (by kernel_rfl) rfl (by first|decide|omega|(simp;done)|(simp;omega)) rfl) ?_;refine xF V ?_
          (refine sL ?_ .none rfl (yD (cs:=rG (fnG E s) a) rfl U62 rfl (by kernel_rfl) (fun w h j v hv=>by
          have h2:=(hfix F w h.2.fs).2 j v hv
          exact RdF.part (hfA▸h.2.fr) (Jm.1 h2).1 (by omega) h2)) ?_;(· rfl);skip)
          refine xF V<|tA ?_ .none V (fun k hk=>Jx hk hn0) (yK (z:=.agg #[.string ⟨#[]⟩,.slice none 0 0,.slice none 0 0]) (cs:=Jg) (by kernel_rfl) V) (fun b6 hb6=>?_)
          ·rfl
          refine wL ?_;simp only[Jz,Ke];refine ZR 0 V V V V V (by kernel_rfl) ?_;refine ZX<|Z6r 0 1 4 5 6 98 V V V V V V<|Zm V V<|ZF V (yX 0 V V U62 V (by kernel_rfl)) ?_;refine Zm V V<|qL M E (s.nx E) (tC rec (fnG E s) (s.nx E)) bp 2 hB (fun w h1 h2=>gcall_any M E (s.nx E) (fnG E s) a rec c dn (by omega) (by omega) hr (hrec hd2) hokn (hE.parD _) bp hF w h1 (HpG.x h2)) .none V  (by kernel_rfl) V V (fun A cap F2 hF2=>?_);refine ZR 1 V V V V V (by kernel_rfl) ?_;refine ZT<|zK<|zR<|zV<|yF V V 1 V U57 V (by kernel_rfl) (fun w hw=>?_);rw[he];exact⟨A,cap,rfl,Jq hw,HpG.blkL (j:=2) hw rfl,xT.lies.mono hF2 (HpG.x hw).1⟩
         ·have hs7:¬(k=7∧E.me+1<E.fs.length):=Jp h98;refine zY<|zX<|Zm V V<|ZF V (wO V V)<|Za V V<|ZT<|zT V (fun h143=>?_) (fun h143=>?_)
          ·replace h143:=Jo h143;have hk7:7<k:=by omega
           have he:tD E rec k s=(.mk 7 0 (opL.getD (s.v E 16) []) [(rec (s.nx E)).1,(rec (rec (s.nx E)).2).1],(rec (rec (s.nx E)).2).2):=by unfold tD;rw[Ko hs6,Ko hk3,Ko hs9,Ko hk6,Ko hs7,Kp hk7]
           have hd2:2≤dn:=Nat.lt_of_not_le fun h=>by have:=hk4 h;omega
           have hlt:s.v E 16<16:=wU _ _ (by decide);have hokn:GOk E (c+c) (s.nx E):=GOk.step (hok'.mono (show 0+(c+c)≤4*c by omega)) EL.nx;have hokm:GOk E c (rec (s.nx E)).2:=GOk.step hokn (hr _);have hnm2:(rec (s.nx E)).2.names=s.names:=(hr (s.nx E)).nm;refine zY<|Z6r 0 1 4 5 98 143 V V V V V V<|zC .none V (wM (z:=Ja) V V V V U22 (by kernel_rfl) (by kernel_rfl) V V) (fun b146=>?_);refine Za V V<|ZX<|Z7r 0 1 4 5 7 98 143 V V V V V V V<|Zm V V<|Zm V V<|Zm V V<|ZF V (yM V U22)<|tN M E s 16 bp 2 (by decide) (by decide) hE.l hok'.at_ hF (fun _ h=>h.l) .none V  V V ?_;refine ZF rfl (zJ (es:=1) rfl rfl U22 (by kernel_rfl) rfl (by first|decide|omega|(simp;done)|(simp;omega)) rfl) ?_;refine ZF V (zW (v:=.string ⟨(opL.getD (s.v E 16) []).toArray⟩) 0 V V (by rw[Kk,Nat.mul_one];exact uR (l:=opL) hlt) U9 V) ?_;refine Za V V<|ZX<|Z8r 0 1 4 5 7 8 98 143 V V V V V V V V<|Zm V V<|Zm V V<|ZF V (wG V V (i64_in _ (by omega) (by omega))) ?_;refine qL M E (s.nx E) (rec (s.nx E)) bp 2 hB (fun w h1 h2=>hrec hd2 M (s.nx E) F bp w (hokn.mono (by omega)) hF h1 (HpG.x h2)) .none V  (by kernel_rfl) V V (fun A1 cap1 F1 hF1=>?_);refine zC .none V (yK (z:=.agg #[.int .i64 0,.int .u32 0,.string ⟨#[]⟩,.slice none 0 0]) (cs:=Je) (by kernel_rfl) V) (fun b9=>?_);refine ZR 0 V V V V V (by kernel_rfl) ?_;refine ZX<|Z9 0 1 4 5 7 8 9 98 143 V V V V V V V V V<|wR 7 [0,1,2,3,4,5,6] (Blk b9 (bk 57 (xL (rec (s.nx E)).1 A1 cap1))) (by kernel_rfl) (by kernel_rfl) Blk.stab (fun w h=>HpG.blk h (k:=0) V) (fun n0 hn0=>?_);refine Zd V V V (zO V)<|Zd V V V (yf_loadRowJ V U57 V (by kernel_rfl)) ?_;refine Zd V V V (zO V)<|Zd V V V (zO V)<|Zd V V V (wG V V (i64_in _ (by omega) (by omega))) ?_;refine xF V<|wd_ge M E (rec (s.nx E)).2 (rec (rec (s.nx E)).2) bp 3 hB (fun w w' h1 h2 hK=>h2.keep hK (HpG.ne h1 (i:=0) (j:=3) V V V)) (fun w h1 h2=>hrec hd2 M _ F bp w hokm hF h1 (by rw[hnm2];exact (HpG.x h2).2)) .none V  (by kernel_rfl) V V (fun A2 cap2 F2 hF2=>?_);refine xF V<|tA ?_ .none V (fun k hk=>.inr (Jx hk hn0)) (nf_bs2 (z:=.agg #[.int .i64 0,.int .u32 0,.string ⟨#[]⟩,.slice none 0 0]) V V V V U55 (by kernel_rfl) (by kernel_rfl) V V V) (fun b164 hb164=>?_)
           ·rfl
           refine wL ?_;simp only[Jz,Ke];refine ZF V (yQ [.int .i64 0,.int .u32 0,.string ⟨#[]⟩,.slice none 0 0] [(0,1),(1,1),(2,1),(3,1)] V (by kernel_rfl) (by kernel_rfl) V) ?_;refine ZR 3 V V V V V (by kernel_rfl) ?_;refine ZT<|zK<|zR<|zV<|yF V V 3 V U57 V (by kernel_rfl) (fun w hw=>?_);rw[he];exact⟨some ⟨b164,0,none⟩,2,rfl,Jq hw,HpG.blkL (j:=4) hw rfl,cp22,_,HpG.rdF (j:=0) hw V (HpG.fresh (j:=0) (i:=4) hw V V V),ExsV.append (ExsV.lies.mono hF1 (HpG.x hw).2.1.one) (ExsV.lies.mono hF2 (HpG.x hw).1.one)⟩
          ·replace h143:=Jp h143;have hk7:¬7<k:=by omega
           have he:tD E rec k s=conG E s:=by unfold tD;rw[Ko hs6,Ko hk3,Ko hs9,Ko hk6,Ko hs7,Ko hk7]
           refine zG<|zM<|zQ<|zY<|Z6r 0 1 4 5 98 143 V V V V V V<|Zm V V<|qL M E s (conG E s) bp 1 hB (fun w h1 h2=>constant_any M E s hE.l hok'.at_ bp hF w h1 (HpG.x h2).l) .none V  (by kernel_rfl) V V (fun A cap F2 hF2=>?_);refine ZR 0 V V V V V (by kernel_rfl) ?_;refine ZT<|zK<|yF V V 0 V U57 V (by kernel_rfl) (fun w hw=>?_);rw[he];exact⟨A,cap,rfl,Jq hw,HpG.blkL (j:=1) hw rfl,xT.lies.mono hF2 (HpG.x hw).1⟩
end Go.Proofs.YtfpkpnkdnammnaaGreatDoor
namespace Go.Proofs.YtfpkpnkdnammnaaGreatDoor
open Go.RowKit
theorem gexpr_any (E:GE) (hE:E.Ok):∀(d:Nat),d≤1000→GeOk E (exG E d) (cost d) d
 | 0,_=>fun M s F bp w hok hF hb hX=>gexpr_step M E hE s 0 (fun s=>(.mk 0 0 [] [],s)) 0 (by decide) (fun _=>EL.refl) (fun h=>absurd h (by decide)) hok bp hF w hb hX
 | d+1,h=>fun M s F bp w hok hF hb hX=>gexpr_step M E hE s (d+1) (exG E d) (cost d) h (exG_in hE d) (fun _=>by
   rw[show (((d+1:Nat):Int)-1)=(d:Int) by omega]
   exact gexpr_any E hE d (by omega)) hok bp hF w hb hX
def GM.nm (M:GM) (p:Option Addr×Nat):GM:={ M with nA:=p.1,nc:=p.2 }
abbrev gnR (M:GM) (s:GS):Rw:=⟨.slice M.nA s.names.length M.nc,9,1,s.names.length,xX s.names⟩
structure GF (M:GM) (E:GE) (F:Nat→Prop) (u:World):Prop where
 l:RdF F M.lA (qC E.l) u
 fr:RdF F M.fA M.fcs u
 fs:FnsV F u E.fs M.fcs
theorem GF.lies {M:GM}{E:GE}:Lies fun F u=>GF M E F u :=
 ⟨fun hk ⟨a,d,e⟩=>⟨RdF.lies.foot hk a,RdF.lies.foot hk d,FnsV.lies.foot hk e⟩,fun ⟨a,d,e⟩=>⟨RdF.lies.lt a,RdF.lies.lt d,FnsV.lies.lt e⟩,fun hF ⟨a,d,e⟩=>⟨RdF.lies.mono hF a,RdF.lies.mono hF d,FnsV.lies.mono hF e⟩⟩
theorem HpG.gx {G B:Nat→Prop}{w0 w:World}{L:List (Nat×Obj)}{R:List Rw}{X:World→Prop}{M:GM}{E:GE}{s:GS}{bp:Nat}{ob:Obj}{F:Nat→Prop}(h:HpG G B w0 L R X w) (hX:GF M E F w) (hF:∀k,F k→k≠bp) {i j:Nat}(hi:L[i]? = some (bp,ob)) (hj:R[j]? = some (gnR M s)):GX M E.l s.names E.fs (fun k=>k≠bp) w :=
 ⟨RdF.lies.mono hF hX.l,HpG.rowN h hj hi,RdF.lies.mono hF hX.fr,FnsV.lies.mono hF hX.fs⟩
structure GSI (E:GE) (c:Nat) (s:GS):Prop where
 at_:s.at_≤E.l.length
 left:s.left≤8
 lo:-500000≤s.nodes-c-1000*(s.left:Int)
 hi:s.nodes≤1000
 vars:s.vars≤8
 nm:s.names.length≤100+s.vars
theorem GSI.step {E:GE}{c d:Nat}{s t:GS}(h:GSI E (c+d) s) (k:SL E c s t):GSI E d t :=
 ⟨k.at_ h.at_,by have:=h.left;have:=k.left;omega,by have:=h.lo;have:=k.lo;omega,by have:=h.hi;have:=k.hi;omega,k.vars h.vars,by have:=h.nm;have:=k.nm;omega⟩
theorem GSI.mono {E:GE}{c d:Nat}{s:GS}(h:GSI E c s) (hcd:d≤c):GSI E d s:=⟨h.at_,h.left,by have:=h.lo;omega,h.hi,h.vars,h.nm⟩
theorem GSI.ok {E:GE}{c:Nat}{s:GS}(h:GSI E c s):GOk E c s:=⟨h.at_,by have:=h.lo;omega,h.hi,by have:=h.nm;have:=h.vars;omega⟩
theorem GSI.lf {E:GE}{s:GS}(h:GSI E 0 s) (h0:0<s.left):GSI E 1000 s.lf :=
 ⟨h.at_,by have:=h.left;show s.left-1≤8;omega,by have:=h.lo;show -500000≤s.nodes-1000-1000*((s.left-1:Nat):Int);omega,h.hi,h.vars,h.nm⟩
theorem GSI.vr {E:GE}{c:Nat}{s:GS}(h:GSI E c s) (h0:s.vars<8):GSI E c s.vr:=⟨h.at_,h.left,h.lo,h.hi,by show s.vars+1≤8;omega,by have:=h.nm;show s.names.length≤100+(s.vars+1);omega⟩
abbrev stR (A:Option Addr) (n cap:Nat) (xs:List Value):Rw:=⟨.slice A n cap,60,5,n,xs⟩
def GsPost (M:GM) (E:GE) (bp:Nat) (w0:World) (L:List (Nat×Obj)) (R:List Rw) (X:World→Prop) (q:List St×GS) (e:Ending) (w':World):Prop :=
 ∃(A:Option Addr) (cap:Nat) (p:Option Addr×Nat) (xs:List Value) (F':Nat→Prop),e=.returned (.slice A q.1.length cap)∧(∀k,F' k→w0.heap.size≤k)∧Hp (fun _=>False) w0 ((bp,gO (M.nm p) E q.2)::L) (stR A q.1.length cap xs::gnR (M.nm p) q.2::R) (fun u=>StsV F' u q.1 xs∧X u) w'
def GsOk (E:GE) (rec:GS→List St×GS) (dp:Int):Prop:=∀(M:GM) (s:GS) (F:Nat→Prop) (bp:Nat) (w0:World) (L:List (Nat×Obj)) (R:List Rw) (X:World→Prop) (w:World),GSI E 0 s→(∀k,F k→k≠bp)→(∀w,X w→GF M E F w)→Hp (fun _=>False) w0 ((bp,gO M E s)::L) (gnR M s::R) X w →
 Calls Tryz.prog 40 #[.pointer (some ⟨bp,0,none⟩),.int .i64 dp] w (GsPost M E bp w0 L R X (rec s))
section
variable {α:Type}
theorem perm_at {l:List α}{k:Nat}{x:α}(h:l[k]? = some x):l.Perm (x::l.eraseIdx k):=by
 induction l generalizing k with
 | nil=>cases h
 | cons a l ih =>
  cases k with
  | zero=>injection h with h;subst h;exact .refl _
  | succ k=>exact ((ih h).cons a).trans (.swap _ _ _)
theorem perm_set {l:List α}{k:Nat}{x y:α}(h:l[k]? = some x):(y::l.eraseIdx k).Perm (l.set k y):=by
 induction l generalizing k with
 | nil=>cases h
 | cons a l ih =>
  cases k with
  | zero=>exact .refl _
  | succ k=>exact (List.Perm.swap _ _ _).trans ((ih h).cons a)
end
section
variable {ops:Array Oper}{Q:Exit→Act→World→Prop}{n:Nat}{m:List (Nat×Value)}{ty:TypeId}{w0:World}{L:List (Nat×Obj)}{R:List Rw}{X:World→Prop}{rest:List Oper}{d:Nat}{pos:String}{af:Array Edge}{gd:Option (Nat×Bool)}{args:List Operand}{ats:Array TypeId}
theorem wl_sts (M:GM) (E:GE) (s:GS) (rec:GS→List St×GS) (dp:Int) (bp k j:Nat) {F:Nat→Prop}(hrec:GsOk E rec dp) (hi:GSI E 0 s) (hF:∀k,F k→k≠bp) (hX:∀w,X w→GF M E F w) (hg:Gd ops m gd) (hd:Nat.blt d n=true) (ha:evl m args=some [.pointer (some ⟨bp,0,none⟩),.int .i64 dp]) (hk:L[k]? = some (bp,gO M E s)) (hj:R[j]? = some (gnR M s))
  (h:∀A cap p xs F',(∀k,F' k→w0.heap.size≤k)→WL Tryz.prog ops Q rest n ((d,.slice A (rec s).1.length cap)::m) (Hp (fun _=>False) w0 (L.set k (bp,gO (M.nm p) E (rec s).2)) (stR A (rec s).1.length cap xs::R.set j (gnR (M.nm p) (rec s).2)) (fun u=>StsV F' u (rec s).1 xs∧X u))) :
  WL Tryz.prog ops Q (⟨some d,.call { callee:=.value (.func 40),args:=args.toArray,argTypes:=ats },ty,pos,af,gd⟩::rest) n m (Hp (fun _=>False) w0 L R X) :=
 xQ (ι:={i:(Option Addr×Nat)×(Option Addr×Nat)×List Value×(Nat→Prop) // ∀k,i.2.2.2 k→w0.heap.size≤k}) (val:=fun i=>.slice i.1.1.1 (rec s).1.length i.1.1.2)
  (H':=fun i=>Hp (fun _=>False) w0 (L.set k (bp,gO (M.nm i.1.2.1) E (rec s).2)) (stR i.1.1.1 (rec s).1.length i.1.1.2 i.1.2.2.1::R.set j (gnR (M.nm i.1.2.1) (rec s).2)) (fun u=>StsV i.1.2.2.2 u (rec s).1 i.1.2.2.1∧X u)) hg hd
  (vT (by kernel_rfl) ha fun w hw=>(hrec M s F bp w0 (L.eraseIdx k) (R.eraseIdx j) X w hi hF hX (Hp.swapL (Hp.swapR hw (perm_at hj)) (perm_at hk))).mono fun _ w' ⟨A,cap,p,xs,F',e1,e2,e3⟩ =>
   ⟨_,e1,⟨⟨⟨(A,cap),p,xs,F'⟩,e2⟩,rfl,Hp.swapR (Hp.swapL e3 (perm_set hk)) ((perm_set hj).cons _)⟩⟩) fun i=>h i.1.1.1 i.1.1.2 i.1.2.1 i.1.2.2.1 i.1.2.2.2 i.2
end
end Go.Proofs.YtfpkpnkdnammnaaGreatDoor
namespace Go.Proofs.YtfpkpnkdnammnaaGreatDoor
open Go.RowKit
section
variable {B:Nat→Prop}{w0 w:World}{L:List (Nat×Obj)}{R:List Rw}{X:World→Prop}
theorem Hp.rowXd {A:Option Addr}{E size len cap:Nat}{xs:List Value}(h:Hp (fun _=>False) w0 L (⟨.slice A len cap,E,size,len,xs⟩::R) X w):∃F:Nat→Prop,(∀k,F k→w0.heap.size≤k∧k∉wB L R)∧Hp (fun _=>False) w0 L R (fun u=>RdF F A xs u∧X u) w:=by
 have hr:=HpG.rowF h (j:=0) rfl;obtain⟨F,hF,hX⟩:=h.foot
 have hsub:wB L R ⊆ wB L (⟨.slice A len cap,E,size,len,xs⟩::R):=by
  unfold wB;intro k hk;rcases Kz.1 hk with hk|hk
  ·exact List.mem_append_left _ hk
  ·refine List.mem_append_right _ ?_;rw[List.filterMap_cons]
   split
   ·exact hk
   ·exact Kg _ hk
 have hnd:(wB L R).Nodup:=by
  refine h.nd.sublist ?_;unfold wB;refine List.Sublist.append (Jr _) ?_;rw[List.filterMap_cons]
  split
  ·exact Jr _
  ·exact Js _ _
 rcases Nat.eq_zero_or_pos xs.length with h0|h0
 ·refine⟨fun _=>False,fun _ h=>h.elim,h.keep,h.own,h.mine,fun r hr=>h.rows r (Kg _ hr),hnd,fun _ _=>trivial,F,fun k hk=>⟨(hF k hk).1,(hF k hk).2.1,fun hm=>(hF k hk).2.2.1 (hsub hm),trivial⟩,fun u hu=>⟨fun hp=>absurd hp (by omega),hX u hu⟩⟩
 ·obtain⟨b,off,rfl,hb1,hb2,hb3⟩:=hr h0;have hown:(Value.slice (some ⟨b,off,none⟩) len cap).ownBlock=some b:=rfl
  have hbm:wB L (⟨.slice (some ⟨b,off,none⟩) len cap,E,size,len,xs⟩::R)=L.map (·.1)++b::R.filterMap (·.v.ownBlock):=by
   unfold wB;rw[List.filterMap_cons,hown]
  have hnb:b∉wB L R:=by
   have:=h.nd;rw[hbm] at this;have h2:=List.perm_middle.nodup_iff.1 this;exact (List.nodup_cons.1 h2).1
  have hbF:¬F b:=fun hf=>(hF b hf).2.2.1 (by rw[hbm];exact List.mem_append_right _ (Jy ..));refine⟨fun k=>k=b,fun k hk=>hk▸⟨hb1,hnb⟩,h.keep,h.own,h.mine,fun r hr=>h.rows r (Kg _ hr),hnd,fun _ _=>trivial,fun k=>k=b∨F k,fun k hk=>?_,fun u hu=>⟨RdF.lies.foot (F:=fun k=>k=b) (w:=w) (fun k hk=>hu k (.inl hk)) (fun _=>⟨b,off,rfl,rfl,hb2,hb3⟩),hX u fun k hk=>hu k (.inr hk)⟩⟩;rcases hk with rfl|hk
  ·exact⟨hb2,id,hnb,trivial⟩
  ·exact⟨(hF k hk).1,(hF k hk).2.1,fun hm=>(hF k hk).2.2.1 (hsub hm),trivial⟩
theorem Hp.rowX {A:Option Addr}{E size len cap:Nat}{xs:List Value}(h:Hp (fun _=>False) w0 L (⟨.slice A len cap,E,size,len,xs⟩::R) X w):∃F:Nat→Prop,(∀k,F k→w0.heap.size≤k)∧Hp (fun _=>False) w0 L R (fun u=>RdF F A xs u∧X u) w:=by
 obtain⟨F,hF,h'⟩:=Hp.rowXd h;exact⟨F,fun k hk=>(hF k hk).1,h'⟩
end
section
variable {P:Program}{Q:Exit→Act→World→Prop}{n:Nat}{m:List (Nat×Value)}{H:World→Prop}
theorem uG {ι:Type}{I:ι→List (Nat×Value)}{HI:ι→World→Prop}{μ:ι→Nat}{m0:Nat}(h:∀w,H w→∃j,μ j<m0∧Pr m (I j)∧HI j w) :
  WQ (Exit.then (fun a w=>∃j,μ j<m0∧Sat n (I j) a∧HI j w) Q) .normal n m H:=fun _ w hs hw=>by
 obtain⟨j,h1,h2,h3⟩:=h w hw;exact⟨j,h1,hs.weak h2,h3⟩
end
structure SiJ where
 i:Nat
 n:Nat
 acc:List St
 s:GS
 p:Option Addr×Nat
 A:Option Addr
 cap:Nat
 xs:List Value
 F:Nat→Prop
structure SiOk (E:GE) (rec:GS→List St×GS) (deep n0 many:Nat) (s0:GS) (j:SiJ):Prop where
 run:blG E rec deep (many-j.i) j.acc j.s=blG E rec deep many [] s0
 len:j.acc.length=j.n
 le:j.i≤many
 le2:j.n≤2*j.i
 gsi:GSI E 0 j.s
 F:∀k,j.F k→n0≤k
abbrev siH (M:GM) (E:GE) (bp:Nat) (w0:World) (L:List (Nat×Obj)) (R:List Rw) (X:World→Prop) (j:SiJ):World→Prop:=Hp (fun _=>False) w0 ((bp,gO (M.nm j.p) E j.s)::L) (stR j.A j.n j.cap j.xs::gnR (M.nm j.p) j.s::R) (fun u=>StsV j.F u j.acc j.xs∧X u)
theorem strs_app (l m:List Bs):xX (l++m)=xX l++xX m:=by simp[xX]
theorem gO_add {M:GM}{E:GE}{s:GS}{x:Bs}{a:Option Addr}{c:Nat}:gO (M.nm (a,c)) E (s.add x)=bk 71 [.slice M.lA E.l.length M.lc,.int .i64 s.at_,.int .i64 s.left,.int .i64 s.nodes,.slice a (s.names.length+1) c,.int .i64 s.vars,.int .i64 E.me,.slice M.fA E.fs.length M.fc]:=by
 show bk _ [_,_,_,_,.slice a (s.names++[x]).length c,_,_,_]=_;rw[Ji];rfl
theorem gnR_add {M:GM}{s:GS}{x:Bs}{a:Option Addr}{c:Nat}:gnR (M.nm (a,c)) (s.add x)=⟨.slice a (s.names.length+1) c,9,1,s.names.length+1,xX s.names++[.string ⟨x.toArray⟩]⟩:=by
 show (⟨.slice a (s.names++[x]).length c,_,_,(s.names++[x]).length,xX (s.names++[x])⟩:Rw)=_;rw[Ji,strs_app];rfl
theorem StsV.snoc {F F':Nat→Prop}{u:World}{acc:List St}{xs:List Value}{t:St}{a:StA}(h:StsV F u acc xs) (k:stsK F' u t a):StsV (fun k=>F k∨F' k) u (acc++[t]) (xs++stOf t a) :=
 StsV.append (StsV.lies.mono (fun _ h=>.inl h) h) (StsV.lies.mono (fun _ h=>.inr h) k.one)
theorem st_one {F2:Nat→Prop}{u:World}{k:Nat}{nm:Bs}{e:Ex}{A:Option Addr}{c b:Nat}(h:Blk b (bk 57 (xL e A c)) u) (he:xT F2 u e A c):stsK (fun j=>F2 j∨j=b) u (.mk k nm [e] [] []) ⟨some ⟨b,0,none⟩,none,none,1,0,0⟩ :=
 ⟨pK,uV,uV,⟨_,Blk.rdF h (.inr rfl),(xT.lies.mono (fun _ h=>.inl h) he).one⟩,⟨[],RdF.nil,.nil⟩,⟨[],RdF.nil,.nil⟩⟩
theorem st_two {F1 F2:Nat→Prop}{u:World}{k:Nat}{nm:Bs}{e f:Ex}{A A2:Option Addr}{c c2 b:Nat}(h:Blk b (bk 57 (xL e A c++xL f A2 c2)) u) (he:xT F1 u e A c) (hf:xT F2 u f A2 c2):stsK (fun j=>(F1 j∨F2 j)∨j=b) u (.mk k nm [e,f] [] []) ⟨some ⟨b,0,none⟩,none,none,2,0,0⟩ :=
 ⟨cp22,uV,uV,⟨_,Blk.rdF h (.inr rfl),ExsV.append (xT.lies.mono (fun _ h=>.inl (.inl h)) he).one (xT.lies.mono (fun _ h=>.inl (.inr h)) hf).one⟩,⟨[],RdF.nil,.nil⟩,⟨[],RdF.nil,.nil⟩⟩
theorem st_if {F3 F5 F6 G5 G6:Nat→Prop}{u:World}{k:Nat}{e:Ex}{b c:List St}{A A5 A6:Option Addr}{ce c5 c6 g:Nat}{x5 x6:List Value}(h5:Cp b.length c5) (h6:Cp c.length c6) (h:Blk g (bk 57 (xL e A ce)) u) (he:xT F3 u e A ce) (r5:RdF G5 A5 x5 u) (k5:StsV F5 u b x5) (r6:RdF G6 A6 x6 u) (k6:StsV F6 u c x6) :
  stsK (fun j=>(F3 j∨j=g)∨(F5 j∨G5 j)∨(F6 j∨G6 j)) u (.mk k [] [e] b c) ⟨some ⟨g,0,none⟩,A5,A6,1,c5,c6⟩ :=
 ⟨pK,h5,h6,⟨_,Blk.rdF h (.inl (.inr rfl)),(xT.lies.mono (fun _ h=>.inl (.inl h)) he).one⟩,⟨_,RdF.lies.mono (fun _ h=>.inr (.inl (.inr h))) r5,StsV.lies.mono (fun _ h=>.inr (.inl (.inl h))) k5⟩,⟨_,RdF.lies.mono (fun _ h=>.inr (.inr (.inr h))) r6,StsV.lies.mono (fun _ h=>.inr (.inr (.inl h))) k6⟩⟩
theorem gnR_eq {M:GM}{s t:GS}(h:s.names=t.names):gnR M s=gnR M t:=by unfold gnR;rw[h]
theorem sZ {E:GE}{rec:GS→List St×GS}{deep n0 many:Nat}{s0:GS}{i n n' k:Nat}{acc l:List St}{s1 s':GS}{p:Option Addr×Nat}{A:Option Addr}{cap:Nat}{xs:List Value}{F:Nat→Prop}(hrun:blG E rec deep (many-(i+1)) (acc++(stG E rec deep k s1).1) (stG E rec deep k s1).2=blG E rec deep many [] s0)
  (hgn:GSI E 0 (stG E rec deep k s1).2) (he:stG E rec deep k s1=(l,s')) (hi:i<many) (hlen:acc.length=n) (hle2:n≤2*i) (hl:l.length≤2) (hn:n+l.length=n') (hF:∀k,F k→n0≤k):SiOk E rec deep n0 many s0 ⟨i+1,n',acc++l,s',p,A,cap,xs,F⟩ :=
 ⟨by rw[he] at hrun;exact hrun,by show (acc++l).length=n';rw[Ji,hlen];exact hn,hi,by show n'≤2*(i+1);omega,by rw[he] at hgn;exact hgn,hF⟩
section
variable {P:Program}{Q:Exit→Act→World→Prop}{n:Nat}{m:List (Nat×Value)}{H:World→Prop}
theorem wc_fact {c:Code}{φ:Prop}(hH:∀w,H w→φ) (h:φ→WC P c Q n m H):WC P c Q n m H:=fun a w hs hw=>h (hH w hw) a w hs hw
end
end Go.Proofs.YtfpkpnkdnammnaaGreatDoor
