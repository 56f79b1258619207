import Derived.Test.YtkaepknpplhgkaaGreatDoorMaa
set_option maxRecDepth 100000
namespace Go.Proofs.YtkaepknpplhgkaaGreatDoor
open Go.RowKit
def vI (l:List AOp):List Value:=l.flatMap aoC
theorem opsC_len (l:List AOp):(vI l).length=l.length*6:=by
 induction l with
 | nil=>rfl
 | cons t l ih =>
  have e:vI (t::l)=aoC t++vI l:=rfl;rw[e,Kb,ih];simp;omega
theorem opsC_at:∀{l:List AOp}{k:Nat}{o:AOp},l[k]? = some o→∀(j:Nat) v,(aoC o)[j]? = some v→(vI l)[6*k+j]? = some v
 | [],_,_,h=>by cases h
 | x::l,0,o,h=>by
  cases h;intro j v hj;have:=(Kg.1 hj).1;show (aoC x++vI l)[6*0+j]? = _;rw[show 6*0+j=j by omega,List.getElem?_append_left this];exact hj
 | x::l,k+1,o,h=>by
  intro j v hj;have:=opsC_at (l:=l) (k:=k) (by simpa using h) j v hj;have hl:(aoC x).length=6:=rfl;show (aoC x++vI l)[6*(k+1)+j]? = _;rw[List.getElem?_append_right (by omega),hl,show 6*(k+1)+j-6=6*k+j by omega];exact this
structure SV where
 lb:Bs
 op:Bs
 sh:Bs
 l:List AOp
 A:Option Addr
 cap:Nat
 fp:Option Addr
 a:Int
 z:Int
abbrev svC (S:SV):List Value:=[.string ⟨S.lb.toArray⟩,.string ⟨S.op.toArray⟩,.string ⟨S.sh.toArray⟩,.slice S.A S.l.length S.cap,.pointer S.fp,.int .i64 S.a,.int .i64 S.z]
abbrev svO (S:SV):Obj:=bk 91 (svC S)
def OpX (F:Nat→Prop) (S:SV) (w:World):Prop:=RdF F S.A (vI S.l) w
theorem OpX.at_ {F:Nat→Prop}{S:SV}{w:World}(h:OpX F S w) (h0:0<S.l.length):∃b off,S.A=some ⟨b,off,none⟩:=by
 obtain⟨b,off,e,_⟩:=h (by rw[opsC_len];omega);exact⟨b,off,e⟩
theorem OpX.cell {F:Nat→Prop}{S:SV}{w:World}{b off o k j:Nat}{x:AOp}{v:Value}(h:OpX F S w) (hA:S.A=some ⟨b,off,none⟩) (hx:S.l[k]? = some x) (ho:o=off+k*6+j) (hv:(aoC x)[j]? = some v):w.cell? ⟨b,o,none⟩=some v:=by
 unfold OpX at h;rw[hA] at h;have h1:=opsC_at hx j v hv;exact h.part (i:=6*k+j) (Kg.1 h1).1 (by omega) h1
def selB:KSel→Prop
 | .always op=>0≤op∧op<256
 | .arith k=>k<15
 | .access k=>k<7
abbrev bxJ (p:Int):Obj:=bk 3 [.int .i64 p]
def oG (sel:KSel) (v:Value) (F:Nat→Prop) (w:World):Prop:=match sel with
 | .always op=>∃b,v=pfV 98 b∧Bl7 b (bxJ op) F w
 | .arith k=>∃b,v=pfV 106 b∧Bl7 b (bxI k) F w
 | .access k=>∃b,v=pfV 108 b∧Bl7 b (bxI k) F w
theorem oG.lies {sel:KSel}{v:Value}:Lies (oG sel v):=by
 cases sel
 all_goals exact⟨fun hk ⟨b,h1,h2⟩=>⟨b,h1,Bl7.lies.foot hk h2⟩,fun ⟨b,h1,h2⟩=>⟨b,h1,Bl7.lies.lt h2⟩,fun hF ⟨b,h1,h2⟩=>⟨b,h1,Bl7.lies.mono hF h2⟩⟩
theorem sel_fn {sel:KSel}{v:Value}{F:Nat→Prop}{w:World}(h:oG sel v F w):IsFn Tryz.prog v:=by
 cases sel
 all_goals
  obtain⟨b,rfl,_⟩:=h;exact⟨_,[.pointer (some ⟨b,0,none⟩)],rfl,by kernel_rfl⟩
theorem always_any (S:SV) (op:Int) (b:Nat) (w_0:World) (hb:Blk b (bxJ op) w_0):Calls Tryz.prog 98 #[.agg (svC S).toArray,.pointer (some ⟨b,0,none⟩)] w_0 fun e w'=>e=.returned (.int .i64 op)∧Ext w_0 w':=by
 refine zN (args:=[.agg (svC S).toArray,.pointer (some ⟨b,0,none⟩)]) Tryz.func98 M 5 M (Kh M)<|Z2 0 1 M<|zG (H':=Jy w_0 [] [] (Blk b (bxJ op))) (fun u hu=>?_) ?_;subst hu;exact Hp.start ⟨fun k=>k=b,fun k hk=>(by subst hk;exact⟨hb.lt,id⟩),fun u hu=>(hu _ M).trans hb⟩;refine zX<|zZ<|zA .none M (yQ M M) fun b2=>Za M M<|ZX<|Z3r 0 1 3 M<|ZF M (zL M U3 M (fun w hw=>Blk.cell (HpG.x hw) M))<|Za M M<|ZU M M fun w hw=>⟨rfl,(Kk hw).ext⟩
theorem startBT {T:(Nat→Prop)→World→Prop}(hT:Lies T) {F:Nat→Prop}{w:World}{b:Nat}{o:Obj}(h:T F w) (hb:Blk b o w):Jy w [] [] (fun u=>Blk b o u∧T F u) w :=
 Hp.start ⟨fun k=>k=b∨(F k∧k<w.heap.size),fun k hk=>⟨hk.elim (fun e=>by subst e;exact hb.lt) fun e=>e.2,id⟩,fun u hu=>⟨(hu _ (.inl rfl)).trans hb,hT.mono (fun _ hk=>hk.1) (hT.foot (F:=fun k=>F k∧k<w.heap.size) (fun k hk=>hu k (.inr hk)) (hT.lt h))⟩⟩
theorem arith_any (S:SV) (k:Nat) (hk:k<15) (h2:2≤S.l.length) (hO:∀o∈S.l,OpR o) (b:Nat) (F:Nat→Prop) (w_0:World) (hb:Blk b (bxI k) w_0) (hX:OpX F S w_0):Calls Tryz.prog 106 #[.agg (svC S).toArray,.pointer (some ⟨b,0,none⟩)] w_0 fun e w'=>e=.returned (.int .i64 (opK (.arith k) S.l))∧Ext w_0 w':=by
 obtain⟨x,hx⟩:∃x,S.l[1]? = some x:=⟨S.l[1],Kn _⟩;have hxn:=(hO x (Ko hx)).n;obtain⟨bo,off,hA⟩:=hX.at_ (by omega)
 have hop:opK (.arith k) S.l=if x.name=[]∧wE x.n 8=true then ((48+k:Nat):Int) else ((64+k:Nat):Int):=by
  unfold opK;dsimp only;rw[hx];rfl
 have hc:∀j v o,(aoC x)[j]? = some v→o=off+1*6+j→∀w,OpX F S w→w.cell? ⟨bo,o,none⟩=some v:=fun j v o hv ho w hw=>hw.cell hA hx ho hv;rw[hop];have hsv:svC S=[.string ⟨S.lb.toArray⟩,.string ⟨S.op.toArray⟩,.string ⟨S.sh.toArray⟩,.slice (some ⟨bo,off,none⟩) S.l.length S.cap,.pointer S.fp,.int .i64 S.a,.int .i64 S.z]:=by rw[← hA]
 rw[hsv];refine zN (args:=[.agg #[.string ⟨S.lb.toArray⟩,.string ⟨S.op.toArray⟩,.string ⟨S.sh.toArray⟩,.slice (some ⟨bo,off,none⟩) S.l.length S.cap,.pointer S.fp,.int .i64 S.a,.int .i64 S.z],.pointer (some ⟨b,0,none⟩)]) Tryz.func106 M 22 M (Kh M)<|Z2 0 1 M<|zG (H':=Jy w_0 [] [] (fun u=>Blk b (bxI k) u∧OpX F S u)) (fun u hu=>?_) ?_;subst hu;exact startBT (T:=fun F u=>OpX F S u) RdF.lies hX hb;refine zX<|zZ<|zA .none M (yQ M M) fun b2=>Za M M<|ZX<|zX<|zZ<|ZF M (Y91x3 M) ?_;refine Zl 0 rfl U88 rfl<|ZF rfl (Zi (j:=1) (es:=6) rfl rfl U88 rfl (by first|omega|simp<;>omega) rfl) ?_;refine ZF M (zY (off:=2) (sz:=0) M U100 (by kernel_rfl) M) ?_;refine ZF M (zL M U9 M (fun w hw=>hc 2 _ _ M M w (HpG.x hw).2))<|ZF M (yZ M M U9)<|Zm M M<|zQ 10 M (fun g7=>?_) (fun g7=>?_)
 ·refine ZG M M M (Y91x3 M) ?_;refine ZG rfl rfl rfl (yU 0 rfl rfl rfl U88 rfl)<|ZG rfl rfl rfl (Zi (j:=1) (es:=6) rfl rfl U88 rfl (by first|omega|simp<;>omega) rfl) ?_;refine ZG M M M (Y100x3 M) ?_;refine ZG M M M (zL M U22 M (fun w hw=>hc 3 _ _ M M w (HpG.x hw).2))<|xW (.some M M) M  (v:=.bool (wE x.n 8)) (by kernel_rfl) M (fun w hw=>fits_any x.n 8 hxn (.inl M) w)<|Zh M<|ZT<|zT M (fun h17=>?_) (fun h17=>?_)
  ·refine zX<|Z5r 0 1 2 3 17 M<|ZF M (zL M U3 M (fun w hw=>Blk.cell (HpG.x hw).1 M))<|ZF M (zF M M (i64_in _ (by omega) (by omega)))<|Za M M<|ZT<|zK<|zW<|yY M M fun w hw=>⟨by rw[Ah ⟨Ki g7,h17⟩];congr 2,(Kk hw).ext⟩
  skip;refine zR<|zV<|zX<|Z5r 0 1 2 3 17 M<|ZF M (zL M U3 M (fun w hw=>Blk.cell (HpG.x hw).1 M))<|ZF M (zF M M (i64_in _ (by omega) (by omega)))<|Za M M<|ZU M M fun w hw=>⟨by rw[Ag (fun h=>by rw[h.2] at h17;cases h17)];congr 2,(Kk hw).ext⟩
 skip;refine ZP M<|ZP M<|ZP M<|ZP M<|ZP M<|ZP M<|Zf M<|ZT<|zD M<|zR<|zV<|zX<|Z5r 0 1 2 3 17 M<|ZF M (zL M U3 M (fun w hw=>Blk.cell (HpG.x hw).1 M))<|ZF M (zF M M (i64_in _ (by omega) (by omega)))<|Za M M<|ZU M M fun w hw=>⟨by rw[Ag (fun h=>Kj g7 h.1)];congr 2,(Kk hw).ext⟩
theorem access_any (S:SV) (k:Nat) (hk:k<7) (h2:2≤S.l.length) (hO:∀o∈S.l,OpR o) (b:Nat) (F:Nat→Prop) (w_0:World) (hb:Blk b (bxI k) w_0) (hX:OpX F S w_0):Calls Tryz.prog 108 #[.agg (svC S).toArray,.pointer (some ⟨b,0,none⟩)] w_0 fun e w'=>e=.returned (.int .i64 (opK (.access k) S.l))∧Ext w_0 w':=by
 obtain⟨x,hx⟩:∃x,S.l[1]? = some x:=⟨S.l[1],Kn _⟩;have hxn:=(hO x (Ko hx)).n;obtain⟨bo,off,hA⟩:=hX.at_ (by omega)
 have hop:opK (.access k) S.l=if x.index<0∧wE x.n 8=true then ((80+k:Nat):Int) else ((88+k:Nat):Int):=by
  unfold opK;dsimp only;rw[hx];rfl
 have hc:∀j v o,(aoC x)[j]? = some v→o=off+1*6+j→∀w,OpX F S w→w.cell? ⟨bo,o,none⟩=some v:=fun j v o hv ho w hw=>hw.cell hA hx ho hv;rw[hop];have hsv:svC S=[.string ⟨S.lb.toArray⟩,.string ⟨S.op.toArray⟩,.string ⟨S.sh.toArray⟩,.slice (some ⟨bo,off,none⟩) S.l.length S.cap,.pointer S.fp,.int .i64 S.a,.int .i64 S.z]:=by rw[← hA]
 rw[hsv];refine zN (args:=[.agg #[.string ⟨S.lb.toArray⟩,.string ⟨S.op.toArray⟩,.string ⟨S.sh.toArray⟩,.slice (some ⟨bo,off,none⟩) S.l.length S.cap,.pointer S.fp,.int .i64 S.a,.int .i64 S.z],.pointer (some ⟨b,0,none⟩)]) Tryz.func108 M 22 M (Kh M)<|Z2 0 1 M<|zG (H':=Jy w_0 [] [] (fun u=>Blk b (bxI k) u∧OpX F S u)) (fun u hu=>?_) ?_;subst hu;exact startBT (T:=fun F u=>OpX F S u) RdF.lies hX hb;refine zX<|zZ<|zA .none M (yQ M M) fun b2=>Za M M<|ZX<|zX<|zZ<|ZF M (Y91x3 M) ?_;refine Zl 0 rfl U88 rfl<|ZF rfl (Zi (j:=1) (es:=6) rfl rfl U88 rfl (by first|omega|simp<;>omega) rfl) ?_;refine ZF M (zY (off:=4) (sz:=0) M U100 (by kernel_rfl) M) ?_;refine ZF M (zL M U3 M (fun w hw=>hc 4 _ _ M M w (HpG.x hw).2))<|ZF M (yR M M)<|Zm M M<|zQ 10 M (fun g7=>?_) (fun g7=>?_)
 ·replace g7:=Ki g7;refine ZG M M M (Y91x3 M) ?_;refine ZG rfl rfl rfl (yU 0 rfl rfl rfl U88 rfl)<|ZG rfl rfl rfl (Zi (j:=1) (es:=6) rfl rfl U88 rfl (by first|omega|simp<;>omega) rfl) ?_;refine ZG M M M (Y100x3 M) ?_;refine ZG M M M (zL M U22 M (fun w hw=>hc 3 _ _ M M w (HpG.x hw).2))<|xW (.some M M) M  (v:=.bool (wE x.n 8)) (by kernel_rfl) M (fun w hw=>fits_any x.n 8 hxn (.inl M) w)<|Zh M<|ZT<|zT M (fun h17=>?_) (fun h17=>?_)
  ·refine zX<|Z5r 0 1 2 3 17 M<|ZF M (zL M U3 M (fun w hw=>Blk.cell (HpG.x hw).1 M))<|ZF M (zF M M (i64_in _ (by omega) (by omega)))<|Za M M<|ZT<|zK<|zW<|yY M M fun w hw=>⟨by rw[Ah ⟨g7,h17⟩];congr 2,(Kk hw).ext⟩
  skip;refine zR<|zV<|zX<|Z5r 0 1 2 3 17 M<|ZF M (zL M U3 M (fun w hw=>Blk.cell (HpG.x hw).1 M))<|ZF M (zF M M (i64_in _ (by omega) (by omega)))<|Za M M<|ZU M M fun w hw=>⟨by rw[Ag (fun h=>by rw[h.2] at h17;cases h17)];congr 2,(Kk hw).ext⟩
 replace g7:=Kj g7;refine ZP M<|ZP M<|ZP M<|ZP M<|ZP M<|ZP M<|Zf M<|ZT<|zD M<|zR<|zV<|zX<|Z5r 0 1 2 3 17 M<|ZF M (zL M U3 M (fun w hw=>Blk.cell (HpG.x hw).1 M))<|ZF M (zF M M (i64_in _ (by omega) (by omega)))<|Za M M<|ZU M M fun w hw=>⟨by rw[Ag (fun h=>g7 h.1)];congr 2,(Kk hw).ext⟩
theorem sel_call {sel:KSel}{f:FuncId}{cs:List Value}{F F':Nat→Prop}{S:SV}{w:World}(hv:oG sel (fcV f cs) F w) (hX:OpX F' S w) (hb:selB sel) (hn:needS sel≤S.l.length) (hO:∀o∈S.l,OpR o):Calls Tryz.prog f ([Value.agg (svC S).toArray]++cs).toArray w fun e w'=>e=.returned (.int .i64 (opK sel S.l))∧Ext w w':=by
 cases sel with
 | always op =>
  obtain⟨b,e,_,h⟩:=hv;obtain⟨rfl,rfl⟩:=uH (ds:=[.pointer (some ⟨b,0,none⟩)]) e;exact always_any S op b w h
 | arith k =>
  obtain⟨b,e,_,h⟩:=hv;obtain⟨rfl,rfl⟩:=uH (ds:=[.pointer (some ⟨b,0,none⟩)]) e;exact arith_any S k hb hn hO b F' w h hX
 | access k =>
  obtain⟨b,e,_,h⟩:=hv;obtain⟨rfl,rfl⟩:=uH (ds:=[.pointer (some ⟨b,0,none⟩)]) e;exact access_any S k hb hn hO b F' w h hX
end Go.Proofs.YtkaepknpplhgkaaGreatDoor
namespace Go.Proofs.YtkaepknpplhgkaaGreatDoor
open Go.RowKit
def uS (v:List Nat):List Value:=v.map fun x=>.int .u32 (x:Nat)
structure VlX (F:Nat→Prop) (A:Option Addr) (v:List Nat) (w:World):Prop where
 r:RdF F A (uS v) w
 n:∀x∈v,x<4294967296
theorem VlX.lies {A:Option Addr}{v:List Nat}:Lies fun F=>VlX F A v:=⟨fun hk h=>⟨RdF.lies.foot hk h.r,h.n⟩,fun h=>⟨RdF.lies.lt h.r,h.n⟩,fun hF h=>⟨RdF.lies.mono hF h.r,h.n⟩⟩
theorem VlX.at_ {F:Nat→Prop}{A:Option Addr}{v:List Nat}{w:World}(h:VlX F A v w) (h0:0<v.length):∃b off,A=some ⟨b,off,none⟩:=by
 obtain⟨b,off,e,_⟩:=h.r (by unfold uS;rw[Ak];exact h0);exact⟨b,off,e⟩
theorem VlX.cell {F:Nat→Prop}{A:Option Addr}{v:List Nat}{w:World}{b off o k x:Nat}(h:VlX F A v w) (hA:A=some ⟨b,off,none⟩) (hx:v[k]? = some x) (ho:o=off+k*1):w.cell? ⟨b,o,none⟩=some (.int .u32 x):=by
 have h:=h.r;rw[hA] at h;exact h.part (i:=k) (by unfold uS;rw[Ak];exact (Kg.1 hx).1) (by omega) (by unfold uS;rw[List.getElem?_map,hx];rfl)
def vC:KFil→FuncId
 | .nothing=>99
 | .second=>100
 | .value=>101
 | .control=>102
 | .target=>103
 | .memory=>104
def qW (fil:KFil) (i:KI) (l:List AOp) (v:List Nat) (a:Nat):KI:=match fil with
 | .nothing=>i
 | .second=>{ i with s:=(l.getD 1 uN).r }
 | .value=>{ i with imm:=v.getLastD 0 }
 | .control=>{ i with s:=v.getD 1 0 }
 | .target=>{ i with imm:=subW (subW (v.getD 0 0) a) i.size.toNat }
 | .memory=>{ i with s:=(l.getD 1 uN).r,imm:=(l.getD 1 uN).n,index:=(l.getD 1 uN).index,scale:=(l.getD 1 uN).scale }
theorem insK_fill (sel:KSel) (fil:KFil) (sh:Bs) (l:List AOp) (v:List Nat) (a:Nat):insK sel fil sh l v a=qW fil ⟨opK sel l,if sh.headD 0=114 then (l.getD 0 uN).r else 0,0,-1,0,0,uD (opK sel l%256)⟩ l v a:=by
 cases fil<;>rfl
def rH (bi:Nat) (i:KI) (w:World) (e:Ending) (w':World):Prop:=e=.returned (.tuple #[])∧Keep (fun j=>j=bi) w w'∧w'.heap[bi]? = some (kiO i)
theorem tJ {α:Type}{l:List α}{k:Nat}{x d:α}(h:l[k]? = some x):l.getD k d=x:=by rw[Ku,h];rfl
theorem last_of {v:List Nat}{x:Nat}(h:v[v.length-1]? = some x):v.getLastD 0=x:=by
 rw[List.getLastD_eq_getLast?,List.getLast?_eq_getElem?,h];rfl
theorem subW_w {x y:Nat}(hx:x<4294967296) (hy:y<4294967296):IntKind.u32.wrap ((x:Int)-(y:Int))=(subW x y:Nat):=by
 rw[u32w];unfold subW;omega
section
variable (S:SV) (v:List Nat) (VA:Option Addr) (vc a:Nat) (bi:Nat) (i:KI) (F F':Nat→Prop) (w_0:World) (hb:w_0.heap[bi]? = some (kiO i)) (hF:¬F bi) (hF':¬F' bi) (hX:OpX F S w_0) (hV:VlX F' VA v w_0) (hO:∀o∈S.l,OpR o) (ha:a<4294967296)
include hb hF hF' hX hV hO ha
theorem rK:Hp (fun j=>j=bi) w_0 [(bi,kiO i)] [] (fun u=>OpX F S u∧VlX F' VA v u) w_0 :=
 (fun (_:∀o∈S.l,OpR o) (_:a<4294967296)=>Hp.startB hb ⟨fun k=>(F k∧k<w_0.heap.size)∨(F' k∧k<w_0.heap.size),fun k hk=>by
  rcases hk with ⟨h1,h2⟩|⟨h1,h2⟩;exact⟨h2,fun e=>hF (e▸h1)⟩
  exact⟨h2,fun e=>hF' (e▸h1)⟩,fun u hu=>⟨RdF.lies.mono (fun _ h=>h.1) (RdF.lies.foot (F:=fun k=>F k∧k<w_0.heap.size) (fun k hk=>hu k (.inl hk)) (RdF.lies.lt hX)),VlX.lies.mono (fun _ h=>h.1) (VlX.lies.foot (F:=fun k=>F' k∧k<w_0.heap.size) (fun k hk=>hu k (.inr hk)) (VlX.lies.lt hV))⟩⟩) hO ha
theorem nothing_fl:Calls Tryz.prog 99 #[.pointer (some ⟨bi,0,none⟩),.agg (svC S).toArray,.slice VA v.length vc,.int .u32 a] w_0 (rH bi i w_0):=by
 unfold rH;refine zN (args:=[.pointer (some ⟨bi,0,none⟩),.agg (svC S).toArray,.slice VA v.length vc,.int .u32 a]) Tryz.func99 M 8 M (Kh M)<|Z1 1 M<|zG (H':=Hp (fun j=>j=bi) w_0 [(bi,kiO i)] [] (fun u=>OpX F S u∧VlX F' VA v u)) (fun u hu=>?_) ?_;subst hu;exact rK S v VA a bi i F F' u hb hF hF' hX hV hO ha;refine zZ<|zA .none M (yQ M M) fun b5=>zS<|vJ M fun w hw=>⟨rfl,Kk hw,HpG.blkL (j:=1) hw rfl⟩
theorem second_fl (h2:2≤S.l.length):Calls Tryz.prog 100 #[.pointer (some ⟨bi,0,none⟩),.agg (svC S).toArray,.slice VA v.length vc,.int .u32 a] w_0 (rH bi (qW .second i S.l v a) w_0):=by
 obtain⟨x,hx⟩:∃x,S.l[1]? = some x:=⟨S.l[1],Kn _⟩;obtain⟨bo,off,hA⟩:=hX.at_ (by omega);have hsv:svC S=[.string ⟨S.lb.toArray⟩,.string ⟨S.op.toArray⟩,.string ⟨S.sh.toArray⟩,.slice (some ⟨bo,off,none⟩) S.l.length S.cap,.pointer S.fp,.int .i64 S.a,.int .i64 S.z]:=by rw[← hA]
 unfold rH qW;dsimp only;rw[tJ hx,hsv];refine zN (args:=[.pointer (some ⟨bi,0,none⟩),.agg #[.string ⟨S.lb.toArray⟩,.string ⟨S.op.toArray⟩,.string ⟨S.sh.toArray⟩,.slice (some ⟨bo,off,none⟩) S.l.length S.cap,.pointer S.fp,.int .i64 S.a,.int .i64 S.z],.slice VA v.length vc,.int .u32 a]) Tryz.func100 M 16 M (Kh M)<|Z2 0 1 M<|zG (H':=Hp (fun j=>j=bi) w_0 [(bi,kiO i)] [] (fun u=>OpX F S u∧VlX F' VA v u)) (fun u hu=>?_) ?_;subst hu;exact rK S v VA a bi i F F' u hb hF hF' hX hV hO ha;refine zX<|zZ<|zA .none M (yQ M M) fun b5=>ZT<|zZ<|Zm M M<|ZF M (Y91x3 M) ?_;refine Zl 0 rfl U88 rfl<|ZF rfl (Zi (j:=1) (es:=6) rfl rfl U88 rfl (by first|omega|simp<;>omega) rfl) ?_;refine ZF M (zY (off:=1) (sz:=0) M U100 (by kernel_rfl) M) ?_;refine ZF M (zL M U3 M (fun w hw=>(HpG.x hw).1.cell (j:=1) hA hx M M))<|Zn M M<|ZF M (Y35x2 M) ?_;refine ZS 1 M<|zS<|vJ M fun w hw=>⟨rfl,Kk hw,HpG.blkL (j:=1) hw rfl⟩
theorem value_fl (h1:1≤v.length) (hl:v.length≤1000000000):Calls Tryz.prog 101 #[.pointer (some ⟨bi,0,none⟩),.agg (svC S).toArray,.slice VA v.length vc,.int .u32 a] w_0 (rH bi (qW .value i S.l v a) w_0):=by
 obtain⟨x,hx⟩:∃x,v[v.length-1]? = some x:=⟨v[v.length-1],Kn _⟩;obtain⟨bo,off,hA⟩:=hV.at_ (by omega);unfold rH qW;dsimp only;rw[last_of hx];subst hA;refine zN (args:=[.pointer (some ⟨bi,0,none⟩),.agg (svC S).toArray,.slice (some ⟨bo,off,none⟩) v.length vc,.int .u32 a]) Tryz.func101 M 17 M (Kh M)<|Z3 0 1 2 M<|zG (H':=Hp (fun j=>j=bi) w_0 [(bi,kiO i)] [] (fun u=>OpX F S u∧VlX F' (some ⟨bo,off,none⟩) v u)) (fun u hu=>?_) ?_;subst hu;exact rK S v _ a bi i F F' u hb hF hF' hX hV hO ha;refine zX<|zZ<|zA .none M (yQ M M) fun b5=>ZT<|Z3r 0 1 2 M<|Zm M M<|Zm M M<|Zm M M<|ZF M (yK M U51)<|ZF M (vL M M (i64_in _ (by omega) (by omega)))<|ZF M (Zi (j:=v.length-1) (es:=1) M M Tryz.underlying51 (by omega) (by omega) M) ?_;refine ZF M (zL M U22 M (fun w hw=>(HpG.x hw).2.cell M hx M))<|Zn M M<|ZF M (Y35x5 M) ?_;refine ZS 1 M<|zS<|vJ M fun w hw=>⟨rfl,Kk hw,HpG.blkL (j:=1) hw rfl⟩
theorem control_fl (h1:2≤v.length):Calls Tryz.prog 102 #[.pointer (some ⟨bi,0,none⟩),.agg (svC S).toArray,.slice VA v.length vc,.int .u32 a] w_0 (rH bi (qW .control i S.l v a) w_0):=by
 obtain⟨x,hx⟩:∃x,v[1]? = some x:=⟨v[1],Kn _⟩;have hxn:=hV.n x (Ko hx);obtain⟨bo,off,hA⟩:=hV.at_ (by omega);unfold rH qW;dsimp only;rw[tJ hx];subst hA;refine zN (args:=[.pointer (some ⟨bi,0,none⟩),.agg (svC S).toArray,.slice (some ⟨bo,off,none⟩) v.length vc,.int .u32 a]) Tryz.func102 M 15 M (Kh M)<|Z3 0 1 2 M<|zG (H':=Hp (fun j=>j=bi) w_0 [(bi,kiO i)] [] (fun u=>OpX F S u∧VlX F' (some ⟨bo,off,none⟩) v u)) (fun u hu=>?_) ?_;subst hu;exact rK S v _ a bi i F F' u hb hF hF' hX hV hO ha;refine zX<|zZ<|zA .none rfl (yQ rfl rfl) fun b5=>ZT<|Z3r 0 1 2 rfl<|Zm rfl rfl<|Zm rfl rfl<|ZF rfl (Zi (j:=1) (es:=1) rfl rfl U51 rfl (by first|omega|simp<;>omega) rfl) ?_;refine ZF M (zL M U22 M (fun w hw=>(HpG.x hw).2.cell M hx M))<|ZF M (Zc M U3 (i64_in _ (by omega) (by omega)))<|Zn M M<|ZF M (Y35x2 M) ?_;refine ZS 1 M<|zS<|vJ M fun w hw=>⟨rfl,Kk hw,HpG.blkL (j:=1) hw rfl⟩
theorem target_fl (h1:1≤v.length) (hz0:0≤i.size) (hz1:i.size≤1000):Calls Tryz.prog 103 #[.pointer (some ⟨bi,0,none⟩),.agg (svC S).toArray,.slice VA v.length vc,.int .u32 a] w_0 (rH bi (qW .target i S.l v a) w_0):=by
 obtain⟨x,hx⟩:∃x,v[0]? = some x:=⟨v[0],Kn _⟩;have hxn:=hV.n x (Ko hx);obtain⟨bo,off,hA⟩:=hV.at_ (by omega);have e1:IntKind.u32.wrap ((x:Int)-(a:Int))=(subW x a:Nat):=subW_w hxn ha;have e2:IntKind.u32.wrap ((subW x a:Int)-(i.size.toNat:Int))=(subW (subW x a) i.size.toNat:Nat):=subW_w (pE _ _) (by omega);unfold rH qW;dsimp only;rw[tJ hx];subst hA;generalize subW (subW x a) i.size.toNat=y2 at *;generalize subW x a=y1 at *;refine zN (args:=[.pointer (some ⟨bi,0,none⟩),.agg (svC S).toArray,.slice (some ⟨bo,off,none⟩) v.length vc,.int .u32 a]) Tryz.func103 M 22 M (Kh M)<|Z4 0 1 2 3 M<|zG (H':=Hp (fun j=>j=bi) w_0 [(bi,kiO i)] [] (fun u=>OpX F S u∧VlX F' (some ⟨bo,off,none⟩) v u)) (fun u hu=>?_) ?_;subst hu;exact rK S v _ a bi i F F' u hb hF hF' hX hV hO ha;refine zX<|zZ<|zA .none rfl (yQ rfl rfl) fun b5=>ZT<|Z4 0 1 2 3 rfl<|wc_still 14 (by kernel_rfl) (by kernel_rfl) (fun _ h=>HpG.drew h)<|yO .none rfl (yW rfl)<|yO .none rfl (yW rfl)<|yO .none rfl (Zi (j:=0) (es:=1) rfl rfl U51 rfl (by first|omega|simp<;>omega) rfl) ?_;refine yO .none M (zL M U22 M (fun w hw=>(HpG.x hw).2.cell M hx M))<|yO .none M (yW M)<|yO .none M (vL M M e1)<|yO .none M (yW M)<|yO .none M (xV M)<|yO .none M (Y35x6 M) ?_;refine yO .none M (yU 1 M M M U3 M)<|yO .none M (Zc M U22 (show IntKind.u32.wrap i.size=((i.size.toNat:Nat):Int) by rw[u32w];omega)) ?_;refine yO .none M (vL M M e2)<|yO .none M (xV M)<|yO .none M (Y35x5 M) ?_;refine wt_tail<|ZS 1 M<|zS<|vJ M fun w hw=>⟨rfl,Kk hw,HpG.blkL (j:=1) hw rfl⟩
theorem memory_fl (h2:2≤S.l.length):Calls Tryz.prog 104 #[.pointer (some ⟨bi,0,none⟩),.agg (svC S).toArray,.slice VA v.length vc,.int .u32 a] w_0 (rH bi (qW .memory i S.l v a) w_0):=by
 obtain⟨x,hx⟩:∃x,S.l[1]? = some x:=⟨S.l[1],Kn _⟩;obtain⟨bo,off,hA⟩:=hX.at_ (by omega);have hsv:svC S=[.string ⟨S.lb.toArray⟩,.string ⟨S.op.toArray⟩,.string ⟨S.sh.toArray⟩,.slice (some ⟨bo,off,none⟩) S.l.length S.cap,.pointer S.fp,.int .i64 S.a,.int .i64 S.z]:=by rw[← hA]
 unfold rH qW;dsimp only;rw[tJ hx,hsv];refine zN (args:=[.pointer (some ⟨bi,0,none⟩),.agg #[.string ⟨S.lb.toArray⟩,.string ⟨S.op.toArray⟩,.string ⟨S.sh.toArray⟩,.slice (some ⟨bo,off,none⟩) S.l.length S.cap,.pointer S.fp,.int .i64 S.a,.int .i64 S.z],.slice VA v.length vc,.int .u32 a]) Tryz.func104 M 33 M (Kh M)<|Z2 0 1 M<|zG (H':=Hp (fun j=>j=bi) w_0 [(bi,kiO i)] [] (fun u=>OpX F S u∧VlX F' VA v u)) (fun u hu=>?_) ?_;subst hu;exact rK S v VA a bi i F F' u hb hF hF' hX hV hO ha;refine zX<|zZ<|zA .none M (yQ M M) fun b5=>ZX<|zZ<|ZF M (Y91x3 M) ?_;refine Zl 0 rfl U88 rfl<|ZF rfl (Zi (j:=1) (es:=6) rfl rfl U88 rfl (by first|omega|simp<;>omega) rfl) ?_;refine ZF M (xL (cs:=aoC x) M U100 M (by kernel_rfl) (fun w hw j u hu=>(HpG.x hw).1.cell (j:=j) hA hx M hu)) ?_;refine Zt (z:=.agg #[.int .u8 0,.int .i64 0,.string ⟨#[]⟩,.int .u32 0,.int .i64 0,.int .i64 0]) (cs:=Jk) M fun b8=>ZR 0 M<|ZT<|Z4 0 1 5 8 M<|qB (γ:=Unit) [(0,.pointer (some ⟨bi,0,none⟩)),(8,Jx b8)] [(0,13,fun g=>.pointer (some ⟨bi,0,none⟩)),(1,14,fun g=>.pointer (some ⟨bi,0,none⟩)),(2,15,fun g=>.pointer (some ⟨bi,0,none⟩)),(3,16,fun g=>.pointer (some ⟨bi,0,none⟩)),(4,17,fun g=>.pointer (some ⟨b8,1,none⟩)),(5,18,fun g=>.int .i64 x.r),(6,19,fun g=>.pointer (some ⟨b8,3,none⟩)),(7,20,fun g=>.int .u32 x.n),(8,21,fun g=>.pointer (some ⟨b8,4,none⟩)),(9,22,fun g=>.int .i64 x.index),(10,23,fun g=>.pointer (some ⟨b8,5,none⟩)),(11,24,fun g=>.int .i64 x.scale),(12,25,fun g=>.pointer (some ⟨bi,0,none⟩)),(13,26,fun g=>.pointer (some ⟨bi,2,none⟩)),(15,27,fun g=>.pointer (some ⟨bi,0,none⟩)),(16,28,fun g=>.pointer (some ⟨bi,5,none⟩)),(18,29,fun g=>.pointer (some ⟨bi,0,none⟩)),(19,30,fun g=>.pointer (some ⟨bi,3,none⟩)),(21,31,fun g=>.pointer (some ⟨bi,0,none⟩)),(22,32,fun g=>.pointer (some ⟨bi,4,none⟩))] (fun D g=>fun w=>Hp (fun j=>j=bi) w_0 [(b8,aoO x),(b5,bk 91 [.string ⟨S.lb.toArray⟩,.string ⟨S.op.toArray⟩,.string ⟨S.sh.toArray⟩,.slice (some ⟨bo,off,none⟩) S.l.length S.cap,.pointer S.fp,.int .i64 S.a,.int .i64 S.z]),(bi,kiO ⟨i.op,i.d,bif D 14 then x.r else i.s,bif D 20 then x.index else i.index,bif D 23 then x.scale else i.scale,bif D 17 then x.n else i.imm,i.size⟩)] [] (fun u=>OpX F S u∧VlX F' VA v u) w) [[],[],[],[],[],[4],[],[6],[],[8],[],[10],[0],[12],[5,13],[1],[15],[7,16],[2],[18],[9,19],[3],[21],[11,22]] () (by kernel_rfl) (by kernel_rfl) (by kernel_rfl) (O2 M) (fun D w h hw=>by rw[h 14 (by decide),h 20 (by decide),h 23 (by decide),h 17 (by decide)];exact Hp.drew hw) ⟨?_,?_,?_,?_,?_,?_,?_,?_,?_,?_,?_,?_,?_,?_,?_,?_,?_,?_,?_,?_,?_,?_,?_,?_,trivial⟩ (fun g=>?_)
 ·intro D g hD hd;refine zI (v:=.pointer (some ⟨bi,0,none⟩)) ?_ M Jz;refine yW rfl
 ·intro D g hD hd;refine zI (v:=.pointer (some ⟨bi,0,none⟩)) ?_ M Jz;refine yW rfl
 ·intro D g hD hd;refine zI (v:=.pointer (some ⟨bi,0,none⟩)) ?_ M Jz;refine yW rfl
 ·intro D g hD hd;refine zI (v:=.pointer (some ⟨bi,0,none⟩)) ?_ M Jz;refine yW rfl
 ·intro D g hD hd;refine zI (v:=.pointer (some ⟨b8,1,none⟩)) ?_ M Jz;refine zY (off:=1) (sz:=0) M U100 (by kernel_rfl) rfl
 ·intro D g hD hd;have hd4:D 4=true:=hd 4 (by simp);refine zI (v:=.int .i64 x.r) ?_ M Jz;refine zL M U3 M (fun w hw=>HpG.cell (k:=0) hw M M)
 ·intro D g hD hd;refine zI (v:=.pointer (some ⟨b8,3,none⟩)) ?_ M Jz;refine zY (off:=3) (sz:=0) M U100 (by kernel_rfl) rfl
 ·intro D g hD hd;have hd6:D 6=true:=hd 6 (by simp);refine zI (v:=.int .u32 x.n) ?_ M Jz;refine zL M U22 M (fun w hw=>HpG.cell (k:=0) hw M M)
 ·intro D g hD hd;refine zI (v:=.pointer (some ⟨b8,4,none⟩)) ?_ M Jz;refine zY (off:=4) (sz:=0) M U100 (by kernel_rfl) rfl
 ·intro D g hD hd;have hd8:D 8=true:=hd 8 (by simp);refine zI (v:=.int .i64 x.index) ?_ M Jz;refine zL M U3 M (fun w hw=>HpG.cell (k:=0) hw M M)
 ·intro D g hD hd;refine zI (v:=.pointer (some ⟨b8,5,none⟩)) ?_ M Jz;refine zY (off:=5) (sz:=0) M U100 (by kernel_rfl) rfl
 ·intro D g hD hd;have hd10:D 10=true:=hd 10 (by simp);refine zI (v:=.int .i64 x.scale) ?_ M Jz;refine zL M U3 M (fun w hw=>HpG.cell (k:=0) hw M M)
 ·intro D g hD hd;have hd0:D 0=true:=hd 0 (by simp);refine zI (v:=.pointer (some ⟨bi,0,none⟩)) ?_ M Jz;refine xV rfl
 ·intro D g hD hd;have hd12:D 12=true:=hd 12 (by simp);refine zI (v:=.pointer (some ⟨bi,2,none⟩)) ?_ M Jz;refine zY (off:=2) (sz:=0) M U35 (by kernel_rfl) rfl
 ·intro D g hD hd;have hd5:D 5=true:=hd 5 (by simp);have hd13:D 13=true:=hd 13 (by simp);refine uO (wA 2 M M M M M (by kernel_rfl)) (fun _ w hw=>⟨g,trivial,wU.refl,hw⟩)
 ·intro D g hD hd;have hd1:D 1=true:=hd 1 (by simp);refine zI (v:=.pointer (some ⟨bi,0,none⟩)) ?_ M Jz;refine xV rfl
 ·intro D g hD hd;have hd15:D 15=true:=hd 15 (by simp);refine zI (v:=.pointer (some ⟨bi,5,none⟩)) ?_ M Jz;refine zY (off:=5) (sz:=0) M U35 (by kernel_rfl) rfl
 ·intro D g hD hd;have hd7:D 7=true:=hd 7 (by simp);have hd16:D 16=true:=hd 16 (by simp);refine uO (wA 2 M M M M M (by kernel_rfl)) (fun _ w hw=>⟨g,trivial,wU.refl,hw⟩)
 ·intro D g hD hd;have hd2:D 2=true:=hd 2 (by simp);refine zI (v:=.pointer (some ⟨bi,0,none⟩)) ?_ M Jz;refine xV rfl
 ·intro D g hD hd;have hd18:D 18=true:=hd 18 (by simp);refine zI (v:=.pointer (some ⟨bi,3,none⟩)) ?_ M Jz;refine zY (off:=3) (sz:=0) M U35 (by kernel_rfl) rfl
 ·intro D g hD hd;have hd9:D 9=true:=hd 9 (by simp);have hd19:D 19=true:=hd 19 (by simp);refine uO (wA 2 M M M M M (by kernel_rfl)) (fun _ w hw=>⟨g,trivial,wU.refl,hw⟩)
 ·intro D g hD hd;have hd3:D 3=true:=hd 3 (by simp);refine zI (v:=.pointer (some ⟨bi,0,none⟩)) ?_ M Jz;refine xV rfl
 ·intro D g hD hd;have hd21:D 21=true:=hd 21 (by simp);refine zI (v:=.pointer (some ⟨bi,4,none⟩)) ?_ M Jz;refine zY (off:=4) (sz:=0) M U35 (by kernel_rfl) rfl
 ·intro D g hD hd;have hd11:D 11=true:=hd 11 (by simp);have hd22:D 22=true:=hd 22 (by simp);refine uO (wA 2 M M M M M (by kernel_rfl)) (fun _ w hw=>⟨g,trivial,wU.refl,hw⟩)
 skip;refine wq_to (m':=[(0,.pointer (some ⟨bi,0,none⟩)),(8,Jx b8)]) (H':=Hp (fun j=>j=bi) w_0 [(b8,aoO x),(b5,bk 91 [.string ⟨S.lb.toArray⟩,.string ⟨S.op.toArray⟩,.string ⟨S.sh.toArray⟩,.slice (some ⟨bo,off,none⟩) S.l.length S.cap,.pointer S.fp,.int .i64 S.a,.int .i64 S.z]),(bi,kiO ⟨i.op,i.d,x.r,x.index,x.scale,x.n,i.size⟩)] [] (fun u=>OpX F S u∧VlX F' VA v u)) ?_ (O2 M) (fun w hw=>hw);refine vJ M fun w hw=>⟨rfl,Kk hw,HpG.blkL (j:=2) hw rfl⟩
end
end Go.Proofs.YtkaepknpplhgkaaGreatDoor
namespace Go.Proofs.YtkaepknpplhgkaaGreatDoor
open Go.RowKit
abbrev yE (f b c:Nat):Value:=.func (.func f) #[] #[.pointer (some ⟨b,0,none⟩),.pointer (some ⟨c,0,none⟩)]
theorem opK_rng {sel:KSel}(h:selB sel) (l:List AOp):0≤opK sel l∧opK sel l<256:=by
 cases sel with
 | always op=>exact h
 | arith k =>
  have h:k<15:=h;unfold opK;dsimp only
  cases l[1]? with
  | none=>dsimp only;omega
  | some o=>dsimp only;split<;>omega
 | access k =>
  have h:k<7:=h;unfold opK;dsimp only
  cases l[1]? with
  | none=>dsimp only;omega
  | some o=>dsimp only;split<;>omega
theorem u8_op {x:Int}(h0:0≤x) (h1:x<256):IntKind.u8.wrap x=((x.toNat:Nat):Int):=by rw[u8w];omega
theorem sizeK_op {x:Int}(h0:0≤x) (h1:x<256):uD ((x.toNat:Nat):Int)=uD (x%256):=by congr 1;omega
theorem sizeK_le (x:Int):uD x≤7:=by
 unfold uD
 cases h:pR x with
 | none=>exact Ad _
 | some p =>
  obtain⟨n,l⟩:=p;rcases rM h with ⟨_,_,rfl,_⟩|⟨_,_,rfl,_⟩|⟨_,_,rfl,_⟩|⟨_,_,rfl,_⟩|⟨_,_,rfl,_⟩|⟨_,_,rfl,_⟩|⟨_,_,rfl,_⟩|⟨_,_,rfl,_⟩|⟨_,_,rfl,_⟩|⟨_,rfl,_⟩|⟨_,_,rfl,_⟩<;>dsimp only<;>omega
abbrev opO (v:Value):Obj:=bk 105 [v]
abbrev flO (v:Value):Obj:=bk 167 [v]
theorem tS (f1 f2:FuncId) (c1 c2:List Value) (w_0:World):Calls Tryz.prog 105 #[fcV f1 c1,fcV f2 c2] w_0 fun e w'=>∃i:Nat×Nat,True∧e=.returned (.agg #[pfV 165 i.1,yE 167 i.1 i.2])∧Ext w_0 w'∧(Bl7 i.1 (opO (fcV f1 c1)) (fun k=>w_0.heap.size≤k) w'∧Bl7 i.2 (flO (fcV f2 c2)) (fun k=>w_0.heap.size≤k) w'):=by
 refine zN (args:=[fcV f1 c1,fcV f2 c2]) Tryz.func105 M 8 M (Kh M)<|Z2 0 1 M<|Z0<|zX<|zZ<|zA .none M (yQ M M) fun b2=>zA .none M (yQ M M) fun b3=>Zt (z:=Jd) (cs:=Jn) M fun b4=>ZX<|zZ<|ZF M (wX M M)<|ZF M (wX M M)<|ZF M (Zb [.nilFunc,.nilFunc] [(0,1),(1,1)] M)<|ZR 0 M<|ZT<|zK<|yS M M 0 M U108 M (by kernel_rfl) fun w hw=>⟨(b2,b3),trivial,rfl,(Kk hw).ext,⟨HpG.mineL (j:=2) hw M id,HpG.blkL (j:=2) hw rfl⟩,⟨HpG.mineL (j:=1) hw M id,HpG.blkL (j:=1) hw rfl⟩⟩
theorem RdF.low {F:Nat→Prop}{A:Option Addr}{cs:List Value}{w:World}(h:RdF F A cs w):RdF (fun k=>k<w.heap.size) A cs w:=RdF.lies.mono (fun _ h=>h.2) (RdF.lies.lt h)
theorem VlX.low {F:Nat→Prop}{A:Option Addr}{v:List Nat}{w:World}(h:VlX F A v w):VlX (fun k=>k<w.heap.size) A v w:=⟨h.r.low,h.n⟩
theorem sizeK_any (S:SV) (sel:KSel) (hb:selB sel) (hn:needS sel≤S.l.length) (hO:∀o∈S.l,OpR o) (b:Nat) (f1:FuncId) (c1:List Value) (g1:goes Tryz.prog f1=true) (F F':Nat→Prop) (w_0:World) (h1:Blk b (opO (fcV f1 c1)) w_0) (h2:oG sel (fcV f1 c1) F w_0) (hX:OpX F' S w_0) :
  Calls Tryz.prog 165 #[.agg (svC S).toArray,.pointer (some ⟨b,0,none⟩)] w_0 fun e w'=>e=.returned (.int .i64 (uD (opK sel S.l%256)))∧Ext w_0 w':=by
 obtain⟨r0,r1⟩:=opK_rng hb S.l;rw[← sizeK_op r0 r1];refine zN (args:=[.agg (svC S).toArray,.pointer (some ⟨b,0,none⟩)]) Tryz.func165 M 9 M (Kh M)<|Z2 0 1 M<|zG (H':=Jy w_0 [] [] (fun u=>Blk b (opO (fcV f1 c1)) u∧oG sel (fcV f1 c1) F u∧OpX F' S u)) (fun u hu=>?_) ?_;subst hu;exact Hp.start ⟨fun k=>k<u.heap.size,fun k hk=>⟨hk,id⟩,fun u' hu'=>⟨(hu' _ h1.lt).trans h1,oG.lies.mono (fun _ h=>h.1) (oG.lies.foot (F:=fun k=>F k∧k<u.heap.size) (fun k hk=>hu' k hk.2) (oG.lies.lt h2)),RdF.lies.mono (fun _ h=>h.1) (RdF.lies.foot (F:=fun k=>F' k∧k<u.heap.size) (fun k hk=>hu' k hk.2) (RdF.lies.lt hX))⟩⟩;refine zX<|zZ<|zA .none M (yQ M M) fun b2=>Za M M<|ZX<|zZ<|ZF M (zL M U105 M (fun w hw=>Blk.cell (HpG.x hw).1 M))<|ZF M (Zo 0 M U91 M)<|wl_callV0 (us:=[]) (vs:=[.agg (svC S).toArray]) (cs:=c1) .none M  g1 M M (fun w hw=>sel_call (HpG.x hw).2.1 (HpG.x hw).2.2 hb hn hO) ?_;refine ZF M (Zc M U5 (u8_op r0 r1))<|Zu (v:=.int .i64 (uD ((opK sel S.l).toNat:Int))) M (fun w hw=>size_any (opK sel S.l).toNat (by omega) w)<|Za M M<|ZU M M fun w hw=>⟨rfl,(Kk hw).ext⟩
theorem fil_any (fil:KFil) (S:SV) (v:List Nat) (VA:Option Addr) (vc a:Nat) (bi:Nat) (i:KI) (F F':Nat→Prop) (w_0:World) (hb:w_0.heap[bi]? = some (kiO i)) (hF:¬F bi) (hF':¬F' bi) (hX:OpX F S w_0) (hV:VlX F' VA v w_0) (hO:∀o∈S.l,OpR o) (ha:a<4294967296) (hn:needF fil≤S.l.length) (hl:v.length=S.l.length) (hl2:v.length≤1000000000) (hz0:0≤i.size) (hz1:i.size≤1000) :
  Calls Tryz.prog (vC fil) #[.pointer (some ⟨bi,0,none⟩),.agg (svC S).toArray,.slice VA v.length vc,.int .u32 a] w_0 (rH bi (qW fil i S.l v a) w_0):=by
 cases fil;exact nothing_fl S v VA vc a bi i F F' w_0 hb hF hF' hX hV hO ha;exact second_fl S v VA vc a bi i F F' w_0 hb hF hF' hX hV hO ha hn;exact value_fl S v VA vc a bi i F F' w_0 hb hF hF' hX hV hO ha (by have:needF .value=1:=rfl;omega) hl2;exact control_fl S v VA vc a bi i F F' w_0 hb hF hF' hX hV hO ha (by have:needF .control=2:=rfl;omega);exact target_fl S v VA vc a bi i F F' w_0 hb hF hF' hX hV hO ha (by have:needF .target=1:=rfl;omega) hz0 hz1;exact memory_fl S v VA vc a bi i F F' w_0 hb hF hF' hX hV hO ha hn
theorem fil_goes (fil:KFil):goes Tryz.prog (vC fil)=true:=by cases fil<;>kernel_rfl
theorem fillI_imm {fil:KFil}{i:KI}{l:List AOp}{v:List Nat}{a:Nat}(hi:i.imm<4294967296) (hv:∀x∈v,x<4294967296) (hO:∀o∈l,OpR o):(qW fil i l v a).imm<4294967296:=by
 cases fil
 case value =>
  show v.getLastD 0<_;rw[List.getLastD_eq_getLast?]
  cases h:v.getLast? with
  | none=>show 0<_;omega
  | some x=>exact hv x (List.mem_of_getLast? h)
 case target=>exact pE _ _
 case memory =>
  show (l.getD 1 uN).n<_;rw[Ku]
  cases h:l[1]? with
  | none=>show 0<_;omega
  | some x=>exact (hO x (Ko h)).n
 all_goals exact hi
theorem codeK_any (S:SV) (sel:KSel) (fil:KFil) (hb:selB sel) (hn:needS sel≤S.l.length) (hnf:needF fil≤S.l.length) (hO:∀o∈S.l,OpR o) (hsh:S.sh=xR S.l) (v:List Nat) (VA:Option Addr) (vc a:Nat) (ha:a<4294967296) (hl:v.length=S.l.length) (hl2:v.length≤1000000000) (b c:Nat) (f1:FuncId) (c1:List Value) (g1:goes Tryz.prog f1=true) (F F' F2:Nat→Prop) (w_0:World) (h1:Blk b (opO (fcV f1 c1)) w_0) (h3:Blk c (flO (fnV (vC fil))) w_0) (h2:oG sel (fcV f1 c1) F w_0) (hX0:OpX F' S w_0) (hV0:VlX F2 VA v w_0) :
  Calls Tryz.prog 167 #[.agg (svC S).toArray,.slice VA v.length vc,.int .u32 a,.pointer (some ⟨b,0,none⟩),.pointer (some ⟨c,0,none⟩)] w_0 fun e w'=>Ext w_0 w'∧match sT (.k sel fil) S.sh S.l v a with
   | .ok x=>e=.returned (.string ⟨x.toArray⟩)
   | .error k=>e=.panicked (pan (qK k)):=by
 have hX:=hX0.low;have hV:=hV0.low;obtain⟨r0,r1⟩:=opK_rng hb S.l;have hsz:=sizeK_op r0 r1;have hle:=sizeK_le (opK sel S.l%256)
 have hcode:sT (.k sel fil) S.sh S.l v a=match tW (qW fil ⟨opK sel S.l,if S.sh.headD 0=114 then (S.l.getD 0 uN).r else 0,0,-1,0,0,uD (opK sel S.l%256)⟩ S.l v a) with
  | some c=>.ok c
  | none=>.error 13:=by
  unfold sT;dsimp only;rw[insK_fill];rfl
 rw[hcode];generalize hdd:(if S.sh.headD 0=114 then (S.l.getD 0 uN).r else (0:Int))=dd;have hi:(qW fil ⟨opK sel S.l,dd,0,-1,0,0,uD (opK sel S.l%256)⟩ S.l v a).imm<4294967296:=fillI_imm (by show 0<_;omega) hV.n hO;rw[← hsz] at hi hle ⊢;refine zN (args:=[.agg (svC S).toArray,.slice VA v.length vc,.int .u32 a,.pointer (some ⟨b,0,none⟩),.pointer (some ⟨c,0,none⟩)]) Tryz.func167 M 50 M (Kh M)<|Z5 0 1 2 3 4 M<|zG (H':=Jy w_0 [] [] (fun u=>Blk b (opO (fcV f1 c1)) u∧Blk c (flO (fnV (vC fil))) u∧oG sel (fcV f1 c1) F u∧OpX (fun k=>k<w_0.heap.size) S u∧VlX (fun k=>k<w_0.heap.size) VA v u)) (fun u hu=>?_) ?_;subst hu;exact Hp.start ⟨fun k=>k<u.heap.size,fun k hk=>⟨hk,id⟩,fun u' hu'=>⟨(hu' _ h1.lt).trans h1,(hu' _ h3.lt).trans h3,oG.lies.mono (fun _ h=>h.1) (oG.lies.foot (F:=fun k=>F k∧k<u.heap.size) (fun k hk=>hu' k hk.2) (oG.lies.lt h2)),RdF.lies.foot (fun k hk=>hu' k hk) hX,VlX.lies.foot (fun k hk=>hu' k hk) hV⟩⟩;refine zX<|zZ<|zA .none M (yQ M M) fun b5=>Za M M<|ZX<|uY 10 [0,1,2,3,4,5,6,7,8,9] (J2 b5 b (svO S) (opO (fcV f1 c1))) (by kernel_rfl) (by kernel_rfl) J2.stab (fun w h=>⟨HpG.blk h (k:=0) rfl,(HpG.x h).1⟩) (fun n0 hn0=>?_);refine Zd M M M (zL M U105 M (fun w hw=>Blk.cell hw.2 M))<|Zd M M M (xL (cs:=svC S) M U91 M (by kernel_rfl) (fun w hw j v hj=>Blk.cell hw.1 (by rw[Ac];exact hj))) ?_;refine vP M<|wd_callV0 (us:=[]) (vs:=[.agg (svC S).toArray]) (cs:=c1) .none M  g1 M M (J2.ext) (fun w hw=>sel_call (HpG.x hw).2.2.1 (HpG.x hw).2.2.2.1 hb hn hO) ?_;refine Zd M M M (zL M U105 M (fun w hw=>Blk.cell hw.2 M))<|Zd M M M (xL (cs:=svC S) M U91 M (by kernel_rfl) (fun w hw j v hj=>Blk.cell hw.1 (by rw[Ac];exact hj))) ?_;refine vP M<|wd_callV0 (us:=[]) (vs:=[.agg (svC S).toArray]) (cs:=c1) .none M  g1 M M (J2.ext) (fun w hw=>sel_call (HpG.x hw).2.2.1 (HpG.x hw).2.2.2.1 hb hn hO) ?_;refine Zd M M M (Zc M U5 (u8_op r0 r1))<|vP M<|wd_pure .none M  (v:=.int .i64 (uD ((opK sel S.l).toNat:Int))) (by kernel_rfl) M (J2.ext) (fun w hw=>size_any (opK sel S.l).toNat (by omega) w)<|Zd M M M (Zb [.int .i64 0,.int .i64 0,.int .i64 0,.int .i64 0,.int .i64 0,.int .u32 0,.int .i64 0] [(0,1),(1,1),(2,1),(3,1),(4,1),(5,1),(6,1)] M)<|vP M<|wd_newH ?_ .none M (fun k hk=>Kr hk hn0) (pT (z:=Jc) (cs:=Jm) (by kernel_rfl) M) (fun b9 hb9=>?_);rfl;refine uE ?_;simp only[Kt,Kx];refine ZR 0 M<|ZT<|zB (ι:=Unit) (fun _=>[(1,.slice VA v.length vc),(2,.int .u32 a),(4,.pointer (some ⟨c,0,none⟩)),(5,Jx b5),(9,Jx b9)]) (fun _=>Jy w_0 [(b9,kiO ⟨opK sel S.l,dd,0,-1,0,0,(uD ((opK sel S.l).toNat:Int):Nat)⟩),(b5,svO S)] [] (fun u=>Blk b (opO (fcV f1 c1)) u∧Blk c (flO (fnV (vC fil))) u∧oG sel (fcV f1 c1) F u∧OpX (fun k=>k<w_0.heap.size) S u∧VlX (fun k=>k<w_0.heap.size) VA v u)) ?_ (fun _=>?_)
 ·refine zB (ι:={x:Bool // x=true↔S.sh.headD 0=114}) (fun x=>[(1,.slice VA v.length vc),(2,.int .u32 a),(4,.pointer (some ⟨c,0,none⟩)),(5,Jx b5),(9,Jx b9),(29,.bool x.1)]) (fun _=>Jy w_0 [(b9,kiO ⟨opK sel S.l,0,0,-1,0,0,(uD ((opK sel S.l).toNat:Int):Nat)⟩),(b5,svO S)] [] (fun u=>Blk b (opO (fcV f1 c1)) u∧Blk c (flO (fnV (vC fil))) u∧oG sel (fcV f1 c1) F u∧OpX (fun k=>k<w_0.heap.size) S u∧VlX (fun k=>k<w_0.heap.size) VA v u)) ?_ (fun x=>?_)
  ·refine Z8r 0 1 2 3 4 5 8 9 M<|ZF M (Y91x2 M) ?_;refine Zl 1 M U9 M<|ZF M (uL M M U9)<|Zm M M<|zQ 24 M (fun g4=>?_) (fun g4=>?_)
   ·obtain⟨c7,r7,hcr⟩:∃c r,S.sh=c::r:=by
     cases hq:S.sh with
     | nil=>rw[hq] at g4;simp at g4
     | cons c r=>exact⟨c,r,rfl⟩
    refine ZG M M M (Y91x2 M) ?_;refine ZG M M M (yU 1 M M M U9 M)<|ZG M M M (xX M M U9 M (show S.sh[0]? = some c7 by rw[hcr];rfl)) ?_;refine Zx M<|Zh M<|zS<|zU (ι:={x:Bool // x=true↔S.sh.headD 0=114}) ⟨_,⟨fun h=>by rw[hcr];exact (xC 114).2 (Kq h),fun h=>by rw[hcr] at h;exact Am.2 ((xC 114).1 h)⟩⟩ (O6 M) Jz
   skip;refine ZP M<|ZP M<|ZP M<|ZP M<|Zf M<|zS<|zU (ι:={x:Bool // x=true↔S.sh.headD 0=114}) ⟨false,⟨fun h=>(by cases h),fun h=>by rw[show S.sh=[] by simpa using g4] at h;exact absurd h (by decide)⟩⟩ (O6 M) Jz
  obtain⟨x,hx⟩:=x;dsimp only;refine zT M (fun h29=>?_) (fun h29=>?_)
  ·have hhd:=hx.1 h29
   have h0:0<S.l.length:=by
    cases hq:S.l with
    | nil=>rw[hsh,hq] at hhd;exact absurd hhd (by decide)
    | cons _ _=>simp
   obtain⟨x0,hx0⟩:∃x,S.l[0]? = some x:=⟨S.l[0],Kn _⟩;obtain⟨bo,off,hA⟩:=OpX.at_ hX h0;refine zZ<|ZF M (Y91x3 M) ?_;refine Zl 1 M U88 M<|ZF M (Zi (j:=0) (es:=6) (g:=bo) (o:=off) (len:=S.l.length) (cap:=S.cap) (congrArg (fun z=>some (Value.slice z S.l.length S.cap)) hA) M Tryz.underlying88 M h0 M) ?_;refine ZF M (zY (off:=1) (sz:=0) M U100 (by kernel_rfl) M) ?_;refine ZF M (zL M U3 M (fun w hw=>OpX.cell (HpG.x hw).2.2.2.1 (k:=0) (j:=1) hA hx0 (by omega) M)) ?_;refine ZF M (Y35x1 M) ?_;refine ZS 0 M<|zS<|zU (ι:=Unit) () (O5 M) (fun w h=>by rw[← hdd,Ah hhd,tJ hx0];exact h)
  skip;refine zR<|zU (ι:=Unit) () (O5 M) (fun w h=>by rw[← hdd,Ag (fun hh=>by rw[hx.2 hh] at h29;cases h29)];exact h)
 skip;refine zX<|zZ<|ZF M (zL M Tryz.underlying167 M (fun w hw=>Blk.cell (HpG.x hw).2.1 M))<|ZF M (Zo 1 M U91 M)<|Zm M M<|Zm M M<|xP (us:=[]) (vs:=[Jx b9,.agg (svC S).toArray,.slice VA v.length vc,.int .u32 a]) (cs:=[]) (v:=.tuple #[]) (ob':=kiO (qW fil ⟨opK sel S.l,dd,0,-1,0,0,(uD ((opK sel S.l).toNat:Int):Nat)⟩ S.l v a)) 0 .none M  (fil_goes fil) M M M (fun w hw=>fil_any fil S v VA vc a b9 _ (fun k=>k<w_0.heap.size) (fun k=>k<w_0.heap.size) w (HpG.blkL (j:=0) hw M) (Nat.not_lt.2 (HpG.mineL (j:=0) hw M id)) (Nat.not_lt.2 (HpG.mineL (j:=0) hw M id)) (HpG.x hw).2.2.2.1 (HpG.x hw).2.2.2.2 hO ha hnf hl hl2 (by dsimp only;omega) (by dsimp only;omega)) ?_;generalize qW fil ⟨opK sel S.l,dd,0,-1,0,0,(uD ((opK sel S.l).toNat:Int):Nat)⟩ S.l v a=J7 at hi ⊢;refine ZX<|Z5r 1 2 4 5 9 M<|ZF M (Zo 0 M U35 M)<|Zu (v:=.tuple #[.string ⟨((tW J7).getD []).toArray⟩,.int .i64 (if wW J7=true then 0 else 12)]) M (fun w hw=>encode_any J7 hi w)<|Zm M M<|ZF M (zC M M)<|ZF M (zC M M)<|Za M M<|Za M M<|ZX<|zX<|Z7r 1 2 4 5 9 10 11 M<|Zm M M<|ZF M (xF M M)<|ZT<|zT M (fun h47=>?_) (fun h47=>?_)
 ·replace h47:=xD h47
  have hj:tW J7=none:=by
   unfold wW at h47
   cases hq:tW J7 with
   | none=>rfl
   | some c=>rw[hq] at h47;exact absurd M h47
  refine Z8r 1 2 4 5 9 10 11 47 M<|ZF M (xA M U25)<|wL .none M<|zO<|xZ fun w hw=>⟨(Kk hw).ext,by rw[hj];rfl⟩
 replace h47:=wJ h47
 obtain⟨x7,hj⟩:∃x,tW J7=some x:=by
  unfold wW at h47
  cases hq:tW J7 with
  | none=>rw[hq] at h47;exact absurd h47 (by decide)
  | some c=>exact⟨c,rfl⟩
 refine zR<|zV<|zX<|Z8r 1 2 4 5 9 10 11 47 M<|Zm M M<|Za M M<|ZU M M fun w hw=>⟨(Kk hw).ext,by rw[hj];rfl⟩
end Go.Proofs.YtkaepknpplhgkaaGreatDoor
namespace Go.Proofs.YtkaepknpplhgkaaGreatDoor
open Go.RowKit
structure SQ where
 known:Bool
 d:Bool
 a:Bool
 b:Bool
 kind:Nat
 bits:Nat
 most:Nat
deriving DecidableEq
abbrev sqC (q:SQ):List Value:=[.bool q.known,.bool q.d,.bool q.a,.bool q.b,.int .i64 q.kind,.int .i64 q.bits,.int .u32 q.most]
def zSQ:SQ:=⟨false,false,false,false,0,0,0⟩
def tbF (T:Nat→SQ):Nat→Nat→List Value
 | _,0=>[]
 | i,n+1=>sqC (T i)++tbF T (i+1) n
abbrev tbO (T:Nat→SQ):Obj:=bk 236 (tbF T 0 64)
theorem sZ (T:Nat→SQ):∀n i,(tbF T i n).length=7*n
 | 0,_=>rfl
 | n+1,i=>by rw[tbF,Kb,sZ T n];simp;omega
theorem tbF_congr {T T':Nat→SQ}:∀n i,(∀j,i≤j→j<i+n→T j=T' j)→tbF T i n=tbF T' i n
 | 0,_,_=>rfl
 | n+1,i,h=>by rw[tbF,tbF,h i (by omega) (by omega),tbF_congr n (i+1) fun j h1 h2=>h j (by omega) (by omega)]
theorem tbF_one (T:Nat→SQ):∀n i,(tbF T i n).all (·.oneCell')=true
 | 0,_=>rfl
 | n+1,i=>by rw[tbF,List.all_append,tbF_one T n];rfl
def putT (T:Nat→SQ) (k:Nat) (q:SQ):Nat→SQ:=fun o=>if o=k then q else T o
theorem tbF_put (T:Nat→SQ) (q:SQ):∀n i k,k<n→(tbF T i n).take (7*k)++sqC q++(tbF T i n).drop (7*k+7)=tbF (putT T (i+k) q) i n
 | 0,_,_,h=>absurd h (by omega)
 | n+1,i,0,_=>by
  have e:putT T (i+0) q i=q:=Ah rfl;rw[tbF,tbF,e,tbF_congr (T:=putT T (i+0) q) (T':=T) n (i+1) fun j h1 _=>Ag (by omega)];have hl:(sqC (T i)).length=7:=rfl;rw[show 7*0+7=(sqC (T i)).length by rw[hl],List.drop_left' rfl];rfl
 | n+1,i,k+1,h=>by
  have ih:=tbF_put T q n (i+1) k (by omega);have e:putT T (i+(k+1)) q i=T i:=Ag (by omega);rw[tbF,tbF,e,show i+(k+1)=i+1+k by omega,← ih];have hl:(sqC (T i)).length=7:=rfl;rw[List.take_append,List.drop_append,hl,List.take_of_length_le (by rw[hl];omega),Aj (by rw[hl];omega),List.nil_append,show 7*(k+1)-7=7*k by omega,show 7*(k+1)+7-7=7*k+7 by omega];simp only[Kv]
theorem tbF_at (T:Nat→SQ):∀n i k,k<n→∀(j:Nat) v,(sqC (T (i+k)))[j]? = some v→(tbF T i n)[7*k+j]? = some v
 | 0,_,_,h=>absurd h (by omega)
 | n+1,i,0,_=>fun j v hj=>by
  rw[tbF,List.getElem?_append_left (by have:=(Kg.1 hj).1;simpa using this)];rw[show 7*0+j=j by omega];exact hj
 | n+1,i,k+1,h=>fun j v hj=>by
  have hl:(sqC (T i)).length=7:=rfl;rw[tbF,List.getElem?_append_right (by rw[hl];omega),hl,show 7*(k+1)+j-7=7*k+j by omega];exact tbF_at T n (i+1) k (by omega) j v (by rw[show i+1+k=i+(k+1) by omega];exact hj)
def xU (T:Nat→SQ) (ops:List Nat) (q:SQ):Nat→SQ:=fun o=>if o∈ops then q else T o
theorem setT_snoc (T:Nat→SQ) (ops:List Nat) (k:Nat) (q:SQ):xU T (ops++[k]) q=putT (xU T ops q) k q:=by
 funext o
 unfold xU putT
 by_cases h:o=k
 rw[Ah (by simp[h]),Ah h];rw[Ag h];show _=if o∈ops then q else T o
 by_cases h2:o∈ops
 rw[Ah (by simp[h2]),Ah h2];rw[Ag (by simp[h,h2]),Ag h2]
section
variable {P:Program}{n:Fr}{m:List (Nat×Value)}{ty:TypeId}{G B:Nat→Prop}{w0 w w':World}{L:List (Nat×Obj)}{R:List Rw}{X:World→Prop}
theorem cf_storeRowP {x y:Operand}{t T:TypeId}{g o:Nat}{cs seg:List Value}(k:Nat) (hx:ev m x=some (.pointer (some ⟨g,o,none⟩))) (hy:ev m y=some (.agg seg.toArray)) (hk:L[k]? = some (g,bk T cs)) (h1:seg.all (·.oneCell')=true) (ho:o+seg.length≤cs.length) (hs':(P.info? t).map (·.size)=some seg.length) :
  CF P (.store t x y) ty n m (HpG G B w0 L R X) (fun _:Unit=>undef) (fun _=>HpG G B w0 (L.set k (g,bk T (cs.take o++seg++cs.drop (o+seg.length)))) R X):=fun _ _ _ _ _ _ hs hw =>
 (ch_storeRow hs hx hy (List.all_eq_true.1 h1) ho hs' (hw.own _ (Ko hk))).mono fun _ _ ⟨e1,e2,e3⟩=>⟨(),e1,hw.turn hk e2 e3⟩
end
def intC (l:List Nat):List Value:=l.map fun x=>.int .i64 (x:Nat)
theorem sH (q:SQ) (ops:List Nat) (hops:∀o∈ops,o<64) (hl:ops.length≤1000) (T:Nat→SQ) (b bt:Nat) (w_0:World) (hb:Blk b (bk 3 (intC ops)) w_0) (ht:w_0.heap[bt]? = some (tbO T)) :
  Calls Tryz.prog 237 #[.agg (sqC q).toArray,.slice (some ⟨b,0,none⟩) ops.length ops.length,.pointer (some ⟨bt,0,none⟩)] w_0 fun e w'=>e=.returned (.tuple #[])∧Keep (fun j=>j=bt) w_0 w'∧w'.heap[bt]? = some (tbO (xU T ops { q with known:=true })):=by
 have hne:b≠bt:=obj_ne hb ht (bk_ne (by decide));refine zN (args:=[.agg (sqC q).toArray,.slice (some ⟨b,0,none⟩) ops.length ops.length,.pointer (some ⟨bt,0,none⟩)]) Tryz.func237 M 18 M (Kh M)<|Z3 0 1 2 M<|zG (H':=Hp (fun j=>j=bt) w_0 [(bt,tbO T)] [] (Blk b (bk 3 (intC ops)))) (fun u hu=>?_) ?_;subst hu;exact Hp.startB ht ⟨fun k=>k=b,fun k hk=>by subst hk;exact⟨hb.lt,hne⟩,fun u hu=>(hu _ M).trans hb⟩;refine zX<|zZ<|zA .none M (yQ M M) fun b3=>ZX<|zZ<|ZF M (zY (off:=0) (sz:=0) M U212 (by kernel_rfl) M) ?_;refine ZS 0 M<|ZX<|Z4r 0 1 2 3 M<|Zm M M<|ZF M (yK M U111)<|Zm M M<|ZT<|zJ<|yF (ι:={k:Nat // k≤ops.length}) (fun k=>[(2,.pointer (some ⟨bt,0,none⟩)),(3,Jx b3),(8,.slice (some ⟨b,0,none⟩) ops.length ops.length),(9,.int .i64 ops.length),(10,.int .i64 (k.1:Nat))]) (fun k=>Hp (fun j=>j=bt) w_0 [(b3,bk 212 (sqC { q with known:=true })),(bt,tbO (xU T (ops.take k.1) { q with known:=true }))] [] (Blk b (bk 3 (intC ops)))) (fun k=>ops.length-k.1) ⟨0,Ad _⟩ ?_ ?_ (fun k=>?_);exact O5 rfl;exact fun w h=>h;obtain⟨k,hk⟩:=k;dsimp only;refine zX<|zZ<|ZF M (yR M M)<|ZX<|zT M (fun h11=>?_) (fun h11=>?_)
 ·replace h11:=Ki h11;skip;obtain⟨o,ho⟩:∃o,ops[k]? = some o:=⟨ops[k]'(by omega),Kn _⟩;have ho64:=hops o (Ko ho);have htk:=take_one ho;refine zR<|zV<|zX<|zJ<|zX<|zZ<|ZF rfl (Zi (es:=1) rfl rfl U111 rfl (by first|omega|simp<;>omega) rfl) ?_;refine ZF M (zL M U3 M (fun w hw=>Blk.cell (HpG.x hw) (v:=.int .i64 o) (by unfold intC;rw[List.getElem?_map,Ac,Nat.mul_one,ho];rfl))) ?_;refine Za rfl rfl<|ZT<|Z7r 2 3 6 8 9 10 11 rfl<|Zm rfl rfl<|ZF rfl (Zo 0 rfl U212 rfl)<|ZF rfl (Zj (es:=7) rfl rfl Tryz.underlying236 rfl (by first|omega|simp<;>omega) rfl) ?_;refine yP .none (cf_storeRowP 1 M M M M (by rw[sZ];show 0+o*7+7≤7*64;omega) (by kernel_rfl)) (fun _=>?_);refine zS<|zH<|zV<|Z7r 2 3 6 8 9 10 11 M<|ZF M (zF M M (i64_in _ (by omega) (by omega)))<|Zm M M<|zS ?_
  refine yV (ι:={k:Nat // k≤ops.length}) ⟨k+1,by omega⟩ (by show ops.length-(k+1)<ops.length-k;omega) (O5 M) (fun w h=>by
   have e:=tbF_put (xU T (ops.take k) { q with known:=true }) { q with known:=true } 64 0 o ho64;rw[Ac,← setT_snoc,← htk] at e;have h':Hp (fun j=>j=bt) w_0 [(b3,bk 212 (sqC { q with known:=true })),(bt,bk 236 ((tbF (xU T (ops.take k) { q with known:=true }) 0 64).take (0+o*7)++sqC { q with known:=true }++(tbF (xU T (ops.take k) { q with known:=true }) 0 64).drop (0+o*7+7)))] [] (Blk b (bk 3 (intC ops))) w:=h;rw[show 0+o*7=7*o by omega,e] at h'
   exact h')
 replace h11:=Kj h11;skip;obtain rfl:k=ops.length:=by omega
 refine yM<|zP<|zP<|yN<|vJ M fun w hw=>⟨rfl,Kk hw,by rw[HpG.blkL (j:=1) hw rfl,Kz]⟩
def wV (op:Int):SQ:=match qU op with
 | some s=>⟨true,s.d,s.a,s.b,s.kind,s.bits,s.most⟩
 | none=>zSQ
def qRRR:SQ:=⟨true,true,true,true,0,0,0⟩
def qRRI:SQ:=⟨true,true,true,false,1,18,0⟩
def rT (T:Nat→SQ) (lo k:Nat) (q:SQ):Nat→SQ:=fun o=>if lo≤o∧o<lo+k then q else T o
theorem rT_step (T:Nat→SQ) (lo k:Nat) (q:SQ):xU (rT T lo k q) [lo+k] q=rT T lo (k+1) q:=by
 funext o
 unfold xU rT
 by_cases h:o=lo+k
 rw[Ah (by simp[h]),Ah (by omega)];rw[Ag (by simp[h])]
 by_cases h2:lo≤o∧o<lo+k
 rw[Ah h2,Ah (by omega)];rw[Ag h2,Ag (by omega)]
theorem rT_0 (T:Nat→SQ) (lo:Nat) (q:SQ):rT T lo 0 q=T:=by
 funext o
 unfold rT;rw[Ag (by omega)]
def T2:Nat→SQ:=rT (rT (fun _=>zSQ) 1 12 qRRR) 16 12 qRRI
def Tfin:Nat→SQ:=xU (xU (xU (xU (xU (xU (xU (xU (xU T2 [17,18,19] ⟨true,true,true,false,2,18,0⟩) [32,33,34,35,36,37] ⟨true,true,true,false,1,18,0⟩) [40] ⟨true,true,false,false,1,22,0⟩) [41] ⟨true,true,false,false,2,22,0⟩) [48] ⟨true,false,false,false,2,18,0⟩) [49,50,51] ⟨true,false,false,false,0,0,0⟩) [52] ⟨true,false,true,false,0,0,0⟩) [53] ⟨true,true,false,false,2,18,3⟩) [54] ⟨true,false,true,false,2,18,4⟩
theorem Tfin_is:∀op,op<64→Tfin op=wV op:=by
 have h:(List.range 64).all (fun op=>decide (Tfin op=wV op))=true:=by kernel_rfl
 exact fun op ho=>Ki (uF h op ho)
end Go.Proofs.YtkaepknpplhgkaaGreatDoor
namespace Go.Proofs.YtkaepknpplhgkaaGreatDoor
open Go.RowKit
set_option maxHeartbeats 1000000 in
theorem shapes_any (w_0:World):Calls Tryz.prog 207 #[] w_0 fun e w'=>e=.returned (.agg (tbF (fun k=>wV (k:Nat)) 0 64).toArray)∧Ext w_0 w':=by
 have hfin:tbF Tfin 0 64=tbF (fun k=>wV (k:Nat)) 0 64:=tbF_congr 64 0 fun j _ h=>Tfin_is j (by omega);rw[← hfin];refine zN (args:=[]) Tryz.func207 M 61 M (Kh M)<|yJ (.nil)<|Z0<|zX<|zZ<|zA .none M  (pT (z:=.agg (tbF (fun _=>zSQ) 0 64).toArray) (cs:=tbF (fun _=>zSQ) 0 64) (by kernel_rfl) M) (fun b0=>?_);refine ZX<|zZ<|zA .none M  (pT (z:=.agg (tbF (fun _=>zSQ) 0 64).toArray) (cs:=tbF (fun _=>zSQ) 0 64) (by kernel_rfl) M) (fun b1=>?_);refine ZX<|zZ<|ZF M (wX M M)<|Za M M<|ZX<|zX<|Z3r 0 1 2 M<|Za M M<|ZT<|zJ<|yF (ι:={k:Nat // k≤12}) (fun k=>[(0,Jx b0),(1,Jx b1),(2,pfV 237 b1),(3,.int .i64 ((1+k.1:Nat)))]) (fun k=>Jy w_0 [(b1,tbO (rT (fun _=>zSQ) 1 k.1 qRRR)),(b0,tbO (fun _=>zSQ))] [] (fun _=>True)) (fun k=>12-k.1) ⟨0,by omega⟩ ?_ ?_ (fun k=>?_);exact O4 rfl;exact fun w h=>by rw[rT_0];exact h
 obtain⟨k,hk⟩:=k;dsimp only;refine zX<|zX<|zZ<|Zm M M<|ZF M (xE M M)<|ZT<|zT M (fun h7=>?_) (fun h7=>?_)
 ·replace h7:=Ki h7;refine zR<|zV<|zX<|zJ<|Z5r 0 1 2 3 7 M<|Zm M M<|ZF M (Zb [.bool false,.bool false,.bool false,.bool false,.int .i64 0,.int .i64 0,.int .u32 0] [(0,1),(1,1),(2,1),(3,1),(4,1),(5,1),(6,1)] M)<|Zm M M<|Zs (z:=.int .i64 0) M U111 fun b13=>xP (us:=[]) (vs:=[.agg (sqC ⟨false,true,true,true,0,0,0⟩).toArray,.slice (some ⟨b13,0,none⟩) 1 1]) (cs:=[Jx b1]) (v:=.tuple #[]) (ob':=tbO (rT (fun _=>zSQ) 1 (k+1) qRRR)) 1 .none M  (by kernel_rfl) M M M (fun w hw=>(sH ⟨false,true,true,true,0,0,0⟩ [1+k] (fun o ho=>by cases Ar.1 ho;omega) (show 1≤1000 by omega) (rT (fun _=>zSQ) 1 k qRRR) b13 b1 w (HpG.blkL (j:=0) hw M) (HpG.blkL (j:=1) hw M)).mono fun e w' ⟨e1,e2,e3⟩=>⟨e1,e2,by rw[e3];show some (tbO (xU (rT (fun _=>zSQ) 1 k qRRR) [1+k] qRRR))=_;rw[rT_step]⟩) ?_;refine zS<|zH<|zV<|Z5r 0 1 2 3 7 M<|Zm M M<|ZF M (zF M M (i64_in _ (by omega) (by omega)))<|Za M M<|zS<|yV (ι:={k:Nat // k≤12}) ⟨k+1,by omega⟩ (by show 12-(k+1)<12-k;omega) (.cons M<|.cons M<|.cons M<|.consE M (by congr 1)<|.nil) (fun w h=>Hp.drop h (Km _ _) (.refl _))
 replace h7:=Kj h7;obtain rfl:k=12:=by omega
 refine yM<|zP<|zP<|yN<|zV<|zX<|zX<|Z5r 0 1 2 3 7 M<|Za M M<|ZT<|zJ<|yF (ι:={k:Nat // k≤12}) (fun k=>[(0,Jx b0),(1,Jx b1),(2,pfV 237 b1),(4,.int .i64 ((16+k.1:Nat)))]) (fun k=>Jy w_0 [(b1,tbO (rT (rT (fun _=>zSQ) 1 12 qRRR) 16 k.1 qRRI)),(b0,tbO (fun _=>zSQ))] [] (fun _=>True)) (fun k=>12-k.1) ⟨0,by omega⟩ ?_ ?_ (fun k=>?_);exact O4 rfl;exact fun w h=>by rw[rT_0];exact h
 obtain⟨k,hk⟩:=k;dsimp only;refine zX<|zX<|zZ<|Zm M M<|ZF M (xE M M)<|ZT<|zT M (fun h16=>?_) (fun h16=>?_)
 ·replace h16:=Ki h16;refine zR<|zV<|zX<|zJ<|Z5r 0 1 2 4 16 M<|Zm M M<|ZF M (Zb [.bool false,.bool false,.bool false,.bool false,.int .i64 0,.int .i64 0,.int .u32 0] [(0,1),(1,1),(2,1),(3,1),(4,1),(5,1),(6,1)] M)<|Zm M M<|Zs (z:=.int .i64 0) M U111 fun b22=>xP (us:=[]) (vs:=[.agg (sqC ⟨false,true,true,false,1,18,0⟩).toArray,.slice (some ⟨b22,0,none⟩) 1 1]) (cs:=[Jx b1]) (v:=.tuple #[]) (ob':=tbO (rT (rT (fun _=>zSQ) 1 12 qRRR) 16 (k+1) qRRI)) 1 .none M  (by kernel_rfl) M M M (fun w hw=>(sH ⟨false,true,true,false,1,18,0⟩ [16+k] (fun o ho=>by cases Ar.1 ho;omega) (show 1≤1000 by omega) (rT (rT (fun _=>zSQ) 1 12 qRRR) 16 k qRRI) b22 b1 w (HpG.blkL (j:=0) hw M) (HpG.blkL (j:=1) hw M)).mono fun e w' ⟨e1,e2,e3⟩=>⟨e1,e2,by rw[e3];show some (tbO (xU (rT (rT (fun _=>zSQ) 1 12 qRRR) 16 k qRRI) [16+k] qRRI))=_;rw[rT_step]⟩) ?_;refine zS<|zH<|zV<|Z5r 0 1 2 4 16 M<|Zm M M<|ZF M (zF M M (i64_in _ (by omega) (by omega)))<|Za M M<|zS<|yV (ι:={k:Nat // k≤12}) ⟨k+1,by omega⟩ (by show 12-(k+1)<12-k;omega) (.cons M<|.cons M<|.cons M<|.consE M (by congr 1)<|.nil) (fun w h=>Hp.drop h (Km _ _) (.refl _))
 replace h16:=Kj h16;obtain rfl:k=12:=by omega
 change WC _ _ _ _ _ (Jy w_0 [(b1,tbO T2),(b0,tbO (fun _=>zSQ))] [] (fun _=>True))
 refine yM<|zP<|zP<|yN<|zV<|zX<|Z5r 0 1 2 4 16 M<|Zm M M<|ZF M (Zb [.bool false,.bool false,.bool false,.bool false,.int .i64 0,.int .i64 0,.int .u32 0] [(0,1),(1,1),(2,1),(3,1),(4,1),(5,1),(6,1)] M)<|zA .none M (tX (z:=.int .i64 0) M M M M U111 (by kernel_rfl) (by kernel_rfl) M M) fun b26=>xP (us:=[]) (vs:=[.agg (sqC ⟨false,true,true,false,2,18,0⟩).toArray,.slice (some ⟨b26,0,none⟩) 3 3]) (cs:=[Jx b1]) (v:=.tuple #[]) (ob':=tbO (xU T2 [17,18,19] ⟨true,true,true,false,2,18,0⟩)) 1 .none M  (by kernel_rfl) M M M (fun w hw=>sH ⟨false,true,true,false,2,18,0⟩ [17,18,19] (by decide) (by decide) (T2) b26 b1 w (HpG.blkL (j:=0) hw M) (HpG.blkL (j:=1) hw M)) ?_;refine ZX<|Z5r 0 1 2 4 16 M<|Zm M M<|ZF M (Zb [.bool false,.bool false,.bool false,.bool false,.int .i64 0,.int .i64 0,.int .u32 0] [(0,1),(1,1),(2,1),(3,1),(4,1),(5,1),(6,1)] M)<|zA .none M (tX (z:=.int .i64 0) M M M M U111 (by kernel_rfl) (by kernel_rfl) M M) fun b30=>xP (us:=[]) (vs:=[.agg (sqC ⟨false,true,true,false,1,18,0⟩).toArray,.slice (some ⟨b30,0,none⟩) 6 6]) (cs:=[Jx b1]) (v:=.tuple #[]) (ob':=tbO (xU (xU T2 [17,18,19] ⟨true,true,true,false,2,18,0⟩) [32,33,34,35,36,37] ⟨true,true,true,false,1,18,0⟩)) 2 .none M  (by kernel_rfl) M M M (fun w hw=>sH ⟨false,true,true,false,1,18,0⟩ [32,33,34,35,36,37] (by decide) (by decide) (xU T2 [17,18,19] ⟨true,true,true,false,2,18,0⟩) b30 b1 w (HpG.blkL (j:=0) hw M) (HpG.blkL (j:=2) hw M)) ?_;refine ZX<|Z5r 0 1 2 4 16 M<|Zm M M<|ZF M (Zb [.bool false,.bool false,.bool false,.bool false,.int .i64 0,.int .i64 0,.int .u32 0] [(0,1),(1,1),(2,1),(3,1),(4,1),(5,1),(6,1)] M)<|Zs (z:=.int .i64 0) M U111 fun b34=>xP (us:=[]) (vs:=[.agg (sqC ⟨false,true,false,false,1,22,0⟩).toArray,.slice (some ⟨b34,0,none⟩) 1 1]) (cs:=[Jx b1]) (v:=.tuple #[]) (ob':=tbO (xU (xU (xU T2 [17,18,19] ⟨true,true,true,false,2,18,0⟩) [32,33,34,35,36,37] ⟨true,true,true,false,1,18,0⟩) [40] ⟨true,true,false,false,1,22,0⟩)) 3 .none M  (by kernel_rfl) M M M (fun w hw=>sH ⟨false,true,false,false,1,22,0⟩ [40] (by decide) (by decide) (xU (xU T2 [17,18,19] ⟨true,true,true,false,2,18,0⟩) [32,33,34,35,36,37] ⟨true,true,true,false,1,18,0⟩) b34 b1 w (HpG.blkL (j:=0) hw M) (HpG.blkL (j:=3) hw M)) ?_;refine ZX<|Z5r 0 1 2 4 16 M<|Zm M M<|ZF M (Zb [.bool false,.bool false,.bool false,.bool false,.int .i64 0,.int .i64 0,.int .u32 0] [(0,1),(1,1),(2,1),(3,1),(4,1),(5,1),(6,1)] M)<|Zs (z:=.int .i64 0) M U111 fun b38=>xP (us:=[]) (vs:=[.agg (sqC ⟨false,true,false,false,2,22,0⟩).toArray,.slice (some ⟨b38,0,none⟩) 1 1]) (cs:=[Jx b1]) (v:=.tuple #[]) (ob':=tbO (xU (xU (xU (xU T2 [17,18,19] ⟨true,true,true,false,2,18,0⟩) [32,33,34,35,36,37] ⟨true,true,true,false,1,18,0⟩) [40] ⟨true,true,false,false,1,22,0⟩) [41] ⟨true,true,false,false,2,22,0⟩)) 4 .none M  (by kernel_rfl) M M M (fun w hw=>sH ⟨false,true,false,false,2,22,0⟩ [41] (by decide) (by decide) (xU (xU (xU T2 [17,18,19] ⟨true,true,true,false,2,18,0⟩) [32,33,34,35,36,37] ⟨true,true,true,false,1,18,0⟩) [40] ⟨true,true,false,false,1,22,0⟩) b38 b1 w (HpG.blkL (j:=0) hw M) (HpG.blkL (j:=4) hw M)) ?_
 refine ZX<|Z5r 0 1 2 4 16 M<|Zm M M<|ZF M (Zb [.bool false,.bool false,.bool false,.bool false,.int .i64 0,.int .i64 0,.int .u32 0] [(0,1),(1,1),(2,1),(3,1),(4,1),(5,1),(6,1)] M)<|Zs (z:=.int .i64 0) M U111 fun b42=>xP (us:=[]) (vs:=[.agg (sqC ⟨false,false,false,false,2,18,0⟩).toArray,.slice (some ⟨b42,0,none⟩) 1 1]) (cs:=[Jx b1]) (v:=.tuple #[]) (ob':=tbO (xU (xU (xU (xU (xU T2 [17,18,19] ⟨true,true,true,false,2,18,0⟩) [32,33,34,35,36,37] ⟨true,true,true,false,1,18,0⟩) [40] ⟨true,true,false,false,1,22,0⟩) [41] ⟨true,true,false,false,2,22,0⟩) [48] ⟨true,false,false,false,2,18,0⟩)) 5 .none M  (by kernel_rfl) M M M (fun w hw=>sH ⟨false,false,false,false,2,18,0⟩ [48] (by decide) (by decide) (xU (xU (xU (xU T2 [17,18,19] ⟨true,true,true,false,2,18,0⟩) [32,33,34,35,36,37] ⟨true,true,true,false,1,18,0⟩) [40] ⟨true,true,false,false,1,22,0⟩) [41] ⟨true,true,false,false,2,22,0⟩) b42 b1 w (HpG.blkL (j:=0) hw M) (HpG.blkL (j:=5) hw M)) ?_;refine ZX<|Z5r 0 1 2 4 16 M<|Zm M M<|ZF M (Zb [.bool false,.bool false,.bool false,.bool false,.int .i64 0,.int .i64 0,.int .u32 0] [(0,1),(1,1),(2,1),(3,1),(4,1),(5,1),(6,1)] M)<|zA .none M (tX (z:=.int .i64 0) M M M M U111 (by kernel_rfl) (by kernel_rfl) M M) fun b46=>xP (us:=[]) (vs:=[.agg (sqC ⟨false,false,false,false,0,0,0⟩).toArray,.slice (some ⟨b46,0,none⟩) 3 3]) (cs:=[Jx b1]) (v:=.tuple #[]) (ob':=tbO (xU (xU (xU (xU (xU (xU T2 [17,18,19] ⟨true,true,true,false,2,18,0⟩) [32,33,34,35,36,37] ⟨true,true,true,false,1,18,0⟩) [40] ⟨true,true,false,false,1,22,0⟩) [41] ⟨true,true,false,false,2,22,0⟩) [48] ⟨true,false,false,false,2,18,0⟩) [49,50,51] ⟨true,false,false,false,0,0,0⟩)) 6 .none M  (by kernel_rfl) M M M (fun w hw=>sH ⟨false,false,false,false,0,0,0⟩ [49,50,51] (by decide) (by decide) (xU (xU (xU (xU (xU T2 [17,18,19] ⟨true,true,true,false,2,18,0⟩) [32,33,34,35,36,37] ⟨true,true,true,false,1,18,0⟩) [40] ⟨true,true,false,false,1,22,0⟩) [41] ⟨true,true,false,false,2,22,0⟩) [48] ⟨true,false,false,false,2,18,0⟩) b46 b1 w (HpG.blkL (j:=0) hw M) (HpG.blkL (j:=6) hw M)) ?_;refine ZX<|Z5r 0 1 2 4 16 M<|Zm M M<|ZF M (Zb [.bool false,.bool false,.bool false,.bool false,.int .i64 0,.int .i64 0,.int .u32 0] [(0,1),(1,1),(2,1),(3,1),(4,1),(5,1),(6,1)] M)<|Zs (z:=.int .i64 0) M U111 fun b50=>xP (us:=[]) (vs:=[.agg (sqC ⟨false,false,true,false,0,0,0⟩).toArray,.slice (some ⟨b50,0,none⟩) 1 1]) (cs:=[Jx b1]) (v:=.tuple #[]) (ob':=tbO (xU (xU (xU (xU (xU (xU (xU T2 [17,18,19] ⟨true,true,true,false,2,18,0⟩) [32,33,34,35,36,37] ⟨true,true,true,false,1,18,0⟩) [40] ⟨true,true,false,false,1,22,0⟩) [41] ⟨true,true,false,false,2,22,0⟩) [48] ⟨true,false,false,false,2,18,0⟩) [49,50,51] ⟨true,false,false,false,0,0,0⟩) [52] ⟨true,false,true,false,0,0,0⟩)) 7 .none M  (by kernel_rfl) M M M (fun w hw=>sH ⟨false,false,true,false,0,0,0⟩ [52] (by decide) (by decide) (xU (xU (xU (xU (xU (xU T2 [17,18,19] ⟨true,true,true,false,2,18,0⟩) [32,33,34,35,36,37] ⟨true,true,true,false,1,18,0⟩) [40] ⟨true,true,false,false,1,22,0⟩) [41] ⟨true,true,false,false,2,22,0⟩) [48] ⟨true,false,false,false,2,18,0⟩) [49,50,51] ⟨true,false,false,false,0,0,0⟩) b50 b1 w (HpG.blkL (j:=0) hw M) (HpG.blkL (j:=7) hw M)) ?_
 refine ZX<|Z5r 0 1 2 4 16 M<|Zm M M<|ZF M (Zb [.bool false,.bool false,.bool false,.bool false,.int .i64 0,.int .i64 0,.int .u32 0] [(0,1),(1,1),(2,1),(3,1),(4,1),(5,1),(6,1)] M)<|Zs (z:=.int .i64 0) M U111 fun b54=>xP (us:=[]) (vs:=[.agg (sqC ⟨false,true,false,false,2,18,3⟩).toArray,.slice (some ⟨b54,0,none⟩) 1 1]) (cs:=[Jx b1]) (v:=.tuple #[]) (ob':=tbO (xU (xU (xU (xU (xU (xU (xU (xU T2 [17,18,19] ⟨true,true,true,false,2,18,0⟩) [32,33,34,35,36,37] ⟨true,true,true,false,1,18,0⟩) [40] ⟨true,true,false,false,1,22,0⟩) [41] ⟨true,true,false,false,2,22,0⟩) [48] ⟨true,false,false,false,2,18,0⟩) [49,50,51] ⟨true,false,false,false,0,0,0⟩) [52] ⟨true,false,true,false,0,0,0⟩) [53] ⟨true,true,false,false,2,18,3⟩)) 8 .none M  (by kernel_rfl) M M M (fun w hw=>sH ⟨false,true,false,false,2,18,3⟩ [53] (by decide) (by decide) (xU (xU (xU (xU (xU (xU (xU T2 [17,18,19] ⟨true,true,true,false,2,18,0⟩) [32,33,34,35,36,37] ⟨true,true,true,false,1,18,0⟩) [40] ⟨true,true,false,false,1,22,0⟩) [41] ⟨true,true,false,false,2,22,0⟩) [48] ⟨true,false,false,false,2,18,0⟩) [49,50,51] ⟨true,false,false,false,0,0,0⟩) [52] ⟨true,false,true,false,0,0,0⟩) b54 b1 w (HpG.blkL (j:=0) hw M) (HpG.blkL (j:=8) hw M)) ?_;refine ZX<|Z5r 0 1 2 4 16 M<|Zm M M<|ZF M (Zb [.bool false,.bool false,.bool false,.bool false,.int .i64 0,.int .i64 0,.int .u32 0] [(0,1),(1,1),(2,1),(3,1),(4,1),(5,1),(6,1)] M)<|Zs (z:=.int .i64 0) M U111 fun b58=>xP (us:=[]) (vs:=[.agg (sqC ⟨false,false,true,false,2,18,4⟩).toArray,.slice (some ⟨b58,0,none⟩) 1 1]) (cs:=[Jx b1]) (v:=.tuple #[]) (ob':=tbO (xU (xU (xU (xU (xU (xU (xU (xU (xU T2 [17,18,19] ⟨true,true,true,false,2,18,0⟩) [32,33,34,35,36,37] ⟨true,true,true,false,1,18,0⟩) [40] ⟨true,true,false,false,1,22,0⟩) [41] ⟨true,true,false,false,2,22,0⟩) [48] ⟨true,false,false,false,2,18,0⟩) [49,50,51] ⟨true,false,false,false,0,0,0⟩) [52] ⟨true,false,true,false,0,0,0⟩) [53] ⟨true,true,false,false,2,18,3⟩) [54] ⟨true,false,true,false,2,18,4⟩)) 9 .none M  (by kernel_rfl) M M M (fun w hw=>sH ⟨false,false,true,false,2,18,4⟩ [54] (by decide) (by decide) (xU (xU (xU (xU (xU (xU (xU (xU T2 [17,18,19] ⟨true,true,true,false,2,18,0⟩) [32,33,34,35,36,37] ⟨true,true,true,false,1,18,0⟩) [40] ⟨true,true,false,false,1,22,0⟩) [41] ⟨true,true,false,false,2,22,0⟩) [48] ⟨true,false,false,false,2,18,0⟩) [49,50,51] ⟨true,false,false,false,0,0,0⟩) [52] ⟨true,false,true,false,0,0,0⟩) [53] ⟨true,true,false,false,2,18,3⟩) b58 b1 w (HpG.blkL (j:=0) hw M) (HpG.blkL (j:=9) hw M)) ?_;refine ZX<|Z5r 0 1 2 4 16 M<|ZF M (Zo 9 M Tryz.underlying236 M)<|yP .none (cf_storeRowP 10 M M M (tbF_one _ _ _) (by rw[sZ,sZ];exact Ae _) (by kernel_rfl)) (fun _=>?_);refine wT (H':=Jy w_0 [(b0,tbO Tfin)] [] (fun _=>True)) (fun w h=>?_) ?_
 ·have h2:Jy w_0 [(b0,bk 236 ((tbF (fun _=>zSQ) 0 64).take 0++tbF Tfin 0 64++(tbF (fun _=>zSQ) 0 64).drop (0+(tbF Tfin 0 64).length)))] [] (fun _=>True) w:=Hp.drop h (.cons _<|.cons _<|.cons _<|.cons _<|.cons _<|.cons _<|.cons _<|.cons _<|.cons _<|.cons _<|.refl _) (.refl _);rw[List.take_zero,List.nil_append,sZ,Aj (by rw[sZ];exact Ae _),Al] at h2;exact h2
 refine ZT<|zK<|yS M M 0 M Tryz.underlying236 M (by rw[sZ];kernel_rfl) (fun w hw=>?_);exact⟨rfl,(Kk hw).ext⟩
end Go.Proofs.YtkaepknpplhgkaaGreatDoor
namespace Go.Proofs.YtkaepknpplhgkaaGreatDoor
open Go.RowKit
abbrev qiC (i:QI):List Value:=[.int .i64 i.op,.int .i64 i.d,.int .i64 i.a,.int .i64 i.b,.int .u32 i.imm]
abbrev qiO (i:QI):Obj:=bk 74 (qiC i)
theorem pY {op:Int}(h:op<0∨64≤op):wV op=zSQ:=by
 have:qU op=none:=by
  unfold qU
  repeat rw[Ag (by omega)]
 unfold wV;rw[this]
theorem of_any (op:Int) (w_0:World):Calls Tryz.prog 154 #[.int .i64 op] w_0 fun e w'=>e=.returned (.agg (sqC (wV op)).toArray)∧Ext w_0 w':=by
 refine zN (args:=[.int .i64 op]) Tryz.func154 M 15 M (Kh M)<|Z1 0 M<|Z0<|zX<|zZ<|Zt (z:=Je) (cs:=Jo) M fun b2=>ZX<|zZ<|Zu (v:=.agg (tbF (fun k=>wV (k:Nat)) 0 64).toArray) M (fun w hw=>shapes_any w)<|zA .none M  (pT (z:=.agg (tbF (fun _=>zSQ) 0 64).toArray) (cs:=tbF (fun _=>zSQ) 0 64) (by kernel_rfl) M) (fun b3=>?_);refine yP .none (cf_storeRowP 0 M M M (tbF_one _ _ _) (by rw[sZ,sZ];exact Ae _) (by rw[sZ];kernel_rfl)) (fun _=>?_);refine wT (H':=Jy w_0 [(b3,tbO (fun k=>wV (k:Nat))),(b2,bk 212 (sqC zSQ))] [] (fun _=>True)) (fun w h=>?_) ?_
 ·have h2:Jy w_0 [(b3,bk 236 ((tbF (fun _=>zSQ) 0 64).take 0++tbF (fun k=>wV (k:Nat)) 0 64++(tbF (fun _=>zSQ) 0 64).drop (0+(tbF (fun k=>wV (k:Nat)) 0 64).length))),(b2,bk 212 (sqC zSQ))] [] (fun _=>True) w:=h;rw[List.take_zero,List.nil_append,sZ,Aj (by rw[sZ];exact Ae _),Al] at h2;exact h2
 refine ZX<|zX<|Z3r 0 2 3 M<|Zm M M<|ZF M (yR M M)<|Zm M M<|zQ 7 M (fun g3=>?_) (fun g3=>?_)
 ·replace g3:=Ki g3;refine ZP M<|ZP M<|Zh M<|ZT<|wY M<|zX<|Z4r 0 2 3 10 M<|ZF M (Zb [.bool false,.bool false,.bool false,.bool false,.int .i64 0,.int .i64 0,.int .u32 0] [(0,1),(1,1),(2,1),(3,1),(4,1),(5,1),(6,1)] M)<|ZR 1 M<|ZT<|zK<|zW<|yS M M 1 M U212 M (by kernel_rfl) fun w hw=>⟨by rw[pY (.inl g3)];rfl,(Kk hw).ext⟩
 replace g3:=Kj g3;refine Zv M<|ZG M M M (yC M M)<|Zf M<|ZT<|zT M (fun h10=>?_) (fun h10=>?_)
 ·replace h10:=Ki h10;refine zX<|Z4r 0 2 3 10 M<|ZF M (Zb [.bool false,.bool false,.bool false,.bool false,.int .i64 0,.int .i64 0,.int .u32 0] [(0,1),(1,1),(2,1),(3,1),(4,1),(5,1),(6,1)] M)<|ZR 1 M<|ZT<|zK<|zW<|yS M M 1 M U212 M (by kernel_rfl) fun w hw=>⟨by rw[pY (.inr h10)];rfl,(Kk hw).ext⟩
 replace h10:=Kj h10;have e0:wV op=wV ((0+op.toNat:Nat):Int):=by congr 1;omega
 refine zR<|zV<|zX<|Z4r 0 2 3 10 rfl<|Zm rfl rfl<|ZF rfl (Zj (es:=7) rfl rfl Tryz.underlying236 (Int.toNat_of_nonneg (by omega)).symm (by first|omega|simp<;>omega) rfl) ?_;refine ZF M (yf_loadRowL 0 (seg:=sqC (wV op)) M M (fun j v hj=>by rw[e0] at hj;have:=tbF_at (fun k=>wV (k:Nat)) 64 0 op.toNat (by omega) j v hj;rw[← this];congr 1;omega) U212 M (by kernel_rfl)) ?_;refine ZR 1 M<|ZT<|zK<|yS M M 1 M U212 M (by kernel_rfl) fun w hw=>⟨rfl,(Kk hw).ext⟩
theorem qfits_any (n:Int) (u:Bool) (w_0:World):Calls Tryz.prog 155 #[.int .i64 n,.bool u] w_0 fun e w'=>e=.returned (.bool (sS n u))∧Ext w_0 w':=by
 unfold sS;refine zN (args:=[.int .i64 n,.bool u]) Tryz.func155 M 18 M (Kh M)<|Z2 0 1 M<|Z0<|zX<|zZ<|Za M M<|ZX<|zZ<|Zm M M<|Ze M<|Zm M M<|zQ 7 M (fun g3=>?_) (fun g3=>?_)
 ·replace g3:=Kq g3;refine ZP M<|ZP M<|zE M M M<|zE M M M<|ZP M<|ZP M<|zE M M M<|zE M M M<|ZP M<|Zh M<|Za M M<|ZU M M fun w hw=>⟨by rw[An g3];rfl,(Kk hw).ext⟩
 replace g3:=yT g3;refine Zv M<|Zv M<|zQ 9 M (fun g5=>?_) (fun g5=>?_)
 ·refine Zv M<|ZG M M M (vS M M)<|ZG M M M (yA M M)<|Zv M<|zQ 13 M (fun g9=>?_) (fun g9=>?_)
  ·replace g9:=Ki g9;refine Zv M<|ZG M M M (yR M M)<|ZG M M M (yA M M)<|Zf M<|Za M M<|ZU M M fun w hw=>⟨by rw[Ao g3,g5,An g9];rfl,(Kk hw).ext⟩
  replace g9:=Kj g9;refine ZP M<|ZP M<|ZG M M M (yD M M)<|Zf M<|Za M M<|ZU M M fun w hw=>⟨by rw[Ao g3,g5,Ao g9];rfl,(Kk hw).ext⟩
 skip;refine ZP M<|ZP M<|ZG M M M (yD M M)<|Zv M<|ZP M<|ZP M<|ZG M M M (yD M M)<|Zf M<|Za M M<|ZU M M fun w hw=>⟨by rw[Ao g3,g5];rfl,(Kk hw).ext⟩
def immS (q:SQ) (n:Nat):Bool:=if q.kind=0 then decide (n=0) else if q.kind=1 then wE n q.bits else if 0<q.most then decide (n≤q.most) else decide (n/2 ^ q.bits=0)
structure SqOk (q:SQ):Prop where
 b:q.bits=0∨q.bits=18∨q.bits=22
 k:q.kind=1→q.bits≠0
 m:q.most≤4
theorem sqOf_ok (op:Int):SqOk (wV op):=by
 by_cases h:op<0∨64≤op
 rw[pY h];exact⟨.inl rfl,(fun h=>by cases h),by decide⟩;have h1:(List.range 64).all (fun op=>(decide ((wV (op:Nat)).bits=0)||decide ((wV (op:Nat)).bits=18)||decide ((wV (op:Nat)).bits=22))&&(!decide ((wV (op:Nat)).kind=1)||!decide ((wV (op:Nat)).bits=0))&&decide ((wV (op:Nat)).most≤4))=true:=by kernel_rfl
 have:=uF h1 op.toNat (by omega);rw[show ((op.toNat:Nat):Int)=op by omega] at this;simp only[Ab,Bool.or_eq_true,Af,Bool.not_eq_true',decide_eq_false_iff_not] at this;obtain⟨⟨a,b⟩,c⟩:=this;exact⟨by rcases a with (a|a)|a;exact .inl a;exact .inr (.inl a);exact .inr (.inr a),fun h=>b.resolve_left fun x=>x h,c⟩
theorem imm_any (q:SQ) (hq:SqOk q) (n:Nat) (hn:n<4294967296) (w_0:World):Calls Tryz.prog 156 #[.agg (sqC q).toArray,.int .u32 n] w_0 fun e w'=>e=.returned (.bool (immS q n))∧Ext w_0 w':=by
 have hb:=hq.b;unfold immS;refine zN (args:=[.agg (sqC q).toArray,.int .u32 n]) Tryz.func156 M 32 M (Kh M)<|Z2 0 1 M<|Z0<|zX<|zZ<|zA .none M (yQ M M) fun b2=>Za M M<|ZX<|zJ<|zX<|zZ<|ZF M (zY (off:=4) (sz:=0) M U212 (by kernel_rfl) M) ?_;refine Zl 0 M U3 M<|Ze M<|Za M M<|ZT<|zT M (fun h5=>?_) (fun h5=>?_)
 ·replace h5:=Kq h5;refine zX<|Z5r 0 1 2 4 5 M<|Zm M M<|Ze M<|Za M M<|ZT<|zK<|zM<|zW<|yY M M fun w hw=>⟨by rw[Ah (by omega)];congr 2;rw[Kf,Am,Af];omega,(Kk hw).ext⟩
 replace h5:=yT h5;refine zX<|Z5r 0 1 2 4 5 M<|ZF M (zY (off:=4) (sz:=0) M U212 (by kernel_rfl) M) ?_;refine Zl 0 M U3 M<|Ze M<|Za M M<|ZT<|zT M (fun h11=>?_) (fun h11=>?_)
 ·replace h11:=Kq h11;have hbit:BitA q.bits:=by have:=hq.k (by omega);unfold BitA;omega
  refine zX<|Z6r 0 1 2 4 5 11 M<|Zm M M<|ZF M (zY (off:=5) (sz:=0) M U212 (by kernel_rfl) M) ?_;refine Zl 0 M U3 M<|Zu (v:=.bool (wE n q.bits)) M (fun w hw=>fits_any n q.bits hn hbit w)<|Za M M<|ZT<|zK<|zM<|zW<|yY M M fun w hw=>⟨by rw[Ag (by omega),Ah (by omega)],(Kk hw).ext⟩
 replace h11:=yT h11;refine zX<|Z6r 0 1 2 4 5 11 M<|ZF M (zY (off:=6) (sz:=0) M U212 (by kernel_rfl) M) ?_;refine Zl 0 M U22 M<|ZF M (vS M M)<|Za M M<|ZT<|zT M (fun h19=>?_) (fun h19=>?_)
 ·replace h19:=Ki h19;refine zX<|Z7r 0 1 2 4 5 11 19 M<|Zm M M<|ZF M (zY (off:=6) (sz:=0) M U212 (by kernel_rfl) M) ?_;refine Zl 0 M U22 M<|ZF M (xE M M)<|Za M M<|ZT<|zK<|zM<|zW<|yY M M fun w hw=>⟨by rw[Ag (by omega),Ag (by omega),Ah (by omega)];congr 2;rw[Kf,Af,Af];omega,(Kk hw).ext⟩
 replace h19:=Kj h19;refine zR<|zH<|zV<|zX<|Z7r 0 1 2 4 5 11 19 M<|Zm M M<|ZF M (zY (off:=5) (sz:=0) M U212 (by kernel_rfl) M) ?_;refine Zl 0 rfl U3 rfl<|ZF rfl (qE rfl rfl (by first|decide|omega) rfl) ?_;refine Ze M<|Za M M<|ZU M M (fun w hw=>?_);refine⟨?_,(Kk hw).ext⟩;rw[Ag (by omega),Ag (by omega),Ag (by omega)];congr 2
 have e:((n:Int).fdiv (2 ^ (min (q.bits:Int).toNat IntKind.u32.bits)))=((n/2 ^ q.bits:Nat):Int):=by
  rw[show min (q.bits:Int).toNat IntKind.u32.bits=q.bits by have:IntKind.u32.bits=32:=rfl;omega,Int.fdiv_eq_ediv_of_nonneg _ (Int.le_of_lt (Int.pow_pos (by decide)))];simp
 rw[e,Kf,Am,Af];omega
end Go.Proofs.YtkaepknpplhgkaaGreatDoor
