import Derived.Test.YtfpkpnkdnammnaaGreatDoorSyJ
set_option maxRecDepth 100000
namespace Go.Proofs.YtfpkpnkdnammnaaGreatDoor
open Go.RowKit
structure BiJ where
 k:Nat
 e:Ex
 s:PS
 A:Option Addr
 cap:Nat
 F:Nat→Prop
structure BiOk (E:PE) (f n:Nat) (x:Ex) (s':PS) (n0:Nat) (j:BiJ):Prop where
 run:(exF E.tk j.k).loop n j.e j.s=some (x,s')
 k:j.k≤f
 at_:j.s.at_≤E.m
 F:∀k,j.F k→n0≤k
 c:j.e.kind=4→j.cap=j.e.kids.length
section
variable {tk:Nat→Tok}{r:EF}{s:PS}{p:Ex×PS}{n:Nat}{e:Ex}
theorem loopS_end (h:uY tk r n e s=some p) (hc:¬(s.err=0∧(tk s.at_).kind=3)):p=(e,s):=by
 unfold uY at h;rw[Ko hc] at h;cases h;rfl
theorem loopS_none (h:uY tk r n e s=some p) (hl:vC (tk s.at_).text levT=none):p=(e,s):=by
 unfold uY at h;have hl':wA (tk s.at_).text=none:=hl
 split at h
 ·rw[hl'] at h;cases h;rfl
 ·cases h;rfl
theorem loopS_low (h:uY tk r n e s=some p) {l:Nat}(hl:vC (tk s.at_).text levT=some l) (hn:l<n):p=(e,s):=by
 unfold uY at h;have hl':wA (tk s.at_).text=some l:=hl
 split at h
 ·rw[hl'] at h;dsimp only at h;rw[Kp hn] at h;cases h;rfl
 ·cases h;rfl
theorem loopS_go (h:uY tk r n e s=some p) (hc:s.err=0∧(tk s.at_).kind=3) {l:Nat}(hl:vC (tk s.at_).text levT=some l) (hn:¬l<n):∃x s1,r.bin (l+1) (adv s)=some (x,s1)∧r.loop n (.mk 7 0 (tk s.at_).text [e,x]) s1=some p:=by
 unfold uY at h;have hl':wA (tk s.at_).text=some l:=hl;rw[Kp hc,hl'] at h;dsimp only at h;rw[Ko hn] at h;exact yL h
end
theorem zero_int (w:World):(zeroValue 3).run Tryz.prog w=.ok (.int .i64 0) w:=by
 have h:=Tryz.zeroValue3;exact h w
theorem binary_any {E:PE}(hE:E.Ok) {f:Nat}(IH:EOk E f) (n:Nat) (hn:n≤8) (s:PS) (x:Ex) (s':PS) (hr:binS (exF E.tk f) n s=some (x,s')) (hs:s.at_≤E.m) (bp:Nat) (w_0:World) (hb:w_0.heap[bp]? = some (pO E s)) (hX:TkX E w_0):Calls Tryz.prog 167 #[.pointer (some ⟨bp,0,none⟩),.int .i64 n] w_0 (pJ E bp w_0 x s'):=by
 obtain⟨e0,s0,hu,hl0⟩:=yL hr;have hs0:=(qQ hE.kind f).un s hs e0 s0 hu;refine yV (args:=[.pointer (some ⟨bp,0,none⟩),.int .i64 n]) Tryz.func167 V 60 V (Jn V)<|Z2 0 1 V V<|zD (H':=Hp (fun k=>k=bp) w_0 [(bp,pO E s)] [] (TkX E)) (fun u hu=>?_) ?_
 ·subst hu;exact Hp.startP hb hX
 refine zY<|zX<|zC .none V (yK (z:=.agg #[.int .i64 0,.int .u32 0,.string ⟨#[]⟩,.slice none 0 0]) (cs:=Je) (by kernel_rfl) V) (fun b4=>?_);refine ZX<|zX<|Zm V V<|wl_ex E s e0 s0 bp 1 (uX hb) (fun _ h=>h) (fun w h1 h2=>IH.un s e0 s0 hu hs bp w h1 h2) .none V  (by kernel_rfl) V V (fun A0 cap0 F0 hF0 hc0=>?_);refine zC .none V (yK (z:=.agg #[.int .i64 0,.int .u32 0,.string ⟨#[]⟩,.slice none 0 0]) (cs:=Je) (by kernel_rfl) V) (fun b5=>?_);refine ZR 0 V V V V V (by kernel_rfl) ?_;refine ZX<|yY<|xV (ι:={j:BiJ // BiOk E f n x s' w_0.heap.size j}) (fun _=>[(0,.pointer (some ⟨bp,0,none⟩)),(1,.int .i64 n),(4,.pointer (some ⟨b4,0,none⟩)),(5,.pointer (some ⟨b5,0,none⟩))]) (fun j=>Hp (fun k=>k=bp) w_0 [(b5,bk 57 (xL j.1.e j.1.A j.1.cap)),(b4,bk 57 (exC 0 0 [] none 0 0)),(bp,pO E j.1.s)] [] (fun u=>xT j.1.F u j.1.e j.1.A j.1.cap∧TkX E u)) (fun j=>j.1.k) ⟨⟨f,e0,s0,A0,cap0,F0⟩,⟨hl0,Km _,hs0.2.1,hF0,hc0⟩⟩ ?_ ?_ (fun j=>?_)
 ·exact .cons V<|.cons V<|.cons V<|.cons V<|.nil
 ·exact fun w h=>h
 obtain⟨⟨k,e,s,A,cap,F⟩,⟨hrun,hk,hs,hF,hcc⟩⟩:=j;dsimp only at hrun hk hs hF hcc ⊢
 cases k with
 | zero=>cases hrun
 | succ k=>?_
 have hrun:uY E.tk (exF E.tk k) n e s=some (x,s'):=hrun;refine zY<|zY<|zX<|Zm V V<|wl_ok E s bp 2 .none V  V V<|Zm V V<|zH 13 V (fun h23=>?_) (fun h23=>?_)
 ·refine ZG V V V (zO V)<|ZG V V V (yR V)<|ZG V V V (Y90x0 V) ?_;refine ZG rfl rfl rfl (zW 2 rfl rfl rfl U87 rfl)<|ZG rfl rfl rfl (zJ (j:=0) (es:=4) rfl rfl U87 (by kernel_rfl) rfl (by first|decide|omega|(simp;done)|(simp;omega)) rfl) ?_;refine ZG V V V (Y92x0 V) ?_;refine ZG V V V (yO (v:=.int .i64 (E.tk s.at_).kind) V U3 V (fun w h=>tkAt (HpG.x h).2 hs 0 V (by omega))) ?_;refine ZG V V V (yS V V)<|ZF V (zP V V)<|ZT<|zT V (fun h22=>?_) (fun h22=>?_)
  ·replace h22:=Jw h22;have hc:s.err=0∧(E.tk s.at_).kind=3:=⟨by simpa using h23,by omega⟩;have ha:=sC hE.kind hs (by omega) (by omega);refine zG<|zQ<|yY<|zY<|Z5r 0 1 4 5 22 V V V V V<|Zm V V<|Zn V V<|ZF V (Y90x0 V) ?_;refine ZF rfl (zW 2 rfl rfl rfl U87 rfl)<|ZF rfl (zJ (j:=0) (es:=4) rfl rfl U87 (by kernel_rfl) rfl (by first|decide|omega|(simp;done)|(simp;omega)) rfl) ?_;refine ZF V (Y92x2 V) ?_;refine ZF V (yO (v:=.string ⟨(E.tk s.at_).text.toArray⟩) V U9 V (fun w h=>tkAt (HpG.x h).2 hs 2 V (by omega))) ?_;refine Za V V<|ZX<|Z6r 0 1 4 5 6 22 V V V V V V<|wl_levels (uX hb) .none V  (fun gl FL hFL=>?_);refine Zm V V<|ZF V (yf_lookupS V V (fun w h=>(HpG.x h).1.2.2) Tryz.underlying185 Tryz.underlying9 zero_int) ?_;refine Zm V V<|ZF V (xN V V)<|ZF V (xN V V)<|Za V V<|Za V V<|ZX<|zY<|Z8r 0 1 4 5 6 7 8 22 V V V V V V V V<|Zm V V<|ZF V (xJ V)<|Zm V V<|zH 38 V (fun h53=>?_) (fun h53=>?_)
   ·have hl:vC (E.tk s.at_).text levT=none:=by
     cases hq:vC (E.tk s.at_).text levT with
     | none=>rfl
     | some l=>rw[hq] at h53;simp at h53
    cases loopS_none hrun hl;refine ZP V<|ZP V<|ZP V<|ZF V (zP V V)<|ZT<|uT V<|xY<|zN<|wq_far V<|zN<|xZ<|zQ<|zY<|Z9r 0 1 4 5 6 7 8 22 42 V V V V V V V V V<|ZF V (yX 0 V V U57 V (by kernel_rfl)) ?_;refine ZR 1 V V V V V (by kernel_rfl) ?_;refine ZT<|zK<|yF V V 1 V U57 V (by kernel_rfl) (fun w hw=>?_);exact⟨A,cap,rfl,hcc,Jq hw,HpG.blkL (j:=2) hw rfl,xT.lies.mono hF (HpG.x hw).2.1⟩
   ·obtain⟨l,hl⟩:∃l,vC (E.tk s.at_).text levT=some l:=by
     cases hq:vC (E.tk s.at_).text levT with
     | none=>rw[hq] at h53;simp at h53
     | some l=>exact⟨l,rfl⟩
    have hl8:=levOf_lt hl;rw[hl];dsimp only[Option.getD];refine ZG V V V (zO V)<|ZG V V V (zO V)<|ZG V V V (xS V V)<|ZF V (zL V V)<|ZT<|zT V (fun h42=>?_) (fun h42=>?_)
    ·replace h42:=Jo h42;cases loopS_low hrun hl (by omega);refine xY<|zN<|wq_far V<|zN<|xZ<|zQ<|zY<|Z9r 0 1 4 5 6 7 8 22 42 V V V V V V V V V<|ZF V (yX 0 V V U57 V (by kernel_rfl)) ?_;refine ZR 1 V V V V V (by kernel_rfl) ?_;refine ZT<|zK<|yF V V 1 V U57 V (by kernel_rfl) (fun w hw=>?_);exact⟨A,cap,rfl,hcc,Jq hw,HpG.blkL (j:=2) hw rfl,xT.lies.mono hF (HpG.x hw).2.1⟩
    ·replace h42:=Jp h42;obtain⟨y,s1,hy1,hy2⟩:=loopS_go hrun hc hl (by omega);have hyf:=(exF_le (f:=k) (g:=f) (by omega)).bin (l+1) _ _ hy1;have hs1:=(qQ hE.kind k).bin (l+1) _ ha y s1 hy1;refine zG<|zQ<|zY<|Z9r 0 1 4 5 6 7 8 22 42 V V V V V V V V V<|Zm V V<|Zm V V<|Zn V V<|ZF V (Y90x0 V) ?_;refine ZF V (zW 2 V V V U87 V)<|ZF V (yf_adv hE ha V V Tryz.underlying87 (by kernel_rfl)) ?_;refine Zn V V<|ZF V (Y90x0 V) ?_;refine ZS 2 V V V V V (by kernel_rfl) ?_;refine ZT<|Z9 0 1 4 5 6 7 8 22 42 V V V V V V V V V<|wR 8 [0,1,2,3,4,5,6,7] (Blk b5 _) (by kernel_rfl) (by kernel_rfl) Blk.stab (fun w h=>HpG.blk h (k:=0) V) (fun n0 hn0=>?_);refine Zd V V V (zO V)<|Zd V V V (yf_loadRowJ V U57 V (by kernel_rfl)) ?_;refine Zd V V V (zO V)<|Zd V V V (zO V)<|Zd V V V (yI V V (show IntKind.i64.wrap ((l:Int)+1)=((l+1:Nat):Int) from by rw[i64_in _ (by omega) (by omega)];simp)) ?_;refine xF V<|wd_ex E (adv s) y s1 bp 2 (uX hb) (fun _ h=>h.2.2) (fun w w' h1 h2 hK=>h2.keep hK (HpG.ne h1 (i:=0) (j:=2) V V V)) (fun w h1 h2=>IH.bin (l+1) _ y s1 (by omega) hyf ha bp w h1 h2) .none V  (by kernel_rfl) V V (fun A2 cap2 F2 hF2 hc2=>?_);refine xF V<|tA ?_ .none V (fun k hk=>.inr (Jx hk hn0)) (nf_bs2 (z:=.agg #[.int .i64 0,.int .u32 0,.string ⟨#[]⟩,.slice none 0 0]) V V V V U55 (by kernel_rfl) (by kernel_rfl) V V V) (fun b57 hb57=>?_)
     ·rfl
     refine xF V<|sL V .none V (yQ [.int .i64 0,.int .u32 0,.string ⟨#[]⟩,.slice none 0 0] [(0,1),(1,1),(2,1),(3,1)] V (by kernel_rfl) (by kernel_rfl) V) ?_;refine wL ?_;simp only[Jz,Ke];refine ZR 1 V V V V V (by kernel_rfl) ?_;refine zU<|zM<|yC (ι:={j:BiJ // BiOk E f n x s' w_0.heap.size j}) ⟨⟨k,.mk 7 0 (E.tk s.at_).text [e,y],s1,some ⟨b57,0,none⟩,2,fun k=>F k∨F2 k∨(k=b57∧w_0.heap.size≤k)⟩,⟨hy2,by show k≤f;omega,hs1.2.1,fun k hk=>by rcases hk with h|h|h;exact hF k h;exact hF2 k h;exact h.2,fun h=>by cases h⟩⟩ (by show k<k+1;omega) (O4 rfl rfl rfl rfl) (fun w h=>?_);have hfr:=HpG.fresh (j:=0) (i:=3) h rfl rfl rfl;refine Hp.weakX (Hp.toX h (HpG.ne h (i:=0) (j:=3) V V V)) fun u ⟨hu1,hu2,_,hu3,hu4⟩=>⟨⟨cp22,_,Blk.rdF hu1 (.inr (.inr ⟨rfl,hfr⟩)),?_⟩,hu4⟩;exact ExsV.append (ExsV.lies.mono (fun _ h=>.inl h) hu3.one) (ExsV.lies.mono (fun _ h=>.inr (.inl h)) hu2.one)
  ·replace h22:=yP h22;cases loopS_end hrun (fun h=>by omega);refine xY<|zN<|zN<|xZ<|zQ<|zY<|Z5r 0 1 4 5 22 V V V V V<|ZF V (yX 0 V V U57 V (by kernel_rfl)) ?_;refine ZR 1 V V V V V (by kernel_rfl) ?_;refine ZT<|zK<|yF V V 1 V U57 V (by kernel_rfl) (fun w hw=>?_);exact⟨A,cap,rfl,hcc,Jq hw,HpG.blkL (j:=2) hw rfl,xT.lies.mono hF (HpG.x hw).1⟩
 ·cases loopS_end hrun (fun h=>by simp_all);refine ZP V<|ZP V<|ZP V<|ZP V<|ZP V<|ZP V<|ZP V<|ZP V<|ZF V (zL V V)<|ZT<|vU V<|xY<|zN<|zN<|xZ<|zQ<|zY<|Z5r 0 1 4 5 22 V V V V V<|ZF V (yX 0 V V U57 V (by kernel_rfl)) ?_;refine ZR 1 V V V V V (by kernel_rfl) ?_;refine ZT<|zK<|yF V V 1 V U57 V (by kernel_rfl) (fun w hw=>?_);exact⟨A,cap,rfl,hcc,Jq hw,HpG.blkL (j:=2) hw rfl,xT.lies.mono hF (HpG.x hw).1⟩
theorem ex_step {E:PE}(hE:E.Ok) {f:Nat}(hf:f≤100000000) (IH:EOk E f):EOk E (f+1) :=
 ⟨fun s x s' hr hs bp w hb hX=>primary_any hE IH hf s x s' hr hs bp w hb hX,fun s x s' hr hs bp w hb hX=>unary_any hE IH s x s' hr hs bp w hb hX,fun n s x s' hn hr hs bp w hb hX=>binary_any hE IH n hn s x s' hr hs bp w hb hX⟩
theorem ex_all {E:PE}(hE:E.Ok):∀f,f≤100000000→EOk E f
 | 0,_=>⟨fun _ _ _ h=>(by cases h),fun _ _ _ h=>(by cases h),fun _ _ _ _ _ h=>(by cases h)⟩
 | f+1,h=>ex_step hE (by omega) (ex_all hE f (by omega))
end Go.Proofs.YtfpkpnkdnammnaaGreatDoor
namespace Go.Proofs.YtfpkpnkdnammnaaGreatDoor
open Go.RowKit
def SimK (F:Nat→Prop) (w:World) (kc:List Value) (A1:Option Addr) (x:Ex) (A2:Option Addr) (cap2:Nat):Prop:=RdF F A1 (kc++xL x A2 cap2) w∧xT F w x A2 cap2
theorem SimK.lies {kc:List Value}{A1:Option Addr}{x:Ex}{A2:Option Addr}{cap2:Nat}:Lies fun F w=>SimK F w kc A1 x A2 cap2 :=
 ⟨fun hk ⟨h1,h2⟩=>⟨RdF.lies.foot hk h1,xT.lies.foot hk h2⟩,fun ⟨h1,h2⟩=>⟨RdF.lies.lt h1,xT.lies.lt h2⟩,fun hF ⟨h1,h2⟩=>⟨RdF.lies.mono hF h1,xT.lies.mono hF h2⟩⟩
structure SiV where
 (A1 A2:Option Addr)
 (c1 cap2:Nat)
abbrev siC (k:Nat) (nm:Bs) (len:Nat) (i:SiV):List Value:=stC k nm i.A1 (len+1) i.c1 none 0 0 none 0 0
def SimPost (E:PE) (bp:Nat) (w:World) (k:Nat) (nm:Bs) (len:Nat) (kc:List Value) (x:Ex) (s':PS) (e:Ending) (w':World):Prop:=∃i:SiV,Cp (len+1) i.c1∧e=.returned (.agg (siC k nm len i).toArray)∧Keep (fun j=>j=bp) w w'∧w'.heap[bp]? = some (pO E s')∧SimK (fun k=>w.heap.size≤k) w' kc i.A1 x i.A2 i.cap2
theorem Hp.startPX {E:PE}{w:World}{bp:Nat}{s:PS}{T:(Nat→Prop)→World→Prop}(hT:Lies T) {F:Nat→Prop}(hF:∀k,F k→k≠bp) (h:T F w) (hb:w.heap[bp]? = some (pO E s)) (hX:TkX E w):Hp (fun k=>k=bp) w [(bp,pO E s)] [] (fun u=>T F u∧TkX E u) w :=
 Hp.startB hb ⟨fun k=>(F k∧k<w.heap.size)∨k=E.g,fun k hk=>by rcases hk with hk|rfl;exact⟨hk.2,hF k hk.1⟩;exact⟨hX.lt,hX.ne hb⟩,fun u hu=>⟨hT.mono (fun _ hk=>hk.1) (hT.foot (F:=fun k=>F k∧k<w.heap.size) (fun k hk=>hu k (.inl hk)) (hT.lt h)),hX.foot (hu _ (.inr rfl))⟩⟩
theorem sH {E:PE}(hE:E.Ok) {f:Nat}(IH:EOk E f) (k:Nat) (nm:Bs) (A0:Option Addr) (len:Nat) (kc:List Value) (hk4:kc.length=len*4) (hlen:len≤1) (hA0:len=0→A0=none) (s:PS) (x:Ex) (s1:PS) (hr:(exF E.tk f).bin 0 s=some (x,s1)) (hs:s.at_≤E.m) (bp:Nat) {F0:Nat→Prop}(hF0:∀k,F0 k→k≠bp) (w_0:World) (hb:w_0.heap[bp]? = some (pO E s)) (hX:TkX E w_0) (h0:RdF F0 A0 kc w_0) :
  Calls Tryz.prog 152 #[.pointer (some ⟨bp,0,none⟩),.agg (stC k nm A0 len len none 0 0 none 0 0).toArray] w_0 (SimPost E bp w_0 k nm len kc x (yA E.tk [59] s1)):=by
 have hs1:=(qQ hE.kind f).bin 0 s hs x s1 hr;refine yV (args:=[.pointer (some ⟨bp,0,none⟩),.agg (stC k nm A0 len len none 0 0 none 0 0).toArray]) Tryz.func152 V 15 V (Jn V)<|Z2 0 1 V V<|zD (H':=Hp (fun k=>k=bp) w_0 [(bp,pO E s)] [] (fun u=>RdF F0 A0 kc u∧TkX E u)) (fun u hu=>?_) ?_
 ·subst hu;exact Hp.startPX RdF.lies hF0 h0 hb hX
 refine zY<|zX<|zC .none V (vY V V) (fun b3=>?_);refine zC .none V (yK (z:=.agg #[.int .i64 0,.string ⟨#[]⟩,.slice none 0 0,.slice none 0 0,.slice none 0 0]) (cs:=Jf) (by kernel_rfl) V) (fun b4=>?_);refine ZX<|wR 5 [0,1,2,3,4] (Blk b3 _) (by kernel_rfl) (by kernel_rfl) Blk.stab (fun w h=>HpG.blk h (k:=1) V) (fun n0 hn0=>?_);refine Zd V V V (Y60x2 V) ?_;refine Zd V V V (uH V V U55 V)<|Zd V V V (zO V)<|xF V<|wd_ex E s x s1 bp 2 (uX hb) (fun _ h=>h.2) (fun w w' h1 h2 hK=>h2.keep hK (HpG.ne h1 (i:=1) (j:=2) V V V)) (fun w h1 h2=>rQ IH s x s1 hr hs bp w h1 h2) .none V  (by kernel_rfl) V V (fun A2 cap2 F2 hF2 hc2=>?_);refine xF V<|tA ?_ .none V (fun k hk=>.inr (Jx hk hn0)) (xR (z:=.agg #[.int .i64 0,.int .u32 0,.string ⟨#[]⟩,.slice none 0 0]) V V U55 (by kernel_rfl) (by kernel_rfl) V V) (fun b9 hb9=>?_)
 ·rfl
 refine wL ?_;simp only[Jz,Ke];refine wl_appendX (z:=.agg #[.int .i64 0,.int .u32 0,.string ⟨#[]⟩,.slice none 0 0]) (bytes:=56) (E:=57) (size:=4) (olds:=kc) 0 .none V  hA0 hk4 (fun w h=>RdF.rd (HpG.x h).2.1) V V V Tryz.underlying55 (by kernel_rfl) V V V V V (by omega) (by omega) (fun a10 c10 h10=>?_);refine ZF V (Y60x2 V) ?_;refine ZS 2 V V V V V (by kernel_rfl) ?_;refine ZX<|Z4r 0 1 3 4 V V V V<|Zm V V<|vP E hE s1 hs1.2.1 [59] bp (fun _ h=>h.2.2) 3 .none V  V V ?_;refine ZX<|Z4r 0 1 3 4 V V V V<|ZF V (yX 2 V V U60 V (by kernel_rfl)) ?_;refine ZR 1 V V V V V (by kernel_rfl) ?_;refine ZT<|zK<|yF V V 1 V U60 V (by kernel_rfl) (fun w hw=>?_);exact⟨⟨some ⟨a10,0,none⟩,A2,c10,cap2⟩,HpG.rowCp (j:=0) hw rfl,rfl,Jq hw,HpG.blkL (j:=3) hw rfl,HpG.rowF (j:=0) hw rfl,xT.lies.mono hF2 (HpG.x hw).1⟩
def StPost (E:PE) (bp:Nat) (w:World) (t:St) (s':PS) (e:Ending) (w':World):Prop:=∃a,e=.returned (.agg (stOf t a).toArray)∧Keep (fun j=>j=bp) w w'∧w'.heap[bp]? = some (pO E s')∧stsK (fun k=>w.heap.size≤k) w' t a
def wQ (F:Nat→Prop) (w:World) (l:List St) (A:Option Addr) (cap:Nat):Prop:=Cp l.length cap∧∃cs,RdF F A cs w∧StsV F w l cs
theorem wQ.lies {l:List St}{A:Option Addr}{cap:Nat}:Lies fun F w=>wQ F w l A cap :=
 ⟨fun hk ⟨h0,cs,h1,h2⟩=>⟨h0,cs,RdF.lies.foot hk h1,StsV.lies.foot hk h2⟩,fun ⟨h0,cs,h1,h2⟩=>⟨h0,cs,RdF.lies.lt h1,StsV.lies.lt h2⟩,fun hF ⟨h0,cs,h1,h2⟩=>⟨h0,cs,RdF.lies.mono hF h1,StsV.lies.mono hF h2⟩⟩
def BlPost (E:PE) (bp:Nat) (w:World) (l:List St) (s':PS) (e:Ending) (w':World):Prop:=∃A cap,e=.returned (.slice A l.length cap)∧Keep (fun j=>j=bp) w w'∧w'.heap[bp]? = some (pO E s')∧wQ (fun k=>w.heap.size≤k) w' l A cap
abbrev EE (E:PE) (fe:Nat):PS→Option (Ex×PS):=(exF E.tk fe).bin 0
structure SOk (E:PE) (fe f:Nat):Prop where
 stm:∀s t s',(stF E.tk (EE E fe) f).stm s=some (t,s')→s.err=0→s.at_≤E.m→∀bp w,w.heap[bp]? = some (pO E s)→TkX E w→Calls Tryz.prog 128 #[.pointer (some ⟨bp,0,none⟩)] w (StPost E bp w t s')
 blk:∀s l s',vQ E.tk (stF E.tk (EE E fe) f) s=some (l,s')→s.at_≤E.m→∀bp w,w.heap[bp]? = some (pO E s)→TkX E w→Calls Tryz.prog 88 #[.pointer (some ⟨bp,0,none⟩)] w (BlPost E bp w l s')
section
variable {ops:Array Oper}{Q:Exit→Act→World→Prop}{n:Nat}{m:List (Nat×Value)}{ty:TypeId}{G B:Nat→Prop}{w0:World}{L:List (Nat×Obj)}{R:List Rw}{X:World→Prop}{rest:List Oper}{d:Nat}{pos:String}{af:Array Edge}{gd:Option (Nat×Bool)}{f:FuncId}{args:List Operand}{ats:Array TypeId}{vs:List Value}
theorem wl_st (E:PE) (s:PS) (t:St) (s':PS) (bp:Nat) (k:Nat) (hB:∀k,B k→k<w0.heap.size) (hX:∀w,X w→TkX E w) (hC:∀w,w.heap[bp]? = some (pO E s)→TkX E w→Calls Tryz.prog f vs.toArray w (StPost E bp w t s')) (hg:Gd ops m gd) (hd:Nat.blt d n=true) (hf:goes Tryz.prog f=true) (ha:evl m args=some vs) (hk:L[k]? = some (bp,pO E s))
  (h:∀a F,(∀k,F k→w0.heap.size≤k)→WL Tryz.prog ops Q rest n ((d,.agg (stOf t a).toArray)::m) (Hp B w0 (L.set k (bp,pO E s')) R (fun u=>stsK F u t a∧X u))) :
  WL Tryz.prog ops Q (⟨some d,.call { callee:=.value (.func f),args:=args.toArray,argTypes:=ats },ty,pos,af,gd⟩::rest) n m (Hp B w0 L R X) :=
 pH (ι:=StA) (C:=fun _=>True) (val:=fun a=>.agg (stOf t a).toArray) (obi:=fun _=>pO E s') (TT:=fun a F u=>stsK F u t a) hg hd k hf ha hk hB (fun _=>stsK.lies)
  (fun w h1 hw=>(hC w h1 (hX w (HpG.x hw))).mono fun _ _ ⟨a,e1,e2,e3,e4⟩=>⟨a,trivial,e1,e2,e3,e4⟩) fun a F _ hF=>h a F hF
theorem wl_bl (E:PE) (s:PS) (l:List St) (s':PS) (bp:Nat) (k:Nat) (hB:∀k,B k→k<w0.heap.size) (hX:∀w,X w→TkX E w) (hC:∀w,w.heap[bp]? = some (pO E s)→TkX E w→Calls Tryz.prog f vs.toArray w (BlPost E bp w l s')) (hg:Gd ops m gd) (hd:Nat.blt d n=true) (hf:goes Tryz.prog f=true) (ha:evl m args=some vs) (hk:L[k]? = some (bp,pO E s))
  (h:∀A cap F,(∀k,F k→w0.heap.size≤k)→WL Tryz.prog ops Q rest n ((d,.slice A l.length cap)::m) (Hp B w0 (L.set k (bp,pO E s')) R (fun u=>wQ F u l A cap∧X u))) :
  WL Tryz.prog ops Q (⟨some d,.call { callee:=.value (.func f),args:=args.toArray,argTypes:=ats },ty,pos,af,gd⟩::rest) n m (Hp B w0 L R X) :=
 pH (ι:=Option Addr×Nat) (C:=fun _=>True) (val:=fun i=>.slice i.1 l.length i.2) (obi:=fun _=>pO E s') (TT:=fun i F u=>wQ F u l i.1 i.2) hg hd k hf ha hk hB (fun _=>wQ.lies)
  (fun w h1 hw=>(hC w h1 (hX w (HpG.x hw))).mono fun _ _ ⟨A,cap,e1,e2,e3,e4⟩=>⟨(A,cap),trivial,e1,e2,e3,e4⟩) fun i F _ hF=>h i.1 i.2 F hF
theorem wl_si (E:PE) (s:PS) (st:Nat) (nm:Bs) (len:Nat) (kc:List Value) (x:Ex) (s':PS) (bp:Nat) (k:Nat) (hB:∀k,B k→k<w0.heap.size) (hC:∀w,w.heap[bp]? = some (pO E s)→X w→Calls Tryz.prog f vs.toArray w (SimPost E bp w st nm len kc x s')) (hg:Gd ops m gd) (hd:Nat.blt d n=true) (hf:goes Tryz.prog f=true) (ha:evl m args=some vs) (hk:L[k]? = some (bp,pO E s))
  (h:∀(i:SiV) F,Cp (len+1) i.c1→(∀k,F k→w0.heap.size≤k)→WL Tryz.prog ops Q rest n ((d,.agg (siC st nm len i).toArray)::m) (Hp B w0 (L.set k (bp,pO E s')) R (fun u=>SimK F u kc i.A1 x i.A2 i.cap2∧X u))) :
  WL Tryz.prog ops Q (⟨some d,.call { callee:=.value (.func f),args:=args.toArray,argTypes:=ats },ty,pos,af,gd⟩::rest) n m (Hp B w0 L R X) :=
 pH (ι:=SiV) (C:=fun i=>Cp (len+1) i.c1) (val:=fun i=>.agg (siC st nm len i).toArray) (obi:=fun _=>pO E s') (TT:=fun i F u=>SimK F u kc i.A1 x i.A2 i.cap2) hg hd k hf ha hk hB (fun _=>SimK.lies)
  (fun w h1 hw=>(hC w h1 (HpG.x hw)).mono fun _ _ ⟨i,e0,e1,e2,e3,e4⟩=>⟨i,e0,e1,e2,e3,e4⟩) fun i F h0 hF=>h i F h0 hF
end
structure BlJ where
 k:Nat
 acc:List St
 s:PS
 A:Option Addr
 cap:Nat
 xs:List Value
 F:Nat→Prop
structure BlOk (E:PE) (fe f:Nat) (l:List St) (s':PS) (n0:Nat) (j:BlJ):Prop where
 run:(stF E.tk (EE E fe) j.k).blk j.acc j.s=some (l,s')
 k:j.acc.length+j.k≤f
 at_:j.s.at_≤E.m
 cap:j.acc.length≤j.cap
 F:∀k,j.F k→n0≤k
section
variable {tk:Nat→Tok}{r:SF}{l:List St}{s:PS}{p:List St×PS}
theorem blkS_err (h:qV tk r l s=some p) (he:s.err≠0):p=(l,s):=by
 unfold qV at h;rw[Kp he] at h;cases h;rfl
theorem blkS_end (h:qV tk r l s=some p) (he:s.err=0) (hi:isP tk [125] s=true):p=(l,adv s):=by
 unfold qV at h;rw[Ko (by omega),hi] at h;cases h;rfl
theorem blkS_go (h:qV tk r l s=some p) (he:s.err=0) (hi:isP tk [125] s=false):∃x s1,r.stm s=some (x,s1)∧r.blk (l++[x]) s1=some p:=by
 unfold qV at h;rw[Ko (by omega),hi] at h;exact yL h
end
theorem EE_g {E:PE}(hE:E.Ok) (fe:Nat):∀s,s.at_≤E.m→Gs E.m s (EE E fe s):=(qQ hE.kind fe).bin 0
theorem block_any {E:PE}(hE:E.Ok) {fe f:Nat}(hf:f≤100000000) (IH:∀k,k<f→SOk E fe k) (s:PS) (l:List St) (s':PS) (hr:vQ E.tk (stF E.tk (EE E fe) f) s=some (l,s')) (hs:s.at_≤E.m) (bp:Nat) (w_0:World) (hb:w_0.heap[bp]? = some (pO E s)) (hX:TkX E w_0) :
  Calls Tryz.prog 88 #[.pointer (some ⟨bp,0,none⟩)] w_0 (BlPost E bp w_0 l s'):=by
 have hn:=tJ hE.kind [123] hs;refine yV (args:=[.pointer (some ⟨bp,0,none⟩)]) Tryz.func88 V 16 V (Jn V)<|Z1 0 V<|zD (H':=Hp (fun k=>k=bp) w_0 [(bp,pO E s)] [] (TkX E)) (fun u hu=>?_) ?_
 ·subst hu;exact Hp.startP hb hX
 refine zY<|zX<|Za V V<|ZT<|wc_scope<|zY<|zX<|Za V V<|ZX<|zX<|Zm V V<|vP E hE s hs [123] bp (fun _ h=>h) 0 .none V  V V ?_;refine ZX<|wc_label<|zQ<|zY<|yY<|xV (ι:={j:BlJ // BlOk E fe f l s' w_0.heap.size j}) (fun j=>[(0,.pointer (some ⟨bp,0,none⟩)),(3,.slice j.1.A j.1.acc.length j.1.cap)]) (fun j=>Hp (fun k=>k=bp) w_0 [(bp,pO E j.1.s)] [⟨.slice j.1.A j.1.acc.length j.1.cap,60,5,j.1.acc.length,j.1.xs⟩] (fun u=>StsV j.1.F u j.1.acc j.1.xs∧TkX E u)) (fun j=>j.1.k) ⟨⟨f,[],yA E.tk [123] s,none,0,[],fun _=>False⟩,⟨hr,by simp,hn.1,Km _,fun _ h=>h.elim⟩⟩ ?_ ?_ (fun j=>?_)
 ·exact .cons V<|.cons V<|.nil
 ·exact fun w h=>Hp.nil (Hp.weakX h fun u hu=>⟨.nil,hu⟩) _ _
 obtain⟨⟨k,acc,s,A,cap,xs,F⟩,⟨hrun,hk,hs,hcap,hF⟩⟩:=j;dsimp only at hrun hk hs hcap hF ⊢
 cases k with
 | zero=>cases hrun
 | succ k=>?_
 have hrun:qV E.tk (stF E.tk (EE E fe) k) acc s=some (l,s'):=hrun;refine zY<|zY<|zX<|Zm V V<|wl_ok E s bp 0 .none V  V V<|ZT<|zT V (fun h7=>?_) (fun h7=>?_)
 ·have h7:s.err=0:=Jo h7;refine zG<|zQ<|yY<|zY<|zY<|Z3r 0 3 7 V V V<|Zm V V<|vX E hE s hs [125] bp (fun _ h=>h.2) 0 .none V  V V ?_;refine ZT<|zT V (fun h9=>?_) (fun h9=>?_)
  ·cases blkS_end hrun h7 h9;rw[h9];refine xY<|zN<|wq_far V<|zN<|xZ<|zQ<|zY<|Z4r 0 3 7 9 V V V V<|Zm V V<|Za V V<|ZT<|zK<|wq_scope_ret<|zI V V (fun w hw=>?_);exact⟨A,cap,rfl,Jq hw,HpG.blkL (j:=0) hw rfl,HpG.rowCp (j:=0) hw rfl,_,HpG.rowF (j:=0) hw rfl,StsV.lies.mono hF (HpG.x hw).1⟩
  ·obtain⟨t,s1,ht1,ht2⟩:=blkS_go hrun h7 h9;have hs1:=(stF_g hE.kind (EE_g hE fe) k).stm s hs t s1 ht1;rw[h9];refine zG<|zQ<|Z4r 0 3 7 9 V V V V<|Zm V V<|Zm V V<|wl_st E s t s1 bp 0 (uX hb) (fun _ h=>h.2) (fun w h1 h2=>(IH k (by omega)).stm s t s1 ht1 h7 hs bp w h1 h2) .none V  (by kernel_rfl) V V (fun a F2 hF2=>?_);refine zC .none V (xR (z:=.agg #[.int .i64 0,.string ⟨#[]⟩,.slice none 0 0,.slice none 0 0,.slice none 0 0]) V V U58 (by kernel_rfl) (by kernel_rfl) V V) (fun b13=>?_);refine wl_appendL (z:=.agg #[.int .i64 0,.string ⟨#[]⟩,.slice none 0 0,.slice none 0 0,.slice none 0 0]) (bytes:=96) 0 0 .none V V V V V U58 (by kernel_rfl) V V V V (by omega) (by omega) (by omega) (fun a14 c14 h14=>?_);refine Za V V<|zU<|zM<|yC (ι:={j:BlJ // BlOk E fe f l s' w_0.heap.size j}) ⟨⟨k,acc++[t],s1,a14,c14,xs++stOf t a,fun k=>F k∨F2 k⟩,⟨ht2,by rw[Ji];simp;omega,hs1.2.1,by rw[Ji];exact h14,fun k hk=>hk.elim (hF k) (hF2 k)⟩⟩ (by show k<k+1;omega) (.cons V<|.cons (by dsimp only;rw[Ji];rfl)<|.nil) (fun w h=>?_);dsimp only;rw[Ji];exact Hp.weakX (Hp.drop h (Js _ _) (Jr _)) fun u hu=>⟨StsV.append (StsV.lies.mono (fun _ h=>.inl h) hu.2.1) (StsV.lies.mono (fun _ h=>.inr h) hu.1.one),hu.2.2⟩
 ·have h7:s.err≠0:=Jp h7;cases blkS_err hrun h7;refine xY<|zN<|zN<|xZ<|zQ<|zY<|Z3r 0 3 7 V V V<|Zm V V<|Za V V<|ZT<|zK<|wq_scope_ret<|zI V V (fun w hw=>?_);exact⟨A,cap,rfl,Jq hw,HpG.blkL (j:=0) hw rfl,HpG.rowCp (j:=0) hw rfl,_,HpG.rowF (j:=0) hw rfl,StsV.lies.mono hF (HpG.x hw).1⟩
end Go.Proofs.YtfpkpnkdnammnaaGreatDoor
