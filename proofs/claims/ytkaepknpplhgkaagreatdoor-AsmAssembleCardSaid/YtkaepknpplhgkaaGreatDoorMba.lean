import Derived.Test.YtkaepknpplhgkaaGreatDoorMaz
import Derived.Test.YtkaepknpplhgkaaGreatDoorMaf
import Derived.Test.YtkaepknpplhgkaaGreatDoorMaj
set_option maxRecDepth 100000
namespace Go.Proofs.YtkaepknpplhgkaaGreatDoor
open Go.RowKit
theorem lexD_kinds:∀(k:Nat) (s:Bs),s.length<k→(∀l,vV s=.ok l→∀t∈l,t.kind=119∨t.kind=48∨t.kind=115)∧(∀e,vV s=.error e→e=20∨e=24)
 | 0,_,h=>absurd h (by omega)
 | k+1,[],_=>⟨(fun l h t ht=>by rw[nP] at h;cases h;cases ht),(fun e h=>by rw[nP] at h;cases h)⟩
 | k+1,c::r,h=>by
  have hlen:(c::r).length=r.length+1:=rfl
  have step:∀(s':Bs) (t0:ATk),s'.length<k→(t0.kind=119∨t0.kind=48∨t0.kind=115)→(∀l,(yG (vV s') fun l=>.ok (t0::l))=.ok l→∀t∈l,t.kind=119∨t.kind=48∨t.kind=115)∧(∀e,(yG (vV s') fun l=>.ok (t0::l))=.error e→e=20∨e=24):=fun s' t0 hs ht0=>by
   obtain⟨i1,i2⟩:=lexD_kinds k s' hs
   cases hl:vV s' with
   | ok l' =>
    refine⟨fun l e t ht=>?_,(fun e h=>by cases h)⟩;cases e;rcases List.mem_cons.1 ht with rfl|ht;exact ht0;exact i1 l' hl t ht
   | error e'=>exact⟨(fun l h=>by cases h),(fun e h=>by cases h;exact i2 e' hl)⟩
  have dl:∀{p:UInt8→Bool},p c=true→((c::r).drop ((c::r).takeWhile p).length).length<k:=fun {p} hp=>by
   rw[List.takeWhile_cons,Ah hp,Kc,Kt,Kw];omega
  rw[nO]
  split
  exact lexD_kinds k r (by omega)
  split
  ·next hw =>
   have hp:wF c=true:=by
    unfold wF;rcases hw with h|h|h;rw[h];rfl;subst h;rfl;subst h;rfl
   exact step _ _ (dl hp) (.inl M)
  split
  ·next hd =>
   have hp:tZ c=true:=by unfold tZ;rw[hd];simp
   cases hn:pJ ((c::r).takeWhile tZ) with
   | error e'=>exact⟨(fun l h=>by cases h),(fun e h=>by cases h;exact numA_err hn)⟩
   | ok n=>exact step _ _ (dl hp) (.inr (.inl rfl))
  split
  exact step r _ (by omega) (.inr (.inr M));exact⟨(fun l h=>by cases h),(fun e h=>by cases h;exact .inl M)⟩
theorem lexA_kinds (s:Bs):(∀l,rN s=.ok l→∀t∈l,t.kind=119∨t.kind=48∨t.kind=115)∧(∀e,rN s=.error e→e=20∨e=24):=lexD_kinds _ (xM s) (Nat.lt_succ_self _)
theorem tksR_at:∀{l:List ATk}{k:Nat}{t:ATk},l[k]? = some t→∀(j:Nat) v,(tkR t)[j]? = some v→(tksR l)[3*k+j]? = some v
 | [],_,_,h=>by cases h
 | x::l,0,o,h=>by
  cases h;intro j v hj;have:=(Kg.1 hj).1;show (tkR x++tksR l)[3*0+j]? = _;rw[show 3*0+j=j by omega,List.getElem?_append_left this];exact hj
 | x::l,k+1,o,h=>by
  intro j v hj;have:=tksR_at (l:=l) (k:=k) (by simpa using h) j v hj;have hl:(tkR x).length=3:=rfl;show (tkR x++tksR l)[3*(k+1)+j]? = _;rw[List.getElem?_append_right (by omega),hl,show 3*(k+1)+j-3=3*k+j by omega];exact this
def LxT (r:Except Nat (List ATk)) (A:Option Addr) (F:Nat→Prop) (u:World):Prop:=match r with
 | .ok l=>RdF F A (tksR l) u
 | .error _=>True
theorem LxT.lies {r:Except Nat (List ATk)}{A:Option Addr}:Lies (LxT r A):=by
 cases r with
 | ok l=>exact RdF.lies
 | error e=>exact⟨fun _ _=>trivial,fun _=>trivial,fun _ _=>trivial⟩
theorem tvx_of {F:Nat→Prop}{A:Option Addr}{l:List ATk}{w:World}{g o cap:Nat}(hA:0<l.length→A=some ⟨g,o,none⟩) (h:RdF F A (tksR l) w):TvX ⟨l,g,o,cap⟩ w:=fun k t ht j v hv=>by
 have hk:=(Kg.1 ht).1;have hk:k<l.length:=hk;rw[hA (by omega)] at h;have h9:=tksR_at ht j v hv;exact h.part (Kg.1 h9).1 (by show o+3*k+j=_;omega) h9
theorem tva_of {A:Option Addr}{l:List ATk}{s:Bs}{g o cap:Nat}(hA:0<l.length→A=some ⟨g,o,none⟩) (hc:Cp l.length cap) (hs:s.length≤2000000) (hl:rN s=.ok l):TvA ⟨l,g,o,cap⟩ A :=
 ⟨hc.1,hc.2,fun h=>hA (List.length_pos_iff.2 h),fun t ht=>⟨(lexA_kinds s).1 l hl t ht,((lexA_ok hs hl).1 t ht).len,((lexA_ok hs hl).1 t ht).n⟩⟩
theorem plc_lab (x:Bs):∀(lb:List (Bs×Nat)) (i:Nat),(tO x lb=none∧plcG x (lb.map (·.1)) i=-1)∨∃n a,tO x lb=some a∧plcG x (lb.map (·.1)) i=((i+n:Nat):Int)∧lb[n]? = some (x,a)
 | [],_=>.inl ⟨rfl,rfl⟩
 | (y,v)::lb,i=>by
  show ((if x=y then some v else tO x lb)=none∧(if y=x then ((i:Nat):Int) else plcG x (lb.map (·.1)) (i+1))=-1)∨∃n a,(if x=y then some v else tO x lb)=some a∧(if y=x then ((i:Nat):Int) else plcG x (lb.map (·.1)) (i+1))=((i+n:Nat):Int)∧((y,v)::lb)[n]? = some (x,a)
  by_cases h:x=y
  ·subst h;rw[Ah rfl,Ah rfl];exact .inr ⟨0,v,rfl,rfl,rfl⟩
  rw[Ag h,Ag (fun e=>h e.symm)];rcases plc_lab x lb (i+1) with h1|⟨n,a,h1,h2,h3⟩;exact .inl h1;exact .inr ⟨n+1,a,h1,by rw[h2];congr 1;omega,h3⟩
theorem srC_len (l:List Bs):(srC l).length=l.length:=by unfold srC;rw[Ak]
theorem wplaceR_any (l:List Bs) (s:Bs) (A:Option Addr) (cap:Nat) (hcp:l.length≤cap) (hbg:Cp l.length cap) (F:Nat→Prop) (w_0:World) (hX:RdF F A (srC l) w_0):Calls Tryz.prog 50 #[.slice A l.length cap,.string ⟨s.toArray⟩] w_0 fun e w'=>e=.returned (.int .i64 (xB l s))∧Ext w_0 w':=by
 have hlt:=hbg.lt;obtain⟨g,o,hA⟩:=hX.adr;rw[srC_len] at hA;refine zN (args:=[.slice A l.length cap,.string ⟨s.toArray⟩]) Tryz.func50 M 19 M (Kh M)<|Z2 0 1 M<|zG (H':=Jy w_0 [] [] (RdF F A (srC l))) (fun u hu=>?_) ?_;subst hu;exact Hp.startRd hX;refine zX<|zZ<|Za M M<|ZX<|zX<|zZ<|Za M M<|ZT<|zJ<|yF (ι:={i:Nat // i≤l.length∧plcG s (l.drop i) i=xB l s}) (fun i=>[(0,.slice A l.length cap),(1,.string ⟨s.toArray⟩),(5,.int .i64 ((i.1:Nat):Int))]) (fun _=>Jy w_0 [] [] (RdF F A (srC l))) (fun i=>l.length-i.1) ⟨0,Ad _,rfl⟩ (O3 M) Jz (fun i=>?_);obtain⟨i,hile,hi⟩:=i;dsimp only;refine zX<|zX<|zZ<|Zm M M<|Zm M M<|ZF M (yK M U59)<|ZF M (yR M M)<|ZT<|zT M (fun h9=>?_) (fun h9=>?_)
 ·replace h9:=Ki h9;obtain⟨x,hx⟩:∃x,l[i]? = some x:=⟨l[i]'(by omega),Kn _⟩;have hA1:=hA (by omega);rw[rG hx] at hi;have hi:(if x=s then ((i:Nat):Int) else plcG s (l.drop (i+1)) (i+1))=xB l s:=hi;refine zR<|zV<|zX<|zJ<|zX<|Z4r 0 1 5 9 M<|Zm M M<|Zm M M<|ZF M (Zi (j:=i) (es:=1) (g:=g) (o:=o) (len:=l.length) (cap:=cap) (vO hA1) M Tryz.underlying59 M (by omega) M) ?_;refine ZF M (zL (v:=.string ⟨x.toArray⟩) M U9 M (fun w hw=>by have h:=HpG.x hw;rw[hA1] at h;exact RdF.part h (i:=i) (by rw[srC_len];omega) (by rw[Nat.mul_one]) (by unfold srC;rw[List.getElem?_map,hx];rfl))) ?_;refine Zm M M<|ZF M (yZ M M U9)<|ZT<|zT M (fun h17=>?_) (fun h17=>?_)
  ·rw[Ah (Ki h17)] at hi;refine zX<|Z5r 0 1 5 9 17 M<|Zm M M<|Za M M<|ZT<|zK<|zM<|zW<|zW<|zM<|zW<|yY M M fun w hw=>⟨by rw[← hi],(Kk hw).ext⟩
  skip;rw[Ag (Kj h17)] at hi;refine zR<|zH<|zV<|Z5r 0 1 5 9 17 M<|Zm M M<|ZF M (zF M M (i64_in _ (by omega) (by omega)))<|Za M M<|zS ?_;exact yV ⟨i+1,by omega,hi⟩ (by show l.length-(i+1)<l.length-i;omega) (O3 M) Jz
 replace h9:=Kj h9;obtain rfl:i=l.length:=by omega
 rw[List.drop_length] at hi;refine yM<|zP<|zP<|yN<|zV<|zX<|Z4r 0 1 5 9 M<|Za M M<|ZU M M fun w hw=>⟨by rw[← hi];rfl,(Kk hw).ext⟩
end Go.Proofs.YtkaepknpplhgkaaGreatDoor
namespace Go.Proofs.YtkaepknpplhgkaaGreatDoor
open Go.RowKit
structure RV where
 s:RSt
 A:Option Addr
 cap:Nat
 z:Int
 a:Nat
abbrev RV.c (S:RV):List Value:=rsC S.s S.A S.cap S.z (S.a:Nat)
def rvsC (l:List RV):List Value:=l.flatMap RV.c
theorem rvsC_len (l:List RV):(rvsC l).length=l.length*7:=by
 induction l with
 | nil=>rfl
 | cons t l ih =>
  have e:rvsC (t::l)=t.c++rvsC l:=rfl;rw[e,Kb,ih];simp;omega
theorem rvsC_snoc (l:List RV) (S:RV):rvsC (l++[S])=rvsC l++S.c:=by unfold rvsC;rw[List.flatMap_append];simp
theorem rvsC_at:∀{l:List RV}{k:Nat}{S:RV},l[k]? = some S→∀(j:Nat) v,(S.c)[j]? = some v→(rvsC l)[7*k+j]? = some v
 | [],_,_,h=>by cases h
 | x::l,0,o,h=>by
  cases h;intro j v hj;have:=(Kg.1 hj).1;show (x.c++rvsC l)[7*0+j]? = _;rw[show 7*0+j=j by omega,List.getElem?_append_left this];exact hj
 | x::l,k+1,o,h=>by
  intro j v hj;have:=rvsC_at (l:=l) (k:=k) (by simpa using h) j v hj;have hl:x.c.length=7:=rfl;show (x.c++rvsC l)[7*(k+1)+j]? = _;rw[List.getElem?_append_right (by omega),hl,show 7*(k+1)+j-7=7*k+j by omega];exact this
theorem rvs_cell {F:Nat→Prop}{A:Option Addr}{l:List RV}{w:World}{g o:Nat}(hA:A=some ⟨g,o,none⟩) {k:Nat}{S:RV}(hx:l[k]? = some S) (h:RdF F A (rvsC l) w) (j:Nat) {v:Value}(hj:(S.c)[j]? = some v):w.cell? ⟨g,o+k*7+j,none⟩=some v:=by
 rw[hA] at h;have h9:=rvsC_at hx j v hj;exact h.part (Kg.1 h9).1 (by omega) h9
def rvA (l:List RV):List (RSt×Nat):=l.map fun S=>(S.s,S.a)
theorem rvA_snoc (l:List RV) (S:RV):rvA (l++[S])=rvA l++[(S.s,S.a)]:=by unfold rvA;rw[List.map_append];rfl
def RvP (l:List RV) (F:Nat→Prop) (w:World):Prop:=∀S∈l,RdF F S.A (vI S.s.l) w
theorem RvP.lies {l:List RV}:Lies (RvP l):=⟨fun hk h S hS=>RdF.lies.foot hk (h S hS),fun h S hS=>RdF.lies.lt (h S hS),fun hF h S hS=>RdF.lies.mono hF (h S hS)⟩
theorem RvP.nil {F:Nat→Prop}{w:World}:RvP [] F w:=fun _ h=>by cases h
theorem RvP.snoc {l:List RV}{S:RV}{F:Nat→Prop}{w:World}(h:RvP l F w) (hs:RdF F S.A (vI S.s.l) w):RvP (l++[S]) F w:=fun x hx=>(Aq.1 hx).elim (h x) fun h=>by rw[Ar.1 h];exact hs
structure RvOk (kind:Int) (S:RV):Prop where
 ok:RsOk S.s
 c:S.s.l.length≤S.cap
 sz:¬wQ kind S.s<0
 a:S.a≤65536
 lim:wQ kind S.s≤65536
 zr:S.s.w=xT→S.s.l≠[]→∃n,S.s.l=[⟨118,0,[],n,0,0⟩]
def inC (l:List Nat):List Value:=l.map fun a=>.int .i64 ((a:Nat):Int)
theorem inC_len (l:List Nat):(inC l).length=l.length:=by unfold inC;rw[Ak]
theorem inC_snoc (l:List Nat) (a:Nat):inC (l++[a])=inC l++[.int .i64 ((a:Nat):Int)]:=by unfold inC;rw[List.map_append];rfl
theorem u32C_snoc (l:List Nat) (a:Nat):uS (l++[a])=uS l++[.int .u32 ((a:Nat):Int)]:=by unfold uS;rw[List.map_append];rfl
theorem srC_snoc (l:List Bs) (s:Bs):srC (l++[s])=srC l++[.string ⟨s.toArray⟩]:=by unfold srC;rw[List.map_append];rfl
theorem bod_zero {kind:Int}{lab:Bs}{l:List ATk}{s:RSt}(h:pB kind lab l=some s) (hw:s.w=xT) (hl:s.l≠[]):∃n,s.l=[⟨118,0,[],n,0,0⟩]:=by
 match l,h with
 | [],h=>cases h;exact absurd M hl
 | t::r,h =>
  rw[pB] at h
  split at h
  ·cases h
  split at h
  ·cases h;exact absurd M hl
  cases ho:rQ kind (tP r) with
  | none=>rw[ho] at h;cases h
  | some os =>
   rw[ho] at h;dsimp only at h
   split at h
   ·cases h
   ·next hn =>
    cases h;have hts:t.s=xT:=(pX t.s).symm.trans hw;have hr:r.length=1∧(r.headD ⟨0,[],0⟩).kind=48:=Classical.byContradiction fun h9=>hn ⟨hts,h9⟩
    match r,hr with
    | [u],hr =>
     have hu:u.kind=48:=hr.2;have hc:comT u=false:=by unfold comT;rw[Ao (by omega)];rfl
     rw[splA_one (fun t ht=>by rw[Ar.1 ht];exact hc),opsR_cons] at ho
     have e:qN kind [u]=some ⟨118,0,[],u.n,0,0⟩:=by
      rw[opr_eq]
      have h1:∀x,isA x [u]=false:=fun x=>by
       show (decide (u.kind=115)&&decide (u.s=x))=false;rw[Ao (by omega)];rfl
      unfold oprQ;rw[h1,h1,Ag (by decide),Ag (fun h=>by cases h.2.1)];dsimp only;rw[Ah hu]
     rw[e] at ho;cases ho;exact⟨_,rfl⟩
theorem par_zero {kind:Int}{l:List ATk}{s:RSt}(h:qZ kind l=some s) (hw:s.w=xT) (hl:s.l≠[]):∃n,s.l=[⟨118,0,[],n,0,0⟩]:=by
 unfold qZ at h
 split at h
 ·split at h
  ·split at h
   exact bod_zero h hw hl
   ·cases h
  ·cases h
 exact bod_zero h hw hl
theorem rv_zero {kind:Int}{S:RV}(h:RvOk kind S) {lb:List (Bs×Nat)}{v:List Nat}(hv:wP lb S.s.l=.ok v) (hop:S.s.op≠[]) (hd:uB S.s=true) (hw:S.s.w=xT):v.getD 0 0≤65536:=by
 have hl:S.s.l≠[]:=fun e=>by
  unfold uB at hd;rw[h.ok.sh,e] at hd;simp[xR] at hd
 obtain⟨n,hn⟩:=h.zr hw hl;rw[hn] at hv;have hv:Except.ok [n]=(Except.ok v:Except Nat (List Nat)):=hv;cases hv;have h1:=h.lim;unfold wQ at h1;rw[Ag hop,Ah hd,hw,Ag (by decide),Ag (by decide),hn] at h1;have h1:((n:Nat):Int)≤65536:=h1;show n≤65536;omega
theorem rcod_err {kind:Int}{s:RSt}{v:List Nat}{a e:Nat}(h:nV kind s v a=.error e):e=13:=by
 have hb:∀(w:Bool) (v:List Nat),bytA w v=.error e→e=13:=fun w v=>by
  induction v with
  | nil=>intro h;cases h
  | cons x v ih =>
   intro h;rw[bytA_cons] at h
   split at h
   ·cases h;rfl
   ·cases hr:bytA w v with
    | ok r=>rw[hr] at h;cases h
    | error e'=>rw[hr] at h;cases h;exact ih hr
 unfold nV at h
 split at h
 ·cases h
 split at h
 ·split at h
  ·cases h
  exact hb _ _ h
 split at h
 ·split at h
  ·cases h
  split at h
  ·cases h;rfl
  split at h
  ·cases h
  ·cases h;rfl
 split at h
 ·cases h
 ·next p _ =>
  cases hq:tW (kiR (fmN (opK p.1 s.l)) (opK p.1 s.l) s.shape s.l v a) with
  | some c=>rw[hq] at h;cases h
  | none=>rw[hq] at h;cases h;rfl
theorem rcod_ln {kind:Int}{s:RSt}{v:List Nat}{a:Nat}{c:Bs}(h:nV kind s v a=.ok c) (hv:v.length≤2000001) (hz:s.op≠[]→uB s=true→s.w=xT→v.getD 0 0≤65536):c.length≤8000004:=by
 unfold nV at h
 split at h
 ·cases h;exact Ad _
 next hop =>
 split at h
 ·next hd =>
  split at h
  ·next hw=>cases h;rw[List.length_replicate];have:=hz hop hd hw;omega
  have:=bytA_ln _ _ _ h;omega
 split at h
 ·split at h
  ·cases h;exact Ad _
  split at h
  ·cases h
  split at h
  ·next w _=>cases h;rw[putLn];omega
  ·cases h
 split at h
 ·cases h;exact Ad _
 ·next p _ =>
  cases hq:tW (kiR (fmN (opK p.1 s.l)) (opK p.1 s.l) s.shape s.l v a) with
  | some c'=>rw[hq] at h;cases h;have:=encK_ln hq;omega
  | none=>rw[hq] at h;cases h
theorem szN_le (f:Nat):szN f≤7:=by
 unfold szN
 by_cases h:f<13
 ·have h9:((List.range 13).all fun f=>decide ([0,1,2,2,3,6,3,7,2,5,2,2,2].getD f 0≤7))=true:=by decide
  exact Ki (uF h9 f h)
 rw[Ku,List.getElem?_eq_none (by simp;omega)];exact Ad _
theorem rsiz_rng {kind:Int}{s:RSt}(hs:RsOk s):-1≤wQ kind s∧wQ kind s<4294967296:=by
 have hn:=hs.n;unfold wQ
 split
 omega
 split
 ·split
  omega
  split
  omega
  have h2:(s.l.getD 0 uN).n<4294967296:=by
   rw[Ku]
   cases h:s.l[0]? with
   | none=>show 0<4294967296;decide
   | some x=>exact (hs.ok x (Ko h)).n
  omega
 split
 ·split<;>omega
 split
 omega
 ·next p _=>have:=szN_le (fmN (opK p.1 s.l));omega
theorem labA_no {x:Bs}{lb:List (Bs×Nat)}(h:xB (lb.map (·.1)) x<0):tO x lb=none:=by
 rcases plc_lab x lb 0 with ⟨h1,_⟩|⟨n,a,_,h2,_⟩;exact h1;unfold xB at h;rw[h2] at h;omega
theorem labA_yes {x:Bs}{lb:List (Bs×Nat)}(h:¬xB (lb.map (·.1)) x<0):∃n a:Nat,tO x lb=some a∧xB (lb.map (·.1)) x=((n:Nat):Int)∧lb[n]? = some (x,a):=by
 rcases plc_lab x lb 0 with ⟨_,h1⟩|⟨n,a,h1,h2,h3⟩;exact absurd (by unfold xB;rw[h1];decide) h;exact⟨n,a,h1,by unfold xB;rw[h2,Ac],h3⟩
abbrev rrC (r:Bs×Nat×Nat):List Value:=[.string ⟨r.1.toArray⟩,.int .i64 ((r.2.1:Nat):Int),.int .i64 ((r.2.2:Nat):Int)]
theorem rasm_err {kind:Int}{text:Bs}{org k e:Nat}(hk:kind=1∨kind=2) (hl:text.length≤1048576) (h:pC kind (xK text) 0 0 [] []=.error (k,e)):nU kind text org=([],k,e):=by
 unfold nU;rw[Ag (by omega),Ag (by omega),h]
theorem rasm_err2 {kind:Int}{text:Bs}{org k e:Nat}{l:List (RSt×Nat)}{lb:List (Bs×Nat)}(hk:kind=1∨kind=2) (hl:text.length≤1048576) (h:pC kind (xK text) 0 0 [] []=.ok (l,lb)) (h2:routF kind org lb l 0 []=.error (k,e)):nU kind text org=([],k,e):=by
 unfold nU;rw[Ag (by omega),Ag (by omega),h];dsimp only;rw[h2]
theorem rasm_ok {kind:Int}{text out:Bs}{org:Nat}{l:List (RSt×Nat)}{lb:List (Bs×Nat)}(hk:kind=1∨kind=2) (hl:text.length≤1048576) (h:pC kind (xK text) 0 0 [] []=.ok (l,lb)) (h2:routF kind org lb l 0 []=.ok out):nU kind text org=(out,0,0):=by
 unfold nU;rw[Ag (by omega),Ag (by omega),h];dsimp only;rw[h2]
end Go.Proofs.YtkaepknpplhgkaaGreatDoor
namespace Go.Proofs.YtkaepknpplhgkaaGreatDoor
open Go.RowKit
abbrev rrO (r:Bs×Nat×Nat):Obj:=bk 30 (rrC r)
structure Q1 where
 k:Nat
 at_:Nat
 lb:List (Bs×Nat)
 Ss:List RV
 A:Option Addr
 cap:Nat
 LA:Option Addr
 lcap:Nat
 PA:Option Addr
 pcap:Nat
structure Q1I (kind:Int) (ls:List Bs) (R0:Except (Nat×Nat) (List (RSt×Nat)×List (Bs×Nat))) (p:Q1):Prop where
 le:p.k≤ls.length
 e:pC kind (ls.drop p.k) p.k p.at_ p.lb (rvA p.Ss)=R0
 at_:p.at_≤65536
 n:p.Ss.length=p.k
 ln:p.lb.length≤p.k
 ok:∀S∈p.Ss,RvOk kind S
 pl:∀x∈p.lb,x.2≤65536
 c:p.Ss.length≤p.cap
abbrev rwV (A:Option Addr) (cap:Nat) (l:List RV):Rw:=⟨.slice A l.length cap,119,7,l.length,rvsC l⟩
abbrev rwLb (A:Option Addr) (cap:Nat) (l:List (Bs×Nat)):Rw:=⟨.slice A l.length cap,9,1,l.length,srC (l.map (·.1))⟩
abbrev rwPl (A:Option Addr) (cap:Nat) (l:List (Bs×Nat)):Rw:=⟨.slice A l.length cap,3,1,l.length,inC (l.map (·.2))⟩
structure Q2I (kind:Int) (org:Nat) (lb:List (Bs×Nat)) (Ss:List RV) (R1:Except (Nat×Nat) Bs) (j:Nat) (out:Bs):Prop where
 le:j≤Ss.length
 e:routF kind org lb ((rvA Ss).drop j) j out=R1
 n:out.length≤j*8000004
structure Q3I (L:List (Bs×Nat)) (l:List AOp) (n:Nat) (done:List Nat):Prop where
 le:n≤l.length
 dn:done.length=n
 e:wP L l=yG (wP L (l.drop n)) fun r=>.ok (done++r)
 b:∀x∈done,x<4294967296
def CellsJ (g o:Nat) (cs:List Value) (w:World):Prop:=∀i v,cs[i]? = some v→w.cell? ⟨g,o+i,none⟩=some v
theorem CellsJ.stab {g o:Nat}{cs:List Value}:tY (CellsJ g o cs):=fun w ob h i v hv=>cell_stab w ob (h i v hv)
theorem CellsJ.ext {g o:Nat}{cs:List Value}(w w':World) (h:CellsJ g o cs w) (hE:Ext w w'):CellsJ g o cs w':=fun i v hv=>(World.cell?_of_block ((Keep.of_ext (G:=fun _=>False) hE).block _ (World.block_lt_of_cell? _ _ (h i v hv)) id)).trans (h i v hv)
def RasPost (kind:Int) (text:Bs) (org:Nat) (w:World) (e:Ending) (w':World):Prop:=Ext w w'∧e=.returned (.agg (rrC (nU kind text org)).toArray)
set_option maxHeartbeats 4000000 in
theorem rassemble_any (kind:Int) (text:Bs) (org:Nat) (ho:org<4294967296) (w_0:World) (htl:text.length≤1000000000) :
  Calls Tryz.prog 19 #[.int .i64 kind,.string ⟨text.toArray⟩,.int .u32 org] w_0 (RasPost kind text org w_0):=by
 unfold RasPost;generalize hr:nU kind text org=r;refine zN (args:=[.int .i64 kind,.string ⟨text.toArray⟩,.int .u32 org]) Tryz.func19 M 193 M (Kh M)<|Z3 0 1 2 M<|Z0<|zX<|zZ<|Zt (z:=.agg #[.string ⟨#[]⟩,.int .i64 0,.int .i64 0]) (cs:=[.string ⟨#[]⟩,.int .i64 0,.int .i64 0]) M fun b6=>ZX<|zB (ι:={z:Bool // z=true↔(kind≠1∧kind≠2)}) (fun z=>[(0,.int .i64 kind),(1,.string ⟨text.toArray⟩),(2,.int .u32 org),(6,Jx b6),(30,.bool z.1)]) (fun _=>Jy w_0 [(b6,rrO ([],0,0))] [] (fun _=>True)) ?_ (fun z=>?_)
 ·refine zZ<|Zm M M<|ZF M (xF M M)<|Zm M M<|zQ 27 M (fun g1=>?_) (fun g1=>?_)
  ·replace g1:=xD g1;refine Zv M<|ZG M M M (xF M M)<|Zh M<|zS ?_;exact zU ⟨(kind != 2),⟨fun h=>⟨g1,bne_iff_ne.1 h⟩,fun h=>bne_iff_ne.2 h.2⟩⟩ (O5 M) Jz
  replace g1:=wJ g1;refine ZP M<|ZP M<|Zf M<|zS ?_;exact zU ⟨false,⟨fun h=>(by cases h),fun h=>absurd g1 (by simpa using h.1)⟩⟩ (O5 M) Jz
 obtain⟨z,hz⟩:=z;dsimp only;refine zT M (fun h30=>?_) (fun h30=>?_)
 ·have hr:r=([],0,1):=by rw[← hr];unfold nU;exact Ah (hz.1 h30)
  refine zX<|zZ<|ZF M (Zb [.string ⟨#[]⟩,.int .i64 0,.int .i64 0] [(0,1),(1,1),(2,1)] M)<|ZR 0 M<|ZT<|zK<|zW<|yS M M 0 M Tryz.underlying30 M (by kernel_rfl) (fun w hw=>?_);subst hr;exact⟨(Kk hw).ext,rfl⟩
 skip
 have hk12:kind=1∨kind=2:=by
  refine Classical.byContradiction fun hn=>?_;rw[hz.2 ⟨fun e=>hn (.inl e),fun e=>hn (.inr e)⟩] at h30;cases h30
 refine zR<|zV<|zX<|zX<|zZ<|Zm M M<|ZF M (wZ M U9)<|ZF M (vS M M)<|ZT<|zT M (fun h34=>?_) (fun h34=>?_)
 ·replace h34:=Ki h34;have hr:r=([],0,2):=by rw[← hr];unfold nU;rw[Ag (by omega),Ah (by omega)]
  refine zX<|Z6r 0 1 2 6 30 34 M<|ZF M (Zb [.string ⟨#[]⟩,.int .i64 0,.int .i64 0] [(0,1),(1,1),(2,1)] M)<|ZR 0 M<|ZT<|zK<|zW<|yS M M 0 M Tryz.underlying30 M (by kernel_rfl) (fun w hw=>?_);subst hr;exact⟨(Kk hw).ext,rfl⟩
 replace h34:=Kj h34;have hln:text.length≤1048576:=by omega
 refine zR<|zV<|zX<|Z6r 0 1 2 6 30 34 M<|Za M M<|ZX<|zZ<|Za M M<|ZX<|zZ<|Za M M<|ZX<|zZ<|Za M M<|ZX<|zZ<|Zm M M<|yI (ι:=Option Addr×Nat) (C:=fun i=>Cp (xK text).length i.2) (val:=fun i=>.slice i.1 (xK text).length i.2) (TT:=fun i F=>RdF F i.1 (srC (xK text))) .none M  (by kernel_rfl) M (fun _ h=>h.elim) (fun _=>RdF.lies) (fun w hw=>(wlines_any text (by omega) w).mono fun e w' ⟨h1,A,c,h2,h3,h4⟩=>⟨(A,c),h3,h2,h1,h4⟩) (fun iL FL hCL hFL=>?_);obtain⟨AL,capL⟩:=iL;dsimp only at hCL hFL ⊢;have hll:=(linA_le text).1;have hlx:=(linA_le text).2;have hCLl:=hCL.lt;obtain⟨R0,hR0⟩:∃y,y=pC kind (xK text) 0 0 [] []:=⟨_,rfl⟩;refine Za M M<|ZX<|zX<|Z11r 0 1 2 6 7 8 9 10 11 30 34 M<|Za M M<|ZT<|zJ<|yF (ι:={p:Q1 // Q1I kind (xK text) R0 p}) (fun p=>[(0,.int .i64 kind),(2,.int .u32 org),(6,Jx b6),(7,.slice p.1.A p.1.Ss.length p.1.cap),(8,.slice p.1.LA p.1.lb.length p.1.lcap),(9,.slice p.1.PA p.1.lb.length p.1.pcap),(10,.int .i64 ((p.1.at_:Nat):Int)),(11,.slice AL (xK text).length capL),(12,.int .i64 ((p.1.k:Nat):Int))]) (fun p=>Jy w_0 [(b6,rrO ([],0,0))] [rwV p.1.A p.1.cap p.1.Ss,rwLb p.1.LA p.1.lcap p.1.lb,rwPl p.1.PA p.1.pcap p.1.lb] (fun u=>RvP p.1.Ss (fun k=>w_0.heap.size≤k) u∧RdF FL AL (srC (xK text)) u)) (fun p=>(xK text).length-p.1.k) ⟨⟨0,0,[],[],none,0,none,0,none,0⟩,⟨Ad _,by rw[Kx];exact hR0.symm,Ad _,rfl,Ae _,(fun _ h=>by cases h),(fun _ h=>by cases h),Ae _⟩⟩ ?_ ?_ (fun p=>?_);exact O9 rfl;exact fun w h=>Hp.nil (Hp.nil (Hp.nil (Hp.weakX h fun u a=>⟨RvP.nil,a.1⟩) _ _) _ _) _ _;obtain⟨⟨k,at_,lb,Ss,A,cap,LA,lcap,PA,pcap⟩,hI⟩:=p;dsimp only at hI ⊢;obtain⟨hle,he,hat,hn,hlbn,hok,hpl,hc⟩:=hI;dsimp only at hle he hat hn hlbn hok hpl hc;refine zX<|zX<|zZ<|Zm M M<|Zm M M<|ZF M (yK M U59)<|ZF M (yR M M)<|ZT<|zT M (fun h41=>?_) (fun h41=>?_)
 ·replace h41:=Ki h41;obtain⟨x,hx⟩:∃x,(xK text)[k]? = some x:=⟨(xK text)[k]'(by omega),Kn _⟩;have hxl:=hlx x (Ko hx);rw[rG hx,pC] at he
  refine tK (φ:=∃g o,AL=some ⟨g,o,none⟩) (fun w hw=>by
   obtain⟨g,o,e⟩:=(HpG.x hw).2.adr
   exact⟨g,o,e (by rw[srC_len];omega)⟩) (fun ⟨gL,oL,hALe⟩=>?_)
  refine zR<|zV<|zX<|zJ<|zX<|Z10r 0 2 6 7 8 9 10 11 12 41 M<|Zm M M<|Zm M M<|ZF M (Zi (j:=k) (es:=1) (g:=gL) (o:=oL) (len:=(xK text).length) (cap:=capL) (vO hALe) M Tryz.underlying59 M (by omega) M) ?_;refine ZF M (zL (v:=.string ⟨x.toArray⟩) M U9 M (fun w hw=>by have h:=(HpG.x hw).2;rw[hALe] at h;exact RdF.part h (i:=k) (by rw[srC_len];omega) (by rw[Nat.mul_one]) (by unfold srC;rw[List.getElem?_map,hx];rfl))) ?_
  refine yI (ι:=Option Addr×Nat×Nat×Nat) (C:=fun i=>match rN x with|.ok l=>i.2.2.2=0∧i.2.1=l.length∧Cp l.length i.2.2.1|.error c=>i.2.2.2=c) (val:=fun i=>.agg #[.slice i.1 i.2.1 i.2.2.1,.int .i64 ((i.2.2.2:Nat):Int)]) (TT:=fun i=>LxT (rN x) i.1) .none rfl  (by kernel_rfl) rfl (fun _ h=>h.elim) (fun _=>LxT.lies) (fun w hw=>(wlex_any x (by omega) w).mono fun e w' ⟨h1,h2⟩=>by
    cases hla:rN x with
    | ok l =>
     rw[hla] at h2;obtain⟨A9,c9,e1,e2,e3⟩:=h2;exact⟨(A9,l.length,c9,0),⟨rfl,rfl,e2⟩,e1,h1,e3⟩
    | error c9 =>
     rw[hla] at h2
     exact⟨(none,0,0,c9),rfl,h2,h1,trivial⟩) (fun iT FT hCT hFT=>?_)
  obtain⟨AT,nT,cT,eT⟩:=iT;dsimp only at hCT ⊢;refine Zt (z:=Jh) (cs:=Js) M fun b13=>ZR 0 M<|ZX<|zX<|Z11 0 2 6 7 8 9 10 11 12 13 41 M<|zG (H':=Jy w_0 [(b13,lxO AT nT cT ((eT:Nat):Int)),(b6,rrO ([],0,0))] [rwV A cap Ss,rwLb LA lcap lb,rwPl PA pcap lb] (fun u=>LxT (rN x) AT FT u∧RvP Ss (fun k=>w_0.heap.size≤k) u∧RdF FL AL (srC (xK text)) u)) Jz<|zZ<|ZF M (zY (off:=1) (sz:=0) M U115 (by kernel_rfl) M) ?_;refine Zl 0 M U25 M<|ZF M (xF M M)<|ZT<|zT M (fun h51=>?_) (fun h51=>?_)
  ·replace h51:=xD h51
   have hla:rN x=.error eT:=by
    cases hla:rN x with
    | ok l=>rw[hla] at hCT;exact absurd (by rw[hCT.1];rfl) h51
    | error c9=>rw[hla] at hCT;rw[hCT]
   rw[hla] at he;have he:Except.error (k+1,eT)=R0:=he;have hr:r=([],k+1,eT):=hr.symm.trans (rasm_err hk12 hln (hR0.symm.trans he.symm));refine zX<|Z12r 0 2 6 7 8 9 10 11 12 13 41 51 M<|Zm M M<|ZF M (zF M M (show IntKind.i64.wrap (((k:Nat):Int)+1)=((k+1:Nat):Int) from i64_in ((k+1:Nat):Int) (by omega) (by omega)))<|ZF M (zY (off:=1) (sz:=0) M U115 (by kernel_rfl) M) ?_;refine Zl 0 M U25 M<|ZF M (Zb [.string ⟨#[]⟩,.int .i64 0,.int .i64 0] [(0,1),(1,1),(2,1)] M)<|ZR 1 M<|ZT<|zK<|zW<|zM<|zW<|zW<|zM<|zW<|yS M M 1 M Tryz.underlying30 M (by kernel_rfl) (fun w hw=>?_);subst hr;exact⟨(Kk hw).ext,rfl⟩
  replace h51:=wJ h51
  obtain⟨tl,hla⟩:∃l,rN x=.ok l:=by
   cases hla:rN x with
   | ok l=>exact⟨l,rfl⟩
   | error c9 =>
    rw[hla] at hCT;have h9:=(lexA_kinds x).2 c9 hla;omega
  rw[hla] at he hCT;obtain⟨rfl,rfl,hCp⟩:=hCT;dsimp only at he;have htll:=(lexA_ok (x:=x) (by omega) hla).2;refine zR<|zV<|zX<|Z12 0 2 6 7 8 9 10 11 12 13 41 51 M ?_;rw[hla]
  refine tK (φ:=∃g o,0<tl.length→AT=some ⟨g,o,none⟩) (fun w hw=>by
   obtain⟨g,o,e⟩:=RdF.adr (HpG.x hw).1
   exact⟨g,o,fun h=>e (by rw[tksR_len];omega)⟩) (fun ⟨gT,oT,hATe⟩=>?_)
  have hTA:=tva_of (s:=x) hATe hCp (by omega) hla;refine zZ<|Zm M M<|ZF M (Y115x0 M) ?_;refine Zl 0 rfl U113 rfl<|yI (ι:=RSt×Option Addr×Nat×Bool) (C:=fun i=>RsOk i.1∧Cp i.1.l.length i.2.2.1∧match qZ kind tl with|some y=>i.2.2.2=true∧i.1=y|none=>i.2.2.2=false) (val:=fun i=>.tuple #[.agg (rsC i.1 i.2.1 i.2.2.1 0 0).toArray,.bool i.2.2.2]) (TT:=fun i F=>RdF F i.2.1 (vI i.1.l)) .none rfl  (by kernel_rfl) rfl (fun _ h=>h.elim) (fun _=>RdF.lies) (fun w hw=>(wparse_any kind ⟨tl,gT,oT,cT⟩ AT hTA htll w (tvx_of hATe (HpG.x hw).1)).mono fun e w' ⟨h1,s,A9,c9,b9,h2,h3,h4,h5,h6⟩=>⟨(s,A9,c9,b9),⟨h3,h5,h6⟩,h2,h1,h4⟩) (fun iS FS hCS hFS=>?_);obtain⟨st,AS,cS,bS⟩:=iS;obtain⟨hst,hSc,hSp⟩:=hCS;dsimp only at hst hSc hSp hFS ⊢;refine Zm M M<|ZF M (zC M M)<|ZF M (zC M M)<|Zt (z:=.agg #[.string ⟨#[]⟩,.string ⟨#[]⟩,.string ⟨#[]⟩,.string ⟨#[]⟩,.slice none 0 0,.int .i64 0,.int .i64 0]) (cs:=Jw) M fun b14=>ZR 0 M<|Za M M<|ZX<|Z14r 0 2 6 7 8 9 10 11 12 13 14 15 41 51 M<|Zm M M<|ZF M (zY (off:=6) (sz:=0) M U119 (by kernel_rfl) M) ?_;refine ZS 0 M<|ZX<|Z14r 0 2 6 7 8 9 10 11 12 13 14 15 41 51 M<|Zm M M<|ZF M (Zo 0 M U119 M)<|Zu (v:=.int .i64 (wQ kind st)) M (fun w hw=>wsizeS_any kind st hst AS cS 0 _ hSc.1 FS w (HpG.x hw).1)<|ZF M (zY (off:=5) (sz:=0) M U119 (by kernel_rfl) M) ?_;refine ZS 0 M<|ZX<|zX<|Z14 0 2 6 7 8 9 10 11 12 13 14 15 41 51 M<|zG (H':=Jy w_0 [(b14,rsB st AS cS (wQ kind st) ((at_:Nat):Int)),(b13,lxO AT tl.length cT 0),(b6,rrO ([],0,0))] [rwV A cap Ss,rwLb LA lcap lb,rwPl PA pcap lb] (fun u=>RdF FS AS (vI st.l) u∧RvP Ss (fun k=>w_0.heap.size≤k) u∧RdF FL AL (srC (xK text)) u)) (fun w h=>Hp.weakX h fun u hu=>⟨hu.1,hu.2.2⟩) ?_;refine zZ<|Zm M M<|ZF M (xO M)<|Zm M M<|zQ 72 M (fun g3=>?_) (fun g3=>?_)
  ·obtain rfl:bS=false:=by
    cases bS with
    | false=>rfl
    | true=>exact absurd g3 (by decide)
   have hpa:qZ kind tl=none:=by
    cases hp:qZ kind tl with
    | none=>rfl
    | some y=>rw[hp] at hSp;exact absurd hSp.1 (by decide)
   rw[hpa] at he;have he:Except.error (k+1,20)=R0:=he;have hr:r=([],k+1,20):=hr.symm.trans (rasm_err hk12 hln (hR0.symm.trans he.symm));refine ZP M<|ZP M<|ZP M<|Zh M<|ZT<|wY M<|zX<|Z15r 0 2 6 7 8 9 10 11 12 13 14 15 41 51 76 M<|Zm M M<|ZF M (zF M M (show IntKind.i64.wrap (((k:Nat):Int)+1)=((k+1:Nat):Int) from i64_in ((k+1:Nat):Int) (by omega) (by omega)))<|ZF M (Zb [.string ⟨#[]⟩,.int .i64 0,.int .i64 0] [(0,1),(1,1),(2,1)] M)<|ZR 2 M<|ZT<|zK<|zW<|zM<|zW<|zW<|zM<|zW<|yS M M 2 M Tryz.underlying30 M (by kernel_rfl) (fun w hw=>?_);subst hr;exact⟨(Kk hw).ext,rfl⟩
  skip
  obtain rfl:bS=true:=by
   cases bS with
   | true=>rfl
   | false=>exact absurd g3 (by decide)
  have hpa:qZ kind tl=some st:=by
   cases hp:qZ kind tl with
   | none=>rw[hp] at hSp;cases hSp
   | some y=>rw[hp] at hSp;rw[hSp.2]
  rw[hpa] at he;dsimp only at he;have hrng:=rsiz_rng (kind:=kind) hst;refine ZG M M M (zY (off:=5) (sz:=0) M U119 (by kernel_rfl) M) ?_;refine ZG M M M (yU 0 M M M U3 M)<|ZG M M M (yR M M)<|Zf M<|ZT<|zT M (fun h76=>?_) (fun h76=>?_)
  ·replace h76:=Ki h76;rw[Ah h76] at he;have hr:r=([],k+1,20):=hr.symm.trans (rasm_err hk12 hln (hR0.symm.trans he.symm));refine zX<|Z15r 0 2 6 7 8 9 10 11 12 13 14 15 41 51 76 M<|Zm M M<|ZF M (zF M M (show IntKind.i64.wrap (((k:Nat):Int)+1)=((k+1:Nat):Int) from i64_in ((k+1:Nat):Int) (by omega) (by omega)))<|ZF M (Zb [.string ⟨#[]⟩,.int .i64 0,.int .i64 0] [(0,1),(1,1),(2,1)] M)<|ZR 2 M<|ZT<|zK<|zW<|zM<|zW<|zW<|zM<|zW<|yS M M 2 M Tryz.underlying30 M (by kernel_rfl) (fun w hw=>?_);subst hr;exact⟨(Kk hw).ext,rfl⟩
  replace h76:=Kj h76;rw[Ag h76] at he;refine zR<|zV<|zB (ι:={y:List (Bs×Nat)×(Option Addr×Nat)×(Option Addr×Nat) // y.1=(if st.label≠[] then lb++[(st.label,at_)] else lb)∧¬(st.label≠[]∧(tO st.label lb).isSome=true)}) (fun y=>[(0,.int .i64 kind),(2,.int .u32 org),(6,Jx b6),(7,.slice A Ss.length cap),(8,.slice y.1.2.1.1 y.1.1.length y.1.2.1.2),(9,.slice y.1.2.2.1 y.1.1.length y.1.2.2.2),(10,.int .i64 ((at_:Nat):Int)),(11,.slice AL (xK text).length capL),(12,.int .i64 ((k:Nat):Int)),(14,Jx b14)]) (fun y=>Jy w_0 [(b14,rsB st AS cS (wQ kind st) ((at_:Nat):Int)),(b6,rrO ([],0,0))] [rwV A cap Ss,rwLb y.1.2.1.1 y.1.2.1.2 y.1.1,rwPl y.1.2.2.1 y.1.2.2.2 y.1.1] (fun u=>RdF FS AS (vI st.l) u∧RvP Ss (fun k=>w_0.heap.size≤k) u∧RdF FL AL (srC (xK text)) u)) ?_ (fun y=>?_)
  ·refine zX<|Z15r 0 2 6 7 8 9 10 11 12 13 14 15 41 51 76 M<|ZF M (Y119x0 M) ?_;refine Zl 0 M U9 M<|ZF M (uL M M U9)<|ZT<|zT M (fun h82=>?_) (fun h82=>?_)
   ·have h82:st.label≠[]:=Kj (by simpa using h82);refine zX<|zX<|Z16r 0 2 6 7 8 9 10 11 12 13 14 15 41 51 76 82 M<|Zm M M<|ZF M (Y119x0 M) ?_;refine Zl 0 M U9 M ?_
    refine Zu (v:=.int .i64 (xB (lb.map (·.1)) st.label)) M (fun w hw=>by
      have hcp:=HpG.rowCp (j:=1) hw rfl;have h:=wplaceR_any (lb.map (·.1)) st.label LA lcap (by rw[Ak];exact hcp.1) (by rw[Ak];exact hcp) _ w (HpG.rowF (j:=1) hw rfl);rw[Ak] at h
      exact h) ?_
    refine ZF M (yC M M)<|ZT<|zT M (fun h87=>?_) (fun h87=>?_)
    ·replace h87:=Ki h87;obtain⟨n9,a9,hl9,_,_⟩:=labA_yes (x:=st.label) (lb:=lb) (by omega);rw[Ah ⟨h82,by rw[hl9];rfl⟩] at he;have hr:r=([],k+1,22):=hr.symm.trans (rasm_err hk12 hln (hR0.symm.trans he.symm));refine zX<|Z17r 0 2 6 7 8 9 10 11 12 13 14 15 41 51 76 82 87 M<|Zm M M<|ZF M (zF M M (show IntKind.i64.wrap (((k:Nat):Int)+1)=((k+1:Nat):Int) from i64_in ((k+1:Nat):Int) (by omega) (by omega)))<|ZF M (Zb [.string ⟨#[]⟩,.int .i64 0,.int .i64 0] [(0,1),(1,1),(2,1)] M)<|ZR 2 M<|ZT<|zK<|zW<|zW<|zM<|zW<|zW<|zM<|zW<|yS M M 2 M Tryz.underlying30 M (by kernel_rfl) (fun w hw=>?_);subst hr;exact⟨(Kk hw).ext,rfl⟩
    replace h87:=Kj h87;have hl9:=labA_no (x:=st.label) (lb:=lb) (by omega);refine zR<|zV<|zX<|Z17r 0 2 6 7 8 9 10 11 12 13 14 15 41 51 76 82 87 M<|Zm M M<|ZF M (Y119x0 M) ?_;refine Zl 0 M U9 M<|Zs (z:=Jg) M U59 fun b94=>wN (z:=Jg) (bytes:=16) 1 0 .none M M M M M U59 (by kernel_rfl) M M M M M (by omega) (by omega) fun a95 c95 h95=>Za M M<|ZT<|Z17r 0 2 6 7 8 9 10 11 12 13 14 15 41 51 76 82 87 M<|Zm M M<|Zm M M<|Zs (z:=.int .i64 0) M U111 fun b98=>wN (z:=.int .i64 0) (bytes:=8) 2 0 .none M M M M M U111 (by kernel_rfl) M M M M M (by omega) (by omega) fun a99 c99 h99=>Za M M<|zS<|zU ⟨(lb++[(st.label,at_)],(some ⟨a95,0,none⟩,c95),(some ⟨a99,0,none⟩,c99)),by rw[Ah h82],fun h=>by rw[hl9] at h;cases h.2⟩ (.cons M<|.cons M<|.cons M<|.cons M<|.consE M (by dsimp only;rw[Kb];rfl)<|.consE M (by dsimp only;rw[Kb];rfl)<|.cons M<|.cons M<|.cons M<|.cons M<|.nil) (fun w h=>?_);dsimp only;unfold rwLb rwPl;rw[List.map_append,List.map_append,Kb];show Hp _ _ _ [_,⟨_,_,_,_,srC (lb.map (·.1)++[st.label])⟩,⟨_,_,_,_,inC (lb.map (·.2)++[at_])⟩] _ w;rw[srC_snoc,inC_snoc];exact Hp.drop h (.cons _ (.cons _ (.cons_cons _ (.cons _ (.refl _))))) (.refl _)
   skip;have h82:st.label=[]:=Ki (by simpa using h82);refine zR ?_;exact zU ⟨(lb,(LA,lcap),(PA,pcap)),by rw[Ag (fun h=>h h82)],fun h=>h.1 h82⟩ (O10 M) (fun w h=>Hp.drop h (.cons_cons _ (.cons _ (.refl _))) (.refl _))
  obtain⟨⟨lb2,⟨LA2,lcap2⟩,⟨PA2,pcap2⟩⟩,hlb2,hno⟩:=y;dsimp only at hlb2 ⊢;rw[Ag hno,← hlb2] at he
  have hln2:lb2.length≤k+1:=by
   rw[hlb2]
   split
   rw[Kb];show lb.length+1≤_;omega;omega
  have hpl2:∀x∈lb2,x.2≤65536:=by
   rw[hlb2]
   split
   ·intro x hx;rcases Aq.1 hx with hx|hx;exact hpl x hx;rw[Ar.1 hx];exact hat
   exact hpl
  refine zX<|zZ<|Zm M M<|ZF M (zY (off:=5) (sz:=0) M U119 (by kernel_rfl) M) ?_;refine Zl 0 M U3 M<|ZF M (zF M M (show IntKind.i64.wrap (((at_:Nat):Int)+wQ kind st)=((at_+(wQ kind st).toNat:Nat):Int) by rw[i64_in _ (by omega) (by omega)];omega)) ?_;refine Za M M<|ZX<|zX<|Z10r 0 2 6 7 8 9 10 11 12 14 M<|Zm M M<|ZF M (vS M M)<|ZT<|zT M (fun h105=>?_) (fun h105=>?_)
  ·replace h105:=Ki h105;rw[Ah (by omega)] at he;have hr:r=([],k+1,2):=hr.symm.trans (rasm_err hk12 hln (hR0.symm.trans he.symm));refine zX<|Z11r 0 2 6 7 8 9 10 11 12 14 105 M<|Zm M M<|ZF M (zF M M (show IntKind.i64.wrap (((k:Nat):Int)+1)=((k+1:Nat):Int) from i64_in ((k+1:Nat):Int) (by omega) (by omega)))<|ZF M (Zb [.string ⟨#[]⟩,.int .i64 0,.int .i64 0] [(0,1),(1,1),(2,1)] M)<|ZR 1 M<|ZT<|zK<|zW<|zM<|zW<|zW<|zM<|zW<|yS M M 1 M Tryz.underlying30 M (by kernel_rfl) (fun w hw=>?_);subst hr;exact⟨(Kk hw).ext,rfl⟩
  replace h105:=Kj h105;rw[Ag (by omega)] at he;refine zR<|zV<|Z11r 0 2 6 7 8 9 10 11 12 14 105 M<|Zm M M<|ZF M (Zo 0 M U119 M)<|Zs (z:=.agg #[.string ⟨#[]⟩,.string ⟨#[]⟩,.string ⟨#[]⟩,.string ⟨#[]⟩,.slice none 0 0,.int .i64 0,.int .i64 0]) M Tryz.underlying110 fun b111=>wN (z:=.agg #[.string ⟨#[]⟩,.string ⟨#[]⟩,.string ⟨#[]⟩,.string ⟨#[]⟩,.slice none 0 0,.int .i64 0,.int .i64 0]) (bytes:=104) 0 0 .none M M M M M Tryz.underlying110 (by kernel_rfl) M M M M M (by omega) (by omega) fun a112 c112 h112=>Za M M<|zS<|zH<|zV<|Z11r 0 2 6 7 8 9 10 11 12 14 105 M<|Zm M M<|ZF M (zF M M (i64_in _ (by omega) (by omega)))<|Za M M<|zS ?_
  refine yV ⟨⟨k+1,at_+(wQ kind st).toNat,lb2,Ss++[⟨st,AS,cS,wQ kind st,at_⟩],some ⟨a112,0,none⟩,c112,LA2,lcap2,PA2,pcap2⟩,⟨by show k+1≤(xK text).length;omega,by show pC _ _ _ _ _ (rvA (Ss++[_]))=_;rw[rvA_snoc];exact he,by show at_+(wQ kind st).toNat≤65536;omega,by show (Ss++[_]).length=k+1;rw[Kb];show Ss.length+1=_;omega,hln2,fun S hS=>(Aq.1 hS).elim (hok S) fun h=>by
    rw[Ar.1 h]
    exact⟨hst,hSc.1,h76,hat,by show wQ kind st≤65536;omega,par_zero hpa⟩,hpl2,by show (Ss++[_]).length≤c112;rw[Kb];exact h112⟩⟩ (by show (xK text).length-(k+1)<(xK text).length-k;omega) (.cons M<|.cons M<|.cons M<|.consE M (by dsimp only;rw[Kb];rfl)<|.cons rfl<|.cons rfl<|.cons rfl<|.cons rfl<|.cons rfl<|.nil) (fun w h=>?_)
  dsimp only;unfold rwV;rw[rvsC_snoc,Kb];exact Hp.drop (Hp.weakX h (X':=fun u=>RvP (Ss++[⟨st,AS,cS,wQ kind st,at_⟩]) (fun k=>w_0.heap.size≤k) u∧RdF FL AL (srC (xK text)) u) fun u hu=>⟨hu.2.1.snoc (RdF.lies.mono hFS hu.1),hu.2.2⟩) (.cons _ (.cons _ (.refl _))) (.refl _)
 replace h41:=Kj h41;obtain rfl:k=(xK text).length:=by omega
 rw[List.drop_length] at he;have he:Except.ok (rvA Ss,lb)=R0:=he;have hpas:=hR0.symm.trans he.symm;obtain⟨R1,hR1⟩:∃y,y=routF kind org lb (rvA Ss) 0 []:=⟨_,rfl⟩;have hcl:Ss.length≤1048577:=by omega
 refine yM<|zP<|zP<|yN<|zV<|zX<|Z10r 0 2 6 7 8 9 10 11 12 41 M<|zA .none M  (nf_bs0F (size:=1) Tryz.underlying53 (by kernel_rfl)) fun b113=>Za M M<|ZX<|zX<|Z11r 0 2 6 7 8 9 10 11 12 16 41 M<|Za M M<|ZT<|zJ<|yF (ι:={p:(Nat×Bs)×(Nat×Nat) // Q2I kind org lb Ss R1 p.1.1 p.1.2}) (fun p=>[(0,.int .i64 kind),(2,.int .u32 org),(6,Jx b6),(7,.slice A Ss.length cap),(8,.slice LA lb.length lcap),(9,.slice PA lb.length pcap),(16,.slice (some ⟨p.1.2.1,0,none⟩) p.1.1.2.length p.1.2.2),(17,.int .i64 ((p.1.1.1:Nat):Int))]) (fun p=>Jy w_0 [(b6,rrO ([],0,0))] [rwG p.1.2.1 p.1.2.2 p.1.1.2,rwV A cap Ss,rwLb LA lcap lb,rwPl PA pcap lb] (RvP Ss (fun k=>w_0.heap.size≤k))) (fun p=>Ss.length-p.1.1.1) ⟨((0,[]),(b113,0)),⟨Ad _,by rw[Kx];exact hR1.symm,Ad _⟩⟩ ?_ (fun w h=>Hp.weakX (Hp.toRow (k:=0) h (HpG.mineL (j:=0) h M fun h=>h) M (by decide)) fun u hu=>hu.1) (fun p=>?_);exact O8 rfl;obtain⟨⟨⟨j,out⟩,⟨g,cg⟩⟩,hJ⟩:=p;dsimp only at hJ ⊢;obtain⟨hjle,hje,hjn⟩:=hJ;refine zX<|zX<|zZ<|Zm M M<|Zm M M<|ZF M (yK M Tryz.underlying110)<|ZF M (yR M M)<|ZT<|zT M (fun h117=>?_) (fun h117=>?_)
 ·replace h117:=Ki h117;obtain⟨S,hS⟩:∃x,Ss[j]? = some x:=⟨Ss[j]'(by omega),Kn _⟩;have hSm:=Ko hS;have hSk:=hok S hSm;have hSn:=hSk.ok.n;have hSA:(rvA Ss)[j]? = some (S.s,S.a):=by unfold rvA;rw[List.getElem?_map,hS];rfl
  rw[rG hSA,routF] at hje;dsimp only at hje
  refine tK (φ:=(∃g o,A=some ⟨g,o,none⟩)∧∃g o,0<S.s.l.length→S.A=some ⟨g,o,none⟩) (fun w hw=>by
   obtain⟨g,o,e⟩:=RdF.adr (HpG.rowF (j:=1) hw rfl)
   exact⟨⟨g,o,e (by rw[rvsC_len];omega)⟩,opc_adr ((HpG.x hw) S hSm)⟩) (fun ⟨⟨gS,oS,hAe⟩,gO,oO,hOe⟩=>?_)
  generalize hLe:lb.map (plO org)=Lp at hje;refine zR<|zV<|zX<|zJ<|zX<|Z9r 0 2 6 7 8 9 16 17 117 M<|Za M M<|ZX<|zX<|zZ<|Za M M<|ZT<|zJ<|yF (ι:={p:(Nat×List Nat)×(Option Addr×Nat) // Q3I Lp S.s.l p.1.1 p.1.2}) (fun p=>[(0,.int .i64 kind),(2,.int .u32 org),(6,Jx b6),(7,.slice A Ss.length cap),(8,.slice LA lb.length lcap),(9,.slice PA lb.length pcap),(16,.slice (some ⟨g,0,none⟩) out.length cg),(17,.int .i64 ((j:Nat):Int)),(18,.slice p.1.2.1 p.1.1.2.length p.1.2.2),(19,.int .i64 ((p.1.1.1:Nat):Int))]) (fun p=>Jy w_0 [(b6,rrO ([],0,0))] [⟨.slice p.1.2.1 p.1.1.2.length p.1.2.2,22,1,p.1.1.2.length,uS p.1.1.2⟩,rwG g cg out,rwV A cap Ss,rwLb LA lcap lb,rwPl PA pcap lb] (RvP Ss (fun k=>w_0.heap.size≤k))) (fun p=>S.s.l.length-p.1.1.1) ⟨((0,[]),(none,0)),⟨Ad _,rfl,by rw[Kx];cases wP Lp S.s.l<;>rfl,fun _ h=>by cases h⟩⟩ ?_ (fun w h=>Hp.nil h _ _) (fun p=>?_);exact O10 rfl;obtain⟨⟨⟨n,done⟩,⟨VA,vc⟩⟩,hV⟩:=p;dsimp only at hV ⊢;obtain⟨hnle,hdn,hve,hvb⟩:=hV;refine zX<|zX<|zZ<|Zm M M<|Zm M M<|Zm M M<|ZF M (Zi (j:=j) (es:=7) (g:=gS) (o:=oS) (len:=Ss.length) (cap:=cap) (vO hAe) M Tryz.underlying110 M (by omega) M) ?_;refine ZF M (Y119x4 M) ?_;refine ZF M (zL (v:=.slice S.A S.s.l.length S.cap) M U117 M (fun w hw=>rvs_cell hAe hS (HpG.rowF (j:=2) hw M) 4 M)) ?_;refine ZF M (yK M U117)<|ZF M (yR M M)<|ZT<|zT M (fun h127=>?_) (fun h127=>?_)
  ·replace h127:=Ki h127;obtain⟨o,hoo⟩:∃x,S.s.l[n]? = some x:=⟨S.s.l[n]'(by omega),Kn _⟩;have hor:=hSk.ok.ok o (Ko hoo);have hO1:=hOe (by omega);rw[rG hoo] at hve;refine zR<|zV<|zX<|zJ<|zX<|Z11r 0 2 6 7 8 9 16 17 18 19 127 M<|Zm M M<|Zm M M<|ZF M (Zi (j:=j) (es:=7) (g:=gS) (o:=oS) (len:=Ss.length) (cap:=cap) (vO hAe) M Tryz.underlying110 M (by omega) M) ?_;refine ZF M (Y119x4 M) ?_;refine ZF M (zL (v:=.slice S.A S.s.l.length S.cap) M U117 M (fun w hw=>rvs_cell hAe hS (HpG.rowF (j:=2) hw M) 4 M)) ?_;refine Zm M M<|ZF M (Zi (j:=n) (es:=6) (g:=gO) (o:=oO) (len:=S.s.l.length) (cap:=S.cap) (vO hO1) M Tryz.underlying117 M (by omega) M) ?_;refine ZF M (xL (cs:=aoC o) M U125 M (by kernel_rfl) (fun w hw j v hj=>uU hOe hoo ((HpG.x hw) S hSm) j hj))<|Zt (z:=.agg #[.int .u8 0,.int .i64 0,.string ⟨#[]⟩,.int .u32 0,.int .i64 0,.int .i64 0]) (cs:=Jk) M fun b20=>ZR 0 M<|ZX<|Z12 0 2 6 7 8 9 16 17 18 19 20 127 M<|zG (H':=Jy w_0 [(b20,obO o),(b6,rrO ([],0,0))] [⟨.slice VA done.length vc,22,1,done.length,uS done⟩,rwG g cg out,rwV A cap Ss,rwLb LA lcap lb,rwPl PA pcap lb] (RvP Ss (fun k=>w_0.heap.size≤k))) Jz<|zZ<|ZF M (Y125x3 M) ?_;refine Zl 0 M U22 M<|Za M M<|ZT<|zB (ι:={x:Nat // x<4294967296∧wP Lp (o::S.s.l.drop (n+1))=yG (wP Lp (S.s.l.drop (n+1))) fun r=>.ok (x::r)}) (fun x=>[(0,.int .i64 kind),(2,.int .u32 org),(6,Jx b6),(7,.slice A Ss.length cap),(8,.slice LA lb.length lcap),(9,.slice PA lb.length pcap),(16,.slice (some ⟨g,0,none⟩) out.length cg),(17,.int .i64 ((j:Nat):Int)),(18,.slice VA done.length vc),(19,.int .i64 ((n:Nat):Int)),(21,.int .u32 ((x.1:Nat):Int))]) (fun _=>Jy w_0 [(b6,rrO ([],0,0))] [⟨.slice VA done.length vc,22,1,done.length,uS done⟩,rwG g cg out,rwV A cap Ss,rwLb LA lcap lb,rwPl PA pcap lb] (RvP Ss (fun k=>w_0.heap.size≤k))) ?_ (fun x=>?_)
   ·refine zX<|Z13r 0 2 6 7 8 9 16 17 18 19 20 21 127 M<|ZF M (zY (off:=2) (sz:=0) M U125 (by kernel_rfl) M) ?_;refine Zl 0 M U9 M<|ZF M (uL M M U9)<|ZT<|zT M (fun h142=>?_) (fun h142=>?_)
    ·have h142:o.name≠[]:=Kj (by simpa using h142);refine zX<|Z14r 0 2 6 7 8 9 16 17 18 19 20 21 127 142 M<|Zm M M<|ZF M (zY (off:=2) (sz:=0) M U125 (by kernel_rfl) M) ?_;refine Zl 0 M U9 M ?_
     refine Zu (v:=.int .i64 (xB (lb.map (·.1)) o.name)) M (fun w hw=>by
       have hcp:=HpG.rowCp (j:=3) hw rfl;have h:=wplaceR_any (lb.map (·.1)) o.name LA lcap (by rw[Ak];exact hcp.1) (by rw[Ak];exact hcp) _ w (HpG.rowF (j:=3) hw rfl);rw[Ak] at h
       exact h) ?_
     refine Za M M<|ZX<|zX<|Z15r 0 2 6 7 8 9 16 17 18 19 20 21 22 127 142 M<|Zm M M<|ZF M (yR M M)<|ZT<|zT M (fun h148=>?_) (fun h148=>?_)
     ·replace h148:=Ki h148
      have hv9:wP Lp (o::S.s.l.drop (n+1))=.error 14:=by
       rw[sW,Ah h142,← hLe,labA_map,labA_no h148];rfl
      rw[hv9] at hve;rw[hve] at hje;have hje:Except.error (j+1,14)=R1:=hje;have hr:r=([],j+1,14):=hr.symm.trans (rasm_err2 hk12 hln hpas (hR1.symm.trans hje.symm));refine zX<|Z16r 0 2 6 7 8 9 16 17 18 19 20 21 22 127 142 148 M<|Zm M M<|ZF M (zF M M (show IntKind.i64.wrap (((j:Nat):Int)+1)=((j+1:Nat):Int) from i64_in ((j+1:Nat):Int) (by omega) (by omega)))<|ZF M (Zb [.string ⟨#[]⟩,.int .i64 0,.int .i64 0] [(0,1),(1,1),(2,1)] M)<|ZR 1 M<|ZT<|zK<|zW<|zW<|zM<|zW<|zW<|zM<|zW<|zM<|zW<|zW<|zM<|zW<|yS M M 1 M Tryz.underlying30 M (by kernel_rfl) (fun w hw=>?_);subst hr;exact⟨(Kk hw).ext,rfl⟩
     replace h148:=Kj h148;obtain⟨n9,a9,hl9,hp9,hx9⟩:=labA_yes h148;rw[hp9];have ha9:a9≤65536:=hpl (o.name,a9) (Ko hx9);have hn9:=(Kg.1 hx9).1;refine zR<|zV<|Z16 0 2 6 7 8 9 16 17 18 19 20 21 22 127 142 148 M ?_
     refine tK (φ:=∃g o,PA=some ⟨g,o,none⟩) (fun w hw=>by
      obtain⟨g,o,e⟩:=RdF.adr (HpG.rowF (j:=4) hw rfl)
      exact⟨g,o,e (by rw[inC_len,Ak];omega)⟩) (fun ⟨gP,oP,hPe⟩=>?_)
     refine zZ<|Zm M M<|Zm M M<|Zm M M<|ZF M (Zi (j:=n9) (es:=1) (g:=gP) (o:=oP) (len:=lb.length) (cap:=pcap) (vO hPe) M Tryz.underlying111 M (by omega) M) ?_
     refine ZF M (zL (v:=.int .i64 ((a9:Nat):Int)) M U3 M (fun w hw=>by
      have h:=HpG.rowF (j:=4) hw rfl;rw[hPe] at h
      exact RdF.part h (i:=n9) (by rw[inC_len,Ak];omega) (by rw[Nat.mul_one]) (by unfold inC;rw[List.getElem?_map,List.getElem?_map,hx9];rfl))) ?_
     refine ZF M (Zc M U22 (show IntKind.u32.wrap ((a9:Nat):Int)=((a9:Nat):Int) from qV _ (by omega) (by omega)))<|ZF M (zF M M (u32_sum org a9))<|Za M M<|zS ?_;exact zU ⟨(org+a9)%4294967296,Nat.mod_lt _ (by decide),by rw[sW,Ah h142,← hLe,labA_map,hl9];rfl⟩ (O11 M) (fun w h=>Hp.drop h (.cons _ (.refl _)) (.refl _))
    skip;have h142:o.name=[]:=Ki (by simpa using h142);refine zR ?_;exact zU ⟨o.n,hor.n,by rw[sW,Ag (fun h=>h h142)]⟩ (O11 M) (fun w h=>Hp.drop h (.cons _ (.refl _)) (.refl _))
   obtain⟨x,hx32,hxe⟩:=x;dsimp only;rw[hxe,andR_step] at hve;refine zZ<|Zm M M<|Zm M M<|Zs (z:=.int .u32 0) M U51 fun b161=>wN (z:=.int .u32 0) (bytes:=4) 0 0 .none M M M M M U51 (by kernel_rfl) M M M M M (by omega) (by omega) fun a162 c162 h162=>Za M M<|zS<|zH<|zV<|Z11r 0 2 6 7 8 9 16 17 18 19 21 M<|Zm M M<|ZF M (zF M M (i64_in _ (by omega) (by omega)))<|Za M M<|zS<|yV ⟨((n+1,done++[x]),(some ⟨a162,0,none⟩,c162)),⟨by show n+1≤_;omega,by show (done++[x]).length=n+1;rw[Kb,hdn];rfl,hve,fun y hy=>(Aq.1 hy).elim (hvb y) fun h=>by rw[Ar.1 h];exact hx32⟩⟩ (by show S.s.l.length-(n+1)<S.s.l.length-n;omega) (.cons M<|.cons M<|.cons M<|.cons M<|.cons M<|.cons M<|.cons M<|.cons M<|.consE M (by dsimp only;rw[Kb];rfl)<|.cons M<|.nil) (fun w h=>?_);dsimp only;rw[Kb,u32C_snoc];exact Hp.drop h (.cons _ (.refl _)) (.refl _)
  replace h127:=Kj h127;obtain rfl:n=S.s.l.length:=by omega
  rw[List.drop_length] at hve;have hve:wP Lp S.s.l=.ok done:=by rw[hve];show Except.ok (done++[])=_;rw[Al]
  rw[hve] at hje;dsimp only[yG] at hje;have hza:=fun h1 h2 h3=>rv_zero hSk hve h1 h2 h3;have haS:=hSk.a;generalize hrc:nV kind S.s done ((org+S.a)%4294967296)=RC at hje;refine yM<|zP<|zP<|yN<|zV<|zX<|Z11 0 2 6 7 8 9 16 17 18 19 127 M<|oD [0,1,2,3,4,5,6,7,8,9,10,11,12,13,14,15,16,17,18,19] (CellsJ gS (oS+j*7) S.c) (by kernel_rfl) (by kernel_rfl) CellsJ.stab (fun w h i v hv=>rvs_cell hAe hS (HpG.rowF (j:=2) h M) i hv) (fun n0 hn0=>?_);refine Zd M M M (yW M)<|Zd M M M (yW M)<|Zd M M M (yW M)<|Zd M M M (Zi (j:=j) (es:=7) (g:=gS) (o:=oS) (len:=Ss.length) (cap:=cap) (vO hAe) M Tryz.underlying110 M (by omega) M) ?_;refine Zd M M M (xL (cs:=S.c) M U119 M (by kernel_rfl) (fun w hw i v hj=>hw i v hj))<|Zd M M M (yW M)<|Zd M M M (yW M)<|Zd M M M (yW M)<|Zd M M M (yW M)<|Zd M M M (Zi (j:=j) (es:=7) (g:=gS) (o:=oS) (len:=Ss.length) (cap:=cap) (vO hAe) M Tryz.underlying110 M (by omega) M) ?_;refine Zd M M M (zY (off:=6) (sz:=0) M U119 (by kernel_rfl) M) ?_;refine Zd M M M (zL (v:=.int .i64 ((S.a:Nat):Int)) M U3 M (fun w hw=>hw 6 _ M))<|Zd M M M (Zc M U22 (show IntKind.u32.wrap ((S.a:Nat):Int)=((S.a:Nat):Int) from qV _ (by omega) (by omega)))<|Zd M M M (zF M M (u32_sum org S.a))<|vP M ?_
  refine wd_pureE (ι:=Bs×Nat) (C:=fun i=>match RC with|.ok c=>i.1=c∧i.2=0|.error e=>i.1=[]∧i.2=e) (val:=fun i=>.tuple #[.string ⟨i.1.toArray⟩,.int .i64 ((i.2:Nat):Int)]) .none rfl  (by kernel_rfl) rfl CellsJ.ext (fun w hw=>(wcode_any kind S.s hSk.ok S.A S.cap S.z _ hSk.c hSk.sz done hdn hvb hza VA vc _ (Nat.mod_lt _ (by decide)) _ _ w ((HpG.x hw) S hSm) (HpG.rowF (j:=0) hw rfl)).mono fun e w' ⟨h1,h2⟩=>by
    rw[hrc] at h2
    cases RC with
    | ok c9=>exact⟨(c9,0),⟨rfl,rfl⟩,h2,h1⟩
    | error e9=>exact⟨([],e9),⟨rfl,rfl⟩,h2,h1⟩) (fun i hi=>?_)
  obtain⟨cd,ec⟩:=i;dsimp only at hi ⊢;refine Zd M M M (yW M)<|Zd M M M (zC M M)<|Zd M M M (zC M M)<|Zd M M M (wD M)<|Zd M M M (wD M)<|qQ<|zV<|zX<|zX<|Z13r 0 2 6 7 8 9 16 17 18 19 23 24 127 M<|Zm M M<|ZF M (xF M M)<|ZT<|zT M (fun h182=>?_) (fun h182=>?_)
  ·replace h182:=xD h182
   have hRC:RC=.error ec:=by
    cases RC with
    | ok c9=>exact absurd (by rw[hi.2];rfl) h182
    | error e9=>rw[hi.2]
   rw[hRC] at hje;have hje:Except.error (j+1,ec)=R1:=hje;have hr:r=([],j+1,ec):=hr.symm.trans (rasm_err2 hk12 hln hpas (hR1.symm.trans hje.symm));refine zX<|Z14r 0 2 6 7 8 9 16 17 18 19 23 24 127 182 M<|Zm M M<|ZF M (zF M M (show IntKind.i64.wrap (((j:Nat):Int)+1)=((j+1:Nat):Int) from i64_in ((j+1:Nat):Int) (by omega) (by omega)))<|Zm M M<|ZF M (Zb [.string ⟨#[]⟩,.int .i64 0,.int .i64 0] [(0,1),(1,1),(2,1)] M)<|ZR 0 M<|ZT<|zK<|zW<|zM<|zW<|zW<|zM<|zW<|yS M M 0 M Tryz.underlying30 M (by kernel_rfl) (fun w hw=>?_);subst hr;exact⟨(Kk hw).ext,rfl⟩
  replace h182:=wJ h182
  have hRC:RC=.ok cd:=by
   cases RC with
   | ok c9=>rw[hi.1]
   | error e9 =>
    have:=rcod_err hrc;have:=hi.2;omega
  rw[hRC] at hje hrc;dsimp only at hje;have hcdl:=rcod_ln hrc (by omega) hza;have hj8:out.length+cd.length≤(j+1)*8000004:=by omega
  refine zR<|zV<|Z14r 0 2 6 7 8 9 16 17 18 19 23 24 127 182 M<|Zm M M<|Zm M M<|xY (ι:=Nat×Nat) (val:=fun q=>.slice (some ⟨q.1,0,none⟩) (out++cd).length q.2) (H':=fun q=>Jy w_0 [(b6,rrO ([],0,0))] [⟨.slice VA done.length vc,22,1,done.length,uS done⟩,rwG q.1 q.2 (out++cd),rwV A cap Ss,rwLb LA lcap lb,rwPl PA pcap lb] (RvP Ss (fun k=>w_0.heap.size≤k))) .none M  (cf_appStr 1 M M M (by omega)) (fun q=>?_);refine Za M M<|zS<|zH<|zV<|Z14r 0 2 6 7 8 9 16 17 18 19 23 24 127 182 M<|Zm M M<|ZF M (zF M M (i64_in _ (by omega) (by omega)))<|Za M M<|zS ?_;exact yV ⟨((j+1,out++cd),(q.1,q.2)),⟨by show j+1≤_;omega,hje,by show (out++cd).length≤_;rw[Kb];exact hj8⟩⟩ (by show Ss.length-(j+1)<Ss.length-j;omega) (O8 M) (fun w h=>Hp.drop h (.refl _) (.cons _ (.refl _)))
 replace h117:=Kj h117;obtain rfl:j=Ss.length:=by omega
 rw[Aj (by unfold rvA;rw[Ak];omega)] at hje;have hje:Except.ok out=R1:=hje;have hr:r=(out,0,0):=hr.symm.trans (rasm_ok hk12 hln hpas (hR1.symm.trans hje.symm));refine yM<|zP<|zP<|yN<|zV<|zX<|Z9r 0 2 6 7 8 9 16 17 117 M<|Zm M M ?_
 refine ZF M (wG 0 M M) ?_
 refine ZF M (Zb [.string ⟨#[]⟩,.int .i64 0,.int .i64 0] [(0,1),(1,1),(2,1)] M)<|ZR 0 M<|ZT<|zK<|yS M M 0 M Tryz.underlying30 M (by kernel_rfl) (fun w hw=>?_);subst hr;exact⟨(Kk hw).ext,rfl⟩
end Go.Proofs.YtkaepknpplhgkaaGreatDoor
namespace Go.Proofs.YtkaepknpplhgkaaGreatDoor
open Go.RowKit
theorem assemble_law (n:Nat) (s:Bs) (hs:s.length≤9223372036854775807) (org:Nat) (ho:org<4294967296) (w_0:World) (hw0:WOk w_0):Calls Tryz.prog 3 #[.int .u8 n,.string ⟨s.toArray⟩,.int .u32 org] w_0 fun e w'=>e=.returned (.bool true)∧Ext w_0 w':=by
 obtain⟨text,ht⟩:∃c,c=s.take 3000:=⟨_,rfl⟩;have htl:text.length≤3000:=by rw[ht];exact List.length_take_le ..
 obtain⟨kd,hkd⟩:∃c,c=kindL n:=⟨_,rfl⟩;obtain⟨r,hr⟩:∃r,r=oH kd text org:=⟨_,rfl⟩;have hr2:r=nU kd text org:=by rw[hr,rasm_eq]
 obtain⟨c,l,e⟩:=r;have hkind:=fun w=>kind_any n w;rw[← hkd] at hkind;refine zN (args:=[.int .u8 n,.string ⟨s.toArray⟩,.int .u32 org]) Tryz.func3 M 48 M (Kh M)<|Z3 0 1 2 M<|Z0<|zX<|zZ<|Za M M<|ZX<|zZ<|Zu (v:=.bool true) M (fun w hw=>sanity_any w (hw0.ext hw.ext0))<|Za M M<|ZX<|Z5r 0 1 2 6 7 M<|Zm M M<|Zu (v:=.string ⟨text.toArray⟩) M (fun w hw=>by rw[ht];exact short_any s hs 3000 (by decide) w) ?_;refine Za M M<|ZX<|Z5r 0 1 2 6 7 M<|Zm M M<|Zu (v:=.int .i64 kd) M (fun w hw=>hkind w)<|Zm M M<|Zm M M<|Zu (v:=.tuple #[.string ⟨c.toArray⟩,.int .i64 (l:Nat),.int .i64 (e:Nat)]) M (fun w hw=>asm_is hr.symm ho (hw0.ext hw.ext0))<|Zm M M<|ZF M (zC M M)<|ZF M (zC M M)<|ZF M (zC M M)<|Za M M<|Za M M<|Za M M<|ZX<|Z8r 0 1 2 6 7 8 9 10 M<|Zm M M<|Zu (v:=.int .i64 kd) M (fun w hw=>hkind w)<|Zm M M<|Zm M M<|Zu (v:=.agg (rrC (c,l,e)).toArray) M (fun w hw=>(rassemble_any kd text org ho w (by omega)).mono fun e' w' ⟨h1,h2⟩=>⟨by rw[h2,← hr2],h1⟩) ?_;refine Zt (z:=.agg #[.string ⟨#[]⟩,.int .i64 0,.int .i64 0]) (cs:=[.string ⟨#[]⟩,.int .i64 0,.int .i64 0]) M fun b11=>ZR 0 M<|ZX<|Z9r 0 1 2 6 7 8 9 10 11 M<|Zm M M<|Zm M M<|zQ 30 M (fun hb=>?_) (fun hb=>?_)
 ·refine Zv M<|ZG M M M (zY (off:=0) (sz:=0) M Tryz.underlying30 (by kernel_rfl) M) ?_;refine ZG M M M (yU 0 M M M U9 M)<|ZG M M M (yZ M M U9)<|Zh M<|Zm M M<|zQ 36 M (fun hb=>?_) (fun hb=>?_)
  ·refine Zv M<|ZG M M M (zY (off:=1) (sz:=0) M Tryz.underlying30 (by kernel_rfl) M) ?_;refine ZG M M M (yU 0 M M M U3 M)<|Zx M<|Zh M<|Zm M M<|zQ 42 M (fun hb=>?_) (fun hb=>?_)
   ·replace hb:=Kq hb;refine Zv M<|ZG M M M (zY (off:=2) (sz:=0) M Tryz.underlying30 (by kernel_rfl) M) ?_;refine ZG M M M (yU 0 M M M U25 M)<|Zx M<|Zh M<|Za M M<|ZU M M fun w hw=>⟨by congr 2;exact beq_self_eq_true _,hw.ext0⟩
   replace hb:=yT hb;exact absurd M hb
  skip;exact absurd (An M) (by rw[hb];decide)
 skip;cases hb
end Go.Proofs.YtkaepknpplhgkaaGreatDoor
