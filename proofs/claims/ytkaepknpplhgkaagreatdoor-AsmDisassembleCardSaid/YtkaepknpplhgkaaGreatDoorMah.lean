import Derived.Test.YtkaepknpplhgkaaGreatDoorMag
import Derived.Test.YtkaepknpplhgkaaGreatDoorMaa
import Derived.Test.YtkaepknpplhgkaaGreatDoorMaY
import Derived.Test.YtkaepknpplhgkaaGreatDoorMac
import Derived.Test.YtkaepknpplhgkaaGreatDoorMaU
set_option maxRecDepth 100000
set_option maxHeartbeats 4000000
namespace Go.Proofs.YtkaepknpplhgkaaGreatDoor
open Go.RowKit
theorem takeFs_imm:∀(l:List Fld) (b:Bs) (i:KI),i.imm<4294967296→(xM b i l).imm<4294967296
 | [],_,_,h=>h
 | f::l,b,i,h=>by
  refine takeFs_imm l _ _ ?_;cases f
  case small=>exact sxL_lt7 _ 8 (.inl rfl)
  case plain=>have:=UInt8.toNat_lt (b.headD 0);show (b.headD 0).toNat<_;omega
  case full =>
   have h1:=pC (b.take 4);have h2:(b.take 4).length≤4:=List.length_take_le ..;have:256 ^ (b.take 4).length≤256 ^ 4:=Nat.pow_le_pow_right (by omega) h2;show getL (b.take 4)<_;omega
  case index =>
   show (if b.headD 0=8 then i else _:KI).imm<_
   split<;>exact h
  all_goals exact h
abbrev ki0:KI:=⟨0,0,0,0,0,0,0⟩
def DcPost (s:Bs) (w:World) (e:Ending) (w':World):Prop:=Ext w w'∧match pM s with
 | some i=>e=.returned (.tuple #[.agg (kiC i).toArray,.int .i64 0])
 | none=>e=.returned (.tuple #[.agg (kiC ki0).toArray,.int .i64 10])∨e=.returned (.tuple #[.agg (kiC ki0).toArray,.int .i64 12])
theorem decode_any (s:Bs) (hs:s.length≤1000000000) (w_0:World):Calls Tryz.prog 27 #[.string ⟨s.toArray⟩] w_0 (DcPost s w_0):=by
 unfold DcPost
 cases s with
 | nil =>
  refine zH (args:=[.string ⟨([]:Bs).toArray⟩]) Tryz.func27 M 37 M (Kc M)<|Z1 0 M<|zR (H':=Hp (fun _=>False) w_0 [] [] (fun _=>True)) (fun u hu=>?_) ?_
  ·subst hu;exact Hp.start0
  refine zX<|zZ<|zC .none M (yS (z:=Jc) (cs:=Jm) (by kernel_rfl) M) (fun b2=>?_);refine Za M M<|ZX<|zX<|zZ<|Zm M M<|ZF M (yE M M U9)<|ZT<|zW M (fun h8=>?_) (fun h8=>?_)
  ·refine zX<|Z4r 0 2 3 8 M M M M<|ZF M (yT [.int .i64 0,.int .i64 0,.int .i64 0,.int .i64 0,.int .i64 0,.int .u32 0,.int .i64 0] [(0,1),(1,1),(2,1),(3,1),(4,1),(5,1),(6,1)] M (by kernel_rfl) (by kernel_rfl) M) ?_;refine ZR 0 M M M M M (by kernel_rfl) ?_;refine Za M M<|ZT<|zQ<|zT<|vM M M M 0 M Tryz.underlying35 M (by kernel_rfl) (fun w hw=>?_);exact⟨hw.ext0,.inl rfl⟩
  ·exact absurd h8 (by decide)
 | cons c r =>
  have hcl:=UInt8.toNat_lt c;have hk:=fmtK_P (c.toNat:Int);have hf:=fun w=>find_any (c.toNat:Int) w;unfold FdPost at hf
  have hdk:pM (c::r)=match tB c.toNat with
    | none=>none
    | some (n,l)=>if (c::r).length<n then none else
     let i:=xM (((c::r).take n).drop 1) ⟨c.toNat,0,0,-1,0,0,n⟩ l
     if (tV i).isSome=true then some i else none:=rfl
  cases hp:fmtP (c.toNat:Int) with
  | none =>
   rw[hp] at hk hf;have hv:pM (c::r)=none:=by rw[hdk,hk];rfl
   rw[hv];refine zH (args:=[.string ⟨(c::r).toArray⟩]) Tryz.func27 M 37 M (Kc M)<|Z1 0 M<|zR (H':=Hp (fun _=>False) w_0 [] [] (fun _=>True)) (fun u hu=>?_) ?_
   ·subst hu;exact Hp.start0
   refine zX<|zZ<|zC .none M (yS (z:=Jc) (cs:=Jm) (by kernel_rfl) M) (fun b2=>?_);refine Za M M<|ZX<|zX<|zZ<|Zm M M<|ZF M (yE M M U9)<|ZT<|zW M (fun h8=>?_) (fun h8=>?_)
   ·simp at h8
   ·refine zL<|zP<|zX<|Z4r 0 2 3 8 M M M M<|Zm M M<|ZF M (yH M M U9 M M) ?_
    refine ZF M (yQ M (by kernel_rfl) U3 (i64_in _ (by omega) (by omega))) ?_
    refine zE .none M  (v:=.tuple #[.agg zFm.toArray,.bool false]) (by kernel_rfl) M (fun w hw=>(hf w).mono fun e w' ⟨h1,h2⟩=>⟨h2,h1⟩) ?_;refine Zm M M<|ZF M (yX M M)<|ZF M (yX M M)<|zC .none M (yS (z:=Ja) (cs:=Jl) (by kernel_rfl) M) (fun b4=>?_);refine ZR 0 M M M M M (by kernel_rfl) ?_;refine Za M M<|ZX<|zX<|Z6r 0 2 3 4 5 8 M M M M M M<|Zm M M<|ZF M (xF M)<|ZT<|zW M (fun h18=>?_) (fun h18=>?_)
    ·refine zX<|Z7r 0 2 3 4 5 8 18 M M M M M M M<|ZF M (yT [.int .i64 0,.int .i64 0,.int .i64 0,.int .i64 0,.int .i64 0,.int .u32 0,.int .i64 0] [(0,1),(1,1),(2,1),(3,1),(4,1),(5,1),(6,1)] M (by kernel_rfl) (by kernel_rfl) M) ?_;refine ZR 1 M M M M M (by kernel_rfl) ?_;refine Za M M<|ZT<|zQ<|zT<|vM M M M 1 M Tryz.underlying35 M (by kernel_rfl) (fun w hw=>?_);exact⟨hw.ext0,.inr rfl⟩
    ·cases h18
  | some p =>
   rw[hp] at hk hf;have hk':tB (c.toNat:Int)=some (p.2.2.1,p.2.2.2):=hk;obtain⟨hn1,hn3,ho0,ho1⟩:=ndL_fm hk'
   have hdk2:pM (c::r)=if (c::r).length<p.2.2.1 then none else
     if (tV (xM (((c::r).take p.2.2.1).drop 1) ⟨c.toNat,0,0,-1,0,0,p.2.2.1⟩ p.2.2.2)).isSome=true then some (xM (((c::r).take p.2.2.1).drop 1) ⟨c.toNat,0,0,-1,0,0,p.2.2.1⟩ p.2.2.2) else none:=by rw[hdk,hk']
   rw[hdk2];have him:=takeFs_imm p.2.2.2 (((c::r).take p.2.2.1).drop 1) ⟨c.toNat,0,0,-1,0,0,p.2.2.1⟩ (by show 0<_;omega);obtain⟨i,hi⟩:∃i,i=xM (((c::r).take p.2.2.1).drop 1) ⟨c.toNat,0,0,-1,0,0,p.2.2.1⟩ p.2.2.2:=⟨_,rfl⟩;rw[← hi] at him ⊢
   have hnd:ndL p.2.2.2≤100:=by
    have:∀l:List Fld,ndL l≤4*l.length:=by
     intro l
     induction l with
     | nil=>exact Ab _
     | cons f l ih =>
      have:ndF f≤4:=by cases f<;>decide
      show ndF f+ndL l≤4*(l.length+1);omega
    have:=this p.2.2.2;omega
   refine zH (args:=[.string ⟨(c::r).toArray⟩]) Tryz.func27 M 37 M (Kc M)<|Z1 0 M<|zR (H':=Hp (fun _=>False) w_0 [] [] (fun _=>True)) (fun u hu=>?_) ?_
   ·subst hu;exact Hp.start0
   refine zX<|zZ<|zC .none M (yS (z:=Jc) (cs:=Jm) (by kernel_rfl) M) (fun b2=>?_);refine Za M M<|ZX<|zX<|zZ<|Zm M M<|ZF M (yE M M U9)<|ZT<|zW M (fun h8=>?_) (fun h8=>?_)
   ·simp at h8
   ·refine zL<|zP<|zX<|Z4r 0 2 3 8 M M M M<|Zm M M<|ZF M (yH M M U9 M M) ?_
    refine ZF M (yQ M (by kernel_rfl) U3 (i64_in _ (by omega) (by omega))) ?_
    refine yG (ι:=Value×Value) (C:=fun v=>IsFn Tryz.prog v.1∧IsFn Tryz.prog v.2) (val:=fun v=>.tuple #[.agg (fmC p v).toArray,.bool true]) (TT:=fun v=>FmV p v) .none M  (by kernel_rfl) M (fun _ h=>h.elim) (fun _=>FmV.lies) (fun w hw=>(hf w).mono fun e w' ⟨h1,v,h2,h3⟩=>⟨v,⟨take_fn h3.1,put_fn h3.2⟩,h2,h1,h3⟩) (fun v F hfn hF=>?_);obtain⟨v1,v2⟩:=v;obtain⟨⟨f1,c1,e1,g1⟩,⟨f2,c2,e2,g2⟩⟩:=hfn;dsimp only at e1 e2;subst e1;subst e2;refine Zm M M<|ZF M (yX M M)<|ZF M (yX M M)<|zC .none M (yS (z:=Ja) (cs:=Jl) (by kernel_rfl) M) (fun b4=>?_);refine ZR 0 M M M M M (by kernel_rfl) ?_;refine Za M M<|ZX<|zX<|Z6r 0 2 3 4 5 8 M M M M M M<|Zm M M<|ZF M (xF M)<|ZT<|zW M (fun h18=>?_) (fun h18=>?_)
    ·cases h18
    ·refine zL<|zP<|zX<|zX<|Z7r 0 2 3 4 5 8 18 M M M M M M M<|Zm M M<|ZF M (wV M U9)<|ZF M (Y135x2 M) ?_;refine ZF M (zV 0 M M M U3 M)<|ZF M (yB M M)<|ZT<|zW M (fun h24=>?_) (fun h24=>?_)
     ·replace h24:=Ke h24;rw[Ae (by omega)];refine zX<|Z8r 0 2 3 4 5 8 18 24 M M M M M M M M<|ZF M (yT [.int .i64 0,.int .i64 0,.int .i64 0,.int .i64 0,.int .i64 0,.int .u32 0,.int .i64 0] [(0,1),(1,1),(2,1),(3,1),(4,1),(5,1),(6,1)] M (by kernel_rfl) (by kernel_rfl) M) ?_;refine ZR 1 M M M M M (by kernel_rfl) ?_;refine Za M M<|ZT<|zQ<|zT<|vM M M M 1 M Tryz.underlying35 M (by kernel_rfl) (fun w hw=>?_);exact⟨hw.ext0,.inl rfl⟩
     ·replace h24:=Kf h24;rw[Ad (by omega)];have hlt:((c::r).take p.2.2.1).length=p.2.2.1:=by rw[Kx];omega
      refine zL<|zP<|zX<|Z8 0 2 3 4 5 8 18 24 M M M M M M M M<|rW 7 [0,1,2,3,4,5,6] (Blk b4 (bk 135 (fmC p (fcV f1 c1,fcV f2 c2)))) (by kernel_rfl) (by kernel_rfl) Blk.stab (fun w h=>HpG.blk h (k:=0) M) (fun n0 hn0=>?_);refine Zd M M M (xE (cs:=fmC p (fcV f1 c1,fcV f2 c2)) M U135 M (by kernel_rfl) (fun w hw j v hj=>Blk.cell hw (by rw[Kz];exact hj))) ?_;refine Zd M M M (zK M)<|Zd M M M (Y135x2 M) ?_;refine Zd M M M (zD M U3 M (fun w hw=>Blk.cell hw M)) ?_;refine Zd M M M (yf_strHi (c:=(c::r).take p.2.2.1) M M Tryz.underlying9 (by omega) (by omega) (by rw[Int.toNat_natCast])) ?_;refine wU M ?_
      refine uZ .none M  (v:=.agg (kiC i).toArray) (by kernel_rfl) M (fun w w' h hx=>h.onE hx) (fun w hw=>by
       have:=read_any p f1 f2 c1 c2 g1 F ((c::r).take p.2.2.1) c (by rw[List.getElem?_take_of_lt (by omega)];rfl) (by rw[hlt];omega) (by rw[hlt];omega) (by omega) w (HpG.x hw).1.1;rw[← hi] at this
       exact this) ?_
      refine wU M<|wd_newH ?_ .none M (fun k hk=>Kn hk hn0) (yS (z:=Jc) (cs:=Jm) (by kernel_rfl) M) (fun b6 hb6=>?_)
      ·rfl
      refine qD ?_;simp only[Kp,Kt];refine ZR 0 M M M M M (by kernel_rfl) ?_;refine ZX<|zX<|Z9r 0 2 3 4 5 6 8 18 24 M M M M M M M M M<|ZF M (yU 0 M M U35 M (by kernel_rfl)) ?_;refine zE .none M  (v:=.bool (wP i)) (by kernel_rfl) M (fun w hw=>qF i him w) ?_;refine ZF M (xF M)<|ZT<|zW M (fun h34=>?_) (fun h34=>?_)
      ·have hvf:wP i=false:=by simpa using h34
       rw[Ad (show ¬(tV i).isSome=true from fun h=>by unfold wP at hvf;rw[h] at hvf;cases hvf)];refine zX<|Z10r 0 2 3 4 5 6 8 18 24 34 M M M M M M M M M M<|ZF M (yT [.int .i64 0,.int .i64 0,.int .i64 0,.int .i64 0,.int .i64 0,.int .u32 0,.int .i64 0] [(0,1),(1,1),(2,1),(3,1),(4,1),(5,1),(6,1)] M (by kernel_rfl) (by kernel_rfl) M) ?_;refine ZR 2 M M M M M (by kernel_rfl) ?_;refine Za M M<|ZT<|zQ<|zT<|vM M M M 2 M Tryz.underlying35 M (by kernel_rfl) (fun w hw=>?_);exact⟨hw.ext0,.inr rfl⟩
      ·have hvf:wP i=true:=by simpa using h34
       rw[Ae (show (tV i).isSome=true from hvf)];refine zL<|zP<|zX<|Z10r 0 2 3 4 5 6 8 18 24 34 M M M M M M M M M M<|ZF M (yU 0 M M U35 M (by kernel_rfl)) ?_;refine ZR 2 M M M M M (by kernel_rfl) ?_;refine Za M M<|ZT<|zQ<|vM M M M 2 M Tryz.underlying35 M (by kernel_rfl) (fun w hw=>?_);exact⟨hw.ext0,rfl⟩
end Go.Proofs.YtkaepknpplhgkaaGreatDoor
namespace Go.Proofs.YtkaepknpplhgkaaGreatDoor
open Go.RowKit
theorem decdig8 (m:Nat):IntKind.u8.wrap (IntKind.u32.wrap (48+((m%10:Nat):Int)))=((digC m).toNat:Int):=by
 have h:m%10<10:=Nat.mod_lt _ (by decide);unfold digC;rw[sQ _ (by omega) (by omega)];have:(UInt8.ofNat (48+m%10)).toNat=48+m%10:=by rw[UInt8.toNat_ofNat'];omega
 rw[this];simp only[IntKind.wrap,IntKind.bits,IntKind.signed];simp;omega
theorem tdivN (n k:Nat):((n:Int)).tdiv (k:Int)=((n/k:Nat):Int):=by
 rw[Int.tdiv_eq_ediv_of_nonneg (by omega)];rfl
theorem tmodE (n k:Nat):((n:Int)).tmod (k:Int)=((n%k:Nat):Int):=by
 rw[Int.tmod_eq_emod_of_nonneg (by omega)];rfl
theorem tdivE (n k:Nat):((n:Int)).tdiv (k:Int)=((n/k:Nat):Int):=tdivN n k
theorem one_at (c:UInt8):∀j (hj:j<([c]:Bs).length),([.int .u8 (c.toNat:Int)]:List Value)[0+j]? = some (.int .u8 (([c]:Bs)[j].toNat:Int)):=fun j hj=>by
 have h0:j=0:=by simpa using hj
 subst h0;rfl
structure DgI (n:Nat) (p:Nat×Bs):Prop where
 e:qT p.1++p.2=Lib.decDigits n
 n:p.1<4294967296
 l:p.2.length+(qT p.1).length≤100
theorem vA (n:Nat) (hn:n<4294967296) (w_0:World):Calls Tryz.prog 23 #[.int .u32 n] w_0 fun e w'=>e=.returned (.string ⟨(Lib.decDigits n).toArray⟩)∧Ext w_0 w':=by
 have hln:(Lib.decDigits n).length≤10:=wR (k:=10) (by omega) (by decide);refine zH (args:=[.int .u32 n]) Tryz.func23 M 23 M (Kc M)<|Z1 0 M<|zR (H':=Hp (fun _=>False) w_0 [] [] (fun _=>True)) (fun u hu=>?_) ?_
 ·subst hu;exact Hp.start0
 refine zX<|zZ<|Za rfl rfl<|ZX<|zZ<|Zm rfl rfl<|ZF rfl (rX rfl rfl (by first|decide|omega) (show ((n:Int)).tmod 10=((n%10:Nat):Int) from tmodE n 10)) ?_;refine ZF M (yO M M M) ?_
 refine ZF M (yQ M (by kernel_rfl) U5 (decdig8 n)) ?_
 refine zC .none M (wS (z:=.int .u8 0) M M U53 (by kernel_rfl) (by kernel_rfl) M M) (fun b8=>?_)
 refine uT .none M  (tG 0 [digC n] M M Tryz.underlying53 Tryz.underlying5 Tryz.underlying9 M (one_at _)) ?_
 refine Za M M<|ZX<|yV<|xO (ι:={p:Nat×Bs // DgI n p}) (fun p=>[(0,.int .u32 (p.1.1:Nat)),(3,.string ⟨p.1.2.toArray⟩)]) (fun p=>Hp (fun _=>False) w_0 [] [] (fun _=>True)) (fun p=>p.1.1) ⟨(n,[digC n]),⟨(dec_pre n).symm,hn,by have:=congrArg List.length (dec_pre n);rw[Jx] at this;show ([digC n]:Bs).length+(qT n).length≤100;omega⟩⟩ (O2 M M) (fun w h=>Hp.drop h (Ku _) (Kh _)) (fun p=>?_);obtain⟨⟨m,s⟩,he,hm,hl⟩:=p;dsimp only at he hm hl ⊢;refine zX<|zX<|zZ<|Zm M M<|ZF M (xY M M)<|ZT<|zW M (fun h11=>?_) (fun h11=>?_)
 ·replace h11:=Ke h11;have hst:=pre_step (u:=m) (by omega);have hl2:s.length+(qT (m/10)).length+1≤100:=by rw[hst,Jx,Jy,Jz] at hl;omega
  refine zL<|zP<|yV<|zX<|Z3r 0 3 11 rfl rfl rfl<|Zm rfl rfl<|ZF rfl (yf_quo rfl rfl (by first|decide|omega) (show IntKind.u32.wrap (((m:Nat):Int).tdiv 10)=((m/10:Nat):Int) by rw[show ((m:Nat):Int).tdiv 10=((m/10:Nat):Int) from tdivE m 10];exact sQ _ (by omega) (by omega))) ?_;refine Za rfl rfl<|ZT<|Z3r 0 3 11 rfl rfl rfl<|Zm rfl rfl<|ZF rfl (rX rfl rfl (by first|decide|omega) (tmodE (m/10) 10)) ?_;refine ZF M (yO M M M) ?_
  refine ZF M (yQ M (by kernel_rfl) U5 (decdig8 (m/10))) ?_
  refine zC .none M (wS (z:=.int .u8 0) M M U53 (by kernel_rfl) (by kernel_rfl) M M) (fun b18=>?_)
  refine uT .none M  (tG 0 [digC (m/10)] M M Tryz.underlying53 Tryz.underlying5 Tryz.underlying9 M (one_at _)) ?_
  refine Zm M M<|ZF M (zN M M (by (show 1+s.length≤_;omega))) ?_;refine Za M M<|zI<|yW<|yK (ι:={p:Nat×Bs // DgI n p}) ⟨(m/10,[digC (m/10)]++s),⟨by rw[← he,hst,Kr],by show m/10<_;omega,by show ([digC (m/10)]++s).length+_≤100;rw[Jx];show 1+s.length+(qT (m/10)).length≤100;omega⟩⟩ (by show m/10<m;omega) (O2 M M) (fun w h=>Hp.drop h (Ku _) (Kh _))
 ·replace h11:=Kf h11;have hp0:qT m=[]:=by unfold qT;rw[Ae (by omega)]
  rw[hp0] at he;refine xT<|zB<|zB<|xU<|zP<|zX<|Z3r 0 3 11 M M M<|Zm M M<|Za M M<|ZT<|zQ<|zO M M (fun w hw=>?_);exact⟨by rw[← he];rfl,hw.ext0⟩
def tJ (n:Nat) (plus:Bool):Bs:=if 2147483648≤n then 45::Lib.decDigits (4294967296-n) else if plus=true then 43::Lib.decDigits n else Lib.decDigits n
theorem sgnP_no (n:Nat):tJ n false=uK n:=rfl
theorem rU (n:Nat) (hn:n<4294967296) (plus:Bool) (w_0:World):Calls Tryz.prog 24 #[.int .u32 n,.bool plus] w_0 fun e w'=>e=.returned (.string ⟨(tJ n plus).toArray⟩)∧Ext w_0 w':=by
 have hln:(Lib.decDigits n).length≤10:=wR (k:=10) (by omega) (by decide);have hln2:(Lib.decDigits (4294967296-n)).length≤10:=wR (k:=10) (by omega) (by decide);refine zH (args:=[.int .u32 n,.bool plus]) Tryz.func24 M 17 M (Kc M)<|Z2 0 1 M M<|zR (H':=Hp (fun _=>False) w_0 [] [] (fun _=>True)) (fun u hu=>?_) ?_
 ·subst hu;exact Hp.start0
 refine zX<|zZ<|Za M M<|ZX<|zX<|zZ<|Zm M M<|ZF M (xY M M)<|ZT<|zW M (fun h6=>?_) (fun h6=>?_)
 ·replace h6:=Ke h6;refine zX<|Z4r 0 1 4 6 M M M M<|Zm M M<|ZF M (xV M M (show IntKind.u32.wrap ((0:Int)-(n:Int))=((4294967296-n:Nat):Int) by rw[sX];omega)) ?_;refine zE .none M  (by kernel_rfl) M (fun w hw=>vA (4294967296-n) (by omega) w) ?_;refine ZF M (zN M M (by (show 1+_≤_;omega))) ?_;refine Za M M<|ZT<|zQ<|zT<|zO M M (fun w hw=>?_);exact⟨by unfold tJ;rw[Ae (by omega)];rfl,hw.ext0⟩
 ·replace h6:=Kf h6;refine zL<|zP<|zX<|zX<|Z4r 0 1 4 6 M M M M<|Zm M M<|ZT<|zW M (fun h11=>?_) (fun h11=>?_)
  ·refine zX<|zZ<|Zm M M<|zE .none M  (by kernel_rfl) M (fun w hw=>vA n hn w) ?_;refine ZF M (zN M M (by (show 1+_≤_;omega))) ?_;refine Za M M<|ZT<|zQ<|zT<|zO M M (fun w hw=>?_);exact⟨by unfold tJ;rw[Ad (by omega),Ae h11];rfl,hw.ext0⟩
  ·refine zL<|zP<|zX<|zZ<|Zm M M<|zE .none M  (by kernel_rfl) M (fun w hw=>vA n hn w) ?_;refine Za M M<|ZT<|zQ<|zO M M (fun w hw=>?_);exact⟨by unfold tJ;rw[Ad (by omega),Ad (by rw[h11];decide)],hw.ext0⟩
end Go.Proofs.YtkaepknpplhgkaaGreatDoor
namespace Go.Proofs.YtkaepknpplhgkaaGreatDoor
theorem getD_len {l:List Bs}{k:Nat}(h:∀x∈l,x.length≤k) (n:Nat):(l.getD n []).length≤k:=by
 rw[Kq]
 cases hn:l[n]? with
 | none=>exact Aa _
 | some x=>exact h x (Kk hn)
theorem dec32 {n:Nat}(h:n<4294967296):(Lib.decDigits n).length≤10:=wR (by omega) (by decide)
theorem dec16 {n:Nat}(h:n<100):(Lib.decDigits n).length≤2:=wR (by omega) (by decide)
theorem qL {d:Int}(h:d.toNat<100):(rgB d).length≤3:=by
 have:=dec16 h;unfold rgB;rw[Jy];omega
theorem offB_len {n:Nat}(h:n<4294967296):(uO n).length≤11:=by
 unfold uO
 split
 ·have:=dec32 (n:=4294967296-n) (by omega);rw[Jy];omega
 ·have:=dec32 h;rw[Jy];omega
theorem sgnB_len7 {n:Nat}(h:n<4294967296):(uK n).length≤11:=by
 unfold uK
 split
 ·have:=dec32 (n:=4294967296-n) (by omega);rw[Jy];omega
 ·have:=dec32 h;omega
structure SmK (i:KI):Prop where
 d:i.d.toNat<100
 s:i.s.toNat<100
 x:i.index.toNat<100
 c:i.scale.toNat<4
 n:i.imm<4294967296
theorem vk_sm {i:KI}(h:VK i):SmK i:=by
 cases h
 case idx k d s n x hk hd hs hn hx =>
  cases x with
  | none=>exact⟨by show ((d:Nat):Int).toNat<_;omega,by show ((s:Nat):Int).toNat<_;omega,by show (-1:Int).toNat<100;decide,by show (0:Int).toNat<4;decide,hn⟩
  | some p =>
   have:=hx p rfl;exact⟨by show ((d:Nat):Int).toNat<_;omega,by show ((s:Nat):Int).toNat<_;omega,by show ((p.1:Nat):Int).toNat<_;omega,by show ((p.2:Nat):Int).toNat<_;omega,hn⟩
 all_goals exact⟨by dsimp only;omega,by dsimp only;omega,by dsimp only;omega,by dsimp only;omega,by dsimp only;omega⟩
theorem lnK_len {i:KI}(h:VK i) (a:Nat):(lnK i a).length≤50:=by
 obtain⟨h1,h2,h3,h4,h5⟩:=vk_sm h;have d1:=qL h1;have d2:=qL h2;have d3:=qL h3
 have d4:(Lib.decDigits (2 ^ i.scale.toNat)).length≤2:=dec16 (by
  have:2 ^ i.scale.toNat≤2 ^ 3:=Nat.pow_le_pow_right (by omega) (by omega)
  omega)
 have d5:=sgnB_len7 h5;have d6:=offB_len h5;have d7:=dec32 h5;have d8:(Lib.decDigits (toK i a)).length≤10:=dec32 (Nat.mod_lt _ (by omega));have d9:=dec16 h2;have e1:=getD_len (l:=noneL) (k:=5) (by decide);have e2:=getD_len (l:=singL) (k:=5) (by decide);have e3:=getD_len (l:=ariL) (k:=5) (by decide);have e4:=getD_len (l:=accL) (k:=5) (by decide);have e5:=getD_len (l:=vG) (k:=5) (by decide);have f1:=e1 i.op.toNat;have f2:=e2 (i.op-16).toNat;have f3:=e3 (i.op-32).toNat;have f4:=e3 (i.op-48).toNat;have f5:=e3 (i.op-64).toNat;have f6:=e4 (i.op-80).toNat;have f7:=e4 (i.op-88).toNat;have f8:=e5 (i.op-96).toNat;unfold lnK
 have g:(if 0≤i.index then [43]++rgB i.index++[42]++Lib.decDigits (2 ^ i.scale.toNat) else ([]:Bs)).length≤7:=by
  split
  ·simp only[Jx,Jy,Jz];omega
  ·simp
 generalize (if 0≤i.index then [43]++rgB i.index++[42]++Lib.decDigits (2 ^ i.scale.toNat) else ([]:Bs))=gg at g ⊢;have hif:∀{p:Prop} [Decidable p] {x y:Bs},x.length≤50→y.length≤50→(if p then x else y).length≤50:=fun {p} _ {x y} h k=>by split<;>assumption
 refine hif ?_ (hif ?_ (hif ?_ (hif ?_ (hif ?_ (hif ?_ (hif ?_ (hif ?_ (hif ?_ (hif ?_ (hif ?_ (hif ?_ ?_)))))))))))
 all_goals first
 | omega
 | (simp only[Jx,Jy,Jz];omega)
theorem joB_len {k:Nat}:∀{l:List Bs},(∀x∈l,x.length≤k)→(joB l).length≤(k+2)*l.length
 | [],_=>Aa _
 | [x],h=>by
  have:=h x (by simp);show x.length≤(k+2)*1;omega
 | x::y::r,h=>by
  have h1:=h x (by simp);have ih:=joB_len (l:=y::r) fun z hz=>h z (Kv _ hz);have e:(k+2)*(x::y::r).length=(k+2)*(y::r).length+(k+2):=by rw[Jy,Nat.mul_succ]
  rw[joB,Jx,Jx,e]
  ·simp only[Jy,Jz] at ih ⊢;omega
  ·simp
structure SmQ (i:QI):Prop where
 d:i.d.toNat<100
 a:i.a.toNat<100
 b:i.b.toNat<100
 n:i.imm<4294967296
theorem vq_sm {i:QI}(h:VQ i):SmQ i:=by
 cases h
 all_goals exact⟨by dsimp only;omega,by dsimp only;omega,by dsimp only;omega,by dsimp only;omega⟩
theorem prtQ_len {i:QI}(h:SmQ i) (a:Nat) (c:UInt8) (k:Nat):(oO i a c k).length≤20:=by
 obtain⟨h1,h2,h3,h4⟩:=h;unfold oO
 split
 ·have:((qS i).getD k 0).toNat<100:=by
   unfold qS
   split
   ·match k with
    | 0=>exact h2
    | 1=>exact h3
    | k+2=>show (0:Int).toNat<100;decide
   ·match k with
    | 0=>exact h1
    | 1=>exact h2
    | 2=>exact h3
    | k+3=>show (0:Int).toNat<100;decide
  have:=qL this;omega
 ·split
  ·unfold sB;have d1:=dec32 (n:=(a+4*i.imm)%4294967296) (Nat.mod_lt _ (by omega));have d2:=dec32 h4;have d3:=sgnB_len7 h4
   split
   ·omega
   ·split<;>omega
  ·have d1:=qL h2;have d2:=offB_len h4;simp only[Jx,Jy,Jz];omega
theorem prtsQ_len {i:QI}(h:SmQ i) (a:Nat):∀(l:List UInt8) (k:Nat),(tD i a l k).length=l.length∧∀x∈tD i a l k,x.length≤20
 | [],_=>⟨rfl,fun _ h=>nomatch h⟩
 | c::l,k=>by
  obtain⟨h1,h2⟩:=prtsQ_len h a l (k+1);refine⟨by show _+1=_+1;rw[h1],fun x hx=>?_⟩;rcases List.mem_cons.1 hx with rfl|hx
  ·exact prtQ_len h a c k
  ·exact h2 x hx
theorem qnmL_len (op:Nat):(wC op).length≤5:=by
 unfold wC;have h:∀p∈rG,p.2.length≤5:=by decide
 cases hf:rG.find? (fun p=>Nat.beq p.1 op) with
 | none=>exact Aa _
 | some p=>exact h p (List.mem_of_find?_eq_some hf)
theorem shqL_lenZ (op:Nat):(wF op).length≤3:=by
 unfold wF
 repeat' split
 all_goals decide
theorem lnQ_len {i:QI}(h:VQ i) (a:Nat):(lnQ i a).length≤80:=by
 have hs:=vq_sm h;have d1:=qnmL_len i.op.toNat;have d2:=shqL_lenZ i.op.toNat;obtain⟨p1,p2⟩:=prtsQ_len hs a (wF i.op.toNat) 0;have d3:=joB_len p2;unfold lnQ
 split
 ·omega
 ·rw[p1] at d3;have:(20+2)*(wF i.op.toNat).length≤22*3:=Nat.mul_le_mul_left _ d2;simp only[Jx,Jy,Jz];omega
theorem bytB_len (b:Bs) (h:b.length≤4):(bytB b).length≤80:=by
 have:∀x∈b.map (fun c=>Lib.decDigits c.toNat),x.length≤10:=fun x hx=>by
  obtain⟨c,_,rfl⟩:=List.mem_map.1 hx;have:=UInt8.toNat_lt c;exact dec32 (by omega)
 have d:=joB_len this;rw[Ag] at d;unfold bytB;have:(10+2)*b.length≤12*4:=Nat.mul_le_mul_left _ h;simp only[Jx,Jy,Jz,qQ];omega
theorem nxt_len {kind:Int}{s:Bs}{a:Nat}:(nxtA kind s a).1.length≤80:=by
 unfold nxtA
 split
 ·cases hd:pM s with
  | none=>exact bytB_len _ (by rw[Kx];omega)
  | some i =>
   obtain⟨n,h1,h2,h3,h4⟩:=decK_some hd;have:=lnK_len (vK_of (decK_imm hd) (by rw[h4];rfl)) a;dsimp only;omega
 ·split
  ·next h4=>exact bytB_len _ (by omega)
  ·next h4 =>
   have hl:(s.take 4).length=4:=by rw[Kx];omega
   have hw:getL (s.take 4)<4294967296:=by have:=pC (s.take 4);rw[hl] at this;omega
   cases hd:decQ (getL (s.take 4)) with
   | none=>exact bytB_len _ (by rw[Kx];omega)
   | some i=>exact lnQ_len (vQ_of (decQ_imm hw hd) (by rw[oH hd];rfl)) a
theorem dis_len {kind:Int}(hk:kind=1∨kind=2) (org:Nat):∀(f:Nat) (s:Bs) (a:Nat),s.length≤f→(pU (disF kind org f s a)).length≤81*s.length
 | 0,s,a,h=>by rw[disF];exact Aa _
 | f+1,s,a,h=>by
  by_cases hs:s=[]
  ·rw[disF,Ae hs];exact Aa _
  ·obtain⟨h1,h2,_⟩:=nxt_it hk hs (a:=(org+a)%4294967296) (Nat.mod_lt _ (by omega));have h3:=nxt_len (kind:=kind) (s:=s) (a:=(org+a)%4294967296);rw[disF,Ad hs];generalize nxtA kind s ((org+a)%4294967296)=p at *;have ih:=dis_len hk org f (s.drop p.2) (a+p.2) (by rw[Ks];omega);rw[Ks] at ih;show (p.1++[10]++pU _).length≤_;rw[Jx,Jx];simp only[Jy,Jz];have:81*(s.length-p.2)+81*p.2=81*s.length:=by rw[← Nat.mul_add];congr 1;omega
   have:81*1≤81*p.2:=Nat.mul_le_mul_left _ h1;omega
end Go.Proofs.YtkaepknpplhgkaaGreatDoor
namespace Go.Proofs.YtkaepknpplhgkaaGreatDoor
open Go.RowKit Go.Sort
theorem yf_sliceArrHi {P:Program}{n:Fr}{m:List (Nat×Value)}{ty:TypeId}{H:World→Prop}{x hi:Operand}{t e:TypeId}{k:IntKind}{g o i size N:Nat}{j:Int}(hx:ev m x=some (.pointer (some ⟨g,o,none⟩))) (hh:ev m hi=some (.int k j)) (ht:P.underlying t=some (.array N e)) (hs':(P.info? e).map (·.size)=some size) (hj:j=i) (hi':i≤N) :
  YF P (.slice t x none (some hi) none) ty n m H (.slice (some ⟨g,o,none⟩) i N):=fun _ w d pos af gd hs hw=>by
 subst hj;simp[Yl,execOp,hs.ev hx,hs.ev hh,Instr.sliceAt,Instr.sureAddr,run_underlying ht,Instr.sliceBounds,Instr.sliceBound,asIntOf,uQ hs',Addr.add];intro hlt;omega
abbrev encB (b:UInt8):Value:=.int .u8 (b.toNat:Int)
theorem put_dec {u v':Nat}{dk:Array UInt8}(h:Lib.FmtInv (Lib.nDigits u) u 0 v' dk) (hn:Lib.nDigits u≤24):putCells encB 0 dk (List.replicate 24 (Value.int .u8 0)).toArray=((Lib.decDigits u).map encB++List.replicate (24-Lib.nDigits u) (Value.int .u8 0)).toArray:=by
 have hl:=Lib.decDigits_length u;have hs:=h.size;apply Array.ext
 ·simp[putCells,hl];omega
 ·intro j h1 h2;have hj:j<24:=by simpa [putCells] using h1
  simp only[putCells,Array.getElem_mapIdx,Aa,true_and,Kz,Nat.sub_zero,List.getElem_toArray]
  by_cases hjn:j<Lib.nDigits u
  ·rw[Ae (by omega),List.getElem_append_left (by simp[hl];omega),List.getElem_map,Lib.row_is_numeral h j (by omega)]
  ·rw[Ad (by omega),List.getElem_append_right (by simp[hl];omega),List.getElem_replicate,List.getElem_replicate]
theorem fmt10_turn (u:Nat) (hu:u<18446744073709551616) (g T:Nat) (w:World) (hg:w.heap[g]? = some (bk T (List.replicate 24 (Value.int .u8 0)))) (hn:Lib.nDigits u≤20) :
  Calls Tryz.prog 235 #[.slice (some ⟨g,0,none⟩) (Lib.nDigits u) 24,.int .u64 u] w fun e w'=>e=.returned (.tuple #[])∧Keep (fun j=>j=g) w w'∧w'.heap[g]? = some (bk T ((Lib.decDigits u).map encB++List.replicate (24-Lib.nDigits u) (.int .u8 0))):=by
 have hH:Holds encB w g 0 (Array.replicate (Lib.nDigits u) 0):=fun j hj=>by
  have hj':j<Lib.nDigits u:=by simpa using hj
  refine⟨?_,Lib.frozen_of_heap hg _⟩;rw[cell_of_row w g _ _ _ _ hg,Kz,List.getElem?_toArray,List.getElem?_replicate,Ae (by omega)];have e:(Array.replicate (Lib.nDigits u) (0:UInt8))[j]! = 0:=by rw[getElem!_pos (Array.replicate (Lib.nDigits u) (0:UInt8)) j hj,Array.getElem_replicate]
  rw[e];rfl
 have:=Tryz.internal_strconv_formatBase10 g 0 24 u (Array.replicate (Lib.nDigits u) 0) w hH (by rw[Array.size_replicate];exact Lib.lt_pow_nDigits u) hu (by rw[Array.size_replicate];omega)
 rw[Array.size_replicate] at this;refine this.mono ?_
 rintro e w' ⟨rfl,k,v',dk,rfl,hF⟩
 have hh:((putRow encB w g 0 dk).drewN k).heap=w.heap.modify g (onCells (putCells encB 0 dk)):=rfl;refine⟨rfl,⟨rfl,rfl,rfl,?_,?_⟩,?_⟩
 ·rw[hh];simp
 ·intro j _ hj;rw[hh,Array.getElem?_modify,Ad (fun e=>hj e.symm)]
 ·rw[hh,Array.getElem?_modify,Ae rfl,hg];show some (Obj.cells (putCells encB 0 dk (List.replicate 24 (Value.int .u8 0)).toArray) T (0,0))=_;rw[put_dec hF (by omega)]
theorem nd_le {u:Nat}(h:u<18446744073709551616):Lib.nDigits u≤20:=by
 rw[← Lib.decDigits_length];exact wR (by omega) (by decide)
theorem fu10_any (u:Nat) (hu:u<4294967296) (w_0:World) (hT:TbN w_0):Calls Tryz.prog 206 #[.int .u64 u,.int .i64 10] w_0 fun e w'=>e=.returned (.string ⟨(Lib.decDigits u).toArray⟩)∧Ext w_0 w':=by
 have hnd:=nd_le (u:=u) (by omega);refine zH (args:=[.int .u64 u,.int .i64 10]) Tryz.func206 M 32 M (Kc M)<|Z2 0 1 M M<|zR (H':=Hp (fun _=>False) w_0 [] [] (fun _=>True)) (fun u hu=>?_) ?_
 ·subst hu;exact Hp.start0
 refine zX<|zZ<|Za M M<|ZX<|zX<|zZ<|Zm M M<|ZF M (yY M M)<|ZT<|zW M (fun hc=>?_) (fun hc=>?_)
 ·replace hc:=Km hc;refine zX<|zX<|Z4r 0 1 4 10 M M M M<|Zm M M<|ZF M (yB M M)<|ZT<|zW M (fun hc=>?_) (fun hc=>?_)
  ·replace hc:=Ke hc;refine zX<|Z5r 0 1 4 10 12 M M M M M<|Zm M M ?_
   refine ZF M (yQ M (by kernel_rfl) U3 (i64_in _ (by omega) (by omega))) ?_
   refine zE .none M (by kernel_rfl) M (fun w hw=>(Tryz.internal_strconv_small u (by omega) w).mono fun e w' ⟨h1,h2⟩=>⟨h1,by subst h2;exact Ext.refl _⟩) ?_
   refine Za M M<|ZT<|zQ<|zT<|zT<|zO M M (fun w hw=>?_);exact⟨rfl,hw.ext0⟩
  ·replace hc:=Kf hc;refine zL<|zP<|zX<|Z5r 0 1 4 10 12 M M M M M<|zC .none M (yS (z:=.agg #[.int .u8 0,.int .u8 0,.int .u8 0,.int .u8 0,.int .u8 0,.int .u8 0,.int .u8 0,.int .u8 0,.int .u8 0,.int .u8 0,.int .u8 0,.int .u8 0,.int .u8 0,.int .u8 0,.int .u8 0,.int .u8 0,.int .u8 0,.int .u8 0,.int .u8 0,.int .u8 0,.int .u8 0,.int .u8 0,.int .u8 0,.int .u8 0]) (cs:=[.int .u8 0,.int .u8 0,.int .u8 0,.int .u8 0,.int .u8 0,.int .u8 0,.int .u8 0,.int .u8 0,.int .u8 0,.int .u8 0,.int .u8 0,.int .u8 0,.int .u8 0,.int .u8 0,.int .u8 0,.int .u8 0,.int .u8 0,.int .u8 0,.int .u8 0,.int .u8 0,.int .u8 0,.int .u8 0,.int .u8 0,.int .u8 0]) (by kernel_rfl) M) (fun b5=>?_);refine ZX<|zZ<|Zm M M ?_
   refine zE .none M (by kernel_rfl) M (fun w hw=>(Tryz.internal_strconv_numDigits u (by omega) (by omega) w (hT.ext hw.ext0)).mono fun e w' ⟨h1,h2⟩=>⟨h1,by subst h2;exact Ext.refl _⟩) ?_
   refine Za M M<|ZX<|Z7r 0 1 4 5 6 10 12 M M M M M M M<|Zm M M<|ZF M (yf_sliceArrHi (size:=1) M M Tryz.underlying259 (by kernel_rfl) M (by omega)) ?_;refine Zm M M<|xK (ι:=Unit) (val:=fun _=>.tuple #[]) (H':=fun _=>Hp (fun _=>False) w_0 [(b5,bk 259 ((Lib.decDigits u).map encB++List.replicate (24-Lib.nDigits u) (.int .u8 0)))] [] (fun _=>True)) .none M  (tL (by kernel_rfl) M (fun w hw=>(fmt10_turn u (by omega) b5 259 w (HpG.own hw _ (List.mem_singleton_self _)) hnd).mono fun e w' ⟨e1,e2,e3⟩=>⟨_,e1,(),rfl,HpG.turn hw (k:=0) M e2 e3⟩)) (fun _=>?_);refine ZX<|Z7r 0 1 4 5 6 10 12 M M M M M M M<|Zm M M<|ZF M (yf_sliceArrHi (size:=1) M M Tryz.underlying259 (by kernel_rfl) M (by omega)) ?_
   refine ZF M (tG 0 (Lib.decDigits u) M M Tryz.underlying53 Tryz.underlying5 Tryz.underlying9 (Lib.decDigits_length u) (fun j hj=>by rw[Kz,List.getElem?_append_left (by rw[Ag];exact hj),List.getElem?_map,Kj hj];rfl)) ?_
   refine Za M M<|ZT<|zQ<|zT<|zO M M (fun w hw=>?_);exact⟨rfl,hw.ext0⟩
 ·replace hc:=yR hc;exact absurd M hc
theorem sfu_any (u:Nat) (hu:u<4294967296) (w_0:World) (hT:TbN w_0):Calls Tryz.prog 152 #[.int .u64 u,.int .i64 10] w_0 fun e w'=>e=.returned (.string ⟨(Lib.decDigits u).toArray⟩)∧Ext w_0 w':=by
 refine zH (args:=[.int .u64 u,.int .i64 10]) Tryz.func152 M 8 M (Kc M)<|Z2 0 1 M M<|zR (H':=Hp (fun _=>False) w_0 [] [] (fun _=>True)) (fun u hu=>?_) ?_
 ·subst hu;exact Hp.start0
 refine zX<|zZ<|Za M M<|ZX<|zZ<|Zm M M<|Zm M M<|zE .none M (by kernel_rfl) M (fun w hw=>fu10_any u hu w (hT.ext hw.ext0)) ?_;refine Za M M<|ZT<|zQ<|zO M M (fun w hw=>?_);exact⟨rfl,hw.ext0⟩
theorem sC (n:Int) (h0:-9223372036854775808≤n) (h1:n≤9223372036854775807) (w:World) (hT:TbN w):Calls Tryz.prog 68 #[.int .i64 n] w fun e w'=>e=.returned (.string ⟨(Lib.itoa n).toArray⟩)∧Ext w w' :=
 (Tryz.strconv_Itoa n h0 h1 w hT).mono fun e w' ⟨e1,k,os,e2⟩=>⟨e1,by subst e2;exact Lib.below_grow _ w (Ab _) k os⟩
theorem uR (n:Nat) (hn:n<4294967296) (w_0:World) (hT:TbN w_0):Calls Tryz.prog 70 #[.int .u32 n] w_0 fun e w'=>e=.returned (.string ⟨(Lib.decDigits n).toArray⟩)∧Ext w_0 w':=by
 refine zH (args:=[.int .u32 n]) Tryz.func70 M 6 M (Kc M)<|Z1 0 M<|zR (H':=Hp (fun _=>False) w_0 [] [] (fun _=>True)) (fun u hu=>?_) ?_
 ·subst hu;exact Hp.start0
 refine zX<|zZ<|Za M M<|ZX<|zZ<|Zm M M ?_
 refine ZF M (yQ M (by kernel_rfl) Tryz.underlying210 (u64_in _ (by omega) (by omega))) ?_
 refine zE .none M (by kernel_rfl) M (fun w hw=>sfu_any n hn w (hT.ext hw.ext0)) ?_;refine Za M M<|ZT<|zQ<|zO M M (fun w hw=>?_);exact⟨rfl,hw.ext0⟩
theorem sgn_i32 (n:Nat) (hn:n<4294967296):IntKind.i32.wrap (n:Int)=tE n:=by
 simp only[IntKind.wrap,IntKind.bits,IntKind.signed];unfold tE;simp
 split<;>omega
theorem itoa_sgn (n:Nat) (hn:n<4294967296):Lib.itoa (tE n)=uK n:=by
 unfold tE uK Lib.itoa
 by_cases h:n<2147483648
 ·rw[Ae h,Ad (by omega),Ad (by omega),Int.toNat_natCast]
 ·rw[Ad h,Ae (by omega),Ae (by omega)];congr 2;omega
theorem sgnI_rng (n:Nat) (hn:n<4294967296):-2147483648≤tE n∧tE n≤2147483647:=by unfold tE;split<;>omega
theorem pG (n:Nat) (hn:n<4294967296) (w_0:World) (hT:TbN w_0):Calls Tryz.prog 65 #[.int .u32 n] w_0 fun e w'=>e=.returned (.string ⟨(uK n).toArray⟩)∧Ext w_0 w':=by
 have hr:=sgnI_rng n hn;refine zH (args:=[.int .u32 n]) Tryz.func65 M 7 M (Kc M)<|Z1 0 M<|zR (H':=Hp (fun _=>False) w_0 [] [] (fun _=>True)) (fun u hu=>?_) ?_
 ·subst hu;exact Hp.start0
 refine zX<|zZ<|Za M M<|ZX<|zZ<|Zm M M ?_
 refine ZF M (yQ M (by kernel_rfl) U21 (sgn_i32 n hn)) ?_
 refine ZF M (yQ M (by kernel_rfl) U3 (i64_in _ (by omega) (by omega))) ?_
 refine zE .none M (v:=.string ⟨(uK n).toArray⟩) (by kernel_rfl) M (fun w hw=>by rw[← itoa_sgn n hn];exact sC (tE n) (by omega) (by omega) w (hT.ext hw.ext0)) ?_;refine Za M M<|ZT<|zQ<|zO M M (fun w hw=>?_);exact⟨rfl,hw.ext0⟩
theorem offset_any (n:Nat) (hn:n<4294967296) (w_0:World) (hT:TbN w_0):Calls Tryz.prog 67 #[.int .u32 n] w_0 fun e w'=>e=.returned (.string ⟨(uO n).toArray⟩)∧Ext w_0 w':=by
 have hln:(Lib.decDigits n).length≤10:=wR (k:=10) (by omega) (by decide);refine zH (args:=[.int .u32 n]) Tryz.func67 M 11 M (Kc M)<|Z1 0 M<|zR (H':=Hp (fun _=>False) w_0 [] [] (fun _=>True)) (fun u hu=>?_) ?_
 ·subst hu;exact Hp.start0
 refine zX<|zZ<|Za M M<|ZX<|zX<|zZ<|Zm M M ?_
 refine ZF M (yQ M (by kernel_rfl) U21 (sgn_i32 n hn)) ?_
 refine ZF M (yB M M)<|ZT<|zW M (fun h5=>?_) (fun h5=>?_)
 ·replace h5:=Ke h5;refine zX<|Z3r 0 2 5 M M M<|Zm M M<|zE .none M (by kernel_rfl) M (fun w hw=>pG n hn w (hT.ext hw.ext0)) ?_;refine Za M M<|ZT<|zQ<|zT<|zO M M (fun w hw=>?_);exact⟨by unfold tE at h5;unfold uO uK;rw[Ae (by split at h5<;>omega),Ae (by split at h5<;>omega)],hw.ext0⟩
 ·replace h5:=Kf h5;refine zL<|zP<|zX<|Z3r 0 2 5 M M M<|Zm M M<|zE .none M (by kernel_rfl) M (fun w hw=>uR n hn w (hT.ext hw.ext0)) ?_;refine ZF M (zN M M (by (rw[show ([43]:Bs).length=1 from rfl];omega))) ?_;refine Za M M<|ZT<|zQ<|zO M M (fun w hw=>?_);exact⟨by unfold tE at h5;unfold uO;rw[Ad (by split at h5<;>omega)];rfl,hw.ext0⟩
theorem qA (n:Int) (h0:0≤n) (h1:n≤9223372036854775807) (w_0:World) (hT:TbN w_0):Calls Tryz.prog 60 #[.int .i64 n] w_0 fun e w'=>e=.returned (.string ⟨(rgB n).toArray⟩)∧Ext w_0 w':=by
 have hi:Lib.itoa n=Lib.decDigits n.toNat:=Ad (by omega);have hln:(Lib.decDigits n.toNat).length≤19:=wR (k:=19) (by omega) (by decide);refine zH (args:=[.int .i64 n]) Tryz.func60 M 6 M (Kc M)<|Z1 0 M<|zR (H':=Hp (fun _=>False) w_0 [] [] (fun _=>True)) (fun u hu=>?_) ?_
 ·subst hu;exact Hp.start0
 refine zX<|zZ<|Za M M<|ZX<|zZ<|Zm M M<|zE .none M (v:=.string ⟨(Lib.decDigits n.toNat).toArray⟩) (by kernel_rfl) M (fun w hw=>by rw[← hi];exact sC n (by omega) h1 w (hT.ext hw.ext0)) ?_;refine ZF M (zN M M (by (rw[show ([114]:Bs).length=1 from rfl];omega))) ?_;refine Za M M<|ZT<|zQ<|zO M M (fun w hw=>?_);exact⟨rfl,hw.ext0⟩
end Go.Proofs.YtkaepknpplhgkaaGreatDoor
namespace Go.Proofs.YtkaepknpplhgkaaGreatDoor
open Go.RowKit
theorem AsT.ext' {w w':World}(h:AsT w) (hx:Ext w w'):AsT w':=h.foot (Below.block hx _ h.lt)
theorem vE {g k:Nat}{l:List Bs}{w:World}(h:Blk g (vY l) w) (hk:k<l.length):w.cell? ⟨g,0+k*1,none⟩=some (.string ⟨(l.getD k []).toArray⟩):=by
 refine Blk.cell h ?_;rw[List.getElem?_map,show 0+k*1=k by omega,Kj hk,Kq,Kj hk];rfl
theorem nm_ln {l:List Bs}{m:Nat}(h:(l.all fun x=>decide (x.length≤m))=true) (k:Nat):(l.getD k []).length≤m:=by
 rw[Kq]
 cases e:l[k]? with
 | none=>exact Aa _
 | some x=>exact Ke (List.all_eq_true.1 h x (Kk e))
theorem target_any (i:KI) (hi:i.imm<4294967296) (hv:wP i=true) (hz:0≤i.size∧i.size≤7) (a:Nat) (ha:a<4294967296) (w_0:World):Calls Tryz.prog 61 #[.agg (kiC i).toArray,.int .u32 a] w_0 fun e w'=>e=.returned (.tuple #[.int .u32 ((if (96≤i.op∧i.op≤109)∨(112≤i.op∧i.op≤113) then toK i a else 0:Nat):Int),.bool (decide ((96≤i.op∧i.op≤109)∨(112≤i.op∧i.op≤113)))])∧Ext w_0 w':=by
 have hin:inB i.op [(96,109),(112,113)]=decide ((96≤i.op∧i.op≤109)∨(112≤i.op∧i.op≤113)):=by
  rw[Ka,decide_eq_true_iff];simp[inB]
 refine zH (args:=[.agg (kiC i).toArray,.int .u32 a]) Tryz.func61 M 26 M (Kc M)<|Z2 0 1 M M<|zR (H':=Hp (fun _=>False) w_0 [] [] (fun _=>True)) (fun u hu=>?_) ?_
 ·subst hu;exact Hp.start0
 refine zX<|zZ<|zC .none M (yF M M) (fun b2=>?_);refine Za M M<|Za M M<|ZX<|zX<|zZ<|ZF M (yU 0 M M U35 M (by kernel_rfl)) ?_;refine zE .none M  (v:=.bool true) (by kernel_rfl) M (fun w hw=>(qF i hi w).mono fun e w' ⟨h1,h2⟩=>⟨by rw[h1,hv],h2⟩) ?_;refine ZF M (xF M)<|Zm M M<|zF 9 M (fun hb=>?_) (fun hb=>?_)
 ·cases hb
 ·refine ZG M M M (Y35x0 M) ?_;refine ZG M M M (zV 0 M M M U3 M)<|ZG M M M (wT (cells:=#[.int .i64 96,.int .i64 109]) M (by kernel_rfl)) ?_;refine ZG M M M (wT (cells:=#[.int .i64 112,.int .i64 113]) M (by kernel_rfl)) ?_;refine zC (.some M M) M (nf_bs2 (z:=Jb) M M M M U231 (by kernel_rfl) (by kernel_rfl) M M M) (fun b14=>?_);refine zE (.some M M) M  (v:=.bool (inB i.op [(96,109),(112,113)])) (by kernel_rfl) M (fun w hw=>within_any i.op [(96,109),(112,113)] (by decide) b14 w (HpG.blkL hw (j:=0) M)) ?_;refine ZG M M M (xF M)<|ZF M (zM M M)<|ZT<|zW M (fun h17=>?_) (fun h17=>?_)
  ·refine zX<|Z6r 0 1 2 4 5 17 M M M M M M<|Za M M<|Za M M<|ZT<|zQ<|zT<|uU M M M (fun w hw=>?_);have h9:inB i.op [(96,109),(112,113)]=false:=by simpa using h17
   rw[hin] at h9;exact⟨by rw[Ad (Kf h9),h9];rfl,hw.ext0⟩
  ·refine zL<|zP<|zX<|Z6r 0 1 2 4 5 17 M M M M M M<|Zm M M<|ZF M (Y35x6 M) ?_;refine ZF M (zV 1 M M M U3 M) ?_
   refine ZF M (yQ M (by kernel_rfl) U22 (sQ _ (by omega) (by omega))) ?_
   refine ZF M (yO M M M)<|ZF M (Y35x5 M) ?_;refine ZF M (zV 1 M M M U22 M)<|ZF M (yO M M M)<|Za M M<|Za M M<|ZT<|zQ<|uU M M M (fun w hw=>?_);have h9:inB i.op [(96,109),(112,113)]=true:=by simpa using h17
   rw[hin] at h9
   have e:IntKind.u32.wrap (IntKind.u32.wrap ((a:Int)+i.size)+(i.imm:Int))=(((a+i.size.toNat+i.imm)%4294967296:Nat):Int):=by
    have e2:IntKind.u32.wrap ((a:Int)+i.size)=((a:Int)+i.size)%4294967296:=rfl;have e3:∀z:Int,IntKind.u32.wrap z=z%4294967296:=fun _=>rfl;rw[e3,e3];omega
   exact⟨by rw[Ae (Ke h9),h9];unfold toK;rw[← e],hw.ext0⟩
theorem vk_rng {i:KI}(h:VK i):(0≤i.op∧i.op≤4∨16≤i.op∧i.op≤21∨32≤i.op∧i.op≤46∨48≤i.op∧i.op≤62∨64≤i.op∧i.op≤78∨80≤i.op∧i.op≤86∨88≤i.op∧i.op≤94∨96≤i.op∧i.op≤109∨112≤i.op∧i.op≤113∨128≤i.op∧i.op≤130)∧(0≤i.d∧i.d<8)∧(0≤i.s∧i.s<8)∧(-1≤i.index∧i.index<8)∧(0≤i.scale∧i.scale≤3)∧(0≤i.size∧i.size≤7):=by
 cases h with
 | idx k d s n x hk hd hs hn hx =>
  have h1:-1≤idxV x∧idxV x<8:=by
   cases x with
   | none=>exact⟨by decide,by decide⟩
   | some p=>have:=(hx p rfl).1;show -1≤(p.1:Int)∧(p.1:Int)<8;omega
  have h2:0≤scaV x∧scaV x≤3:=by
   cases x with
   | none=>exact⟨by decide,by decide⟩
   | some p=>have:=(hx p rfl).2;show 0≤(p.2:Int)∧(p.2:Int)≤3;omega
  dsimp only;omega
 | _=>dsimp only;omega
theorem rgB_ln {n:Int}(h0:0≤n) (h8:n<8):(rgB n).length≤2:=by
 have:(Lib.decDigits n.toNat).length≤1:=wR (k:=1) (by omega) (by decide);show (Lib.decDigits n.toNat).length+1≤2;omega
theorem pow_sh {n:Int}(h0:0≤n) (h3:n≤3):IntKind.i64.wrap (1*2 ^ (min n.toNat IntKind.i64.bits))=((2 ^ n.toNat:Nat):Int):=by
 have:n=0∨n=1∨n=2∨n=3:=by omega
 rcases this with rfl|rfl|rfl|rfl<;>rfl
theorem itoa_pow {n:Int}(h0:0≤n) (h3:n≤3) (w:World) (hT:TbN w):Calls Tryz.prog 68 #[.int .i64 ((2 ^ n.toNat:Nat):Int)] w fun e w'=>e=.returned (.string ⟨(Lib.decDigits (2 ^ n.toNat)).toArray⟩)∧Ext w w':=by
 have:n=0∨n=1∨n=2∨n=3:=by omega
 rcases this with rfl|rfl|rfl|rfl
 ·exact sC 1 (by decide) (by decide) w hT
 ·exact sC 2 (by decide) (by decide) w hT
 ·exact sC 4 (by decide) (by decide) w hT
 ·exact sC 8 (by decide) (by decide) w hT
def lnV (i:KI) (a:Nat):Bs:=if wP i=true then lnK i a else []
theorem lineK_any (i:KI) (hi:i.imm<4294967296) (a:Nat) (ha:a<4294967296) (w_0:World) (hK:WOk w_0):Calls Tryz.prog 29 #[.agg (kiC i).toArray,.int .u32 a] w_0 fun e w'=>e=.returned (.string ⟨(lnV i a).toArray⟩)∧Ext w_0 w':=by
 unfold lnV
 cases hv:wP i with
 | false =>
  refine zH (args:=[.agg (kiC i).toArray,.int .u32 a]) Tryz.func29 M 195 M (Kc M)<|Z2 0 1 M M<|zR (H':=Hp (fun _=>False) w_0 [] [] (fun _=>True)) (fun u hu=>?_) ?_
  ·subst hu;exact Hp.start0
  refine zX<|zZ<|zC .none M (yF M M) (fun b2=>?_);refine Za M M<|ZX<|zX<|zZ<|ZF M (yU 0 M M U35 M (by kernel_rfl)) ?_;refine zE .none M  (v:=.bool false) (by kernel_rfl) M (fun w hw=>(qF i hi w).mono fun e w' ⟨h1,h2⟩=>⟨by rw[h1,hv],h2⟩) ?_;refine ZF M (xF M)<|ZT<|zW M (fun hc=>?_) (fun hc=>?_)
  ·refine zX<|Z5r 0 1 2 4 12 M M M M M<|Za M M<|ZT<|zQ<|zT<|zO M M (fun w hw=>?_);exact⟨rfl,hw.ext0⟩
  ·cases hc
 | true =>
  have hvk:=vK_of hi hv;obtain⟨hop,⟨hd0,hd8⟩,⟨hs0,hs8⟩,⟨hx0,hx8⟩,⟨hc0,hc3⟩,hz⟩:=vk_rng hvk;have hdl:=rgB_ln hd0 hd8;have hsl:=rgB_ln hs0 hs8;have hil:=sgnB_len hi
  have hol:(uO i.imm).length≤11:=by
   have h1:(Lib.decDigits i.imm).length≤10:=wR (k:=10) (by omega) (by decide);have h2:(Lib.decDigits (4294967296-i.imm)).length≤10:=wR (k:=10) (by omega) (by decide);unfold uO
   split<;>rw[Jy]<;>omega
  have hal:=fun k=>nm_ln (l:=ariL) (m:=5) (by decide) k;have hcl:=fun k=>nm_ln (l:=accL) (m:=5) (by decide) k;have ha32:=hal (i.op-32).toNat;have ha48:=hal (i.op-48).toNat;have ha64:=hal (i.op-64).toNat;have hc80:=hcl (i.op-80).toNat;have hc88:=hcl (i.op-88).toNat;have hsg:=nm_ln (l:=singL) (m:=5) (by decide) (i.op-16).toNat;have hcd:=nm_ln (l:=vG) (m:=5) (by decide) (i.op-96).toNat;have htk:toK i a<4294967296:=Nat.mod_lt _ (by decide);have htl:(Lib.decDigits (toK i a)).length≤10:=wR (k:=10) (by omega) (by decide);have hml:(Lib.decDigits i.imm).length≤10:=wR (k:=10) (by omega) (by decide);have hsd:Lib.itoa i.s=Lib.decDigits i.s.toNat:=Ad (by omega);have hsdl:(Lib.decDigits i.s.toNat).length≤1:=wR (k:=1) (by omega) (by decide);obtain⟨X,hX⟩:∃X:Bs,X=if 0≤i.index then [43]++rgB i.index++[42]++Lib.decDigits (2 ^ i.scale.toNat) else []:=⟨_,rfl⟩
  have hpl:(Lib.decDigits (2 ^ i.scale.toNat)).length≤1:=by
   have:i.scale=0∨i.scale=1∨i.scale=2∨i.scale=3:=by omega
   rcases this with e|e|e|e<;>rw[e]<;>exact wR (k:=1) (by decide) (by decide)
  have hxl:X.length≤10:=by
   rw[hX]
   split
   ·have:=rgB_ln (n:=i.index) (by omega) hx8;simp only[Jx,Jy,Jz];omega
   ·exact Aa _
  rw[Ae rfl];refine zH (args:=[.agg (kiC i).toArray,.int .u32 a]) Tryz.func29 M 195 M (Kc M)<|Z2 0 1 M M<|zR (H':=Hp (fun _=>False) w_0 [] [] (fun _=>True)) (fun u hu=>?_) ?_
  ·subst hu;exact Hp.start0
  refine zX<|zZ<|zC .none M (yF M M) (fun b2=>?_);refine Za M M<|ZX<|zX<|zZ<|ZF M (yU 0 M M U35 M (by kernel_rfl)) ?_;refine zE .none M  (v:=.bool true) (by kernel_rfl) M (fun w hw=>(qF i hi w).mono fun e w' ⟨h1,h2⟩=>⟨by rw[h1,hv],h2⟩) ?_;refine ZF M (xF M)<|ZT<|zW M (fun hc=>?_) (fun hc=>?_)
  ·cases hc
  ·refine zL<|zP<|zX<|Z5r 0 1 2 4 12 M M M M M<|ZF M (Y35x1 M) ?_;refine ZF M (zV 0 M M M U3 M)<|zE .none M  (v:=.string ⟨(rgB i.d).toArray⟩) (by kernel_rfl) M (fun w hw=>qA i.d hd0 (by omega) w (hK.tb.ext hw.ext0)) ?_;refine uT .none M  (v:=.string ⟨(32::rgB i.d).toArray⟩) (zN (a:=[32]) M M ?_) ?_
   ·show 1+(rgB i.d).length≤_;omega
   refine Za M M<|ZX<|Z6r 0 1 2 4 5 12 M M M M M M<|ZF M (yU 0 M M U35 M (by kernel_rfl)) ?_;refine Zm M M<|zE .none M  (by kernel_rfl) M (fun w hw=>target_any i hi hv hz a ha w) ?_;refine Zm M M<|ZF M (yX M M)<|ZF M (yX M M)<|Za M M<|Za M M<|ZX<|zX<|Z7r 0 1 2 4 5 6 12 M M M M M M M<|ZF M (Y35x0 M) ?_;refine ZF M (zV 0 M M M U3 M)<|Za M M<|ZT<|yV<|zX<|Z8r 0 1 2 4 5 6 8 12 M M M M M M M M<|Zm M M<|ZF M (xL M M)<|Za M M<|ZT<|zW M (fun h25=>?_) (fun h25=>?_)
   ·replace h25:=Ke h25;refine zX<|Z9r 0 1 2 4 5 6 8 12 25 M M M M M M M M M<|yG (ι:=Nat) (C:=fun _=>True) (val:=fun b=>.slice (some ⟨b,0,none⟩) 5 5) (TT:=fun b=>Bl7 b (vY noneL)) .none M  (by kernel_rfl) M (fun _ h=>h.elim) (fun _=>Bl7.lies) (fun w hw=>none_nm w (hK.sp.ext' hw.ext0)) (fun bn Fn _ hFn=>?_);refine Zm M M<|ZF M (zA (j:=i.op.toNat) (es:=1) M M Tryz.underlying59 (by kernel_rfl) (Ao (by omega)).symm (by omega) M) ?_;refine ZF M (zD M U9 M (fun w hw=>vE (HpG.x hw).1.2 (show i.op.toNat<5 by omega))) ?_;refine Za M M<|ZT<|zQ<|yZ<|zT<|zO M M (fun w hw=>?_);exact⟨by unfold lnK;rw[Ae (by omega)],hw.ext0⟩
   ·replace h25:=Kf h25;refine zX<|Z9r 0 1 2 4 5 6 8 12 25 M M M M M M M M M<|Zm M M<|ZF M (xL M M)<|Za M M<|ZT<|zW M (fun h32=>?_) (fun h32=>?_)
    ·replace h32:=Ke h32;refine zX<|Z10r 0 1 2 4 5 6 8 12 25 32 M M M M M M M M M M<|yG (ι:=Nat) (C:=fun _=>True) (val:=fun b=>.slice (some ⟨b,0,none⟩) 6 6) (TT:=fun b=>Bl7 b (vY singL)) .none M  (by kernel_rfl) M (fun _ h=>h.elim) (fun _=>Bl7.lies) (fun w hw=>single_nm w (hK.sp.ext' hw.ext0)) (fun bn Fn _ hFn=>?_);refine Zm M M<|ZF M (xV M M (i64_in _ (by omega) (by omega))) ?_;refine ZF M (zA (j:=(i.op-16).toNat) (es:=1) M M Tryz.underlying59 (by kernel_rfl) (Ao (by omega)).symm (by omega) M) ?_;refine ZF M (zD M U9 M (fun w hw=>vE (HpG.x hw).1.2 (show (i.op-16).toNat<6 by omega))) ?_;refine Zm M M<|ZF M (zN M M (by (show _+(rgB i.d).length.succ≤_;omega))) ?_;refine Za M M<|ZT<|zQ<|yZ<|zT<|zO M M (fun w hw=>?_);exact⟨by unfold lnK;rw[Ad (by omega),Ae (by omega)],hw.ext0⟩
    ·replace h32:=Kf h32;refine zX<|Z10r 0 1 2 4 5 6 8 12 25 32 M M M M M M M M M M<|Zm M M<|ZF M (xL M M)<|Za M M<|ZT<|zW M (fun h42=>?_) (fun h42=>?_)
     ·replace h42:=Ke h42;refine zX<|Z11 0 1 2 4 5 6 8 12 25 32 42 M M M M M M M M M M M<|wX (γ:=Nat) [(2,.pointer (some ⟨b2,0,none⟩)),(5,.string ⟨(32::rgB i.d).toArray⟩),(8,.int .i64 i.op)] [(0,45,fun g=>.slice (some ⟨g,0,none⟩) 15 15),(1,46,fun g=>.int .i64 i.op),(2,47,fun g=>.int .i64 (i.op-32)),(3,48,fun g=>.pointer (some ⟨g,0+(i.op-32).toNat*1,none⟩)),(4,49,fun g=>.string ⟨(ariL.getD (i.op-32).toNat []).toArray⟩),(5,50,fun g=>.string ⟨(32::rgB i.d).toArray⟩),(6,51,fun g=>.string ⟨((ariL.getD (i.op-32).toNat [])++(32::rgB i.d)).toArray⟩),(7,52,fun g=>.string ⟨(((ariL.getD (i.op-32).toNat [])++(32::rgB i.d))++([44,32]:Bs)).toArray⟩),(8,53,fun g=>.pointer (some ⟨b2,0+2,none⟩)),(9,54,fun g=>.int .i64 i.s),(10,55,fun g=>.string ⟨(rgB i.s).toArray⟩),(11,56,fun g=>.string ⟨((((ariL.getD (i.op-32).toNat [])++(32::rgB i.d))++([44,32]:Bs))++rgB i.s).toArray⟩),(12,4,fun g=>.string ⟨((((ariL.getD (i.op-32).toNat [])++(32::rgB i.d))++([44,32]:Bs))++rgB i.s).toArray⟩)] (fun D g=>fun w=>Hp (fun _=>False) w_0 [(b2,kiO i)] [] (fun _=>True) w∧(D 0=true→Blk g (vY ariL) w)∧(D 3=true→D 0=true)) [[],[],[1],[0,2],[3],[],[4,5],[6],[],[8],[9],[7,10],[11]] 0 (by kernel_rfl) (by kernel_rfl) (by kernel_rfl) (O3 M M M) (fun D w h hw=>⟨Hp.drew hw,(fun h0=>by rw[h 0 (by decide)] at h0;cases h0),(fun h0=>by rw[h 3 (by decide)] at h0;cases h0)⟩) ⟨?_,?_,?_,?_,?_,?_,?_,?_,?_,?_,?_,?_,?_,trivial⟩ (fun g=>?_)
      ·intro D g hD hd;refine uS (vs:=[]) (by kernel_rfl) M (fun w hw=>(arith_nm w (hK.sp.ext' (HpG.ext0 hw.1))).mono fun e w' ⟨b,_,e1,e2,e3⟩=>⟨_,e1,b,rfl,?_,HpG.onE hw.1 e2,fun _=>e3.2,fun _=>rfl⟩)
       repeat' (first|exact trivial|apply And.intro|(intro _;rfl)|(intro h;rw[hD] at h;cases h)|(intro h;have h9:=hw.2.2 h;rw[hD] at h9;cases h9))
      ·intro D g hD hd;refine zS (v:=.int .i64 i.op) ?_ M Jv;refine zK rfl
      ·intro D g hD hd;have hd1:D 1=true:=hd 1 (by simp)
       first|(refine zS (v:=.int .i64 (i.op-32)) ?_ rfl Jv;refine xV rfl rfl (i64_in _ ?_ ?_);(· omega);(· omega))|(refine zS (v:=.int .i64 (i.op-32)) ?_ rfl Jv;refine xV rfl rfl rfl)
      ·intro D g hD hd;have hd0:D 0=true:=hd 0 (by simp);have hd2:D 2=true:=hd 2 (by simp);refine zS (v:=.pointer (some ⟨g,0+(i.op-32).toNat*1,none⟩)) ?_ M (fun w h=>⟨h.1,h.2.1,fun _=>hd0⟩);refine zA (j:=(i.op-32).toNat) (es:=1) M M Tryz.underlying59 (by kernel_rfl) (Ao (by omega)).symm (by omega) rfl
      ·intro D g hD hd;have hd3:D 3=true:=hd 3 (by simp);refine zS (v:=.string ⟨(ariL.getD (i.op-32).toNat []).toArray⟩) ?_ M Jv;refine zD M U9 M (fun w hw=>vE (hw.2.1 (hw.2.2 hd3)) (show (i.op-32).toNat<15 by omega))
      ·intro D g hD hd;refine zS (v:=.string ⟨(32::rgB i.d).toArray⟩) ?_ M Jv;refine zK rfl
      ·intro D g hD hd;have hd4:D 4=true:=hd 4 (by simp);have hd5:D 5=true:=hd 5 (by simp);refine zS (v:=.string ⟨((ariL.getD (i.op-32).toNat [])++(32::rgB i.d)).toArray⟩) ?_ M Jv;refine zN M M ?_;(· (simp only[Jx,Jy,Jz];omega))
      ·intro D g hD hd;have hd6:D 6=true:=hd 6 (by simp);refine zS (v:=.string ⟨(((ariL.getD (i.op-32).toNat [])++(32::rgB i.d))++([44,32]:Bs)).toArray⟩) ?_ M Jv;refine zN M M ?_;(· (simp only[Jx,Jy,Jz];omega))
      ·intro D g hD hd;refine zS (v:=.pointer (some ⟨b2,0+2,none⟩)) ?_ M Jv;refine zY (off:=2) (sz:=0) M U35 (by kernel_rfl) rfl
      ·intro D g hD hd;have hd8:D 8=true:=hd 8 (by simp);refine zS (v:=.int .i64 i.s) ?_ M Jv;refine zD M U3 M (fun w hw=>HpG.cell (k:=0) hw.1 M M)
      ·intro D g hD hd;have hd9:D 9=true:=hd 9 (by simp);refine vR (v:=.string ⟨(rgB i.s).toArray⟩) (by kernel_rfl) M (fun w hw=>qA i.s (by omega) (by omega) w (hK.tb.ext (HpG.ext0 hw.1))) M (fun w w' hw hx=>⟨HpG.onE hw.1 hx,fun h=>(hw.2.1 h).onE hx,hw.2.2⟩)
      ·intro D g hD hd;have hd7:D 7=true:=hd 7 (by simp);have hd10:D 10=true:=hd 10 (by simp);refine zS (v:=.string ⟨((((ariL.getD (i.op-32).toNat [])++(32::rgB i.d))++([44,32]:Bs))++rgB i.s).toArray⟩) ?_ M Jv;refine zN M M ?_;(· (simp only[Jx,Jy,Jz];omega))
      ·intro D g hD hd;have hd11:D 11=true:=hd 11 (by simp);refine zS (v:=.string ⟨((((ariL.getD (i.op-32).toNat [])++(32::rgB i.d))++([44,32]:Bs))++rgB i.s).toArray⟩) ?_ M Jv;refine xZ rfl
      ·refine tF (m':=[(2,.pointer (some ⟨b2,0,none⟩)),(5,.string ⟨(32::rgB i.d).toArray⟩),(8,.int .i64 i.op),(4,.string ⟨((((ariL.getD (i.op-32).toNat [])++(32::rgB i.d))++([44,32]:Bs))++rgB i.s).toArray⟩)]) (H':=Hp (fun _=>False) w_0 [(b2,kiO i)] [] (fun _=>True)) ?_ (O4 M M M M) (fun w hw=>hw.1);refine zP<|zQ<|yZ<|zT<|zO M M (fun w hw=>?_);exact⟨by unfold lnK;rw[Ad (by omega),Ad (by omega),Ae (by omega)],hw.ext0⟩
     ·replace h42:=Kf h42;refine zX<|Z11r 0 1 2 4 5 6 8 12 25 32 42 M M M M M M M M M M M<|Zm M M<|ZF M (xL M M)<|Za M M<|ZT<|zW M (fun h57=>?_) (fun h57=>?_)
      ·replace h57:=Ke h57;refine zX<|Z12 0 1 2 4 5 6 8 12 25 32 42 57 M M M M M M M M M M M M<|wX (γ:=Nat) [(2,.pointer (some ⟨b2,0,none⟩)),(5,.string ⟨(32::rgB i.d).toArray⟩),(8,.int .i64 i.op)] [(0,60,fun g=>.slice (some ⟨g,0,none⟩) 15 15),(1,61,fun g=>.int .i64 i.op),(2,62,fun g=>.int .i64 (i.op-32)),(3,63,fun g=>.int .i64 (i.op-48)),(4,64,fun g=>.pointer (some ⟨g,0+(i.op-48).toNat*1,none⟩)),(5,65,fun g=>.string ⟨(ariL.getD (i.op-48).toNat []).toArray⟩),(6,66,fun g=>.string ⟨((ariL.getD (i.op-48).toNat [])++([46,98]:Bs)).toArray⟩),(7,67,fun g=>.string ⟨(32::rgB i.d).toArray⟩),(8,68,fun g=>.string ⟨(((ariL.getD (i.op-48).toNat [])++([46,98]:Bs))++(32::rgB i.d)).toArray⟩),(9,69,fun g=>.string ⟨((((ariL.getD (i.op-48).toNat [])++([46,98]:Bs))++(32::rgB i.d))++([44,32]:Bs)).toArray⟩),(10,70,fun g=>.pointer (some ⟨b2,0+5,none⟩)),(11,71,fun g=>.int .u32 i.imm),(12,72,fun g=>.string ⟨(uK i.imm).toArray⟩),(13,73,fun g=>.string ⟨(((((ariL.getD (i.op-48).toNat [])++([46,98]:Bs))++(32::rgB i.d))++([44,32]:Bs))++uK i.imm).toArray⟩),(14,4,fun g=>.string ⟨(((((ariL.getD (i.op-48).toNat [])++([46,98]:Bs))++(32::rgB i.d))++([44,32]:Bs))++uK i.imm).toArray⟩)] (fun D g=>fun w=>Hp (fun _=>False) w_0 [(b2,kiO i)] [] (fun _=>True) w∧(D 0=true→Blk g (vY ariL) w)∧(D 4=true→D 0=true)) [[],[],[1],[2],[0,3],[4],[5],[],[6,7],[8],[],[10],[11],[9,12],[13]] 0 (by kernel_rfl) (by kernel_rfl) (by kernel_rfl) (O3 M M M) (fun D w h hw=>⟨Hp.drew hw,(fun h0=>by rw[h 0 (by decide)] at h0;cases h0),(fun h0=>by rw[h 4 (by decide)] at h0;cases h0)⟩) ⟨?_,?_,?_,?_,?_,?_,?_,?_,?_,?_,?_,?_,?_,?_,?_,trivial⟩ (fun g=>?_)
       ·intro D g hD hd;refine uS (vs:=[]) (by kernel_rfl) M (fun w hw=>(arith_nm w (hK.sp.ext' (HpG.ext0 hw.1))).mono fun e w' ⟨b,_,e1,e2,e3⟩=>⟨_,e1,b,rfl,?_,HpG.onE hw.1 e2,fun _=>e3.2,fun _=>rfl⟩)
        repeat' (first|exact trivial|apply And.intro|(intro _;rfl)|(intro h;rw[hD] at h;cases h)|(intro h;have h9:=hw.2.2 h;rw[hD] at h9;cases h9))
       ·intro D g hD hd;refine zS (v:=.int .i64 i.op) ?_ M Jv;refine zK rfl
       ·intro D g hD hd;have hd1:D 1=true:=hd 1 (by simp)
        first|(refine zS (v:=.int .i64 (i.op-32)) ?_ rfl Jv;refine xV rfl rfl (i64_in _ ?_ ?_);(· omega);(· omega))|(refine zS (v:=.int .i64 (i.op-32)) ?_ rfl Jv;refine xV rfl rfl rfl)
       ·intro D g hD hd;have hd2:D 2=true:=hd 2 (by simp);refine zS (v:=.int .i64 (i.op-48)) ?_ M Jv;refine xV M M (show IntKind.i64.wrap (i.op-32-16)=i.op-48 by rw[i64_in _ (by omega) (by omega)];omega)
       ·intro D g hD hd;have hd0:D 0=true:=hd 0 (by simp);have hd3:D 3=true:=hd 3 (by simp);refine zS (v:=.pointer (some ⟨g,0+(i.op-48).toNat*1,none⟩)) ?_ M (fun w h=>⟨h.1,h.2.1,fun _=>hd0⟩);refine zA (j:=(i.op-48).toNat) (es:=1) M M Tryz.underlying59 (by kernel_rfl) (Ao (by omega)).symm (by omega) rfl
       ·intro D g hD hd;have hd4:D 4=true:=hd 4 (by simp);refine zS (v:=.string ⟨(ariL.getD (i.op-48).toNat []).toArray⟩) ?_ M Jv;refine zD M U9 M (fun w hw=>vE (hw.2.1 (hw.2.2 hd4)) (show (i.op-48).toNat<15 by omega))
       ·intro D g hD hd;have hd5:D 5=true:=hd 5 (by simp);refine zS (v:=.string ⟨((ariL.getD (i.op-48).toNat [])++([46,98]:Bs)).toArray⟩) ?_ M Jv;refine zN M M ?_;(· (simp only[Jx,Jy,Jz];omega))
       ·intro D g hD hd;refine zS (v:=.string ⟨(32::rgB i.d).toArray⟩) ?_ M Jv;refine zK rfl
       ·intro D g hD hd;have hd6:D 6=true:=hd 6 (by simp);have hd7:D 7=true:=hd 7 (by simp);refine zS (v:=.string ⟨(((ariL.getD (i.op-48).toNat [])++([46,98]:Bs))++(32::rgB i.d)).toArray⟩) ?_ M Jv;refine zN M M ?_;(· (simp only[Jx,Jy,Jz];omega))
       ·intro D g hD hd;have hd8:D 8=true:=hd 8 (by simp);refine zS (v:=.string ⟨((((ariL.getD (i.op-48).toNat [])++([46,98]:Bs))++(32::rgB i.d))++([44,32]:Bs)).toArray⟩) ?_ M Jv;refine zN M M ?_;(· (simp only[Jx,Jy,Jz];omega))
       ·intro D g hD hd;refine zS (v:=.pointer (some ⟨b2,0+5,none⟩)) ?_ M Jv;refine zY (off:=5) (sz:=0) M U35 (by kernel_rfl) rfl
       ·intro D g hD hd;have hd10:D 10=true:=hd 10 (by simp);refine zS (v:=.int .u32 i.imm) ?_ M Jv;refine zD M U22 M (fun w hw=>HpG.cell (k:=0) hw.1 M M)
       ·intro D g hD hd;have hd11:D 11=true:=hd 11 (by simp);refine vR (v:=.string ⟨(uK i.imm).toArray⟩) (by kernel_rfl) M (fun w hw=>pG i.imm hi w (hK.tb.ext (HpG.ext0 hw.1))) M (fun w w' hw hx=>⟨HpG.onE hw.1 hx,fun h=>(hw.2.1 h).onE hx,hw.2.2⟩)
       ·intro D g hD hd;have hd9:D 9=true:=hd 9 (by simp);have hd12:D 12=true:=hd 12 (by simp);refine zS (v:=.string ⟨(((((ariL.getD (i.op-48).toNat [])++([46,98]:Bs))++(32::rgB i.d))++([44,32]:Bs))++uK i.imm).toArray⟩) ?_ M Jv;refine zN M M ?_;(· (simp only[Jx,Jy,Jz];omega))
       ·intro D g hD hd;have hd13:D 13=true:=hd 13 (by simp);refine zS (v:=.string ⟨(((((ariL.getD (i.op-48).toNat [])++([46,98]:Bs))++(32::rgB i.d))++([44,32]:Bs))++uK i.imm).toArray⟩) ?_ M Jv;refine xZ rfl
       ·refine tF (m':=[(2,.pointer (some ⟨b2,0,none⟩)),(5,.string ⟨(32::rgB i.d).toArray⟩),(8,.int .i64 i.op),(4,.string ⟨(((((ariL.getD (i.op-48).toNat [])++([46,98]:Bs))++(32::rgB i.d))++([44,32]:Bs))++uK i.imm).toArray⟩)]) (H':=Hp (fun _=>False) w_0 [(b2,kiO i)] [] (fun _=>True)) ?_ (O4 M M M M) (fun w hw=>hw.1);refine zP<|zQ<|yZ<|zT<|zO M M (fun w hw=>?_);exact⟨by unfold lnK;rw[Ad (by omega),Ad (by omega),Ad (by omega),Ae (by omega)],hw.ext0⟩
      ·replace h57:=Kf h57;refine zX<|Z12r 0 1 2 4 5 6 8 12 25 32 42 57 M M M M M M M M M M M M<|Zm M M<|ZF M (xL M M)<|Za M M<|ZT<|zW M (fun h74=>?_) (fun h74=>?_)
       ·replace h74:=Ke h74;refine zX<|Z13 0 1 2 4 5 6 8 12 25 32 42 57 74 M M M M M M M M M M M M M<|wX (γ:=Nat) [(2,.pointer (some ⟨b2,0,none⟩)),(5,.string ⟨(32::rgB i.d).toArray⟩),(8,.int .i64 i.op)] [(0,77,fun g=>.slice (some ⟨g,0,none⟩) 15 15),(1,78,fun g=>.int .i64 i.op),(2,79,fun g=>.int .i64 (i.op-32)),(3,80,fun g=>.int .i64 (i.op-64)),(4,81,fun g=>.pointer (some ⟨g,0+(i.op-64).toNat*1,none⟩)),(5,82,fun g=>.string ⟨(ariL.getD (i.op-64).toNat []).toArray⟩),(6,83,fun g=>.string ⟨((ariL.getD (i.op-64).toNat [])++([46,119]:Bs)).toArray⟩),(7,84,fun g=>.string ⟨(32::rgB i.d).toArray⟩),(8,85,fun g=>.string ⟨(((ariL.getD (i.op-64).toNat [])++([46,119]:Bs))++(32::rgB i.d)).toArray⟩),(9,86,fun g=>.string ⟨((((ariL.getD (i.op-64).toNat [])++([46,119]:Bs))++(32::rgB i.d))++([44,32]:Bs)).toArray⟩),(10,87,fun g=>.pointer (some ⟨b2,0+5,none⟩)),(11,88,fun g=>.int .u32 i.imm),(12,89,fun g=>.string ⟨(uK i.imm).toArray⟩),(13,90,fun g=>.string ⟨(((((ariL.getD (i.op-64).toNat [])++([46,119]:Bs))++(32::rgB i.d))++([44,32]:Bs))++uK i.imm).toArray⟩),(14,4,fun g=>.string ⟨(((((ariL.getD (i.op-64).toNat [])++([46,119]:Bs))++(32::rgB i.d))++([44,32]:Bs))++uK i.imm).toArray⟩)] (fun D g=>fun w=>Hp (fun _=>False) w_0 [(b2,kiO i)] [] (fun _=>True) w∧(D 0=true→Blk g (vY ariL) w)∧(D 4=true→D 0=true)) [[],[],[1],[2],[0,3],[4],[5],[],[6,7],[8],[],[10],[11],[9,12],[13]] 0 (by kernel_rfl) (by kernel_rfl) (by kernel_rfl) (O3 M M M) (fun D w h hw=>⟨Hp.drew hw,(fun h0=>by rw[h 0 (by decide)] at h0;cases h0),(fun h0=>by rw[h 4 (by decide)] at h0;cases h0)⟩) ⟨?_,?_,?_,?_,?_,?_,?_,?_,?_,?_,?_,?_,?_,?_,?_,trivial⟩ (fun g=>?_)
        ·intro D g hD hd;refine uS (vs:=[]) (by kernel_rfl) M (fun w hw=>(arith_nm w (hK.sp.ext' (HpG.ext0 hw.1))).mono fun e w' ⟨b,_,e1,e2,e3⟩=>⟨_,e1,b,rfl,?_,HpG.onE hw.1 e2,fun _=>e3.2,fun _=>rfl⟩)
         repeat' (first|exact trivial|apply And.intro|(intro _;rfl)|(intro h;rw[hD] at h;cases h)|(intro h;have h9:=hw.2.2 h;rw[hD] at h9;cases h9))
        ·intro D g hD hd;refine zS (v:=.int .i64 i.op) ?_ M Jv;refine zK rfl
        ·intro D g hD hd;have hd1:D 1=true:=hd 1 (by simp)
         first|(refine zS (v:=.int .i64 (i.op-32)) ?_ rfl Jv;refine xV rfl rfl (i64_in _ ?_ ?_);(· omega);(· omega))|(refine zS (v:=.int .i64 (i.op-32)) ?_ rfl Jv;refine xV rfl rfl rfl)
        ·intro D g hD hd;have hd2:D 2=true:=hd 2 (by simp);refine zS (v:=.int .i64 (i.op-64)) ?_ M Jv;refine xV M M (show IntKind.i64.wrap (i.op-32-32)=i.op-64 by rw[i64_in _ (by omega) (by omega)];omega)
        ·intro D g hD hd;have hd0:D 0=true:=hd 0 (by simp);have hd3:D 3=true:=hd 3 (by simp);refine zS (v:=.pointer (some ⟨g,0+(i.op-64).toNat*1,none⟩)) ?_ M (fun w h=>⟨h.1,h.2.1,fun _=>hd0⟩);refine zA (j:=(i.op-64).toNat) (es:=1) M M Tryz.underlying59 (by kernel_rfl) (Ao (by omega)).symm (by omega) rfl
        ·intro D g hD hd;have hd4:D 4=true:=hd 4 (by simp);refine zS (v:=.string ⟨(ariL.getD (i.op-64).toNat []).toArray⟩) ?_ M Jv;refine zD M U9 M (fun w hw=>vE (hw.2.1 (hw.2.2 hd4)) (show (i.op-64).toNat<15 by omega))
        ·intro D g hD hd;have hd5:D 5=true:=hd 5 (by simp);refine zS (v:=.string ⟨((ariL.getD (i.op-64).toNat [])++([46,119]:Bs)).toArray⟩) ?_ M Jv;refine zN M M ?_;(· (simp only[Jx,Jy,Jz];omega))
        ·intro D g hD hd;refine zS (v:=.string ⟨(32::rgB i.d).toArray⟩) ?_ M Jv;refine zK rfl
        ·intro D g hD hd;have hd6:D 6=true:=hd 6 (by simp);have hd7:D 7=true:=hd 7 (by simp);refine zS (v:=.string ⟨(((ariL.getD (i.op-64).toNat [])++([46,119]:Bs))++(32::rgB i.d)).toArray⟩) ?_ M Jv;refine zN M M ?_;(· (simp only[Jx,Jy,Jz];omega))
        ·intro D g hD hd;have hd8:D 8=true:=hd 8 (by simp);refine zS (v:=.string ⟨((((ariL.getD (i.op-64).toNat [])++([46,119]:Bs))++(32::rgB i.d))++([44,32]:Bs)).toArray⟩) ?_ M Jv;refine zN M M ?_;(· (simp only[Jx,Jy,Jz];omega))
        ·intro D g hD hd;refine zS (v:=.pointer (some ⟨b2,0+5,none⟩)) ?_ M Jv;refine zY (off:=5) (sz:=0) M U35 (by kernel_rfl) rfl
        ·intro D g hD hd;have hd10:D 10=true:=hd 10 (by simp);refine zS (v:=.int .u32 i.imm) ?_ M Jv;refine zD M U22 M (fun w hw=>HpG.cell (k:=0) hw.1 M M)
        ·intro D g hD hd;have hd11:D 11=true:=hd 11 (by simp);refine vR (v:=.string ⟨(uK i.imm).toArray⟩) (by kernel_rfl) M (fun w hw=>pG i.imm hi w (hK.tb.ext (HpG.ext0 hw.1))) M (fun w w' hw hx=>⟨HpG.onE hw.1 hx,fun h=>(hw.2.1 h).onE hx,hw.2.2⟩)
        ·intro D g hD hd;have hd9:D 9=true:=hd 9 (by simp);have hd12:D 12=true:=hd 12 (by simp);refine zS (v:=.string ⟨(((((ariL.getD (i.op-64).toNat [])++([46,119]:Bs))++(32::rgB i.d))++([44,32]:Bs))++uK i.imm).toArray⟩) ?_ M Jv;refine zN M M ?_;(· (simp only[Jx,Jy,Jz];omega))
        ·intro D g hD hd;have hd13:D 13=true:=hd 13 (by simp);refine zS (v:=.string ⟨(((((ariL.getD (i.op-64).toNat [])++([46,119]:Bs))++(32::rgB i.d))++([44,32]:Bs))++uK i.imm).toArray⟩) ?_ M Jv;refine xZ rfl
        ·refine tF (m':=[(2,.pointer (some ⟨b2,0,none⟩)),(5,.string ⟨(32::rgB i.d).toArray⟩),(8,.int .i64 i.op),(4,.string ⟨(((((ariL.getD (i.op-64).toNat [])++([46,119]:Bs))++(32::rgB i.d))++([44,32]:Bs))++uK i.imm).toArray⟩)]) (H':=Hp (fun _=>False) w_0 [(b2,kiO i)] [] (fun _=>True)) ?_ (O4 M M M M) (fun w hw=>hw.1);refine zP<|zQ<|yZ<|zT<|zO M M (fun w hw=>?_);exact⟨by unfold lnK;rw[Ad (by omega),Ad (by omega),Ad (by omega),Ad (by omega),Ae (by omega)],hw.ext0⟩
       ·replace h74:=Kf h74;refine zX<|Z13r 0 1 2 4 5 6 8 12 25 32 42 57 74 M M M M M M M M M M M M M<|Zm M M<|ZF M (xL M M)<|Za M M<|ZT<|zW M (fun h91=>?_) (fun h91=>?_)
        ·replace h91:=Ke h91;refine zX<|Z14 0 1 2 4 5 6 8 12 25 32 42 57 74 91 M M M M M M M M M M M M M M<|wX (γ:=Nat) [(2,.pointer (some ⟨b2,0,none⟩)),(5,.string ⟨(32::rgB i.d).toArray⟩),(8,.int .i64 i.op)] [(0,94,fun g=>.slice (some ⟨g,0,none⟩) 7 7),(1,95,fun g=>.int .i64 i.op),(2,96,fun g=>.int .i64 (i.op-80)),(3,97,fun g=>.pointer (some ⟨g,0+(i.op-80).toNat*1,none⟩)),(4,98,fun g=>.string ⟨(accL.getD (i.op-80).toNat []).toArray⟩),(5,99,fun g=>.string ⟨(32::rgB i.d).toArray⟩),(6,100,fun g=>.string ⟨((accL.getD (i.op-80).toNat [])++(32::rgB i.d)).toArray⟩),(7,101,fun g=>.string ⟨(((accL.getD (i.op-80).toNat [])++(32::rgB i.d))++([44,32,91]:Bs)).toArray⟩),(8,102,fun g=>.pointer (some ⟨b2,0+2,none⟩)),(9,103,fun g=>.int .i64 i.s),(10,104,fun g=>.string ⟨(rgB i.s).toArray⟩),(11,105,fun g=>.string ⟨((((accL.getD (i.op-80).toNat [])++(32::rgB i.d))++([44,32,91]:Bs))++rgB i.s).toArray⟩),(12,106,fun g=>.pointer (some ⟨b2,0+5,none⟩)),(13,107,fun g=>.int .u32 i.imm),(14,108,fun g=>.string ⟨(uO i.imm).toArray⟩),(15,109,fun g=>.string ⟨(((((accL.getD (i.op-80).toNat [])++(32::rgB i.d))++([44,32,91]:Bs))++rgB i.s)++uO i.imm).toArray⟩),(16,110,fun g=>.string ⟨((((((accL.getD (i.op-80).toNat [])++(32::rgB i.d))++([44,32,91]:Bs))++rgB i.s)++uO i.imm)++([93]:Bs)).toArray⟩),(17,4,fun g=>.string ⟨((((((accL.getD (i.op-80).toNat [])++(32::rgB i.d))++([44,32,91]:Bs))++rgB i.s)++uO i.imm)++([93]:Bs)).toArray⟩)] (fun D g=>fun w=>Hp (fun _=>False) w_0 [(b2,kiO i)] [] (fun _=>True) w∧(D 0=true→Blk g (vY accL) w)∧(D 3=true→D 0=true)) [[],[],[1],[0,2],[3],[],[4,5],[6],[],[8],[9],[7,10],[],[12],[13],[11,14],[15],[16]] 0 (by kernel_rfl) (by kernel_rfl) (by kernel_rfl) (O3 M M M) (fun D w h hw=>⟨Hp.drew hw,(fun h0=>by rw[h 0 (by decide)] at h0;cases h0),(fun h0=>by rw[h 3 (by decide)] at h0;cases h0)⟩) ⟨?_,?_,?_,?_,?_,?_,?_,?_,?_,?_,?_,?_,?_,?_,?_,?_,?_,?_,trivial⟩ (fun g=>?_)
         ·intro D g hD hd;refine uS (vs:=[]) (by kernel_rfl) M (fun w hw=>(access_nm w (hK.sp.ext' (HpG.ext0 hw.1))).mono fun e w' ⟨b,_,e1,e2,e3⟩=>⟨_,e1,b,rfl,?_,HpG.onE hw.1 e2,fun _=>e3.2,fun _=>rfl⟩)
          repeat' (first|exact trivial|apply And.intro|(intro _;rfl)|(intro h;rw[hD] at h;cases h)|(intro h;have h9:=hw.2.2 h;rw[hD] at h9;cases h9))
         ·intro D g hD hd;refine zS (v:=.int .i64 i.op) ?_ M Jv;refine zK rfl
         ·intro D g hD hd;have hd1:D 1=true:=hd 1 (by simp)
          first|(refine zS (v:=.int .i64 (i.op-80)) ?_ rfl Jv;refine xV rfl rfl (i64_in _ ?_ ?_);(· omega);(· omega))|(refine zS (v:=.int .i64 (i.op-80)) ?_ rfl Jv;refine xV rfl rfl rfl)
         ·intro D g hD hd;have hd0:D 0=true:=hd 0 (by simp);have hd2:D 2=true:=hd 2 (by simp);refine zS (v:=.pointer (some ⟨g,0+(i.op-80).toNat*1,none⟩)) ?_ M (fun w h=>⟨h.1,h.2.1,fun _=>hd0⟩);refine zA (j:=(i.op-80).toNat) (es:=1) M M Tryz.underlying59 (by kernel_rfl) (Ao (by omega)).symm (by omega) rfl
         ·intro D g hD hd;have hd3:D 3=true:=hd 3 (by simp);refine zS (v:=.string ⟨(accL.getD (i.op-80).toNat []).toArray⟩) ?_ M Jv;refine zD M U9 M (fun w hw=>vE (hw.2.1 (hw.2.2 hd3)) (show (i.op-80).toNat<7 by omega))
         ·intro D g hD hd;refine zS (v:=.string ⟨(32::rgB i.d).toArray⟩) ?_ M Jv;refine zK rfl
         ·intro D g hD hd;have hd4:D 4=true:=hd 4 (by simp);have hd5:D 5=true:=hd 5 (by simp);refine zS (v:=.string ⟨((accL.getD (i.op-80).toNat [])++(32::rgB i.d)).toArray⟩) ?_ M Jv;refine zN M M ?_;(· (simp only[Jx,Jy,Jz];omega))
         ·intro D g hD hd;have hd6:D 6=true:=hd 6 (by simp);refine zS (v:=.string ⟨(((accL.getD (i.op-80).toNat [])++(32::rgB i.d))++([44,32,91]:Bs)).toArray⟩) ?_ M Jv;refine zN M M ?_;(· (simp only[Jx,Jy,Jz];omega))
         ·intro D g hD hd;refine zS (v:=.pointer (some ⟨b2,0+2,none⟩)) ?_ M Jv;refine zY (off:=2) (sz:=0) M U35 (by kernel_rfl) rfl
         ·intro D g hD hd;have hd8:D 8=true:=hd 8 (by simp);refine zS (v:=.int .i64 i.s) ?_ M Jv;refine zD M U3 M (fun w hw=>HpG.cell (k:=0) hw.1 M M)
         ·intro D g hD hd;have hd9:D 9=true:=hd 9 (by simp);refine vR (v:=.string ⟨(rgB i.s).toArray⟩) (by kernel_rfl) M (fun w hw=>qA i.s (by omega) (by omega) w (hK.tb.ext (HpG.ext0 hw.1))) M (fun w w' hw hx=>⟨HpG.onE hw.1 hx,fun h=>(hw.2.1 h).onE hx,hw.2.2⟩)
         ·intro D g hD hd;have hd7:D 7=true:=hd 7 (by simp);have hd10:D 10=true:=hd 10 (by simp);refine zS (v:=.string ⟨((((accL.getD (i.op-80).toNat [])++(32::rgB i.d))++([44,32,91]:Bs))++rgB i.s).toArray⟩) ?_ M Jv;refine zN M M ?_;(· (simp only[Jx,Jy,Jz];omega))
         ·intro D g hD hd;refine zS (v:=.pointer (some ⟨b2,0+5,none⟩)) ?_ M Jv;refine zY (off:=5) (sz:=0) M U35 (by kernel_rfl) rfl
         ·intro D g hD hd;have hd12:D 12=true:=hd 12 (by simp);refine zS (v:=.int .u32 i.imm) ?_ M Jv;refine zD M U22 M (fun w hw=>HpG.cell (k:=0) hw.1 M M)
         ·intro D g hD hd;have hd13:D 13=true:=hd 13 (by simp);refine vR (v:=.string ⟨(uO i.imm).toArray⟩) (by kernel_rfl) M (fun w hw=>offset_any i.imm hi w (hK.tb.ext (HpG.ext0 hw.1))) M (fun w w' hw hx=>⟨HpG.onE hw.1 hx,fun h=>(hw.2.1 h).onE hx,hw.2.2⟩)
         ·intro D g hD hd;have hd11:D 11=true:=hd 11 (by simp);have hd14:D 14=true:=hd 14 (by simp);refine zS (v:=.string ⟨(((((accL.getD (i.op-80).toNat [])++(32::rgB i.d))++([44,32,91]:Bs))++rgB i.s)++uO i.imm).toArray⟩) ?_ M Jv;refine zN M M ?_;(· (simp only[Jx,Jy,Jz];omega))
         ·intro D g hD hd;have hd15:D 15=true:=hd 15 (by simp);refine zS (v:=.string ⟨((((((accL.getD (i.op-80).toNat [])++(32::rgB i.d))++([44,32,91]:Bs))++rgB i.s)++uO i.imm)++([93]:Bs)).toArray⟩) ?_ M Jv;refine zN M M ?_;(· (simp only[Jx,Jy,Jz];omega))
         ·intro D g hD hd;have hd16:D 16=true:=hd 16 (by simp);refine zS (v:=.string ⟨((((((accL.getD (i.op-80).toNat [])++(32::rgB i.d))++([44,32,91]:Bs))++rgB i.s)++uO i.imm)++([93]:Bs)).toArray⟩) ?_ M Jv;refine xZ rfl
         ·refine tF (m':=[(2,.pointer (some ⟨b2,0,none⟩)),(5,.string ⟨(32::rgB i.d).toArray⟩),(8,.int .i64 i.op),(4,.string ⟨((((((accL.getD (i.op-80).toNat [])++(32::rgB i.d))++([44,32,91]:Bs))++rgB i.s)++uO i.imm)++([93]:Bs)).toArray⟩)]) (H':=Hp (fun _=>False) w_0 [(b2,kiO i)] [] (fun _=>True)) ?_ (O4 M M M M) (fun w hw=>hw.1);refine zP<|zQ<|yZ<|zT<|zO M M (fun w hw=>?_);exact⟨by unfold lnK;rw[Ad (by omega),Ad (by omega),Ad (by omega),Ad (by omega),Ad (by omega),Ae (by omega)],hw.ext0⟩
        ·replace h91:=Kf h91;refine zX<|Z14r 0 1 2 4 5 6 8 12 25 32 42 57 74 91 M M M M M M M M M M M M M M<|Zm M M<|ZF M (xL M M)<|Za M M<|ZT<|zW M (fun h111=>?_) (fun h111=>?_)
         ·replace h111:=Ke h111;refine zX<|Z15r 0 1 2 4 5 6 8 12 25 32 42 57 74 91 111 M M M M M M M M M M M M M M M<|Za M M<|ZT<|yN (ι:=Unit) (fun _=>[(1,.int .u32 a),(2,.pointer (some ⟨b2,0,none⟩)),(5,.string ⟨(32::rgB i.d).toArray⟩),(8,.int .i64 i.op),(9,.string ⟨X.toArray⟩)]) (fun _=>Hp (fun _=>False) w_0 [(b2,kiO i)] [] (fun _=>True)) ?_ (fun _=>?_)
          ·refine zX<|zZ<|ZF M (Y35x3 M) ?_;refine ZF M (zV 0 M M M U3 M)<|ZF M (xY M M)<|ZT<|zW M (fun h116=>?_) (fun h116=>?_)
           ·replace h116:=Ke h116;have hil2:=rgB_ln h116 hx8;refine Z17 0 1 2 4 5 6 8 9 12 25 32 42 57 74 91 111 116 M M M M M M M M M M M M M M M M M<|wX (γ:=Unit) [(1,.int .u32 a),(2,.pointer (some ⟨b2,0,none⟩)),(5,.string ⟨(32::rgB i.d).toArray⟩),(8,.int .i64 i.op)] [(0,117,fun g=>.pointer (some ⟨b2,0+3,none⟩)),(1,118,fun g=>.int .i64 i.index),(2,119,fun g=>.string ⟨(rgB i.index).toArray⟩),(3,120,fun g=>.string ⟨(([43]:Bs)++rgB i.index).toArray⟩),(4,121,fun g=>.string ⟨(([43]:Bs)++rgB i.index++([42]:Bs)).toArray⟩),(5,122,fun g=>.pointer (some ⟨b2,0+4,none⟩)),(6,123,fun g=>.int .i64 i.scale),(7,124,fun g=>.int .i64 (2 ^ i.scale.toNat:Nat)),(8,125,fun g=>.string ⟨(Lib.decDigits (2 ^ i.scale.toNat)).toArray⟩),(9,126,fun g=>.string ⟨(([43]:Bs)++rgB i.index++([42]:Bs)++Lib.decDigits (2 ^ i.scale.toNat)).toArray⟩),(10,9,fun g=>.string ⟨(([43]:Bs)++rgB i.index++([42]:Bs)++Lib.decDigits (2 ^ i.scale.toNat)).toArray⟩)] (fun D g=>fun w=>Hp (fun _=>False) w_0 [(b2,kiO i)] [] (fun _=>True) w∧True) [[],[0],[1],[2],[3],[],[5],[6],[7],[4,8],[9]] () (by kernel_rfl) (by kernel_rfl) (by kernel_rfl) (O4 M M M M) (fun D w h hw=>⟨Hp.drew hw,trivial⟩) ⟨?_,?_,?_,?_,?_,?_,?_,?_,?_,?_,?_,trivial⟩ (fun g=>?_)
            ·intro D g hD hd;refine zS (v:=.pointer (some ⟨b2,0+3,none⟩)) ?_ M Jv;refine zY (off:=3) (sz:=0) M U35 (by kernel_rfl) rfl
            ·intro D g hD hd;have hd0:D 0=true:=hd 0 (by simp);refine zS (v:=.int .i64 i.index) ?_ M Jv;refine zD M U3 M (fun w hw=>HpG.cell (k:=0) hw.1 M M)
            ·intro D g hD hd;have hd1:D 1=true:=hd 1 (by simp);refine vR (v:=.string ⟨(rgB i.index).toArray⟩) (by kernel_rfl) M (fun w hw=>qA i.index h116 (by omega) w (hK.tb.ext (HpG.ext0 hw.1))) M (fun w w' hw hx=>⟨HpG.onE hw.1 hx,trivial⟩)
            ·intro D g hD hd;have hd2:D 2=true:=hd 2 (by simp);refine zS (v:=.string ⟨(([43]:Bs)++rgB i.index).toArray⟩) ?_ M Jv;refine zN M M ?_;(· (simp only[Jx,Jy,Jz];omega))
            ·intro D g hD hd;have hd3:D 3=true:=hd 3 (by simp);refine zS (v:=.string ⟨(([43]:Bs)++rgB i.index++([42]:Bs)).toArray⟩) ?_ M Jv;refine zN M M ?_;(· (simp only[Jx,Jy,Jz];omega))
            ·intro D g hD hd;refine zS (v:=.pointer (some ⟨b2,0+4,none⟩)) ?_ M Jv;refine zY (off:=4) (sz:=0) M U35 (by kernel_rfl) rfl
            ·intro D g hD hd;have hd5:D 5=true:=hd 5 (by simp);refine zS (v:=.int .i64 i.scale) ?_ M Jv;refine zD M U3 M (fun w hw=>HpG.cell (k:=0) hw.1 M M)
            ·intro D g hD hd;have hd6:D 6=true:=hd 6 (by simp);refine zS (v:=.int .i64 (2 ^ i.scale.toNat:Nat)) ?_ M Jv;refine uM M M (by omega) (pow_sh hc0 hc3)
            ·intro D g hD hd;have hd7:D 7=true:=hd 7 (by simp);refine vR (v:=.string ⟨(Lib.decDigits (2 ^ i.scale.toNat)).toArray⟩) (by kernel_rfl) M (fun w hw=>itoa_pow hc0 hc3 w (hK.tb.ext (HpG.ext0 hw.1))) M (fun w w' hw hx=>⟨HpG.onE hw.1 hx,trivial⟩)
            ·intro D g hD hd;have hd4:D 4=true:=hd 4 (by simp);have hd8:D 8=true:=hd 8 (by simp);refine zS (v:=.string ⟨(([43]:Bs)++rgB i.index++([42]:Bs)++Lib.decDigits (2 ^ i.scale.toNat)).toArray⟩) ?_ M Jv;refine zN M M ?_;(· (simp only[Jx,Jy,Jz];omega))
            ·intro D g hD hd;have hd9:D 9=true:=hd 9 (by simp);refine zS (v:=.string ⟨(([43]:Bs)++rgB i.index++([42]:Bs)++Lib.decDigits (2 ^ i.scale.toNat)).toArray⟩) ?_ M Jv;refine xZ rfl
            ·refine tF (m':=[(1,.int .u32 a),(2,.pointer (some ⟨b2,0,none⟩)),(5,.string ⟨(32::rgB i.d).toArray⟩),(8,.int .i64 i.op),(9,.string ⟨(([43]:Bs)++rgB i.index++([42]:Bs)++Lib.decDigits (2 ^ i.scale.toNat)).toArray⟩)]) (H':=Hp (fun _=>False) w_0 [(b2,kiO i)] [] (fun _=>True)) ?_ (O5 M M M M M) (fun w hw=>hw.1);exact zU (ι:=Unit) () (.cons M<|.cons M<|.cons M<|.cons M<|.consE M (by rw[hX,Ae h116])<|.nil) Jv
           ·replace h116:=Kf h116;exact zL<|zU (ι:=Unit) () (.cons M<|.cons M<|.cons M<|.cons M<|.consE M (by rw[hX,Ad h116])<|.nil) Jv
          ·refine zX<|wX (γ:=Nat) [(2,.pointer (some ⟨b2,0,none⟩)),(5,.string ⟨(32::rgB i.d).toArray⟩),(8,.int .i64 i.op),(9,.string ⟨X.toArray⟩)] [(0,127,fun g=>.slice (some ⟨g,0,none⟩) 7 7),(1,128,fun g=>.int .i64 i.op),(2,129,fun g=>.int .i64 (i.op-80)),(3,130,fun g=>.int .i64 (i.op-88)),(4,131,fun g=>.pointer (some ⟨g,0+(i.op-88).toNat*1,none⟩)),(5,132,fun g=>.string ⟨(accL.getD (i.op-88).toNat []).toArray⟩),(6,133,fun g=>.string ⟨((accL.getD (i.op-88).toNat [])++([46,120]:Bs)).toArray⟩),(7,134,fun g=>.string ⟨(32::rgB i.d).toArray⟩),(8,135,fun g=>.string ⟨(((accL.getD (i.op-88).toNat [])++([46,120]:Bs))++(32::rgB i.d)).toArray⟩),(9,136,fun g=>.string ⟨((((accL.getD (i.op-88).toNat [])++([46,120]:Bs))++(32::rgB i.d))++([44,32,91]:Bs)).toArray⟩),(10,137,fun g=>.pointer (some ⟨b2,0+2,none⟩)),(11,138,fun g=>.int .i64 i.s),(12,139,fun g=>.string ⟨(rgB i.s).toArray⟩),(13,140,fun g=>.string ⟨(((((accL.getD (i.op-88).toNat [])++([46,120]:Bs))++(32::rgB i.d))++([44,32,91]:Bs))++rgB i.s).toArray⟩),(14,141,fun g=>.string ⟨X.toArray⟩),(15,142,fun g=>.string ⟨((((((accL.getD (i.op-88).toNat [])++([46,120]:Bs))++(32::rgB i.d))++([44,32,91]:Bs))++rgB i.s)++X).toArray⟩),(16,143,fun g=>.pointer (some ⟨b2,0+5,none⟩)),(17,144,fun g=>.int .u32 i.imm),(18,145,fun g=>.string ⟨(uO i.imm).toArray⟩),(19,146,fun g=>.string ⟨(((((((accL.getD (i.op-88).toNat [])++([46,120]:Bs))++(32::rgB i.d))++([44,32,91]:Bs))++rgB i.s)++X)++uO i.imm).toArray⟩),(20,147,fun g=>.string ⟨((((((((accL.getD (i.op-88).toNat [])++([46,120]:Bs))++(32::rgB i.d))++([44,32,91]:Bs))++rgB i.s)++X)++uO i.imm)++([93]:Bs)).toArray⟩),(21,4,fun g=>.string ⟨((((((((accL.getD (i.op-88).toNat [])++([46,120]:Bs))++(32::rgB i.d))++([44,32,91]:Bs))++rgB i.s)++X)++uO i.imm)++([93]:Bs)).toArray⟩)] (fun D g=>fun w=>Hp (fun _=>False) w_0 [(b2,kiO i)] [] (fun _=>True) w∧(D 0=true→Blk g (vY accL) w)∧(D 4=true→D 0=true)) [[],[],[1],[2],[0,3],[4],[5],[],[6,7],[8],[],[10],[11],[9,12],[],[13,14],[],[16],[17],[15,18],[19],[20]] 0 (by kernel_rfl) (by kernel_rfl) (by kernel_rfl) (O4 M M M M) (fun D w h hw=>⟨Hp.drew hw,(fun h0=>by rw[h 0 (by decide)] at h0;cases h0),(fun h0=>by rw[h 4 (by decide)] at h0;cases h0)⟩) ⟨?_,?_,?_,?_,?_,?_,?_,?_,?_,?_,?_,?_,?_,?_,?_,?_,?_,?_,?_,?_,?_,?_,trivial⟩ (fun g=>?_)
           ·intro D g hD hd;refine uS (vs:=[]) (by kernel_rfl) M (fun w hw=>(access_nm w (hK.sp.ext' (HpG.ext0 hw.1))).mono fun e w' ⟨b,_,e1,e2,e3⟩=>⟨_,e1,b,rfl,?_,HpG.onE hw.1 e2,fun _=>e3.2,fun _=>rfl⟩)
            repeat' (first|exact trivial|apply And.intro|(intro _;rfl)|(intro h;rw[hD] at h;cases h)|(intro h;have h9:=hw.2.2 h;rw[hD] at h9;cases h9))
           ·intro D g hD hd;refine zS (v:=.int .i64 i.op) ?_ M Jv;refine zK rfl
           ·intro D g hD hd;have hd1:D 1=true:=hd 1 (by simp)
            first|(refine zS (v:=.int .i64 (i.op-80)) ?_ rfl Jv;refine xV rfl rfl (i64_in _ ?_ ?_);(· omega);(· omega))|(refine zS (v:=.int .i64 (i.op-80)) ?_ rfl Jv;refine xV rfl rfl rfl)
           ·intro D g hD hd;have hd2:D 2=true:=hd 2 (by simp);refine zS (v:=.int .i64 (i.op-88)) ?_ M Jv;refine xV M M (show IntKind.i64.wrap (i.op-80-8)=i.op-88 by rw[i64_in _ (by omega) (by omega)];omega)
           ·intro D g hD hd;have hd0:D 0=true:=hd 0 (by simp);have hd3:D 3=true:=hd 3 (by simp);refine zS (v:=.pointer (some ⟨g,0+(i.op-88).toNat*1,none⟩)) ?_ M (fun w h=>⟨h.1,h.2.1,fun _=>hd0⟩);refine zA (j:=(i.op-88).toNat) (es:=1) M M Tryz.underlying59 (by kernel_rfl) (Ao (by omega)).symm (by omega) rfl
           ·intro D g hD hd;have hd4:D 4=true:=hd 4 (by simp);refine zS (v:=.string ⟨(accL.getD (i.op-88).toNat []).toArray⟩) ?_ M Jv;refine zD M U9 M (fun w hw=>vE (hw.2.1 (hw.2.2 hd4)) (show (i.op-88).toNat<7 by omega))
           ·intro D g hD hd;have hd5:D 5=true:=hd 5 (by simp);refine zS (v:=.string ⟨((accL.getD (i.op-88).toNat [])++([46,120]:Bs)).toArray⟩) ?_ M Jv;refine zN M M ?_;(· (simp only[Jx,Jy,Jz];omega))
           ·intro D g hD hd;refine zS (v:=.string ⟨(32::rgB i.d).toArray⟩) ?_ M Jv;refine zK rfl
           ·intro D g hD hd;have hd6:D 6=true:=hd 6 (by simp);have hd7:D 7=true:=hd 7 (by simp);refine zS (v:=.string ⟨(((accL.getD (i.op-88).toNat [])++([46,120]:Bs))++(32::rgB i.d)).toArray⟩) ?_ M Jv;refine zN M M ?_;(· (simp only[Jx,Jy,Jz];omega))
           ·intro D g hD hd;have hd8:D 8=true:=hd 8 (by simp);refine zS (v:=.string ⟨((((accL.getD (i.op-88).toNat [])++([46,120]:Bs))++(32::rgB i.d))++([44,32,91]:Bs)).toArray⟩) ?_ M Jv;refine zN M M ?_;(· (simp only[Jx,Jy,Jz];omega))
           ·intro D g hD hd;refine zS (v:=.pointer (some ⟨b2,0+2,none⟩)) ?_ M Jv;refine zY (off:=2) (sz:=0) M U35 (by kernel_rfl) rfl
           ·intro D g hD hd;have hd10:D 10=true:=hd 10 (by simp);refine zS (v:=.int .i64 i.s) ?_ M Jv;refine zD M U3 M (fun w hw=>HpG.cell (k:=0) hw.1 M M)
           ·intro D g hD hd;have hd11:D 11=true:=hd 11 (by simp);refine vR (v:=.string ⟨(rgB i.s).toArray⟩) (by kernel_rfl) M (fun w hw=>qA i.s (by omega) (by omega) w (hK.tb.ext (HpG.ext0 hw.1))) M (fun w w' hw hx=>⟨HpG.onE hw.1 hx,fun h=>(hw.2.1 h).onE hx,hw.2.2⟩)
           ·intro D g hD hd;have hd9:D 9=true:=hd 9 (by simp);have hd12:D 12=true:=hd 12 (by simp);refine zS (v:=.string ⟨(((((accL.getD (i.op-88).toNat [])++([46,120]:Bs))++(32::rgB i.d))++([44,32,91]:Bs))++rgB i.s).toArray⟩) ?_ M Jv;refine zN M M ?_;(· (simp only[Jx,Jy,Jz];omega))
           ·intro D g hD hd;refine zS (v:=.string ⟨X.toArray⟩) ?_ M Jv;refine zK rfl
           ·intro D g hD hd;have hd13:D 13=true:=hd 13 (by simp);have hd14:D 14=true:=hd 14 (by simp);refine zS (v:=.string ⟨((((((accL.getD (i.op-88).toNat [])++([46,120]:Bs))++(32::rgB i.d))++([44,32,91]:Bs))++rgB i.s)++X).toArray⟩) ?_ M Jv;refine zN M M ?_;(· (simp only[Jx,Jy,Jz];omega))
           ·intro D g hD hd;refine zS (v:=.pointer (some ⟨b2,0+5,none⟩)) ?_ M Jv;refine zY (off:=5) (sz:=0) M U35 (by kernel_rfl) rfl
           ·intro D g hD hd;have hd16:D 16=true:=hd 16 (by simp);refine zS (v:=.int .u32 i.imm) ?_ M Jv;refine zD M U22 M (fun w hw=>HpG.cell (k:=0) hw.1 M M)
           ·intro D g hD hd;have hd17:D 17=true:=hd 17 (by simp);refine vR (v:=.string ⟨(uO i.imm).toArray⟩) (by kernel_rfl) M (fun w hw=>offset_any i.imm hi w (hK.tb.ext (HpG.ext0 hw.1))) M (fun w w' hw hx=>⟨HpG.onE hw.1 hx,fun h=>(hw.2.1 h).onE hx,hw.2.2⟩)
           ·intro D g hD hd;have hd15:D 15=true:=hd 15 (by simp);have hd18:D 18=true:=hd 18 (by simp);refine zS (v:=.string ⟨(((((((accL.getD (i.op-88).toNat [])++([46,120]:Bs))++(32::rgB i.d))++([44,32,91]:Bs))++rgB i.s)++X)++uO i.imm).toArray⟩) ?_ M Jv;refine zN M M ?_;(· (simp only[Jx,Jy,Jz];omega))
           ·intro D g hD hd;have hd19:D 19=true:=hd 19 (by simp);refine zS (v:=.string ⟨((((((((accL.getD (i.op-88).toNat [])++([46,120]:Bs))++(32::rgB i.d))++([44,32,91]:Bs))++rgB i.s)++X)++uO i.imm)++([93]:Bs)).toArray⟩) ?_ M Jv;refine zN M M ?_;(· (simp only[Jx,Jy,Jz];omega))
           ·intro D g hD hd;have hd20:D 20=true:=hd 20 (by simp);refine zS (v:=.string ⟨((((((((accL.getD (i.op-88).toNat [])++([46,120]:Bs))++(32::rgB i.d))++([44,32,91]:Bs))++rgB i.s)++X)++uO i.imm)++([93]:Bs)).toArray⟩) ?_ M Jv;refine xZ rfl
           ·refine tF (m':=[(2,.pointer (some ⟨b2,0,none⟩)),(5,.string ⟨(32::rgB i.d).toArray⟩),(8,.int .i64 i.op),(9,.string ⟨X.toArray⟩),(4,.string ⟨((((((((accL.getD (i.op-88).toNat [])++([46,120]:Bs))++(32::rgB i.d))++([44,32,91]:Bs))++rgB i.s)++X)++uO i.imm)++([93]:Bs)).toArray⟩)]) (H':=Hp (fun _=>False) w_0 [(b2,kiO i)] [] (fun _=>True)) ?_ (O5 M M M M M) (fun w hw=>hw.1);refine zP<|zQ<|yZ<|zT<|zO M M (fun w hw=>?_);exact⟨by unfold lnK;rw[Ad (by omega),Ad (by omega),Ad (by omega),Ad (by omega),Ad (by omega),Ad (by omega),Ae (by omega),← hX],hw.ext0⟩
         ·replace h111:=Kf h111;refine zX<|Z15r 0 1 2 4 5 6 8 12 25 32 42 57 74 91 111 M M M M M M M M M M M M M M M<|Zm M M<|ZF M (yB M M)<|Za M M<|ZT<|zW M (fun h148=>?_) (fun h148=>?_)
          ·replace h148:=Ke h148;refine zX<|Z16r 0 1 2 4 5 6 8 12 25 32 42 57 74 91 111 148 M M M M M M M M M M M M M M M M<|Zm M M<|ZF M (xV M M (i64_in _ (by omega) (by omega))) ?_
           refine zE .none M  (v:=.string ⟨(vG.getD (i.op-96).toNat []).toArray⟩) (by kernel_rfl) M (fun w hw=>by
            have:=cname_any (i.op-96).toNat (by omega) w
            rw[Ao (by omega)] at this;exact this) ?_
           refine ZF M (zN M M (by (simp only[Jx,Jy,Jz];omega))) ?_;refine ZF M (zN M M (by (simp only[Jx,Jy,Jz];omega))) ?_;refine Zm M M ?_
           refine zE .none M  (v:=.string ⟨(Lib.decDigits (toK i a)).toArray⟩) (by kernel_rfl) M (fun w hw=>by
            show Calls _ _ #[.int .u32 ((if (96≤i.op∧i.op≤109)∨(112≤i.op∧i.op≤113) then toK i a else 0:Nat):Int)] _ _;rw[Ae (show (96≤i.op∧i.op≤109)∨(112≤i.op∧i.op≤113) by omega)]
            exact uR (toK i a) htk w (hK.tb.ext hw.ext0)) ?_
           refine ZF M (zN M M (by (simp only[Jx,Jy,Jz];omega))) ?_;refine Za M M<|ZT<|zQ<|yZ<|zT<|zO M M (fun w hw=>?_);exact⟨by unfold lnK;rw[Ad (by omega),Ad (by omega),Ad (by omega),Ad (by omega),Ad (by omega),Ad (by omega),Ad (by omega),Ae (by omega)],hw.ext0⟩
          ·replace h148:=Kf h148;refine zX<|Z16r 0 1 2 4 5 6 8 12 25 32 42 57 74 91 111 148 M M M M M M M M M M M M M M M M<|Zm M M<|ZF M (yY M M)<|Za M M<|ZT<|zW M (fun h159=>?_) (fun h159=>?_)
           ·replace h159:=Km h159;refine zX<|Z17r 0 1 2 4 5 6 8 12 25 32 42 57 74 91 111 148 159 M M M M M M M M M M M M M M M M M<|Zm M M ?_
            refine zE .none M  (v:=.string ⟨(Lib.decDigits (toK i a)).toArray⟩) (by kernel_rfl) M (fun w hw=>by
             show Calls _ _ #[.int .u32 ((if (96≤i.op∧i.op≤109)∨(112≤i.op∧i.op≤113) then toK i a else 0:Nat):Int)] _ _;rw[Ae (show (96≤i.op∧i.op≤109)∨(112≤i.op∧i.op≤113) by omega)]
             exact uR (toK i a) htk w (hK.tb.ext hw.ext0)) ?_
            refine ZF rfl (zN rfl rfl (by first|omega|simp<;>omega)) ?_;refine Za M M<|ZT<|zQ<|yZ<|zT<|zO M M (fun w hw=>?_);exact⟨by unfold lnK;rw[Ad (by omega),Ad (by omega),Ad (by omega),Ad (by omega),Ad (by omega),Ad (by omega),Ad (by omega),Ad (by omega),Ae (by omega)],hw.ext0⟩
           ·replace h159:=yR h159;refine zX<|Z17r 0 1 2 4 5 6 8 12 25 32 42 57 74 91 111 148 159 M M M M M M M M M M M M M M M M M<|Zm M M<|ZF M (yY M M)<|Za M M<|ZT<|zW M (fun h165=>?_) (fun h165=>?_)
            ·replace h165:=Km h165;refine zX<|Z18r 0 1 2 4 5 6 8 12 25 32 42 57 74 91 111 148 159 165 M M M M M M M M M M M M M M M M M M<|Zm M M ?_
             refine zE .none M  (v:=.string ⟨(Lib.decDigits (toK i a)).toArray⟩) (by kernel_rfl) M (fun w hw=>by
              show Calls _ _ #[.int .u32 ((if (96≤i.op∧i.op≤109)∨(112≤i.op∧i.op≤113) then toK i a else 0:Nat):Int)] _ _;rw[Ae (show (96≤i.op∧i.op≤109)∨(112≤i.op∧i.op≤113) by omega)]
              exact uR (toK i a) htk w (hK.tb.ext hw.ext0)) ?_
             refine ZF rfl (zN rfl rfl (by first|omega|simp<;>omega)) ?_;refine Za M M<|ZT<|zQ<|yZ<|zT<|zO M M (fun w hw=>?_);exact⟨by unfold lnK;rw[Ad (by omega),Ad (by omega),Ad (by omega),Ad (by omega),Ad (by omega),Ad (by omega),Ad (by omega),Ad (by omega),Ad (by omega),Ae (by omega)],hw.ext0⟩
            ·replace h165:=yR h165;refine zX<|Z18r 0 1 2 4 5 6 8 12 25 32 42 57 74 91 111 148 159 165 M M M M M M M M M M M M M M M M M M<|Zm M M<|ZF M (yY M M)<|Za M M<|ZT<|zW M (fun h171=>?_) (fun h171=>?_)
             ·replace h171:=Km h171;refine zX<|Z19r 0 1 2 4 5 6 8 12 25 32 42 57 74 91 111 148 159 165 171 M M M M M M M M M M M M M M M M M M M<|ZF M (Y35x5 M) ?_;refine ZF M (zV 0 M M M U22 M)<|zE .none M  (v:=.string ⟨(Lib.decDigits i.imm).toArray⟩) (by kernel_rfl) M (fun w hw=>uR i.imm hi w (hK.tb.ext hw.ext0)) ?_;refine ZF rfl (zN rfl rfl (by first|omega|simp<;>omega)) ?_;refine Za M M<|ZT<|zQ<|yZ<|zT<|zO M M (fun w hw=>?_);exact⟨by unfold lnK;rw[Ad (by omega),Ad (by omega),Ad (by omega),Ad (by omega),Ad (by omega),Ad (by omega),Ad (by omega),Ad (by omega),Ad (by omega),Ad (by omega),Ae (by omega)],hw.ext0⟩
             ·replace h171:=yR h171;refine zX<|Z19r 0 1 2 4 5 6 8 12 25 32 42 57 74 91 111 148 159 165 171 M M M M M M M M M M M M M M M M M M M<|Zm M M<|ZF M (yY M M)<|Za M M<|ZT<|zW M (fun h178=>?_) (fun h178=>?_)
              ·replace h178:=Km h178;refine zX<|Z20r 0 1 2 4 5 6 8 12 25 32 42 57 74 91 111 148 159 165 171 178 rfl rfl rfl rfl rfl rfl rfl rfl rfl rfl rfl rfl rfl rfl rfl rfl rfl rfl rfl rfl<|Zm rfl rfl<|ZF rfl (zN rfl rfl (by first|omega|simp<;>omega)) ?_;refine ZF rfl (zN rfl rfl (by first|omega|simp<;>omega)) ?_;refine ZF M (Y35x2 M) ?_;refine ZF M (zV 0 M M M U3 M)<|zE .none M  (v:=.string ⟨(Lib.decDigits i.s.toNat).toArray⟩) (by kernel_rfl) M (fun w hw=>by have:=sC i.s (by omega) (by omega) w (hK.tb.ext hw.ext0);rw[hsd] at this;exact this) ?_;refine ZF rfl (zN rfl rfl (by first|omega|simp<;>omega)) ?_;refine Za M M<|ZT<|zQ<|yZ<|zT<|zO M M (fun w hw=>?_);exact⟨by unfold lnK;rw[Ad (by omega),Ad (by omega),Ad (by omega),Ad (by omega),Ad (by omega),Ad (by omega),Ad (by omega),Ad (by omega),Ad (by omega),Ad (by omega),Ad (by omega),Ae (by omega)],hw.ext0⟩
              ·replace h178:=yR h178;refine zL<|yW<|zP<|zX<|Z20r 0 1 2 4 5 6 8 12 25 32 42 57 74 91 111 148 159 165 171 178 rfl rfl rfl rfl rfl rfl rfl rfl rfl rfl rfl rfl rfl rfl rfl rfl rfl rfl rfl rfl<|Zm rfl rfl<|ZF rfl (zN rfl rfl (by first|omega|simp<;>omega)) ?_;refine ZF rfl (zN rfl rfl (by first|omega|simp<;>omega)) ?_;refine ZF M (Y35x2 M) ?_;refine ZF M (zV 0 M M M U3 M)<|zE .none M  (v:=.string ⟨(Lib.decDigits i.s.toNat).toArray⟩) (by kernel_rfl) M (fun w hw=>by have:=sC i.s (by omega) (by omega) w (hK.tb.ext hw.ext0);rw[hsd] at this;exact this) ?_;refine ZF rfl (zN rfl rfl (by first|omega|simp<;>omega)) ?_;refine Za M M<|ZT<|zQ<|zO M M (fun w hw=>?_);exact⟨by unfold lnK;rw[Ad (by omega),Ad (by omega),Ad (by omega),Ad (by omega),Ad (by omega),Ad (by omega),Ad (by omega),Ad (by omega),Ad (by omega),Ad (by omega),Ad (by omega),Ad (by omega)],hw.ext0⟩
end Go.Proofs.YtkaepknpplhgkaaGreatDoor
namespace Go.Proofs.YtkaepknpplhgkaaGreatDoor
open Go.RowKit
section
variable {P:Program}{ops:Array Oper}{Q:Exit→Act→World→Prop}{n:Fr}
theorem Hp.swapL {B:Nat→Prop}{w0 w:World}{L L':List (Nat×Obj)}{R:List Rw}{X:World→Prop}(h:Hp B w0 L R X w) (hp:L.Perm L'):Hp B w0 L' R X w:=by
 have hm:(L'.map (·.1)).Perm (L.map (·.1)):=(hp.map _).symm
 have hb:(uX L' R).Perm (uX L R):=by
  unfold uX;exact hm.append_right _
 obtain⟨F,hF,hX⟩:=h.foot;exact⟨h.keep,fun p hm=>h.own p (hp.mem_iff.2 hm),fun p hm=>h.mine p (hp.mem_iff.2 hm),h.rows,hb.nodup_iff.2 h.nd,fun _ _=>trivial,F,fun k hk=>⟨(hF k hk).1,(hF k hk).2.1,fun hm=>(hF k hk).2.2.1 (hb.mem_iff.1 hm),trivial⟩,hX⟩
end
end Go.Proofs.YtkaepknpplhgkaaGreatDoor
namespace Go.Proofs.YtkaepknpplhgkaaGreatDoor
def fmB (n:Nat) (op:Nat→Nat) (z:Nat) (l:List Fld):Bool:=(List.range n).all fun k=>decide (tB ((op k:Nat):Int)=some (z,l))
theorem qU {n:Nat}{op:Nat→Nat}{z:Nat}{l:List Fld}(h:fmB n op z l=true) {k:Nat}(hk:k<n):tB ((op k:Nat):Int)=some (z,l):=Ke (tP h k hk)
theorem fm_all:fmB 5 id 1 []=true∧fmB 6 (16+·) 2 [.reg]=true∧fmB 15 (32+·) 2 [.pair]=true∧fmB 15 (48+·) 3 [.reg,.small]=true∧fmB 15 (64+·) 6 [.reg,.full]=true∧fmB 7 (80+·) 3 [.pair,.small]=true∧fmB 7 (88+·) 7 [.pair,.index,.full]=true∧fmB 14 (96+·) 2 [.small]=true∧fmB 2 (112+·) 5 [.full]=true∧fmB 1 (fun _=>128) 2 [.plain]=true∧fmB 2 (129+·) 2 [.pair]=true:=by
 refine⟨?_,?_,?_,?_,?_,?_,?_,?_,?_,?_,?_⟩<;>kernel_rfl
theorem low_nat {d:Nat}(h:d<256):(wZ (d:Int)).toNat=d:=by
 have:=lowB_nat (d:Int);omega
theorem pX {d s:Nat}(hd:d<16) (hs:s<16):(wZ (Int.ofNat (((d:Int).toNat <<< 4) ||| (s:Int).toNat))).toNat=16*d+s:=by
 rw[Int.toNat_natCast,Int.toNat_natCast,← Nat.shiftLeft_add_eq_or_of_lt (by omega),Nat.shiftLeft_eq];have:=lowB_nat (Int.ofNat (d*2 ^ 4+s));simp only[Nat.reducePow,Int.ofNat_eq_natCast] at this ⊢;omega
theorem rS {op d s x c z:Int}{m:Nat}(h1:0≤d∧d≤7) (h2:0≤s∧s≤7) (h3:op=129→s≤3) (h4:op=130→s≤4) (h5:-1≤x∧x≤7) (h6:0≤c∧c≤3):pS ⟨op,d,s,x,c,m,z⟩=true:=by
 unfold pS;simp only[Ky,Ac];refine⟨⟨⟨h1,h2.1,?_⟩,h5⟩,h6⟩
 split
 ·next h=>exact h3 h
 ·split
  ·next h=>exact h4 h
  ·exact h2.2
theorem rP {i:KI}{z:Nat}{l:List Fld}(hf:tB i.op=some (z,l)) (hz:i.size=z) (hr:pS i=true) (ht:xM (vH i l) ⟨i.op,0,0,-1,0,0,z⟩ l=i):tV i=some (wZ i.op::vH i l):=by
 unfold tV;rw[hf];dsimp only;rw[Ae ⟨hz,hr,ht⟩]
theorem full4 (n:Nat) (r:Bs):(vD n 4++r).take 4=vD n 4:=by rw[List.take_left' (put_len n 4)]
theorem enc_vk {i:KI}(h:VK i):∃l,tB i.op=some (i.size.toNat,l)∧tV i=some (wZ i.op::vH i l):=by
 obtain⟨f0,f1,f2,f3,f4,f5,f6,f7,f8,f9,f10⟩:=fm_all
 cases h with
 | none k hk =>
  have hf:=qU f0 hk;exact⟨_,hf,rP hf M (rS (by omega) (by omega) (by omega) (by omega) (by omega) (by omega)) rfl⟩
 | reg k d hk hd =>
  have hf:=qU f1 hk;refine⟨_,hf,rP hf M (rS (by omega) (by omega) (by omega) (by omega) (by omega) (by omega)) ?_⟩;show (⟨_,(wZ (d:Int)).toNat,0,-1,0,0,2⟩:KI)=_;rw[low_nat (by omega)]
 | regs k d s hk hd hs =>
  have hf:=qU f2 hk;refine⟨_,hf,rP hf M (rS (by omega) (by omega) (by omega) (by omega) (by omega) (by omega)) ?_⟩;show (⟨_,((wZ (Int.ofNat (((d:Int).toNat <<< 4) ||| (s:Int).toNat))).toNat/16:Nat),((wZ (Int.ofNat (((d:Int).toNat <<< 4) ||| (s:Int).toNat))).toNat%16:Nat),-1,0,0,2⟩:KI)=_;rw[pX (by omega) (by omega),show (16*d+s)/16=d by omega,show (16*d+s)%16=s by omega]
 | short k d n hk hd hn hx =>
  have hf:=qU f3 hk;refine⟨_,hf,rP hf M (rS (by omega) (by omega) (by omega) (by omega) (by omega) (by omega)) ?_⟩;show (⟨_,(wZ (d:Int)).toNat,0,-1,0,sxL (byL (n%256)).toNat 8,3⟩:KI)=_;rw[low_nat (by omega),sA,hx];rfl
 | imm k d n hk hd hn =>
  have hf:=qU f4 hk;refine⟨_,hf,rP hf M (rS (by omega) (by omega) (by omega) (by omega) (by omega) (by omega)) ?_⟩;show (⟨_,(wZ (d:Int)).toNat,0,-1,0,getL ((vD n 4++[]).take 4),6⟩:KI)=_;rw[low_nat (by omega),full4,oJ 4 n (by omega)];rfl
 | mem k d s n hk hd hs hn hx =>
  have hf:=qU f5 hk;refine⟨_,hf,rP hf M (rS (by omega) (by omega) (by omega) (by omega) (by omega) (by omega)) ?_⟩;show (⟨_,((wZ (Int.ofNat (((d:Int).toNat <<< 4) ||| (s:Int).toNat))).toNat/16:Nat),((wZ (Int.ofNat (((d:Int).toNat <<< 4) ||| (s:Int).toNat))).toNat%16:Nat),-1,0,sxL (byL (n%256)).toNat 8,3⟩:KI)=_;rw[pX (by omega) (by omega),show (16*d+s)/16=d by omega,show (16*d+s)%16=s by omega,sA,hx];rfl
 | idx k d s n x hk hd hs hn hx =>
  have hf:=qU f6 hk
  cases x with
  | none =>
   refine⟨_,hf,rP hf M (rS (by omega) (by omega) (by omega) (by omega) (by show (-1:Int)≤-1∧(-1:Int)≤7;omega) (by show (0:Int)≤0∧(0:Int)≤3;omega)) ?_⟩;show (⟨_,((wZ (Int.ofNat (((d:Int).toNat <<< 4) ||| (s:Int).toNat))).toNat/16:Nat),((wZ (Int.ofNat (((d:Int).toNat <<< 4) ||| (s:Int).toNat))).toNat%16:Nat),-1,0,getL ((vD n 4++[]).take 4),7⟩:KI)=_;rw[pX (by omega) (by omega),show (16*d+s)/16=d by omega,show (16*d+s)%16=s by omega,full4,oJ 4 n (by omega)];rfl
  | some p =>
   obtain⟨p,c⟩:=p;have hp:=hx _ rfl;dsimp only at hp;refine⟨_,hf,rP hf M (rS (by omega) (by omega) (by omega) (by omega) (by show (-1:Int)≤p∧(p:Int)≤7;omega) (by show (0:Int)≤c∧(c:Int)≤3;omega)) ?_⟩;have hb:(wZ (Int.ofNat (((c:Int).toNat <<< 4) ||| (p:Int).toNat))).toNat=16*c+p:=pX (by omega) (by omega)
   have h8:¬wZ (Int.ofNat (((c:Int).toNat <<< 4) ||| (p:Int).toNat))=8:=fun e=>by
    rw[e] at hb;have:(8:UInt8).toNat=8:=rfl;omega
   have e1:vH ⟨((88+k:Nat):Int),d,s,idxV (some (p,c)),scaV (some (p,c)),n,7⟩ [.pair,.index,.full]=wZ (Int.ofNat (((d:Int).toNat <<< 4) ||| (s:Int).toNat))::wZ (Int.ofNat (((c:Int).toNat <<< 4) ||| (p:Int).toNat))::(vD n 4++[]):=by
    show [_]++((if (p:Int)<0 then [8] else [_])++(vD n 4++[]))=_;rw[Ad (by omega)];rfl
   rw[e1];simp only[xM,qC,List.headD_cons,Kp,Kt,Ad h8];show (⟨_,((wZ (Int.ofNat (((d:Int).toNat <<< 4) ||| (s:Int).toNat))).toNat/16:Nat),((wZ (Int.ofNat (((d:Int).toNat <<< 4) ||| (s:Int).toNat))).toNat%16:Nat),((wZ (Int.ofNat (((c:Int).toNat <<< 4) ||| (p:Int).toNat))).toNat%16:Nat),((wZ (Int.ofNat (((c:Int).toNat <<< 4) ||| (p:Int).toNat))).toNat/16:Nat),getL ((vD n 4++[]).take 4),7⟩:KI)=_;rw[pX (by omega) (by omega),hb,show (16*d+s)/16=d by omega,show (16*d+s)%16=s by omega,show (16*c+p)/16=c by omega,show (16*c+p)%16=p by omega,full4,oJ 4 n (by omega)];rfl
 | cond k n hk hn hx =>
  have hf:=qU f7 hk;refine⟨_,hf,rP hf M (rS (by omega) (by omega) (by omega) (by omega) (by omega) (by omega)) ?_⟩;show (⟨_,0,0,-1,0,sxL (byL (n%256)).toNat 8,2⟩:KI)=_;rw[sA,hx]
 | jump k n hk hn =>
  have hf:=qU f8 hk;refine⟨_,hf,rP hf M (rS (by omega) (by omega) (by omega) (by omega) (by omega) (by omega)) ?_⟩;show (⟨_,0,0,-1,0,getL ((vD n 4++[]).take 4),5⟩:KI)=_;rw[full4,oJ 4 n (by omega)]
 | sys n hn =>
  have hf:=qU f9 (k:=0) (by omega);refine⟨_,hf,rP hf M (rS (by omega) (by omega) (by omega) (by omega) (by omega) (by omega)) ?_⟩;show (⟨_,0,0,-1,0,(byL (n%256)).toNat,2⟩:KI)=_;rw[sA,Nat.mod_eq_of_lt hn]
 | getc d s hd hs =>
  have hf:=qU f10 (k:=0) (by omega);refine⟨_,hf,rP hf M (rS (by omega) (by omega) (by omega) (by omega) (by omega) (by omega)) ?_⟩;show (⟨_,((wZ (Int.ofNat (((d:Int).toNat <<< 4) ||| (s:Int).toNat))).toNat/16:Nat),((wZ (Int.ofNat (((d:Int).toNat <<< 4) ||| (s:Int).toNat))).toNat%16:Nat),-1,0,0,2⟩:KI)=_;rw[pX (by omega) (by omega),show (16*d+s)/16=d by omega,show (16*d+s)%16=s by omega]
 | setc d s hd hs =>
  have hf:=qU f10 (k:=1) (by omega);refine⟨_,hf,rP hf M (rS (by omega) (by omega) (by omega) (by omega) (by omega) (by omega)) ?_⟩;show (⟨_,((wZ (Int.ofNat (((d:Int).toNat <<< 4) ||| (s:Int).toNat))).toNat/16:Nat),((wZ (Int.ofNat (((d:Int).toNat <<< 4) ||| (s:Int).toNat))).toNat%16:Nat),-1,0,0,2⟩:KI)=_;rw[pX (by omega) (by omega),show (16*d+s)/16=d by omega,show (16*d+s)%16=s by omega]
end Go.Proofs.YtkaepknpplhgkaaGreatDoor
