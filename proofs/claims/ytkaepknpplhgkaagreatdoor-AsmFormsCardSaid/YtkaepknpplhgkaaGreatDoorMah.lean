/- Instructions of K read from bytes (kcode.Decode). -/
import Derived.Test.YtkaepknpplhgkaaGreatDoorMag
import Derived.Test.YtkaepknpplhgkaaGreatDoorMaa
import Derived.Test.YtkaepknpplhgkaaGreatDoorMaY
import Derived.Test.YtkaepknpplhgkaaGreatDoorMac
namespace Go.Proofs.YtkaepknpplhgkaaGreatDoor
open Go.RowKit
theorem takeFs_imm:∀(l:List Fld) (b:Bs) (i:KI),i.imm<4294967296→(xN b i l).imm<4294967296
 | [],_,_,h=>h
 | f::l,b,i,h=>by
  refine takeFs_imm l _ _ ?_;cases f
  case small=>exact sxL_lt7 _ 8 (.inl rfl)
  case plain=>have:=UInt8.toNat_lt (b.headD 0);show (b.headD 0).toNat<_;omega
  case full =>
   have h1:=getL_lt (b.take 4);have h2:(b.take 4).length≤4:=List.length_take_le ..;have:256 ^ (b.take 4).length≤256 ^ 4:=Nat.pow_le_pow_right (by omega) h2;show getL (b.take 4)<_;omega
  case index =>
   show (if b.headD 0=8 then i else _:KI).imm<_
   split<;>exact h
  all_goals exact h
abbrev ki0:KI:=⟨0,0,0,0,0,0,0⟩
def DcPost (s:Bs) (w:World) (e:Ending) (w':World):Prop:=Ext w w'∧match decK s with
 | some i=>e=.returned (.tuple #[.agg (kiC i).toArray,.int .i64 0])
 | none=>e=.returned (.tuple #[.agg (kiC ki0).toArray,.int .i64 10])∨e=.returned (.tuple #[.agg (kiC ki0).toArray,.int .i64 12])
set_option maxHeartbeats 1000000 in
set_option maxRecDepth 100000 in
theorem decode_any (s:Bs) (hs:s.length≤1000000000) (w_0:World):Calls Tryz.prog 27 #[.string ⟨s.toArray⟩] w_0 (DcPost s w_0):=by
 unfold DcPost
 cases s with
 | nil =>
  refine zS (args:=[.string ⟨([]:Bs).toArray⟩]) Tryz.func27 M 37 M (Nat.le_of_ble_eq_true M)<|Z1 0 M<|zV (H':=Hp (fun _=>False) w_0 [] [] (fun _=>True)) (fun u hu=>?_) ?_
  ·subst hu;exact Hp.start0
  refine zX<|zZ<|zO .none M (yW (z:=.agg #[.int .i64 0,.int .i64 0,.int .i64 0,.int .i64 0,.int .i64 0,.int .u32 0,.int .i64 0]) (cs:=[.int .i64 0,.int .i64 0,.int .i64 0,.int .i64 0,.int .i64 0,.int .u32 0,.int .i64 0]) (by kernel_rfl) M) (fun b2=>?_);refine Za M M<|ZX<|zX<|zZ<|Zm M M<|ZF M (xL M M Tryz.underlying9)<|ZT<|zR M (fun h8=>?_) (fun h8=>?_)
  ·refine zX<|Z4r 0 2 3 8 M M M M<|ZF M (yV [.int .i64 0,.int .i64 0,.int .i64 0,.int .i64 0,.int .i64 0,.int .u32 0,.int .i64 0] [(0,1),(1,1),(2,1),(3,1),(4,1),(5,1),(6,1)] M (by kernel_rfl) (by kernel_rfl) M) ?_;refine ZR 0 M M M M M (by kernel_rfl) ?_;refine Za M M<|ZT<|zQ<|zE<|sV M M M 0 M Tryz.underlying35 M (by kernel_rfl) (fun w hw=>?_);exact⟨hw.ext0,.inl rfl⟩
  ·exact absurd h8 (by decide)
 | cons c r =>
  have hcl:=UInt8.toNat_lt c;have hk:=fmtK_P (c.toNat:Int);have hf:=fun w=>find_any (c.toNat:Int) w;unfold FdPost at hf
  have hdk:decK (c::r)=match rX c.toNat with
    | none=>none
    | some (n,l)=>if (c::r).length<n then none else
     let i:=xN (((c::r).take n).drop 1) ⟨c.toNat,0,0,-1,0,0,n⟩ l
     if (vJ i).isSome=true then some i else none:=rfl
  cases hp:fmtP (c.toNat:Int) with
  | none =>
   rw[hp] at hk hf;have hv:decK (c::r)=none:=by rw[hdk,hk];rfl
   rw[hv];refine zS (args:=[.string ⟨(c::r).toArray⟩]) Tryz.func27 M 37 M (Nat.le_of_ble_eq_true M)<|Z1 0 M<|zV (H':=Hp (fun _=>False) w_0 [] [] (fun _=>True)) (fun u hu=>?_) ?_
   ·subst hu;exact Hp.start0
   refine zX<|zZ<|zO .none M (yW (z:=.agg #[.int .i64 0,.int .i64 0,.int .i64 0,.int .i64 0,.int .i64 0,.int .u32 0,.int .i64 0]) (cs:=[.int .i64 0,.int .i64 0,.int .i64 0,.int .i64 0,.int .i64 0,.int .u32 0,.int .i64 0]) (by kernel_rfl) M) (fun b2=>?_);refine Za M M<|ZX<|zX<|zZ<|Zm M M<|ZF M (xL M M Tryz.underlying9)<|ZT<|zR M (fun h8=>?_) (fun h8=>?_)
   ·simp at h8
   ·refine zM<|zT<|zX<|Z4r 0 2 3 8 M M M M<|Zm M M<|ZF M (wF M M Tryz.underlying9 M M) ?_
    (refine ZF rfl (yO rfl (by kernel_rfl) Tryz.underlying3 (i64_in _ ?_ ?_)) ?_;(· omega);(· omega);skip)
    refine yY .none M  (v:=.tuple #[.agg zFm.toArray,.bool false]) (by kernel_rfl) M (fun w hw=>(hf w).mono fun e w' ⟨h1,h2⟩=>⟨h2,h1⟩) ?_;refine Zm M M<|ZF M (zC M M)<|ZF M (zC M M)<|zO .none M (yW (z:=.agg #[.int .i64 0,.int .i64 0,.int .i64 0,.nilFunc,.nilFunc]) (cs:=[.int .i64 0,.int .i64 0,.int .i64 0,.nilFunc,.nilFunc]) (by kernel_rfl) M) (fun b4=>?_);refine ZR 0 M M M M M (by kernel_rfl) ?_;refine Za M M<|ZX<|zX<|Z6r 0 2 3 4 5 8 M M M M M M<|Zm M M<|ZF M (wG M)<|ZT<|zR M (fun h18=>?_) (fun h18=>?_)
    ·refine zX<|Z7r 0 2 3 4 5 8 18 M M M M M M M<|ZF M (yV [.int .i64 0,.int .i64 0,.int .i64 0,.int .i64 0,.int .i64 0,.int .u32 0,.int .i64 0] [(0,1),(1,1),(2,1),(3,1),(4,1),(5,1),(6,1)] M (by kernel_rfl) (by kernel_rfl) M) ?_;refine ZR 1 M M M M M (by kernel_rfl) ?_;refine Za M M<|ZT<|zQ<|zE<|sV M M M 1 M Tryz.underlying35 M (by kernel_rfl) (fun w hw=>?_);exact⟨hw.ext0,.inr rfl⟩
    ·cases h18
  | some p =>
   rw[hp] at hk hf;have hk':rX (c.toNat:Int)=some (p.2.2.1,p.2.2.2):=hk;obtain⟨hn1,hn3,ho0,ho1⟩:=ndL_fm hk'
   have hdk2:decK (c::r)=if (c::r).length<p.2.2.1 then none else
     if (vJ (xN (((c::r).take p.2.2.1).drop 1) ⟨c.toNat,0,0,-1,0,0,p.2.2.1⟩ p.2.2.2)).isSome=true then some (xN (((c::r).take p.2.2.1).drop 1) ⟨c.toNat,0,0,-1,0,0,p.2.2.1⟩ p.2.2.2) else none:=by rw[hdk,hk']
   rw[hdk2];have him:=takeFs_imm p.2.2.2 (((c::r).take p.2.2.1).drop 1) ⟨c.toNat,0,0,-1,0,0,p.2.2.1⟩ (by show 0<_;omega);obtain⟨i,hi⟩:∃i,i=xN (((c::r).take p.2.2.1).drop 1) ⟨c.toNat,0,0,-1,0,0,p.2.2.1⟩ p.2.2.2:=⟨_,rfl⟩;rw[← hi] at him ⊢
   have hnd:ndL p.2.2.2≤100:=by
    have:∀l:List Fld,ndL l≤4*l.length:=by
     intro l
     induction l with
     | nil=>exact Nat.le_refl _
     | cons f l ih =>
      have:ndF f≤4:=by cases f<;>decide
      show ndF f+ndL l≤4*(l.length+1);omega
    have:=this p.2.2.2;omega
   refine zS (args:=[.string ⟨(c::r).toArray⟩]) Tryz.func27 M 37 M (Nat.le_of_ble_eq_true M)<|Z1 0 M<|zV (H':=Hp (fun _=>False) w_0 [] [] (fun _=>True)) (fun u hu=>?_) ?_
   ·subst hu;exact Hp.start0
   refine zX<|zZ<|zO .none M (yW (z:=.agg #[.int .i64 0,.int .i64 0,.int .i64 0,.int .i64 0,.int .i64 0,.int .u32 0,.int .i64 0]) (cs:=[.int .i64 0,.int .i64 0,.int .i64 0,.int .i64 0,.int .i64 0,.int .u32 0,.int .i64 0]) (by kernel_rfl) M) (fun b2=>?_);refine Za M M<|ZX<|zX<|zZ<|Zm M M<|ZF M (xL M M Tryz.underlying9)<|ZT<|zR M (fun h8=>?_) (fun h8=>?_)
   ·simp at h8
   ·refine zM<|zT<|zX<|Z4r 0 2 3 8 M M M M<|Zm M M<|ZF M (wF M M Tryz.underlying9 M M) ?_
    (refine ZF rfl (yO rfl (by kernel_rfl) Tryz.underlying3 (i64_in _ ?_ ?_)) ?_;(· omega);(· omega);skip)
    refine yS (ι:=Value×Value) (C:=fun v=>IsFn Tryz.prog v.1∧IsFn Tryz.prog v.2) (val:=fun v=>.tuple #[.agg (fmC p v).toArray,.bool true]) (TT:=fun v=>FmV p v) .none M  (by kernel_rfl) M (fun _ h=>h.elim) (fun _=>FmV.lies) (fun w hw=>(hf w).mono fun e w' ⟨h1,v,h2,h3⟩=>⟨v,⟨take_fn h3.1,put_fn h3.2⟩,h2,h1,h3⟩) (fun v F hfn hF=>?_);obtain⟨v1,v2⟩:=v;obtain⟨⟨f1,c1,e1,g1⟩,⟨f2,c2,e2,g2⟩⟩:=hfn;dsimp only at e1 e2;subst e1;subst e2;refine Zm M M<|ZF M (zC M M)<|ZF M (zC M M)<|zO .none M (yW (z:=.agg #[.int .i64 0,.int .i64 0,.int .i64 0,.nilFunc,.nilFunc]) (cs:=[.int .i64 0,.int .i64 0,.int .i64 0,.nilFunc,.nilFunc]) (by kernel_rfl) M) (fun b4=>?_);refine ZR 0 M M M M M (by kernel_rfl) ?_;refine Za M M<|ZX<|zX<|Z6r 0 2 3 4 5 8 M M M M M M<|Zm M M<|ZF M (wG M)<|ZT<|zR M (fun h18=>?_) (fun h18=>?_)
    ·cases h18
    ·refine zM<|zT<|zX<|zX<|Z7r 0 2 3 4 5 8 18 M M M M M M M<|Zm M M<|ZF M (uU M Tryz.underlying9)<|ZF M (zY (off:=2) (sz:=0) M Tryz.underlying135 (by kernel_rfl) M) ?_;refine ZF M (zU 0 M M M Tryz.underlying3 M)<|ZF M (xO M M)<|ZT<|zR M (fun h24=>?_) (fun h24=>?_)
     ·replace h24:=of_decide_eq_true h24;rw[if_pos (by omega)];refine zX<|Z8r 0 2 3 4 5 8 18 24 M M M M M M M M<|ZF M (yV [.int .i64 0,.int .i64 0,.int .i64 0,.int .i64 0,.int .i64 0,.int .u32 0,.int .i64 0] [(0,1),(1,1),(2,1),(3,1),(4,1),(5,1),(6,1)] M (by kernel_rfl) (by kernel_rfl) M) ?_;refine ZR 1 M M M M M (by kernel_rfl) ?_;refine Za M M<|ZT<|zQ<|zE<|sV M M M 1 M Tryz.underlying35 M (by kernel_rfl) (fun w hw=>?_);exact⟨hw.ext0,.inl rfl⟩
     ·replace h24:=of_decide_eq_false h24;rw[if_neg (by omega)];have hlt:((c::r).take p.2.2.1).length=p.2.2.1:=by rw[List.length_take];omega
      refine zM<|zT<|zX<|Z8 0 2 3 4 5 8 18 24 M M M M M M M M<|rU 7 [0,1,2,3,4,5,6] (Blk b4 (bk 135 (fmC p (fcV f1 c1,fcV f2 c2)))) (by kernel_rfl) (by kernel_rfl) Blk.stab (fun w h=>HpG.blk h (k:=0) M) (fun n0 hn0=>?_);refine Zd M M M (xV (cs:=fmC p (fcV f1 c1,fcV f2 c2)) M Tryz.underlying135 M (by kernel_rfl) (fun w hw j v hj=>Blk.cell hw (by rw[Nat.zero_add];exact hj))) ?_;refine Zd M M M (zI M)<|Zd M M M (zY (off:=2) (sz:=0) M Tryz.underlying135 (by kernel_rfl) M) ?_;refine Zd M M M (zD M Tryz.underlying3 M (fun w hw=>Blk.cell hw M)) ?_;refine Zd M M M (yf_strHi (c:=(c::r).take p.2.2.1) M M Tryz.underlying9 (by omega) (by omega) (by rw[Int.toNat_natCast])) ?_;refine sT M ?_
      refine wd_pure .none M  (v:=.agg (kiC i).toArray) (by kernel_rfl) M (fun w w' h hx=>h.onE hx) (fun w hw=>by
       have:=read_any p f1 f2 c1 c2 g1 F ((c::r).take p.2.2.1) c (by rw[List.getElem?_take_of_lt (by omega)];rfl) (by rw[hlt];omega) (by rw[hlt];omega) (by omega) w (HpG.x hw).1.1;rw[← hi] at this
       exact this) ?_
      refine sT M<|wd_newH ?_ .none M (fun k hk=>Nat.lt_of_lt_of_le hk hn0) (yW (z:=.agg #[.int .i64 0,.int .i64 0,.int .i64 0,.int .i64 0,.int .i64 0,.int .u32 0,.int .i64 0]) (cs:=[.int .i64 0,.int .i64 0,.int .i64 0,.int .i64 0,.int .i64 0,.int .u32 0,.int .i64 0]) (by kernel_rfl) M) (fun b6 hb6=>?_)
      ·rfl
      refine wd_endTH ?_;simp only[List.drop_succ_cons,List.drop_zero];refine ZR 0 M M M M M (by kernel_rfl) ?_;refine ZX<|zX<|Z9r 0 2 3 4 5 6 8 18 24 M M M M M M M M M<|ZF M (yM 0 M M Tryz.underlying35 M (by kernel_rfl)) ?_;refine yY .none M  (v:=.bool (vE i)) (by kernel_rfl) M (fun w hw=>valid_any i him w) ?_;refine ZF M (wG M)<|ZT<|zR M (fun h34=>?_) (fun h34=>?_)
      ·have hvf:vE i=false:=by simpa using h34
       rw[if_neg (show ¬(vJ i).isSome=true from fun h=>by unfold vE at hvf;rw[h] at hvf;cases hvf)];refine zX<|Z10r 0 2 3 4 5 6 8 18 24 34 M M M M M M M M M M<|ZF M (yV [.int .i64 0,.int .i64 0,.int .i64 0,.int .i64 0,.int .i64 0,.int .u32 0,.int .i64 0] [(0,1),(1,1),(2,1),(3,1),(4,1),(5,1),(6,1)] M (by kernel_rfl) (by kernel_rfl) M) ?_;refine ZR 2 M M M M M (by kernel_rfl) ?_;refine Za M M<|ZT<|zQ<|zE<|sV M M M 2 M Tryz.underlying35 M (by kernel_rfl) (fun w hw=>?_);exact⟨hw.ext0,.inr rfl⟩
      ·have hvf:vE i=true:=by simpa using h34
       rw[if_pos (show (vJ i).isSome=true from hvf)];refine zM<|zT<|zX<|Z10r 0 2 3 4 5 6 8 18 24 34 M M M M M M M M M M<|ZF M (yM 0 M M Tryz.underlying35 M (by kernel_rfl)) ?_;refine ZR 2 M M M M M (by kernel_rfl) ?_;refine Za M M<|ZT<|zQ<|sV M M M 2 M Tryz.underlying35 M (by kernel_rfl) (fun w hw=>?_);exact⟨hw.ext0,rfl⟩
end Go.Proofs.YtkaepknpplhgkaaGreatDoor
/- The reference's numerals. -/
namespace Go.Proofs.YtkaepknpplhgkaaGreatDoor
open Go.RowKit
theorem decdig8 (m:Nat):IntKind.u8.wrap (IntKind.u32.wrap (48+((m%10:Nat):Int)))=((digC m).toNat:Int):=by
 have h:m%10<10:=Nat.mod_lt _ (by decide);unfold digC;rw[u32_in _ (by omega) (by omega)];have:(UInt8.ofNat (48+m%10)).toNat=48+m%10:=by rw[UInt8.toNat_ofNat'];omega
 rw[this];simp only[IntKind.wrap,IntKind.bits,IntKind.signed];simp;omega
theorem tdivN (n k:Nat):((n:Int)).tdiv (k:Int)=((n/k:Nat):Int):=by
 rw[Int.tdiv_eq_ediv_of_nonneg (by omega)];rfl
theorem tmodE (n k:Nat):((n:Int)).tmod (k:Int)=((n%k:Nat):Int):=by
 rw[Int.tmod_eq_emod_of_nonneg (by omega)];rfl
theorem tdivE (n k:Nat):((n:Int)).tdiv (k:Int)=((n/k:Nat):Int):=tdivN n k
theorem one_at (c:UInt8):∀j (hj:j<([c]:Bs).length),([.int .u8 (c.toNat:Int)]:List Value)[0+j]? = some (.int .u8 (([c]:Bs)[j].toNat:Int)):=fun j hj=>by
 have h0:j=0:=by simpa using hj
 subst h0;rfl
structure DgI (n:Nat) (p:Nat×Bs):Prop where
 e:tL p.1++p.2=Lib.decDigits n
 n:p.1<4294967296
 l:p.2.length+(tL p.1).length≤100
set_option maxHeartbeats 1000000 in
set_option maxRecDepth 100000 in
theorem tZ (n:Nat) (hn:n<4294967296) (w_0:World):Calls Tryz.prog 23 #[.int .u32 n] w_0 fun e w'=>e=.returned (.string ⟨(Lib.decDigits n).toArray⟩)∧Ext w_0 w':=by
 have hln:(Lib.decDigits n).length≤10:=vI (k:=10) (by omega) (by decide);refine zS (args:=[.int .u32 n]) Tryz.func23 M 23 M (Nat.le_of_ble_eq_true M)<|Z1 0 M<|zV (H':=Hp (fun _=>False) w_0 [] [] (fun _=>True)) (fun u hu=>?_) ?_
 ·subst hu;exact Hp.start0
 refine zX<|zZ<|Za M M<|ZX<|zZ<|Zm M M ?_;(refine ZF rfl (yf_rem rfl rfl ?_ (show ((n:Int)).tmod 10=((n%10:Nat):Int) from tmodE n 10)) ?_;(· first|decide|omega);skip);refine ZF M (yL M M M) ?_
 refine ZF M (yO M (by kernel_rfl) Tryz.underlying5 (decdig8 n)) ?_
 refine zO .none M (xD (z:=.int .u8 0) M M Tryz.underlying53 (by kernel_rfl) (by kernel_rfl) M M) (fun b8=>?_)
 refine vA .none M  (uT 0 [digC n] M M Tryz.underlying53 Tryz.underlying5 Tryz.underlying9 M (one_at _)) ?_
 refine Za M M<|ZX<|yZ<|xQ (ι:={p:Nat×Bs // DgI n p}) (fun p=>[(0,.int .u32 (p.1.1:Nat)),(3,.string ⟨p.1.2.toArray⟩)]) (fun p=>Hp (fun _=>False) w_0 [] [] (fun _=>True)) (fun p=>p.1.1) ⟨(n,[digC n]),⟨(dec_pre n).symm,hn,by have:=congrArg List.length (dec_pre n);rw[List.length_append] at this;show ([digC n]:Bs).length+(tL n).length≤100;omega⟩⟩ (O2 M M) (fun w h=>Hp.drop h (List.nil_sublist _) (List.Sublist.refl _)) (fun p=>?_);obtain⟨⟨m,s⟩,he,hm,hl⟩:=p;dsimp only at he hm hl ⊢;refine zX<|zX<|zZ<|Zm M M<|ZF M (vF M M)<|ZT<|zR M (fun h11=>?_) (fun h11=>?_)
 ·replace h11:=of_decide_eq_true h11;have hst:=pre_step (u:=m) (by omega);have hl2:s.length+(tL (m/10)).length+1≤100:=by rw[hst,List.length_append,List.length_cons,List.length_nil] at hl;omega
  refine zM<|zT<|yZ<|zX<|Z3r 0 3 11 M M M<|Zm M M ?_;(refine ZF rfl (yf_quo rfl rfl ?_ (show IntKind.u32.wrap (((m:Nat):Int).tdiv 10)=((m/10:Nat):Int) by rw[show ((m:Nat):Int).tdiv 10=((m/10:Nat):Int) from tdivE m 10];exact u32_in _ (by omega) (by omega))) ?_;(· first|decide|omega);skip);refine Za M M<|ZT<|Z3r 0 3 11 M M M<|Zm M M ?_;(refine ZF rfl (yf_rem rfl rfl ?_ (tmodE (m/10) 10)) ?_;(· first|decide|omega);skip);refine ZF M (yL M M M) ?_
  refine ZF M (yO M (by kernel_rfl) Tryz.underlying5 (decdig8 (m/10))) ?_
  refine zO .none M (xD (z:=.int .u8 0) M M Tryz.underlying53 (by kernel_rfl) (by kernel_rfl) M M) (fun b18=>?_)
  refine vA .none M  (uT 0 [digC (m/10)] M M Tryz.underlying53 Tryz.underlying5 Tryz.underlying9 M (one_at _)) ?_
  refine Zm M M ?_;(refine ZF rfl (zG rfl rfl ?_) ?_;(· (show 1+s.length≤_;omega));skip);refine Za M M<|zJ<|yX<|yJ (ι:={p:Nat×Bs // DgI n p}) ⟨(m/10,[digC (m/10)]++s),⟨by rw[← he,hst,List.append_assoc],by show m/10<_;omega,by show ([digC (m/10)]++s).length+_≤100;rw[List.length_append];show 1+s.length+(tL (m/10)).length≤100;omega⟩⟩ (by show m/10<m;omega) (O2 M M) (fun w h=>Hp.drop h (List.nil_sublist _) (List.Sublist.refl _))
 ·replace h11:=of_decide_eq_false h11;have hp0:tL m=[]:=by unfold tL;rw[if_pos (by omega)]
  rw[hp0] at he;refine xW<|zN<|zN<|xX<|zT<|zX<|Z3r 0 3 11 M M M<|Zm M M<|Za M M<|ZT<|zQ<|zP M M (fun w hw=>?_);exact⟨by rw[← he];rfl,hw.ext0⟩
def tF (n:Nat) (plus:Bool):Bs:=if 2147483648≤n then 45::Lib.decDigits (4294967296-n) else if plus=true then 43::Lib.decDigits n else Lib.decDigits n
theorem sgnP_no (n:Nat):tF n false=sgnB n:=rfl
set_option maxHeartbeats 1000000 in
theorem signed_any (n:Nat) (hn:n<4294967296) (plus:Bool) (w_0:World):Calls Tryz.prog 24 #[.int .u32 n,.bool plus] w_0 fun e w'=>e=.returned (.string ⟨(tF n plus).toArray⟩)∧Ext w_0 w':=by
 have hln:(Lib.decDigits n).length≤10:=vI (k:=10) (by omega) (by decide);have hln2:(Lib.decDigits (4294967296-n)).length≤10:=vI (k:=10) (by omega) (by decide);refine zS (args:=[.int .u32 n,.bool plus]) Tryz.func24 M 17 M (Nat.le_of_ble_eq_true M)<|Z2 0 1 M M<|zV (H':=Hp (fun _=>False) w_0 [] [] (fun _=>True)) (fun u hu=>?_) ?_
 ·subst hu;exact Hp.start0
 refine zX<|zZ<|Za M M<|ZX<|zX<|zZ<|Zm M M<|ZF M (vF M M)<|ZT<|zR M (fun h6=>?_) (fun h6=>?_)
 ·replace h6:=of_decide_eq_true h6;refine zX<|Z4r 0 1 4 6 M M M M<|Zm M M<|ZF M (sX M M (show IntKind.u32.wrap ((0:Int)-(n:Int))=((4294967296-n:Nat):Int) by rw[u32w];omega)) ?_;refine yY .none M  (by kernel_rfl) M (fun w hw=>tZ (4294967296-n) (by omega) w) ?_;(refine ZF rfl (zG rfl rfl ?_) ?_;(· (show 1+_≤_;omega));skip);refine Za M M<|ZT<|zQ<|zE<|zP M M (fun w hw=>?_);exact⟨by unfold tF;rw[if_pos (by omega)];rfl,hw.ext0⟩
 ·replace h6:=of_decide_eq_false h6;refine zM<|zT<|zX<|zX<|Z4r 0 1 4 6 M M M M<|Zm M M<|ZT<|zR M (fun h11=>?_) (fun h11=>?_)
  ·refine zX<|zZ<|Zm M M<|yY .none M  (by kernel_rfl) M (fun w hw=>tZ n hn w) ?_;(refine ZF rfl (zG rfl rfl ?_) ?_;(· (show 1+_≤_;omega));skip);refine Za M M<|ZT<|zQ<|zE<|zP M M (fun w hw=>?_);exact⟨by unfold tF;rw[if_neg (by omega),if_pos h11];rfl,hw.ext0⟩
  ·refine zM<|zT<|zX<|zZ<|Zm M M<|yY .none M  (by kernel_rfl) M (fun w hw=>tZ n hn w) ?_;refine Za M M<|ZT<|zQ<|zP M M (fun w hw=>?_);exact⟨by unfold tF;rw[if_neg (by omega),if_neg (by rw[h11];decide)],hw.ext0⟩
end Go.Proofs.YtkaepknpplhgkaaGreatDoor
/- How long the disassembler's text is. -/
namespace Go.Proofs.YtkaepknpplhgkaaGreatDoor
theorem dec32 {n:Nat}(h:n<4294967296):(Lib.decDigits n).length≤10:=vI (by omega) (by decide)
theorem offB_len {n:Nat}(h:n<4294967296):(offB n).length≤11:=by
 unfold offB
 split
 ·have:=dec32 (n:=4294967296-n) (by omega);rw[List.length_cons];omega
 ·have:=dec32 h;rw[List.length_cons];omega
end Go.Proofs.YtkaepknpplhgkaaGreatDoor
/- Numerals of the disassembler: strconv.FormatUint, Itoa; asm.decimal, signed, offset, reg. -/
namespace Go.Proofs.YtkaepknpplhgkaaGreatDoor
open Go.RowKit Go.Sort
end Go.Proofs.YtkaepknpplhgkaaGreatDoor
/- Lines of instructions of K (asm.LineK). -/
namespace Go.Proofs.YtkaepknpplhgkaaGreatDoor
open Go.RowKit
theorem str_cell {g k:Nat}{l:List Bs}{w:World}(h:Blk g (vX l) w) (hk:k<l.length):w.cell? ⟨g,0+k*1,none⟩=some (.string ⟨(l.getD k []).toArray⟩):=by
 refine Blk.cell h ?_;rw[List.getElem?_map,show 0+k*1=k by omega,List.getElem?_eq_getElem hk,List.getD_eq_getElem?_getD,List.getElem?_eq_getElem hk];rfl
theorem nm_ln {l:List Bs}{m:Nat}(h:(l.all fun x=>decide (x.length≤m))=true) (k:Nat):(l.getD k []).length≤m:=by
 rw[List.getD_eq_getElem?_getD]
 cases e:l[k]? with
 | none=>exact Nat.zero_le _
 | some x=>exact of_decide_eq_true (List.all_eq_true.1 h x (List.mem_of_getElem? e))
end Go.Proofs.YtkaepknpplhgkaaGreatDoor
/- Instructions of K: encoded, and decoded again. -/
namespace Go.Proofs.YtkaepknpplhgkaaGreatDoor
def fmB (n:Nat) (op:Nat→Nat) (z:Nat) (l:List Fld):Bool:=(List.range n).all fun k=>decide (rX ((op k:Nat):Int)=some (z,l))
theorem tM {n:Nat}{op:Nat→Nat}{z:Nat}{l:List Fld}(h:fmB n op z l=true) {k:Nat}(hk:k<n):rX ((op k:Nat):Int)=some (z,l):=of_decide_eq_true (tK h k hk)
theorem fm_all:fmB 5 id 1 []=true∧fmB 6 (16+·) 2 [.reg]=true∧fmB 15 (32+·) 2 [.pair]=true∧fmB 15 (48+·) 3 [.reg,.small]=true∧fmB 15 (64+·) 6 [.reg,.full]=true∧fmB 7 (80+·) 3 [.pair,.small]=true∧fmB 7 (88+·) 7 [.pair,.index,.full]=true∧fmB 14 (96+·) 2 [.small]=true∧fmB 2 (112+·) 5 [.full]=true∧fmB 1 (fun _=>128) 2 [.plain]=true∧fmB 2 (129+·) 2 [.pair]=true:=by
 refine⟨?_,?_,?_,?_,?_,?_,?_,?_,?_,?_,?_⟩<;>kernel_rfl
theorem low_nat {d:Nat}(h:d<256):(xM (d:Int)).toNat=d:=by
 have:=lowB_nat (d:Int);omega
theorem sO {d s:Nat}(hd:d<16) (hs:s<16):(xM (Int.ofNat (((d:Int).toNat <<< 4) ||| (s:Int).toNat))).toNat=16*d+s:=by
 rw[Int.toNat_natCast,Int.toNat_natCast,← Nat.shiftLeft_add_eq_or_of_lt (by omega),Nat.shiftLeft_eq];have:=lowB_nat (Int.ofNat (d*2 ^ 4+s));simp only[Nat.reducePow,Int.ofNat_eq_natCast] at this ⊢;omega
theorem uE {op d s x c z:Int}{m:Nat}(h1:0≤d∧d≤7) (h2:0≤s∧s≤7) (h3:op=129→s≤3) (h4:op=130→s≤4) (h5:-1≤x∧x≤7) (h6:0≤c∧c≤3):rN ⟨op,d,s,x,c,m,z⟩=true:=by
 unfold rN;simp only[Bool.and_eq_true,decide_eq_true_eq];refine⟨⟨⟨h1,h2.1,?_⟩,h5⟩,h6⟩
 split
 ·next h=>exact h3 h
 ·split
  ·next h=>exact h4 h
  ·exact h2.2
theorem uA {i:KI}{z:Nat}{l:List Fld}(hf:rX i.op=some (z,l)) (hz:i.size=z) (hr:rN i=true) (ht:xN (wX i l) ⟨i.op,0,0,-1,0,0,z⟩ l=i):vJ i=some (xM i.op::wX i l):=by
 unfold vJ;rw[hf];dsimp only;rw[if_pos ⟨hz,hr,ht⟩]
theorem full4 (n:Nat) (r:Bs):(wD n 4++r).take 4=wD n 4:=by rw[List.take_left' (put_len n 4)]
/-- What can be encoded is. -/
theorem enc_vk {i:KI}(h:VK i):∃l,rX i.op=some (i.size.toNat,l)∧vJ i=some (xM i.op::wX i l):=by
 obtain⟨f0,f1,f2,f3,f4,f5,f6,f7,f8,f9,f10⟩:=fm_all
 cases h with
 | none k hk =>
  have hf:=tM f0 hk;exact⟨_,hf,uA hf M (uE (by omega) (by omega) (by omega) (by omega) (by omega) (by omega)) rfl⟩
 | reg k d hk hd =>
  have hf:=tM f1 hk;refine⟨_,hf,uA hf M (uE (by omega) (by omega) (by omega) (by omega) (by omega) (by omega)) ?_⟩;show (⟨_,(xM (d:Int)).toNat,0,-1,0,0,2⟩:KI)=_;rw[low_nat (by omega)]
 | regs k d s hk hd hs =>
  have hf:=tM f2 hk;refine⟨_,hf,uA hf M (uE (by omega) (by omega) (by omega) (by omega) (by omega) (by omega)) ?_⟩;show (⟨_,((xM (Int.ofNat (((d:Int).toNat <<< 4) ||| (s:Int).toNat))).toNat/16:Nat),((xM (Int.ofNat (((d:Int).toNat <<< 4) ||| (s:Int).toNat))).toNat%16:Nat),-1,0,0,2⟩:KI)=_;rw[sO (by omega) (by omega),show (16*d+s)/16=d by omega,show (16*d+s)%16=s by omega]
 | short k d n hk hd hn hx =>
  have hf:=tM f3 hk;refine⟨_,hf,uA hf M (uE (by omega) (by omega) (by omega) (by omega) (by omega) (by omega)) ?_⟩;show (⟨_,(xM (d:Int)).toNat,0,-1,0,sxL (byL (n%256)).toNat 8,3⟩:KI)=_;rw[low_nat (by omega),uM,hx];rfl
 | imm k d n hk hd hn =>
  have hf:=tM f4 hk;refine⟨_,hf,uA hf M (uE (by omega) (by omega) (by omega) (by omega) (by omega) (by omega)) ?_⟩;show (⟨_,(xM (d:Int)).toNat,0,-1,0,getL ((wD n 4++[]).take 4),6⟩:KI)=_;rw[low_nat (by omega),full4,rH 4 n (by omega)];rfl
 | mem k d s n hk hd hs hn hx =>
  have hf:=tM f5 hk;refine⟨_,hf,uA hf M (uE (by omega) (by omega) (by omega) (by omega) (by omega) (by omega)) ?_⟩;show (⟨_,((xM (Int.ofNat (((d:Int).toNat <<< 4) ||| (s:Int).toNat))).toNat/16:Nat),((xM (Int.ofNat (((d:Int).toNat <<< 4) ||| (s:Int).toNat))).toNat%16:Nat),-1,0,sxL (byL (n%256)).toNat 8,3⟩:KI)=_;rw[sO (by omega) (by omega),show (16*d+s)/16=d by omega,show (16*d+s)%16=s by omega,uM,hx];rfl
 | idx k d s n x hk hd hs hn hx =>
  have hf:=tM f6 hk
  cases x with
  | none =>
   refine⟨_,hf,uA hf M (uE (by omega) (by omega) (by omega) (by omega) (by show (-1:Int)≤-1∧(-1:Int)≤7;omega) (by show (0:Int)≤0∧(0:Int)≤3;omega)) ?_⟩;show (⟨_,((xM (Int.ofNat (((d:Int).toNat <<< 4) ||| (s:Int).toNat))).toNat/16:Nat),((xM (Int.ofNat (((d:Int).toNat <<< 4) ||| (s:Int).toNat))).toNat%16:Nat),-1,0,getL ((wD n 4++[]).take 4),7⟩:KI)=_;rw[sO (by omega) (by omega),show (16*d+s)/16=d by omega,show (16*d+s)%16=s by omega,full4,rH 4 n (by omega)];rfl
  | some p =>
   obtain⟨p,c⟩:=p;have hp:=hx _ rfl;dsimp only at hp;refine⟨_,hf,uA hf M (uE (by omega) (by omega) (by omega) (by omega) (by show (-1:Int)≤p∧(p:Int)≤7;omega) (by show (0:Int)≤c∧(c:Int)≤3;omega)) ?_⟩;have hb:(xM (Int.ofNat (((c:Int).toNat <<< 4) ||| (p:Int).toNat))).toNat=16*c+p:=sO (by omega) (by omega)
   have h8:¬xM (Int.ofNat (((c:Int).toNat <<< 4) ||| (p:Int).toNat))=8:=fun e=>by
    rw[e] at hb;have:(8:UInt8).toNat=8:=rfl;omega
   have e1:wX ⟨((88+k:Nat):Int),d,s,idxV (some (p,c)),scaV (some (p,c)),n,7⟩ [.pair,.index,.full]=xM (Int.ofNat (((d:Int).toNat <<< 4) ||| (s:Int).toNat))::xM (Int.ofNat (((c:Int).toNat <<< 4) ||| (p:Int).toNat))::(wD n 4++[]):=by
    show [_]++((if (p:Int)<0 then [8] else [_])++(wD n 4++[]))=_;rw[if_neg (by omega)];rfl
   rw[e1];simp only[xN,takeF,List.headD_cons,List.drop_succ_cons,List.drop_zero,if_neg h8];show (⟨_,((xM (Int.ofNat (((d:Int).toNat <<< 4) ||| (s:Int).toNat))).toNat/16:Nat),((xM (Int.ofNat (((d:Int).toNat <<< 4) ||| (s:Int).toNat))).toNat%16:Nat),((xM (Int.ofNat (((c:Int).toNat <<< 4) ||| (p:Int).toNat))).toNat%16:Nat),((xM (Int.ofNat (((c:Int).toNat <<< 4) ||| (p:Int).toNat))).toNat/16:Nat),getL ((wD n 4++[]).take 4),7⟩:KI)=_;rw[sO (by omega) (by omega),hb,show (16*d+s)/16=d by omega,show (16*d+s)%16=s by omega,show (16*c+p)/16=c by omega,show (16*c+p)%16=p by omega,full4,rH 4 n (by omega)];rfl
 | cond k n hk hn hx =>
  have hf:=tM f7 hk;refine⟨_,hf,uA hf M (uE (by omega) (by omega) (by omega) (by omega) (by omega) (by omega)) ?_⟩;show (⟨_,0,0,-1,0,sxL (byL (n%256)).toNat 8,2⟩:KI)=_;rw[uM,hx]
 | jump k n hk hn =>
  have hf:=tM f8 hk;refine⟨_,hf,uA hf M (uE (by omega) (by omega) (by omega) (by omega) (by omega) (by omega)) ?_⟩;show (⟨_,0,0,-1,0,getL ((wD n 4++[]).take 4),5⟩:KI)=_;rw[full4,rH 4 n (by omega)]
 | sys n hn =>
  have hf:=tM f9 (k:=0) (by omega);refine⟨_,hf,uA hf M (uE (by omega) (by omega) (by omega) (by omega) (by omega) (by omega)) ?_⟩;show (⟨_,0,0,-1,0,(byL (n%256)).toNat,2⟩:KI)=_;rw[uM,Nat.mod_eq_of_lt hn]
 | getc d s hd hs =>
  have hf:=tM f10 (k:=0) (by omega);refine⟨_,hf,uA hf M (uE (by omega) (by omega) (by omega) (by omega) (by omega) (by omega)) ?_⟩;show (⟨_,((xM (Int.ofNat (((d:Int).toNat <<< 4) ||| (s:Int).toNat))).toNat/16:Nat),((xM (Int.ofNat (((d:Int).toNat <<< 4) ||| (s:Int).toNat))).toNat%16:Nat),-1,0,0,2⟩:KI)=_;rw[sO (by omega) (by omega),show (16*d+s)/16=d by omega,show (16*d+s)%16=s by omega]
 | setc d s hd hs =>
  have hf:=tM f10 (k:=1) (by omega);refine⟨_,hf,uA hf M (uE (by omega) (by omega) (by omega) (by omega) (by omega) (by omega)) ?_⟩;show (⟨_,((xM (Int.ofNat (((d:Int).toNat <<< 4) ||| (s:Int).toNat))).toNat/16:Nat),((xM (Int.ofNat (((d:Int).toNat <<< 4) ||| (s:Int).toNat))).toNat%16:Nat),-1,0,0,2⟩:KI)=_;rw[sO (by omega) (by omega),show (16*d+s)/16=d by omega,show (16*d+s)%16=s by omega]
theorem dec_vk {i:KI}(h:VK i) {c:Bs}(he:vJ i=some c):decK c=some i:=by
 obtain⟨l,hf,h1⟩:=enc_vk h;rw[h1] at he;cases he;have hs:=sizes_K h1;have hop:0≤i.op∧i.op<256:=by rcases uX hf with h|h|h|h|h|h|h|h|h|h|h<;>omega
 have h0:((xM i.op).toNat:Int)=i.op:=by have:=lowB_nat i.op;omega
 unfold decK;dsimp only;rw[h0,hf];dsimp only;have hl:(xM i.op::wX i l).length=i.size.toNat:=by omega
 rw[if_neg (by omega),← hl,List.take_length,List.drop_succ_cons,List.drop_zero];have h2:=h1;unfold vJ at h2;rw[hf] at h2;dsimp only at h2
 split at h2
 ·next hh =>
  have e:xN (wX i l) ⟨i.op,0,0,-1,0,0,((xM i.op::wX i l).length:Nat)⟩ l=i:=by rw[hl];exact hh.2.2
  rw[e,h1];rfl
 ·cases h2
end Go.Proofs.YtkaepknpplhgkaaGreatDoor
