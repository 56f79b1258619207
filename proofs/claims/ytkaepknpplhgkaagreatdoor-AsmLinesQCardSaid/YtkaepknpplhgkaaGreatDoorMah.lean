import Derived.Test.YtkaepknpplhgkaaGreatDoorMaa
import Derived.Test.YtkaepknpplhgkaaGreatDoorMag
import Derived.Test.YtkaepknpplhgkaaGreatDoorMaY
import Derived.Test.YtkaepknpplhgkaaGreatDoorMac
import Derived.Test.YtkaepknpplhgkaaGreatDoorMaU
set_option maxRecDepth 100000
set_option maxHeartbeats 1000000
namespace Go.Proofs.YtkaepknpplhgkaaGreatDoor
theorem dec32 {n:Nat}(h:n<4294967296):(Lib.decDigits n).length≤10:=uP (by omega) (by decide)
theorem dec16 {n:Nat}(h:n<100):(Lib.decDigits n).length≤2:=uP (by omega) (by decide)
theorem rgB_len {d:Int}(h:d.toNat<100):(rgB d).length≤3:=by
 have:=dec16 h;unfold rgB;rw[Ju];omega
theorem offB_len {n:Nat}(h:n<4294967296):(rL n).length≤11:=by
 unfold rL
 split
 ·have:=dec32 (n:=4294967296-n) (by omega);rw[Ju];omega
 ·have:=dec32 h;rw[Ju];omega
theorem sgnB_len7 {n:Nat}(h:n<4294967296):(sR n).length≤11:=by
 unfold sR
 split
 ·have:=dec32 (n:=4294967296-n) (by omega);rw[Ju];omega
 ·have:=dec32 h;omega
theorem joB_len {k:Nat}:∀{l:List Bs},(∀x∈l,x.length≤k)→(joB l).length≤(k+2)*l.length
 | [],_=>Kv _
 | [x],h=>by
  have:=h x (by simp);show x.length≤(k+2)*1;omega
 | x::y::r,h=>by
  have h1:=h x (by simp);have ih:=joB_len (l:=y::r) fun z hz=>h z (Kq _ hz);have e:(k+2)*(x::y::r).length=(k+2)*(y::r).length+(k+2):=by rw[Ju,Nat.mul_succ]
  rw[joB,Jt,Jt,e]
  ·simp only[Ju,Jv] at ih ⊢;omega
  ·simp
structure SmQ (i:QI):Prop where
 d:i.d.toNat<100
 a:i.a.toNat<100
 b:i.b.toNat<100
 n:i.imm<4294967296
theorem vq_sm {i:QI}(h:VQ i):SmQ i:=by
 cases h
 all_goals exact⟨by dsimp only;omega,by dsimp only;omega,by dsimp only;omega,by dsimp only;omega⟩
theorem prtQ_len {i:QI}(h:SmQ i) (a:Nat) (c:UInt8) (k:Nat):(qJ i a c k).length≤20:=by
 obtain⟨h1,h2,h3,h4⟩:=h;unfold qJ
 split
 ·have:((sH i).getD k 0).toNat<100:=by
   unfold sH
   split
   ·match k with
    | 0=>exact h2
    | 1=>exact h3
    | k+2=>show (0:Int).toNat<100;decide
   ·match k with
    | 0=>exact h1
    | 1=>exact h2
    | 2=>exact h3
    | k+3=>show (0:Int).toNat<100;decide
  have:=rgB_len this;omega
 ·split
  ·unfold tP;have d1:=dec32 (n:=(a+4*i.imm)%4294967296) (Nat.mod_lt _ (by omega));have d2:=dec32 h4;have d3:=sgnB_len7 h4
   split
   ·omega
   ·split<;>omega
  ·have d1:=rgB_len h2;have d2:=offB_len h4;simp only[Jt,Ju,Jv];omega
theorem prtsQ_len {i:QI}(h:SmQ i) (a:Nat):∀(l:List UInt8) (k:Nat),(uT i a l k).length=l.length∧∀x∈uT i a l k,x.length≤20
 | [],_=>⟨rfl,fun _ h=>nomatch h⟩
 | c::l,k=>by
  obtain⟨h1,h2⟩:=prtsQ_len h a l (k+1);refine⟨by show _+1=_+1;rw[h1],fun x hx=>?_⟩;rcases List.mem_cons.1 hx with rfl|hx
  ·exact prtQ_len h a c k
  ·exact h2 x hx
theorem qnmL_len (op:Nat):(wX op).length≤5:=by
 unfold wX;have h:∀p∈sQ,p.2.length≤5:=by decide
 cases hf:sQ.find? (fun p=>Nat.beq p.1 op) with
 | none=>exact Kv _
 | some p=>exact h p (List.mem_of_find?_eq_some hf)
theorem shqL_lenZ (op:Nat):(wY op).length≤3:=by
 unfold wY
 repeat' split
 all_goals decide
theorem lnQ_len {i:QI}(h:VQ i) (a:Nat):(lnQ i a).length≤80:=by
 have hs:=vq_sm h;have d1:=qnmL_len i.op.toNat;have d2:=shqL_lenZ i.op.toNat;obtain⟨p1,p2⟩:=prtsQ_len hs a (wY i.op.toNat) 0;have d3:=joB_len p2;unfold lnQ
 split
 ·omega
 ·rw[p1] at d3;have:(20+2)*(wY i.op.toNat).length≤22*3:=Nat.mul_le_mul_left _ d2;simp only[Jt,Ju,Jv];omega
end Go.Proofs.YtkaepknpplhgkaaGreatDoor
namespace Go.Proofs.YtkaepknpplhgkaaGreatDoor
end Go.Proofs.YtkaepknpplhgkaaGreatDoor
namespace Go.Proofs.YtkaepknpplhgkaaGreatDoor
open Go.RowKit
end Go.Proofs.YtkaepknpplhgkaaGreatDoor
namespace Go.Proofs.YtkaepknpplhgkaaGreatDoor
open Go.RowKit
theorem decdig8 (m:Nat):IntKind.u8.wrap (IntKind.u32.wrap (48+((m%10:Nat):Int)))=((digC m).toNat:Int):=by
 have h:m%10<10:=Nat.mod_lt _ (by decide);unfold digC;rw[uC _ (by omega) (by omega)];have:(UInt8.ofNat (48+m%10)).toNat=48+m%10:=by rw[UInt8.toNat_ofNat'];omega
 rw[this];simp only[IntKind.wrap,IntKind.bits,IntKind.signed];simp;omega
theorem tdivN (n k:Nat):((n:Int)).tdiv (k:Int)=((n/k:Nat):Int):=by
 rw[Int.tdiv_eq_ediv_of_nonneg (by omega)];rfl
theorem tmodE (n k:Nat):((n:Int)).tmod (k:Int)=((n%k:Nat):Int):=by
 rw[Int.tmod_eq_emod_of_nonneg (by omega)];rfl
theorem tdivE (n k:Nat):((n:Int)).tdiv (k:Int)=((n/k:Nat):Int):=tdivN n k
theorem one_at (c:UInt8):∀j (hj:j<([c]:Bs).length),([.int .u8 (c.toNat:Int)]:List Value)[0+j]? = some (.int .u8 (([c]:Bs)[j].toNat:Int)):=fun j hj=>by
 have h0:j=0:=by simpa using hj
 subst h0;rfl
structure DgI (n:Nat) (p:Nat×Bs):Prop where
 e:sI p.1++p.2=Lib.decDigits n
 n:p.1<4294967296
 l:p.2.length+(sI p.1).length≤100
theorem tF (n:Nat) (hn:n<4294967296) (w_0:World):Calls Tryz.prog 23 #[.int .u32 n] w_0 fun e w'=>e=.returned (.string ⟨(Lib.decDigits n).toArray⟩)∧Ext w_0 w':=by
 have hln:(Lib.decDigits n).length≤10:=uP (k:=10) (by omega) (by decide);refine zM (args:=[.int .u32 n]) Tryz.func23 M 23 M (Jy M)<|Z1 0 M<|zU (H':=Hp (fun _=>False) w_0 [] [] (fun _=>True)) (fun u hu=>?_) ?_
 ·subst hu;exact Hp.start0
 refine zX<|zZ<|Za rfl rfl<|ZX<|zZ<|Zm rfl rfl<|ZF rfl (yf_rem rfl rfl (by first|decide|omega) (show ((n:Int)).tmod 10=((n%10:Nat):Int) from tmodE n 10)) ?_;refine ZF M (yP M M M) ?_
 refine ZF M (yQ M (by kernel_rfl) Tryz.underlying5 (decdig8 n)) ?_
 refine zG .none M (xH (z:=.int .u8 0) M M Tryz.underlying53 (by kernel_rfl) (by kernel_rfl) M M) (fun b8=>?_)
 refine sY .none M  (vE 0 [digC n] M M Tryz.underlying53 Tryz.underlying5 Tryz.underlying9 M (one_at _)) ?_
 refine Za M M<|ZX<|yZ<|xQ (ι:={p:Nat×Bs // DgI n p}) (fun p=>[(0,.int .u32 (p.1.1:Nat)),(3,.string ⟨p.1.2.toArray⟩)]) (fun p=>Hp (fun _=>False) w_0 [] [] (fun _=>True)) (fun p=>p.1.1) ⟨(n,[digC n]),⟨(dec_pre n).symm,hn,by have:=congrArg List.length (dec_pre n);rw[Jt] at this;show ([digC n]:Bs).length+(sI n).length≤100;omega⟩⟩ (O2 M M) (fun w h=>Hp.drop h (List.nil_sublist _) (Kc _)) (fun p=>?_);obtain⟨⟨m,s⟩,he,hm,hl⟩:=p;dsimp only at he hm hl ⊢;refine zX<|zX<|zZ<|Zm M M<|ZF M (xJ M M)<|ZT<|zT M (fun h11=>?_) (fun h11=>?_)
 ·replace h11:=Jz h11;have hst:=pre_step (u:=m) (by omega);have hl2:s.length+(sI (m/10)).length+1≤100:=by rw[hst,Jt,Ju,Jv] at hl;omega
  refine zH<|zR<|yZ<|zX<|Z3r 0 3 11 rfl rfl rfl<|Zm rfl rfl<|ZF rfl (yf_quo rfl rfl (by first|decide|omega) (show IntKind.u32.wrap (((m:Nat):Int).tdiv 10)=((m/10:Nat):Int) by rw[show ((m:Nat):Int).tdiv 10=((m/10:Nat):Int) from tdivE m 10];exact uC _ (by omega) (by omega))) ?_;refine Za rfl rfl<|ZT<|Z3r 0 3 11 rfl rfl rfl<|Zm rfl rfl<|ZF rfl (yf_rem rfl rfl (by first|decide|omega) (tmodE (m/10) 10)) ?_;refine ZF M (yP M M M) ?_
  refine ZF M (yQ M (by kernel_rfl) Tryz.underlying5 (decdig8 (m/10))) ?_
  refine zG .none M (xH (z:=.int .u8 0) M M Tryz.underlying53 (by kernel_rfl) (by kernel_rfl) M M) (fun b18=>?_)
  refine sY .none M  (vE 0 [digC (m/10)] M M Tryz.underlying53 Tryz.underlying5 Tryz.underlying9 M (one_at _)) ?_
  refine Zm M M<|ZF M (zB M M (by (show 1+s.length≤_;omega))) ?_;refine Za M M<|zK<|zA<|yM (ι:={p:Nat×Bs // DgI n p}) ⟨(m/10,[digC (m/10)]++s),⟨by rw[← he,hst,Kn],by show m/10<_;omega,by show ([digC (m/10)]++s).length+_≤100;rw[Jt];show 1+s.length+(sI (m/10)).length≤100;omega⟩⟩ (by show m/10<m;omega) (O2 M M) (fun w h=>Hp.drop h (List.nil_sublist _) (Kc _))
 ·replace h11:=Ka h11;have hp0:sI m=[]:=by unfold sI;rw[Kz (by omega)]
  rw[hp0] at he;refine xV<|zI<|zI<|xW<|zR<|zX<|Z3r 0 3 11 M M M<|Zm M M<|Za M M<|ZT<|zS<|zQ M M (fun w hw=>?_);exact⟨by rw[← he];rfl,hw.ext0⟩
def sgnP (n:Nat) (plus:Bool):Bs:=if 2147483648≤n then 45::Lib.decDigits (4294967296-n) else if plus=true then 43::Lib.decDigits n else Lib.decDigits n
theorem signed_any (n:Nat) (hn:n<4294967296) (plus:Bool) (w_0:World):Calls Tryz.prog 24 #[.int .u32 n,.bool plus] w_0 fun e w'=>e=.returned (.string ⟨(sgnP n plus).toArray⟩)∧Ext w_0 w':=by
 have hln:(Lib.decDigits n).length≤10:=uP (k:=10) (by omega) (by decide);have hln2:(Lib.decDigits (4294967296-n)).length≤10:=uP (k:=10) (by omega) (by decide);refine zM (args:=[.int .u32 n,.bool plus]) Tryz.func24 M 17 M (Jy M)<|Z2 0 1 M M<|zU (H':=Hp (fun _=>False) w_0 [] [] (fun _=>True)) (fun u hu=>?_) ?_
 ·subst hu;exact Hp.start0
 refine zX<|zZ<|Za M M<|ZX<|zX<|zZ<|Zm M M<|ZF M (xJ M M)<|ZT<|zT M (fun h6=>?_) (fun h6=>?_)
 ·replace h6:=Jz h6;refine zX<|Z4r 0 1 4 6 M M M M<|Zm M M<|ZF M (tM M M (show IntKind.u32.wrap ((0:Int)-(n:Int))=((4294967296-n:Nat):Int) by rw[u32w];omega)) ?_;refine zE .none M  (by kernel_rfl) M (fun w hw=>tF (4294967296-n) (by omega) w) ?_;refine ZF M (zB M M (by (show 1+_≤_;omega))) ?_;refine Za M M<|ZT<|zS<|zO<|zQ M M (fun w hw=>?_);exact⟨by unfold sgnP;rw[Kz (by omega)];rfl,hw.ext0⟩
 ·replace h6:=Ka h6;refine zH<|zR<|zX<|zX<|Z4r 0 1 4 6 M M M M<|Zm M M<|ZT<|zT M (fun h11=>?_) (fun h11=>?_)
  ·refine zX<|zZ<|Zm M M<|zE .none M  (by kernel_rfl) M (fun w hw=>tF n hn w) ?_;refine ZF M (zB M M (by (show 1+_≤_;omega))) ?_;refine Za M M<|ZT<|zS<|zO<|zQ M M (fun w hw=>?_);exact⟨by unfold sgnP;rw[Ky (by omega),Kz h11];rfl,hw.ext0⟩
  ·refine zH<|zR<|zX<|zZ<|Zm M M<|zE .none M  (by kernel_rfl) M (fun w hw=>tF n hn w) ?_;refine Za M M<|ZT<|zS<|zQ M M (fun w hw=>?_);exact⟨by unfold sgnP;rw[Ky (by omega),Ky (by rw[h11];decide)],hw.ext0⟩
end Go.Proofs.YtkaepknpplhgkaaGreatDoor
namespace Go.Proofs.YtkaepknpplhgkaaGreatDoor
open Go.RowKit Go.Sort
theorem yf_sliceArrHi {P:Program}{n:Fr}{m:List (Nat×Value)}{ty:TypeId}{H:World→Prop}{x hi:Operand}{t e:TypeId}{k:IntKind}{g o i size N:Nat}{j:Int}(hx:ev m x=some (.pointer (some ⟨g,o,none⟩))) (hh:ev m hi=some (.int k j)) (ht:P.underlying t=some (.array N e)) (hs':(P.info? e).map (·.size)=some size) (hj:j=i) (hi':i≤N) :
  YF P (.slice t x none (some hi) none) ty n m H (.slice (some ⟨g,o,none⟩) i N):=fun _ w d pos af gd hs hw=>by
 subst hj;simp[Yl,execOp,hs.ev hx,hs.ev hh,Instr.sliceAt,Instr.sureAddr,run_underlying ht,Instr.sliceBounds,Instr.sliceBound,asIntOf,wA hs',Addr.add];intro hlt;omega
abbrev encB (b:UInt8):Value:=.int .u8 (b.toNat:Int)
theorem put_dec {u v':Nat}{dk:Array UInt8}(h:Lib.FmtInv (Lib.nDigits u) u 0 v' dk) (hn:Lib.nDigits u≤24):putCells encB 0 dk (List.replicate 24 (Value.int .u8 0)).toArray=((Lib.decDigits u).map encB++List.replicate (24-Lib.nDigits u) (Value.int .u8 0)).toArray:=by
 have hl:=Lib.decDigits_length u;have hs:=h.size;apply Array.ext
 ·simp[putCells,hl];omega
 ·intro j h1 h2;have hj:j<24:=by simpa [putCells] using h1
  simp only[putCells,Array.getElem_mapIdx,Kv,true_and,Ku,Nat.sub_zero,List.getElem_toArray]
  by_cases hjn:j<Lib.nDigits u
  ·rw[Kz (by omega),List.getElem_append_left (by simp[hl];omega),List.getElem_map,Lib.row_is_numeral h j (by omega)]
  ·rw[Ky (by omega),List.getElem_append_right (by simp[hl];omega),List.getElem_replicate,List.getElem_replicate]
theorem fmt10_turn (u:Nat) (hu:u<18446744073709551616) (g T:Nat) (w:World) (hg:w.heap[g]? = some (bk T (List.replicate 24 (Value.int .u8 0)))) (hn:Lib.nDigits u≤20) :
  Calls Tryz.prog 235 #[.slice (some ⟨g,0,none⟩) (Lib.nDigits u) 24,.int .u64 u] w fun e w'=>e=.returned (.tuple #[])∧Keep (fun j=>j=g) w w'∧w'.heap[g]? = some (bk T ((Lib.decDigits u).map encB++List.replicate (24-Lib.nDigits u) (.int .u8 0))):=by
 have hH:Holds encB w g 0 (Array.replicate (Lib.nDigits u) 0):=fun j hj=>by
  have hj':j<Lib.nDigits u:=by simpa using hj
  refine⟨?_,Lib.frozen_of_heap hg _⟩;rw[cell_of_row w g _ _ _ _ hg,Ku,List.getElem?_toArray,List.getElem?_replicate,Kz (by omega)];have e:(Array.replicate (Lib.nDigits u) (0:UInt8))[j]! = 0:=by rw[getElem!_pos (Array.replicate (Lib.nDigits u) (0:UInt8)) j hj,Array.getElem_replicate]
  rw[e];rfl
 have:=Tryz.internal_strconv_formatBase10 g 0 24 u (Array.replicate (Lib.nDigits u) 0) w hH (by rw[Array.size_replicate];exact Lib.lt_pow_nDigits u) hu (by rw[Array.size_replicate];omega)
 rw[Array.size_replicate] at this;refine this.mono ?_
 rintro e w' ⟨rfl,k,v',dk,rfl,hF⟩
 have hh:((putRow encB w g 0 dk).drewN k).heap=w.heap.modify g (onCells (putCells encB 0 dk)):=rfl;refine⟨rfl,⟨rfl,rfl,rfl,?_,?_⟩,?_⟩
 ·rw[hh];simp
 ·intro j _ hj;rw[hh,Array.getElem?_modify,Ky (fun e=>hj e.symm)]
 ·rw[hh,Array.getElem?_modify,Kz rfl,hg];show some (Obj.cells (putCells encB 0 dk (List.replicate 24 (Value.int .u8 0)).toArray) T (0,0))=_;rw[put_dec hF (by omega)]
theorem nd_le {u:Nat}(h:u<18446744073709551616):Lib.nDigits u≤20:=by
 rw[← Lib.decDigits_length];exact uP (by omega) (by decide)
theorem fu10_any (u:Nat) (hu:u<4294967296) (w_0:World) (hT:TbN w_0):Calls Tryz.prog 206 #[.int .u64 u,.int .i64 10] w_0 fun e w'=>e=.returned (.string ⟨(Lib.decDigits u).toArray⟩)∧Ext w_0 w':=by
 have hnd:=nd_le (u:=u) (by omega);refine zM (args:=[.int .u64 u,.int .i64 10]) Tryz.func206 M 32 M (Jy M)<|Z2 0 1 M M<|zU (H':=Hp (fun _=>False) w_0 [] [] (fun _=>True)) (fun u hu=>?_) ?_
 ·subst hu;exact Hp.start0
 refine zX<|zZ<|Za M M<|ZX<|zX<|zZ<|Zm M M<|ZF M (yR M M)<|ZT<|zT M (fun hc=>?_) (fun hc=>?_)
 ·replace hc:=Ki hc;refine zX<|zX<|Z4r 0 1 4 10 M M M M<|Zm M M<|ZF M (xT M M)<|ZT<|zT M (fun hc=>?_) (fun hc=>?_)
  ·replace hc:=Jz hc;refine zX<|Z5r 0 1 4 10 12 M M M M M<|Zm M M ?_
   refine ZF M (yQ M (by kernel_rfl) Tryz.underlying3 (i64_in _ (by omega) (by omega))) ?_
   refine zE .none M (by kernel_rfl) M (fun w hw=>(Tryz.internal_strconv_small u (by omega) w).mono fun e w' ⟨h1,h2⟩=>⟨h1,by subst h2;exact Ext.refl _⟩) ?_
   refine Za M M<|ZT<|zS<|zO<|zO<|zQ M M (fun w hw=>?_);exact⟨rfl,hw.ext0⟩
  ·replace hc:=Ka hc;refine zH<|zR<|zX<|Z5r 0 1 4 10 12 M M M M M<|zG .none M (yT (z:=.agg #[.int .u8 0,.int .u8 0,.int .u8 0,.int .u8 0,.int .u8 0,.int .u8 0,.int .u8 0,.int .u8 0,.int .u8 0,.int .u8 0,.int .u8 0,.int .u8 0,.int .u8 0,.int .u8 0,.int .u8 0,.int .u8 0,.int .u8 0,.int .u8 0,.int .u8 0,.int .u8 0,.int .u8 0,.int .u8 0,.int .u8 0,.int .u8 0]) (cs:=[.int .u8 0,.int .u8 0,.int .u8 0,.int .u8 0,.int .u8 0,.int .u8 0,.int .u8 0,.int .u8 0,.int .u8 0,.int .u8 0,.int .u8 0,.int .u8 0,.int .u8 0,.int .u8 0,.int .u8 0,.int .u8 0,.int .u8 0,.int .u8 0,.int .u8 0,.int .u8 0,.int .u8 0,.int .u8 0,.int .u8 0,.int .u8 0]) (by kernel_rfl) M) (fun b5=>?_);refine ZX<|zZ<|Zm M M ?_
   refine zE .none M (by kernel_rfl) M (fun w hw=>(Tryz.internal_strconv_numDigits u (by omega) (by omega) w (hT.ext hw.ext0)).mono fun e w' ⟨h1,h2⟩=>⟨h1,by subst h2;exact Ext.refl _⟩) ?_
   refine Za M M<|ZX<|Z7r 0 1 4 5 6 10 12 M M M M M M M<|Zm M M<|ZF M (yf_sliceArrHi (size:=1) M M Tryz.underlying259 (by kernel_rfl) M (by omega)) ?_;refine Zm M M<|xS (ι:=Unit) (val:=fun _=>.tuple #[]) (H':=fun _=>Hp (fun _=>False) w_0 [(b5,bk 259 ((Lib.decDigits u).map encB++List.replicate (24-Lib.nDigits u) (.int .u8 0)))] [] (fun _=>True)) .none M  (uO (by kernel_rfl) M (fun w hw=>(fmt10_turn u (by omega) b5 259 w (HpG.own hw _ (List.mem_singleton_self _)) hnd).mono fun e w' ⟨e1,e2,e3⟩=>⟨_,e1,(),rfl,HpG.turn hw (k:=0) M e2 e3⟩)) (fun _=>?_);refine ZX<|Z7r 0 1 4 5 6 10 12 M M M M M M M<|Zm M M<|ZF M (yf_sliceArrHi (size:=1) M M Tryz.underlying259 (by kernel_rfl) M (by omega)) ?_
   refine ZF M (vE 0 (Lib.decDigits u) M M Tryz.underlying53 Tryz.underlying5 Tryz.underlying9 (Lib.decDigits_length u) (fun j hj=>by rw[Ku,List.getElem?_append_left (by rw[Ab];exact hj),List.getElem?_map,Kf hj];rfl)) ?_
   refine Za M M<|ZT<|zS<|zO<|zQ M M (fun w hw=>?_);exact⟨rfl,hw.ext0⟩
 ·replace hc:=yL hc;exact absurd M hc
theorem sfu_any (u:Nat) (hu:u<4294967296) (w_0:World) (hT:TbN w_0):Calls Tryz.prog 152 #[.int .u64 u,.int .i64 10] w_0 fun e w'=>e=.returned (.string ⟨(Lib.decDigits u).toArray⟩)∧Ext w_0 w':=by
 refine zM (args:=[.int .u64 u,.int .i64 10]) Tryz.func152 M 8 M (Jy M)<|Z2 0 1 M M<|zU (H':=Hp (fun _=>False) w_0 [] [] (fun _=>True)) (fun u hu=>?_) ?_
 ·subst hu;exact Hp.start0
 refine zX<|zZ<|Za M M<|ZX<|zZ<|Zm M M<|Zm M M<|zE .none M (by kernel_rfl) M (fun w hw=>fu10_any u hu w (hT.ext hw.ext0)) ?_;refine Za M M<|ZT<|zS<|zQ M M (fun w hw=>?_);exact⟨rfl,hw.ext0⟩
theorem itoa_any (n:Int) (h0:-9223372036854775808≤n) (h1:n≤9223372036854775807) (w:World) (hT:TbN w):Calls Tryz.prog 68 #[.int .i64 n] w fun e w'=>e=.returned (.string ⟨(Lib.itoa n).toArray⟩)∧Ext w w' :=
 (Tryz.strconv_Itoa n h0 h1 w hT).mono fun e w' ⟨e1,k,os,e2⟩=>⟨e1,by subst e2;exact Lib.below_grow _ w (Kw _) k os⟩
theorem sN (n:Nat) (hn:n<4294967296) (w_0:World) (hT:TbN w_0):Calls Tryz.prog 70 #[.int .u32 n] w_0 fun e w'=>e=.returned (.string ⟨(Lib.decDigits n).toArray⟩)∧Ext w_0 w':=by
 refine zM (args:=[.int .u32 n]) Tryz.func70 M 6 M (Jy M)<|Z1 0 M<|zU (H':=Hp (fun _=>False) w_0 [] [] (fun _=>True)) (fun u hu=>?_) ?_
 ·subst hu;exact Hp.start0
 refine zX<|zZ<|Za M M<|ZX<|zZ<|Zm M M ?_
 refine ZF M (yQ M (by kernel_rfl) Tryz.underlying210 (u64_in _ (by omega) (by omega))) ?_
 refine zE .none M (by kernel_rfl) M (fun w hw=>sfu_any n hn w (hT.ext hw.ext0)) ?_;refine Za M M<|ZT<|zS<|zQ M M (fun w hw=>?_);exact⟨rfl,hw.ext0⟩
theorem sgn_i32 (n:Nat) (hn:n<4294967296):IntKind.i32.wrap (n:Int)=uU n:=by
 simp only[IntKind.wrap,IntKind.bits,IntKind.signed];unfold uU;simp
 split<;>omega
theorem itoa_sgn (n:Nat) (hn:n<4294967296):Lib.itoa (uU n)=sR n:=by
 unfold uU sR Lib.itoa
 by_cases h:n<2147483648
 ·rw[Kz h,Ky (by omega),Ky (by omega),Int.toNat_natCast]
 ·rw[Ky h,Kz (by omega),Kz (by omega)];congr 2;omega
theorem sgnI_rng (n:Nat) (hn:n<4294967296):-2147483648≤uU n∧uU n≤2147483647:=by unfold uU;split<;>omega
theorem signedA_any (n:Nat) (hn:n<4294967296) (w_0:World) (hT:TbN w_0):Calls Tryz.prog 65 #[.int .u32 n] w_0 fun e w'=>e=.returned (.string ⟨(sR n).toArray⟩)∧Ext w_0 w':=by
 have hr:=sgnI_rng n hn;refine zM (args:=[.int .u32 n]) Tryz.func65 M 7 M (Jy M)<|Z1 0 M<|zU (H':=Hp (fun _=>False) w_0 [] [] (fun _=>True)) (fun u hu=>?_) ?_
 ·subst hu;exact Hp.start0
 refine zX<|zZ<|Za M M<|ZX<|zZ<|Zm M M ?_
 refine ZF M (yQ M (by kernel_rfl) Tryz.underlying21 (sgn_i32 n hn)) ?_
 refine ZF M (yQ M (by kernel_rfl) Tryz.underlying3 (i64_in _ (by omega) (by omega))) ?_
 refine zE .none M (v:=.string ⟨(sR n).toArray⟩) (by kernel_rfl) M (fun w hw=>by rw[← itoa_sgn n hn];exact itoa_any (uU n) (by omega) (by omega) w (hT.ext hw.ext0)) ?_;refine Za M M<|ZT<|zS<|zQ M M (fun w hw=>?_);exact⟨rfl,hw.ext0⟩
theorem offset_any (n:Nat) (hn:n<4294967296) (w_0:World) (hT:TbN w_0):Calls Tryz.prog 67 #[.int .u32 n] w_0 fun e w'=>e=.returned (.string ⟨(rL n).toArray⟩)∧Ext w_0 w':=by
 have hln:(Lib.decDigits n).length≤10:=uP (k:=10) (by omega) (by decide);refine zM (args:=[.int .u32 n]) Tryz.func67 M 11 M (Jy M)<|Z1 0 M<|zU (H':=Hp (fun _=>False) w_0 [] [] (fun _=>True)) (fun u hu=>?_) ?_
 ·subst hu;exact Hp.start0
 refine zX<|zZ<|Za M M<|ZX<|zX<|zZ<|Zm M M ?_
 refine ZF M (yQ M (by kernel_rfl) Tryz.underlying21 (sgn_i32 n hn)) ?_
 refine ZF M (xT M M)<|ZT<|zT M (fun h5=>?_) (fun h5=>?_)
 ·replace h5:=Jz h5;refine zX<|Z3r 0 2 5 M M M<|Zm M M<|zE .none M (by kernel_rfl) M (fun w hw=>signedA_any n hn w (hT.ext hw.ext0)) ?_;refine Za M M<|ZT<|zS<|zO<|zQ M M (fun w hw=>?_);exact⟨by unfold uU at h5;unfold rL sR;rw[Kz (by split at h5<;>omega),Kz (by split at h5<;>omega)],hw.ext0⟩
 ·replace h5:=Ka h5;refine zH<|zR<|zX<|Z3r 0 2 5 M M M<|Zm M M<|zE .none M (by kernel_rfl) M (fun w hw=>sN n hn w (hT.ext hw.ext0)) ?_;refine ZF M (zB M M (by (rw[show ([43]:Bs).length=1 from rfl];omega))) ?_;refine Za M M<|ZT<|zS<|zQ M M (fun w hw=>?_);exact⟨by unfold uU at h5;unfold rL;rw[Ky (by split at h5<;>omega)];rfl,hw.ext0⟩
theorem regA_any (n:Int) (h0:0≤n) (h1:n≤9223372036854775807) (w_0:World) (hT:TbN w_0):Calls Tryz.prog 60 #[.int .i64 n] w_0 fun e w'=>e=.returned (.string ⟨(rgB n).toArray⟩)∧Ext w_0 w':=by
 have hi:Lib.itoa n=Lib.decDigits n.toNat:=Ky (by omega);have hln:(Lib.decDigits n.toNat).length≤19:=uP (k:=19) (by omega) (by decide);refine zM (args:=[.int .i64 n]) Tryz.func60 M 6 M (Jy M)<|Z1 0 M<|zU (H':=Hp (fun _=>False) w_0 [] [] (fun _=>True)) (fun u hu=>?_) ?_
 ·subst hu;exact Hp.start0
 refine zX<|zZ<|Za M M<|ZX<|zZ<|Zm M M<|zE .none M (v:=.string ⟨(Lib.decDigits n.toNat).toArray⟩) (by kernel_rfl) M (fun w hw=>by rw[← hi];exact itoa_any n (by omega) h1 w (hT.ext hw.ext0)) ?_;refine ZF M (zB M M (by (rw[show ([114]:Bs).length=1 from rfl];omega))) ?_;refine Za M M<|ZT<|zS<|zQ M M (fun w hw=>?_);exact⟨rfl,hw.ext0⟩
end Go.Proofs.YtkaepknpplhgkaaGreatDoor
namespace Go.Proofs.YtkaepknpplhgkaaGreatDoor
open Go.RowKit
theorem AsT.ext' {w w':World}(h:AsT w) (hx:Ext w w'):AsT w':=h.foot (Below.block hx _ h.lt)
end Go.Proofs.YtkaepknpplhgkaaGreatDoor
namespace Go.Proofs.YtkaepknpplhgkaaGreatDoor
open Go.RowKit
section
variable {P:Program}{ops:Array Oper}{Q:Exit→Act→World→Prop}{n:Fr}
theorem Hp.swapL {B:Nat→Prop}{w0 w:World}{L L':List (Nat×Obj)}{R:List Rw}{X:World→Prop}(h:Hp B w0 L R X w) (hp:L.Perm L'):Hp B w0 L' R X w:=by
 have hm:(L'.map (·.1)).Perm (L.map (·.1)):=(hp.map _).symm
 have hb:(wL L' R).Perm (wL L R):=by
  unfold wL;exact hm.append_right _
 obtain⟨F,hF,hX⟩:=h.foot;exact⟨h.keep,fun p hm=>h.own p (hp.mem_iff.2 hm),fun p hm=>h.mine p (hp.mem_iff.2 hm),h.rows,hb.nodup_iff.2 h.nd,fun _ _=>trivial,F,fun k hk=>⟨(hF k hk).1,(hF k hk).2.1,fun hm=>(hF k hk).2.2.1 (hb.mem_iff.1 hm),trivial⟩,hX⟩
end
end Go.Proofs.YtkaepknpplhgkaaGreatDoor
