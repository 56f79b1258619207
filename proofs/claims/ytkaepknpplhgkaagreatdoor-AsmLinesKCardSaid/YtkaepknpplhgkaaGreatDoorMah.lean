import Derived.Test.YtkaepknpplhgkaaGreatDoorMaa
import Derived.Test.YtkaepknpplhgkaaGreatDoorMag
import Derived.Test.YtkaepknpplhgkaaGreatDoorMaY
import Derived.Test.YtkaepknpplhgkaaGreatDoorMac
import Derived.Test.YtkaepknpplhgkaaGreatDoorMaU
set_option maxRecDepth 100000
set_option maxHeartbeats 4000000
namespace Go.Proofs.YtkaepknpplhgkaaGreatDoor
theorem getD_len {l:List Bs}{k:Nat}(h:∀x∈l,x.length≤k) (n:Nat):(l.getD n []).length≤k:=by
 rw[Ki]
 cases hn:l[n]? with
 | none=>exact Kr _
 | some x=>exact h x (Kb hn)
theorem dec32 {n:Nat}(h:n<4294967296):(Lib.decDigits n).length≤10:=wS (by omega) (by decide)
theorem dec16 {n:Nat}(h:n<100):(Lib.decDigits n).length≤2:=wS (by omega) (by decide)
theorem rgB_len {d:Int}(h:d.toNat<100):(rgB d).length≤3:=by
 have:=dec16 h;unfold rgB;rw[Jq];omega
theorem offB_len {n:Nat}(h:n<4294967296):(uE n).length≤11:=by
 unfold uE
 split
 ·have:=dec32 (n:=4294967296-n) (by omega);rw[Jq];omega
 ·have:=dec32 h;rw[Jq];omega
theorem sgnB_len7 {n:Nat}(h:n<4294967296):(tL n).length≤11:=by
 unfold tL
 split
 ·have:=dec32 (n:=4294967296-n) (by omega);rw[Jq];omega
 ·have:=dec32 h;omega
structure SmK (i:KI):Prop where
 d:i.d.toNat<100
 s:i.s.toNat<100
 x:i.index.toNat<100
 c:i.scale.toNat<4
 n:i.imm<4294967296
theorem vk_sm {i:KI}(h:VK i):SmK i:=by
 cases h
 case idx k d s n x hk hd hs hn hx =>
  cases x with
  | none=>exact⟨by show ((d:Nat):Int).toNat<_;omega,by show ((s:Nat):Int).toNat<_;omega,by show (-1:Int).toNat<100;decide,by show (0:Int).toNat<4;decide,hn⟩
  | some p =>
   have:=hx p rfl;exact⟨by show ((d:Nat):Int).toNat<_;omega,by show ((s:Nat):Int).toNat<_;omega,by show ((p.1:Nat):Int).toNat<_;omega,by show ((p.2:Nat):Int).toNat<_;omega,hn⟩
 all_goals exact⟨by dsimp only;omega,by dsimp only;omega,by dsimp only;omega,by dsimp only;omega,by dsimp only;omega⟩
theorem lnK_len {i:KI}(h:VK i) (a:Nat):(lnK i a).length≤50:=by
 obtain⟨h1,h2,h3,h4,h5⟩:=vk_sm h;have d1:=rgB_len h1;have d2:=rgB_len h2;have d3:=rgB_len h3
 have d4:(Lib.decDigits (2 ^ i.scale.toNat)).length≤2:=dec16 (by
  have:2 ^ i.scale.toNat≤2 ^ 3:=Nat.pow_le_pow_right (by omega) (by omega)
  omega)
 have d5:=sgnB_len7 h5;have d6:=offB_len h5;have d7:=dec32 h5;have d8:(Lib.decDigits (toK i a)).length≤10:=dec32 (Nat.mod_lt _ (by omega));have d9:=dec16 h2;have e1:=getD_len (l:=noneL) (k:=5) (by decide);have e2:=getD_len (l:=singL) (k:=5) (by decide);have e3:=getD_len (l:=ariL) (k:=5) (by decide);have e4:=getD_len (l:=accL) (k:=5) (by decide);have e5:=getD_len (l:=vX) (k:=5) (by decide);have f1:=e1 i.op.toNat;have f2:=e2 (i.op-16).toNat;have f3:=e3 (i.op-32).toNat;have f4:=e3 (i.op-48).toNat;have f5:=e3 (i.op-64).toNat;have f6:=e4 (i.op-80).toNat;have f7:=e4 (i.op-88).toNat;have f8:=e5 (i.op-96).toNat;unfold lnK
 have g:(if 0≤i.index then [43]++rgB i.index++[42]++Lib.decDigits (2 ^ i.scale.toNat) else ([]:Bs)).length≤7:=by
  split
  ·simp only[Jp,Jq,Jr];omega
  ·simp
 generalize (if 0≤i.index then [43]++rgB i.index++[42]++Lib.decDigits (2 ^ i.scale.toNat) else ([]:Bs))=gg at g ⊢;have hif:∀{p:Prop} [Decidable p] {x y:Bs},x.length≤50→y.length≤50→(if p then x else y).length≤50:=fun {p} _ {x y} h k=>by split<;>assumption
 refine hif ?_ (hif ?_ (hif ?_ (hif ?_ (hif ?_ (hif ?_ (hif ?_ (hif ?_ (hif ?_ (hif ?_ (hif ?_ (hif ?_ ?_)))))))))))
 all_goals first
 | omega
 | (simp only[Jp,Jq,Jr];omega)
end Go.Proofs.YtkaepknpplhgkaaGreatDoor
namespace Go.Proofs.YtkaepknpplhgkaaGreatDoor
def fmB (n:Nat) (op:Nat→Nat) (z:Nat) (l:List Fld):Bool:=(List.range n).all fun k=>decide (qJ ((op k:Nat):Int)=some (z,l))
theorem vY {n:Nat}{op:Nat→Nat}{z:Nat}{l:List Fld}(h:fmB n op z l=true) {k:Nat}(hk:k<n):qJ ((op k:Nat):Int)=some (z,l):=Jv (sQ h k hk)
theorem fm_all:fmB 5 id 1 []=true∧fmB 6 (16+·) 2 [.reg]=true∧fmB 15 (32+·) 2 [.pair]=true∧fmB 15 (48+·) 3 [.reg,.small]=true∧fmB 15 (64+·) 6 [.reg,.full]=true∧fmB 7 (80+·) 3 [.pair,.small]=true∧fmB 7 (88+·) 7 [.pair,.index,.full]=true∧fmB 14 (96+·) 2 [.small]=true∧fmB 2 (112+·) 5 [.full]=true∧fmB 1 (fun _=>128) 2 [.plain]=true∧fmB 2 (129+·) 2 [.pair]=true:=by
 refine⟨?_,?_,?_,?_,?_,?_,?_,?_,?_,?_,?_⟩<;>kernel_rfl
theorem low_nat {d:Nat}(h:d<256):(lowB (d:Int)).toNat=d:=by
 have:=lowB_nat (d:Int);omega
theorem rE {d s:Nat}(hd:d<16) (hs:s<16):(lowB (Int.ofNat (((d:Int).toNat <<< 4) ||| (s:Int).toNat))).toNat=16*d+s:=by
 rw[Int.toNat_natCast,Int.toNat_natCast,← Nat.shiftLeft_add_eq_or_of_lt (by omega),Nat.shiftLeft_eq];have:=lowB_nat (Int.ofNat (d*2 ^ 4+s));simp only[Nat.reducePow,Int.ofNat_eq_natCast] at this ⊢;omega
theorem sX {op d s x c z:Int}{m:Nat}(h1:0≤d∧d≤7) (h2:0≤s∧s≤7) (h3:op=129→s≤3) (h4:op=130→s≤4) (h5:-1≤x∧x≤7) (h6:0≤c∧c≤3):qL ⟨op,d,s,x,c,m,z⟩=true:=by
 unfold qL;simp only[Kp,Kt];refine⟨⟨⟨h1,h2.1,?_⟩,h5⟩,h6⟩
 split
 ·next h=>exact h3 h
 ·split
  ·next h=>exact h4 h
  ·exact h2.2
theorem sT {i:KI}{z:Nat}{l:List Fld}(hf:qJ i.op=some (z,l)) (hz:i.size=z) (hr:qL i=true) (ht:wM (vZ i l) ⟨i.op,0,0,-1,0,0,z⟩ l=i):uP i=some (lowB i.op::vZ i l):=by
 unfold uP;rw[hf];dsimp only;rw[Kv ⟨hz,hr,ht⟩]
theorem full4 (n:Nat) (r:Bs):(wK n 4++r).take 4=wK n 4:=by rw[List.take_left' (put_len n 4)]
theorem enc_vk {i:KI}(h:VK i):∃l,qJ i.op=some (i.size.toNat,l)∧uP i=some (lowB i.op::vZ i l):=by
 obtain⟨f0,f1,f2,f3,f4,f5,f6,f7,f8,f9,f10⟩:=fm_all
 cases h with
 | none k hk =>
  have hf:=vY f0 hk;exact⟨_,hf,sT hf M (sX (by omega) (by omega) (by omega) (by omega) (by omega) (by omega)) rfl⟩
 | reg k d hk hd =>
  have hf:=vY f1 hk;refine⟨_,hf,sT hf M (sX (by omega) (by omega) (by omega) (by omega) (by omega) (by omega)) ?_⟩;show (⟨_,(lowB (d:Int)).toNat,0,-1,0,0,2⟩:KI)=_;rw[low_nat (by omega)]
 | regs k d s hk hd hs =>
  have hf:=vY f2 hk;refine⟨_,hf,sT hf M (sX (by omega) (by omega) (by omega) (by omega) (by omega) (by omega)) ?_⟩;show (⟨_,((lowB (Int.ofNat (((d:Int).toNat <<< 4) ||| (s:Int).toNat))).toNat/16:Nat),((lowB (Int.ofNat (((d:Int).toNat <<< 4) ||| (s:Int).toNat))).toNat%16:Nat),-1,0,0,2⟩:KI)=_;rw[rE (by omega) (by omega),show (16*d+s)/16=d by omega,show (16*d+s)%16=s by omega]
 | short k d n hk hd hn hx =>
  have hf:=vY f3 hk;refine⟨_,hf,sT hf M (sX (by omega) (by omega) (by omega) (by omega) (by omega) (by omega)) ?_⟩;show (⟨_,(lowB (d:Int)).toNat,0,-1,0,sxL (byL (n%256)).toNat 8,3⟩:KI)=_;rw[low_nat (by omega),tD,hx];rfl
 | imm k d n hk hd hn =>
  have hf:=vY f4 hk;refine⟨_,hf,sT hf M (sX (by omega) (by omega) (by omega) (by omega) (by omega) (by omega)) ?_⟩;show (⟨_,(lowB (d:Int)).toNat,0,-1,0,getL ((wK n 4++[]).take 4),6⟩:KI)=_;rw[low_nat (by omega),full4,pR 4 n (by omega)];rfl
 | mem k d s n hk hd hs hn hx =>
  have hf:=vY f5 hk;refine⟨_,hf,sT hf M (sX (by omega) (by omega) (by omega) (by omega) (by omega) (by omega)) ?_⟩;show (⟨_,((lowB (Int.ofNat (((d:Int).toNat <<< 4) ||| (s:Int).toNat))).toNat/16:Nat),((lowB (Int.ofNat (((d:Int).toNat <<< 4) ||| (s:Int).toNat))).toNat%16:Nat),-1,0,sxL (byL (n%256)).toNat 8,3⟩:KI)=_;rw[rE (by omega) (by omega),show (16*d+s)/16=d by omega,show (16*d+s)%16=s by omega,tD,hx];rfl
 | idx k d s n x hk hd hs hn hx =>
  have hf:=vY f6 hk
  cases x with
  | none =>
   refine⟨_,hf,sT hf M (sX (by omega) (by omega) (by omega) (by omega) (by show (-1:Int)≤-1∧(-1:Int)≤7;omega) (by show (0:Int)≤0∧(0:Int)≤3;omega)) ?_⟩;show (⟨_,((lowB (Int.ofNat (((d:Int).toNat <<< 4) ||| (s:Int).toNat))).toNat/16:Nat),((lowB (Int.ofNat (((d:Int).toNat <<< 4) ||| (s:Int).toNat))).toNat%16:Nat),-1,0,getL ((wK n 4++[]).take 4),7⟩:KI)=_;rw[rE (by omega) (by omega),show (16*d+s)/16=d by omega,show (16*d+s)%16=s by omega,full4,pR 4 n (by omega)];rfl
  | some p =>
   obtain⟨p,c⟩:=p;have hp:=hx _ rfl;dsimp only at hp;refine⟨_,hf,sT hf M (sX (by omega) (by omega) (by omega) (by omega) (by show (-1:Int)≤p∧(p:Int)≤7;omega) (by show (0:Int)≤c∧(c:Int)≤3;omega)) ?_⟩;have hb:(lowB (Int.ofNat (((c:Int).toNat <<< 4) ||| (p:Int).toNat))).toNat=16*c+p:=rE (by omega) (by omega)
   have h8:¬lowB (Int.ofNat (((c:Int).toNat <<< 4) ||| (p:Int).toNat))=8:=fun e=>by
    rw[e] at hb;have:(8:UInt8).toNat=8:=rfl;omega
   have e1:vZ ⟨((88+k:Nat):Int),d,s,idxV (some (p,c)),scaV (some (p,c)),n,7⟩ [.pair,.index,.full]=lowB (Int.ofNat (((d:Int).toNat <<< 4) ||| (s:Int).toNat))::lowB (Int.ofNat (((c:Int).toNat <<< 4) ||| (p:Int).toNat))::(wK n 4++[]):=by
    show [_]++((if (p:Int)<0 then [8] else [_])++(wK n 4++[]))=_;rw[Ku (by omega)];rfl
   rw[e1];simp only[wM,takeF,List.headD_cons,Kh,Kl,Ku h8];show (⟨_,((lowB (Int.ofNat (((d:Int).toNat <<< 4) ||| (s:Int).toNat))).toNat/16:Nat),((lowB (Int.ofNat (((d:Int).toNat <<< 4) ||| (s:Int).toNat))).toNat%16:Nat),((lowB (Int.ofNat (((c:Int).toNat <<< 4) ||| (p:Int).toNat))).toNat%16:Nat),((lowB (Int.ofNat (((c:Int).toNat <<< 4) ||| (p:Int).toNat))).toNat/16:Nat),getL ((wK n 4++[]).take 4),7⟩:KI)=_;rw[rE (by omega) (by omega),hb,show (16*d+s)/16=d by omega,show (16*d+s)%16=s by omega,show (16*c+p)/16=c by omega,show (16*c+p)%16=p by omega,full4,pR 4 n (by omega)];rfl
 | cond k n hk hn hx =>
  have hf:=vY f7 hk;refine⟨_,hf,sT hf M (sX (by omega) (by omega) (by omega) (by omega) (by omega) (by omega)) ?_⟩;show (⟨_,0,0,-1,0,sxL (byL (n%256)).toNat 8,2⟩:KI)=_;rw[tD,hx]
 | jump k n hk hn =>
  have hf:=vY f8 hk;refine⟨_,hf,sT hf M (sX (by omega) (by omega) (by omega) (by omega) (by omega) (by omega)) ?_⟩;show (⟨_,0,0,-1,0,getL ((wK n 4++[]).take 4),5⟩:KI)=_;rw[full4,pR 4 n (by omega)]
 | sys n hn =>
  have hf:=vY f9 (k:=0) (by omega);refine⟨_,hf,sT hf M (sX (by omega) (by omega) (by omega) (by omega) (by omega) (by omega)) ?_⟩;show (⟨_,0,0,-1,0,(byL (n%256)).toNat,2⟩:KI)=_;rw[tD,Nat.mod_eq_of_lt hn]
 | getc d s hd hs =>
  have hf:=vY f10 (k:=0) (by omega);refine⟨_,hf,sT hf M (sX (by omega) (by omega) (by omega) (by omega) (by omega) (by omega)) ?_⟩;show (⟨_,((lowB (Int.ofNat (((d:Int).toNat <<< 4) ||| (s:Int).toNat))).toNat/16:Nat),((lowB (Int.ofNat (((d:Int).toNat <<< 4) ||| (s:Int).toNat))).toNat%16:Nat),-1,0,0,2⟩:KI)=_;rw[rE (by omega) (by omega),show (16*d+s)/16=d by omega,show (16*d+s)%16=s by omega]
 | setc d s hd hs =>
  have hf:=vY f10 (k:=1) (by omega);refine⟨_,hf,sT hf M (sX (by omega) (by omega) (by omega) (by omega) (by omega) (by omega)) ?_⟩;show (⟨_,((lowB (Int.ofNat (((d:Int).toNat <<< 4) ||| (s:Int).toNat))).toNat/16:Nat),((lowB (Int.ofNat (((d:Int).toNat <<< 4) ||| (s:Int).toNat))).toNat%16:Nat),-1,0,0,2⟩:KI)=_;rw[rE (by omega) (by omega),show (16*d+s)/16=d by omega,show (16*d+s)%16=s by omega]
end Go.Proofs.YtkaepknpplhgkaaGreatDoor
namespace Go.Proofs.YtkaepknpplhgkaaGreatDoor
open Go.RowKit
end Go.Proofs.YtkaepknpplhgkaaGreatDoor
namespace Go.Proofs.YtkaepknpplhgkaaGreatDoor
open Go.RowKit
theorem decdig8 (m:Nat):IntKind.u8.wrap (IntKind.u32.wrap (48+((m%10:Nat):Int)))=((digC m).toNat:Int):=by
 have h:m%10<10:=Nat.mod_lt _ (by decide);unfold digC;rw[rI _ (by omega) (by omega)];have:(UInt8.ofNat (48+m%10)).toNat=48+m%10:=by rw[UInt8.toNat_ofNat'];omega
 rw[this];simp only[IntKind.wrap,IntKind.bits,IntKind.signed];simp;omega
theorem tdivN (n k:Nat):((n:Int)).tdiv (k:Int)=((n/k:Nat):Int):=by
 rw[Int.tdiv_eq_ediv_of_nonneg (by omega)];rfl
theorem tmodE (n k:Nat):((n:Int)).tmod (k:Int)=((n%k:Nat):Int):=by
 rw[Int.tmod_eq_emod_of_nonneg (by omega)];rfl
theorem tdivE (n k:Nat):((n:Int)).tdiv (k:Int)=((n/k:Nat):Int):=tdivN n k
theorem one_at (c:UInt8):∀j (hj:j<([c]:Bs).length),([.int .u8 (c.toNat:Int)]:List Value)[0+j]? = some (.int .u8 (([c]:Bs)[j].toNat:Int)):=fun j hj=>by
 have h0:j=0:=by simpa using hj
 subst h0;rfl
structure DgI (n:Nat) (p:Nat×Bs):Prop where
 e:rY p.1++p.2=Lib.decDigits n
 n:p.1<4294967296
 l:p.2.length+(rY p.1).length≤100
theorem uO (n:Nat) (hn:n<4294967296) (w_0:World):Calls Tryz.prog 23 #[.int .u32 n] w_0 fun e w'=>e=.returned (.string ⟨(Lib.decDigits n).toArray⟩)∧Ext w_0 w':=by
 have hln:(Lib.decDigits n).length≤10:=wS (k:=10) (by omega) (by decide);refine zO (args:=[.int .u32 n]) Tryz.func23 M 23 M (Ju M)<|Z1 0 M<|zS (H':=Hp (fun _=>False) w_0 [] [] (fun _=>True)) (fun u hu=>?_) ?_
 ·subst hu;exact Hp.start0
 refine zX<|zY<|Za rfl rfl<|ZX<|zY<|Zm rfl rfl<|ZF rfl (yf_rem rfl rfl (by first|decide|omega) (show ((n:Int)).tmod 10=((n%10:Nat):Int) from tmodE n 10)) ?_;refine ZF M (yN M M M) ?_
 refine ZF M (yV M (by kernel_rfl) Tryz.underlying5 (decdig8 n)) ?_
 refine zL .none M (xV (z:=.int .u8 0) M M Tryz.underlying53 (by kernel_rfl) (by kernel_rfl) M M) (fun b8=>?_)
 refine tQ .none M  (uF 0 [digC n] M M Tryz.underlying53 Tryz.underlying5 Tryz.underlying9 M (one_at _)) ?_
 refine Za M M<|ZX<|yW<|xF (ι:={p:Nat×Bs // DgI n p}) (fun p=>[(0,.int .u32 (p.1.1:Nat)),(3,.string ⟨p.1.2.toArray⟩)]) (fun p=>Hp (fun _=>False) w_0 [] [] (fun _=>True)) (fun p=>p.1.1) ⟨(n,[digC n]),⟨(dec_pre n).symm,hn,by have:=congrArg List.length (dec_pre n);rw[Jp] at this;show ([digC n]:Bs).length+(rY n).length≤100;omega⟩⟩ (O2 M M) (fun w h=>Hp.drop h (List.nil_sublist _) (Jy _)) (fun p=>?_);obtain⟨⟨m,s⟩,he,hm,hl⟩:=p;dsimp only at he hm hl ⊢;refine zX<|zX<|zY<|Zm M M<|ZF M (xD M M)<|ZT<|zT M (fun h11=>?_) (fun h11=>?_)
 ·replace h11:=Jv h11;have hst:=pre_step (u:=m) (by omega);have hl2:s.length+(rY (m/10)).length+1≤100:=by rw[hst,Jp,Jq,Jr] at hl;omega
  refine zI<|zU<|yW<|zX<|Z3r 0 3 11 rfl rfl rfl<|Zm rfl rfl<|ZF rfl (yf_quo rfl rfl (by first|decide|omega) (show IntKind.u32.wrap (((m:Nat):Int).tdiv 10)=((m/10:Nat):Int) by rw[show ((m:Nat):Int).tdiv 10=((m/10:Nat):Int) from tdivE m 10];exact rI _ (by omega) (by omega))) ?_;refine Za rfl rfl<|ZT<|Z3r 0 3 11 rfl rfl rfl<|Zm rfl rfl<|ZF rfl (yf_rem rfl rfl (by first|decide|omega) (tmodE (m/10) 10)) ?_;refine ZF M (yN M M M) ?_
  refine ZF M (yV M (by kernel_rfl) Tryz.underlying5 (decdig8 (m/10))) ?_
  refine zL .none M (xV (z:=.int .u8 0) M M Tryz.underlying53 (by kernel_rfl) (by kernel_rfl) M M) (fun b18=>?_)
  refine tQ .none M  (uF 0 [digC (m/10)] M M Tryz.underlying53 Tryz.underlying5 Tryz.underlying9 M (one_at _)) ?_
  refine Zm M M<|ZF M (zN M M (by (show 1+s.length≤_;omega))) ?_;refine Za M M<|zK<|yY<|yE (ι:={p:Nat×Bs // DgI n p}) ⟨(m/10,[digC (m/10)]++s),⟨by rw[← he,hst,Kj],by show m/10<_;omega,by show ([digC (m/10)]++s).length+_≤100;rw[Jp];show 1+s.length+(rY (m/10)).length≤100;omega⟩⟩ (by show m/10<m;omega) (O2 M M) (fun w h=>Hp.drop h (List.nil_sublist _) (Jy _))
 ·replace h11:=Jw h11;have hp0:rY m=[]:=by unfold rY;rw[Kv (by omega)]
  rw[hp0] at he;refine xJ<|yZ<|yZ<|xK<|zU<|zX<|Z3r 0 3 11 M M M<|Zm M M<|Za M M<|ZT<|zQ<|zP M M (fun w hw=>?_);exact⟨by rw[← he];rfl,hw.ext0⟩
def uH (n:Nat) (plus:Bool):Bs:=if 2147483648≤n then 45::Lib.decDigits (4294967296-n) else if plus=true then 43::Lib.decDigits n else Lib.decDigits n
theorem sgnP_no (n:Nat):uH n false=tL n:=rfl
theorem signed_any (n:Nat) (hn:n<4294967296) (plus:Bool) (w_0:World):Calls Tryz.prog 24 #[.int .u32 n,.bool plus] w_0 fun e w'=>e=.returned (.string ⟨(uH n plus).toArray⟩)∧Ext w_0 w':=by
 have hln:(Lib.decDigits n).length≤10:=wS (k:=10) (by omega) (by decide);have hln2:(Lib.decDigits (4294967296-n)).length≤10:=wS (k:=10) (by omega) (by decide);refine zO (args:=[.int .u32 n,.bool plus]) Tryz.func24 M 17 M (Ju M)<|Z2 0 1 M M<|zS (H':=Hp (fun _=>False) w_0 [] [] (fun _=>True)) (fun u hu=>?_) ?_
 ·subst hu;exact Hp.start0
 refine zX<|zY<|Za M M<|ZX<|zX<|zY<|Zm M M<|ZF M (xD M M)<|ZT<|zT M (fun h6=>?_) (fun h6=>?_)
 ·replace h6:=Jv h6;refine zX<|Z4r 0 1 4 6 M M M M<|Zm M M<|ZF M (xS M M (show IntKind.u32.wrap ((0:Int)-(n:Int))=((4294967296-n:Nat):Int) by rw[u32w];omega)) ?_;refine zE .none M  (by kernel_rfl) M (fun w hw=>uO (4294967296-n) (by omega) w) ?_;refine ZF M (zN M M (by (show 1+_≤_;omega))) ?_;refine Za M M<|ZT<|zQ<|zJ<|zP M M (fun w hw=>?_);exact⟨by unfold uH;rw[Kv (by omega)];rfl,hw.ext0⟩
 ·replace h6:=Jw h6;refine zI<|zU<|zX<|zX<|Z4r 0 1 4 6 M M M M<|Zm M M<|ZT<|zT M (fun h11=>?_) (fun h11=>?_)
  ·refine zX<|zY<|Zm M M<|zE .none M  (by kernel_rfl) M (fun w hw=>uO n hn w) ?_;refine ZF M (zN M M (by (show 1+_≤_;omega))) ?_;refine Za M M<|ZT<|zQ<|zJ<|zP M M (fun w hw=>?_);exact⟨by unfold uH;rw[Ku (by omega),Kv h11];rfl,hw.ext0⟩
  ·refine zI<|zU<|zX<|zY<|Zm M M<|zE .none M  (by kernel_rfl) M (fun w hw=>uO n hn w) ?_;refine Za M M<|ZT<|zQ<|zP M M (fun w hw=>?_);exact⟨by unfold uH;rw[Ku (by omega),Ku (by rw[h11];decide)],hw.ext0⟩
end Go.Proofs.YtkaepknpplhgkaaGreatDoor
namespace Go.Proofs.YtkaepknpplhgkaaGreatDoor
open Go.RowKit Go.Sort
theorem yf_sliceArrHi {P:Program}{n:Fr}{m:List (Nat×Value)}{ty:TypeId}{H:World→Prop}{x hi:Operand}{t e:TypeId}{k:IntKind}{g o i size N:Nat}{j:Int}(hx:ev m x=some (.pointer (some ⟨g,o,none⟩))) (hh:ev m hi=some (.int k j)) (ht:P.underlying t=some (.array N e)) (hs':(P.info? e).map (·.size)=some size) (hj:j=i) (hi':i≤N) :
  YF P (.slice t x none (some hi) none) ty n m H (.slice (some ⟨g,o,none⟩) i N):=fun _ w d pos af gd hs hw=>by
 subst hj;simp[Yl,execOp,hs.ev hx,hs.ev hh,Instr.sliceAt,Instr.sureAddr,run_underlying ht,Instr.sliceBounds,Instr.sliceBound,asIntOf,vE hs',Addr.add];intro hlt;omega
abbrev encB (b:UInt8):Value:=.int .u8 (b.toNat:Int)
theorem put_dec {u v':Nat}{dk:Array UInt8}(h:Lib.FmtInv (Lib.nDigits u) u 0 v' dk) (hn:Lib.nDigits u≤24):putCells encB 0 dk (List.replicate 24 (Value.int .u8 0)).toArray=((Lib.decDigits u).map encB++List.replicate (24-Lib.nDigits u) (Value.int .u8 0)).toArray:=by
 have hl:=Lib.decDigits_length u;have hs:=h.size;apply Array.ext
 ·simp[putCells,hl];omega
 ·intro j h1 h2;have hj:j<24:=by simpa [putCells] using h1
  simp only[putCells,Array.getElem_mapIdx,Kr,true_and,Kq,Nat.sub_zero,List.getElem_toArray]
  by_cases hjn:j<Lib.nDigits u
  ·rw[Kv (by omega),List.getElem_append_left (by simp[hl];omega),List.getElem_map,Lib.row_is_numeral h j (by omega)]
  ·rw[Ku (by omega),List.getElem_append_right (by simp[hl];omega),List.getElem_replicate,List.getElem_replicate]
theorem fmt10_turn (u:Nat) (hu:u<18446744073709551616) (g T:Nat) (w:World) (hg:w.heap[g]? = some (bk T (List.replicate 24 (Value.int .u8 0)))) (hn:Lib.nDigits u≤20) :
  Calls Tryz.prog 235 #[.slice (some ⟨g,0,none⟩) (Lib.nDigits u) 24,.int .u64 u] w fun e w'=>e=.returned (.tuple #[])∧Keep (fun j=>j=g) w w'∧w'.heap[g]? = some (bk T ((Lib.decDigits u).map encB++List.replicate (24-Lib.nDigits u) (.int .u8 0))):=by
 have hH:Holds encB w g 0 (Array.replicate (Lib.nDigits u) 0):=fun j hj=>by
  have hj':j<Lib.nDigits u:=by simpa using hj
  refine⟨?_,Lib.frozen_of_heap hg _⟩;rw[cell_of_row w g _ _ _ _ hg,Kq,List.getElem?_toArray,List.getElem?_replicate,Kv (by omega)];have e:(Array.replicate (Lib.nDigits u) (0:UInt8))[j]! = 0:=by rw[getElem!_pos (Array.replicate (Lib.nDigits u) (0:UInt8)) j hj,Array.getElem_replicate]
  rw[e];rfl
 have:=Tryz.internal_strconv_formatBase10 g 0 24 u (Array.replicate (Lib.nDigits u) 0) w hH (by rw[Array.size_replicate];exact Lib.lt_pow_nDigits u) hu (by rw[Array.size_replicate];omega)
 rw[Array.size_replicate] at this;refine this.mono ?_
 rintro e w' ⟨rfl,k,v',dk,rfl,hF⟩
 have hh:((putRow encB w g 0 dk).drewN k).heap=w.heap.modify g (onCells (putCells encB 0 dk)):=rfl;refine⟨rfl,⟨rfl,rfl,rfl,?_,?_⟩,?_⟩
 ·rw[hh];simp
 ·intro j _ hj;rw[hh,Array.getElem?_modify,Ku (fun e=>hj e.symm)]
 ·rw[hh,Array.getElem?_modify,Kv rfl,hg];show some (Obj.cells (putCells encB 0 dk (List.replicate 24 (Value.int .u8 0)).toArray) T (0,0))=_;rw[put_dec hF (by omega)]
theorem nd_le {u:Nat}(h:u<18446744073709551616):Lib.nDigits u≤20:=by
 rw[← Lib.decDigits_length];exact wS (by omega) (by decide)
theorem fu10_any (u:Nat) (hu:u<4294967296) (w_0:World) (hT:TbN w_0):Calls Tryz.prog 206 #[.int .u64 u,.int .i64 10] w_0 fun e w'=>e=.returned (.string ⟨(Lib.decDigits u).toArray⟩)∧Ext w_0 w':=by
 have hnd:=nd_le (u:=u) (by omega);refine zO (args:=[.int .u64 u,.int .i64 10]) Tryz.func206 M 32 M (Ju M)<|Z2 0 1 M M<|zS (H':=Hp (fun _=>False) w_0 [] [] (fun _=>True)) (fun u hu=>?_) ?_
 ·subst hu;exact Hp.start0
 refine zX<|zY<|Za M M<|ZX<|zX<|zY<|Zm M M<|ZF M (zG M M)<|ZT<|zT M (fun hc=>?_) (fun hc=>?_)
 ·replace hc:=Ke hc;refine zX<|zX<|Z4r 0 1 4 10 M M M M<|Zm M M<|ZF M (xR M M)<|ZT<|zT M (fun hc=>?_) (fun hc=>?_)
  ·replace hc:=Jv hc;refine zX<|Z5r 0 1 4 10 12 M M M M M<|Zm M M ?_
   refine ZF M (yV M (by kernel_rfl) Tryz.underlying3 (i64_in _ (by omega) (by omega))) ?_
   refine zE .none M (by kernel_rfl) M (fun w hw=>(Tryz.internal_strconv_small u (by omega) w).mono fun e w' ⟨h1,h2⟩=>⟨h1,by subst h2;exact Ext.refl _⟩) ?_
   refine Za M M<|ZT<|zQ<|zJ<|zJ<|zP M M (fun w hw=>?_);exact⟨rfl,hw.ext0⟩
  ·replace hc:=Jw hc;refine zI<|zU<|zX<|Z5r 0 1 4 10 12 M M M M M<|zL .none M (yQ (z:=.agg #[.int .u8 0,.int .u8 0,.int .u8 0,.int .u8 0,.int .u8 0,.int .u8 0,.int .u8 0,.int .u8 0,.int .u8 0,.int .u8 0,.int .u8 0,.int .u8 0,.int .u8 0,.int .u8 0,.int .u8 0,.int .u8 0,.int .u8 0,.int .u8 0,.int .u8 0,.int .u8 0,.int .u8 0,.int .u8 0,.int .u8 0,.int .u8 0]) (cs:=[.int .u8 0,.int .u8 0,.int .u8 0,.int .u8 0,.int .u8 0,.int .u8 0,.int .u8 0,.int .u8 0,.int .u8 0,.int .u8 0,.int .u8 0,.int .u8 0,.int .u8 0,.int .u8 0,.int .u8 0,.int .u8 0,.int .u8 0,.int .u8 0,.int .u8 0,.int .u8 0,.int .u8 0,.int .u8 0,.int .u8 0,.int .u8 0]) (by kernel_rfl) M) (fun b5=>?_);refine ZX<|zY<|Zm M M ?_
   refine zE .none M (by kernel_rfl) M (fun w hw=>(Tryz.internal_strconv_numDigits u (by omega) (by omega) w (hT.ext hw.ext0)).mono fun e w' ⟨h1,h2⟩=>⟨h1,by subst h2;exact Ext.refl _⟩) ?_
   refine Za M M<|ZX<|Z7r 0 1 4 5 6 10 12 M M M M M M M<|Zm M M<|ZF M (yf_sliceArrHi (size:=1) M M Tryz.underlying259 (by kernel_rfl) M (by omega)) ?_;refine Zm M M<|xZ (ι:=Unit) (val:=fun _=>.tuple #[]) (H':=fun _=>Hp (fun _=>False) w_0 [(b5,bk 259 ((Lib.decDigits u).map encB++List.replicate (24-Lib.nDigits u) (.int .u8 0)))] [] (fun _=>True)) .none M  (tF (by kernel_rfl) M (fun w hw=>(fmt10_turn u (by omega) b5 259 w (HpG.own hw _ (List.mem_singleton_self _)) hnd).mono fun e w' ⟨e1,e2,e3⟩=>⟨_,e1,(),rfl,HpG.turn hw (k:=0) M e2 e3⟩)) (fun _=>?_);refine ZX<|Z7r 0 1 4 5 6 10 12 M M M M M M M<|Zm M M<|ZF M (yf_sliceArrHi (size:=1) M M Tryz.underlying259 (by kernel_rfl) M (by omega)) ?_
   refine ZF M (uF 0 (Lib.decDigits u) M M Tryz.underlying53 Tryz.underlying5 Tryz.underlying9 (Lib.decDigits_length u) (fun j hj=>by rw[Kq,List.getElem?_append_left (by rw[Kx];exact hj),List.getElem?_map,Ka hj];rfl)) ?_
   refine Za M M<|ZT<|zQ<|zJ<|zP M M (fun w hw=>?_);exact⟨rfl,hw.ext0⟩
 ·replace hc:=yO hc;exact absurd M hc
theorem sfu_any (u:Nat) (hu:u<4294967296) (w_0:World) (hT:TbN w_0):Calls Tryz.prog 152 #[.int .u64 u,.int .i64 10] w_0 fun e w'=>e=.returned (.string ⟨(Lib.decDigits u).toArray⟩)∧Ext w_0 w':=by
 refine zO (args:=[.int .u64 u,.int .i64 10]) Tryz.func152 M 8 M (Ju M)<|Z2 0 1 M M<|zS (H':=Hp (fun _=>False) w_0 [] [] (fun _=>True)) (fun u hu=>?_) ?_
 ·subst hu;exact Hp.start0
 refine zX<|zY<|Za M M<|ZX<|zY<|Zm M M<|Zm M M<|zE .none M (by kernel_rfl) M (fun w hw=>fu10_any u hu w (hT.ext hw.ext0)) ?_;refine Za M M<|ZT<|zQ<|zP M M (fun w hw=>?_);exact⟨rfl,hw.ext0⟩
theorem sF (n:Int) (h0:-9223372036854775808≤n) (h1:n≤9223372036854775807) (w:World) (hT:TbN w):Calls Tryz.prog 68 #[.int .i64 n] w fun e w'=>e=.returned (.string ⟨(Lib.itoa n).toArray⟩)∧Ext w w' :=
 (Tryz.strconv_Itoa n h0 h1 w hT).mono fun e w' ⟨e1,k,os,e2⟩=>⟨e1,by subst e2;exact Lib.below_grow _ w (Ks _) k os⟩
theorem sD (n:Nat) (hn:n<4294967296) (w_0:World) (hT:TbN w_0):Calls Tryz.prog 70 #[.int .u32 n] w_0 fun e w'=>e=.returned (.string ⟨(Lib.decDigits n).toArray⟩)∧Ext w_0 w':=by
 refine zO (args:=[.int .u32 n]) Tryz.func70 M 6 M (Ju M)<|Z1 0 M<|zS (H':=Hp (fun _=>False) w_0 [] [] (fun _=>True)) (fun u hu=>?_) ?_
 ·subst hu;exact Hp.start0
 refine zX<|zY<|Za M M<|ZX<|zY<|Zm M M ?_
 refine ZF M (yV M (by kernel_rfl) Tryz.underlying210 (u64_in _ (by omega) (by omega))) ?_
 refine zE .none M (by kernel_rfl) M (fun w hw=>sfu_any n hn w (hT.ext hw.ext0)) ?_;refine Za M M<|ZT<|zQ<|zP M M (fun w hw=>?_);exact⟨rfl,hw.ext0⟩
theorem sgn_i32 (n:Nat) (hn:n<4294967296):IntKind.i32.wrap (n:Int)=qA n:=by
 simp only[IntKind.wrap,IntKind.bits,IntKind.signed];unfold qA;simp
 split<;>omega
theorem itoa_sgn (n:Nat) (hn:n<4294967296):Lib.itoa (qA n)=tL n:=by
 unfold qA tL Lib.itoa
 by_cases h:n<2147483648
 ·rw[Kv h,Ku (by omega),Ku (by omega),Int.toNat_natCast]
 ·rw[Ku h,Kv (by omega),Kv (by omega)];congr 2;omega
theorem sgnI_rng (n:Nat) (hn:n<4294967296):-2147483648≤qA n∧qA n≤2147483647:=by unfold qA;split<;>omega
theorem signedA_any (n:Nat) (hn:n<4294967296) (w_0:World) (hT:TbN w_0):Calls Tryz.prog 65 #[.int .u32 n] w_0 fun e w'=>e=.returned (.string ⟨(tL n).toArray⟩)∧Ext w_0 w':=by
 have hr:=sgnI_rng n hn;refine zO (args:=[.int .u32 n]) Tryz.func65 M 7 M (Ju M)<|Z1 0 M<|zS (H':=Hp (fun _=>False) w_0 [] [] (fun _=>True)) (fun u hu=>?_) ?_
 ·subst hu;exact Hp.start0
 refine zX<|zY<|Za M M<|ZX<|zY<|Zm M M ?_
 refine ZF M (yV M (by kernel_rfl) Tryz.underlying21 (sgn_i32 n hn)) ?_
 refine ZF M (yV M (by kernel_rfl) Tryz.underlying3 (i64_in _ (by omega) (by omega))) ?_
 refine zE .none M (v:=.string ⟨(tL n).toArray⟩) (by kernel_rfl) M (fun w hw=>by rw[← itoa_sgn n hn];exact sF (qA n) (by omega) (by omega) w (hT.ext hw.ext0)) ?_;refine Za M M<|ZT<|zQ<|zP M M (fun w hw=>?_);exact⟨rfl,hw.ext0⟩
theorem offset_any (n:Nat) (hn:n<4294967296) (w_0:World) (hT:TbN w_0):Calls Tryz.prog 67 #[.int .u32 n] w_0 fun e w'=>e=.returned (.string ⟨(uE n).toArray⟩)∧Ext w_0 w':=by
 have hln:(Lib.decDigits n).length≤10:=wS (k:=10) (by omega) (by decide);refine zO (args:=[.int .u32 n]) Tryz.func67 M 11 M (Ju M)<|Z1 0 M<|zS (H':=Hp (fun _=>False) w_0 [] [] (fun _=>True)) (fun u hu=>?_) ?_
 ·subst hu;exact Hp.start0
 refine zX<|zY<|Za M M<|ZX<|zX<|zY<|Zm M M ?_
 refine ZF M (yV M (by kernel_rfl) Tryz.underlying21 (sgn_i32 n hn)) ?_
 refine ZF M (xR M M)<|ZT<|zT M (fun h5=>?_) (fun h5=>?_)
 ·replace h5:=Jv h5;refine zX<|Z3r 0 2 5 M M M<|Zm M M<|zE .none M (by kernel_rfl) M (fun w hw=>signedA_any n hn w (hT.ext hw.ext0)) ?_;refine Za M M<|ZT<|zQ<|zJ<|zP M M (fun w hw=>?_);exact⟨by unfold qA at h5;unfold uE tL;rw[Kv (by split at h5<;>omega),Kv (by split at h5<;>omega)],hw.ext0⟩
 ·replace h5:=Jw h5;refine zI<|zU<|zX<|Z3r 0 2 5 M M M<|Zm M M<|zE .none M (by kernel_rfl) M (fun w hw=>sD n hn w (hT.ext hw.ext0)) ?_;refine ZF M (zN M M (by (rw[show ([43]:Bs).length=1 from rfl];omega))) ?_;refine Za M M<|ZT<|zQ<|zP M M (fun w hw=>?_);exact⟨by unfold qA at h5;unfold uE;rw[Ku (by split at h5<;>omega)];rfl,hw.ext0⟩
theorem regA_any (n:Int) (h0:0≤n) (h1:n≤9223372036854775807) (w_0:World) (hT:TbN w_0):Calls Tryz.prog 60 #[.int .i64 n] w_0 fun e w'=>e=.returned (.string ⟨(rgB n).toArray⟩)∧Ext w_0 w':=by
 have hi:Lib.itoa n=Lib.decDigits n.toNat:=Ku (by omega);have hln:(Lib.decDigits n.toNat).length≤19:=wS (k:=19) (by omega) (by decide);refine zO (args:=[.int .i64 n]) Tryz.func60 M 6 M (Ju M)<|Z1 0 M<|zS (H':=Hp (fun _=>False) w_0 [] [] (fun _=>True)) (fun u hu=>?_) ?_
 ·subst hu;exact Hp.start0
 refine zX<|zY<|Za M M<|ZX<|zY<|Zm M M<|zE .none M (v:=.string ⟨(Lib.decDigits n.toNat).toArray⟩) (by kernel_rfl) M (fun w hw=>by rw[← hi];exact sF n (by omega) h1 w (hT.ext hw.ext0)) ?_;refine ZF M (zN M M (by (rw[show ([114]:Bs).length=1 from rfl];omega))) ?_;refine Za M M<|ZT<|zQ<|zP M M (fun w hw=>?_);exact⟨rfl,hw.ext0⟩
end Go.Proofs.YtkaepknpplhgkaaGreatDoor
namespace Go.Proofs.YtkaepknpplhgkaaGreatDoor
open Go.RowKit
theorem AsT.ext' {w w':World}(h:AsT w) (hx:Ext w w'):AsT w':=h.foot (Below.block hx _ h.lt)
theorem vV {g k:Nat}{l:List Bs}{w:World}(h:Blk g (wC l) w) (hk:k<l.length):w.cell? ⟨g,0+k*1,none⟩=some (.string ⟨(l.getD k []).toArray⟩):=by
 refine Blk.cell h ?_;rw[List.getElem?_map,show 0+k*1=k by omega,Ka hk,Ki,Ka hk];rfl
theorem nm_ln {l:List Bs}{m:Nat}(h:(l.all fun x=>decide (x.length≤m))=true) (k:Nat):(l.getD k []).length≤m:=by
 rw[Ki]
 cases e:l[k]? with
 | none=>exact Kr _
 | some x=>exact Jv (List.all_eq_true.1 h x (Kb e))
theorem target_any (i:KI) (hi:i.imm<4294967296) (hv:xM i=true) (hz:0≤i.size∧i.size≤7) (a:Nat) (ha:a<4294967296) (w_0:World):Calls Tryz.prog 61 #[.agg (kiC i).toArray,.int .u32 a] w_0 fun e w'=>e=.returned (.tuple #[.int .u32 ((if (96≤i.op∧i.op≤109)∨(112≤i.op∧i.op≤113) then toK i a else 0:Nat):Int),.bool (decide ((96≤i.op∧i.op≤109)∨(112≤i.op∧i.op≤113)))])∧Ext w_0 w':=by
 have hin:inB i.op [(96,109),(112,113)]=decide ((96≤i.op∧i.op≤109)∨(112≤i.op∧i.op≤113)):=by
  rw[Js,decide_eq_true_iff];simp[inB]
 refine zO (args:=[.agg (kiC i).toArray,.int .u32 a]) Tryz.func61 M 26 M (Ju M)<|Z2 0 1 M M<|zS (H':=Hp (fun _=>False) w_0 [] [] (fun _=>True)) (fun u hu=>?_) ?_
 ·subst hu;exact Hp.start0
 refine zX<|zY<|zL .none M (yJ M M) (fun b2=>?_);refine Za M M<|Za M M<|ZX<|zX<|zY<|ZF M (yX 0 M M Tryz.underlying35 M (by kernel_rfl)) ?_;refine zE .none M  (v:=.bool true) (by kernel_rfl) M (fun w hw=>(qD i hi w).mono fun e w' ⟨h1,h2⟩=>⟨by rw[h1,hv],h2⟩) ?_;refine ZF M (xH M)<|Zm M M<|zA 9 M (fun hb=>?_) (fun hb=>?_)
 ·cases hb
 ·refine ZG M M M (zZ (off:=0) (sz:=0) M Tryz.underlying35 (by kernel_rfl) M) ?_;refine ZG M M M (zW 0 M M M Tryz.underlying3 M)<|ZG M M M (xB (cells:=#[.int .i64 96,.int .i64 109]) M (by kernel_rfl)) ?_;refine ZG M M M (xB (cells:=#[.int .i64 112,.int .i64 113]) M (by kernel_rfl)) ?_;refine zL (.some M M) M (tG (z:=Jb) M M M M Tryz.underlying231 (by kernel_rfl) (by kernel_rfl) M M M) (fun b14=>?_);refine zE (.some M M) M  (v:=.bool (inB i.op [(96,109),(112,113)])) (by kernel_rfl) M (fun w hw=>within_any i.op [(96,109),(112,113)] (by decide) b14 w (HpG.blkL hw (j:=0) M)) ?_;refine ZG M M M (xH M)<|ZF M (zF M M)<|ZT<|zT M (fun h17=>?_) (fun h17=>?_)
  ·refine zX<|Z6r 0 1 2 4 5 17 M M M M M M<|Za M M<|Za M M<|ZT<|zQ<|zJ<|wq_ret2 M M M (fun w hw=>?_);have h9:inB i.op [(96,109),(112,113)]=false:=by simpa using h17
   rw[hin] at h9;exact⟨by rw[Ku (Jw h9),h9];rfl,hw.ext0⟩
  ·refine zI<|zU<|zX<|Z6r 0 1 2 4 5 17 M M M M M M<|Zm M M<|ZF M (zZ (off:=6) (sz:=0) M Tryz.underlying35 (by kernel_rfl) M) ?_;refine ZF M (zW 1 M M M Tryz.underlying3 M) ?_
   refine ZF M (yV M (by kernel_rfl) Tryz.underlying22 (rI _ (by omega) (by omega))) ?_
   refine ZF M (yN M M M)<|ZF M (zZ (off:=5) (sz:=0) M Tryz.underlying35 (by kernel_rfl) M) ?_;refine ZF M (zW 1 M M M Tryz.underlying22 M)<|ZF M (yN M M M)<|Za M M<|Za M M<|ZT<|zQ<|wq_ret2 M M M (fun w hw=>?_);have h9:inB i.op [(96,109),(112,113)]=true:=by simpa using h17
   rw[hin] at h9
   have e:IntKind.u32.wrap (IntKind.u32.wrap ((a:Int)+i.size)+(i.imm:Int))=(((a+i.size.toNat+i.imm)%4294967296:Nat):Int):=by
    have e2:IntKind.u32.wrap ((a:Int)+i.size)=((a:Int)+i.size)%4294967296:=rfl;have e3:∀z:Int,IntKind.u32.wrap z=z%4294967296:=fun _=>rfl;rw[e3,e3];omega
   exact⟨by rw[Kv (Jv h9),h9];unfold toK;rw[← e],hw.ext0⟩
theorem vk_rng {i:KI}(h:VK i):(0≤i.op∧i.op≤4∨16≤i.op∧i.op≤21∨32≤i.op∧i.op≤46∨48≤i.op∧i.op≤62∨64≤i.op∧i.op≤78∨80≤i.op∧i.op≤86∨88≤i.op∧i.op≤94∨96≤i.op∧i.op≤109∨112≤i.op∧i.op≤113∨128≤i.op∧i.op≤130)∧(0≤i.d∧i.d<8)∧(0≤i.s∧i.s<8)∧(-1≤i.index∧i.index<8)∧(0≤i.scale∧i.scale≤3)∧(0≤i.size∧i.size≤7):=by
 cases h with
 | idx k d s n x hk hd hs hn hx =>
  have h1:-1≤idxV x∧idxV x<8:=by
   cases x with
   | none=>exact⟨by decide,by decide⟩
   | some p=>have:=(hx p rfl).1;show -1≤(p.1:Int)∧(p.1:Int)<8;omega
  have h2:0≤scaV x∧scaV x≤3:=by
   cases x with
   | none=>exact⟨by decide,by decide⟩
   | some p=>have:=(hx p rfl).2;show 0≤(p.2:Int)∧(p.2:Int)≤3;omega
  dsimp only;omega
 | _=>dsimp only;omega
theorem rgB_ln {n:Int}(h0:0≤n) (h8:n<8):(rgB n).length≤2:=by
 have:(Lib.decDigits n.toNat).length≤1:=wS (k:=1) (by omega) (by decide);show (Lib.decDigits n.toNat).length+1≤2;omega
theorem pow_sh {n:Int}(h0:0≤n) (h3:n≤3):IntKind.i64.wrap (1*2 ^ (min n.toNat IntKind.i64.bits))=((2 ^ n.toNat:Nat):Int):=by
 have:n=0∨n=1∨n=2∨n=3:=by omega
 rcases this with rfl|rfl|rfl|rfl<;>rfl
theorem itoa_pow {n:Int}(h0:0≤n) (h3:n≤3) (w:World) (hT:TbN w):Calls Tryz.prog 68 #[.int .i64 ((2 ^ n.toNat:Nat):Int)] w fun e w'=>e=.returned (.string ⟨(Lib.decDigits (2 ^ n.toNat)).toArray⟩)∧Ext w w':=by
 have:n=0∨n=1∨n=2∨n=3:=by omega
 rcases this with rfl|rfl|rfl|rfl
 ·exact sF 1 (by decide) (by decide) w hT
 ·exact sF 2 (by decide) (by decide) w hT
 ·exact sF 4 (by decide) (by decide) w hT
 ·exact sF 8 (by decide) (by decide) w hT
def lnV (i:KI) (a:Nat):Bs:=if xM i=true then lnK i a else []
theorem lineK_any (i:KI) (hi:i.imm<4294967296) (a:Nat) (ha:a<4294967296) (w_0:World) (hK:WOk w_0):Calls Tryz.prog 29 #[.agg (kiC i).toArray,.int .u32 a] w_0 fun e w'=>e=.returned (.string ⟨(lnV i a).toArray⟩)∧Ext w_0 w':=by
 unfold lnV
 cases hv:xM i with
 | false =>
  refine zO (args:=[.agg (kiC i).toArray,.int .u32 a]) Tryz.func29 M 195 M (Ju M)<|Z2 0 1 M M<|zS (H':=Hp (fun _=>False) w_0 [] [] (fun _=>True)) (fun u hu=>?_) ?_
  ·subst hu;exact Hp.start0
  refine zX<|zY<|zL .none M (yJ M M) (fun b2=>?_);refine Za M M<|ZX<|zX<|zY<|ZF M (yX 0 M M Tryz.underlying35 M (by kernel_rfl)) ?_;refine zE .none M  (v:=.bool false) (by kernel_rfl) M (fun w hw=>(qD i hi w).mono fun e w' ⟨h1,h2⟩=>⟨by rw[h1,hv],h2⟩) ?_;refine ZF M (xH M)<|ZT<|zT M (fun hc=>?_) (fun hc=>?_)
  ·refine zX<|Z5r 0 1 2 4 12 M M M M M<|Za M M<|ZT<|zQ<|zJ<|zP M M (fun w hw=>?_);exact⟨rfl,hw.ext0⟩
  ·cases hc
 | true =>
  have hvk:=vK_of hi hv;obtain⟨hop,⟨hd0,hd8⟩,⟨hs0,hs8⟩,⟨hx0,hx8⟩,⟨hc0,hc3⟩,hz⟩:=vk_rng hvk;have hdl:=rgB_ln hd0 hd8;have hsl:=rgB_ln hs0 hs8;have hil:=sgnB_len hi
  have hol:(uE i.imm).length≤11:=by
   have h1:(Lib.decDigits i.imm).length≤10:=wS (k:=10) (by omega) (by decide);have h2:(Lib.decDigits (4294967296-i.imm)).length≤10:=wS (k:=10) (by omega) (by decide);unfold uE
   split<;>rw[Jq]<;>omega
  have hal:=fun k=>nm_ln (l:=ariL) (m:=5) (by decide) k;have hcl:=fun k=>nm_ln (l:=accL) (m:=5) (by decide) k;have ha32:=hal (i.op-32).toNat;have ha48:=hal (i.op-48).toNat;have ha64:=hal (i.op-64).toNat;have hc80:=hcl (i.op-80).toNat;have hc88:=hcl (i.op-88).toNat;have hsg:=nm_ln (l:=singL) (m:=5) (by decide) (i.op-16).toNat;have hcd:=nm_ln (l:=vX) (m:=5) (by decide) (i.op-96).toNat;have htk:toK i a<4294967296:=Nat.mod_lt _ (by decide);have htl:(Lib.decDigits (toK i a)).length≤10:=wS (k:=10) (by omega) (by decide);have hml:(Lib.decDigits i.imm).length≤10:=wS (k:=10) (by omega) (by decide);have hsd:Lib.itoa i.s=Lib.decDigits i.s.toNat:=Ku (by omega);have hsdl:(Lib.decDigits i.s.toNat).length≤1:=wS (k:=1) (by omega) (by decide);obtain⟨X,hX⟩:∃X:Bs,X=if 0≤i.index then [43]++rgB i.index++[42]++Lib.decDigits (2 ^ i.scale.toNat) else []:=⟨_,rfl⟩
  have hpl:(Lib.decDigits (2 ^ i.scale.toNat)).length≤1:=by
   have:i.scale=0∨i.scale=1∨i.scale=2∨i.scale=3:=by omega
   rcases this with e|e|e|e<;>rw[e]<;>exact wS (k:=1) (by decide) (by decide)
  have hxl:X.length≤10:=by
   rw[hX]
   split
   ·have:=rgB_ln (n:=i.index) (by omega) hx8;simp only[Jp,Jq,Jr];omega
   ·exact Kr _
  rw[Kv rfl];refine zO (args:=[.agg (kiC i).toArray,.int .u32 a]) Tryz.func29 M 195 M (Ju M)<|Z2 0 1 M M<|zS (H':=Hp (fun _=>False) w_0 [] [] (fun _=>True)) (fun u hu=>?_) ?_
  ·subst hu;exact Hp.start0
  refine zX<|zY<|zL .none M (yJ M M) (fun b2=>?_);refine Za M M<|ZX<|zX<|zY<|ZF M (yX 0 M M Tryz.underlying35 M (by kernel_rfl)) ?_;refine zE .none M  (v:=.bool true) (by kernel_rfl) M (fun w hw=>(qD i hi w).mono fun e w' ⟨h1,h2⟩=>⟨by rw[h1,hv],h2⟩) ?_;refine ZF M (xH M)<|ZT<|zT M (fun hc=>?_) (fun hc=>?_)
  ·cases hc
  ·refine zI<|zU<|zX<|Z5r 0 1 2 4 12 M M M M M<|ZF M (zZ (off:=1) (sz:=0) M Tryz.underlying35 (by kernel_rfl) M) ?_;refine ZF M (zW 0 M M M Tryz.underlying3 M)<|zE .none M  (v:=.string ⟨(rgB i.d).toArray⟩) (by kernel_rfl) M (fun w hw=>regA_any i.d hd0 (by omega) w (hK.tb.ext hw.ext0)) ?_;refine tQ .none M  (v:=.string ⟨(32::rgB i.d).toArray⟩) (zN (a:=[32]) M M ?_) ?_
   ·show 1+(rgB i.d).length≤_;omega
   refine Za M M<|ZX<|Z6r 0 1 2 4 5 12 M M M M M M<|ZF M (yX 0 M M Tryz.underlying35 M (by kernel_rfl)) ?_;refine Zm M M<|zE .none M  (by kernel_rfl) M (fun w hw=>target_any i hi hv hz a ha w) ?_;refine Zm M M<|ZF M (yR M M)<|ZF M (yR M M)<|Za M M<|Za M M<|ZX<|zX<|Z7r 0 1 2 4 5 6 12 M M M M M M M<|ZF M (zZ (off:=0) (sz:=0) M Tryz.underlying35 (by kernel_rfl) M) ?_;refine ZF M (zW 0 M M M Tryz.underlying3 M)<|Za M M<|ZT<|yW<|zX<|Z8r 0 1 2 4 5 6 8 12 M M M M M M M M<|Zm M M<|ZF M (wW M M)<|Za M M<|ZT<|zT M (fun h25=>?_) (fun h25=>?_)
   ·replace h25:=Jv h25;refine zX<|Z9r 0 1 2 4 5 6 8 12 25 M M M M M M M M M<|yI (ι:=Nat) (C:=fun _=>True) (val:=fun b=>.slice (some ⟨b,0,none⟩) 5 5) (TT:=fun b=>Bl7 b (wC noneL)) .none M  (by kernel_rfl) M (fun _ h=>h.elim) (fun _=>Bl7.lies) (fun w hw=>none_nm w (hK.sp.ext' hw.ext0)) (fun bn Fn _ hFn=>?_);refine Zm M M<|ZF M (zB (j:=i.op.toNat) (es:=1) M M Tryz.underlying59 (by kernel_rfl) (Af (by omega)).symm (by omega) M) ?_;refine ZF M (zC M Tryz.underlying9 M (fun w hw=>vV (HpG.x hw).1.2 (show i.op.toNat<5 by omega))) ?_;refine Za M M<|ZT<|zQ<|yT<|zJ<|zP M M (fun w hw=>?_);exact⟨by unfold lnK;rw[Kv (by omega)],hw.ext0⟩
   ·replace h25:=Jw h25;refine zX<|Z9r 0 1 2 4 5 6 8 12 25 M M M M M M M M M<|Zm M M<|ZF M (wW M M)<|Za M M<|ZT<|zT M (fun h32=>?_) (fun h32=>?_)
    ·replace h32:=Jv h32;refine zX<|Z10r 0 1 2 4 5 6 8 12 25 32 M M M M M M M M M M<|yI (ι:=Nat) (C:=fun _=>True) (val:=fun b=>.slice (some ⟨b,0,none⟩) 6 6) (TT:=fun b=>Bl7 b (wC singL)) .none M  (by kernel_rfl) M (fun _ h=>h.elim) (fun _=>Bl7.lies) (fun w hw=>single_nm w (hK.sp.ext' hw.ext0)) (fun bn Fn _ hFn=>?_);refine Zm M M<|ZF M (xS M M (i64_in _ (by omega) (by omega))) ?_;refine ZF M (zB (j:=(i.op-16).toNat) (es:=1) M M Tryz.underlying59 (by kernel_rfl) (Af (by omega)).symm (by omega) M) ?_;refine ZF M (zC M Tryz.underlying9 M (fun w hw=>vV (HpG.x hw).1.2 (show (i.op-16).toNat<6 by omega))) ?_;refine Zm M M<|ZF M (zN M M (by (show _+(rgB i.d).length.succ≤_;omega))) ?_;refine Za M M<|ZT<|zQ<|yT<|zJ<|zP M M (fun w hw=>?_);exact⟨by unfold lnK;rw[Ku (by omega),Kv (by omega)],hw.ext0⟩
    ·replace h32:=Jw h32;refine zX<|Z10r 0 1 2 4 5 6 8 12 25 32 M M M M M M M M M M<|Zm M M<|ZF M (wW M M)<|Za M M<|ZT<|zT M (fun h42=>?_) (fun h42=>?_)
     ·replace h42:=Jv h42;refine zX<|Z11 0 1 2 4 5 6 8 12 25 32 42 M M M M M M M M M M M<|xA (γ:=Nat) [(2,.pointer (some ⟨b2,0,none⟩)),(5,.string ⟨(32::rgB i.d).toArray⟩),(8,.int .i64 i.op)] [(0,45,fun g=>.slice (some ⟨g,0,none⟩) 15 15),(1,46,fun g=>.int .i64 i.op),(2,47,fun g=>.int .i64 (i.op-32)),(3,48,fun g=>.pointer (some ⟨g,0+(i.op-32).toNat*1,none⟩)),(4,49,fun g=>.string ⟨(ariL.getD (i.op-32).toNat []).toArray⟩),(5,50,fun g=>.string ⟨(32::rgB i.d).toArray⟩),(6,51,fun g=>.string ⟨((ariL.getD (i.op-32).toNat [])++(32::rgB i.d)).toArray⟩),(7,52,fun g=>.string ⟨(((ariL.getD (i.op-32).toNat [])++(32::rgB i.d))++([44,32]:Bs)).toArray⟩),(8,53,fun g=>.pointer (some ⟨b2,0+2,none⟩)),(9,54,fun g=>.int .i64 i.s),(10,55,fun g=>.string ⟨(rgB i.s).toArray⟩),(11,56,fun g=>.string ⟨((((ariL.getD (i.op-32).toNat [])++(32::rgB i.d))++([44,32]:Bs))++rgB i.s).toArray⟩),(12,4,fun g=>.string ⟨((((ariL.getD (i.op-32).toNat [])++(32::rgB i.d))++([44,32]:Bs))++rgB i.s).toArray⟩)] (fun D g=>fun w=>Hp (fun _=>False) w_0 [(b2,kiO i)] [] (fun _=>True) w∧(D 0=true→Blk g (wC ariL) w)∧(D 3=true→D 0=true)) [[],[],[1],[0,2],[3],[],[4,5],[6],[],[8],[9],[7,10],[11]] 0 (by kernel_rfl) (by kernel_rfl) (by kernel_rfl) (O3 M M M) (fun D w h hw=>⟨Hp.drew hw,(fun h0=>by rw[h 0 (by decide)] at h0;cases h0),(fun h0=>by rw[h 3 (by decide)] at h0;cases h0)⟩) ⟨?_,?_,?_,?_,?_,?_,?_,?_,?_,?_,?_,?_,?_,trivial⟩ (fun g=>?_)
      ·intro D g hD hd;refine vF (vs:=[]) (by kernel_rfl) M (fun w hw=>(arith_nm w (hK.sp.ext' (HpG.ext0 hw.1))).mono fun e w' ⟨b,_,e1,e2,e3⟩=>⟨_,e1,b,rfl,?_,HpG.onE hw.1 e2,fun _=>e3.2,fun _=>rfl⟩)
       repeat' (first|exact trivial|apply And.intro|(intro _;rfl)|(intro h;rw[hD] at h;cases h)|(intro h;have h9:=hw.2.2 h;rw[hD] at h9;cases h9))
      ·intro D g hD hd;refine zV (v:=.int .i64 i.op) ?_ M (fun w h=>h);refine zH rfl
      ·intro D g hD hd;have hd1:D 1=true:=hd 1 (by simp)
       first|(refine zV (v:=.int .i64 (i.op-32)) ?_ rfl (fun w h=>h);refine xS rfl rfl (i64_in _ ?_ ?_);(· omega);(· omega))|(refine zV (v:=.int .i64 (i.op-32)) ?_ rfl (fun w h=>h);refine xS rfl rfl rfl)
      ·intro D g hD hd;have hd0:D 0=true:=hd 0 (by simp);have hd2:D 2=true:=hd 2 (by simp);refine zV (v:=.pointer (some ⟨g,0+(i.op-32).toNat*1,none⟩)) ?_ M (fun w h=>⟨h.1,h.2.1,fun _=>hd0⟩);refine zB (j:=(i.op-32).toNat) (es:=1) M M Tryz.underlying59 (by kernel_rfl) (Af (by omega)).symm (by omega) rfl
      ·intro D g hD hd;have hd3:D 3=true:=hd 3 (by simp);refine zV (v:=.string ⟨(ariL.getD (i.op-32).toNat []).toArray⟩) ?_ M (fun w h=>h);refine zC M Tryz.underlying9 M (fun w hw=>vV (hw.2.1 (hw.2.2 hd3)) (show (i.op-32).toNat<15 by omega))
      ·intro D g hD hd;refine zV (v:=.string ⟨(32::rgB i.d).toArray⟩) ?_ M (fun w h=>h);refine zH rfl
      ·intro D g hD hd;have hd4:D 4=true:=hd 4 (by simp);have hd5:D 5=true:=hd 5 (by simp);refine zV (v:=.string ⟨((ariL.getD (i.op-32).toNat [])++(32::rgB i.d)).toArray⟩) ?_ M (fun w h=>h);refine zN M M ?_;(· (simp only[Jp,Jq,Jr];omega))
      ·intro D g hD hd;have hd6:D 6=true:=hd 6 (by simp);refine zV (v:=.string ⟨(((ariL.getD (i.op-32).toNat [])++(32::rgB i.d))++([44,32]:Bs)).toArray⟩) ?_ M (fun w h=>h);refine zN M M ?_;(· (simp only[Jp,Jq,Jr];omega))
      ·intro D g hD hd;refine zV (v:=.pointer (some ⟨b2,0+2,none⟩)) ?_ M (fun w h=>h);refine zZ (off:=2) (sz:=0) M Tryz.underlying35 (by kernel_rfl) rfl
      ·intro D g hD hd;have hd8:D 8=true:=hd 8 (by simp);refine zV (v:=.int .i64 i.s) ?_ M (fun w h=>h);refine zC M Tryz.underlying3 M (fun w hw=>HpG.cell (k:=0) hw.1 M M)
      ·intro D g hD hd;have hd9:D 9=true:=hd 9 (by simp);refine vR (v:=.string ⟨(rgB i.s).toArray⟩) (by kernel_rfl) M (fun w hw=>regA_any i.s (by omega) (by omega) w (hK.tb.ext (HpG.ext0 hw.1))) M (fun w w' hw hx=>⟨HpG.onE hw.1 hx,fun h=>(hw.2.1 h).onE hx,hw.2.2⟩)
      ·intro D g hD hd;have hd7:D 7=true:=hd 7 (by simp);have hd10:D 10=true:=hd 10 (by simp);refine zV (v:=.string ⟨((((ariL.getD (i.op-32).toNat [])++(32::rgB i.d))++([44,32]:Bs))++rgB i.s).toArray⟩) ?_ M (fun w h=>h);refine zN M M ?_;(· (simp only[Jp,Jq,Jr];omega))
      ·intro D g hD hd;have hd11:D 11=true:=hd 11 (by simp);refine zV (v:=.string ⟨((((ariL.getD (i.op-32).toNat [])++(32::rgB i.d))++([44,32]:Bs))++rgB i.s).toArray⟩) ?_ M (fun w h=>h);refine xQ rfl
      ·refine tX (m':=[(2,.pointer (some ⟨b2,0,none⟩)),(5,.string ⟨(32::rgB i.d).toArray⟩),(8,.int .i64 i.op),(4,.string ⟨((((ariL.getD (i.op-32).toNat [])++(32::rgB i.d))++([44,32]:Bs))++rgB i.s).toArray⟩)]) (H':=Hp (fun _=>False) w_0 [(b2,kiO i)] [] (fun _=>True)) ?_ (O4 M M M M) (fun w hw=>hw.1);refine zU<|zQ<|yT<|zJ<|zP M M (fun w hw=>?_);exact⟨by unfold lnK;rw[Ku (by omega),Ku (by omega),Kv (by omega)],hw.ext0⟩
     ·replace h42:=Jw h42;refine zX<|Z11r 0 1 2 4 5 6 8 12 25 32 42 M M M M M M M M M M M<|Zm M M<|ZF M (wW M M)<|Za M M<|ZT<|zT M (fun h57=>?_) (fun h57=>?_)
      ·replace h57:=Jv h57;refine zX<|Z12 0 1 2 4 5 6 8 12 25 32 42 57 M M M M M M M M M M M M<|xA (γ:=Nat) [(2,.pointer (some ⟨b2,0,none⟩)),(5,.string ⟨(32::rgB i.d).toArray⟩),(8,.int .i64 i.op)] [(0,60,fun g=>.slice (some ⟨g,0,none⟩) 15 15),(1,61,fun g=>.int .i64 i.op),(2,62,fun g=>.int .i64 (i.op-32)),(3,63,fun g=>.int .i64 (i.op-48)),(4,64,fun g=>.pointer (some ⟨g,0+(i.op-48).toNat*1,none⟩)),(5,65,fun g=>.string ⟨(ariL.getD (i.op-48).toNat []).toArray⟩),(6,66,fun g=>.string ⟨((ariL.getD (i.op-48).toNat [])++([46,98]:Bs)).toArray⟩),(7,67,fun g=>.string ⟨(32::rgB i.d).toArray⟩),(8,68,fun g=>.string ⟨(((ariL.getD (i.op-48).toNat [])++([46,98]:Bs))++(32::rgB i.d)).toArray⟩),(9,69,fun g=>.string ⟨((((ariL.getD (i.op-48).toNat [])++([46,98]:Bs))++(32::rgB i.d))++([44,32]:Bs)).toArray⟩),(10,70,fun g=>.pointer (some ⟨b2,0+5,none⟩)),(11,71,fun g=>.int .u32 i.imm),(12,72,fun g=>.string ⟨(tL i.imm).toArray⟩),(13,73,fun g=>.string ⟨(((((ariL.getD (i.op-48).toNat [])++([46,98]:Bs))++(32::rgB i.d))++([44,32]:Bs))++tL i.imm).toArray⟩),(14,4,fun g=>.string ⟨(((((ariL.getD (i.op-48).toNat [])++([46,98]:Bs))++(32::rgB i.d))++([44,32]:Bs))++tL i.imm).toArray⟩)] (fun D g=>fun w=>Hp (fun _=>False) w_0 [(b2,kiO i)] [] (fun _=>True) w∧(D 0=true→Blk g (wC ariL) w)∧(D 4=true→D 0=true)) [[],[],[1],[2],[0,3],[4],[5],[],[6,7],[8],[],[10],[11],[9,12],[13]] 0 (by kernel_rfl) (by kernel_rfl) (by kernel_rfl) (O3 M M M) (fun D w h hw=>⟨Hp.drew hw,(fun h0=>by rw[h 0 (by decide)] at h0;cases h0),(fun h0=>by rw[h 4 (by decide)] at h0;cases h0)⟩) ⟨?_,?_,?_,?_,?_,?_,?_,?_,?_,?_,?_,?_,?_,?_,?_,trivial⟩ (fun g=>?_)
       ·intro D g hD hd;refine vF (vs:=[]) (by kernel_rfl) M (fun w hw=>(arith_nm w (hK.sp.ext' (HpG.ext0 hw.1))).mono fun e w' ⟨b,_,e1,e2,e3⟩=>⟨_,e1,b,rfl,?_,HpG.onE hw.1 e2,fun _=>e3.2,fun _=>rfl⟩)
        repeat' (first|exact trivial|apply And.intro|(intro _;rfl)|(intro h;rw[hD] at h;cases h)|(intro h;have h9:=hw.2.2 h;rw[hD] at h9;cases h9))
       ·intro D g hD hd;refine zV (v:=.int .i64 i.op) ?_ M (fun w h=>h);refine zH rfl
       ·intro D g hD hd;have hd1:D 1=true:=hd 1 (by simp)
        first|(refine zV (v:=.int .i64 (i.op-32)) ?_ rfl (fun w h=>h);refine xS rfl rfl (i64_in _ ?_ ?_);(· omega);(· omega))|(refine zV (v:=.int .i64 (i.op-32)) ?_ rfl (fun w h=>h);refine xS rfl rfl rfl)
       ·intro D g hD hd;have hd2:D 2=true:=hd 2 (by simp);refine zV (v:=.int .i64 (i.op-48)) ?_ M (fun w h=>h);refine xS M M (show IntKind.i64.wrap (i.op-32-16)=i.op-48 by rw[i64_in _ (by omega) (by omega)];omega)
       ·intro D g hD hd;have hd0:D 0=true:=hd 0 (by simp);have hd3:D 3=true:=hd 3 (by simp);refine zV (v:=.pointer (some ⟨g,0+(i.op-48).toNat*1,none⟩)) ?_ M (fun w h=>⟨h.1,h.2.1,fun _=>hd0⟩);refine zB (j:=(i.op-48).toNat) (es:=1) M M Tryz.underlying59 (by kernel_rfl) (Af (by omega)).symm (by omega) rfl
       ·intro D g hD hd;have hd4:D 4=true:=hd 4 (by simp);refine zV (v:=.string ⟨(ariL.getD (i.op-48).toNat []).toArray⟩) ?_ M (fun w h=>h);refine zC M Tryz.underlying9 M (fun w hw=>vV (hw.2.1 (hw.2.2 hd4)) (show (i.op-48).toNat<15 by omega))
       ·intro D g hD hd;have hd5:D 5=true:=hd 5 (by simp);refine zV (v:=.string ⟨((ariL.getD (i.op-48).toNat [])++([46,98]:Bs)).toArray⟩) ?_ M (fun w h=>h);refine zN M M ?_;(· (simp only[Jp,Jq,Jr];omega))
       ·intro D g hD hd;refine zV (v:=.string ⟨(32::rgB i.d).toArray⟩) ?_ M (fun w h=>h);refine zH rfl
       ·intro D g hD hd;have hd6:D 6=true:=hd 6 (by simp);have hd7:D 7=true:=hd 7 (by simp);refine zV (v:=.string ⟨(((ariL.getD (i.op-48).toNat [])++([46,98]:Bs))++(32::rgB i.d)).toArray⟩) ?_ M (fun w h=>h);refine zN M M ?_;(· (simp only[Jp,Jq,Jr];omega))
       ·intro D g hD hd;have hd8:D 8=true:=hd 8 (by simp);refine zV (v:=.string ⟨((((ariL.getD (i.op-48).toNat [])++([46,98]:Bs))++(32::rgB i.d))++([44,32]:Bs)).toArray⟩) ?_ M (fun w h=>h);refine zN M M ?_;(· (simp only[Jp,Jq,Jr];omega))
       ·intro D g hD hd;refine zV (v:=.pointer (some ⟨b2,0+5,none⟩)) ?_ M (fun w h=>h);refine zZ (off:=5) (sz:=0) M Tryz.underlying35 (by kernel_rfl) rfl
       ·intro D g hD hd;have hd10:D 10=true:=hd 10 (by simp);refine zV (v:=.int .u32 i.imm) ?_ M (fun w h=>h);refine zC M Tryz.underlying22 M (fun w hw=>HpG.cell (k:=0) hw.1 M M)
       ·intro D g hD hd;have hd11:D 11=true:=hd 11 (by simp);refine vR (v:=.string ⟨(tL i.imm).toArray⟩) (by kernel_rfl) M (fun w hw=>signedA_any i.imm hi w (hK.tb.ext (HpG.ext0 hw.1))) M (fun w w' hw hx=>⟨HpG.onE hw.1 hx,fun h=>(hw.2.1 h).onE hx,hw.2.2⟩)
       ·intro D g hD hd;have hd9:D 9=true:=hd 9 (by simp);have hd12:D 12=true:=hd 12 (by simp);refine zV (v:=.string ⟨(((((ariL.getD (i.op-48).toNat [])++([46,98]:Bs))++(32::rgB i.d))++([44,32]:Bs))++tL i.imm).toArray⟩) ?_ M (fun w h=>h);refine zN M M ?_;(· (simp only[Jp,Jq,Jr];omega))
       ·intro D g hD hd;have hd13:D 13=true:=hd 13 (by simp);refine zV (v:=.string ⟨(((((ariL.getD (i.op-48).toNat [])++([46,98]:Bs))++(32::rgB i.d))++([44,32]:Bs))++tL i.imm).toArray⟩) ?_ M (fun w h=>h);refine xQ rfl
       ·refine tX (m':=[(2,.pointer (some ⟨b2,0,none⟩)),(5,.string ⟨(32::rgB i.d).toArray⟩),(8,.int .i64 i.op),(4,.string ⟨(((((ariL.getD (i.op-48).toNat [])++([46,98]:Bs))++(32::rgB i.d))++([44,32]:Bs))++tL i.imm).toArray⟩)]) (H':=Hp (fun _=>False) w_0 [(b2,kiO i)] [] (fun _=>True)) ?_ (O4 M M M M) (fun w hw=>hw.1);refine zU<|zQ<|yT<|zJ<|zP M M (fun w hw=>?_);exact⟨by unfold lnK;rw[Ku (by omega),Ku (by omega),Ku (by omega),Kv (by omega)],hw.ext0⟩
      ·replace h57:=Jw h57;refine zX<|Z12r 0 1 2 4 5 6 8 12 25 32 42 57 M M M M M M M M M M M M<|Zm M M<|ZF M (wW M M)<|Za M M<|ZT<|zT M (fun h74=>?_) (fun h74=>?_)
       ·replace h74:=Jv h74;refine zX<|Z13 0 1 2 4 5 6 8 12 25 32 42 57 74 M M M M M M M M M M M M M<|xA (γ:=Nat) [(2,.pointer (some ⟨b2,0,none⟩)),(5,.string ⟨(32::rgB i.d).toArray⟩),(8,.int .i64 i.op)] [(0,77,fun g=>.slice (some ⟨g,0,none⟩) 15 15),(1,78,fun g=>.int .i64 i.op),(2,79,fun g=>.int .i64 (i.op-32)),(3,80,fun g=>.int .i64 (i.op-64)),(4,81,fun g=>.pointer (some ⟨g,0+(i.op-64).toNat*1,none⟩)),(5,82,fun g=>.string ⟨(ariL.getD (i.op-64).toNat []).toArray⟩),(6,83,fun g=>.string ⟨((ariL.getD (i.op-64).toNat [])++([46,119]:Bs)).toArray⟩),(7,84,fun g=>.string ⟨(32::rgB i.d).toArray⟩),(8,85,fun g=>.string ⟨(((ariL.getD (i.op-64).toNat [])++([46,119]:Bs))++(32::rgB i.d)).toArray⟩),(9,86,fun g=>.string ⟨((((ariL.getD (i.op-64).toNat [])++([46,119]:Bs))++(32::rgB i.d))++([44,32]:Bs)).toArray⟩),(10,87,fun g=>.pointer (some ⟨b2,0+5,none⟩)),(11,88,fun g=>.int .u32 i.imm),(12,89,fun g=>.string ⟨(tL i.imm).toArray⟩),(13,90,fun g=>.string ⟨(((((ariL.getD (i.op-64).toNat [])++([46,119]:Bs))++(32::rgB i.d))++([44,32]:Bs))++tL i.imm).toArray⟩),(14,4,fun g=>.string ⟨(((((ariL.getD (i.op-64).toNat [])++([46,119]:Bs))++(32::rgB i.d))++([44,32]:Bs))++tL i.imm).toArray⟩)] (fun D g=>fun w=>Hp (fun _=>False) w_0 [(b2,kiO i)] [] (fun _=>True) w∧(D 0=true→Blk g (wC ariL) w)∧(D 4=true→D 0=true)) [[],[],[1],[2],[0,3],[4],[5],[],[6,7],[8],[],[10],[11],[9,12],[13]] 0 (by kernel_rfl) (by kernel_rfl) (by kernel_rfl) (O3 M M M) (fun D w h hw=>⟨Hp.drew hw,(fun h0=>by rw[h 0 (by decide)] at h0;cases h0),(fun h0=>by rw[h 4 (by decide)] at h0;cases h0)⟩) ⟨?_,?_,?_,?_,?_,?_,?_,?_,?_,?_,?_,?_,?_,?_,?_,trivial⟩ (fun g=>?_)
        ·intro D g hD hd;refine vF (vs:=[]) (by kernel_rfl) M (fun w hw=>(arith_nm w (hK.sp.ext' (HpG.ext0 hw.1))).mono fun e w' ⟨b,_,e1,e2,e3⟩=>⟨_,e1,b,rfl,?_,HpG.onE hw.1 e2,fun _=>e3.2,fun _=>rfl⟩)
         repeat' (first|exact trivial|apply And.intro|(intro _;rfl)|(intro h;rw[hD] at h;cases h)|(intro h;have h9:=hw.2.2 h;rw[hD] at h9;cases h9))
        ·intro D g hD hd;refine zV (v:=.int .i64 i.op) ?_ M (fun w h=>h);refine zH rfl
        ·intro D g hD hd;have hd1:D 1=true:=hd 1 (by simp)
         first|(refine zV (v:=.int .i64 (i.op-32)) ?_ rfl (fun w h=>h);refine xS rfl rfl (i64_in _ ?_ ?_);(· omega);(· omega))|(refine zV (v:=.int .i64 (i.op-32)) ?_ rfl (fun w h=>h);refine xS rfl rfl rfl)
        ·intro D g hD hd;have hd2:D 2=true:=hd 2 (by simp);refine zV (v:=.int .i64 (i.op-64)) ?_ M (fun w h=>h);refine xS M M (show IntKind.i64.wrap (i.op-32-32)=i.op-64 by rw[i64_in _ (by omega) (by omega)];omega)
        ·intro D g hD hd;have hd0:D 0=true:=hd 0 (by simp);have hd3:D 3=true:=hd 3 (by simp);refine zV (v:=.pointer (some ⟨g,0+(i.op-64).toNat*1,none⟩)) ?_ M (fun w h=>⟨h.1,h.2.1,fun _=>hd0⟩);refine zB (j:=(i.op-64).toNat) (es:=1) M M Tryz.underlying59 (by kernel_rfl) (Af (by omega)).symm (by omega) rfl
        ·intro D g hD hd;have hd4:D 4=true:=hd 4 (by simp);refine zV (v:=.string ⟨(ariL.getD (i.op-64).toNat []).toArray⟩) ?_ M (fun w h=>h);refine zC M Tryz.underlying9 M (fun w hw=>vV (hw.2.1 (hw.2.2 hd4)) (show (i.op-64).toNat<15 by omega))
        ·intro D g hD hd;have hd5:D 5=true:=hd 5 (by simp);refine zV (v:=.string ⟨((ariL.getD (i.op-64).toNat [])++([46,119]:Bs)).toArray⟩) ?_ M (fun w h=>h);refine zN M M ?_;(· (simp only[Jp,Jq,Jr];omega))
        ·intro D g hD hd;refine zV (v:=.string ⟨(32::rgB i.d).toArray⟩) ?_ M (fun w h=>h);refine zH rfl
        ·intro D g hD hd;have hd6:D 6=true:=hd 6 (by simp);have hd7:D 7=true:=hd 7 (by simp);refine zV (v:=.string ⟨(((ariL.getD (i.op-64).toNat [])++([46,119]:Bs))++(32::rgB i.d)).toArray⟩) ?_ M (fun w h=>h);refine zN M M ?_;(· (simp only[Jp,Jq,Jr];omega))
        ·intro D g hD hd;have hd8:D 8=true:=hd 8 (by simp);refine zV (v:=.string ⟨((((ariL.getD (i.op-64).toNat [])++([46,119]:Bs))++(32::rgB i.d))++([44,32]:Bs)).toArray⟩) ?_ M (fun w h=>h);refine zN M M ?_;(· (simp only[Jp,Jq,Jr];omega))
        ·intro D g hD hd;refine zV (v:=.pointer (some ⟨b2,0+5,none⟩)) ?_ M (fun w h=>h);refine zZ (off:=5) (sz:=0) M Tryz.underlying35 (by kernel_rfl) rfl
        ·intro D g hD hd;have hd10:D 10=true:=hd 10 (by simp);refine zV (v:=.int .u32 i.imm) ?_ M (fun w h=>h);refine zC M Tryz.underlying22 M (fun w hw=>HpG.cell (k:=0) hw.1 M M)
        ·intro D g hD hd;have hd11:D 11=true:=hd 11 (by simp);refine vR (v:=.string ⟨(tL i.imm).toArray⟩) (by kernel_rfl) M (fun w hw=>signedA_any i.imm hi w (hK.tb.ext (HpG.ext0 hw.1))) M (fun w w' hw hx=>⟨HpG.onE hw.1 hx,fun h=>(hw.2.1 h).onE hx,hw.2.2⟩)
        ·intro D g hD hd;have hd9:D 9=true:=hd 9 (by simp);have hd12:D 12=true:=hd 12 (by simp);refine zV (v:=.string ⟨(((((ariL.getD (i.op-64).toNat [])++([46,119]:Bs))++(32::rgB i.d))++([44,32]:Bs))++tL i.imm).toArray⟩) ?_ M (fun w h=>h);refine zN M M ?_;(· (simp only[Jp,Jq,Jr];omega))
        ·intro D g hD hd;have hd13:D 13=true:=hd 13 (by simp);refine zV (v:=.string ⟨(((((ariL.getD (i.op-64).toNat [])++([46,119]:Bs))++(32::rgB i.d))++([44,32]:Bs))++tL i.imm).toArray⟩) ?_ M (fun w h=>h);refine xQ rfl
        ·refine tX (m':=[(2,.pointer (some ⟨b2,0,none⟩)),(5,.string ⟨(32::rgB i.d).toArray⟩),(8,.int .i64 i.op),(4,.string ⟨(((((ariL.getD (i.op-64).toNat [])++([46,119]:Bs))++(32::rgB i.d))++([44,32]:Bs))++tL i.imm).toArray⟩)]) (H':=Hp (fun _=>False) w_0 [(b2,kiO i)] [] (fun _=>True)) ?_ (O4 M M M M) (fun w hw=>hw.1);refine zU<|zQ<|yT<|zJ<|zP M M (fun w hw=>?_);exact⟨by unfold lnK;rw[Ku (by omega),Ku (by omega),Ku (by omega),Ku (by omega),Kv (by omega)],hw.ext0⟩
       ·replace h74:=Jw h74;refine zX<|Z13r 0 1 2 4 5 6 8 12 25 32 42 57 74 M M M M M M M M M M M M M<|Zm M M<|ZF M (wW M M)<|Za M M<|ZT<|zT M (fun h91=>?_) (fun h91=>?_)
        ·replace h91:=Jv h91;refine zX<|Z14 0 1 2 4 5 6 8 12 25 32 42 57 74 91 M M M M M M M M M M M M M M<|xA (γ:=Nat) [(2,.pointer (some ⟨b2,0,none⟩)),(5,.string ⟨(32::rgB i.d).toArray⟩),(8,.int .i64 i.op)] [(0,94,fun g=>.slice (some ⟨g,0,none⟩) 7 7),(1,95,fun g=>.int .i64 i.op),(2,96,fun g=>.int .i64 (i.op-80)),(3,97,fun g=>.pointer (some ⟨g,0+(i.op-80).toNat*1,none⟩)),(4,98,fun g=>.string ⟨(accL.getD (i.op-80).toNat []).toArray⟩),(5,99,fun g=>.string ⟨(32::rgB i.d).toArray⟩),(6,100,fun g=>.string ⟨((accL.getD (i.op-80).toNat [])++(32::rgB i.d)).toArray⟩),(7,101,fun g=>.string ⟨(((accL.getD (i.op-80).toNat [])++(32::rgB i.d))++([44,32,91]:Bs)).toArray⟩),(8,102,fun g=>.pointer (some ⟨b2,0+2,none⟩)),(9,103,fun g=>.int .i64 i.s),(10,104,fun g=>.string ⟨(rgB i.s).toArray⟩),(11,105,fun g=>.string ⟨((((accL.getD (i.op-80).toNat [])++(32::rgB i.d))++([44,32,91]:Bs))++rgB i.s).toArray⟩),(12,106,fun g=>.pointer (some ⟨b2,0+5,none⟩)),(13,107,fun g=>.int .u32 i.imm),(14,108,fun g=>.string ⟨(uE i.imm).toArray⟩),(15,109,fun g=>.string ⟨(((((accL.getD (i.op-80).toNat [])++(32::rgB i.d))++([44,32,91]:Bs))++rgB i.s)++uE i.imm).toArray⟩),(16,110,fun g=>.string ⟨((((((accL.getD (i.op-80).toNat [])++(32::rgB i.d))++([44,32,91]:Bs))++rgB i.s)++uE i.imm)++([93]:Bs)).toArray⟩),(17,4,fun g=>.string ⟨((((((accL.getD (i.op-80).toNat [])++(32::rgB i.d))++([44,32,91]:Bs))++rgB i.s)++uE i.imm)++([93]:Bs)).toArray⟩)] (fun D g=>fun w=>Hp (fun _=>False) w_0 [(b2,kiO i)] [] (fun _=>True) w∧(D 0=true→Blk g (wC accL) w)∧(D 3=true→D 0=true)) [[],[],[1],[0,2],[3],[],[4,5],[6],[],[8],[9],[7,10],[],[12],[13],[11,14],[15],[16]] 0 (by kernel_rfl) (by kernel_rfl) (by kernel_rfl) (O3 M M M) (fun D w h hw=>⟨Hp.drew hw,(fun h0=>by rw[h 0 (by decide)] at h0;cases h0),(fun h0=>by rw[h 3 (by decide)] at h0;cases h0)⟩) ⟨?_,?_,?_,?_,?_,?_,?_,?_,?_,?_,?_,?_,?_,?_,?_,?_,?_,?_,trivial⟩ (fun g=>?_)
         ·intro D g hD hd;refine vF (vs:=[]) (by kernel_rfl) M (fun w hw=>(access_nm w (hK.sp.ext' (HpG.ext0 hw.1))).mono fun e w' ⟨b,_,e1,e2,e3⟩=>⟨_,e1,b,rfl,?_,HpG.onE hw.1 e2,fun _=>e3.2,fun _=>rfl⟩)
          repeat' (first|exact trivial|apply And.intro|(intro _;rfl)|(intro h;rw[hD] at h;cases h)|(intro h;have h9:=hw.2.2 h;rw[hD] at h9;cases h9))
         ·intro D g hD hd;refine zV (v:=.int .i64 i.op) ?_ M (fun w h=>h);refine zH rfl
         ·intro D g hD hd;have hd1:D 1=true:=hd 1 (by simp)
          first|(refine zV (v:=.int .i64 (i.op-80)) ?_ rfl (fun w h=>h);refine xS rfl rfl (i64_in _ ?_ ?_);(· omega);(· omega))|(refine zV (v:=.int .i64 (i.op-80)) ?_ rfl (fun w h=>h);refine xS rfl rfl rfl)
         ·intro D g hD hd;have hd0:D 0=true:=hd 0 (by simp);have hd2:D 2=true:=hd 2 (by simp);refine zV (v:=.pointer (some ⟨g,0+(i.op-80).toNat*1,none⟩)) ?_ M (fun w h=>⟨h.1,h.2.1,fun _=>hd0⟩);refine zB (j:=(i.op-80).toNat) (es:=1) M M Tryz.underlying59 (by kernel_rfl) (Af (by omega)).symm (by omega) rfl
         ·intro D g hD hd;have hd3:D 3=true:=hd 3 (by simp);refine zV (v:=.string ⟨(accL.getD (i.op-80).toNat []).toArray⟩) ?_ M (fun w h=>h);refine zC M Tryz.underlying9 M (fun w hw=>vV (hw.2.1 (hw.2.2 hd3)) (show (i.op-80).toNat<7 by omega))
         ·intro D g hD hd;refine zV (v:=.string ⟨(32::rgB i.d).toArray⟩) ?_ M (fun w h=>h);refine zH rfl
         ·intro D g hD hd;have hd4:D 4=true:=hd 4 (by simp);have hd5:D 5=true:=hd 5 (by simp);refine zV (v:=.string ⟨((accL.getD (i.op-80).toNat [])++(32::rgB i.d)).toArray⟩) ?_ M (fun w h=>h);refine zN M M ?_;(· (simp only[Jp,Jq,Jr];omega))
         ·intro D g hD hd;have hd6:D 6=true:=hd 6 (by simp);refine zV (v:=.string ⟨(((accL.getD (i.op-80).toNat [])++(32::rgB i.d))++([44,32,91]:Bs)).toArray⟩) ?_ M (fun w h=>h);refine zN M M ?_;(· (simp only[Jp,Jq,Jr];omega))
         ·intro D g hD hd;refine zV (v:=.pointer (some ⟨b2,0+2,none⟩)) ?_ M (fun w h=>h);refine zZ (off:=2) (sz:=0) M Tryz.underlying35 (by kernel_rfl) rfl
         ·intro D g hD hd;have hd8:D 8=true:=hd 8 (by simp);refine zV (v:=.int .i64 i.s) ?_ M (fun w h=>h);refine zC M Tryz.underlying3 M (fun w hw=>HpG.cell (k:=0) hw.1 M M)
         ·intro D g hD hd;have hd9:D 9=true:=hd 9 (by simp);refine vR (v:=.string ⟨(rgB i.s).toArray⟩) (by kernel_rfl) M (fun w hw=>regA_any i.s (by omega) (by omega) w (hK.tb.ext (HpG.ext0 hw.1))) M (fun w w' hw hx=>⟨HpG.onE hw.1 hx,fun h=>(hw.2.1 h).onE hx,hw.2.2⟩)
         ·intro D g hD hd;have hd7:D 7=true:=hd 7 (by simp);have hd10:D 10=true:=hd 10 (by simp);refine zV (v:=.string ⟨((((accL.getD (i.op-80).toNat [])++(32::rgB i.d))++([44,32,91]:Bs))++rgB i.s).toArray⟩) ?_ M (fun w h=>h);refine zN M M ?_;(· (simp only[Jp,Jq,Jr];omega))
         ·intro D g hD hd;refine zV (v:=.pointer (some ⟨b2,0+5,none⟩)) ?_ M (fun w h=>h);refine zZ (off:=5) (sz:=0) M Tryz.underlying35 (by kernel_rfl) rfl
         ·intro D g hD hd;have hd12:D 12=true:=hd 12 (by simp);refine zV (v:=.int .u32 i.imm) ?_ M (fun w h=>h);refine zC M Tryz.underlying22 M (fun w hw=>HpG.cell (k:=0) hw.1 M M)
         ·intro D g hD hd;have hd13:D 13=true:=hd 13 (by simp);refine vR (v:=.string ⟨(uE i.imm).toArray⟩) (by kernel_rfl) M (fun w hw=>offset_any i.imm hi w (hK.tb.ext (HpG.ext0 hw.1))) M (fun w w' hw hx=>⟨HpG.onE hw.1 hx,fun h=>(hw.2.1 h).onE hx,hw.2.2⟩)
         ·intro D g hD hd;have hd11:D 11=true:=hd 11 (by simp);have hd14:D 14=true:=hd 14 (by simp);refine zV (v:=.string ⟨(((((accL.getD (i.op-80).toNat [])++(32::rgB i.d))++([44,32,91]:Bs))++rgB i.s)++uE i.imm).toArray⟩) ?_ M (fun w h=>h);refine zN M M ?_;(· (simp only[Jp,Jq,Jr];omega))
         ·intro D g hD hd;have hd15:D 15=true:=hd 15 (by simp);refine zV (v:=.string ⟨((((((accL.getD (i.op-80).toNat [])++(32::rgB i.d))++([44,32,91]:Bs))++rgB i.s)++uE i.imm)++([93]:Bs)).toArray⟩) ?_ M (fun w h=>h);refine zN M M ?_;(· (simp only[Jp,Jq,Jr];omega))
         ·intro D g hD hd;have hd16:D 16=true:=hd 16 (by simp);refine zV (v:=.string ⟨((((((accL.getD (i.op-80).toNat [])++(32::rgB i.d))++([44,32,91]:Bs))++rgB i.s)++uE i.imm)++([93]:Bs)).toArray⟩) ?_ M (fun w h=>h);refine xQ rfl
         ·refine tX (m':=[(2,.pointer (some ⟨b2,0,none⟩)),(5,.string ⟨(32::rgB i.d).toArray⟩),(8,.int .i64 i.op),(4,.string ⟨((((((accL.getD (i.op-80).toNat [])++(32::rgB i.d))++([44,32,91]:Bs))++rgB i.s)++uE i.imm)++([93]:Bs)).toArray⟩)]) (H':=Hp (fun _=>False) w_0 [(b2,kiO i)] [] (fun _=>True)) ?_ (O4 M M M M) (fun w hw=>hw.1);refine zU<|zQ<|yT<|zJ<|zP M M (fun w hw=>?_);exact⟨by unfold lnK;rw[Ku (by omega),Ku (by omega),Ku (by omega),Ku (by omega),Ku (by omega),Kv (by omega)],hw.ext0⟩
        ·replace h91:=Jw h91;refine zX<|Z14r 0 1 2 4 5 6 8 12 25 32 42 57 74 91 M M M M M M M M M M M M M M<|Zm M M<|ZF M (wW M M)<|Za M M<|ZT<|zT M (fun h111=>?_) (fun h111=>?_)
         ·replace h111:=Jv h111;refine zX<|Z15r 0 1 2 4 5 6 8 12 25 32 42 57 74 91 111 M M M M M M M M M M M M M M M<|Za M M<|ZT<|yM (ι:=Unit) (fun _=>[(1,.int .u32 a),(2,.pointer (some ⟨b2,0,none⟩)),(5,.string ⟨(32::rgB i.d).toArray⟩),(8,.int .i64 i.op),(9,.string ⟨X.toArray⟩)]) (fun _=>Hp (fun _=>False) w_0 [(b2,kiO i)] [] (fun _=>True)) ?_ (fun _=>?_)
          ·refine zX<|zY<|ZF M (zZ (off:=3) (sz:=0) M Tryz.underlying35 (by kernel_rfl) M) ?_;refine ZF M (zW 0 M M M Tryz.underlying3 M)<|ZF M (xD M M)<|ZT<|zT M (fun h116=>?_) (fun h116=>?_)
           ·replace h116:=Jv h116;have hil2:=rgB_ln h116 hx8;refine Z17 0 1 2 4 5 6 8 9 12 25 32 42 57 74 91 111 116 M M M M M M M M M M M M M M M M M<|xA (γ:=Unit) [(1,.int .u32 a),(2,.pointer (some ⟨b2,0,none⟩)),(5,.string ⟨(32::rgB i.d).toArray⟩),(8,.int .i64 i.op)] [(0,117,fun g=>.pointer (some ⟨b2,0+3,none⟩)),(1,118,fun g=>.int .i64 i.index),(2,119,fun g=>.string ⟨(rgB i.index).toArray⟩),(3,120,fun g=>.string ⟨(([43]:Bs)++rgB i.index).toArray⟩),(4,121,fun g=>.string ⟨(([43]:Bs)++rgB i.index++([42]:Bs)).toArray⟩),(5,122,fun g=>.pointer (some ⟨b2,0+4,none⟩)),(6,123,fun g=>.int .i64 i.scale),(7,124,fun g=>.int .i64 (2 ^ i.scale.toNat:Nat)),(8,125,fun g=>.string ⟨(Lib.decDigits (2 ^ i.scale.toNat)).toArray⟩),(9,126,fun g=>.string ⟨(([43]:Bs)++rgB i.index++([42]:Bs)++Lib.decDigits (2 ^ i.scale.toNat)).toArray⟩),(10,9,fun g=>.string ⟨(([43]:Bs)++rgB i.index++([42]:Bs)++Lib.decDigits (2 ^ i.scale.toNat)).toArray⟩)] (fun D g=>fun w=>Hp (fun _=>False) w_0 [(b2,kiO i)] [] (fun _=>True) w∧True) [[],[0],[1],[2],[3],[],[5],[6],[7],[4,8],[9]] () (by kernel_rfl) (by kernel_rfl) (by kernel_rfl) (O4 M M M M) (fun D w h hw=>⟨Hp.drew hw,trivial⟩) ⟨?_,?_,?_,?_,?_,?_,?_,?_,?_,?_,?_,trivial⟩ (fun g=>?_)
            ·intro D g hD hd;refine zV (v:=.pointer (some ⟨b2,0+3,none⟩)) ?_ M (fun w h=>h);refine zZ (off:=3) (sz:=0) M Tryz.underlying35 (by kernel_rfl) rfl
            ·intro D g hD hd;have hd0:D 0=true:=hd 0 (by simp);refine zV (v:=.int .i64 i.index) ?_ M (fun w h=>h);refine zC M Tryz.underlying3 M (fun w hw=>HpG.cell (k:=0) hw.1 M M)
            ·intro D g hD hd;have hd1:D 1=true:=hd 1 (by simp);refine vR (v:=.string ⟨(rgB i.index).toArray⟩) (by kernel_rfl) M (fun w hw=>regA_any i.index h116 (by omega) w (hK.tb.ext (HpG.ext0 hw.1))) M (fun w w' hw hx=>⟨HpG.onE hw.1 hx,trivial⟩)
            ·intro D g hD hd;have hd2:D 2=true:=hd 2 (by simp);refine zV (v:=.string ⟨(([43]:Bs)++rgB i.index).toArray⟩) ?_ M (fun w h=>h);refine zN M M ?_;(· (simp only[Jp,Jq,Jr];omega))
            ·intro D g hD hd;have hd3:D 3=true:=hd 3 (by simp);refine zV (v:=.string ⟨(([43]:Bs)++rgB i.index++([42]:Bs)).toArray⟩) ?_ M (fun w h=>h);refine zN M M ?_;(· (simp only[Jp,Jq,Jr];omega))
            ·intro D g hD hd;refine zV (v:=.pointer (some ⟨b2,0+4,none⟩)) ?_ M (fun w h=>h);refine zZ (off:=4) (sz:=0) M Tryz.underlying35 (by kernel_rfl) rfl
            ·intro D g hD hd;have hd5:D 5=true:=hd 5 (by simp);refine zV (v:=.int .i64 i.scale) ?_ M (fun w h=>h);refine zC M Tryz.underlying3 M (fun w hw=>HpG.cell (k:=0) hw.1 M M)
            ·intro D g hD hd;have hd6:D 6=true:=hd 6 (by simp);refine zV (v:=.int .i64 (2 ^ i.scale.toNat:Nat)) ?_ M (fun w h=>h);refine rK M M (by omega) (pow_sh hc0 hc3)
            ·intro D g hD hd;have hd7:D 7=true:=hd 7 (by simp);refine vR (v:=.string ⟨(Lib.decDigits (2 ^ i.scale.toNat)).toArray⟩) (by kernel_rfl) M (fun w hw=>itoa_pow hc0 hc3 w (hK.tb.ext (HpG.ext0 hw.1))) M (fun w w' hw hx=>⟨HpG.onE hw.1 hx,trivial⟩)
            ·intro D g hD hd;have hd4:D 4=true:=hd 4 (by simp);have hd8:D 8=true:=hd 8 (by simp);refine zV (v:=.string ⟨(([43]:Bs)++rgB i.index++([42]:Bs)++Lib.decDigits (2 ^ i.scale.toNat)).toArray⟩) ?_ M (fun w h=>h);refine zN M M ?_;(· (simp only[Jp,Jq,Jr];omega))
            ·intro D g hD hd;have hd9:D 9=true:=hd 9 (by simp);refine zV (v:=.string ⟨(([43]:Bs)++rgB i.index++([42]:Bs)++Lib.decDigits (2 ^ i.scale.toNat)).toArray⟩) ?_ M (fun w h=>h);refine xQ rfl
            ·refine tX (m':=[(1,.int .u32 a),(2,.pointer (some ⟨b2,0,none⟩)),(5,.string ⟨(32::rgB i.d).toArray⟩),(8,.int .i64 i.op),(9,.string ⟨(([43]:Bs)++rgB i.index++([42]:Bs)++Lib.decDigits (2 ^ i.scale.toNat)).toArray⟩)]) (H':=Hp (fun _=>False) w_0 [(b2,kiO i)] [] (fun _=>True)) ?_ (O5 M M M M M) (fun w hw=>hw.1);exact zM (ι:=Unit) () (.cons M<|.cons M<|.cons M<|.cons M<|.consE M (by rw[hX,Kv h116])<|.nil) (fun w h=>h)
           ·replace h116:=Jw h116;exact zI<|zM (ι:=Unit) () (.cons M<|.cons M<|.cons M<|.cons M<|.consE M (by rw[hX,Ku h116])<|.nil) (fun w h=>h)
          ·refine zX<|xA (γ:=Nat) [(2,.pointer (some ⟨b2,0,none⟩)),(5,.string ⟨(32::rgB i.d).toArray⟩),(8,.int .i64 i.op),(9,.string ⟨X.toArray⟩)] [(0,127,fun g=>.slice (some ⟨g,0,none⟩) 7 7),(1,128,fun g=>.int .i64 i.op),(2,129,fun g=>.int .i64 (i.op-80)),(3,130,fun g=>.int .i64 (i.op-88)),(4,131,fun g=>.pointer (some ⟨g,0+(i.op-88).toNat*1,none⟩)),(5,132,fun g=>.string ⟨(accL.getD (i.op-88).toNat []).toArray⟩),(6,133,fun g=>.string ⟨((accL.getD (i.op-88).toNat [])++([46,120]:Bs)).toArray⟩),(7,134,fun g=>.string ⟨(32::rgB i.d).toArray⟩),(8,135,fun g=>.string ⟨(((accL.getD (i.op-88).toNat [])++([46,120]:Bs))++(32::rgB i.d)).toArray⟩),(9,136,fun g=>.string ⟨((((accL.getD (i.op-88).toNat [])++([46,120]:Bs))++(32::rgB i.d))++([44,32,91]:Bs)).toArray⟩),(10,137,fun g=>.pointer (some ⟨b2,0+2,none⟩)),(11,138,fun g=>.int .i64 i.s),(12,139,fun g=>.string ⟨(rgB i.s).toArray⟩),(13,140,fun g=>.string ⟨(((((accL.getD (i.op-88).toNat [])++([46,120]:Bs))++(32::rgB i.d))++([44,32,91]:Bs))++rgB i.s).toArray⟩),(14,141,fun g=>.string ⟨X.toArray⟩),(15,142,fun g=>.string ⟨((((((accL.getD (i.op-88).toNat [])++([46,120]:Bs))++(32::rgB i.d))++([44,32,91]:Bs))++rgB i.s)++X).toArray⟩),(16,143,fun g=>.pointer (some ⟨b2,0+5,none⟩)),(17,144,fun g=>.int .u32 i.imm),(18,145,fun g=>.string ⟨(uE i.imm).toArray⟩),(19,146,fun g=>.string ⟨(((((((accL.getD (i.op-88).toNat [])++([46,120]:Bs))++(32::rgB i.d))++([44,32,91]:Bs))++rgB i.s)++X)++uE i.imm).toArray⟩),(20,147,fun g=>.string ⟨((((((((accL.getD (i.op-88).toNat [])++([46,120]:Bs))++(32::rgB i.d))++([44,32,91]:Bs))++rgB i.s)++X)++uE i.imm)++([93]:Bs)).toArray⟩),(21,4,fun g=>.string ⟨((((((((accL.getD (i.op-88).toNat [])++([46,120]:Bs))++(32::rgB i.d))++([44,32,91]:Bs))++rgB i.s)++X)++uE i.imm)++([93]:Bs)).toArray⟩)] (fun D g=>fun w=>Hp (fun _=>False) w_0 [(b2,kiO i)] [] (fun _=>True) w∧(D 0=true→Blk g (wC accL) w)∧(D 4=true→D 0=true)) [[],[],[1],[2],[0,3],[4],[5],[],[6,7],[8],[],[10],[11],[9,12],[],[13,14],[],[16],[17],[15,18],[19],[20]] 0 (by kernel_rfl) (by kernel_rfl) (by kernel_rfl) (O4 M M M M) (fun D w h hw=>⟨Hp.drew hw,(fun h0=>by rw[h 0 (by decide)] at h0;cases h0),(fun h0=>by rw[h 4 (by decide)] at h0;cases h0)⟩) ⟨?_,?_,?_,?_,?_,?_,?_,?_,?_,?_,?_,?_,?_,?_,?_,?_,?_,?_,?_,?_,?_,?_,trivial⟩ (fun g=>?_)
           ·intro D g hD hd;refine vF (vs:=[]) (by kernel_rfl) M (fun w hw=>(access_nm w (hK.sp.ext' (HpG.ext0 hw.1))).mono fun e w' ⟨b,_,e1,e2,e3⟩=>⟨_,e1,b,rfl,?_,HpG.onE hw.1 e2,fun _=>e3.2,fun _=>rfl⟩)
            repeat' (first|exact trivial|apply And.intro|(intro _;rfl)|(intro h;rw[hD] at h;cases h)|(intro h;have h9:=hw.2.2 h;rw[hD] at h9;cases h9))
           ·intro D g hD hd;refine zV (v:=.int .i64 i.op) ?_ M (fun w h=>h);refine zH rfl
           ·intro D g hD hd;have hd1:D 1=true:=hd 1 (by simp)
            first|(refine zV (v:=.int .i64 (i.op-80)) ?_ rfl (fun w h=>h);refine xS rfl rfl (i64_in _ ?_ ?_);(· omega);(· omega))|(refine zV (v:=.int .i64 (i.op-80)) ?_ rfl (fun w h=>h);refine xS rfl rfl rfl)
           ·intro D g hD hd;have hd2:D 2=true:=hd 2 (by simp);refine zV (v:=.int .i64 (i.op-88)) ?_ M (fun w h=>h);refine xS M M (show IntKind.i64.wrap (i.op-80-8)=i.op-88 by rw[i64_in _ (by omega) (by omega)];omega)
           ·intro D g hD hd;have hd0:D 0=true:=hd 0 (by simp);have hd3:D 3=true:=hd 3 (by simp);refine zV (v:=.pointer (some ⟨g,0+(i.op-88).toNat*1,none⟩)) ?_ M (fun w h=>⟨h.1,h.2.1,fun _=>hd0⟩);refine zB (j:=(i.op-88).toNat) (es:=1) M M Tryz.underlying59 (by kernel_rfl) (Af (by omega)).symm (by omega) rfl
           ·intro D g hD hd;have hd4:D 4=true:=hd 4 (by simp);refine zV (v:=.string ⟨(accL.getD (i.op-88).toNat []).toArray⟩) ?_ M (fun w h=>h);refine zC M Tryz.underlying9 M (fun w hw=>vV (hw.2.1 (hw.2.2 hd4)) (show (i.op-88).toNat<7 by omega))
           ·intro D g hD hd;have hd5:D 5=true:=hd 5 (by simp);refine zV (v:=.string ⟨((accL.getD (i.op-88).toNat [])++([46,120]:Bs)).toArray⟩) ?_ M (fun w h=>h);refine zN M M ?_;(· (simp only[Jp,Jq,Jr];omega))
           ·intro D g hD hd;refine zV (v:=.string ⟨(32::rgB i.d).toArray⟩) ?_ M (fun w h=>h);refine zH rfl
           ·intro D g hD hd;have hd6:D 6=true:=hd 6 (by simp);have hd7:D 7=true:=hd 7 (by simp);refine zV (v:=.string ⟨(((accL.getD (i.op-88).toNat [])++([46,120]:Bs))++(32::rgB i.d)).toArray⟩) ?_ M (fun w h=>h);refine zN M M ?_;(· (simp only[Jp,Jq,Jr];omega))
           ·intro D g hD hd;have hd8:D 8=true:=hd 8 (by simp);refine zV (v:=.string ⟨((((accL.getD (i.op-88).toNat [])++([46,120]:Bs))++(32::rgB i.d))++([44,32,91]:Bs)).toArray⟩) ?_ M (fun w h=>h);refine zN M M ?_;(· (simp only[Jp,Jq,Jr];omega))
           ·intro D g hD hd;refine zV (v:=.pointer (some ⟨b2,0+2,none⟩)) ?_ M (fun w h=>h);refine zZ (off:=2) (sz:=0) M Tryz.underlying35 (by kernel_rfl) rfl
           ·intro D g hD hd;have hd10:D 10=true:=hd 10 (by simp);refine zV (v:=.int .i64 i.s) ?_ M (fun w h=>h);refine zC M Tryz.underlying3 M (fun w hw=>HpG.cell (k:=0) hw.1 M M)
           ·intro D g hD hd;have hd11:D 11=true:=hd 11 (by simp);refine vR (v:=.string ⟨(rgB i.s).toArray⟩) (by kernel_rfl) M (fun w hw=>regA_any i.s (by omega) (by omega) w (hK.tb.ext (HpG.ext0 hw.1))) M (fun w w' hw hx=>⟨HpG.onE hw.1 hx,fun h=>(hw.2.1 h).onE hx,hw.2.2⟩)
           ·intro D g hD hd;have hd9:D 9=true:=hd 9 (by simp);have hd12:D 12=true:=hd 12 (by simp);refine zV (v:=.string ⟨(((((accL.getD (i.op-88).toNat [])++([46,120]:Bs))++(32::rgB i.d))++([44,32,91]:Bs))++rgB i.s).toArray⟩) ?_ M (fun w h=>h);refine zN M M ?_;(· (simp only[Jp,Jq,Jr];omega))
           ·intro D g hD hd;refine zV (v:=.string ⟨X.toArray⟩) ?_ M (fun w h=>h);refine zH rfl
           ·intro D g hD hd;have hd13:D 13=true:=hd 13 (by simp);have hd14:D 14=true:=hd 14 (by simp);refine zV (v:=.string ⟨((((((accL.getD (i.op-88).toNat [])++([46,120]:Bs))++(32::rgB i.d))++([44,32,91]:Bs))++rgB i.s)++X).toArray⟩) ?_ M (fun w h=>h);refine zN M M ?_;(· (simp only[Jp,Jq,Jr];omega))
           ·intro D g hD hd;refine zV (v:=.pointer (some ⟨b2,0+5,none⟩)) ?_ M (fun w h=>h);refine zZ (off:=5) (sz:=0) M Tryz.underlying35 (by kernel_rfl) rfl
           ·intro D g hD hd;have hd16:D 16=true:=hd 16 (by simp);refine zV (v:=.int .u32 i.imm) ?_ M (fun w h=>h);refine zC M Tryz.underlying22 M (fun w hw=>HpG.cell (k:=0) hw.1 M M)
           ·intro D g hD hd;have hd17:D 17=true:=hd 17 (by simp);refine vR (v:=.string ⟨(uE i.imm).toArray⟩) (by kernel_rfl) M (fun w hw=>offset_any i.imm hi w (hK.tb.ext (HpG.ext0 hw.1))) M (fun w w' hw hx=>⟨HpG.onE hw.1 hx,fun h=>(hw.2.1 h).onE hx,hw.2.2⟩)
           ·intro D g hD hd;have hd15:D 15=true:=hd 15 (by simp);have hd18:D 18=true:=hd 18 (by simp);refine zV (v:=.string ⟨(((((((accL.getD (i.op-88).toNat [])++([46,120]:Bs))++(32::rgB i.d))++([44,32,91]:Bs))++rgB i.s)++X)++uE i.imm).toArray⟩) ?_ M (fun w h=>h);refine zN M M ?_;(· (simp only[Jp,Jq,Jr];omega))
           ·intro D g hD hd;have hd19:D 19=true:=hd 19 (by simp);refine zV (v:=.string ⟨((((((((accL.getD (i.op-88).toNat [])++([46,120]:Bs))++(32::rgB i.d))++([44,32,91]:Bs))++rgB i.s)++X)++uE i.imm)++([93]:Bs)).toArray⟩) ?_ M (fun w h=>h);refine zN M M ?_;(· (simp only[Jp,Jq,Jr];omega))
           ·intro D g hD hd;have hd20:D 20=true:=hd 20 (by simp);refine zV (v:=.string ⟨((((((((accL.getD (i.op-88).toNat [])++([46,120]:Bs))++(32::rgB i.d))++([44,32,91]:Bs))++rgB i.s)++X)++uE i.imm)++([93]:Bs)).toArray⟩) ?_ M (fun w h=>h);refine xQ rfl
           ·refine tX (m':=[(2,.pointer (some ⟨b2,0,none⟩)),(5,.string ⟨(32::rgB i.d).toArray⟩),(8,.int .i64 i.op),(9,.string ⟨X.toArray⟩),(4,.string ⟨((((((((accL.getD (i.op-88).toNat [])++([46,120]:Bs))++(32::rgB i.d))++([44,32,91]:Bs))++rgB i.s)++X)++uE i.imm)++([93]:Bs)).toArray⟩)]) (H':=Hp (fun _=>False) w_0 [(b2,kiO i)] [] (fun _=>True)) ?_ (O5 M M M M M) (fun w hw=>hw.1);refine zU<|zQ<|yT<|zJ<|zP M M (fun w hw=>?_);exact⟨by unfold lnK;rw[Ku (by omega),Ku (by omega),Ku (by omega),Ku (by omega),Ku (by omega),Ku (by omega),Kv (by omega),← hX],hw.ext0⟩
         ·replace h111:=Jw h111;refine zX<|Z15r 0 1 2 4 5 6 8 12 25 32 42 57 74 91 111 M M M M M M M M M M M M M M M<|Zm M M<|ZF M (xR M M)<|Za M M<|ZT<|zT M (fun h148=>?_) (fun h148=>?_)
          ·replace h148:=Jv h148;refine zX<|Z16r 0 1 2 4 5 6 8 12 25 32 42 57 74 91 111 148 M M M M M M M M M M M M M M M M<|Zm M M<|ZF M (xS M M (i64_in _ (by omega) (by omega))) ?_
           refine zE .none M  (v:=.string ⟨(vX.getD (i.op-96).toNat []).toArray⟩) (by kernel_rfl) M (fun w hw=>by
            have:=cname_any (i.op-96).toNat (by omega) w
            rw[Af (by omega)] at this;exact this) ?_
           refine ZF M (zN M M (by (simp only[Jp,Jq,Jr];omega))) ?_;refine ZF M (zN M M (by (simp only[Jp,Jq,Jr];omega))) ?_;refine Zm M M ?_
           refine zE .none M  (v:=.string ⟨(Lib.decDigits (toK i a)).toArray⟩) (by kernel_rfl) M (fun w hw=>by
            show Calls _ _ #[.int .u32 ((if (96≤i.op∧i.op≤109)∨(112≤i.op∧i.op≤113) then toK i a else 0:Nat):Int)] _ _;rw[Kv (show (96≤i.op∧i.op≤109)∨(112≤i.op∧i.op≤113) by omega)]
            exact sD (toK i a) htk w (hK.tb.ext hw.ext0)) ?_
           refine ZF M (zN M M (by (simp only[Jp,Jq,Jr];omega))) ?_;refine Za M M<|ZT<|zQ<|yT<|zJ<|zP M M (fun w hw=>?_);exact⟨by unfold lnK;rw[Ku (by omega),Ku (by omega),Ku (by omega),Ku (by omega),Ku (by omega),Ku (by omega),Ku (by omega),Kv (by omega)],hw.ext0⟩
          ·replace h148:=Jw h148;refine zX<|Z16r 0 1 2 4 5 6 8 12 25 32 42 57 74 91 111 148 M M M M M M M M M M M M M M M M<|Zm M M<|ZF M (zG M M)<|Za M M<|ZT<|zT M (fun h159=>?_) (fun h159=>?_)
           ·replace h159:=Ke h159;refine zX<|Z17r 0 1 2 4 5 6 8 12 25 32 42 57 74 91 111 148 159 M M M M M M M M M M M M M M M M M<|Zm M M ?_
            refine zE .none M  (v:=.string ⟨(Lib.decDigits (toK i a)).toArray⟩) (by kernel_rfl) M (fun w hw=>by
             show Calls _ _ #[.int .u32 ((if (96≤i.op∧i.op≤109)∨(112≤i.op∧i.op≤113) then toK i a else 0:Nat):Int)] _ _;rw[Kv (show (96≤i.op∧i.op≤109)∨(112≤i.op∧i.op≤113) by omega)]
             exact sD (toK i a) htk w (hK.tb.ext hw.ext0)) ?_
            refine ZF rfl (zN rfl rfl (by first|omega|simp<;>omega)) ?_;refine Za M M<|ZT<|zQ<|yT<|zJ<|zP M M (fun w hw=>?_);exact⟨by unfold lnK;rw[Ku (by omega),Ku (by omega),Ku (by omega),Ku (by omega),Ku (by omega),Ku (by omega),Ku (by omega),Ku (by omega),Kv (by omega)],hw.ext0⟩
           ·replace h159:=yO h159;refine zX<|Z17r 0 1 2 4 5 6 8 12 25 32 42 57 74 91 111 148 159 M M M M M M M M M M M M M M M M M<|Zm M M<|ZF M (zG M M)<|Za M M<|ZT<|zT M (fun h165=>?_) (fun h165=>?_)
            ·replace h165:=Ke h165;refine zX<|Z18r 0 1 2 4 5 6 8 12 25 32 42 57 74 91 111 148 159 165 M M M M M M M M M M M M M M M M M M<|Zm M M ?_
             refine zE .none M  (v:=.string ⟨(Lib.decDigits (toK i a)).toArray⟩) (by kernel_rfl) M (fun w hw=>by
              show Calls _ _ #[.int .u32 ((if (96≤i.op∧i.op≤109)∨(112≤i.op∧i.op≤113) then toK i a else 0:Nat):Int)] _ _;rw[Kv (show (96≤i.op∧i.op≤109)∨(112≤i.op∧i.op≤113) by omega)]
              exact sD (toK i a) htk w (hK.tb.ext hw.ext0)) ?_
             refine ZF rfl (zN rfl rfl (by first|omega|simp<;>omega)) ?_;refine Za M M<|ZT<|zQ<|yT<|zJ<|zP M M (fun w hw=>?_);exact⟨by unfold lnK;rw[Ku (by omega),Ku (by omega),Ku (by omega),Ku (by omega),Ku (by omega),Ku (by omega),Ku (by omega),Ku (by omega),Ku (by omega),Kv (by omega)],hw.ext0⟩
            ·replace h165:=yO h165;refine zX<|Z18r 0 1 2 4 5 6 8 12 25 32 42 57 74 91 111 148 159 165 M M M M M M M M M M M M M M M M M M<|Zm M M<|ZF M (zG M M)<|Za M M<|ZT<|zT M (fun h171=>?_) (fun h171=>?_)
             ·replace h171:=Ke h171;refine zX<|Z19r 0 1 2 4 5 6 8 12 25 32 42 57 74 91 111 148 159 165 171 M M M M M M M M M M M M M M M M M M M<|ZF M (zZ (off:=5) (sz:=0) M Tryz.underlying35 (by kernel_rfl) M) ?_;refine ZF M (zW 0 M M M Tryz.underlying22 M)<|zE .none M  (v:=.string ⟨(Lib.decDigits i.imm).toArray⟩) (by kernel_rfl) M (fun w hw=>sD i.imm hi w (hK.tb.ext hw.ext0)) ?_;refine ZF rfl (zN rfl rfl (by first|omega|simp<;>omega)) ?_;refine Za M M<|ZT<|zQ<|yT<|zJ<|zP M M (fun w hw=>?_);exact⟨by unfold lnK;rw[Ku (by omega),Ku (by omega),Ku (by omega),Ku (by omega),Ku (by omega),Ku (by omega),Ku (by omega),Ku (by omega),Ku (by omega),Ku (by omega),Kv (by omega)],hw.ext0⟩
             ·replace h171:=yO h171;refine zX<|Z19r 0 1 2 4 5 6 8 12 25 32 42 57 74 91 111 148 159 165 171 M M M M M M M M M M M M M M M M M M M<|Zm M M<|ZF M (zG M M)<|Za M M<|ZT<|zT M (fun h178=>?_) (fun h178=>?_)
              ·replace h178:=Ke h178;refine zX<|Z20r 0 1 2 4 5 6 8 12 25 32 42 57 74 91 111 148 159 165 171 178 rfl rfl rfl rfl rfl rfl rfl rfl rfl rfl rfl rfl rfl rfl rfl rfl rfl rfl rfl rfl<|Zm rfl rfl<|ZF rfl (zN rfl rfl (by first|omega|simp<;>omega)) ?_;refine ZF rfl (zN rfl rfl (by first|omega|simp<;>omega)) ?_;refine ZF M (zZ (off:=2) (sz:=0) M Tryz.underlying35 (by kernel_rfl) M) ?_;refine ZF M (zW 0 M M M Tryz.underlying3 M)<|zE .none M  (v:=.string ⟨(Lib.decDigits i.s.toNat).toArray⟩) (by kernel_rfl) M (fun w hw=>by have:=sF i.s (by omega) (by omega) w (hK.tb.ext hw.ext0);rw[hsd] at this;exact this) ?_;refine ZF rfl (zN rfl rfl (by first|omega|simp<;>omega)) ?_;refine Za M M<|ZT<|zQ<|yT<|zJ<|zP M M (fun w hw=>?_);exact⟨by unfold lnK;rw[Ku (by omega),Ku (by omega),Ku (by omega),Ku (by omega),Ku (by omega),Ku (by omega),Ku (by omega),Ku (by omega),Ku (by omega),Ku (by omega),Ku (by omega),Kv (by omega)],hw.ext0⟩
              ·replace h178:=yO h178;refine zI<|yY<|zU<|zX<|Z20r 0 1 2 4 5 6 8 12 25 32 42 57 74 91 111 148 159 165 171 178 rfl rfl rfl rfl rfl rfl rfl rfl rfl rfl rfl rfl rfl rfl rfl rfl rfl rfl rfl rfl<|Zm rfl rfl<|ZF rfl (zN rfl rfl (by first|omega|simp<;>omega)) ?_;refine ZF rfl (zN rfl rfl (by first|omega|simp<;>omega)) ?_;refine ZF M (zZ (off:=2) (sz:=0) M Tryz.underlying35 (by kernel_rfl) M) ?_;refine ZF M (zW 0 M M M Tryz.underlying3 M)<|zE .none M  (v:=.string ⟨(Lib.decDigits i.s.toNat).toArray⟩) (by kernel_rfl) M (fun w hw=>by have:=sF i.s (by omega) (by omega) w (hK.tb.ext hw.ext0);rw[hsd] at this;exact this) ?_;refine ZF rfl (zN rfl rfl (by first|omega|simp<;>omega)) ?_;refine Za M M<|ZT<|zQ<|zP M M (fun w hw=>?_);exact⟨by unfold lnK;rw[Ku (by omega),Ku (by omega),Ku (by omega),Ku (by omega),Ku (by omega),Ku (by omega),Ku (by omega),Ku (by omega),Ku (by omega),Ku (by omega),Ku (by omega),Ku (by omega)],hw.ext0⟩
end Go.Proofs.YtkaepknpplhgkaaGreatDoor
namespace Go.Proofs.YtkaepknpplhgkaaGreatDoor
open Go.RowKit
section
variable {P:Program}{ops:Array Oper}{Q:Exit→Act→World→Prop}{n:Fr}
end
end Go.Proofs.YtkaepknpplhgkaaGreatDoor
