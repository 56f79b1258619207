import Derived.Test.YtkaepknpplhgkaaGreatDoorMaX
import Derived.Test.YtkaepknpplhgkaaGreatDoorMaV
namespace Go.Proofs.YtkaepknpplhgkaaGreatDoor
open Go.RowKit
def BitA (b:Nat):Prop:=b=8∨b=18∨b=22
theorem sX (x:Int):IntKind.u32.wrap x=x%4294967296:=by simp only[IntKind.wrap,IntKind.bits,IntKind.signed];simp
theorem u8w (x:Int):IntKind.u8.wrap x=x%256:=by simp only[IntKind.wrap,IntKind.bits,IntKind.signed];simp
theorem i32w (x:Int):IntKind.i32.wrap x=if 2147483648≤x%4294967296 then x%4294967296-4294967296 else x%4294967296:=by
 simp only[IntKind.wrap,IntKind.bits,IntKind.signed];simp
theorem sgn_arith {n b:Nat}(_hn:n<4294967296) (hb:BitA b):IntKind.u32.wrap ((IntKind.i32.wrap (IntKind.u32.wrap ((n:Int)*2 ^ (min ((32:Int)-b).toNat 32)))).fdiv (2 ^ (min ((32:Int)-b).toNat 32)))=(sxL n b:Nat):=by
 rw[sX,sX,i32w];unfold sxL;rcases hb with rfl|rfl|rfl
 ·rw[show (min ((32:Int)-(8:Nat)).toNat 32)=24 from rfl,Int.fdiv_eq_ediv_of_nonneg _ (by decide)];have e:(2:Int) ^ 24=16777216:=by decide
  rw[e];simp only[Nat.reducePow,Nat.reduceSub]
  split<;>split<;>omega
 ·rw[show (min ((32:Int)-(18:Nat)).toNat 32)=14 from rfl,Int.fdiv_eq_ediv_of_nonneg _ (by decide)];have e:(2:Int) ^ 14=16384:=by decide
  rw[e];simp only[Nat.reducePow,Nat.reduceSub]
  split<;>split<;>omega
 ·rw[show (min ((32:Int)-(22:Nat)).toNat 32)=10 from rfl,Int.fdiv_eq_ediv_of_nonneg _ (by decide)];have e:(2:Int) ^ 10=1024:=by decide
  rw[e];simp only[Nat.reducePow,Nat.reduceSub]
  split<;>split<;>omega
theorem sxL_fit {n b:Nat}(hn:n<4294967296) (hb:BitA b):decide (sxL n b=n)=vC n b:=by
 rw[Ka];unfold sxL vC;rcases hb with rfl|rfl|rfl<;>simp<;>split<;>omega
theorem sxL_lt {n b:Nat}(hb:BitA b):sxL n b<4294967296:=by
 unfold sxL;rcases hb with rfl|rfl|rfl<;>simp<;>split<;>omega
theorem sign_any (n b:Nat) (hn:n<4294967296) (hb:BitA b) (w_0:World):Calls Tryz.prog 164 #[.int .u32 n,.int .i64 b] w_0 fun e w'=>e=.returned (.int .u32 (sxL n b))∧Ext w_0 w':=by
 have hb1:1≤b∧b<32:=by rcases hb with rfl|rfl|rfl<;>omega
 refine zH (args:=[.int .u32 n,.int .i64 b]) Tryz.func164 M 21 M (Kc M)<|Z2 0 1 M M<|zR (H':=Hp (fun _=>False) w_0 [] [] (fun _=>True)) (fun u hu=>?_) ?_
 ·subst hu;exact Hp.start0
 refine zX<|zZ<|Za M M<|ZX<|yV<|zX<|zZ<|Zm M M<|ZF M (yB M M)<|Za M M<|ZT<|zW M (fun h5=>?_) (fun h5=>?_)
 ·replace h5:=Ke h5;omega
 ·replace h5:=Kf h5;refine zX<|Z4r 0 1 4 5 M M M M<|Zm M M<|ZF M (xY M M)<|Za M M<|ZT<|zW M (fun h8=>?_) (fun h8=>?_)
  ·replace h8:=Ke h8;omega
  ·replace h8:=Kf h8;refine zL<|yW<|zP<|zX<|Z5r 0 1 4 5 8 M M M M M<|Zm M M<|Zm M M<|ZF M (xV M M (i64_in _ (by omega) (by omega))) ?_;refine ZF rfl (uM rfl rfl (by first|decide|omega) rfl) ?_
   refine ZF M (yQ M (by kernel_rfl) U21 M) ?_
   refine Zm M M<|ZF M (xV M M (i64_in _ (by omega) (by omega))) ?_;refine ZF rfl (yf_shr rfl rfl (by first|decide|omega) rfl) ?_
   refine ZF M (yQ M (by kernel_rfl) U22 M) ?_
   refine Za M M<|ZT<|zQ<|zO M M (fun w hw=>?_);exact⟨by rw[← sgn_arith hn hb];rfl,(Kg hw).ext⟩
theorem fits_any (n b:Nat) (hn:n<4294967296) (hb:BitA b) (w_0:World):Calls Tryz.prog 107 #[.int .u32 n,.int .i64 b] w_0 fun e w'=>e=.returned (.bool (vC n b))∧Ext w_0 w':=by
 have hf:=sxL_fit hn hb;refine zH (args:=[.int .u32 n,.int .i64 b]) Tryz.func107 M 10 M (Kc M)<|Z2 0 1 M M<|zR (H':=Hp (fun _=>False) w_0 [] [] (fun _=>True)) (fun u hu=>?_) ?_
 ·subst hu;exact Hp.start0
 refine zX<|zZ<|Za M M<|ZX<|zZ<|Zm M M<|Zm M M<|zE .none M  (v:=.int .u32 (sxL n b)) (by kernel_rfl) M (fun w hw=>sign_any n b hn hb w) ?_;refine Zm M M<|ZF M (yY M M)<|Za M M<|ZT<|zQ<|zO M M (fun w hw=>?_);exact⟨by rw[← hf];congr 2;rw[Ka,Ai,Ac];omega,(Kg hw).ext⟩
theorem pY (n k:Nat):(vD n k).length=k:=by
 induction k generalizing n with
 | zero=>rfl
 | succ k ih=>show (vD (n/256) k).length+1=_;rw[ih]
theorem byL_nat (n:Nat):(byL (n%256)).toNat=n%256:=by
 unfold byL;rw[UInt8.toNat_ofNat'];omega
theorem putL_cells {n:Nat}(_hn:n<4294967296) (k:Nat) (hk:k≤4):∀j (hj:j<(vD n k).length),([.int .u8 (IntKind.u8.wrap n),.int .u8 (IntKind.u8.wrap ((n:Int).fdiv (2 ^ (min (8:Int).toNat 32)))),.int .u8 (IntKind.u8.wrap ((n:Int).fdiv (2 ^ (min (16:Int).toNat 32)))),.int .u8 (IntKind.u8.wrap ((n:Int).fdiv (2 ^ (min (24:Int).toNat 32))))]:List Value)[0+j]? = some (.int .u8 ((vD n k)[j].toNat:Int)):=by
 have key:∀(k j:Nat) (m:Nat) (hj:j<(vD m k).length),((vD m k)[j].toNat:Int)=((m/256 ^ j%256:Nat):Int):=by
  intro k
  induction k with
  | zero=>intro j m hj;rw[pY] at hj;omega
  | succ k ih =>
   intro j m hj
   cases j with
   | zero=>show ((byL (m%256)).toNat:Int)=_;rw[byL_nat,Nat.pow_zero,Nat.div_one]
   | succ j =>
    have h1:j<(vD (m/256) k).length:=by rw[pY] at hj ⊢;omega
    show (((vD (m/256) k)[j]'h1).toNat:Int)=_;rw[ih j (m/256) h1,Nat.div_div_eq_div_mul,Nat.pow_succ,Nat.mul_comm]
 intro j hj;rw[key];have hj4:j<4:=by rw[pY] at hj;omega
 have:j=0∨j=1∨j=2∨j=3:=by omega
 have hw:∀x:Nat,IntKind.u8.wrap (x:Int)=((x%256:Nat):Int):=fun x=>by rw[u8w];simp
 have hf:∀p:Nat,((n:Int).fdiv (2 ^ p))=((n/2 ^ p:Nat):Int):=fun p=>by rw[Int.fdiv_eq_ediv_of_nonneg _ (Int.le_of_lt (by have:0<(2:Int) ^ p:=Int.pow_pos (by decide);exact this))];simp
 rcases this with rfl|rfl|rfl|rfl
 ·simp[hw]
 ·show some (Value.int .u8 (IntKind.u8.wrap ((n:Int).fdiv (2 ^ 8))))=_;rw[hf,hw]
 ·show some (Value.int .u8 (IntKind.u8.wrap ((n:Int).fdiv (2 ^ 16))))=_;rw[hf,hw]
 ·show some (Value.int .u8 (IntKind.u8.wrap ((n:Int).fdiv (2 ^ 24))))=_;rw[hf,hw]
theorem put_any (n k:Nat) (hn:n<4294967296) (hk:k≤4) (w_0:World):Calls Tryz.prog 112 #[.int .u32 n,.int .i64 k] w_0 fun e w'=>e=.returned (.string ⟨(vD n k).toArray⟩)∧Ext w_0 w':=by
 refine zH (args:=[.int .u32 n,.int .i64 k]) Tryz.func112 M 24 M (Kc M)<|Z2 0 1 M M<|zR (H':=Hp (fun _=>False) w_0 [] [] (fun _=>True)) (fun u hu=>?_) ?_
 ·subst hu;exact Hp.start0
 refine zX<|zZ<|Za M M<|ZX<|zZ<|Zm M M ?_
 refine ZF M (yQ M (by kernel_rfl) U5 M) ?_
 refine Zm rfl rfl<|ZF rfl (yf_shr rfl rfl (by first|decide|omega) rfl) ?_
 refine ZF M (yQ M (by kernel_rfl) U5 M) ?_
 refine Zm rfl rfl<|ZF rfl (yf_shr rfl rfl (by first|decide|omega) rfl) ?_
 refine ZF M (yQ M (by kernel_rfl) U5 M) ?_
 refine Zm rfl rfl<|ZF rfl (yf_shr rfl rfl (by first|decide|omega) rfl) ?_
 refine ZF M (yQ M (by kernel_rfl) U5 M) ?_
 refine zC .none M (tR (z:=.int .u8 0) M M M M U53 (by kernel_rfl) (by kernel_rfl) M M) (fun b17=>?_);refine Za M M<|ZX<|Z4r 0 1 4 5 M M M M<|Zm M M<|Zm M M<|ZF M (yf_min M M)<|ZF M (yf_max M M)<|ZF M (yf_sliceHi (size:=1) (i:=k) M M U53 (by kernel_rfl) (by split<;>split<;>omega) (by omega)) ?_
 refine ZF M (tG 0 (vD n k) M M Tryz.underlying53 Tryz.underlying5 Tryz.underlying9 (pY n k) (putL_cells hn k hk)) ?_
 refine Za M M<|ZT<|zQ<|zO M M (fun w hw=>?_);exact⟨rfl,(Kg hw).ext⟩
end Go.Proofs.YtkaepknpplhgkaaGreatDoor
namespace Go.Proofs.YtkaepknpplhgkaaGreatDoor
theorem cutA_no:∀{s:Bs},(∀c∈s,c≠59)→vS s=s
 | [],_=>rfl
 | c::s,h=>by
  have hc:=h c (by simp);have ih:=cutA_no fun d hd=>h d (Kv _ hd);unfold vS at *;rw[List.takeWhile_cons,Ae (by simp[hc]),ih]
theorem lexA_no {s:Bs}(h:∀c∈s,c≠59):lexA s=uP s:=by unfold lexA uP;rw[cutA_no h]
theorem dec_mem {n:Nat}{c:UInt8}(h:c∈Lib.decDigits n):uD c=true:=(dec_all (n+1) n (by omega)).1 c h
theorem dig_ne {c d:UInt8}(h:uD c=true) (hd:uD d=false):c≠d:=fun e=>by subst e;rw[h] at hd;cases hd
theorem andR_ok {α β:Type}(a:α) (f:α→Except Nat β):xP (.ok a) f=f a:=rfl
end Go.Proofs.YtkaepknpplhgkaaGreatDoor
namespace Go.Proofs.YtkaepknpplhgkaaGreatDoor
end Go.Proofs.YtkaepknpplhgkaaGreatDoor
namespace Go.Proofs.YtkaepknpplhgkaaGreatDoor
structure LnA (kind:Int) (s:Bs) (st:ASt):Prop where
 ok:liA kind s=.ok st
 lb:st.label=[]
def plcS:List ASt→Nat→List ASt
 | [],_=>[]
 | s::r,a=>{ s with at_:=a }::plcS r (a+s.size)
inductive LnsA (kind:Int):List Bs→List ASt→Prop
 | nil:LnsA kind [] []
 | cons {s:Bs} {st:ASt} {l:List Bs} {r:List ASt} (h:LnA kind s st) (t:LnsA kind l r):LnsA kind (s::l) (st::r)
theorem LnsA.app {kind:Int}{l l':List Bs}{r r':List ASt}(h:LnsA kind l r) (k:LnsA kind l' r'):LnsA kind (l++l') (r++r'):=by
 induction h with
 | nil=>exact k
 | cons h _ ih=>exact .cons h ih
inductive CdA (lb:List (Bs×Nat)):List ASt→Bs→Prop
 | nil:CdA lb [] []
 | cons {st:ASt} {r:List ASt} {c d:Bs} {v:List Nat} (hv:vL lb st.l=.ok v) (h:∀a a',cdA { st with at_:=a' } v a=.ok c) (t:CdA lb r d):CdA lb (st::r) (c++d)
theorem CdA.app {lb:List (Bs×Nat)}{r r':List ASt}{c c':Bs}(h:CdA lb r c) (k:CdA lb r' c'):CdA lb (r++r') (c++c'):=by
 induction h with
 | nil=>exact k
 | cons hv h _ ih=>rw[Kr];exact .cons hv h ih
theorem op_num (kind:Int) (n:Nat) (r:List ATk):opA kind ([⟨48,[],n⟩]++r)=.ok (⟨118,0,[],n,0,0⟩,r):=by
 unfold opA;rw[Ad (by simp[isA]),Ad (by simp[isA]),Ae ⟨_,rfl,rfl⟩];rfl
theorem op_neg (kind:Int) (n:Nat) (r:List ATk):opA kind ([⟨115,[45],0⟩,⟨48,[],n⟩]++r)=.ok (⟨118,0,[],negA n,0,0⟩,r):=by
 unfold opA;rw[Ad (by simp[isA]),Ae (by simp[isA])];rfl
def uK (n:Nat):Bs:=if 2147483648≤n then 45::Lib.decDigits (4294967296-n) else Lib.decDigits n
def rA (n:Nat):AOp:=⟨118,0,[],n,0,0⟩
end Go.Proofs.YtkaepknpplhgkaaGreatDoor
namespace Go.Proofs.YtkaepknpplhgkaaGreatDoor
variable {kind:Int}{x br:ASt}{c:Bs}
end Go.Proofs.YtkaepknpplhgkaaGreatDoor
namespace Go.Proofs.YtkaepknpplhgkaaGreatDoor
inductive CdP (org:Nat) (lb:List (Bs×Nat)):List ASt→Bs→Prop
 | nil:CdP org lb [] []
 | cons {st:ASt} {r:List ASt} {c d:Bs} {v:List Nat} (hv:vL lb st.l=.ok v) (h:cdA st v ((org+st.at_)%4294967296)=.ok c) (t:CdP org lb r d):CdP org lb (st::r) (c++d)
theorem CdP.app {org:Nat}{lb:List (Bs×Nat)}{r r':List ASt}{c c':Bs}(h:CdP org lb r c) (k:CdP org lb r' c'):CdP org lb (r++r') (c++c'):=by
 induction h with
 | nil=>exact k
 | cons hv h _ ih=>rw[Kr];exact .cons hv h ih
end Go.Proofs.YtkaepknpplhgkaaGreatDoor
namespace Go.Proofs.YtkaepknpplhgkaaGreatDoor
theorem oJ:∀(k n:Nat),n<256 ^ k→getL (vD n k)=n
 | 0,n,h=>by simp only[Nat.pow_zero] at h;show 0=n;omega
 | k+1,n,h=>by
  have hb:(byL (n%256)).toNat=n%256:=by
   have:n%256<256:=Nat.mod_lt _ (by omega);unfold byL;rw[UInt8.toNat_ofNat'];omega
  rw[Nat.pow_succ] at h;show (byL (n%256)).toNat+256*getL (vD (n/256) k)=n;rw[oJ k (n/256) (Nat.div_lt_of_lt_mul (by rw[Nat.mul_comm];exact h)),hb];omega
theorem subW_lt (a b:Nat):subW a b<4294967296:=Nat.mod_lt _ (by omega)
end Go.Proofs.YtkaepknpplhgkaaGreatDoor
