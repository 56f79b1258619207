import Derived.Test.YtkaepknpplhgkaaGreatDoorMaX
import Derived.Test.YtkaepknpplhgkaaGreatDoorMaV
namespace Go.Proofs.YtkaepknpplhgkaaGreatDoor
open Go.RowKit
def BitA (b:Nat):Prop:=b=8∨b=18∨b=22
theorem u32w (x:Int):IntKind.u32.wrap x=x%4294967296:=by simp only[IntKind.wrap,IntKind.bits,IntKind.signed];simp
theorem u8w (x:Int):IntKind.u8.wrap x=x%256:=by simp only[IntKind.wrap,IntKind.bits,IntKind.signed];simp
theorem i32w (x:Int):IntKind.i32.wrap x=if 2147483648≤x%4294967296 then x%4294967296-4294967296 else x%4294967296:=by
 simp only[IntKind.wrap,IntKind.bits,IntKind.signed];simp
theorem sgn_arith {n b:Nat}(_hn:n<4294967296) (hb:BitA b):IntKind.u32.wrap ((IntKind.i32.wrap (IntKind.u32.wrap ((n:Int)*2 ^ (min ((32:Int)-b).toNat 32)))).fdiv (2 ^ (min ((32:Int)-b).toNat 32)))=(sxL n b:Nat):=by
 rw[u32w,u32w,i32w];unfold sxL;rcases hb with rfl|rfl|rfl
 ·rw[show (min ((32:Int)-(8:Nat)).toNat 32)=24 from rfl,Int.fdiv_eq_ediv_of_nonneg _ (by decide)];have e:(2:Int) ^ 24=16777216:=by decide
  rw[e];simp only[Nat.reducePow,Nat.reduceSub]
  split<;>split<;>omega
 ·rw[show (min ((32:Int)-(18:Nat)).toNat 32)=14 from rfl,Int.fdiv_eq_ediv_of_nonneg _ (by decide)];have e:(2:Int) ^ 14=16384:=by decide
  rw[e];simp only[Nat.reducePow,Nat.reduceSub]
  split<;>split<;>omega
 rw[show (min ((32:Int)-(22:Nat)).toNat 32)=10 from rfl,Int.fdiv_eq_ediv_of_nonneg _ (by decide)];have e:(2:Int) ^ 10=1024:=by decide
 rw[e];simp only[Nat.reducePow,Nat.reduceSub]
 split<;>split<;>omega
theorem sxL_fit {n b:Nat}(hn:n<4294967296) (hb:BitA b):decide (sxL n b=n)=wE n b:=by
 rw[Kf];unfold sxL wE;rcases hb with rfl|rfl|rfl<;>simp<;>split<;>omega
theorem sign_any (n b:Nat) (hn:n<4294967296) (hb:BitA b) (w_0:World):Calls Tryz.prog 164 #[.int .u32 n,.int .i64 b] w_0 fun e w'=>e=.returned (.int .u32 (sxL n b))∧Ext w_0 w':=by
 have hb1:1≤b∧b<32:=by rcases hb with rfl|rfl|rfl<;>omega
 refine zN (args:=[.int .u32 n,.int .i64 b]) Tryz.func164 M 21 M (Kh M)<|Z2 0 1 M<|Z0<|zX<|zZ<|Za M M<|ZX<|zJ<|zX<|zZ<|Zm M M<|ZF M (yR M M)<|Za M M<|ZT<|zT M (fun h5=>?_) (fun h5=>?_)
 ·replace h5:=Ki h5;omega
 replace h5:=Kj h5;refine zX<|Z4r 0 1 4 5 M<|Zm M M<|ZF M (yC M M)<|Za M M<|ZT<|zT M (fun h8=>?_) (fun h8=>?_)
 ·replace h8:=Ki h8;omega
 replace h8:=Kj h8;refine zR<|zH<|zV<|zX<|Z5r 0 1 4 5 8 rfl<|Zm rfl rfl<|Zm rfl rfl<|ZF rfl (vL rfl rfl (i64_in _ (by omega) (by omega)))<|ZF rfl (sP rfl rfl (by first|decide|omega) rfl) ?_;refine ZF rfl (Zc rfl Tryz.underlying21 rfl)<|Zm rfl rfl<|ZF rfl (vL rfl rfl (i64_in _ (by omega) (by omega)))<|ZF rfl (qE rfl rfl (by first|decide|omega) rfl) ?_;refine ZF M (Zc M U22 M)<|Za M M<|ZU M M fun w hw=>⟨by rw[← sgn_arith hn hb];rfl,(Kk hw).ext⟩
theorem fits_any (n b:Nat) (hn:n<4294967296) (hb:BitA b) (w_0:World):Calls Tryz.prog 107 #[.int .u32 n,.int .i64 b] w_0 fun e w'=>e=.returned (.bool (wE n b))∧Ext w_0 w':=by
 have hf:=sxL_fit hn hb;refine zN (args:=[.int .u32 n,.int .i64 b]) Tryz.func107 M 10 M (Kh M)<|Z2 0 1 M<|Z0<|zX<|zZ<|Za M M<|ZX<|zZ<|Zm M M<|Zm M M<|Zu (v:=.int .u32 (sxL n b)) M (fun w hw=>sign_any n b hn hb w)<|Zm M M<|Ze M<|Za M M<|ZU M M fun w hw=>⟨by rw[← hf];congr 2;rw[Kf,Am,Af];omega,(Kk hw).ext⟩
theorem pW (n k:Nat):(wS n k).length=k:=by
 induction k generalizing n with
 | zero=>rfl
 | succ k ih=>show (wS (n/256) k).length+1=_;rw[ih]
theorem byL_nat (n:Nat):(byL (n%256)).toNat=n%256:=by
 unfold byL;rw[UInt8.toNat_ofNat'];omega
theorem putL_cells {n:Nat}(_hn:n<4294967296) (k:Nat) (hk:k≤4):∀j (hj:j<(wS n k).length),([.int .u8 (IntKind.u8.wrap n),.int .u8 (IntKind.u8.wrap ((n:Int).fdiv (2 ^ (min (8:Int).toNat 32)))),.int .u8 (IntKind.u8.wrap ((n:Int).fdiv (2 ^ (min (16:Int).toNat 32)))),.int .u8 (IntKind.u8.wrap ((n:Int).fdiv (2 ^ (min (24:Int).toNat 32))))]:List Value)[0+j]? = some (.int .u8 ((wS n k)[j].toNat:Int)):=by
 have key:∀(k j:Nat) (m:Nat) (hj:j<(wS m k).length),((wS m k)[j].toNat:Int)=((m/256 ^ j%256:Nat):Int):=by
  intro k
  induction k with
  | zero=>intro j m hj;rw[pW] at hj;omega
  | succ k ih =>
   intro j m hj
   cases j with
   | zero=>show ((byL (m%256)).toNat:Int)=_;rw[byL_nat,Nat.pow_zero,Nat.div_one]
   | succ j =>
    have h1:j<(wS (m/256) k).length:=by rw[pW] at hj ⊢;omega
    show (((wS (m/256) k)[j]'h1).toNat:Int)=_;rw[ih j (m/256) h1,Nat.div_div_eq_div_mul,Nat.pow_succ,Nat.mul_comm]
 intro j hj;rw[key];have hj4:j<4:=by rw[pW] at hj;omega
 have:j=0∨j=1∨j=2∨j=3:=by omega
 have hw:∀x:Nat,IntKind.u8.wrap (x:Int)=((x%256:Nat):Int):=fun x=>by rw[u8w];simp
 have hf:∀p:Nat,((n:Int).fdiv (2 ^ p))=((n/2 ^ p:Nat):Int):=fun p=>by rw[Int.fdiv_eq_ediv_of_nonneg _ (Int.le_of_lt (by have:0<(2:Int) ^ p:=Int.pow_pos (by decide);exact this))];simp
 rcases this with rfl|rfl|rfl|rfl;simp[hw];show some (Value.int .u8 (IntKind.u8.wrap ((n:Int).fdiv (2 ^ 8))))=_;rw[hf,hw];show some (Value.int .u8 (IntKind.u8.wrap ((n:Int).fdiv (2 ^ 16))))=_;rw[hf,hw];show some (Value.int .u8 (IntKind.u8.wrap ((n:Int).fdiv (2 ^ 24))))=_;rw[hf,hw]
theorem put_any (n k:Nat) (hn:n<4294967296) (hk:k≤4) (w_0:World):Calls Tryz.prog 112 #[.int .u32 n,.int .i64 k] w_0 fun e w'=>e=.returned (.string ⟨(wS n k).toArray⟩)∧Ext w_0 w':=by
 refine zN (args:=[.int .u32 n,.int .i64 k]) Tryz.func112 rfl 24 rfl (Kh rfl)<|Z2 0 1 rfl<|Z0<|zX<|zZ<|Za rfl rfl<|ZX<|zZ<|Zm rfl rfl<|ZF rfl (Zc rfl U5 rfl)<|Zm rfl rfl<|ZF rfl (qE rfl rfl (by first|decide|omega) rfl) ?_;refine ZF rfl (Zc rfl U5 rfl)<|Zm rfl rfl<|ZF rfl (qE rfl rfl (by first|decide|omega) rfl) ?_;refine ZF rfl (Zc rfl U5 rfl)<|Zm rfl rfl<|ZF rfl (qE rfl rfl (by first|decide|omega) rfl) ?_;refine ZF M (Zc M U5 M)<|zA .none M (tX (z:=.int .u8 0) M M M M U53 (by kernel_rfl) (by kernel_rfl) M M) fun b17=>Za M M<|ZX<|Z4r 0 1 4 5 M<|Zm M M<|Zm M M<|ZF M (yf_min M M)<|ZF M (yf_max M M)<|ZF M (yf_sliceHi (size:=1) (i:=k) M M U53 (by kernel_rfl) (by split<;>split<;>omega) (by omega)) ?_
 refine ZF M (sO 0 (wS n k) M M Tryz.underlying53 Tryz.underlying5 Tryz.underlying9 (pW n k) (putL_cells hn k hk)) ?_
 refine Za M M<|ZU M M fun w hw=>⟨rfl,(Kk hw).ext⟩
end Go.Proofs.YtkaepknpplhgkaaGreatDoor
namespace Go.Proofs.YtkaepknpplhgkaaGreatDoor
theorem cutA_no:∀{s:Bs},(∀c∈s,c≠59)→xM s=s
 | [],_=>rfl
 | c::s,h=>by
  have hc:=h c (by simp);have ih:=cutA_no fun d hd=>h d (Ky _ hd);unfold xM at *;rw[List.takeWhile_cons,Ah (by simp[hc]),ih]
theorem lexA_no {s:Bs}(h:∀c∈s,c≠59):rN s=vV s:=by unfold rN vV;rw[cutA_no h]
theorem dec_mem {n:Nat}{c:UInt8}(h:c∈Lib.decDigits n):vU c=true:=(dec_all (n+1) n (by omega)).1 c h
theorem dig_ne {c d:UInt8}(h:vU c=true) (hd:vU d=false):c≠d:=fun e=>by subst e;rw[h] at hd;cases hd
end Go.Proofs.YtkaepknpplhgkaaGreatDoor
namespace Go.Proofs.YtkaepknpplhgkaaGreatDoor
end Go.Proofs.YtkaepknpplhgkaaGreatDoor
namespace Go.Proofs.YtkaepknpplhgkaaGreatDoor
structure LnA (kind:Int) (s:Bs) (st:ASt):Prop where
 ok:liA kind s=.ok st
 lb:st.label=[]
def plcS:List ASt→Nat→List ASt
 | [],_=>[]
 | s::r,a=>{ s with at_:=a }::plcS r (a+s.size)
inductive LnsA (kind:Int):List Bs→List ASt→Prop
 | nil:LnsA kind [] []
 | cons {s:Bs} {st:ASt} {l:List Bs} {r:List ASt} (h:LnA kind s st) (t:LnsA kind l r):LnsA kind (s::l) (st::r)
theorem LnsA.app {kind:Int}{l l':List Bs}{r r':List ASt}(h:LnsA kind l r) (k:LnsA kind l' r'):LnsA kind (l++l') (r++r'):=by
 induction h with
 | nil=>exact k
 | cons h _ ih=>exact .cons h ih
inductive CdA (lb:List (Bs×Nat)):List ASt→Bs→Prop
 | nil:CdA lb [] []
 | cons {st:ASt} {r:List ASt} {c d:Bs} {v:List Nat} (hv:wP lb st.l=.ok v) (h:∀a a',cdA { st with at_:=a' } v a=.ok c) (t:CdA lb r d):CdA lb (st::r) (c++d)
theorem CdA.app {lb:List (Bs×Nat)}{r r':List ASt}{c c':Bs}(h:CdA lb r c) (k:CdA lb r' c'):CdA lb (r++r') (c++c'):=by
 induction h with
 | nil=>exact k
 | cons hv h _ ih=>rw[Kv];exact .cons hv h ih
def sgnB (n:Nat):Bs:=if 2147483648≤n then 45::Lib.decDigits (4294967296-n) else Lib.decDigits n
end Go.Proofs.YtkaepknpplhgkaaGreatDoor
namespace Go.Proofs.YtkaepknpplhgkaaGreatDoor
def eT:List Bs:=[[120,58,32,98,114,101,97,107],[115,121,115,32,121],[98,97,107,101,32,114,49],[115,121,115,32,52,50,57,52,57,54,55,50,57,54],[121,58,32,115,121,115,32,120,32,120]]
variable {kind:Int}{x br:ASt}{c:Bs}
end Go.Proofs.YtkaepknpplhgkaaGreatDoor
namespace Go.Proofs.YtkaepknpplhgkaaGreatDoor
inductive CdP (org:Nat) (lb:List (Bs×Nat)):List ASt→Bs→Prop
 | nil:CdP org lb [] []
 | cons {st:ASt} {r:List ASt} {c d:Bs} {v:List Nat} (hv:wP lb st.l=.ok v) (h:cdA st v ((org+st.at_)%4294967296)=.ok c) (t:CdP org lb r d):CdP org lb (st::r) (c++d)
theorem CdP.app {org:Nat}{lb:List (Bs×Nat)}{r r':List ASt}{c c':Bs}(h:CdP org lb r c) (k:CdP org lb r' c'):CdP org lb (r++r') (c++c'):=by
 induction h with
 | nil=>exact k
 | cons hv h _ ih=>rw[Kv];exact .cons hv h ih
def oA:Bs:=[97,58]
end Go.Proofs.YtkaepknpplhgkaaGreatDoor
namespace Go.Proofs.YtkaepknpplhgkaaGreatDoor
theorem nK:∀(k n:Nat),n<256 ^ k→getL (wS n k)=n
 | 0,n,h=>by simp only[Nat.pow_zero] at h;show 0=n;omega
 | k+1,n,h=>by
  have hb:(byL (n%256)).toNat=n%256:=by
   have:n%256<256:=Nat.mod_lt _ (by omega);unfold byL;rw[UInt8.toNat_ofNat'];omega
  rw[Nat.pow_succ] at h;show (byL (n%256)).toNat+256*getL (wS (n/256) k)=n;rw[nK k (n/256) (Nat.div_lt_of_lt_mul (by rw[Nat.mul_comm];exact h)),hb];omega
theorem pE (a b:Nat):subW a b<4294967296:=Nat.mod_lt _ (by omega)
end Go.Proofs.YtkaepknpplhgkaaGreatDoor
