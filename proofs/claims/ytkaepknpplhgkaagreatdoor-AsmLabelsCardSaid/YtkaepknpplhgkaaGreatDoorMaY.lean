/- Words: Sign, Fits, Put, walked. -/
import Derived.Test.YtkaepknpplhgkaaGreatDoorMaX
import Derived.Test.YtkaepknpplhgkaaGreatDoorMaV
namespace Go.Proofs.YtkaepknpplhgkaaGreatDoor
open Go.RowKit
def BitA (b:Nat):Prop:=b=8∨b=18∨b=22
theorem u32w (x:Int):IntKind.u32.wrap x=x%4294967296:=by simp only[IntKind.wrap,IntKind.bits,IntKind.signed];simp
theorem u8w (x:Int):IntKind.u8.wrap x=x%256:=by simp only[IntKind.wrap,IntKind.bits,IntKind.signed];simp
theorem i32w (x:Int):IntKind.i32.wrap x=if 2147483648≤x%4294967296 then x%4294967296-4294967296 else x%4294967296:=by
 simp only[IntKind.wrap,IntKind.bits,IntKind.signed];simp
theorem sgn_arith {n b:Nat}(_hn:n<4294967296) (hb:BitA b):IntKind.u32.wrap ((IntKind.i32.wrap (IntKind.u32.wrap ((n:Int)*2 ^ (min ((32:Int)-b).toNat 32)))).fdiv (2 ^ (min ((32:Int)-b).toNat 32)))=(sxL n b:Nat):=by
 rw[u32w,u32w,i32w];unfold sxL;rcases hb with rfl|rfl|rfl
 ·rw[show (min ((32:Int)-(8:Nat)).toNat 32)=24 from rfl,Int.fdiv_eq_ediv_of_nonneg _ (by decide)];have e:(2:Int) ^ 24=16777216:=by decide
  rw[e];simp only[Nat.reducePow,Nat.reduceSub]
  split<;>split<;>omega
 ·rw[show (min ((32:Int)-(18:Nat)).toNat 32)=14 from rfl,Int.fdiv_eq_ediv_of_nonneg _ (by decide)];have e:(2:Int) ^ 14=16384:=by decide
  rw[e];simp only[Nat.reducePow,Nat.reduceSub]
  split<;>split<;>omega
 ·rw[show (min ((32:Int)-(22:Nat)).toNat 32)=10 from rfl,Int.fdiv_eq_ediv_of_nonneg _ (by decide)];have e:(2:Int) ^ 10=1024:=by decide
  rw[e];simp only[Nat.reducePow,Nat.reduceSub]
  split<;>split<;>omega
theorem sxL_fit {n b:Nat}(hn:n<4294967296) (hb:BitA b):decide (sxL n b=n)=sH n b:=by
 rw[Bool.eq_iff_iff];unfold sxL sH;rcases hb with rfl|rfl|rfl<;>simp<;>split<;>omega
theorem sign_any (n b:Nat) (hn:n<4294967296) (hb:BitA b) (w_0:World):Calls Tryz.prog 164 #[.int .u32 n,.int .i64 b] w_0 fun e w'=>e=.returned (.int .u32 (sxL n b))∧Ext w_0 w':=by
 have hb1:1≤b∧b<32:=by rcases hb with rfl|rfl|rfl<;>omega
 refine zP (args:=[.int .u32 n,.int .i64 b]) Tryz.func164 M 21 M (Nat.le_of_ble_eq_true M)<|Z2 0 1 M M<|zU (H':=Hp (fun _=>False) w_0 [] [] (fun _=>True)) (fun u hu=>?_) ?_
 ·subst hu;exact Hp.start0
 refine zX<|zZ<|Za M M<|ZX<|yZ<|zX<|zZ<|Zm M M<|ZF M (xM M M)<|Za M M<|ZT<|zO M (fun h5=>?_) (fun h5=>?_)
 ·replace h5:=of_decide_eq_true h5;omega
 ·replace h5:=of_decide_eq_false h5;refine zX<|Z4r 0 1 4 5 M M M M<|Zm M M<|ZF M (wT M M)<|Za M M<|ZT<|zO M (fun h8=>?_) (fun h8=>?_)
  ·replace h8:=of_decide_eq_true h8;omega
  ·replace h8:=of_decide_eq_false h8;refine zL<|yX<|zT<|zX<|Z5r 0 1 4 5 8 M M M M M<|Zm M M<|Zm M M ?_;(refine ZF rfl (tI rfl rfl (i64_in _ ?_ ?_)) ?_;(· omega);(· omega);skip);(refine ZF rfl (tW rfl rfl ?_ rfl) ?_;(· first|decide|omega);skip)
   refine ZF M (yT M (by kernel_rfl) Tryz.underlying21 M) ?_
   refine Zm M M ?_;(refine ZF rfl (tI rfl rfl (i64_in _ ?_ ?_)) ?_;(· omega);(· omega);skip);(refine ZF rfl (yf_shr rfl rfl ?_ rfl) ?_;(· first|decide|omega);skip)
   refine ZF M (yT M (by kernel_rfl) Tryz.underlying22 M) ?_
   refine Za M M<|ZT<|zQ<|zR M M (fun w hw=>?_);exact⟨by rw[← sgn_arith hn hb];rfl,(HpG.keep hw).ext⟩
theorem fits_any (n b:Nat) (hn:n<4294967296) (hb:BitA b) (w_0:World):Calls Tryz.prog 107 #[.int .u32 n,.int .i64 b] w_0 fun e w'=>e=.returned (.bool (sH n b))∧Ext w_0 w':=by
 have hf:=sxL_fit hn hb;refine zP (args:=[.int .u32 n,.int .i64 b]) Tryz.func107 M 10 M (Nat.le_of_ble_eq_true M)<|Z2 0 1 M M<|zU (H':=Hp (fun _=>False) w_0 [] [] (fun _=>True)) (fun u hu=>?_) ?_
 ·subst hu;exact Hp.start0
 refine zX<|zZ<|Za M M<|ZX<|zZ<|Zm M M<|Zm M M<|zB .none M  (v:=.int .u32 (sxL n b)) (by kernel_rfl) M (fun w hw=>sign_any n b hn hb w) ?_;refine Zm M M<|ZF M (yY M M)<|Za M M<|ZT<|zQ<|zR M M (fun w hw=>?_);exact⟨by rw[← hf];congr 2;rw[Bool.eq_iff_iff,beq_iff_eq,decide_eq_true_eq];omega,(HpG.keep hw).ext⟩
theorem tC (n k:Nat):(xC n k).length=k:=by
 induction k generalizing n with
 | zero=>rfl
 | succ k ih=>show (xC (n/256) k).length+1=_;rw[ih]
theorem byL_nat (n:Nat):(byL (n%256)).toNat=n%256:=by
 unfold byL;rw[UInt8.toNat_ofNat'];omega
theorem putL_cells {n:Nat}(_hn:n<4294967296) (k:Nat) (hk:k≤4):∀j (hj:j<(xC n k).length),([.int .u8 (IntKind.u8.wrap n),.int .u8 (IntKind.u8.wrap ((n:Int).fdiv (2 ^ (min (8:Int).toNat 32)))),.int .u8 (IntKind.u8.wrap ((n:Int).fdiv (2 ^ (min (16:Int).toNat 32)))),.int .u8 (IntKind.u8.wrap ((n:Int).fdiv (2 ^ (min (24:Int).toNat 32))))]:List Value)[0+j]? = some (.int .u8 ((xC n k)[j].toNat:Int)):=by
 have key:∀(k j:Nat) (m:Nat) (hj:j<(xC m k).length),((xC m k)[j].toNat:Int)=((m/256 ^ j%256:Nat):Int):=by
  intro k
  induction k with
  | zero=>intro j m hj;rw[tC] at hj;omega
  | succ k ih =>
   intro j m hj
   cases j with
   | zero=>show ((byL (m%256)).toNat:Int)=_;rw[byL_nat,Nat.pow_zero,Nat.div_one]
   | succ j =>
    have h1:j<(xC (m/256) k).length:=by rw[tC] at hj ⊢;omega
    show (((xC (m/256) k)[j]'h1).toNat:Int)=_;rw[ih j (m/256) h1,Nat.div_div_eq_div_mul,Nat.pow_succ,Nat.mul_comm]
 intro j hj;rw[key];have hj4:j<4:=by rw[tC] at hj;omega
 have:j=0∨j=1∨j=2∨j=3:=by omega
 have hw:∀x:Nat,IntKind.u8.wrap (x:Int)=((x%256:Nat):Int):=fun x=>by rw[u8w];simp
 have hf:∀p:Nat,((n:Int).fdiv (2 ^ p))=((n/2 ^ p:Nat):Int):=fun p=>by rw[Int.fdiv_eq_ediv_of_nonneg _ (Int.le_of_lt (by have:0<(2:Int) ^ p:=Int.pow_pos (by decide);exact this))];simp
 rcases this with rfl|rfl|rfl|rfl
 ·simp[hw]
 ·show some (Value.int .u8 (IntKind.u8.wrap ((n:Int).fdiv (2 ^ 8))))=_;rw[hf,hw]
 ·show some (Value.int .u8 (IntKind.u8.wrap ((n:Int).fdiv (2 ^ 16))))=_;rw[hf,hw]
 ·show some (Value.int .u8 (IntKind.u8.wrap ((n:Int).fdiv (2 ^ 24))))=_;rw[hf,hw]
theorem put_any (n k:Nat) (hn:n<4294967296) (hk:k≤4) (w_0:World):Calls Tryz.prog 112 #[.int .u32 n,.int .i64 k] w_0 fun e w'=>e=.returned (.string ⟨(xC n k).toArray⟩)∧Ext w_0 w':=by
 refine zP (args:=[.int .u32 n,.int .i64 k]) Tryz.func112 M 24 M (Nat.le_of_ble_eq_true M)<|Z2 0 1 M M<|zU (H':=Hp (fun _=>False) w_0 [] [] (fun _=>True)) (fun u hu=>?_) ?_
 ·subst hu;exact Hp.start0
 refine zX<|zZ<|Za M M<|ZX<|zZ<|Zm M M ?_
 refine ZF M (yT M (by kernel_rfl) Tryz.underlying5 M) ?_
 refine Zm M M ?_;(refine ZF rfl (yf_shr rfl rfl ?_ rfl) ?_;(· first|decide|omega);skip)
 refine ZF M (yT M (by kernel_rfl) Tryz.underlying5 M) ?_
 refine Zm M M ?_;(refine ZF rfl (yf_shr rfl rfl ?_ rfl) ?_;(· first|decide|omega);skip)
 refine ZF M (yT M (by kernel_rfl) Tryz.underlying5 M) ?_
 refine Zm M M ?_;(refine ZF rfl (yf_shr rfl rfl ?_ rfl) ?_;(· first|decide|omega);skip)
 refine ZF M (yT M (by kernel_rfl) Tryz.underlying5 M) ?_
 refine zK .none M (nf_bsn (z:=.int .u8 0) M M M M Tryz.underlying53 (by kernel_rfl) (by kernel_rfl) M M) (fun b17=>?_);refine Za M M<|ZX<|Z4r 0 1 4 5 M M M M<|Zm M M<|Zm M M<|ZF M (yf_min M M)<|ZF M (yf_max M M) ?_;(refine ZF rfl (yf_sliceHi (size:=1) (i:=k) rfl rfl Tryz.underlying53 (by kernel_rfl) (by split<;>split<;>omega) ?_) ?_;(· omega);skip)
 refine ZF M (tH 0 (xC n k) M M Tryz.underlying53 Tryz.underlying5 Tryz.underlying9 (tC n k) (putL_cells hn k hk)) ?_
 refine Za M M<|ZT<|zQ<|zR M M (fun w hw=>?_);exact⟨rfl,(HpG.keep hw).ext⟩
end Go.Proofs.YtkaepknpplhgkaaGreatDoor
/- The law of reach, plainly: jumps of K. -/
namespace Go.Proofs.YtkaepknpplhgkaaGreatDoor
theorem cutA_no:∀{s:Bs},(∀c∈s,c≠59)→wW s=s
 | [],_=>rfl
 | c::s,h=>by
  have hc:=h c (by simp);have ih:=cutA_no fun d hd=>h d (List.mem_cons_of_mem _ hd);unfold wW at *;rw[List.takeWhile_cons,if_pos (by simp[hc]),ih]
theorem lexA_no {s:Bs}(h:∀c∈s,c≠59):lexA s=wG s:=by unfold lexA wG;rw[cutA_no h]
theorem dec_mem {n:Nat}{c:UInt8}(h:c∈Lib.decDigits n):vU c=true:=(dec_all (n+1) n (by omega)).1 c h
theorem dig_ne {c d:UInt8}(h:vU c=true) (hd:vU d=false):c≠d:=fun e=>by subst e;rw[h] at hd;cases hd
end Go.Proofs.YtkaepknpplhgkaaGreatDoor
/- The law of reach, plainly: branches of Q. -/
namespace Go.Proofs.YtkaepknpplhgkaaGreatDoor
end Go.Proofs.YtkaepknpplhgkaaGreatDoor
/- The law of data, plainly. -/
namespace Go.Proofs.YtkaepknpplhgkaaGreatDoor
/-! ### Lines that are known -/
structure LnA (kind:Int) (s:Bs) (st:ASt):Prop where
 ok:liA kind s=.ok st
 lb:st.label=[]
def plcS:List ASt→Nat→List ASt
 | [],_=>[]
 | s::r,a=>{ s with at_:=a }::plcS r (a+s.size)
inductive LnsA (kind:Int):List Bs→List ASt→Prop
 | nil:LnsA kind [] []
 | cons {s:Bs} {st:ASt} {l:List Bs} {r:List ASt} (h:LnA kind s st) (t:LnsA kind l r):LnsA kind (s::l) (st::r)
theorem LnsA.app {kind:Int}{l l':List Bs}{r r':List ASt}(h:LnsA kind l r) (k:LnsA kind l' r'):LnsA kind (l++l') (r++r'):=by
 induction h with
 | nil=>exact k
 | cons h _ ih=>exact .cons h ih
/-- The code of statements, wherever they stand. -/
inductive CdA (lb:List (Bs×Nat)):List ASt→Bs→Prop
 | nil:CdA lb [] []
 | cons {st:ASt} {r:List ASt} {c d:Bs} {v:List Nat} (hv:wM lb st.l=.ok v) (h:∀a a',cdA { st with at_:=a' } v a=.ok c) (t:CdA lb r d):CdA lb (st::r) (c++d)
theorem CdA.app {lb:List (Bs×Nat)}{r r':List ASt}{c c':Bs}(h:CdA lb r c) (k:CdA lb r' c'):CdA lb (r++r') (c++c'):=by
 induction h with
 | nil=>exact k
 | cons hv h _ ih=>rw[List.append_assoc];exact .cons hv h ih
/-! ### The directives -/
/-- What is printed of a number with its sign. -/
def sgnB (n:Nat):Bs:=if 2147483648≤n then 45::Lib.decDigits (4294967296-n) else Lib.decDigits n
end Go.Proofs.YtkaepknpplhgkaaGreatDoor
/- The law of errors, plainly. -/
namespace Go.Proofs.YtkaepknpplhgkaaGreatDoor
theorem tD (x:Bs) (n:Nat):(vJ x n).length=n*x.length:=by
 induction n with
 | zero=>simp[vJ]
 | succ n ih=>rw[rX,List.length_append,ih,Nat.succ_mul];omega
variable {kind:Int}{x br:ASt}{c:Bs}
end Go.Proofs.YtkaepknpplhgkaaGreatDoor
/- The law of origins, plainly. -/
namespace Go.Proofs.YtkaepknpplhgkaaGreatDoor
/-- The code of statements where they stand. -/
inductive CdP (org:Nat) (lb:List (Bs×Nat)):List ASt→Bs→Prop
 | nil:CdP org lb [] []
 | cons {st:ASt} {r:List ASt} {c d:Bs} {v:List Nat} (hv:wM lb st.l=.ok v) (h:cdA st v ((org+st.at_)%4294967296)=.ok c) (t:CdP org lb r d):CdP org lb (st::r) (c++d)
theorem CdP.app {org:Nat}{lb:List (Bs×Nat)}{r r':List ASt}{c c':Bs}(h:CdP org lb r c) (k:CdP org lb r' c'):CdP org lb (r++r') (c++c'):=by
 induction h with
 | nil=>exact k
 | cons hv h _ ih=>rw[List.append_assoc];exact .cons hv h ih
theorem CdP.man {org:Nat}{lb:List (Bs×Nat)}{st:ASt}{c:Bs}(hl:st.l=[]) (hc:∀a a',cdA { st with at_:=a' } [] a=.ok c):∀n a,CdP org lb (manS st a n) (vJ c n)
 | 0,_=>.nil
 | n+1,a=>by
  rw[rX];exact .cons (st:={ st with at_:=a }) (v:=[]) (by show wM lb st.l=_;rw[hl];rfl) (hc _ _) (CdP.man hl hc n _)
theorem outF_plc {org:Nat}{lb:List (Bs×Nat)}{r:List ASt}{c:Bs}(h:CdP org lb r c):∀(k:Nat) (out:Bs),outF org lb r k out=.ok (out++c):=by
 induction h with
 | nil=>intro k out;simp[outF]
 | cons hv h _ ih=>intro k out;rw[outF_ok hv h,ih,List.append_assoc]
end Go.Proofs.YtkaepknpplhgkaaGreatDoor
/- The law of labels, plainly. -/
namespace Go.Proofs.YtkaepknpplhgkaaGreatDoor
def bN:Bs:=[110,111,112]
def bR:Bs:=[114,101,116]
def bH:Bs:=[104,101,114,101]
def bJ:Bs:=[106,109,112,32,104,101,114,101]
def bW:Bs:=[46,119,111,114,100,32,104,101,114,101]
def bC:Bs:=[104,101,114,101,58]
/-- The jump behind the label. -/
def sF (a b:Nat):Bs:=vJ (bN++[10]) a++(bC++32::(vJ (bR++[10]) b++(bJ++10::bW)))
/-- The jump ahead of it. -/
def bTextB (a:Nat):Bs:=bJ++10::(vJ (bN++[10]) a++(bC++10::(bW++[10])))
def bVal:AOp:=⟨118,0,bH,0,0,0⟩
abbrev bSN (lb:Bs):ASt:=⟨lb,bN,[],[],some (.k (.always 0) .nothing),0,1⟩
abbrev bSR (lb:Bs):ASt:=⟨lb,bR,[],[],some (.k (.always 1) .nothing),0,1⟩
abbrev bSJ (lb:Bs):ASt:=⟨lb,[106,109,112],[118],[bVal],some (.k (.always 112) .target),0,5⟩
abbrev bSW:ASt:=⟨[],sY,[118],[bVal],some .word,0,4⟩
abbrev bSC:ASt:=⟨bH,[],[],[],none,0,0⟩
abbrev bS0:ASt:=⟨[],[],[],[],none,0,0⟩
theorem bl_N:liA 1 bN=.ok (bSN []):=by kernel_rfl
theorem bl_R:liA 1 bR=.ok (bSR []):=by kernel_rfl
theorem bl_J:liA 1 bJ=.ok (bSJ []):=by kernel_rfl
theorem bl_W:liA 1 bW=.ok bSW:=by kernel_rfl
theorem bl_C:liA 1 bC=.ok bSC:=by kernel_rfl
theorem bl_CR:liA 1 (bC++32::bR)=.ok (bSR bH):=by kernel_rfl
theorem bl_CJ:liA 1 (bC++32::bJ)=.ok (bSJ bH):=by kernel_rfl
theorem bl_0:liA 1 []=.ok bS0:=by kernel_rfl
theorem getL_putL:∀(k n:Nat),n<256 ^ k→getL (xC n k)=n
 | 0,n,h=>by simp only[Nat.pow_zero] at h;show 0=n;omega
 | k+1,n,h=>by
  have hb:(byL (n%256)).toNat=n%256:=by
   have:n%256<256:=Nat.mod_lt _ (by omega);unfold byL;rw[UInt8.toNat_ofNat'];omega
  rw[Nat.pow_succ] at h;show (byL (n%256)).toNat+256*getL (xC (n/256) k)=n;rw[getL_putL k (n/256) (Nat.div_lt_of_lt_mul (by rw[Nat.mul_comm];exact h)),hb];omega
theorem enc_jmp {imm:Nat}(h:imm<4294967296):sT ⟨112,0,0,-1,0,imm,5⟩=some (112::xC imm 4):=by
 have h1:fmtK 112=some (5,[.full]):=by decide
 have ht:wY (wH ⟨112,0,0,-1,0,imm,5⟩ [.full]) ⟨112,0,0,-1,0,0,5⟩ [.full]=⟨112,0,0,-1,0,imm,5⟩:=by
  show (⟨112,0,0,-1,0,getL ((xC imm 4++[]).take 4),5⟩:KI)=_
  have hp:∀k n,(xC n k).length=k:=by
   intro k
   induction k with
   | zero=>intro n;rfl
   | succ k ih=>intro n;show (xC (n/256) k).length+1=_;rw[ih]
  rw[List.take_left' (hp 4 imm),getL_putL 4 imm (by omega)]
 unfold sT;dsimp only;rw[h1];dsimp only;rw[show ((5:Nat):Int)=5 from rfl,ht,if_pos ⟨rfl,rfl,rfl⟩];show some (112::(xC imm 4++[]))=_;rw[List.append_nil]
theorem subW_lt (a b:Nat):subW a b<4294967296:=Nat.mod_lt _ (by omega)
theorem sz_jmp:vD (112%256)=5:=by decide
theorem ins_jmp {t a:Nat}:insK (.always 112) .target [118] [bVal] [t] a=⟨112,0,0,-1,0,subW (subW t a) 5,5⟩:=by
 unfold insK;dsimp only[opK];rw[sz_jmp];rfl
theorem cdA_k {st:ASt}{sel:KSel}{fil:KFil}{v:List Nat}{a:Nat}{c:Bs}(hf:st.form=some (.k sel fil)) {i:KI}(hi:insK sel fil st.shape st.l v a=i) (h:sT i=some c):cdA st v a=.ok c:=by
 unfold cdA;rw[hf];dsimp only;unfold tX;dsimp only;rw[hi,h]
theorem cd_jmp {lb:Bs}{t a p:Nat}:cdA { bSJ lb with at_:=p } [t] a=.ok (112::xC (subW (subW t a) 5) 4) :=
 cdA_k (sel:=.always 112) (fil:=.target) rfl (ins_jmp (t:=t) (a:=a)) (enc_jmp (subW_lt _ _))
theorem cd_word {t a p:Nat}:cdA { bSW with at_:=p } [t] a=.ok (xC t 4):=by
 show yB (Except.ok []) (fun r=>Except.ok (xC t 4++r))=_;show Except.ok (xC t 4++[])=_;rw[List.append_nil]
theorem b_len (a b:Nat) (ha:a<100) (hb:b<100):(sF a b).length≤1048576∧(bTextB a).length≤1048576:=by
 unfold sF bTextB
 constructor<;>(simp only[List.length_append,List.length_cons,List.length_nil,tD,bN,bR,bJ,bW,bC];omega)
theorem asm_of {kind:Int}(hk:kind=1∨kind=2) {org:Nat}{text c:Bs}{l:List ASt}{lb:List (Bs×Nat)}(ht:text.length≤1048576) (h:tO kind org (xJ text) 0 0 [] []=.ok (l,lb)) (hc:CdP org lb l c):sW kind text org=(c,0,0):=by
 unfold sW;rw[if_neg (by omega),if_neg (by omega),h];dsimp only;rw[outF_plc hc,List.nil_append]
theorem pas_nil {kind:Int}{org k a:Nat}{lb:List (Bs×Nat)}{acc:List ASt}:tO kind org [] k a lb acc=.ok (acc,lb):=rfl
theorem labels_A {a b:Nat}(ha:a<100) (hb:b<100) (org:Nat):sW 1 (sF a b) org=(vJ [0] a++(vJ [1] b++(112::xC (subW (subW ((org+a)%4294967296) ((org+(a+b))%4294967296)) 5) 4++xC ((org+a)%4294967296) 4)),0,0):=by
 have hN:sV bN:=by unfold sV;decide
 have hR:sV bR:=by unfold sV;decide
 have hJ:sV bJ:=by unfold sV;decide
 have hW:sV bW:=by unfold sV;decide
 have hCJ:sV (bC++32::bJ):=by unfold sV;decide
 have hCR:sV (bC++32::bR):=by unfold sV;decide
 have hlen:=(b_len a b ha hb).1;have hv:wM [(bH,(org+a)%4294967296)] [bVal]=.ok [(org+a)%4294967296]:=rfl
 cases b with
 | zero =>
  have hp:tO 1 org (xJ (sF a 0)) 0 0 [] []=.ok (manS (bSN []) 0 a++[⟨bH,[106,109,112],[118],[bVal],some (.k (.always 112) .target),a,5⟩,⟨[],sY,[118],[bVal],some .word,a+5,4⟩],[(bH,(org+a)%4294967296)]):=by
   unfold sF;rw[linA_rep hN,show vJ (bR++[10]) 0=[] from rfl,List.nil_append,show bC++32::(bJ++10::bW)=(bC++32::bJ)++10::bW by simp,uN _ hCJ,linA_one hW,pasF_rep bl_N rfl a _ _ _ (by dsimp only;omega),pasF_label bl_CJ (by decide) rfl (by dsimp only;omega),pasF_ok bl_W rfl (by dsimp only;omega),pas_nil];dsimp only;rw[Nat.mul_one,Nat.zero_add,List.nil_append,List.nil_append,List.append_assoc,List.singleton_append]
  have hc:=CdP.app (org:=org) (lb:=[(bH,(org+a)%4294967296)]) (CdP.man (st:=bSN []) (c:=[0]) rfl (fun _ _=>by kernel_rfl) a 0) (.cons (st:=⟨bH,[106,109,112],[118],[bVal],some (.k (.always 112) .target),a,5⟩) (v:=[(org+a)%4294967296]) hv cd_jmp (.cons (st:=⟨[],sY,[118],[bVal],some .word,a+5,4⟩) (v:=[(org+a)%4294967296]) hv cd_word .nil));rw[asm_of (.inl rfl) hlen hp hc];dsimp only;rw[List.append_nil,show vJ [1] 0=[] from rfl,List.nil_append,Nat.add_zero]
 | succ b =>
  have hp:tO 1 org (xJ (sF a (b+1))) 0 0 [] []=.ok (manS (bSN []) 0 a++((⟨bH,bR,[],[],some (.k (.always 1) .nothing),a,1⟩::manS (bSR []) (a+1) b)++[⟨[],[106,109,112],[118],[bVal],some (.k (.always 112) .target),a+(b+1),5⟩,⟨[],sY,[118],[bVal],some .word,a+(b+1)+5,4⟩]),[(bH,(org+a)%4294967296)]):=by
   unfold sF;rw[linA_rep hN,rX,show bC++32::(bR++[10]++vJ (bR++[10]) b++(bJ++10::bW))=(bC++32::bR)++10::(vJ (bR++[10]) b++(bJ++10::bW)) by simp,uN _ hCR,linA_rep hR,uN _ hJ,linA_one hW,pasF_rep bl_N rfl a _ _ _ (by dsimp only;omega),pasF_label bl_CR (by decide) rfl (by dsimp only;omega),pasF_rep bl_R rfl b _ _ _ (by dsimp only;omega),pasF_ok bl_J rfl (by dsimp only;omega),pasF_ok bl_W rfl (by dsimp only;omega),pas_nil];dsimp only;rw[Nat.mul_one,Nat.zero_add,Nat.mul_one,show a+1+b=a+(b+1) by omega];simp only[List.nil_append,List.append_assoc,List.cons_append]
  have hc:=CdP.app (org:=org) (lb:=[(bH,(org+a)%4294967296)]) (CdP.man (st:=bSN []) (c:=[0]) rfl (fun _ _=>by kernel_rfl) a 0) (CdP.app (.cons (st:=⟨bH,bR,[],[],some (.k (.always 1) .nothing),a,1⟩) (v:=[]) (c:=[1]) rfl (by kernel_rfl) (CdP.man (st:=bSR []) (c:=[1]) rfl (fun _ _=>by kernel_rfl) b (a+1))) (.cons (st:=⟨[],[106,109,112],[118],[bVal],some (.k (.always 112) .target),a+(b+1),5⟩) (v:=[(org+a)%4294967296]) hv cd_jmp (.cons (st:=⟨[],sY,[118],[bVal],some .word,a+(b+1)+5,4⟩) (v:=[(org+a)%4294967296]) hv cd_word .nil)));rw[asm_of (.inl rfl) hlen hp hc,rX];dsimp only;rw[List.append_nil,List.append_assoc]
theorem labels_B {a:Nat}(ha:a<100) (org:Nat):sW 1 (bTextB a) org=(112::xC (subW (subW ((org+(5+a))%4294967296) (org%4294967296)) 5) 4++(vJ [0] a++xC ((org+(5+a))%4294967296) 4),0,0):=by
 have hN:sV bN:=by unfold sV;decide
 have hJ:sV bJ:=by unfold sV;decide
 have hW:sV bW:=by unfold sV;decide
 have hC:sV bC:=by unfold sV;decide
 have hlen:=(b_len a 0 ha (by omega)).2;have hv:wM [(bH,(org+(5+a))%4294967296)] [bVal]=.ok [(org+(5+a))%4294967296]:=rfl
 have hp:tO 1 org (xJ (bTextB a)) 0 0 [] []=.ok ([⟨[],[106,109,112],[118],[bVal],some (.k (.always 112) .target),0,5⟩]++(manS (bSN []) 5 a++[⟨bH,[],[],[],none,5+a,0⟩,⟨[],sY,[118],[bVal],some .word,5+a,4⟩,⟨[],[],[],[],none,5+a+4,0⟩]),[(bH,(org+(5+a))%4294967296)]):=by
  unfold bTextB;rw[uN _ hJ,linA_rep hN,uN _ hC,uN _ hW,show xJ []=[[]] from rfl,pasF_ok bl_J rfl (by dsimp only;omega),pasF_rep bl_N rfl a _ _ _ (by dsimp only;omega),pasF_label bl_C (by decide) rfl (by dsimp only;omega),pasF_ok bl_W rfl (by dsimp only;omega),pasF_ok bl_0 rfl (by dsimp only;omega),pas_nil];dsimp only;rw[Nat.mul_one,Nat.zero_add,Nat.add_zero];simp only[List.nil_append,List.append_assoc,List.cons_append]
 have hc:=CdP.app (org:=org) (lb:=[(bH,(org+(5+a))%4294967296)]) (.cons (st:=⟨[],[106,109,112],[118],[bVal],some (.k (.always 112) .target),0,5⟩) (v:=[(org+(5+a))%4294967296]) hv cd_jmp .nil) (CdP.app (CdP.man (st:=bSN []) (c:=[0]) rfl (fun _ _=>by kernel_rfl) a 5) (.cons (st:=⟨bH,[],[],[],none,5+a,0⟩) (v:=[]) (c:=[]) rfl rfl (.cons (st:=⟨[],sY,[118],[bVal],some .word,5+a,4⟩) (v:=[(org+(5+a))%4294967296]) hv cd_word (.cons (st:=⟨[],[],[],[],none,5+a+4,0⟩) (v:=[]) (c:=[]) rfl rfl .nil))));rw[asm_of (.inl rfl) hlen hp hc];dsimp only;simp only[List.append_nil,List.nil_append,Nat.add_zero]
end Go.Proofs.YtkaepknpplhgkaaGreatDoor
