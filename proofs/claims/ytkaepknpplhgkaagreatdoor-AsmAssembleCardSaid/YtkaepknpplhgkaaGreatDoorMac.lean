import Derived.Test.YtkaepknpplhgkaaGreatDoorMab
import Derived.Test.YtkaepknpplhgkaaGreatDoorMaa
import Derived.Test.YtkaepknpplhgkaaGreatDoorMaX
import Derived.Test.YtkaepknpplhgkaaGreatDoorMaW
import Derived.Laws.MakeOwn
set_option maxRecDepth 100000
namespace Go.Proofs.YtkaepknpplhgkaaGreatDoor
open Go.RowKit
def uK (i:QI):Bool:=(tD i).isSome
theorem validQ_eq (i:QI):uK i=((wV i.op).known&&sS i.d (wV i.op).d&&sS i.a (wV i.op).a&&sS i.b (wV i.op).b&&immS (wV i.op) i.imm):=by
 unfold uK tD wV
 cases hs:qU i.op with
 | none=>rfl
 | some s =>
  dsimp only;have e:immS ⟨true,s.d,s.a,s.b,s.kind,s.bits,s.most⟩ i.imm=immQ s i.imm:=rfl;rw[e];cases h1:sS i.d s.d<;>cases h2:sS i.a s.a<;>cases h3:sS i.b s.b<;>cases h4:immQ s i.imm<;>simp
theorem qvalid_any (i:QI) (hi:i.imm<4294967296) (w_0:World):Calls Tryz.prog 80 #[.agg (qiC i).toArray] w_0 fun e w'=>e=.returned (.bool (uK i))∧Ext w_0 w':=by
 have hv:=validQ_eq i;have hq:=sqOf_ok i.op;have ho:=fun w=>of_any i.op w;generalize wV i.op=q at hv hq ho;rw[hv];refine zN (args:=[.agg (qiC i).toArray]) Tryz.func80 M 36 M (Kh M)<|Z1 0 M<|Z0<|zX<|zZ<|zA .none M (yQ M M) fun b1=>Za M M<|ZX<|zZ<|ZF M (Y74x0 M) ?_;refine Zl 0 M U3 M<|Zu (v:=.agg (sqC q).toArray) M (fun w hw=>ho w)<|Zt (z:=Je) (cs:=Jo) M fun b3=>ZR 0 M<|ZX<|Z4r 0 1 2 3 M<|ZF M (zY (off:=0) (sz:=0) M U212 (by kernel_rfl) M) ?_;refine Zl 0 M U4 M<|Zm M M<|zQ 9 M (fun g3=>?_) (fun g3=>?_)
 ·refine ZG M M M (Y74x1 M) ?_;refine ZG M M M (yU 1 M M M U3 M)<|ZG M M M (zY (off:=1) (sz:=0) M U212 (by kernel_rfl) M) ?_;refine ZG M M M (yU 0 M M M U4 M)<|xW (.some M M) M  (v:=.bool (sS i.d q.d)) (by kernel_rfl) M (fun w hw=>qfits_any i.d q.d w)<|Zh M<|Zm M M<|zQ 16 M (fun g10=>?_) (fun g10=>?_)
  ·refine ZG M M M (Y74x2 M) ?_;refine ZG M M M (yU 1 M M M U3 M)<|ZG M M M (zY (off:=2) (sz:=0) M U212 (by kernel_rfl) M) ?_;refine ZG M M M (yU 0 M M M U4 M)<|xW (.some M M) M  (v:=.bool (sS i.a q.a)) (by kernel_rfl) M (fun w hw=>qfits_any i.a q.a w)<|Zh M<|Zm M M<|zQ 23 M (fun g17=>?_) (fun g17=>?_)
   ·refine ZG M M M (Y74x3 M) ?_;refine ZG M M M (yU 1 M M M U3 M)<|ZG M M M (zY (off:=3) (sz:=0) M U212 (by kernel_rfl) M) ?_;refine ZG M M M (yU 0 M M M U4 M)<|xW (.some M M) M  (v:=.bool (sS i.b q.b)) (by kernel_rfl) M (fun w hw=>qfits_any i.b q.b w)<|Zh M<|Zm M M<|zQ 30 M (fun g24=>?_) (fun g24=>?_)
    ·refine ZG M M M (Zo 0 M U212 M)<|ZG M M M (Y74x4 M) ?_;refine ZG M M M (yU 1 M M M U22 M)<|xW (.some M M) M  (v:=.bool (immS q i.imm)) (by kernel_rfl) M (fun w hw=>imm_any q hq i.imm hi w)<|Zh M<|Za M M<|ZU M M fun w hw=>⟨by rw[g3,g10,g17,g24];rfl,(Kk hw).ext⟩
    skip;refine ZP M<|ZP M<|ZP M<|ZP M<|Zf M<|Za M M<|ZU M M fun w hw=>⟨by rw[g3,g10,g17,g24];rfl,(Kk hw).ext⟩
   skip;refine ZP M<|ZP M<|ZP M<|ZP M<|ZP M<|Zf M<|Zm M M<|ZP M<|ZP M<|ZP M<|ZP M<|Zf M<|Za M M<|ZU M M fun w hw=>⟨by rw[g3,g10,g17];rfl,(Kk hw).ext⟩
  skip;refine ZP M<|ZP M<|ZP M<|ZP M<|ZP M<|Zf M<|Zm M M<|ZP M<|ZP M<|ZP M<|ZP M<|ZP M<|Zf M<|Zm M M<|ZP M<|ZP M<|ZP M<|ZP M<|Zf M<|Za M M<|ZU M M fun w hw=>⟨by rw[g3,g10];rfl,(Kk hw).ext⟩
 skip;refine ZP M<|ZP M<|ZP M<|ZP M<|ZP M<|Zf M<|Zm M M<|ZP M<|ZP M<|ZP M<|ZP M<|ZP M<|Zf M<|Zm M M<|ZP M<|ZP M<|ZP M<|ZP M<|ZP M<|Zf M<|Zm M M<|ZP M<|ZP M<|ZP M<|ZP M<|Zf M<|Za M M<|ZU M M fun w hw=>⟨by rw[g3];rfl,(Kk hw).ext⟩
theorem or_sum {x y k:Nat}(hy:y<2 ^ k) (hx:x%2 ^ k=0):x ||| y=x+y:=by
 have:=Nat.two_pow_add_eq_or_of_lt (i:=k) (b:=y) hy (x/2 ^ k);have e:2 ^ k*(x/2 ^ k)=x:=by have:=Nat.div_add_mod x (2 ^ k);omega
 rw[e] at this;exact this.symm
theorem orW {x y:Nat}(hx:x<4294967296) (hy:y<4294967296):bits .or .u32 (x:Int) (y:Int)=((x ||| y:Nat):Int):=u32_or_nat x y hx hy
theorem mask_w {n b:Nat}(hn:n<4294967296) (hb:b≤22):bits .and .u32 (n:Int) (IntKind.u32.wrap (IntKind.u32.wrap (1*2 ^ (min (b:Int).toNat IntKind.u32.bits))-1))=((n%2 ^ b:Nat):Int):=by
 have hp:2 ^ b≤2 ^ 22:=Nat.pow_le_pow_right (by omega) hb;have hp1:1≤2 ^ b:=Nat.one_le_two_pow
 have e1:IntKind.u32.wrap (1*2 ^ (min (b:Int).toNat IntKind.u32.bits))=((2 ^ b:Nat):Int):=by
  rw[show min (b:Int).toNat IntKind.u32.bits=b by have:IntKind.u32.bits=32:=rfl;omega,Int.one_mul,u32w];have:(2:Int) ^ b=((2 ^ b:Nat):Int):=by simp
  rw[this];omega
 have e2:IntKind.u32.wrap (((2 ^ b:Nat):Int)-1)=((2 ^ b-1:Nat):Int):=by rw[u32w];omega
 rw[e1,e2,u32_and_nat _ _ hn (by omega),Nat.and_two_pow_sub_one_eq_mod]
theorem u32n {x k:Nat}(h:x<k) (hk:k≤4294967296):IntKind.u32.wrap (x:Int)=((x:Nat):Int):=by rw[u32w];omega
theorem sh26 {x:Nat}(h:x<64):IntKind.u32.wrap ((x:Int)*2 ^ (min (26:Int).toNat IntKind.u32.bits))=((x*67108864:Nat):Int):=by
 have e:(2:Int) ^ (min (26:Int).toNat IntKind.u32.bits)=((2 ^ 26:Nat):Int):=by rw[show min (26:Int).toNat IntKind.u32.bits=26 from rfl];simp
 rw[e,u32w];omega
theorem sh22 {x:Nat}(h:x<16):IntKind.u32.wrap ((x:Int)*2 ^ (min (22:Int).toNat IntKind.u32.bits))=((x*4194304:Nat):Int):=by
 have e:(2:Int) ^ (min (22:Int).toNat IntKind.u32.bits)=((2 ^ 22:Nat):Int):=by rw[show min (22:Int).toNat IntKind.u32.bits=22 from rfl];simp
 rw[e,u32w];omega
theorem sh18 {x:Nat}(h:x<16):IntKind.u32.wrap ((x:Int)*2 ^ (min (18:Int).toNat IntKind.u32.bits))=((x*262144:Nat):Int):=by
 have e:(2:Int) ^ (min (18:Int).toNat IntKind.u32.bits)=((2 ^ 18:Nat):Int):=by rw[show min (18:Int).toNat IntKind.u32.bits=18 from rfl];simp
 rw[e,u32w];omega
theorem sh14 {x:Nat}(h:x<16):IntKind.u32.wrap ((x:Int)*2 ^ (min (14:Int).toNat IntKind.u32.bits))=((x*16384:Nat):Int):=by
 have e:(2:Int) ^ (min (14:Int).toNat IntKind.u32.bits)=((2 ^ 14:Nat):Int):=by rw[show min (14:Int).toNat IntKind.u32.bits=14 from rfl];simp
 rw[e,u32w];omega
theorem sF {n:Int}{u:Bool}(h:sS n u=true):∃k:Nat,n=k∧k<16∧(u=false→k=0):=by
 unfold sS at h;simp only[Bool.or_eq_true,Ab,Af] at h;refine⟨n.toNat,by omega,by omega,fun hu=>?_⟩;subst hu;simp at h;omega
theorem qencode_any (i:QI) (hi:i.imm<4294967296) (w_0:World):Calls Tryz.prog 111 #[.agg (qiC i).toArray] w_0 fun e w'=>e=.returned (.tuple #[.int .u32 ((tD i).getD 0),.int .i64 (if uK i=true then 0 else 12)])∧Ext w_0 w':=by
 have hvd0:=qvalid_any i hi
 cases hvd:uK i with
 | false =>
  have hn:tD i=none:=by
   unfold uK at hvd
   cases he:tD i with
   | none=>rfl
   | some c=>rw[he] at hvd;cases hvd
  rw[hn];refine zN (args:=[.agg (qiC i).toArray]) Tryz.func111 M 38 M (Kh M)<|Z1 0 M<|Z0<|zX<|zZ<|zA .none M (yQ M M) fun b1=>Za M M<|Za M M<|ZX<|zX<|zZ<|ZF M (Zo 0 M U74 M)<|Zu (v:=.bool false) M (fun w hw=>(hvd0 w).mono fun e w' ⟨h1,h2⟩=>⟨by rw[h1,hvd],h2⟩) ?_;refine ZF M (xO M)<|ZT<|zT M (fun h7=>?_) (fun h7=>?_)
  ·refine zX<|Z5r 0 1 2 3 7 M<|Za M M<|Za M M<|ZT<|zK<|zW<|uW M M M fun w hw=>⟨rfl,(Kk hw).ext⟩
  skip;exact absurd h7 (by decide)
 | true =>
  obtain⟨cd,hcd⟩:∃c,tD i=some c:=by
   unfold uK at hvd;exact Option.isSome_iff_exists.1 hvd
  have hve:=validQ_eq i;rw[hvd] at hve;have hsq:=sqOf_ok i.op;have hoq:=fun w=>of_any i.op w;have hbits:∀s,qU i.op=some s→(wV i.op).bits=s.bits:=fun s h=>by unfold wV;rw[h]
  have hcd2:∃s,qU i.op=some s∧cd=i.op.toNat*67108864+i.d.toNat*4194304+i.a.toNat*262144+i.b.toNat*16384+i.imm%2 ^ s.bits:=by
   unfold tD at hcd
   cases hs:qU i.op with
   | none=>rw[hs] at hcd;cases hcd
   | some s =>
    rw[hs] at hcd;dsimp only at hcd
    split at hcd
    ·cases hcd;exact⟨s,rfl,rfl⟩
    ·cases hcd
  obtain⟨s,hs,hcd2⟩:=hcd2;have hbs:=hbits s hs
  have hop:0≤i.op∧i.op<64:=by
   refine Classical.byContradiction fun hh=>?_;have h2:(wV i.op).known=true:=by unfold wV;rw[hs]
   rw[pY (by omega)] at h2;cases h2
  have hlow:(wV i.op).bits=18→(wV i.op).b=false:=by
   have h1:(List.range 64).all (fun op=>!decide ((wV (op:Nat)).bits=18)||!(wV (op:Nat)).b)=true:=by kernel_rfl
   have:=uF h1 i.op.toNat (by omega);rw[show ((i.op.toNat:Nat):Int)=i.op by omega] at this;intro hh;rw[An hh] at this
   simpa using this
  have hlow2:(wV i.op).bits=22→(wV i.op).a=false∧(wV i.op).b=false:=by
   have h1:(List.range 64).all (fun op=>!decide ((wV (op:Nat)).bits=22)||(!(wV (op:Nat)).a&&!(wV (op:Nat)).b))=true:=by kernel_rfl
   have:=uF h1 i.op.toNat (by omega);rw[show ((i.op.toNat:Nat):Int)=i.op by omega] at this;intro hh;rw[An hh] at this
   simpa using this
  rw[← hbs] at hcd2;have hbb:=hsq.b;obtain⟨op,d,a,b,n⟩:=i;dsimp only at hve hop hlow hlow2 hcd2 hi hoq hbb;generalize wV op=q at *;have hve:=hve.symm;simp only[Ab] at hve;obtain⟨⟨⟨⟨_,k1⟩,k2⟩,k3⟩,_⟩:=hve;obtain⟨dn,rfl,hd,_⟩:=sF k1;obtain⟨an,rfl,ha,ha0⟩:=sF k2;obtain⟨bn,rfl,hb,hb0⟩:=sF k3;obtain⟨on,rfl,ho⟩:=xQ (n:=64) hop.1 hop.2;simp only[Int.toNat_natCast] at hcd2;have e1:on*67108864 ||| dn*4194304=on*67108864+dn*4194304:=or_sum (k:=26) (by omega) (by omega);have e2:on*67108864+dn*4194304 ||| an*262144=on*67108864+dn*4194304+an*262144:=or_sum (k:=22) (by omega) (by omega);have e3:on*67108864+dn*4194304+an*262144 ||| bn*16384=on*67108864+dn*4194304+an*262144+bn*16384:=or_sum (k:=18) (by omega) (by omega)
  have e4:on*67108864+dn*4194304+an*262144+bn*16384 ||| n%2 ^ q.bits=cd:=by
   rw[hcd2];have hml:n%2 ^ q.bits<2 ^ q.bits:=Nat.mod_lt _ (Nat.pow_pos (by omega));refine or_sum (k:=q.bits) hml ?_;rcases hbb with h|h|h;rw[h];omega
   ·rw[h];have:=hb0 (hlow h);omega
   rw[h];have h1:=ha0 (hlow2 h).1;have h2:=hb0 (hlow2 h).2;omega
  have o1:=orW (x:=on*67108864) (y:=dn*4194304) (by omega) (by omega);rw[e1] at o1;have o2:=orW (x:=on*67108864+dn*4194304) (y:=an*262144) (by omega) (by omega);rw[e2] at o2;have o3:=orW (x:=on*67108864+dn*4194304+an*262144) (y:=bn*16384) (by omega) (by omega);rw[e3] at o3
  have hml:n%2 ^ q.bits<4194304:=by
   rcases hbb with h|h|h<;>rw[h]<;>omega
  have o4:=orW (x:=on*67108864+dn*4194304+an*262144+bn*16384) (y:=n%2 ^ q.bits) (by omega) (by omega);rw[e4] at o4;have o5:=mask_w (n:=n) (b:=q.bits) hi (by omega);rw[hcd];refine zN (args:=[.agg (qiC ⟨on,dn,an,bn,n⟩).toArray]) Tryz.func111 M 38 M (Kh M)<|Z1 0 M<|Z0<|zX<|zZ<|zA .none M (yQ M M) fun b1=>Za M M<|Za M M<|ZX<|zX<|zZ<|ZF M (Zo 0 M U74 M)<|Zu (v:=.bool true) M (fun w hw=>(hvd0 w).mono fun e w' ⟨h1,h2⟩=>⟨by rw[h1,hvd],h2⟩) ?_;refine ZF M (xO M)<|ZT<|zT M (fun h7=>?_) (fun h7=>?_)
  ·exact absurd h7 (by decide)
  skip;refine zR<|zV<|zX<|Z5r 0 1 2 3 7 M<|ZF M (Y74x0 M) ?_;refine Zl 0 rfl U3 rfl<|ZF rfl (Zc rfl U22 (u32n ho (by decide)))<|ZF rfl (sP rfl rfl (by first|decide|omega) (sh26 ho)) ?_;refine ZF M (Y74x1 M) ?_;refine Zl 0 rfl U3 rfl<|ZF rfl (Zc rfl U22 (u32n hd (by decide)))<|ZF rfl (sP rfl rfl (by first|decide|omega) (sh22 hd)) ?_;refine ZF M (yf_or M M o1)<|ZF M (Y74x2 M) ?_;refine Zl 0 rfl U3 rfl<|ZF rfl (Zc rfl U22 (u32n ha (by decide)))<|ZF rfl (sP rfl rfl (by first|decide|omega) (sh18 ha)) ?_;refine ZF M (yf_or M M o2)<|ZF M (Y74x3 M) ?_;refine Zl 0 rfl U3 rfl<|ZF rfl (Zc rfl U22 (u32n hb (by decide)))<|ZF rfl (sP rfl rfl (by first|decide|omega) (sh14 hb)) ?_;refine ZF M (yf_or M M o3)<|Za M M<|ZX<|Z6 0 1 2 3 4 7 M<|uY 11 [0,1,2,3,4,5,6,7,8,9,10] (Blk b1 (qiO ⟨on,dn,an,bn,n⟩)) (by kernel_rfl) (by kernel_rfl) Blk.stab (fun w h=>HpG.blk h (k:=0) M) (fun n0 hn0=>?_);refine Zd M M M (yW M)<|Zd M M M (Y74x4 M) ?_;refine Zd M M M (zL M U22 M (fun w hw=>Blk.cell hw M))<|Zd M M M (Y74x0 M) ?_;refine Zd M M M (zL M U3 M (fun w hw=>Blk.cell hw M))<|vP M<|wd_pure .none M  (v:=.agg (sqC q).toArray) (by kernel_rfl) M (fun _ _ h hx=>Blk.onE h hx) (fun w hw=>hoq w)<|Zd M M M (tQ (off:=5) (ft:=3) M U212 (by kernel_rfl) U3 M M) ?_;refine Zd rfl rfl rfl (sP rfl rfl (by first|decide|omega) rfl) ?_;refine Zd M M M (vL M M M)<|Zd M M M (yf_and M M o5)<|Zd M M M (yf_or M M o4)<|uE ?_;simp only[Kt,Kx];refine Za M M<|Za M M<|ZT<|zK<|uW M M M fun w hw=>⟨rfl,(Kk hw).ext⟩
end Go.Proofs.YtkaepknpplhgkaaGreatDoor
namespace Go.Proofs.YtkaepknpplhgkaaGreatDoor
open Go.RowKit
theorem jumps_any (op:Int) (w_0:World):Calls Tryz.prog 81 #[.int .i64 op] w_0 fun e w'=>e=.returned (.bool (pI op))∧Ext w_0 w':=by
 unfold pI;refine zN (args:=[.int .i64 op]) Tryz.func81 M 13 M (Kh M)<|Z1 0 M<|Z0<|zX<|zZ<|Za M M<|ZX<|zZ<|Zm M M<|ZF M (yC M M)<|Zm M M<|zQ 5 M (fun g3=>?_) (fun g3=>?_)
 ·replace g3:=Ki g3;refine Zv M<|ZG M M M (xE M M)<|Zh M<|Zm M M<|zQ 9 M (fun g7=>?_) (fun g7=>?_)
  ·replace g7:=Ki g7;refine ZP M<|ZP M<|Zh M<|Za M M<|ZU M M fun w hw=>⟨by simp only[g3,g7];rfl,(Kk hw).ext⟩
  replace g7:=Kj g7;refine Zv M<|Zx M<|Zf M<|Za M M<|ZU M M fun w hw=>⟨by simp only[g3,g7];rfl,(Kk hw).ext⟩
 replace g3:=Kj g3;refine ZP M<|ZP M<|Zf M<|Zm M M<|Zv M<|Zx M<|Zf M<|Za M M<|ZU M M fun w hw=>⟨by simp only[g3];rfl,(Kk hw).ext⟩
theorem sizeQ_any (S:SV) (w_0:World):Calls Tryz.prog 109 #[.agg (svC S).toArray] w_0 fun e w'=>e=.returned (.int .i64 4)∧Ext w_0 w':=by
 refine zN (args:=[.agg (svC S).toArray]) Tryz.func109 M 3 M (Kh M)<|Z1 0 M<|Z0<|zX<|zZ<|zA .none M (yQ M M) fun b1=>Za M M<|ZX<|Z2r 0 2 M<|Za M M<|ZU M M fun w hw=>⟨rfl,(Kk hw).ext⟩
theorem fldC (i:QI) {j:Nat}(hj:j<3) (r:Int):(qiC i).set (1+j) (.int .i64 r)=qiC (pH i j r):=by
 match j,hj with
 | 0,_=>rfl
 | 1,_=>rfl
 | 2,_=>rfl
structure FqI (op:Int) (l:List AOp) (v:List Nat) (k:Nat) (i:QI):Prop where
 le:k≤l.length
 e:sQ op l v 0 ⟨op,0,0,0,0⟩=sQ op (l.drop k) (v.drop k) k i
 n:i.imm<4294967296
 o:i.op=op
theorem FqI.end_ {op:Int}{l:List AOp}{v:List Nat}{i:QI}(h:FqI op l v l.length i):sQ op l v 0 ⟨op,0,0,0,0⟩=i:=by
 rw[h.e,List.drop_length];rfl
def vD (op:Int):Nat:=if op=52∨op=54 then 1 else 0
theorem insQ_step {op:Int}{l:List AOp}{v:List Nat}{k:Nat}{i:QI}{o:AOp}{x:Nat}(ho:l[k]? = some o) (hx:v[k]? = some x):sQ op (l.drop k) (v.drop k) k i=sQ op (l.drop (k+1)) (v.drop (k+1)) (k+1) (if o.kind=118 then { i with imm:=x } else if o.kind=109 then pH { i with imm:=o.n } (k+vD op) o.r else pH i (k+vD op) o.r):=by
 obtain⟨h1,h2⟩:=Kg.1 ho;obtain⟨h3,h4⟩:=Kg.1 hx;rw[List.drop_eq_getElem_cons h1,h2,List.drop_eq_getElem_cons h3,h4,sQ];have e:(if op=52∨op=54 then k+1 else k)=k+vD op:=by unfold vD;split<;>rfl
 rw[e];rfl
theorem fldQ_imm (i:QI) (j:Nat) (r:Int):(pH i j r).imm=i.imm∧(pH i j r).op=i.op:=by unfold pH;split;exact⟨rfl,rfl⟩;split<;>exact⟨rfl,rfl⟩
theorem FqI.val {op:Int}{l:List AOp}{v:List Nat}{k:Nat}{i:QI}{o:AOp}{x:Nat}(h:FqI op l v k i) (ho:l[k]? = some o) (hx:v[k]? = some x) (hk:o.kind=118) (hn:x<4294967296):FqI op l v (k+1) { i with imm:=x } :=
 ⟨(Kg.1 ho).1,by rw[h.e,insQ_step ho hx,Ah hk],hn,h.o⟩
theorem FqI.mem {op:Int}{l:List AOp}{v:List Nat}{k:Nat}{i:QI}{o:AOp}{x:Nat}(h:FqI op l v k i) (ho:l[k]? = some o) (hx:v[k]? = some x) (hk:¬o.kind=118) (hm:o.kind=109) (hn:o.n<4294967296):FqI op l v (k+1) (pH { i with imm:=o.n } (k+vD op) o.r) :=
 ⟨(Kg.1 ho).1,by rw[h.e,insQ_step ho hx,Ag hk,Ah hm],by rw[(fldQ_imm _ _ _).1];exact hn,by rw[(fldQ_imm _ _ _).2];exact h.o⟩
theorem FqI.reg {op:Int}{l:List AOp}{v:List Nat}{k:Nat}{i:QI}{o:AOp}{x:Nat}(h:FqI op l v k i) (ho:l[k]? = some o) (hx:v[k]? = some x) (hk:¬o.kind=118) (hm:¬o.kind=109):FqI op l v (k+1) (pH i (k+vD op) o.r) :=
 ⟨(Kg.1 ho).1,by rw[h.e,insQ_step ho hx,Ag hk,Ag hm],by rw[(fldQ_imm _ _ _).1];exact h.n,by rw[(fldQ_imm _ _ _).2];exact h.o⟩
theorem shqL_len (op:Nat):(rS op).length≤3∧(op=52∨op=54→(rS op).length≤2):=by
 unfold rS
 constructor
 ·repeat' split
  all_goals simp
 rintro (rfl|rfl)<;>decide
theorem fitQ_len {op:Int}{l:List AOp}(h:FitA (.q op) l):l.length+vD op≤3:=by
 obtain⟨h1,h2⟩:=h;have h3:=shqL_len op.toNat;rw[← h2,shpA_len] at h3;unfold vD
 split
 have:=h3.2 (by omega);omega;exact h3.1
theorem sgn_w {n:Nat}(h:n<4294967296):IntKind.i32.wrap (n:Int)=sgnI n:=by
 rw[i32w];unfold sgnI
 split<;>split<;>omega
theorem sgn_rng (n:Nat) (h:n<4294967296):-2147483648≤sgnI n∧sgnI n<2147483648:=by unfold sgnI;split<;>omega
end Go.Proofs.YtkaepknpplhgkaaGreatDoor
namespace Go.Proofs.YtkaepknpplhgkaaGreatDoor
open Go.RowKit
abbrev fpO (b:Nat):Obj:=bk 170 [.pointer (some ⟨b,1,none⟩),.pointer (some ⟨b,2,none⟩),.pointer (some ⟨b,3,none⟩)]
theorem fp_at (b:Nat) {j:Nat}(h:j<3):(([.pointer (some ⟨b,1,none⟩),.pointer (some ⟨b,2,none⟩),.pointer (some ⟨b,3,none⟩)]:List Value))[j]? = some (.pointer (some ⟨b,1+j,none⟩)):=by
 match j,h with
 | 0,_=>rfl
 | 1,_=>rfl
 | 2,_=>rfl
theorem qOff_1 {op:Int}(h:op=52∨op=54):vD op=1:=Ah h
theorem qOff_0 {op:Int}(h:¬(op=52∨op=54)):vD op=0:=Ag h
def ecQ (i:QI):Except Nat Bs:=match tD i with
 | some w=>.ok (wS w 4)
 | none=>.error 13
theorem codeQ_eq (op:Int) (sh:Bs) (l:List AOp) (v:List Nat) (a:Nat):sT (.q op) sh l v a=if pI op=true then (if (sgnI (subW (sQ op l v 0 ⟨op,0,0,0,0⟩).imm a)).tmod 4=0 then ecQ { sQ op l v 0 ⟨op,0,0,0,0⟩ with imm:=((sgnI (subW (sQ op l v 0 ⟨op,0,0,0,0⟩).imm a)).tdiv 4%4294967296).toNat } else .error 13) else ecQ (sQ op l v 0 ⟨op,0,0,0,0⟩):=by
 unfold sT;dsimp only;generalize sQ op l v 0 ⟨op,0,0,0,0⟩=i;generalize subW i.imm a=z;rfl
theorem encQ_lt {i:QI}{w:Nat}(h:tD i=some w):w<4294967296:=by
 have h1:=sqOf_ok i.op;have h3:∀s,qU i.op=some s→(wV i.op).bits=s.bits:=fun s h=>by unfold wV;rw[h]
 have h4:qU i.op≠none→0≤i.op∧i.op≤54:=fun hh=>Classical.byContradiction fun hn=>hh (by
  unfold qU
  repeat rw[Ag (by omega)])
 unfold tD at h
 cases hs:qU i.op with
 | none=>rw[hs] at h;cases h
 | some s =>
  rw[hs] at h;dsimp only at h
  split at h
  ·next hr =>
   cases h;have hb:=h1.b;rw[h3 s hs] at hb;have ho:=h4 (by rw[hs];simp)
   have hml:i.imm%2 ^ s.bits<4194304:=by
    have h9:i.imm%2 ^ s.bits<2 ^ s.bits:=Nat.mod_lt _ (Nat.pow_pos (by omega));rcases hb with h|h|h<;>rw[h] at h9 ⊢<;>omega
   obtain⟨k1,k2,k3,_⟩:=hr;obtain⟨dn,e1,hd,_⟩:=sF k1;obtain⟨an,e2,ha,_⟩:=sF k2;obtain⟨bn,e3,hb,_⟩:=sF k3;rw[e1,e2,e3];omega
  ·cases h
theorem codeQ_any (S:SV) (op:Int) (hfit:FitA (.q op) S.l) (hO:∀o∈S.l,OpR o) (v:List Nat) (VA:Option Addr) (vc a:Nat) (ha:a<4294967296) (hl:v.length=S.l.length) (b:Nat) (F F2:Nat→Prop) (w_0:World) (h1:Blk b (bxJ op) w_0) (hX0:OpX F S w_0) (hV0:VlX F2 VA v w_0) :
  Calls Tryz.prog 110 #[.agg (svC S).toArray,.slice VA v.length vc,.int .u32 a,.pointer (some ⟨b,0,none⟩)] w_0 fun e w'=>Ext w_0 w'∧match sT (.q op) S.sh S.l v a with
   | .ok x=>e=.returned (.string ⟨x.toArray⟩)
   | .error k=>e=.panicked (pan (qK k)):=by
 have hX:=hX0.low;have hV:=hV0.low;have hlen:=fitQ_len hfit;have hoff:vD op≤1:=by unfold vD;split<;>omega
 generalize hcd:sT (.q op) S.sh S.l v a=cd;rw[codeQ_eq] at hcd;refine zN (args:=[.agg (svC S).toArray,.slice VA v.length vc,.int .u32 a,.pointer (some ⟨b,0,none⟩)]) Tryz.func110 M 84 M (Kh M)<|Z4 0 1 2 3 M<|zG (H':=Jy w_0 [] [] (fun u=>Blk b (bxJ op) u∧OpX (fun k=>k<w_0.heap.size) S u∧VlX (fun k=>k<w_0.heap.size) VA v u)) (fun u hu=>?_) ?_;subst hu;exact Hp.start ⟨fun k=>k<u.heap.size,fun k hk=>⟨hk,id⟩,fun u' hu'=>⟨(hu' _ h1.lt).trans h1,RdF.lies.foot (fun k hk=>hu' k hk) hX,VlX.lies.foot (fun k hk=>hu' k hk) hV⟩⟩;refine zX<|zZ<|zA .none M (yQ M M) fun b4=>Za M M<|ZX<|zZ<|ZF M (zL M U3 M (fun w hw=>Blk.cell (HpG.x hw).1 M))<|ZF M (Zb [.int .i64 0,.int .i64 0,.int .i64 0,.int .i64 0,.int .u32 0] [(0,1),(1,1),(2,1),(3,1),(4,1)] M)<|Zt (z:=Jf) (cs:=Jp) M fun b8=>ZR 0 M<|ZX<|Z7r 0 1 2 3 4 7 8 M<|ZF M (Y74x1 M) ?_;refine ZF M (Y74x2 M) ?_;refine ZF M (Y74x3 M) ?_;refine zA .none M (tX (z:=.pointer none) M M M M Tryz.underlying171 (by kernel_rfl) (by kernel_rfl) M M) fun b20=>Za M M<|ZT<|zB (ι:=Unit) (fun _=>[(1,.slice VA v.length vc),(2,.int .u32 a),(3,.pointer (some ⟨b,0,none⟩)),(4,Jx b4),(8,Jx b8),(9,.slice (some ⟨b20,vD op,none⟩) (3-vD op:Nat) (3-vD op:Nat))]) (fun _=>Jy w_0 [(b20,fpO b8),(b8,qiO ⟨op,0,0,0,0⟩),(b4,svO S)] [] (fun u=>Blk b (bxJ op) u∧OpX (fun k=>k<w_0.heap.size) S u∧VlX (fun k=>k<w_0.heap.size) VA v u)) ?_ (fun _=>?_)
 ·refine zB (ι:={x:Bool // x=true↔(op=52∨op=54)}) (fun x=>[(1,.slice VA v.length vc),(2,.int .u32 a),(3,.pointer (some ⟨b,0,none⟩)),(4,Jx b4),(8,Jx b8),(9,.slice (some ⟨b20,0,none⟩) 3 3),(26,.bool x.1)]) (fun _=>Jy w_0 [(b20,fpO b8),(b8,qiO ⟨op,0,0,0,0⟩),(b4,svO S)] [] (fun u=>Blk b (bxJ op) u∧OpX (fun k=>k<w_0.heap.size) S u∧VlX (fun k=>k<w_0.heap.size) VA v u)) ?_ (fun x=>?_)
  ·refine Z8r 0 1 2 3 4 7 8 9 M<|ZF M (zL M U3 M (fun w hw=>Blk.cell (HpG.x hw).1 M))<|Ze M<|Zm M M<|zQ 23 M (fun g1=>?_) (fun g1=>?_)
   ·replace g1:=Kq g1;refine ZP M<|ZP M<|Zh M<|zS<|zU (ι:={x:Bool // x=true↔(op=52∨op=54)}) ⟨true,⟨fun _=>.inl g1,fun _=>rfl⟩⟩ (O7 M) Jz
   replace g1:=yT g1;refine ZG M M M (zL M U3 M (fun w hw=>Blk.cell (HpG.x hw).1 M))<|Zx M<|Zf M<|zS<|zU (ι:={x:Bool // x=true↔(op=52∨op=54)}) ⟨op==54,⟨fun h=>.inr (Kq h),fun h=>Am.2 (h.resolve_left g1)⟩⟩ (O7 M) Jz
  obtain⟨x,hx⟩:=x;dsimp only;refine zT M (fun h26=>?_) (fun h26=>?_)
  ·refine zZ<|Zm M M<|ZF M (qF (size:=1) M M Tryz.underlying171 (by kernel_rfl) M (by decide))<|Za M M<|zS<|zU (ι:=Unit) () (by rw[qOff_1 (hx.1 h26)];exact (O6 M)) Jz
  skip;refine zR<|zU (ι:=Unit) () (by rw[qOff_0 (fun hh=>by rw[hx.2 hh] at h26;cases h26)];exact (O6 M)) Jz
 skip;refine zX<|zX<|zZ<|ZF M (Y91x3 M) ?_;refine Zl 2 M U88 M<|ZF M (yK M U88)<|Zm M M<|ZT<|zJ<|yF (ι:={p:Nat×QI // FqI op S.l v p.1 p.2}) (fun p=>[(1,.slice VA v.length vc),(2,.int .u32 a),(3,.pointer (some ⟨b,0,none⟩)),(8,Jx b8),(9,.slice (some ⟨b20,vD op,none⟩) (3-vD op:Nat) (3-vD op:Nat)),(30,.slice S.A S.l.length S.cap),(31,.int .i64 S.l.length),(32,.int .i64 (p.1.1:Nat))]) (fun p=>Jy w_0 [(b20,fpO b8),(b8,qiO p.1.2),(b4,svO S)] [] (fun u=>Blk b (bxJ op) u∧OpX (fun k=>k<w_0.heap.size) S u∧VlX (fun k=>k<w_0.heap.size) VA v u)) (fun p=>S.l.length-p.1.1) ⟨(0,⟨op,0,0,0,0⟩),⟨Ad _,rfl,(by show 0<4294967296;omega),rfl⟩⟩ ?_ ?_ (fun p=>?_);exact O8 rfl;exact fun w h=>h;obtain⟨⟨k,i⟩,hk⟩:=p;dsimp only at hk ⊢;have hkle:=hk.le;refine zX<|zZ<|ZF M (yR M M)<|ZX<|zT M (fun h33=>?_) (fun h33=>?_)
 ·replace h33:=Ki h33;skip;obtain⟨x,hxk⟩:∃x,S.l[k]? = some x:=⟨S.l[k]'(by omega),Kn _⟩;obtain⟨y,hyk⟩:∃y,v[k]? = some y:=⟨v[k]'(by omega),Kn _⟩;have hyn:=hV.n y (Ko hyk);have hxr:=hO x (Ko hxk);obtain⟨bo,off,hA⟩:=OpX.at_ hX (by omega);obtain⟨bv,ov,hB⟩:=VlX.at_ hV (by omega);refine zR<|zV<|zX<|zJ<|zX<|zZ<|Zm M M<|ZF M (Zi (j:=k) (es:=6) (g:=bo) (o:=off) (len:=S.l.length) (cap:=S.cap) (congrArg (fun z=>some (Value.slice z S.l.length S.cap)) hA) M Tryz.underlying88 M (by omega) M) ?_;refine ZF M (xL (cs:=aoC x) M U100 M (by kernel_rfl) (fun w hw j u hu=>(HpG.x hw).2.1.cell (j:=j) hA hxk M hu)) ?_;refine Zt (z:=.agg #[.int .u8 0,.int .i64 0,.string ⟨#[]⟩,.int .u32 0,.int .i64 0,.int .i64 0]) (cs:=Jk) M fun b11=>Za M M<|ZR 0 M<|ZT<|zB (ι:={j:QI // (j=if x.kind=109 then { i with imm:=x.n } else i)∧¬x.kind=118}) (fun _=>[(1,.slice VA v.length vc),(2,.int .u32 a),(3,.pointer (some ⟨b,0,none⟩)),(8,Jx b8),(9,.slice (some ⟨b20,vD op,none⟩) (3-vD op:Nat) (3-vD op:Nat)),(30,.slice S.A S.l.length S.cap),(31,.int .i64 S.l.length),(32,.int .i64 (k:Nat)),(10,.int .i64 (k:Nat)),(11,Jx b11)]) (fun j=>Jy w_0 [(b11,aoO x),(b20,fpO b8),(b8,qiO j.1),(b4,svO S)] [] (fun u=>Blk b (bxJ op) u∧OpX (fun k=>k<w_0.heap.size) S u∧VlX (fun k=>k<w_0.heap.size) VA v u)) ?_ (fun jj=>?_)
  ·refine zX<|Z11r 1 2 3 8 9 10 11 30 31 32 33 M<|ZF M (zY (off:=0) (sz:=0) M U100 (by kernel_rfl) M) ?_;refine Zl 0 M U5 M<|ZT<|zJ<|zX<|Z12r 1 2 3 8 9 10 11 30 31 32 33 38 M<|Ze M<|Za M M<|ZT<|zT M (fun h39=>?_) (fun h39=>?_)
   ·replace h39:=Kq h39;have hx1:x.kind=118:=by omega
    refine zX<|Z13r 1 2 3 8 9 10 11 30 31 32 33 38 39 M<|Zm M M<|Zm M M<|ZF M (Zi (j:=k) (es:=1) (g:=bv) (o:=ov) (len:=v.length) (cap:=vc) (congrArg (fun z=>some (Value.slice z v.length vc)) hB) M Tryz.underlying51 M (by omega) M) ?_;refine ZF M (zL M U22 M (fun w hw=>(HpG.x hw).2.2.cell hB hyk M))<|ZF M (Y74x4 M) ?_;refine ZS 2 M<|ZT<|yM<|wq_far M<|zP<|yN<|zV<|Z13r 1 2 3 8 9 10 11 30 31 32 33 38 39 M<|ZF M (zF M M (i64_in _ (by omega) (by omega)))<|Zm M M<|zS<|yV (ι:={p:Nat×QI // FqI op S.l v p.1 p.2}) ⟨(k+1,{ i with imm:=y }),hk.val hxk hyk hx1 hyn⟩ (by show S.l.length-(k+1)<S.l.length-k;omega) (O8 M) (fun w h=>Hp.drop h (Km _ _) (.refl _))
   replace h39:=yT h39;have hx1:¬x.kind=118:=by omega
   refine zX<|Z13r 1 2 3 8 9 10 11 30 31 32 33 38 39 M<|Ze M<|Za M M<|ZT<|zT M (fun h46=>?_) (fun h46=>?_)
   ·replace h46:=Kq h46;refine Z14r 1 2 3 8 9 10 11 30 31 32 33 38 39 46 M<|ZF M (Y100x3 M) ?_;refine Zl 0 M U22 M<|ZF M (Y74x4 M) ?_;refine ZS 2 M<|zS<|zH<|zU (ι:={j:QI // (j=if x.kind=109 then { i with imm:=x.n } else i)∧¬x.kind=118}) ⟨{ i with imm:=x.n },by rw[Ah (by omega)],hx1⟩ (O10 M) Jz
   replace h46:=yT h46;refine zR<|zH<|zU (ι:={j:QI // (j=if x.kind=109 then { i with imm:=x.n } else i)∧¬x.kind=118}) ⟨i,by rw[Ag (by omega)],hx1⟩ (O10 M) Jz
  obtain⟨ii,hii,hx1⟩:=jj;dsimp only;refine qB (γ:=Unit) [(1,.slice VA v.length vc),(2,.int .u32 a),(3,.pointer (some ⟨b,0,none⟩)),(8,Jx b8),(9,.slice (some ⟨b20,vD op,none⟩) (3-vD op:Nat) (3-vD op:Nat)),(30,.slice S.A S.l.length S.cap),(31,.int .i64 S.l.length),(32,.int .i64 (k:Nat)),(10,.int .i64 (k:Nat)),(11,Jx b11)] [(0,51,fun g=>.slice (some ⟨b20,vD op,none⟩) (3-vD op:Nat) (3-vD op:Nat)),(1,52,fun g=>.int .i64 (k:Nat)),(2,53,fun g=>.pointer (some ⟨b20,vD op+k*1,none⟩)),(3,54,fun g=>.pointer (some ⟨b8,1+(k+vD op),none⟩)),(4,55,fun g=>.pointer (some ⟨b11,1,none⟩)),(5,56,fun g=>.int .i64 x.r),(6,57,fun g=>.pointer (some ⟨b8,1+(k+vD op),none⟩))] (fun D g=>fun w=>Jy w_0 [(b11,aoO x),(b20,fpO b8),(b8,qiO (bif D 7 then pH ii (k+vD op) x.r else ii)),(b4,svO S)] [] (fun u=>Blk b (bxJ op) u∧OpX (fun k=>k<w_0.heap.size) S u∧VlX (fun k=>k<w_0.heap.size) VA v u) w) [[],[],[0,1],[2],[],[4],[3],[5,6]] () (by kernel_rfl) (by kernel_rfl) (by kernel_rfl) (O10 M) (fun D w h hw=>by rw[h 7 (by decide)];exact Hp.drew hw) ⟨?_,?_,?_,?_,?_,?_,?_,?_,trivial⟩ (fun g=>?_)
  ·intro D g hD hd;refine zI (v:=.slice (some ⟨b20,vD op,none⟩) (3-vD op:Nat) (3-vD op:Nat)) ?_ M Jz;refine yW rfl
  ·intro D g hD hd;refine zI (v:=.int .i64 (k:Nat)) ?_ M Jz;refine yW rfl
  ·intro D g hD hd;have hd0:D 0=true:=hd 0 (by simp);have hd1:D 1=true:=hd 1 (by simp);refine zI (v:=.pointer (some ⟨b20,vD op+k*1,none⟩)) ?_ M Jz;refine Zi (j:=k) (es:=1) M M Tryz.underlying171 M (by omega) rfl
  ·intro D g hD hd;have hd2:D 2=true:=hd 2 (by simp);refine zI (v:=.pointer (some ⟨b8,1+(k+vD op),none⟩)) ?_ M Jz;refine zL M Tryz.underlying170 M (fun w hw=>HpG.cell (k:=1) hw M (by rw[show vD op+k*1=k+vD op by omega];exact fp_at b8 (by omega)))
  ·intro D g hD hd;refine zI (v:=.pointer (some ⟨b11,1,none⟩)) ?_ M Jz;refine zY (off:=1) (sz:=0) M U100 (by kernel_rfl) rfl
  ·intro D g hD hd;have hd4:D 4=true:=hd 4 (by simp);refine zI (v:=.int .i64 x.r) ?_ M Jz;refine zL M U3 M (fun w hw=>HpG.cell (k:=0) hw M M)
  ·intro D g hD hd;have hd3:D 3=true:=hd 3 (by simp);refine zI (v:=.pointer (some ⟨b8,1+(k+vD op),none⟩)) ?_ M Jz;refine xV rfl
  ·intro D g hD hd;have hd5:D 5=true:=hd 5 (by simp);have hd6:D 6=true:=hd 6 (by simp)
   refine uO (wA 2 M M M M (by show Nat.blt (1+(k+vD op)) 5=true;rw[Nat.blt_eq];omega) (by kernel_rfl)) (fun _ w hw=>⟨g,trivial,wU.refl,by
    have h2:Jy w_0 [(b11,aoO x),(b20,fpO b8),(b8,bk 74 ((qiC (bif D 7 then pH ii (k+vD op) x.r else ii)).set (1+(k+vD op)) (.int .i64 x.r))),(b4,svO S)] [] (fun u=>Blk b (bxJ op) u∧OpX (fun k=>k<w_0.heap.size) S u∧VlX (fun k=>k<w_0.heap.size) VA v u) w:=hw;rw[fldC _ (by omega)] at h2;rw[hD] at h2
    exact h2⟩)
  skip;refine wq_to (m':=[(1,.slice VA v.length vc),(2,.int .u32 a),(3,.pointer (some ⟨b,0,none⟩)),(8,Jx b8),(9,.slice (some ⟨b20,vD op,none⟩) (3-vD op:Nat) (3-vD op:Nat)),(30,.slice S.A S.l.length S.cap),(31,.int .i64 S.l.length),(32,.int .i64 (k:Nat)),(10,.int .i64 (k:Nat)),(11,Jx b11)]) (H':=Jy w_0 [(b11,aoO x),(b20,fpO b8),(b8,qiO (pH ii (k+vD op) x.r)),(b4,svO S)] [] (fun u=>Blk b (bxJ op) u∧OpX (fun k=>k<w_0.heap.size) S u∧VlX (fun k=>k<w_0.heap.size) VA v u)) ?_ (O10 M) (fun w hw=>hw);refine zH<|zV<|zZ<|ZF M (zF M M (i64_in _ (by omega) (by omega)))<|Zm M M<|zS ?_
  refine yV (ι:={p:Nat×QI // FqI op S.l v p.1 p.2}) ⟨(k+1,pH ii (k+vD op) x.r),by
   by_cases h9:x.kind=109
   rw[Ah h9] at hii;subst hii;exact hk.mem hxk hyk hx1 h9 hxr.n
   rw[Ag h9] at hii;subst hii;exact hk.reg hxk hyk hx1 h9⟩ (by show S.l.length-(k+1)<S.l.length-k;omega) (O8 rfl) (fun w h=>Hp.drop h (Km _ _) (.refl _))
 replace h33:=Kj h33;skip;obtain rfl:k=S.l.length:=by omega
 rw[hk.end_] at hcd;have hin:=hk.n;have hs7:=pE i.imm a;have hs8:=subW_w hin ha;generalize subW i.imm a=z7 at hs7 hs8 hcd;have hs9:=sgn_w hs7;have hsr:=sgn_rng z7 hs7;generalize sgnI z7=z8 at hs9 hsr hcd
 have htd:-2147483648≤z8.tdiv 4∧z8.tdiv 4<2147483648:=by
  rcases Int.lt_or_le z8 0 with h|h
  ·have e:z8=-(-z8):=by omega
   rw[e,Int.neg_tdiv,Int.tdiv_eq_ediv_of_nonneg (by omega)];omega
  rw[Int.tdiv_eq_ediv_of_nonneg h];omega
 have hcv:IntKind.u32.wrap (z8.tdiv 4)=((z8.tdiv 4%4294967296).toNat:Nat):=by rw[u32w];omega
 have hci:IntKind.i32.wrap (z8.tdiv 4)=z8.tdiv 4:=by rw[i32w];split<;>omega
 have hcl:(z8.tdiv 4%4294967296).toNat<4294967296:=by omega
 generalize (z8.tdiv 4%4294967296).toNat=xq at hcv hcl hcd;obtain⟨yq,hyq⟩:∃y,y=z8.tdiv 4:=⟨_,rfl⟩;have hci:IntKind.i32.wrap (z8.tdiv 4)=yq:=by rw[hyq,hci]
 rw[← hyq] at hcv;refine yM<|zP<|zP<|yN<|zV<|zB (ι:={j:QI // j.imm<4294967296∧(if pI op=true then (if z8.tmod 4=0 then ecQ { i with imm:=xq } else .error 13) else ecQ i)=ecQ j}) (fun _=>[(8,Jx b8)]) (fun j=>Jy w_0 [(b20,fpO b8),(b8,qiO j.1),(b4,svO S)] [] (fun u=>Blk b (bxJ op) u∧OpX (fun k=>k<w_0.heap.size) S u∧VlX (fun k=>k<w_0.heap.size) VA v u)) ?_ (fun jj=>?_)
 ·refine zX<|zZ<|ZF M (zL M U3 M (fun w hw=>Blk.cell (HpG.x hw).1 M))<|Zu (v:=.bool (pI op)) M (fun w hw=>jumps_any op w)<|ZT<|zT M (fun h60=>?_) (fun h60=>?_)
  ·refine zX<|Z10r 1 2 3 8 9 30 31 32 33 60 M<|ZF M (Y74x4 M) ?_;refine Zl 1 rfl U22 rfl<|Zm rfl rfl<|ZF rfl (vL rfl rfl hs8)<|ZF rfl (Zc rfl Tryz.underlying21 hs9)<|Za rfl rfl<|ZX<|zX<|Z11r 1 2 3 8 9 12 30 31 32 33 60 rfl<|Zm rfl rfl<|ZF rfl (yf_rem rfl rfl (by first|decide|omega) rfl) ?_;refine ZF M (xF M M)<|ZT<|zT M (fun h68=>?_) (fun h68=>?_)
   ·replace h68:=xD h68;refine Z12r 1 2 3 8 9 12 30 31 32 33 60 68 M<|ZF M (xA M U25)<|wL .none M<|zO<|zO<|xZ fun w hw=>⟨(Kk hw).ext,by rw[Ah h60,Ag h68] at hcd;subst hcd;rfl⟩
   replace h68:=wJ h68;refine zR<|zV<|Z12r 1 2 3 8 9 12 30 31 32 33 60 68 rfl<|Zm rfl rfl<|ZF rfl (yf_quo rfl rfl (by first|decide|omega) hci) ?_;refine ZF M (Zc M U22 hcv)<|ZF M (Y74x4 M) ?_;refine ZS 1 M<|zS ?_;obtain⟨J,hJ⟩:∃J:{j:QI // j.imm<4294967296∧(if pI op=true then (if z8.tmod 4=0 then ecQ { i with imm:=xq } else .error 13) else ecQ i)=ecQ j},J.1={ i with imm:=xq }:=⟨⟨{ i with imm:=xq },hcl,by rw[Ah h60,Ah (by first|exact h68|exact Classical.not_not.1 h68|trace_state)]⟩,rfl⟩;refine zU (ι:={j:QI // j.imm<4294967296∧(if pI op=true then (if z8.tmod 4=0 then ecQ { i with imm:=xq } else .error 13) else ecQ i)=ecQ j}) J (.cons M<|.nil) (fun w h=>by rw[hJ];exact h)
  skip;refine zR<|zU (ι:={j:QI // j.imm<4294967296∧(if pI op=true then (if z8.tmod 4=0 then ecQ { i with imm:=xq } else .error 13) else ecQ i)=ecQ j}) ⟨i,hin,by rw[Ag (by rw[h60];decide)]⟩ (.cons M<|.nil) Jz
 obtain⟨J7,hj1,hj2⟩:=jj;rw[hj2] at hcd;dsimp only;refine zX<|zZ<|ZF M (Zo 1 M U74 M)<|Zu (v:=.tuple #[.int .u32 ((tD J7).getD 0),.int .i64 (if uK J7=true then 0 else 12)]) M (fun w hw=>qencode_any J7 hj1 w)<|Zm M M<|ZF M (zC M M)<|ZF M (zC M M)<|Za M M<|Za M M<|ZX<|zX<|Z3r 8 13 14 M<|Zm M M<|ZF M (xF M M)<|ZT<|zT M (fun h80=>?_) (fun h80=>?_)
 ·replace h80:=xD h80
  have hj:tD J7=none:=by
   unfold uK at h80
   cases hq:tD J7 with
   | none=>rfl
   | some c=>rw[hq] at h80;exact absurd M h80
  refine Z4r 8 13 14 80 M<|ZF M (xA M U25)<|wL .none M<|zO<|xZ fun w hw=>⟨(Kk hw).ext,by unfold ecQ at hcd;rw[hj] at hcd;subst hcd;rfl⟩
 replace h80:=wJ h80
 obtain⟨x7,hj⟩:∃x,tD J7=some x:=by
  unfold uK at h80
  cases hq:tD J7 with
  | none=>rw[hq] at h80;exact absurd h80 (by decide)
  | some c=>exact⟨c,rfl⟩
 refine zR<|zV<|zX<|Z4r 8 13 14 80 M<|Zm M M<|xW .none M  (v:=.string ⟨(wS x7 4).toArray⟩) (by kernel_rfl) (by rw[hj];rfl) (fun w hw=>put_any x7 4 (encQ_lt hj) (Ae 4) w) ?_;refine Za M M<|ZU M M fun w hw=>⟨(Kk hw).ext,by unfold ecQ at hcd;rw[hj] at hcd;subst hcd;rfl⟩
end Go.Proofs.YtkaepknpplhgkaaGreatDoor
namespace Go.Proofs.YtkaepknpplhgkaaGreatDoor
open Go.RowKit
theorem nf_makeSlice {P:Program}{n:Fr}{m:List (Nat×Value)}{ty t e:TypeId}{x:Operand}{k:IntKind}{l:Nat}{z:Value}{size bytes:Nat}{cs:List Value}(hx:ev m x=some (.int k (l:Int))) (ht:P.underlying t=some (.slice e)) (hi:(P.info? e).map (fun i=>(i.zero,i.size,i.bytes))=some (some z,size,bytes)) (hm:madeCells z.cells (l*size)=cs.toArray) (hc:l*size≤16777216) (hb:bytes*l≤281474976710656) (h63:l≤9223372036854775807) :
  NF P (.makeSlice t x x) ty n m (bk e cs) (fun g=>.slice (some ⟨g,0,none⟩) l l):=fun a w d pos af gd hs=>by
 cases hq:P.info? e with
 | none=>simp[hq] at hi
 | some i =>
  simp only[hq,Option.map_some,Option.some.injEq,Prod.mk.injEq] at hi;obtain⟨h1,h2,h3⟩:=hi;subst h2;subst h3;have h4:((i.bytes*l:Nat):Int)≤281474976710656:=by omega
  rw[Int.natCast_mul] at h4;have:=run_makeSlice (P:=P) (w:=w) t e i z ht hq h1 k k l l (by omega) (Int.le_refl _) (by rw[Int.toNat_natCast];exact hc) h4 (by omega);simp only[Int.toNat_natCast,hm] at this;simp[execOp,hs.ev hx,this]
theorem made_one (v:Value) (n:Nat):madeCells #[v] n=(List.replicate n v).toArray:=by
 apply Array.ext;simp[madeCells];intro i h1 h2;simp[madeCells,Nat.mod_one]
theorem made_u8 (n:Nat):madeCells (Value.int .u8 0).cells (n*1)=(u8L (List.replicate n 0)).toArray:=by
 show madeCells #[Value.int .u8 0] (n*1)=_;rw[made_one,Nat.mul_one,u8L,List.map_replicate];rfl
abbrev wsz (word:Bool):Nat:=if word=true then 4 else 1
theorem bytA_cons (word:Bool) (x:Nat) (v:List Nat):bytA word (x::v)=if word=false∧255<x∧wE x 8=false then .error 13 else yG (bytA word v) fun r=>.ok (wS x (wsz word)++r):=by
 rw[bytA];cases word<;>rfl
theorem sizeD_any (word:Bool) (S:SV) (hl:S.l.length≤1000000000) (b:Nat) (w_0:World) (h1:Blk b (bxI (wsz word)) w_0):Calls Tryz.prog 216 #[.agg (svC S).toArray,.pointer (some ⟨b,0,none⟩)] w_0 fun e w'=>e=.returned (.int .i64 (wsz word*S.l.length:Nat))∧Ext w_0 w':=by
 have hz:wsz word≤4:=by unfold wsz;split<;>omega
 have hm:wsz word*S.l.length≤4*1000000000:=Nat.mul_le_mul hz hl;refine zN (args:=[.agg (svC S).toArray,.pointer (some ⟨b,0,none⟩)]) Tryz.func216 M 9 M (Kh M)<|Z2 0 1 M<|zG (H':=Jy w_0 [] [] (Blk b (bxI (wsz word)))) (fun u hu=>?_) ?_;subst hu;exact Hp.start ⟨fun k=>k=b,fun k hk=>(by subst hk;exact⟨h1.lt,id⟩),fun u hu=>(hu _ M).trans h1⟩;refine zX<|zZ<|zA .none M (yQ M M) fun b2=>Za M M<|ZX<|zZ<|ZF M (zL M U3 M (fun w hw=>Blk.cell (HpG.x hw) M))<|ZF M (Y91x3 M) ?_;refine Zl 0 M U88 M<|ZF M (yK M U88)<|ZF M (vE M M (show IntKind.i64.wrap ((wsz word:Int)*(S.l.length:Int))=((wsz word*S.l.length:Nat):Int) by rw[← Int.natCast_mul];exact i64_in _ (by omega) (by omega))) ?_;refine Za M M<|ZU M M fun w hw=>⟨rfl,(Kk hw).ext⟩
theorem zeroS_any (S:SV) (hS:S.l.length=1) (hO:∀o∈S.l,OpR o) (F:Nat→Prop) (w_0:World) (hX:OpX F S w_0):Calls Tryz.prog 218 #[.agg (svC S).toArray] w_0 fun e w'=>e=.returned (.int .i64 (S.l.getD 0 uN).n)∧Ext w_0 w':=by
 obtain⟨x,hx⟩:∃x,S.l[0]? = some x:=⟨S.l[0],Kn _⟩;have hxn:=(hO x (Ko hx)).n;obtain⟨bo,off,hA⟩:=hX.at_ (by omega);rw[tJ hx];refine zN (args:=[.agg (svC S).toArray]) Tryz.func218 M 9 M (Kh M)<|Z1 0 M<|zG (H':=Jy w_0 [] [] (fun u=>OpX F S u)) (fun u hu=>?_) ?_;subst hu;exact Hp.start ⟨fun k=>F k∧k<u.heap.size,fun k hk=>⟨hk.2,id⟩,fun u' hu'=>RdF.lies.mono (fun _ h=>h.1) (RdF.lies.foot (F:=fun k=>F k∧k<u.heap.size) (fun k hk=>hu' k hk) (RdF.lies.lt hX))⟩;refine zX<|zZ<|zA .none M (yQ M M) fun b1=>Za M M<|ZX<|zZ<|ZF M (Y91x3 M) ?_;refine Zl 0 M U88 M<|ZF M (Zi (j:=0) (es:=6) (g:=bo) (o:=off) (len:=S.l.length) (cap:=S.cap) (congrArg (fun z=>some (Value.slice z S.l.length S.cap)) hA) M Tryz.underlying88 M (by omega) M) ?_;refine ZF M (Y100x3 M) ?_;refine ZF M (zL M U22 M (fun w hw=>OpX.cell (HpG.x hw) (k:=0) (j:=3) hA hx (by omega) M)) ?_;refine ZF M (Zc M U3 (i64_in (x.n:Int) (by omega) (by omega)))<|Za M M<|ZU M M fun w hw=>⟨rfl,(Kk hw).ext⟩
theorem zeroC_any (S:SV) (v:List Nat) (VA:Option Addr) (vc a:Nat) (hv:v.length=1) (hz:v.getD 0 0≤65536) (F:Nat→Prop) (w_0:World) (hV0:VlX F VA v w_0):Calls Tryz.prog 219 #[.agg (svC S).toArray,.slice VA v.length vc,.int .u32 a] w_0 fun e w'=>e=.returned (.string ⟨(List.replicate (v.getD 0 0) (0:UInt8)).toArray⟩)∧Ext w_0 w':=by
 obtain⟨x,hx⟩:∃x,v[0]? = some x:=⟨v[0],Kn _⟩;obtain⟨bv,ov,hB⟩:=hV0.at_ (by omega);rw[tJ hx] at hz ⊢;refine zN (args:=[.agg (svC S).toArray,.slice VA v.length vc,.int .u32 a]) Tryz.func219 M 12 M (Kh M)<|Z2 0 1 M<|zG (H':=Jy w_0 [] [] (fun u=>VlX F VA v u)) (fun u hu=>?_) ?_;subst hu;exact Hp.start ⟨fun k=>F k∧k<u.heap.size,fun k hk=>⟨hk.2,id⟩,fun u' hu'=>VlX.lies.mono (fun _ h=>h.1) (VlX.lies.foot (F:=fun k=>F k∧k<u.heap.size) (fun k hk=>hu' k hk) (VlX.lies.lt hV0))⟩;refine zX<|zZ<|zA .none M (yQ M M) fun b3=>Za M M<|ZX<|Z3r 0 1 6 M<|Zm M M<|ZF M (Zi (j:=0) (es:=1) (g:=bv) (o:=ov) (len:=v.length) (cap:=vc) (congrArg (fun z=>some (Value.slice z v.length vc)) hB) M Tryz.underlying51 M (by omega) M) ?_;refine ZF M (zL M U22 M (fun w hw=>(HpG.x hw).cell hB hx M))<|zA .none M  (nf_makeSlice (l:=x) (z:=.int .u8 0) (size:=1) (bytes:=1) (cs:=u8L (List.replicate x 0)) M Tryz.underlying53 (by kernel_rfl) (made_u8 x) (by omega) (by omega) (by omega)) (fun b9=>?_)
 refine ZF M (oF (List.replicate x 0) M (fun w hw=>HpG.blk hw (k:=0) M) Tryz.underlying53 Tryz.underlying5 Tryz.underlying9 (List.length_replicate ..) (fun j hj=>by unfold u8L;rw[List.getElem?_map,Ac,Kn hj];rfl)) ?_
 refine Za M M<|ZU M M fun w hw=>⟨rfl,(Kk hw).ext⟩
theorem bytes_any (word:Bool) (S:SV) (v:List Nat) (VA:Option Addr) (vc a:Nat) (hl:v.length≤1000000000) (b:Nat) (F:Nat→Prop) (w_0:World) (h1:Blk b (bxI (wsz word)) w_0) (hV0:VlX F VA v w_0) :
  Calls Tryz.prog 217 #[.agg (svC S).toArray,.slice VA v.length vc,.int .u32 a,.pointer (some ⟨b,0,none⟩)] w_0 fun e w'=>Ext w_0 w'∧match bytA word v with
   | .ok x=>e=.returned (.string ⟨x.toArray⟩)
   | .error k=>e=.panicked (pan (qK k)):=by
 have hV:=hV0.low;have hz:wsz word≤4:=by unfold wsz;split<;>omega
 have hz1:wsz word=1↔word=false:=by cases word<;>decide
 generalize hcd:bytA word v=cd;refine zN (args:=[.agg (svC S).toArray,.slice VA v.length vc,.int .u32 a,.pointer (some ⟨b,0,none⟩)]) Tryz.func217 M 36 M (Kh M)<|Z3 0 1 3 M<|zG (H':=Jy w_0 [] [] (fun u=>Blk b (bxI (wsz word)) u∧VlX (fun k=>k<w_0.heap.size) VA v u)) (fun u hu=>?_) ?_;subst hu;exact Hp.start ⟨fun k=>k<u.heap.size,fun k hk=>⟨hk,id⟩,fun u' hu'=>⟨(hu' _ h1.lt).trans h1,VlX.lies.foot (fun k hk=>hu' k hk) hV⟩⟩;refine zX<|zZ<|zA .none M (yQ M M) fun b4=>Za M M<|ZX<|Z4r 0 1 3 7 M<|Za M M<|ZX<|zX<|zZ<|Zm M M<|ZF M (yK M U51)<|Zm M M<|ZT<|zJ<|yF (ι:={p:Nat×Bs // (p.1≤v.length∧p.2.length≤4*p.1)∧cd=yG (bytA word (v.drop p.1)) fun r=>.ok (p.2++r)}) (fun p=>[(3,.pointer (some ⟨b,0,none⟩)),(8,.string ⟨p.1.2.toArray⟩),(11,.slice VA v.length vc),(12,.int .i64 v.length),(13,.int .i64 (p.1.1:Nat))]) (fun _=>Jy w_0 [(b4,svO S)] [] (fun u=>Blk b (bxI (wsz word)) u∧VlX (fun k=>k<w_0.heap.size) VA v u)) (fun p=>v.length-p.1.1) ⟨(0,[]),⟨Ad _,Ae _⟩,by rw[← hcd,Kx];cases bytA word v<;>rfl⟩ ?_ ?_ (fun p=>?_);exact O5 rfl;exact fun w h=>h;obtain⟨⟨k,out⟩,⟨hk,hko⟩,hr⟩:=p;dsimp only at hk hko hr ⊢;refine zX<|zZ<|ZF M (yR M M)<|ZX<|zT M (fun h14=>?_) (fun h14=>?_)
 ·replace h14:=Ki h14;skip;obtain⟨x,hxk⟩:∃x,v[k]? = some x:=⟨v[k]'(by omega),Kn _⟩;have hxn:=hV.n x (Ko hxk);obtain⟨bv,ov,hB⟩:=VlX.at_ hV (by omega)
  have hd:v.drop k=x::v.drop (k+1):=by
   obtain⟨e1,e2⟩:=Kg.1 hxk;rw[List.drop_eq_getElem_cons e1,e2]
  rw[hd,bytA_cons] at hr;have hpl:=pW x (wsz word);refine zR<|zV<|zX<|zJ<|zX<|zZ<|ZF M (Zi (j:=k) (es:=1) (g:=bv) (o:=ov) (len:=v.length) (cap:=vc) (congrArg (fun z=>some (Value.slice z v.length vc)) hB) M Tryz.underlying51 M (by omega) M) ?_;refine ZF M (zL M U22 M (fun w hw=>(HpG.x hw).2.cell hB hxk M))<|Za M M<|ZX<|zB (ι:={z:Bool // z=true↔(word=false∧255<x∧wE x 8=false)}) (fun z=>[(3,.pointer (some ⟨b,0,none⟩)),(8,.string ⟨out.toArray⟩),(10,.int .u32 x),(11,.slice VA v.length vc),(12,.int .i64 v.length),(13,.int .i64 (k:Nat)),(27,.bool z.1)]) (fun _=>Jy w_0 [(b4,svO S)] [] (fun u=>Blk b (bxI (wsz word)) u∧VlX (fun k=>k<w_0.heap.size) VA v u)) ?_ (fun z=>?_)
  ·refine Z7r 3 8 10 11 12 13 14 M<|ZF M (zL M U3 M (fun w hw=>Blk.cell (HpG.x hw).1 M))<|Ze M<|Zm M M<|zQ 19 M (fun g3=>?_) (fun g3=>?_)
   ·replace g3:=Kq g3;refine Zv M<|ZG M M M (vS M M)<|Zh M<|Zm M M<|zQ 23 M (fun g7=>?_) (fun g7=>?_)
    ·replace g7:=Ki g7;refine Zv M<|xW (.some M M) M  (v:=.bool (wE x 8)) (by kernel_rfl) M (fun w hw=>fits_any x 8 hxn (.inl M) w)<|ZG M M M (xO M)<|Zh M<|zS<|zU (ι:={z:Bool // z=true↔(word=false∧255<x∧wE x 8=false)}) ⟨!wE x 8,by cases wE x 8<;>simp[hz1.1 (by omega),show 255<x by omega]⟩ (O7 M) Jz
    replace g7:=Kj g7;refine ZP M<|ZP M<|ZP M<|Zf M<|zS<|zU (ι:={z:Bool // z=true↔(word=false∧255<x∧wE x 8=false)}) ⟨false,⟨fun h=>(by cases h),fun h=>absurd h.2.1 (by omega)⟩⟩ (O7 M) Jz
   replace g3:=yT g3;refine ZP M<|ZP M<|Zf M<|Zm M M<|ZP M<|ZP M<|ZP M<|Zf M<|zS<|zU (ι:={z:Bool // z=true↔(word=false∧255<x∧wE x 8=false)}) ⟨false,⟨fun h=>(by cases h),fun h=>absurd (hz1.2 h.1) (by omega)⟩⟩ (O7 M) Jz
  obtain⟨z,hz7⟩:=z;dsimp only;refine zT M (fun h27=>?_) (fun h27=>?_)
  ·rw[Ah (hz7.1 h27)] at hr;refine zZ<|ZF M (xA M U25)<|wL .none M<|zO<|yX<|zO<|zO<|yX<|zO<|xZ fun w hw=>⟨(Kk hw).ext,by subst hr;rfl⟩
  skip;rw[Ag (fun hh=>by rw[hz7.2 hh] at h27;cases h27)] at hr;refine zR<|zV<|zZ<|Zm M M<|Zm M M<|ZF M (zL M U3 M (fun w hw=>Blk.cell (HpG.x hw).1 M))<|Zu (v:=.string ⟨(wS x (wsz word)).toArray⟩) M (fun w hw=>put_any x (wsz word) hxn hz w)<|ZF M (yB M M (by rw[hpl];omega)) ?_;refine Za M M<|zS<|zH<|zV<|Z7r 3 8 10 11 12 13 27 M<|ZF M (zF M M (i64_in _ (by omega) (by omega)))<|Zm M M<|zS ?_
  refine yV (ι:={p:Nat×Bs // (p.1≤v.length∧p.2.length≤4*p.1)∧cd=yG (bytA word (v.drop p.1)) fun r=>.ok (p.2++r)}) ⟨(k+1,out++wS x (wsz word)),⟨by show k+1≤_;omega,by show (out++wS x (wsz word)).length≤4*(k+1);rw[Kb,hpl];omega⟩,by
   rw[hr];show yG (yG (bytA word (v.drop (k+1))) _) _=yG (bytA word (v.drop (k+1))) _
   cases bytA word (v.drop (k+1)) with
   | error e=>rfl
   | ok r=>show Except.ok _=Except.ok _;rw[Kv]⟩ (by show v.length-(k+1)<v.length-k;omega) (O5 rfl) Jz
 replace h14:=Kj h14;skip;obtain rfl:k=v.length:=by omega
 rw[List.drop_length] at hr;refine yM<|zP<|zP<|yN<|zV<|zX<|zZ<|Zm M M<|Za M M<|ZU M M fun w hw=>⟨(Kk hw).ext,by subst hr;show Ending.returned _=_;rw[Al]⟩
end Go.Proofs.YtkaepknpplhgkaaGreatDoor
namespace Go.Proofs.YtkaepknpplhgkaaGreatDoor
open Go.RowKit
def qS (f:AFm) (p q:Value) (F:Nat→Prop) (w:World):Prop:=match f with
 | .byte=>∃b,p=pfV 216 b∧q=pfV 217 b∧Bl7 b (bxI (wsz false)) F w
 | .word=>∃b,p=pfV 216 b∧q=pfV 217 b∧Bl7 b (bxI (wsz true)) F w
 | .zero=>p=fnV 218∧q=fnV 219
 | .k sel fil=>∃b c x,p=pfV 165 b∧q=yE 167 b c∧selB sel∧Bl7 b (opO x) F w∧Bl7 c (flO (fnV (vC fil))) F w∧oG sel x F w
 | .q op=>∃b,p=fnV 109∧q=pfV 110 b∧Bl7 b (bxJ op) F w
theorem qS.lies {f:AFm}{p q:Value}:Lies (qS f p q):=by
 cases f with
 | byte=>exact⟨fun hk ⟨b,h1,h2,h3⟩=>⟨b,h1,h2,Bl7.lies.foot hk h3⟩,fun ⟨b,h1,h2,h3⟩=>⟨b,h1,h2,Bl7.lies.lt h3⟩,fun hF ⟨b,h1,h2,h3⟩=>⟨b,h1,h2,Bl7.lies.mono hF h3⟩⟩
 | word=>exact⟨fun hk ⟨b,h1,h2,h3⟩=>⟨b,h1,h2,Bl7.lies.foot hk h3⟩,fun ⟨b,h1,h2,h3⟩=>⟨b,h1,h2,Bl7.lies.lt h3⟩,fun hF ⟨b,h1,h2,h3⟩=>⟨b,h1,h2,Bl7.lies.mono hF h3⟩⟩
 | zero=>exact⟨fun _ h=>h,fun h=>h,fun _ h=>h⟩
 | k sel fil=>exact⟨fun hk ⟨b,c,x,h1,h2,h3,h4,h5,h6⟩=>⟨b,c,x,h1,h2,h3,Bl7.lies.foot hk h4,Bl7.lies.foot hk h5,oG.lies.foot hk h6⟩,fun ⟨b,c,x,h1,h2,h3,h4,h5,h6⟩=>⟨b,c,x,h1,h2,h3,Bl7.lies.lt h4,Bl7.lies.lt h5,oG.lies.lt h6⟩,fun hF ⟨b,c,x,h1,h2,h3,h4,h5,h6⟩=>⟨b,c,x,h1,h2,h3,Bl7.lies.mono hF h4,Bl7.lies.mono hF h5,oG.lies.mono hF h6⟩⟩
 | q op=>exact⟨fun hk ⟨b,h1,h2,h3⟩=>⟨b,h1,h2,Bl7.lies.foot hk h3⟩,fun ⟨b,h1,h2,h3⟩=>⟨b,h1,h2,Bl7.lies.lt h3⟩,fun hF ⟨b,h1,h2,h3⟩=>⟨b,h1,h2,Bl7.lies.mono hF h3⟩⟩
theorem form_fn {f:AFm}{p q:Value}{F:Nat→Prop}{w:World}(h:qS f p q F w):IsFn Tryz.prog p∧IsFn Tryz.prog q:=by
 cases f with
 | byte=>obtain⟨b,rfl,rfl,_⟩:=h;exact⟨⟨_,[.pointer (some ⟨b,0,none⟩)],rfl,by kernel_rfl⟩,⟨_,[.pointer (some ⟨b,0,none⟩)],rfl,by kernel_rfl⟩⟩
 | word=>obtain⟨b,rfl,rfl,_⟩:=h;exact⟨⟨_,[.pointer (some ⟨b,0,none⟩)],rfl,by kernel_rfl⟩,⟨_,[.pointer (some ⟨b,0,none⟩)],rfl,by kernel_rfl⟩⟩
 | zero=>obtain⟨rfl,rfl⟩:=h;exact⟨⟨_,[],rfl,by kernel_rfl⟩,⟨_,[],rfl,by kernel_rfl⟩⟩
 | k sel fil=>obtain⟨b,c,x,rfl,rfl,_⟩:=h;exact⟨⟨_,[.pointer (some ⟨b,0,none⟩)],rfl,by kernel_rfl⟩,⟨_,[.pointer (some ⟨b,0,none⟩),.pointer (some ⟨c,0,none⟩)],rfl,by kernel_rfl⟩⟩
 | q op=>obtain⟨b,rfl,rfl,_⟩:=h;exact⟨⟨_,[],rfl,by kernel_rfl⟩,⟨_,[.pointer (some ⟨b,0,none⟩)],rfl,by kernel_rfl⟩⟩
theorem form_size {f:AFm}{g:FuncId}{cs:List Value}{q:Value}{F F':Nat→Prop}{S:SV}{w:World}(hv:qS f (fcV g cs) q F w) (hX:OpX F' S w) (hfit:FitA f S.l) (hO:∀o∈S.l,OpR o) (hl:S.l.length≤1000000000):Calls Tryz.prog g ([Value.agg (svC S).toArray]++cs).toArray w fun e w'=>e=.returned (.int .i64 (sizeA f S.l))∧Ext w w':=by
 cases f with
 | byte =>
  obtain⟨b,e,_,_,h⟩:=hv;obtain⟨rfl,rfl⟩:=uH (ds:=[.pointer (some ⟨b,0,none⟩)]) e;have:=sizeD_any false S hl b w h;rw[show wsz false*S.l.length=S.l.length from Nat.one_mul _] at this;exact this
 | word =>
  obtain⟨b,e,_,_,h⟩:=hv;obtain⟨rfl,rfl⟩:=uH (ds:=[.pointer (some ⟨b,0,none⟩)]) e;exact sizeD_any true S hl b w h
 | zero =>
  obtain⟨e,_⟩:=hv;obtain⟨rfl,rfl⟩:=uH (ds:=[]) e;exact zeroS_any S hfit hO F' w hX
 | k sel fil =>
  obtain⟨b,c,x,e,_,hb,h1,h2,h3⟩:=hv;obtain⟨rfl,rfl⟩:=uH (ds:=[.pointer (some ⟨b,0,none⟩)]) e;obtain⟨f1,c1,rfl,g1⟩:=sel_fn h3;exact sizeK_any S sel hb hfit.1 hO b f1 c1 g1 F F' w h1.2 h3 hX
 | q op =>
  obtain⟨b,e,_,_⟩:=hv;obtain⟨rfl,rfl⟩:=uH (ds:=[]) e;exact sizeQ_any S w
theorem form_code {f:AFm}{g:FuncId}{cs:List Value}{p:Value}{F F' F2:Nat→Prop}{S:SV}{v:List Nat}{VA:Option Addr}{vc a:Nat}{w:World}(hv:qS f p (fcV g cs) F w) (hX:OpX F' S w) (hV:VlX F2 VA v w) (hfit:FitA f S.l) (hsh:S.sh=xR S.l) (hO:∀o∈S.l,OpR o) (ha:a<4294967296) (hl:v.length=S.l.length) (hl2:v.length≤1000000000) (hz:f=.zero→v.getD 0 0≤65536) :
  Calls Tryz.prog g ([Value.agg (svC S).toArray,.slice VA v.length vc,.int .u32 a]++cs).toArray w fun e w'=>Ext w w'∧match sT f S.sh S.l v a with
   | .ok x=>e=.returned (.string ⟨x.toArray⟩)
   | .error k=>e=.panicked (pan (qK k)):=by
 cases f with
 | byte =>
  obtain⟨b,_,e,_,h⟩:=hv;obtain⟨rfl,rfl⟩:=uH (ds:=[.pointer (some ⟨b,0,none⟩)]) e;exact bytes_any false S v VA vc a hl2 b F2 w h hV
 | word =>
  obtain⟨b,_,e,_,h⟩:=hv;obtain⟨rfl,rfl⟩:=uH (ds:=[.pointer (some ⟨b,0,none⟩)]) e;exact bytes_any true S v VA vc a hl2 b F2 w h hV
 | zero =>
  obtain⟨_,e⟩:=hv;obtain⟨rfl,rfl⟩:=uH (ds:=[]) e;have h1:S.l.length=1:=hfit;exact (zeroC_any S v VA vc a (by omega) (hz M) F2 w hV).mono fun e w' ⟨h1,h2⟩=>⟨h2,h1⟩
 | k sel fil =>
  obtain⟨b,c,x,_,e,hb,h1,h2,h3⟩:=hv;obtain⟨rfl,rfl⟩:=uH (ds:=[.pointer (some ⟨b,0,none⟩),.pointer (some ⟨c,0,none⟩)]) e;obtain⟨f1,c1,rfl,g1⟩:=sel_fn h3;exact codeK_any S sel fil hb hfit.1 hfit.2 hO hsh v VA vc a ha hl hl2 b c f1 c1 g1 F F' F2 w h1.2 h2.2 h3 hX hV
 | q op =>
  obtain⟨b,_,e,_,h⟩:=hv;obtain⟨rfl,rfl⟩:=uH (ds:=[.pointer (some ⟨b,0,none⟩)]) e;exact codeQ_any S op hfit hO v VA vc a ha hl b F' F2 w h hX hV
theorem join_mk (word:Bool) (w_0:World):Calls Tryz.prog 215 #[.int .i64 (wsz word:Nat)] w_0 fun e w'=>∃b:Nat,True∧e=.returned (.agg #[pfV 216 b,pfV 217 b])∧Ext w_0 w'∧Bl7 b (bxI (wsz word)) (fun k=>w_0.heap.size≤k) w':=by
 refine zN (args:=[.int .i64 (wsz word:Nat)]) Tryz.func215 M 6 M (Kh M)<|Z1 0 M<|Z0<|zX<|zZ<|zA .none M (yQ M M) fun b1=>Zt (z:=Jd) (cs:=Jn) M fun b2=>ZX<|zZ<|ZF M (wX M M)<|ZF M (wX M M)<|ZF M (Zb [.nilFunc,.nilFunc] [(0,1),(1,1)] M)<|ZR 0 M<|ZT<|zK<|yS M M 0 M U108 M (by kernel_rfl) fun w hw=>⟨b1,trivial,rfl,(Kk hw).ext,⟨HpG.mineL (j:=1) hw M id,HpG.blkL (j:=1) hw rfl⟩⟩
end Go.Proofs.YtkaepknpplhgkaaGreatDoor
namespace Go.Proofs.YtkaepknpplhgkaaGreatDoor
open Go.RowKit
def AsT (w:World):Prop:=Lib.TabIs Tryz.prog w "strings.asciiSpace" .u8 Lib.asciiSpaceTab
noncomputable def asG:Nat:=(Tryz.prog.globalNamed "strings.asciiSpace").getD 0
theorem asG_is:Tryz.prog.globalNamed "strings.asciiSpace"=some asG:=by kernel_rfl
theorem AsT.foot {w w':World}(h:AsT w) (hk:w'.heap[asG]? = w.heap[asG]?):AsT w':=by
 unfold AsT Lib.TabIs World.var? at h ⊢;rw[asG_is] at h ⊢;simp only[Option.bind_some] at h ⊢;rw[hk];exact h
theorem AsT.lt {w:World}(h:AsT w):asG<w.heap.size:=by
 unfold AsT Lib.TabIs World.var? at h;rw[asG_is] at h;simp only[Option.bind_some] at h;rcases Nat.lt_or_ge asG w.heap.size with h'|h';exact h';rw[Array.getElem?_eq_none h'] at h;cases h
abbrev uV (l:List Bs):Obj:=bk 9 (l.map fun x=>.string ⟨x.toArray⟩)
theorem flds_any (s:Bs) (l:List Bs) (h:Lib.fields s=l) (hs:s.length≤10000) (ha:s.all (fun c=>decide (c.toNat<128))=true) (w:World) (ht:AsT w):Calls Tryz.prog 149 #[.string ⟨s.toArray⟩] w fun e w'=>∃b:Nat,True∧e=.returned (.slice (some ⟨b,0,none⟩) l.length l.length)∧Ext w w'∧Bl7 b (uV l) (fun k=>w.heap.size≤k) w':=by
 refine (Tryz.strings_Fields_laid ⟨s.toArray⟩ w (by show s.toArray.size<_;simp;omega) (fun j b hj=>?_) ht).mono fun e w' ⟨h1,h2⟩=>?_;exact Ki (List.all_eq_true.1 ha b (Ko hj));have e1:Lib.fields (⟨s.toArray⟩:ByteArray).data.toList=l:=h;rw[e1] at h1 h2;refine⟨w.heap.size,trivial,h1,by rw[h2];exact Ext.alloc (Ext.refl w) _,Ae _,?_⟩;rw[h2];show (w.heap.push _)[w.heap.size]? = _;rw[Array.getElem?_push_size]
theorem goesF:goes Tryz.prog 149=true:=by kernel_rfl
theorem asStart {w:World}(h:AsT w):Jy w [] [] AsT w:=Hp.start ⟨fun k=>k=asG,fun k hk=>(by subst hk;exact⟨h.lt,id⟩),fun u hu=>h.foot (hu _ rfl)⟩
def NmPost (l:List Bs) (w:World) (e:Ending) (w':World):Prop:=∃b:Nat,True∧e=.returned (.slice (some ⟨b,0,none⟩) l.length l.length)∧Ext w w'∧Bl7 b (uV l) (fun k=>w.heap.size≤k) w'
theorem none_nm (w_0:World) (ht:AsT w_0):Calls Tryz.prog 62 #[] w_0 (NmPost noneL w_0):=by
 refine zN (args:=[]) Tryz.func62 M 2 M (Kh M)<|yJ (.nil)<|zG (H':=Jy w_0 [] [] AsT) (fun u hu=>?_) ?_;subst hu;exact asStart ht;refine zX<|zZ<|Za M M<|ZX<|zZ<|yI (ι:=Nat) (C:=fun _=>True) (val:=fun b=>.slice (some ⟨b,0,none⟩) (noneL:List Bs).length (noneL:List Bs).length) (TT:=fun b=>Bl7 b (uV noneL)) .none M  goesF M (fun _ h=>h.elim) (fun _=>Bl7.lies) (fun w hw=>flds_any _ noneL (by kernel_rfl) (by decide) (by decide) w (HpG.x hw)) (fun b F _ hF=>?_);refine Za M M<|ZU M M fun w hw=>⟨b,trivial,rfl,(Kk hw).ext,hF _ (HpG.x hw).1.1,(HpG.x hw).1.2⟩
theorem single_nm (w_0:World) (ht:AsT w_0):Calls Tryz.prog 63 #[] w_0 (NmPost singL w_0):=by
 refine zN (args:=[]) Tryz.func63 M 2 M (Kh M)<|yJ (.nil)<|zG (H':=Jy w_0 [] [] AsT) (fun u hu=>?_) ?_;subst hu;exact asStart ht;refine zX<|zZ<|Za M M<|ZX<|zZ<|yI (ι:=Nat) (C:=fun _=>True) (val:=fun b=>.slice (some ⟨b,0,none⟩) (singL:List Bs).length (singL:List Bs).length) (TT:=fun b=>Bl7 b (uV singL)) .none M  goesF M (fun _ h=>h.elim) (fun _=>Bl7.lies) (fun w hw=>flds_any _ singL (by kernel_rfl) (by decide) (by decide) w (HpG.x hw)) (fun b F _ hF=>?_);refine Za M M<|ZU M M fun w hw=>⟨b,trivial,rfl,(Kk hw).ext,hF _ (HpG.x hw).1.1,(HpG.x hw).1.2⟩
theorem arith_nm (w_0:World) (ht:AsT w_0):Calls Tryz.prog 64 #[] w_0 (NmPost ariL w_0):=by
 refine zN (args:=[]) Tryz.func64 M 2 M (Kh M)<|yJ (.nil)<|zG (H':=Jy w_0 [] [] AsT) (fun u hu=>?_) ?_;subst hu;exact asStart ht;refine zX<|zZ<|Za M M<|ZX<|zZ<|yI (ι:=Nat) (C:=fun _=>True) (val:=fun b=>.slice (some ⟨b,0,none⟩) (ariL:List Bs).length (ariL:List Bs).length) (TT:=fun b=>Bl7 b (uV ariL)) .none M  goesF M (fun _ h=>h.elim) (fun _=>Bl7.lies) (fun w hw=>flds_any _ ariL (by kernel_rfl) (by decide) (by decide) w (HpG.x hw)) (fun b F _ hF=>?_);refine Za M M<|ZU M M fun w hw=>⟨b,trivial,rfl,(Kk hw).ext,hF _ (HpG.x hw).1.1,(HpG.x hw).1.2⟩
theorem access_nm (w_0:World) (ht:AsT w_0):Calls Tryz.prog 66 #[] w_0 (NmPost accL w_0):=by
 refine zN (args:=[]) Tryz.func66 M 2 M (Kh M)<|yJ (.nil)<|zG (H':=Jy w_0 [] [] AsT) (fun u hu=>?_) ?_;subst hu;exact asStart ht;refine zX<|zZ<|Za M M<|ZX<|zZ<|yI (ι:=Nat) (C:=fun _=>True) (val:=fun b=>.slice (some ⟨b,0,none⟩) (accL:List Bs).length (accL:List Bs).length) (TT:=fun b=>Bl7 b (uV accL)) .none M  goesF M (fun _ h=>h.elim) (fun _=>Bl7.lies) (fun w hw=>flds_any _ accL (by kernel_rfl) (by decide) (by decide) w (HpG.x hw)) (fun b F _ hF=>?_);refine Za M M<|ZU M M fun w hw=>⟨b,trivial,rfl,(Kk hw).ext,hF _ (HpG.x hw).1.1,(HpG.x hw).1.2⟩
theorem cnames_any (w_0:World):Calls Tryz.prog 151 #[] w_0 fun e w'=>e=.returned (.agg (wO.map fun x=>.string ⟨x.toArray⟩).toArray)∧Ext w_0 w':=by
 refine zN (args:=[]) Tryz.func151 M 2 M (Kh M)<|yJ (.nil)<|Z0<|zX<|zZ<|Zt (z:=.agg #[.string ⟨#[]⟩,.string ⟨#[]⟩,.string ⟨#[]⟩,.string ⟨#[]⟩,.string ⟨#[]⟩,.string ⟨#[]⟩,.string ⟨#[]⟩,.string ⟨#[]⟩,.string ⟨#[]⟩,.string ⟨#[]⟩,.string ⟨#[]⟩,.string ⟨#[]⟩,.string ⟨#[]⟩,.string ⟨#[]⟩]) (cs:=Jq) M fun b0=>ZX<|zZ<|ZF M (wM (cells:=(wO.map fun x=>.string ⟨x.toArray⟩).toArray) M (by kernel_rfl)) ?_;refine ZR 0 M<|ZT<|zK<|yS M M 0 M Tryz.underlying44 M (by kernel_rfl) fun w hw=>⟨rfl,(Kk hw).ext⟩
theorem cname_any (cc:Nat) (hc:cc<14) (w_0:World):Calls Tryz.prog 69 #[.int .i64 cc] w_0 fun e w'=>e=.returned (.string ⟨(wO.getD cc []).toArray⟩)∧Ext w_0 w':=by
 obtain⟨x,hx⟩:∃x,wO[cc]? = some x:=⟨wO[cc]'(by have:wO.length=14:=rfl;omega),Kn _⟩;have hg:wO.getD cc []=x:=by rw[Ku,hx];rfl
 rw[hg];refine zN (args:=[.int .i64 cc]) Tryz.func69 M 14 M (Kh M)<|Z1 0 M<|Z0<|zX<|zZ<|Za M M<|ZX<|zZ<|Zu (v:=.agg (wO.map fun x=>.string ⟨x.toArray⟩).toArray) M (fun w hw=>cnames_any w) ?_;refine Zt (z:=.agg #[.string ⟨#[]⟩,.string ⟨#[]⟩,.string ⟨#[]⟩,.string ⟨#[]⟩,.string ⟨#[]⟩,.string ⟨#[]⟩,.string ⟨#[]⟩,.string ⟨#[]⟩,.string ⟨#[]⟩,.string ⟨#[]⟩,.string ⟨#[]⟩,.string ⟨#[]⟩,.string ⟨#[]⟩,.string ⟨#[]⟩]) (cs:=Jq) M fun b3=>ZR 0 M<|ZX<|zX<|Z3r 0 2 3 M<|Zm M M<|ZF M (yR M M)<|Zm M M<|zQ 7 M (fun g3=>?_) (fun g3=>?_)
 ·replace g3:=Ki g3;exact absurd g3 (by omega)
 replace g3:=Kj g3;refine Zv M<|ZG M M M (yC M M)<|Zf M<|ZT<|zT M (fun h10=>?_) (fun h10=>?_)
 ·replace h10:=Ki h10;omega
 replace h10:=Kj h10;refine zR<|zV<|zX<|Z4r 0 2 3 10 M<|Zm M M<|ZF M (Zj (j:=cc) (es:=1) (len:=14) M M Tryz.underlying44 M (by omega) M) ?_;refine ZF M (zL M U9 M (fun w hw=>HpG.cell (k:=0) (cs:=wO.map fun x=>.string ⟨x.toArray⟩) hw M (by rw[List.getElem?_map,Ac,Nat.mul_one,hx];rfl))) ?_;refine Za M M<|ZU M M fun w hw=>⟨rfl,(Kk hw).ext⟩
end Go.Proofs.YtkaepknpplhgkaaGreatDoor
namespace Go.Proofs.YtkaepknpplhgkaaGreatDoor
open Go.RowKit
section
variable {P:Program}{ops:Array Oper}{Q:Exit→Act→World→Prop}{n:Fr}{m:List (Nat×Value)}{ty:TypeId}{G B:Nat→Prop}{w0:World}{L:List (Nat×Obj)}{R:List Rw}{X:World→Prop}{rest:List Oper}{d:Nat}{pos:String}{af:Array Edge}{gd:Option (Nat×Bool)}
theorem uZ {ι:Type}{C:ι→Prop}{x:Operand}{f:FuncId}{args:List Operand}{ats:Array TypeId}{us vs cs:List Value}{val:ι→Value}{TT:ι→(Nat→Prop)→World→Prop}(hg:Gd ops m gd) (hd:Nat.blt d n=true) (hf:goes P f=true) (hx:ev m x=some (.func (.func f) us.toArray cs.toArray)) (ha:evl m args=some vs) (hB:∀k,B k→k<w0.heap.size) (hT:∀i,Lies (TT i))
  (hC:∀w,Hp B w0 L R X w→Calls P f (us++vs++cs).toArray w fun e w'=>∃i,C i∧e=.returned (val i)∧Ext w w'∧TT i (fun k=>w.heap.size≤k) w')
  (h:∀i F,C i→(∀k,F k→w0.heap.size≤k)→WL P ops Q rest n ((d,val i)::m) (Hp B w0 L R (fun u=>TT i F u∧X u))):WL P ops Q (⟨some d,.call { callee:=.value x,args:=args.toArray,argTypes:=ats },ty,pos,af,gd⟩::rest) n m (Hp B w0 L R X) :=
 xY (ι:={i:ι×(Nat→Prop) // C i.1∧∀k,i.2 k→w0.heap.size≤k}) (val:=fun i=>val i.1.1) (H':=fun i=>Hp B w0 L R (fun u=>TT i.1.1 i.1.2 u∧X u)) hg hd
  (pN hf hx ha fun w hw=>(hC w hw).mono fun _ w' ⟨i,c,e1,e2,e4⟩=>by
   obtain⟨F,hF,hp⟩:=Hp.callT0 (hT i) hw hB e2 e4
   exact⟨_,e1,⟨⟨i,F⟩,c,hF⟩,rfl,hp⟩) fun i=>h i.1.1 i.1.2 i.2.1 i.2.2
theorem uG {x y z:Operand}{T K E:TypeId}{g:Nat}{tab:List (Bs×Value)}{key:Bs}{v:Value}(k:Nat) (hx:ev m x=some (.map (some g))) (hy:ev m y=some (.string ⟨key.toArray⟩)) (hz:ev m z=some v) (hk:L[k]? = some (g,wH tab)) (hT:P.underlying T=some (.map K E)) (hK:P.underlying K=some .string) (hf:wB key tab=none) :
  CF P (.mapUpdate T x y z) ty n m (HpG G B w0 L R X) (fun _:Unit=>undef) (fun _=>HpG G B w0 (L.set k (g,wH (tab++[(key,v)]))) R X):=fun a w d pos af gd hs hw=>by
 have hr:=hw.own _ (Ko hk);dsimp only at hr;have hrun:=run_updateS (v:=v) hT hK hr hf;have h2:=MapKept.heap_set (o':=wH (tab++[(key,v)])) hr
 have hex:(execOp a.eval ⟨d,.mapUpdate T x y z,ty,pos,af,gd⟩).run P w=.ok .skip { w with heap:=w.heap.setIfInBounds g (wH (tab++[(key,v)])) }:=by
  simp[execOp,hs.ev hx,hs.ev hy,hs.ev hz,hrun,Result.andThen]
 show Ch _ _ _ _ _;unfold Ch;rw[hex];exact⟨(),rfl,hw.turn hk ⟨rfl,rfl,rfl,by simp,fun j _ hne=>h2.2 j hne⟩ h2.1⟩
end
abbrev fmG (v:Value×Value):Value:=.agg #[v.1,v.2]
def wC:List (Bs×AFm)→List (Value×Value)→List (Bs×Value)
 | p::l,v::vs=>(p.1,fmG v)::wC l vs
 | _,_=>[]
theorem tabV_snoc {p:Bs×AFm}{v:Value×Value}:∀{l:List (Bs×AFm)}{vs:List (Value×Value)},vs.length=l.length→wC (l++[p]) (vs++[v])=wC l vs++[(p.1,fmG v)]
 | [],[],_=>rfl
 | _::l,_::vs,h=>by
  show _::wC (l++[p]) (vs++[v])=_::(wC l vs++_);rw[tabV_snoc (by simpa using h)]
 | [],_::_,h=>by cases h
 | _::_,[],h=>by cases h
theorem tabV_none {key:Bs}:∀{l:List (Bs×AFm)}{vs:List (Value×Value)},(∀p∈l,key≠p.1)→wB key (wC l vs)=none
 | [],_,_=>rfl
 | _::_,[],_=>rfl
 | p::l,v::vs,h=>by
  show (if key=p.1 then _ else _)=_;rw[Ag (h p (Ks ..))];exact tabV_none fun q hq=>h q (Ky _ hq)
structure TabX (l:List (Bs×AFm)) (vs:List (Value×Value)) (F:Nat→Prop) (w:World):Prop where
 len:vs.length=l.length
 all:∀(i:Nat) (f:Bs×AFm) (v:Value×Value),l[i]? = some f→vs[i]? = some v→qS f.2 v.1 v.2 F w
theorem TabX.lies {l:List (Bs×AFm)}{vs:List (Value×Value)}:Lies (TabX l vs):=⟨fun hk h=>⟨h.len,fun i f v h1 h2=>qS.lies.foot hk (h.all i f v h1 h2)⟩,fun h=>⟨h.len,fun i f v h1 h2=>qS.lies.lt (h.all i f v h1 h2)⟩,fun hF h=>⟨h.len,fun i f v h1 h2=>qS.lies.mono hF (h.all i f v h1 h2)⟩⟩
theorem TabX.nil {F:Nat→Prop}{w:World}:TabX [] [] F w:=⟨rfl,fun _ _ _ h=>by cases h⟩
theorem TabX.snoc {l:List (Bs×AFm)}{vs:List (Value×Value)}{F:Nat→Prop}{w:World}{p:Bs×AFm}{v:Value×Value}(h:TabX l vs F w) (hf:qS p.2 v.1 v.2 F w):TabX (l++[p]) (vs++[v]) F w :=
 ⟨by simp[h.len],fun i f u h1 h2=>by
  rcases Nat.lt_trichotomy i l.length with hi|hi|hi
  ·rw[List.getElem?_append_left hi] at h1;rw[List.getElem?_append_left (by rw[h.len];exact hi)] at h2;exact h.all i f u h1 h2
  ·subst hi;rw[List.getElem?_append_right (Ae _),Nat.sub_self] at h1;rw[List.getElem?_append_right (by rw[h.len];exact Ae _),h.len,Nat.sub_self] at h2;cases h1;cases h2;exact hf
  rw[List.getElem?_eq_none (by simp;omega)] at h1;cases h1⟩
theorem TabX.look {F:Nat→Prop}{w:World}(key:Bs):∀{l:List (Bs×AFm)}{vs:List (Value×Value)},TabX l vs F w→match wR key l with
  | some f=>∃v,wB key (wC l vs)=some (fmG v)∧qS f v.1 v.2 F w
  | none=>wB key (wC l vs)=none
 | [],_,_=>rfl
 | _::_,[],h=>by cases h.len
 | p::l,v::vs,h=>by
  obtain⟨k,f⟩:=p;have ih:=TabX.look key (l:=l) (vs:=vs) ⟨by simpa using h.len,fun i f u h1 h2=>h.all (i+1) f u h1 h2⟩;have e:wB key (wC ((k,f)::l) (v::vs))=if key=k then some (fmG v) else wB key (wC l vs):=rfl;rw[e]
  by_cases hk:key=k
  ·rw[wR,Ah hk,Ah hk];exact⟨v,rfl,h.all 0 (k,f) v M rfl⟩
  rw[wR,Ag hk,Ag hk];exact ih
theorem nodup_next {l:List (Bs×AFm)}(hn:(l.map (·.1)).Nodup) {j:Nat}{p:Bs×AFm}(h:l[j]? = some p):∀q∈l.take j,p.1≠q.1:=by
 intro q hq e;obtain⟨i,hi,hv⟩:=List.getElem_of_mem hq;rw[Aa] at hi;rw[List.getElem_take] at hv;obtain⟨h1,h2⟩:=Kg.1 h;have:=List.pairwise_iff_getElem.1 hn i j (by rw[Ak];omega) (by rw[Ak];exact h1) (by omega);apply this;rw[List.getElem_map,List.getElem_map,hv,h2,e]
theorem take_snoc {α:Type}{l:List α}{j:Nat}{p:α}(h:l[j]? = some p):l.take (j+1)=l.take j++[p]:=by
 rw[List.take_add_one,h];rfl
theorem fmsK_nodup:(xS.map (·.1)).Nodup:=by decide
end Go.Proofs.YtkaepknpplhgkaaGreatDoor
