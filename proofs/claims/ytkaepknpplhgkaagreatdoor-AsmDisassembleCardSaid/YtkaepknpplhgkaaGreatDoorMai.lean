import Derived.Test.YtkaepknpplhgkaaGreatDoorMah
import Derived.Test.YtkaepknpplhgkaaGreatDoorMac
import Derived.Test.YtkaepknpplhgkaaGreatDoorMaa
import Derived.Test.YtkaepknpplhgkaaGreatDoorMad
import Derived.Test.YtkaepknpplhgkaaGreatDoorMaX
import Derived.Test.YtkaepknpplhgkaaGreatDoorMaW
import Derived.Test.YtkaepknpplhgkaaGreatDoorMaf
set_option maxRecDepth 100000
set_option maxHeartbeats 4000000
namespace Go.Proofs.YtkaepknpplhgkaaGreatDoor
open Go.RowKit
section
variable {P:Program}{n:Fr}{m:List (Nat×Value)}{ty:TypeId}{G B:Nat→Prop}{w0 w:World}{L:List (Nat×Obj)}{R:List Rw}{X J:World→Prop}{Q:Exit→Act→World→Prop}{ops:Array Oper}{σ:List Nat}
theorem wd_callVF {d:Nat}{pos:String}{af:Array Edge}{gd:Option (Nat×Bool)}{x:Operand}{f:FuncId}{args:List Operand}{ats:Array TypeId}{us vs cs:List Value}{v:Value}(hg:Gd ops m gd) (hd:Nat.blt d n=true) (hx:ev m x=some (.func (.func f) us.toArray cs.toArray)) (hf:goes P f=true) (ha:evl m args=some vs)
  (hJ:∀w w',J w→Ext w w'→J w')
  (hC:∀w,HpG G B w0 L R X w→Calls P f (us++vs++cs).toArray w fun e w'=>e=.returned v∧Ext w w')
  (h:WD P ops J Q σ G n ((d,v)::m) (HpG G B w0 L R X)):WDo P ops J Q ⟨some d,.call { callee:=.value x,args:=args.toArray,argTypes:=ats },ty,pos,af,gd⟩ σ G n m (HpG G B w0 L R X) :=
 wd_chain (ι:=Unit) (val:=fun _=>v) (H':=fun _=>HpG G B w0 L R X) rfl (fun _ _ e=>by cases e) hg hd (fun _=>HpG.stab)
  (fun _ w _ _ _ _ hs hw hj=>(oG hs hf hx ha ((hC w hw).mono fun _ _ ⟨e1,e2⟩=>⟨_,e1,rfl,e2⟩)).mono
   (R:=fun v' w'=>v'=v∧Ext w w') fun _ w' ⟨e1,e2⟩=>⟨Keep.of_ext e2,hJ w w' hj e2,(),e1,hw.onE e2⟩) fun _=>h
end
theorem fdv (n p:Nat):((n:Int).fdiv (2 ^ p))=((n/2 ^ p:Nat):Int):=by
 rw[Int.fdiv_eq_ediv_of_nonneg _ (Int.le_of_lt (by have:0<(2:Int) ^ p:=Int.pow_pos (by decide);exact this))];simp
abbrev bxW (w:Nat):Obj:=bk 22 [.int .u32 w]
def fldW (w at_:Nat) (u:Bool):Nat:=if u then w/2 ^ at_%16 else 0
theorem fldW_any (u:Bool) (k:Nat) (hk:k≤22) (v:Nat) (hv:v<4294967296) (b:Nat) (w_0:World) (hb:Blk b (bxW v) w_0):Calls Tryz.prog 163 #[.bool u,.int .i64 k,.pointer (some ⟨b,0,none⟩)] w_0 fun e w'=>e=.returned (.int .i64 (fldW v k u:Nat))∧Ext w_0 w':=by
 unfold fldW
 have e1:((v:Int).fdiv (2 ^ (min (k:Int).toNat IntKind.u32.bits)))=((v/2 ^ k:Nat):Int):=by
  rw[show min (k:Int).toNat IntKind.u32.bits=k by have:IntKind.u32.bits=32:=rfl;omega,fdv]
 have e2:((v/2 ^ k:Nat):Int).tmod 16=((v/2 ^ k%16:Nat):Int):=by rw[Int.tmod_eq_emod_of_nonneg (Int.natCast_nonneg _)];simp
 refine zH (args:=[.bool u,.int .i64 k,.pointer (some ⟨b,0,none⟩)]) Tryz.func163 M 13 M (Kc M)<|Z3 0 1 2 M M M<|zR (H':=Hp (fun _=>False) w_0 [] [] (Blk b (bxW v))) (fun u hu=>?_) ?_
 ·subst hu;exact Hp.start ⟨fun k=>k=b,fun k hk=>(by subst hk;exact⟨hb.lt,id⟩),fun u hu=>(hu _ M).trans hb⟩
 refine zX<|zZ<|Za M M<|ZX<|zX<|zZ<|Zm M M<|ZF M (xF M)<|ZT<|zW M (fun h7=>?_) (fun h7=>?_)
 ·refine zX<|Z5r 0 1 2 5 7 M M M M M<|Za M M<|ZT<|zQ<|zT<|zO M M (fun w hw=>?_);have h9:u=false:=by simpa using h7
  exact⟨by rw[h9];rfl,hw.ext0⟩
 ·refine zL<|zP<|zX<|Z5r 0 1 2 5 7 M M M M M<|ZF M (zD M U22 M (fun w hw=>Blk.cell (o:=0) (v:=.int .u32 v) (HpG.x hw) M)) ?_;refine Zm rfl rfl<|ZF rfl (yf_shr rfl rfl (by first|decide|omega) e1) ?_;refine ZF rfl (rX rfl rfl (by first|decide|omega) e2) ?_
  refine ZF M (yQ M (by kernel_rfl) U3 (wK (by omega))) ?_
  refine Za M M<|ZT<|zQ<|zO M M (fun w hw=>?_);have h9:u=true:=by simpa using h7
  exact⟨by rw[h9];rfl,hw.ext0⟩
def mkS (v:Nat) (q:SQ):QI:=⟨(v/67108864:Nat),(fldW v 22 q.d:Nat),(fldW v 18 q.a:Nat),(fldW v 14 q.b:Nat),if q.kind=1 then sxL (v%2 ^ q.bits) q.bits else v%2 ^ q.bits⟩
abbrev qi0:QI:=⟨0,0,0,0,0⟩
theorem decQ_eq (v:Nat):decQ v=if tI (mkS v (xD ((v/67108864:Nat):Int)))=some v then some (mkS v (xD ((v/67108864:Nat):Int))) else none:=by
 unfold decQ
 cases hs:sW ((v/67108864:Nat):Int) with
 | none =>
  have:tI (mkS v (xD ((v/67108864:Nat):Int)))=none:=by unfold tI;rw[show (mkS v (xD ((v/67108864:Nat):Int))).op=((v/67108864:Nat):Int) from rfl,hs]
  rw[this];rfl
 | some s =>
  have e:mkS v (xD ((v/67108864:Nat):Int))=mkQ v s:=by
   unfold xD mkS mkQ;rw[hs];dsimp only;unfold fldW;cases s.d<;>cases s.a<;>cases s.b<;>rfl
  rw[e]
def DqPost (v:Nat) (w:World) (e:Ending) (w':World):Prop:=Ext w w'∧e=.returned (match decQ v with
 | some i=>.tuple #[.agg (qiC i).toArray,.int .i64 0]
 | none=>.tuple #[.agg (qiC qi0).toArray,.int .i64 12])
theorem mkS_imm (v:Nat) (q:SQ) (hq:SqOk q):(mkS v q).imm<4294967296:=by
 have h1:v%2 ^ q.bits<2 ^ q.bits:=Nat.mod_lt _ (Nat.pow_pos (by omega));show (if q.kind=1 then sxL (v%2 ^ q.bits) q.bits else v%2 ^ q.bits)<_
 split
 ·next h=>exact sxL_lt (by have:=hq.k h;have:=hq.b;unfold BitA;omega)
 ·rcases hq.b with h|h|h<;>rw[h] at h1 ⊢<;>omega
theorem qdecode_any (v:Nat) (hv:v<4294967296) (w_0:World):Calls Tryz.prog 92 #[.int .u32 v] w_0 (DqPost v w_0):=by
 unfold DqPost;rw[decQ_eq v];have hq:=sqOf_ok ((v/67108864:Nat):Int);have ho:=fun w=>of_any ((v/67108864:Nat):Int) w;generalize xD ((v/67108864:Nat):Int)=q at hq ho ⊢;have him:=mkS_imm v q hq;have hbits:=hq.b
 have e1:((v:Int).fdiv (2 ^ (min (26:Int).toNat IntKind.u32.bits)))=((v/67108864:Nat):Int):=by
  rw[show min (26:Int).toNat IntKind.u32.bits=26 from rfl,fdv]
 have e5:=mask_w (n:=v) (b:=q.bits) hv (by omega);have hmb:v%2 ^ q.bits<4294967296:=Nat.lt_of_le_of_lt (Nat.mod_le _ _) hv;refine zH (args:=[.int .u32 v]) Tryz.func92 M 62 M (Kc M)<|Z1 0 M<|zR (H':=Hp (fun _=>False) w_0 [] [] (fun _=>True)) (fun u hu=>?_) ?_
 ·subst hu;exact Hp.start0
 refine zX<|zZ<|zC .none M (yF M M) (fun b1=>?_);refine zC .none M (yS (z:=Jf) (cs:=Jp) (by kernel_rfl) M) (fun b2=>?_);refine Za rfl rfl<|ZX<|zZ<|ZF rfl (zV 1 rfl rfl rfl U22 rfl)<|ZF rfl (yf_shr rfl rfl (by first|decide|omega) e1) ?_
 refine ZF M (yQ M (by kernel_rfl) U3 (wK (by omega))) ?_
 refine ZF M (yT [.int .i64 0,.int .i64 0,.int .i64 0,.int .i64 0,.int .u32 0] [(0,1),(1,1),(2,1),(3,1),(4,1)] M (by kernel_rfl) (by kernel_rfl) M) ?_;refine zC .none M (yS (z:=Jf) (cs:=Jp) (by kernel_rfl) M) (fun b4=>?_);refine ZR 0 M M M M M (by kernel_rfl) ?_;refine ZX<|Z5r 0 1 2 3 4 M M M M M<|ZF M (Y74x0 M) ?_;refine ZF M (zV 0 M M M U3 M)<|zE .none M  (v:=.agg (sqC q).toArray) (by kernel_rfl) M (fun w hw=>ho w) ?_;refine zC .none M (yS (z:=Je) (cs:=Jo) (by kernel_rfl) M) (fun b5=>?_);refine ZR 0 M M M M M (by kernel_rfl) ?_;refine ZX<|Z6r 0 1 2 3 4 5 M M M M M M<|ZF M (xB M M)<|Za M M<|ZX<|Z7 0 1 2 3 4 5 6 M M M M M M M<|rW 13 [0,1,2,3,4,5,6,7,8,9,10,11,12] (fun w=>Blk b1 (bxW v) w∧Blk b5 (bk 212 (sqC q)) w) (by kernel_rfl) (by kernel_rfl) (fun u ob h=>⟨Blk.stab u ob h.1,Blk.stab u ob h.2⟩) (fun w h=>⟨HpG.blk h (k:=3) rfl,HpG.blk h (k:=0) rfl⟩) (fun n0 hn0=>?_);refine Zd M M M (zK M)<|Zd M M M (zY (off:=1) (sz:=0) M U212 (by kernel_rfl) M) ?_;refine Zd M M M (zD M U4 M (fun w hw=>Blk.cell hw.2 M)) ?_;refine wU M<|wd_callVF (us:=[]) (vs:=[.bool q.d,.int .i64 22]) (cs:=[.pointer (some ⟨b1,0,none⟩)]) (v:=.int .i64 (fldW v 22 q.d:Nat)) .none M  M (by kernel_rfl) M (fun _ _ h hx=>⟨Blk.onE h.1 hx,Blk.onE h.2 hx⟩) (fun w hw=>fldW_any q.d 22 (by decide) v hv b1 w (HpG.blk hw (k:=3) M)) ?_;refine Zd M M M (zK M)<|Zd M M M (zY (off:=2) (sz:=0) M U212 (by kernel_rfl) M) ?_;refine Zd M M M (zD M U4 M (fun w hw=>Blk.cell hw.2 M)) ?_;refine wU M<|wd_callVF (us:=[]) (vs:=[.bool q.a,.int .i64 18]) (cs:=[.pointer (some ⟨b1,0,none⟩)]) (v:=.int .i64 (fldW v 18 q.a:Nat)) .none M  M (by kernel_rfl) M (fun _ _ h hx=>⟨Blk.onE h.1 hx,Blk.onE h.2 hx⟩) (fun w hw=>fldW_any q.a 18 (by decide) v hv b1 w (HpG.blk hw (k:=3) M)) ?_;refine Zd M M M (zK M)<|Zd M M M (zY (off:=3) (sz:=0) M U212 (by kernel_rfl) M) ?_;refine Zd M M M (zD M U4 M (fun w hw=>Blk.cell hw.2 M)) ?_;refine wU M<|wd_callVF (us:=[]) (vs:=[.bool q.b,.int .i64 14]) (cs:=[.pointer (some ⟨b1,0,none⟩)]) (v:=.int .i64 (fldW v 14 q.b:Nat)) .none M  M (by kernel_rfl) M (fun _ _ h hx=>⟨Blk.onE h.1 hx,Blk.onE h.2 hx⟩) (fun w hw=>fldW_any q.b 14 (by decide) v hv b1 w (HpG.blk hw (k:=3) M)) ?_;refine Zd M M M (Y74x1 M) ?_;refine qD ?_;simp only[Kp,Kt];refine ZS 1 M M M M M (by kernel_rfl) ?_;refine ZF M (Y74x2 M) ?_
 refine ZS 1 M M M M M (by kernel_rfl) ?_;refine ZF M (Y74x3 M) ?_;refine ZS 1 M M M M M (by kernel_rfl) ?_;refine ZX<|Z7 0 1 2 3 4 5 6 M M M M M M M<|wc_still 7 (by kernel_rfl) (by kernel_rfl) (fun _ h=>HpG.drew h) ?_;refine yI .none M (zV 3 M M M U22 M)<|yI .none M (Y212x5 M) ?_;refine yI .none rfl (zV 0 rfl rfl rfl U3 rfl)<|yI .none rfl (uM rfl rfl (by first|decide|omega) rfl) ?_;refine yI .none M (xV M M M)<|yI .none M (yf_and M M e5)<|yI .none M (Y74x4 M) ?_;refine wt_tail<|ZS 1 M M M M M (by kernel_rfl) ?_;refine ZX<|zX<|Z7r 0 1 2 3 4 5 6 M M M M M M M<|ZF M (zY (off:=4) (sz:=0) M U212 (by kernel_rfl) M) ?_;refine ZF M (zV 0 M M M U3 M)<|ZF M (yY M M)<|ZT<|zW M (fun h41=>?_) (fun h41=>?_)
 ·replace h41:=Km h41;have hi:mkS v q=⟨(v/67108864:Nat),(fldW v 22 q.d:Nat),(fldW v 18 q.a:Nat),(fldW v 14 q.b:Nat),sxL (v%2 ^ q.bits) q.bits⟩:=by unfold mkS;rw[Ae (by omega)]
  rw[hi] at him ⊢;have hqe:=fun w=>qencode_any ⟨(v/67108864:Nat),(fldW v 22 q.d:Nat),(fldW v 18 q.a:Nat),(fldW v 14 q.b:Nat),sxL (v%2 ^ q.bits) q.bits⟩ him w;obtain⟨vd,hvd⟩:∃x,x=wQ ⟨(v/67108864:Nat),(fldW v 22 q.d:Nat),(fldW v 18 q.a:Nat),(fldW v 14 q.b:Nat),sxL (v%2 ^ q.bits) q.bits⟩:=⟨_,rfl⟩;unfold wQ at hvd;obtain⟨en,hen⟩:∃x,x=tI ⟨(v/67108864:Nat),(fldW v 22 q.d:Nat),(fldW v 18 q.a:Nat),(fldW v 14 q.b:Nat),sxL (v%2 ^ q.bits) q.bits⟩:=⟨_,rfl⟩;unfold wQ at hqe;rw[← hen] at hvd ⊢;simp only[← hen,← hvd] at hqe;refine Z8r 0 1 2 3 4 5 6 41 M M M M M M M M<|ZF M (Y74x4 M) ?_;refine ZF M (zV 1 M M M U22 M)<|ZF M (Y212x5 M) ?_;refine ZF M (zV 0 M M M U3 M)<|zE .none M  (v:=.int .u32 (sxL (v%2 ^ q.bits) q.bits)) (by kernel_rfl) M (fun w hw=>sign_any (v%2 ^ q.bits) q.bits hmb (by have:=hq.k (by omega);unfold BitA;omega) w) ?_;refine ZF M (Y74x4 M) ?_;refine ZS 1 M M M M M (by kernel_rfl) ?_;refine ZX<|zX<|Z8r 0 1 2 3 4 5 6 41 M M M M M M M M<|ZF M (yU 1 M M U74 M (by kernel_rfl)) ?_;refine zE .none M  (by kernel_rfl) M (fun w hw=>hqe w) ?_;refine Zm M M<|ZF M (yX M M)<|ZF M (yX M M)<|Za M M<|Za M M<|ZX<|Z10r 0 1 2 3 4 5 6 7 8 41 M M M M M M M M M M<|Zm M M<|ZF M (vW M M)<|Zm M M<|zF 55 M (fun g3=>?_) (fun g3=>?_)
  ·replace g3:=wE g3;refine ZP M<|ZP M<|ZP M<|ZF M (zJ M M)<|ZT<|uA M<|zX<|Z11r 0 1 2 3 4 5 6 7 8 41 59 M M M M M M M M M M M<|ZF M (yT [.int .i64 0,.int .i64 0,.int .i64 0,.int .i64 0,.int .u32 0] [(0,1),(1,1),(2,1),(3,1),(4,1)] M (by kernel_rfl) (by kernel_rfl) M) ?_;refine ZR 2 M M M M M (by kernel_rfl) ?_;refine Za M M<|ZT<|zQ<|zT<|vM M M M 2 M Tryz.underlying74 M (by kernel_rfl) (fun w hw=>?_)
   have h9:en=none:=by cases en with
    | none=>rfl
    | some x=>rw[show vd=true from hvd,Ae rfl] at g3;exact absurd M g3
   exact⟨hw.ext0,by rw[h9];rfl⟩
  ·replace g3:=uY g3;refine ZG M M M (zK M)<|ZG M M M (zV 3 M M M U22 M)<|ZG M M M (vW M M)<|ZF M (zM M M)<|ZT<|zW M (fun h59=>?_) (fun h59=>?_)
   ·replace h59:=wE h59;refine zX<|Z11r 0 1 2 3 4 5 6 7 8 41 59 M M M M M M M M M M M<|ZF M (yT [.int .i64 0,.int .i64 0,.int .i64 0,.int .i64 0,.int .u32 0] [(0,1),(1,1),(2,1),(3,1),(4,1)] M (by kernel_rfl) (by kernel_rfl) M) ?_;refine ZR 2 M M M M M (by kernel_rfl) ?_;refine Za M M<|ZT<|zQ<|zT<|vM M M M 2 M Tryz.underlying74 M (by kernel_rfl) (fun w hw=>?_);have h9:en≠some v:=fun e=>by rw[e] at h59;exact h59 rfl
    exact⟨hw.ext0,by rw[Ad h9];rfl⟩
   ·replace h59:=uY h59;refine zL<|zP<|zX<|Z11r 0 1 2 3 4 5 6 7 8 41 59 M M M M M M M M M M M<|ZF M (yU 1 M M U74 M (by kernel_rfl)) ?_;refine ZR 2 M M M M M (by kernel_rfl) ?_;refine Za M M<|ZT<|zQ<|vM M M M 2 M Tryz.underlying74 M (by kernel_rfl) (fun w hw=>?_)
    have h9:en=some v:=by cases en with
     | none=>rw[show vd=false from hvd] at g3;cases g3
     | some x=>rw[Int.ofNat_inj.1 (show ((x:Nat):Int)=v from h59)]
    exact⟨hw.ext0,by rw[Ae h9];rfl⟩
 ·replace h41:=yR h41;have hi:mkS v q=⟨(v/67108864:Nat),(fldW v 22 q.d:Nat),(fldW v 18 q.a:Nat),(fldW v 14 q.b:Nat),v%2 ^ q.bits⟩:=by unfold mkS;rw[Ad (by omega)]
  rw[hi] at him ⊢;have hqe:=fun w=>qencode_any ⟨(v/67108864:Nat),(fldW v 22 q.d:Nat),(fldW v 18 q.a:Nat),(fldW v 14 q.b:Nat),v%2 ^ q.bits⟩ him w;obtain⟨vd,hvd⟩:∃x,x=wQ ⟨(v/67108864:Nat),(fldW v 22 q.d:Nat),(fldW v 18 q.a:Nat),(fldW v 14 q.b:Nat),v%2 ^ q.bits⟩:=⟨_,rfl⟩;unfold wQ at hvd;obtain⟨en,hen⟩:∃x,x=tI ⟨(v/67108864:Nat),(fldW v 22 q.d:Nat),(fldW v 18 q.a:Nat),(fldW v 14 q.b:Nat),v%2 ^ q.bits⟩:=⟨_,rfl⟩;unfold wQ at hqe;rw[← hen] at hvd ⊢;simp only[← hen,← hvd] at hqe;refine zL<|zP<|zX<|zX<|Z8r 0 1 2 3 4 5 6 41 M M M M M M M M<|ZF M (yU 1 M M U74 M (by kernel_rfl)) ?_;refine zE .none M  (by kernel_rfl) M (fun w hw=>hqe w) ?_;refine Zm M M<|ZF M (yX M M)<|ZF M (yX M M)<|Za M M<|Za M M<|ZX<|Z10r 0 1 2 3 4 5 6 7 8 41 M M M M M M M M M M<|Zm M M<|ZF M (vW M M)<|Zm M M<|zF 55 M (fun g3=>?_) (fun g3=>?_)
  ·replace g3:=wE g3;refine ZP M<|ZP M<|ZP M<|ZF M (zJ M M)<|ZT<|uA M<|zX<|Z11r 0 1 2 3 4 5 6 7 8 41 59 M M M M M M M M M M M<|ZF M (yT [.int .i64 0,.int .i64 0,.int .i64 0,.int .i64 0,.int .u32 0] [(0,1),(1,1),(2,1),(3,1),(4,1)] M (by kernel_rfl) (by kernel_rfl) M) ?_;refine ZR 2 M M M M M (by kernel_rfl) ?_;refine Za M M<|ZT<|zQ<|zT<|vM M M M 2 M Tryz.underlying74 M (by kernel_rfl) (fun w hw=>?_)
   have h9:en=none:=by cases en with
    | none=>rfl
    | some x=>rw[show vd=true from hvd,Ae rfl] at g3;exact absurd M g3
   exact⟨hw.ext0,by rw[h9];rfl⟩
  ·replace g3:=uY g3;refine ZG M M M (zK M)<|ZG M M M (zV 3 M M M U22 M)<|ZG M M M (vW M M)<|ZF M (zM M M)<|ZT<|zW M (fun h59=>?_) (fun h59=>?_)
   ·replace h59:=wE h59;refine zX<|Z11r 0 1 2 3 4 5 6 7 8 41 59 M M M M M M M M M M M<|ZF M (yT [.int .i64 0,.int .i64 0,.int .i64 0,.int .i64 0,.int .u32 0] [(0,1),(1,1),(2,1),(3,1),(4,1)] M (by kernel_rfl) (by kernel_rfl) M) ?_;refine ZR 2 M M M M M (by kernel_rfl) ?_;refine Za M M<|ZT<|zQ<|zT<|vM M M M 2 M Tryz.underlying74 M (by kernel_rfl) (fun w hw=>?_);have h9:en≠some v:=fun e=>by rw[e] at h59;exact h59 rfl
    exact⟨hw.ext0,by rw[Ad h9];rfl⟩
   ·replace h59:=uY h59;refine zL<|zP<|zX<|Z11r 0 1 2 3 4 5 6 7 8 41 59 M M M M M M M M M M M<|ZF M (yU 1 M M U74 M (by kernel_rfl)) ?_;refine ZR 2 M M M M M (by kernel_rfl) ?_;refine Za M M<|ZT<|zQ<|vM M M M 2 M Tryz.underlying74 M (by kernel_rfl) (fun w hw=>?_)
    have h9:en=some v:=by cases en with
     | none=>rw[show vd=false from hvd] at g3;cases g3
     | some x=>rw[Int.ofNat_inj.1 (show ((x:Nat):Int)=v from h59)]
    exact⟨hw.ext0,by rw[Ae h9];rfl⟩
theorem branch_any (op:Int) (w_0:World):Calls Tryz.prog 157 #[.int .i64 op] w_0 fun e w'=>e=.returned (.bool (decide (32≤op∧op≤37)))∧Ext w_0 w':=by
 refine zH (args:=[.int .i64 op]) Tryz.func157 M 9 M (Kc M)<|Z1 0 M<|zR (H':=Hp (fun _=>False) w_0 [] [] (fun _=>True)) (fun u hu=>?_) ?_
 ·subst hu;exact Hp.start0
 refine zX<|zZ<|Za M M<|ZX<|zZ<|Zm M M<|ZF M (xY M M)<|Zm M M<|zF 5 M (fun g3=>?_) (fun g3=>?_)
 ·replace g3:=Ke g3;refine ZG M M M (zK M)<|ZG M M M (xL M M)<|ZF M (zJ M M)<|Za M M<|ZT<|zQ<|zO M M (fun w hw=>?_);exact⟨by congr 2;rw[Ka,Ac,Ac];omega,hw.ext0⟩
 ·replace g3:=Kf g3;refine ZP M<|ZP M<|ZF M (zM M M)<|Za M M<|ZT<|zQ<|zO M M (fun w hw=>?_);exact⟨by rw[Ak (by omega)],hw.ext0⟩
theorem qtarget_any (i:QI) (hi:i.imm<4294967296) (hv:wQ i=true) (hj:rF i.op=true) (a:Nat) (ha:a<4294967296) (w_0:World):Calls Tryz.prog 82 #[.agg (qiC i).toArray,.int .u32 a] w_0 fun e w'=>e=.returned (.tuple #[.int .u32 ((a+4*i.imm)%4294967296:Nat),.bool true])∧Ext w_0 w':=by
 have e1:∀z:Int,IntKind.u32.wrap z=z%4294967296:=fun _=>rfl;have e2:IntKind.u32.wrap ((a:Int)+IntKind.u32.wrap (4*(i.imm:Int)))=((a+4*i.imm)%4294967296:Nat):=by rw[e1,e1];omega
 have hj':i.op=40∨(32≤i.op∧i.op≤37):=by
  unfold rF at hj;simp only[Bool.or_eq_true,Ac] at hj;omega
 refine zH (args:=[.agg (qiC i).toArray,.int .u32 a]) Tryz.func82 M 25 M (Kc M)<|Z2 0 1 M M<|zR (H':=Hp (fun _=>False) w_0 [] [] (fun _=>True)) (fun u hu=>?_) ?_
 ·subst hu;exact Hp.start0
 refine zX<|zZ<|zC .none M (yF M M) (fun b2=>?_);refine Za M M<|Za M M<|ZX<|zX<|zZ<|ZF M (yU 0 M M U74 M (by kernel_rfl)) ?_;refine zE .none M  (v:=.bool true) (by kernel_rfl) M (fun w hw=>(qvalid_any i hi w).mono fun e w' ⟨h1,h2⟩=>⟨by rw[h1,hv],h2⟩) ?_;refine ZF M (xF M)<|Zm M M<|zF 9 M (fun hb=>?_) (fun hb=>?_)
 ·cases hb
 ·refine ZG M M M (Y74x0 M) ?_;refine ZG M M M (zV 0 M M M U3 M)<|ZG M M M (vW M M)<|ZG M M M (zK M)<|zF 13 M (fun g8=>?_) (fun g8=>?_)
  ·replace g8:=wE g8;refine ZG M M M (Y74x0 M) ?_;refine ZG M M M (zV 0 M M M U3 M)<|zE (.some M M) M  (v:=.bool (decide (32≤i.op∧i.op≤37))) (by kernel_rfl) M (fun w hw=>branch_any i.op w) ?_;refine ZG M M M (xF M)<|ZG M M M (zJ M M)<|ZF M (zM M M)<|ZT<|zW M (fun h19=>?_) (fun h19=>?_)
   ·first|(exact absurd h19 (by rw[Aj (show 32≤i.op∧i.op≤37 by omega)];decide))|cases h19
   ·refine zL<|zP<|zX<|Z6r 0 1 2 4 5 19 M M M M M M<|Zm M M<|ZF M (Y74x4 M) ?_;refine ZF M (zV 0 M M M U22 M)<|ZF M (sY M M M)<|ZF M (yO M M e2)<|Za M M<|Za M M<|ZT<|zQ<|uU M M M (fun w hw=>?_);exact⟨rfl,hw.ext0⟩
  ·replace g8:=uY g8;refine ZP M<|ZP M<|ZP M<|ZP M<|ZG M M M (zM M M)<|ZF M (zM M M)<|ZT<|wM M<|zL<|zP<|zX<|Z6r 0 1 2 4 5 19 M M M M M M<|Zm M M<|ZF M (Y74x4 M) ?_;refine ZF M (zV 0 M M M U22 M)<|ZF M (sY M M M)<|ZF M (yO M M e2)<|Za M M<|Za M M<|ZT<|zQ<|uU M M M (fun w hw=>?_);exact⟨rfl,hw.ext0⟩
end Go.Proofs.YtkaepknpplhgkaaGreatDoor
namespace Go.Proofs.YtkaepknpplhgkaaGreatDoor
open Go.RowKit
section
variable {P:Program}{n:Fr}{m:List (Nat×Value)}{ty:TypeId}
theorem yf_lookupV {ik:IntKind}{H:World→Prop}{x y:Operand}{T K E:TypeId}{g c:Nat}{es:Array MapEntry}{key:Int}{z:Value}{r:Option (Nat×Value)}(hx:ev m x=some (.map (some g))) (hy:ev m y=some (.int ik key)) (hr:∀w,H w→w.heap[g]? = some (.map es c)) (hT:P.underlying T=some (.map K E)) (hK:P.underlying K=some (.int ik)) (hz:∀w,(zeroValue E).run P w=.ok z w) (hf:Instr.findNow (.int ik) (.int ik key) es.toList 0=some r) :
  YF P (.lookup T x y false) ty n m H ((r.map (·.2)).getD z):=fun a w d pos af gd hs hw=>by
 have hc:(Instr.checkKey es.isEmpty 10000 K (.int ik key)).run P w=.ok () w:=MapKept.run_checkKey (k:=.int ik key) hK (by simp[MapKept.IsKey]) _ 9999
 have hl:(Instr.lookup T (.map (some g)) (.int ik key) false).run P w=.ok ((r.map (·.2)).getD z) w:=by
  cases r with
  | none=>simp[Instr.lookup,run_underlying hT,MapKept.run_getObj_map (hr w hw),hc,MapKept.run_findKey hK hf,hz,Result.andThen]
  | some v=>simp[Instr.lookup,run_underlying hT,MapKept.run_getObj_map (hr w hw),hc,MapKept.run_findKey hK hf,Result.andThen]
 simp[Yl,execOp,hs.ev hx,hs.ev hy,hl]
theorem nf_bs0F {t e:TypeId}{size:Nat}(ht:P.underlying t=some (.slice e)) (hs':(P.info? e).map (·.size)=some size):NF P (.buildSlice t 0 #[]) ty n m (bk e []) (fun g=>.slice (some ⟨g,0,none⟩) 0 0):=by
 intro a w d pos af g hs
 cases hq:P.info? e with
 | none=>simp[hq] at hs'
 | some i =>
  have:(Instr.buildSlice t 0 #[]).run P w=.ok (.slice (some ⟨w.heap.size,0,none⟩) 0 0) (w.alloc (bk e [])):=by
   simp[Instr.buildSlice,run_underlying ht,sizeOf,typeInfo,hq,newRow,Instr.fill];rw[show Array.range 0=#[] from Array.ext (by simp) (by simp),Array.map_empty]
  simp[execOp,this]
end
theorem findQ (key:Nat):∀(l:List (Nat×Bs)) (i j:Nat),∃n,Instr.findNow (.int .i64) (.int .i64 (key:Int)) ((l.zipIdx i).map fun p=>{ key:=.int .i64 p.1.1,val:=.string ⟨p.1.2.toArray⟩,born:=p.2 }) j=some ((l.find? fun p=>Nat.beq p.1 key).map fun p=>(n,.string ⟨p.2.toArray⟩))
 | [],_,_=>⟨0,rfl⟩
 | (k,x)::l,i,j=>by
  simp only[List.zipIdx_cons,Af,Instr.findNow,same_int,List.find?_cons]
  by_cases h:k=key
  ·subst h;exact⟨j,by rw[Aj rfl,show Nat.beq k k=true from Nat.beq_refl k];rfl⟩
  ·obtain⟨n,hn⟩:=findQ key l (i+1) (j+1);refine⟨n,?_⟩;rw[Ak (by omega),show Nat.beq k key=false from Bool.eq_false_iff.2 fun e=>h (Nat.eq_of_beq_eq_true e)];exact hn
theorem qnm_look (op:Nat):∃r,Instr.findNow (.int .i64) (.int .i64 (op:Int)) (mapNE rG).toArray.toList 0=some r∧(r.map (·.2)).getD (.string ⟨#[]⟩)=.string ⟨(wC op).toArray⟩:=by
 obtain⟨n,hn⟩:=findQ op rG 0 0;refine⟨_,hn,?_⟩;unfold wC;cases rG.find? fun p=>Nat.beq p.1 op<;>rfl
theorem zero_str:∀w:World,(zeroValue 9).run Tryz.prog w=.ok (.string ⟨#[]⟩) w:=fun w=>by kernel_rfl
theorem join_jo:∀l:List Bs,Lib.join l [44,32]=joB l
 | []=>rfl
 | [x]=>by simp[Lib.join,joB]
 | x::y::r=>by
  have ih:=join_jo (y::r);unfold Lib.join at ih ⊢;show _=x++[44,32]++joB (y::r);rw[← ih];simp[List.intercalate,List.intersperse]
abbrev strV (l:List Bs):List Value:=l.map fun x=>.string ⟨x.toArray⟩
theorem join_row {w0 w:World}{L:List (Nat×Obj)}{R:List Rw}{X:World→Prop}{k b n cap:Nat}{l:List Bs}(h:Hp (fun _=>False) w0 L R X w) (hk:R[k]? = some ⟨.slice (some ⟨b,0,none⟩) n cap,9,1,n,strV l⟩) (hn:l.length=n) (hN:n≤1000000000) (hl:(joB l).length≤100000000000) :
  Calls Tryz.prog 86 #[.slice (some ⟨b,0,none⟩) n cap,.string ⟨#[44,32]⟩] w fun e w'=>e=.returned (.string ⟨(joB l).toArray⟩)∧Ext w w':=by
 subst hn;obtain⟨rest,hb⟩:=HpG.rowBlock h hk;have hcp:=HpG.rowCp h hk;have hm:(l.map fun x=>(⟨x.toArray⟩:ByteArray)).map (·.data.toList)=l:=by rw[List.map_map];exact (List.map_congr_left fun x _=>rfl).trans (List.map_id l)
 have:=Tryz.strings_Join b 0 cap (l.map fun x=>⟨x.toArray⟩) ⟨#[44,32]⟩ w (fun j x hj=>?_) (Kl.1 hb).1 (by rw[Ag];omega) (by rw[Ag];exact hcp.1) (by rw[hm];show (Lib.join l [44,32]).length≤_;rw[join_jo];omega)
 ·rw[hm,Ag] at this;refine this.mono fun e w' ⟨h1,h2⟩=>⟨?_,h2⟩;rw[h1,← join_jo]
 ·rw[List.getElem?_map] at hj
  cases hlj:l[j]? with
  | none=>rw[hlj] at hj;cases hj
  | some s =>
   rw[hlj] at hj;cases hj;refine Blk.cell hb ?_;rw[Kz,List.getElem?_append_left (by rw[Ag];exact (Kb.1 hlj).1),List.getElem?_map,hlj];rfl
end Go.Proofs.YtkaepknpplhgkaaGreatDoor
namespace Go.Proofs.YtkaepknpplhgkaaGreatDoor
open Go.RowKit
def NoSp (s:Bs):Prop:=∃y c,s=y++[c]∧c≠32
theorem NoSp.pre {s:Bs}(t:Bs) (h:NoSp s):NoSp (t++s):=by
 obtain⟨y,c,rfl,hc⟩:=h;exact⟨t++y,c,(Kr ..).symm,hc⟩
theorem dec_nosp (n:Nat):NoSp (Lib.decDigits n):=by
 obtain⟨h1,_,h3⟩:=dec_all (n+1) n (by omega);refine⟨_,_,(List.dropLast_concat_getLast h3).symm,fun e=>?_⟩;have:=h1 _ (List.getLast_mem h3);rw[e] at this;exact absurd this (by decide)
theorem prtQ_nosp (i:QI) (a:Nat) (c:UInt8) (k:Nat):NoSp (oO i a c k):=by
 unfold oO
 split
 ·exact (dec_nosp _).pre [114]
 ·split
  ·unfold sB
   split
   ·exact dec_nosp _
   ·split
    ·exact dec_nosp _
    ·unfold uK
     split
     ·exact (dec_nosp _).pre [45]
     ·exact dec_nosp _
  ·exact⟨_,93,rfl,by decide⟩
theorem joB_nosp:∀{l:List Bs},l≠[]→(∀x∈l,NoSp x)→NoSp (joB l)
 | [],h,_=>absurd rfl h
 | [x],_,h=>h x (by simp)
 | x::y::r,_,h=>(joB_nosp (l:=y::r) (by simp) fun z hz=>h z (Kv _ hz)).pre (x++[44,32])
theorem prtsQ_nosp (i:QI) (a:Nat):∀(l:List UInt8) (k:Nat),∀x∈tD i a l k,NoSp x
 | [],_,_,h=>nomatch h
 | c::l,k,x,h=>by
  rcases List.mem_cons.1 h with rfl|h
  ·exact prtQ_nosp i a c k
  ·exact prtsQ_nosp i a l (k+1) x h
theorem trim_sp (s:Bs):Lib.trimSuffix (s++[32]) [32]=s:=by
 unfold Lib.trimSuffix Lib.hasSuffix;simp
theorem trim_no {s:Bs}(h:NoSp s):Lib.trimSuffix s [32]=s:=by
 obtain⟨y,c,rfl,hc⟩:=h;unfold Lib.trimSuffix Lib.hasSuffix;simp[hc,Ne.symm hc]
theorem lnQ_trim (i:QI) (a:Nat):Lib.trimSuffix (wC i.op.toNat++[32]++joB (tD i a (wF i.op.toNat) 0)) [32]=lnQ i a:=by
 unfold lnQ
 by_cases h:wF i.op.toNat=[]
 ·rw[Ae h,h];show Lib.trimSuffix (wC i.op.toNat++[32]++[]) [32]=_;rw[Ah,trim_sp]
 ·rw[Ad h];refine trim_no ((joB_nosp ?_ (prtsQ_nosp i a _ 0)).pre _)
  cases hs:wF i.op.toNat with
  | nil=>exact absurd hs h
  | cons c r=>intro e;cases e
theorem trimS_any (s:Bs) (hs:s.length≤1000000) (w:World):Calls Tryz.prog 84 #[.string ⟨s.toArray⟩,.string ⟨#[32]⟩] w fun e w'=>e=.returned (.string ⟨(Lib.trimSuffix s [32]).toArray⟩)∧Ext w w' :=
 (Tryz.strings_TrimSuffix ⟨s.toArray⟩ ⟨#[32]⟩ w (by show s.toArray.size≤_;rw[List.size_toArray];omega)).mono fun _ _ ⟨h1,h2⟩=>⟨h1,h2▸Ext.refl _⟩
theorem prtsQ_at {i:QI}{a:Nat}:∀{l:List UInt8}{k p:Nat}{c:UInt8},l[p]? = some c→(tD i a l k)[p]? = some (oO i a c (k+p))
 | [],_,_,_,h=>by cases h
 | x::l,k,0,c,h=>by cases h;rfl
 | x::l,k,p+1,c,h=>by
  have:=prtsQ_at (i:=i) (a:=a) (l:=l) (k:=k+1) (p:=p) h;rw[show k+(p+1)=k+1+p by omega];exact this
theorem shq_in {op:Nat}{p:Nat}{c:UInt8}(h:(wF op)[p]? = some c):c=114∨c=118∨c=109:=by
 have hm:=Kk h
 have:∀x∈wF op,x=114∨x=118∨x=109:=by
  unfold wF
  repeat' split
  all_goals decide
 exact this c hm
theorem shq_reg {op:Nat}{p:Nat}(h:p<(wF op).length):p+wL op<3:=by
 unfold wL;have h3:=shqL_le op
 split
 ·next hq =>
  rcases hq with hq|hq
  ·have:op=52:=by omega
   subst this;have:(wF 52).length=1:=rfl;omega
  ·have:op=54:=by omega
   subst this;have:(wF 54).length=2:=rfl;omega
 ·omega
def lnQV (i:QI) (a:Nat):Bs:=if wQ i=true then lnQ i a else []
theorem regs_at (i:QI) {p:Nat}(h:p+wL i.op<3):([.int .i64 i.d,.int .i64 i.a,.int .i64 i.b]:List Value)[wL i.op+p]? = some (.int .i64 ((qS i).getD p 0)):=by
 unfold qS;unfold wL at h ⊢
 split
 ·next hq =>
  rw[Ae hq] at h;have:p=0∨p=1:=by omega
  rcases this with rfl|rfl<;>rfl
 ·next hq =>
  rw[Ad hq] at h;have:p=0∨p=1∨p=2:=by omega
  rcases this with rfl|rfl|rfl<;>rfl
theorem vq_rng {i:QI}(h:VQ i):(0≤i.op∧i.op<64)∧(0≤i.d∧i.d<16)∧(0≤i.a∧i.a<16)∧(0≤i.b∧i.b<16):=by
 cases h<;>dsimp only<;>omega
end Go.Proofs.YtkaepknpplhgkaaGreatDoor
namespace Go.Proofs.YtkaepknpplhgkaaGreatDoor
open Go.RowKit
theorem lineQ_any (i:QI) (hi:i.imm<4294967296) (a:Nat) (ha:a<4294967296) (w_0:World) (hK:WOk w_0):Calls Tryz.prog 33 #[.agg (qiC i).toArray,.int .u32 a] w_0 fun e w'=>e=.returned (.string ⟨(lnQV i a).toArray⟩)∧Ext w_0 w':=by
 unfold lnQV
 cases hv:wQ i with
 | false =>
  refine zH (args:=[.agg (qiC i).toArray,.int .u32 a]) Tryz.func33 M 113 M (Kc M)<|Z2 0 1 M M<|zR (H':=Hp (fun _=>False) w_0 [] [] (fun _=>True)) (fun u hu=>?_) ?_
  ·subst hu;exact Hp.start0
  refine zX<|zZ<|zC .none M (yF M M) (fun b2=>?_);refine Za M M<|ZX<|zX<|zZ<|ZF M (yU 0 M M U74 M (by kernel_rfl)) ?_;refine zE .none M  (v:=.bool false) (by kernel_rfl) M (fun w hw=>(qvalid_any i hi w).mono fun e w' ⟨h1,h2⟩=>⟨by rw[h1,hv],h2⟩) ?_;refine ZF M (xF M)<|ZT<|zW M (fun hc=>?_) (fun hc=>?_)
  ·refine zX<|Z5r 0 1 2 4 14 M M M M M<|Za M M<|ZT<|zQ<|zT<|zO M M (fun w hw=>?_);exact⟨rfl,hw.ext0⟩
  ·cases hc
 | true =>
  have hvq:=vQ_of hi hv;obtain⟨⟨ho0,ho1⟩,⟨hd0,hd1⟩,⟨ha0,ha1⟩,hb0,hb1⟩:=vq_rng hvq;have hsm:=vq_sm hvq;have hil:=sgnB_len hi;have hop:((i.op.toNat:Nat):Int)=i.op:=Ao ho0;have hqo:wL (i.op.toNat:Nat)=wL i.op:=by rw[hop]
  obtain⟨S,hS⟩:∃S,S=wF i.op.toNat:=⟨_,rfl⟩;have hS3:S.length≤3:=by rw[hS];exact shqL_le _
  obtain⟨hpn,hpl⟩:=prtsQ_len hsm a S 0;have hpt:=fun p c (h:S[p]? = some c)=>prtsQ_at (i:=i) (a:=a) (k:=0) h;obtain⟨T,hT⟩:∃T,T=tD i a S 0:=⟨_,rfl⟩;rw[← hT] at hpn hpl hpt;have hjl:(joB T).length≤100:=by have:=joB_len hpl;omega
  have htr:=lnQ_trim i a;rw[← hS,← hT] at htr;have hnl:=qnmL_len i.op.toNat;have hral:(rgB i.a).length≤3:=qL (by omega);have hol:(uO i.imm).length≤11:=offB_len hi;obtain⟨mr,hm1,hm2⟩:=qnm_look i.op.toNat;rw[hop] at hm1
  have hr15:∀k,0≤(qS i).getD k 0∧(qS i).getD k 0<16:=by
   intro k;unfold qS
   split
   ·match k with
    | 0=>exact⟨ha0,ha1⟩
    | 1=>exact⟨hb0,hb1⟩
    | k+2=>exact⟨Int.le_refl 0,(by decide:(0:Int)<16)⟩
   ·match k with
    | 0=>exact⟨hd0,hd1⟩
    | 1=>exact⟨ha0,ha1⟩
    | 2=>exact⟨hb0,hb1⟩
    | k+3=>exact⟨Int.le_refl 0,(by decide:(0:Int)<16)⟩
  rw[Ae rfl];refine zH (args:=[.agg (qiC i).toArray,.int .u32 a]) Tryz.func33 M 113 M (Kc M)<|Z2 0 1 M M<|zR (H':=Hp (fun _=>False) w_0 [] [] (fun _=>True)) (fun u hu=>?_) ?_
  ·subst hu;exact Hp.start0
  refine zX<|zZ<|zC .none M (yF M M) (fun b2=>?_);refine Za M M<|ZX<|zX<|zZ<|ZF M (yU 0 M M U74 M (by kernel_rfl)) ?_;refine zE .none M  (v:=.bool true) (by kernel_rfl) M (fun w hw=>(qvalid_any i hi w).mono fun e w' ⟨h1,h2⟩=>⟨by rw[h1,hv],h2⟩) ?_;refine ZF M (xF M)<|ZT<|zW M (fun hc=>?_) (fun hc=>?_)
  ·cases hc
  ·refine zL<|zP<|zX<|Z5r 0 1 2 4 14 M M M M M<|ZF M (Y74x4 M) ?_;refine ZF M (zV 0 M M M U22 M)<|zE .none M  (v:=.string ⟨(uK i.imm).toArray⟩) (by kernel_rfl) M (fun w hw=>pG i.imm hi w (hK.tb.ext hw.ext0)) ?_;refine Za M M<|ZT<|yN (ι:=Unit) (fun _=>[(1,.int .u32 a),(2,.pointer (some ⟨b2,0,none⟩)),(5,.string ⟨(sB i a).toArray⟩)]) (fun _=>Hp (fun _=>False) w_0 [(b2,qiO i)] [] (fun _=>True)) ?_ (fun _=>?_)
   ·refine yV<|zX<|Z6r 0 1 2 4 5 14 M M M M M M<|ZF M (Y74x0 M) ?_;refine ZF M (zV 0 M M M U3 M)<|zE .none M  (v:=.bool (rF i.op)) (by kernel_rfl) M (fun w hw=>jumps_any i.op w) ?_;refine Za M M<|ZT<|zW M (fun h18=>?_) (fun h18=>?_)
    ·refine zX<|Z7r 0 1 2 4 5 14 18 M M M M M M M<|ZF M (yU 0 M M U74 M (by kernel_rfl)) ?_;refine Zm M M<|zE .none M  (by kernel_rfl) M (fun w hw=>qtarget_any i hi hv h18 a ha w) ?_;refine Zm M M<|ZF M (yX M M)<|ZF M (yX M M)<|Za M M<|Za M M<|ZT<|Z8r 0 1 2 4 5 6 14 18 M M M M M M M M<|Zm M M<|zE .none M  (v:=.string ⟨(Lib.decDigits ((a+4*i.imm)%4294967296)).toArray⟩) (by kernel_rfl) M (fun w hw=>uR _ (Nat.mod_lt _ (by decide)) w (hK.tb.ext hw.ext0)) ?_;exact Za rfl rfl<|zI<|yW<|zU (ι:=Unit) () (.cons rfl<|.cons rfl<|.consE rfl (by unfold sB;first|rw[Ae h18]|(rw[Ad (by rw[h18];decide)];first|rw[Ae (by omega)]|rw[Ad (by omega)]))<|.nil) Jv
    ·refine zX<|Z7r 0 1 2 4 5 14 18 M M M M M M M<|ZF M (Y74x0 M) ?_;refine ZF M (zV 0 M M M U3 M)<|ZF M (xY M M)<|Zm M M<|zF 34 M (fun g4=>?_) (fun g4=>?_)
     ·replace g4:=Ke g4;refine ZG M M M (Y74x0 M) ?_;refine ZG M M M (zV 0 M M M U3 M)<|ZG M M M (xL M M)<|ZF M (zJ M M)<|Zm M M<|zF 39 M (fun g9=>?_) (fun g9=>?_)
      ·replace g9:=Ke g9;refine ZP M<|ZP M<|ZP M<|ZF M (zJ M M)<|Za M M<|ZT<|uA M<|Z8r 0 1 2 4 5 14 18 30 M M M M M M M M<|ZF M (Y74x4 M) ?_;refine ZF M (zV 0 M M M U22 M)<|zE .none M  (v:=.string ⟨(Lib.decDigits i.imm).toArray⟩) (by kernel_rfl) M (fun w hw=>uR i.imm hi w (hK.tb.ext hw.ext0)) ?_;exact Za rfl rfl<|zI<|yW<|zU (ι:=Unit) () (.cons rfl<|.cons rfl<|.consE rfl (by unfold sB;first|rw[Ae h18]|(rw[Ad (by rw[h18];decide)];first|rw[Ae (by omega)]|rw[Ad (by omega)]))<|.nil) Jv
      ·replace g9:=Kf g9;refine ZG M M M (Y74x0 M) ?_;refine ZG M M M (zV 0 M M M U3 M)<|ZG M M M (xY M M)<|ZF M (zM M M)<|Za M M<|ZT<|zW M (fun h30=>?_) (fun h30=>?_)
       ·replace h30:=Ke h30;refine Z8r 0 1 2 4 5 14 18 30 M M M M M M M M<|ZF M (Y74x4 M) ?_;refine ZF M (zV 0 M M M U22 M)<|zE .none M  (v:=.string ⟨(Lib.decDigits i.imm).toArray⟩) (by kernel_rfl) M (fun w hw=>uR i.imm hi w (hK.tb.ext hw.ext0)) ?_;exact Za rfl rfl<|zI<|yW<|zU (ι:=Unit) () (.cons rfl<|.cons rfl<|.consE rfl (by unfold sB;first|rw[Ae h18]|(rw[Ad (by rw[h18];decide)];first|rw[Ae (by omega)]|rw[Ad (by omega)]))<|.nil) Jv
       ·replace h30:=Kf h30;exact zL<|yW<|zU (ι:=Unit) () (.cons rfl<|.cons rfl<|.consE rfl (by unfold sB;first|rw[Ae h18]|(rw[Ad (by rw[h18];decide)];first|rw[Ae (by omega)]|rw[Ad (by omega)]))<|.nil) Jv
     ·replace g4:=Kf g4;refine ZP M<|ZP M<|ZP M<|ZF M (zM M M)<|Zm M M<|ZG M M M (Y74x0 M) ?_;refine ZG M M M (zV 0 M M M U3 M)<|ZG M M M (xY M M)<|ZF M (zM M M)<|Za M M<|ZT<|zW M (fun h30=>?_) (fun h30=>?_)
      ·replace h30:=Ke h30;refine Z8r 0 1 2 4 5 14 18 30 M M M M M M M M<|ZF M (Y74x4 M) ?_;refine ZF M (zV 0 M M M U22 M)<|zE .none M  (v:=.string ⟨(Lib.decDigits i.imm).toArray⟩) (by kernel_rfl) M (fun w hw=>uR i.imm hi w (hK.tb.ext hw.ext0)) ?_;exact Za rfl rfl<|zI<|yW<|zU (ι:=Unit) () (.cons rfl<|.cons rfl<|.consE rfl (by unfold sB;first|rw[Ae h18]|(rw[Ad (by rw[h18];decide)];first|rw[Ae (by omega)]|rw[Ad (by omega)]))<|.nil) Jv
      ·replace h30:=Kf h30;exact zL<|yW<|zU (ι:=Unit) () (.cons rfl<|.cons rfl<|.consE rfl (by unfold sB;first|rw[Ae h18]|(rw[Ad (by rw[h18];decide)];first|rw[Ae (by omega)]|rw[Ad (by omega)]))<|.nil) Jv
   ·refine zX<|zZ<|zC .none M  (nf_bs0F (size:=1) Tryz.underlying59 (by kernel_rfl)) (fun b47=>?_);refine Za M M<|ZX<|Z4r 1 2 5 8 M M M M<|ZF M (Y74x1 M) ?_;refine ZF M (zV 1 M M M U3 M)<|ZF M (Y74x2 M) ?_;refine ZF M (zV 1 M M M U3 M)<|ZF M (Y74x3 M) ?_;refine ZF M (zV 1 M M M U3 M)<|zC .none M (tR (z:=.int .i64 0) M M M M U111 (by kernel_rfl) (by kernel_rfl) M M) (fun b54=>?_);refine Za M M<|ZT<|yN (ι:=Unit) (fun _=>[(1,.int .u32 a),(2,.pointer (some ⟨b2,0,none⟩)),(5,.string ⟨(sB i a).toArray⟩),(8,.slice (some ⟨b47,0,none⟩) 0 0),(9,.slice (some ⟨b54,wL i.op,none⟩) (3-wL i.op) (3-wL i.op))]) (fun _=>Hp (fun _=>False) w_0 [(b54,bk 3 [.int .i64 i.d,.int .i64 i.a,.int .i64 i.b]),(b47,bk 9 []),(b2,qiO i)] [] (fun _=>True)) ?_ (fun _=>?_)
    ·refine yN (ι:=Unit) (fun _=>[(1,.int .u32 a),(2,.pointer (some ⟨b2,0,none⟩)),(5,.string ⟨(sB i a).toArray⟩),(8,.slice (some ⟨b47,0,none⟩) 0 0),(9,.slice (some ⟨b54,0,none⟩) 3 3),(62,.bool (decide (i.op=52∨i.op=54)))]) (fun _=>Hp (fun _=>False) w_0 [(b54,bk 3 [.int .i64 i.d,.int .i64 i.a,.int .i64 i.b]),(b47,bk 9 []),(b2,qiO i)] [] (fun _=>True)) ?_ (fun _=>?_)
     ·refine Z5r 1 2 5 8 9 M M M M M<|ZF M (Y74x0 M) ?_;refine ZF M (zV 2 M M M U3 M)<|ZF M (yY M M)<|Zm M M<|zF 58 M (fun g4=>?_) (fun g4=>?_)
      ·replace g4:=Km g4;exact ZP M<|ZP M<|ZP M<|ZF M (zJ M M)<|zI<|zU (ι:=Unit) () (.cons M<|.cons M<|.cons M<|.cons M<|.cons M<|.consE M (by rw[Aj (show i.op=52∨i.op=54 by omega)])<|.nil) Jv
      ·replace g4:=yR g4;refine ZG M M M (Y74x0 M) ?_;exact ZG M M M (zV 2 M M M U3 M)<|ZG M M M (yY M M)<|ZF M (zM M M)<|zI<|zU (ι:=Unit) () (.cons M<|.cons M<|.cons M<|.cons M<|.cons M<|.consE M (by congr 1;rw[Ka,Ai,Ac];omega)<|.nil) Jv
     ·refine zW M (fun h62=>?_) (fun h62=>?_)
      ·replace h62:=Ke h62;refine zZ<|Zm M M<|ZF M (yf_sliceLo (i:=1) (size:=1) M M Tryz.underlying111 (by kernel_rfl) M (by decide)) ?_;exact Za M M<|zI<|zU (ι:=Unit) () (.cons M<|.cons M<|.cons M<|.cons M<|.consE M (by unfold wL;rw[Ae h62];rfl)<|.nil) Jv
      ·replace h62:=Kf h62;exact zL<|zU (ι:=Unit) () (.cons M<|.cons M<|.cons M<|.cons M<|.consE M (by unfold wL;rw[Ad h62])<|.nil) Jv
    ·refine zX<|zX<|zZ<|ZF M (Y74x0 M) ?_;refine ZF M (zV 2 M M M U3 M) ?_
     refine zE .none M  (v:=.string ⟨S.toArray⟩) (by kernel_rfl) M (fun w hw=>by
      have:=shapeQ_any i.op.toNat (by omega) w
      rw[hop,← hS] at this;exact this) ?_
     refine wl_range .none M  M Tryz.underlying9 (fun bi=>?_);refine ZT<|yV<|xO (ι:={j:Nat×(Nat×Nat) // j.1≤S.length∧j.1≤j.2.2}) (fun j=>[(2,.pointer (some ⟨b2,0,none⟩)),(5,.string ⟨(sB i a).toArray⟩),(8,.slice (some ⟨j.1.2.1,0,none⟩) j.1.1 j.1.2.2),(9,.slice (some ⟨b54,wL i.op,none⟩) (3-wL i.op) (3-wL i.op)),(68,.pointer (some ⟨bi,0,none⟩))]) (fun j=>Hp (fun _=>False) w_0 [(bi,.stringIter ⟨S.toArray⟩ j.1.1),(b54,bk 3 [.int .i64 i.d,.int .i64 i.a,.int .i64 i.b]),(b2,qiO i)] [⟨.slice (some ⟨j.1.2.1,0,none⟩) j.1.1 j.1.2.2,9,1,j.1.1,strV (T.take j.1.1)⟩] (fun _=>True)) (fun j=>S.length-j.1.1) ⟨(0,(b47,0)),Aa _,Ab _⟩ ?_ ?_ (fun j=>?_)
     ·exact .cons M<|.cons M<|.cons M<|.cons M<|.cons M<|.nil
     ·exact fun w h=>Hp.toRow (k:=0) (Hp.swapL h (List.perm_middle (l₁:=[_,_]))) (HpG.old h (k:=2) M) M (by decide)
     obtain⟨⟨p,bj,cap⟩,hp,hcap⟩:=j;dsimp only at hp hcap ⊢;refine zX<|zZ<|wl_next 0 .none M  M M<|ZF M (yX M (nextV0 ⟨S.toArray⟩ p))<|ZX ?_;skip;refine zW M (fun hlt=>?_) (fun hlt=>?_)
     ·have hlt:=Ke hlt;have hlt':p<S.length:=by simpa [ByteArray.size] using hlt
      obtain⟨c,hc⟩:∃c,S[p]? = some c:=⟨S[p],Kj hlt'⟩;have hcin:=shq_in (by rw[hS] at hc;exact hc);have hca:c.toNat<128:=by rcases hcin with rfl|rfl|rfl<;>decide
      have hnx:nextP ⟨S.toArray⟩ p=p+1:=by unfold nextP;rw[Ae hlt,decode_list hc hca]
      have hqp:=shq_reg (p:=p) (by rw[← hS];exact hlt');rw[hqo] at hqp;have hpc:=hpt p c hc;rw[Kz] at hpc;have htk:T.take (p+1)=T.take p++[oO i a c p]:=take_one hpc;refine zL<|zP<|yV<|zX<|zZ<|ZF M (yX M (nextV1 hlt))<|ZF M ((yX M ((nextV2 hlt).trans (by rw[decode_list hc hca]):_=some (.int .i32 (c.toNat:Nat))))) ?_;refine Za M M<|Za M M<|ZX<|Z9r 2 5 8 9 10 11 68 69 70 M M M M M M M M M<|Zm M M<|ZT<|yV<|zX<|zZ<|ZF M (yY M M)<|Za M M<|ZT<|zW M (fun h74=>?_) (fun h74=>?_)
      ·replace h74:=Km h74;have hc1:c=114:=(sU 114).2 h74;have hpq:oO i a c p=rgB ((qS i).getD p 0):=by rw[hc1];rfl
       have hst:strV (T.take (p+1))=strV (T.take p)++[.string ⟨(rgB ((qS i).getD p 0)).toArray⟩]:=by rw[htk,hpq];simp
       refine Z11r 2 5 8 9 10 11 68 69 70 73 74 M M M M M M M M M M M<|Zm M M<|Zm M M<|Zm M M<|ZF M (zA (j:=p) (es:=1) M M Tryz.underlying111 (by kernel_rfl) M (by omega) M) ?_;refine ZF M (zD M U3 M (fun w hw=>HpG.cell (k:=1) hw M (by rw[Nat.mul_one];exact regs_at i hqp))) ?_;refine zE .none M  (v:=.string ⟨(rgB ((qS i).getD p 0)).toArray⟩) (by kernel_rfl) M (fun w hw=>by have:=hr15 p;exact qA _ this.1 (by omega) w (hK.tb.ext hw.ext0)) ?_;refine zC .none M (wS (z:=Jg) M M U59 (by kernel_rfl) (by kernel_rfl) M M) (fun b82=>?_);refine uJ (z:=Jg) (bytes:=16) 0 0 .none M M M M M U59 (by kernel_rfl) M M M M M (by omega) (by omega) (fun a83 c83 h83=>?_);refine Za M M<|zI<|yW<|yW<|yK (ι:={j:Nat×(Nat×Nat) // j.1≤S.length∧j.1≤j.2.2}) ⟨(p+1,(a83,c83)),hlt',h83⟩ (by show S.length-(p+1)<S.length-p;omega) (O5 M M M M M) (fun w h=>?_);rw[hnx] at h;show Hp _ _ _ [⟨_,_,_,_,strV (T.take (p+1))⟩] _ w;rw[hst];exact Hp.drop h (Ki _ _) (Kh _)
      ·replace h74:=yR h74;refine zX<|Z11r 2 5 8 9 10 11 68 69 70 73 74 M M M M M M M M M M M<|ZF M (yY M M)<|Za M M<|ZT<|zW M (fun h84=>?_) (fun h84=>?_)
       ·replace h84:=Km h84;have hc1:c=118:=(sU 118).2 h84;have hpq:oO i a c p=sB i a:=by rw[hc1];rfl
        have hst:strV (T.take (p+1))=strV (T.take p)++[.string ⟨(sB i a).toArray⟩]:=by rw[htk,hpq];simp
        refine Z12r 2 5 8 9 10 11 68 69 70 73 74 84 M M M M M M M M M M M M<|Zm M M<|Zm M M<|zC .none M (wS (z:=Jg) M M U59 (by kernel_rfl) (by kernel_rfl) M M) (fun b88=>?_);refine uJ (z:=Jg) (bytes:=16) 0 0 .none M M M M M U59 (by kernel_rfl) M M M M M (by omega) (by omega) (fun a89 c89 h89=>?_);refine Za M M<|zI<|yW<|yW<|yK (ι:={j:Nat×(Nat×Nat) // j.1≤S.length∧j.1≤j.2.2}) ⟨(p+1,(a89,c89)),hlt',h89⟩ (by show S.length-(p+1)<S.length-p;omega) (O5 M M M M M) (fun w h=>?_);rw[hnx] at h;show Hp _ _ _ [⟨_,_,_,_,strV (T.take (p+1))⟩] _ w;rw[hst];exact Hp.drop h (Ki _ _) (Kh _)
       ·replace h84:=yR h84;refine zX<|Z12r 2 5 8 9 10 11 68 69 70 73 74 84 M M M M M M M M M M M M<|ZF M (yY M M)<|Za M M<|ZT<|zW M (fun h90=>?_) (fun h90=>?_)
        ·replace h90:=Km h90;have hc1:c=109:=(sU 109).2 h90;have hpq:oO i a c p=[91]++rgB i.a++uO i.imm++[93]:=by rw[hc1];rfl
         have hst:strV (T.take (p+1))=strV (T.take p)++[.string ⟨([91]++rgB i.a++uO i.imm++[93]:Bs).toArray⟩]:=by rw[htk,hpq];simp
         refine Z13 2 5 8 9 10 11 68 69 70 73 74 84 90 M M M M M M M M M M M M M<|rW 11 [0,1,2,3,4,5,6,7,8,9,10] (Blk b2 (qiO i)) (by kernel_rfl) (by kernel_rfl) Blk.stab (fun w h=>HpG.blk h (k:=2) M) (fun n0 hn0=>?_);refine Zd M M M (zK M)<|Zd M M M (Y74x2 M) ?_;refine Zd M M M (zD M U3 M (fun w hw=>Blk.cell hw M)) ?_;refine wU M<|uZ .none M  (v:=.string ⟨(rgB i.a).toArray⟩) (by kernel_rfl) M (fun _ _ h hx=>Blk.onE h hx) (fun w hw=>qA i.a ha0 (by omega) w (hK.tb.ext hw.ext0)) ?_;refine Zd M M M (zN (a:=[91]) M M (by (simp only[Jy,Jz];omega))) ?_;refine Zd M M M (Y74x4 M) ?_;refine Zd M M M (zD M U22 M (fun w hw=>Blk.cell hw M)) ?_;refine wU M<|uZ .none M  (v:=.string ⟨(uO i.imm).toArray⟩) (by kernel_rfl) M (fun _ _ h hx=>Blk.onE h hx) (fun w hw=>offset_any i.imm hi w (hK.tb.ext hw.ext0)) ?_;refine Zd M M M (zN M M (by (simp only[Jx,Jy,Jz];omega))) ?_;refine Zd M M M (zN M M (by (simp only[Jx,Jy,Jz];omega))) ?_;refine wU M<|wd_newH ?_ .none M (fun k hk=>Kn hk hn0) (wS (z:=Jg) M M U59 (by kernel_rfl) (by kernel_rfl) M M) (fun b102 hb102=>?_)
         ·rfl
         refine qD ?_;simp only[Kp,Kt];refine uJ (z:=Jg) (bytes:=16) 0 0 .none M M M M M U59 (by kernel_rfl) M M M M M (by omega) (by omega) (fun a103 c103 h103=>?_);refine Za M M<|zI<|yW<|yW<|yK (ι:={j:Nat×(Nat×Nat) // j.1≤S.length∧j.1≤j.2.2}) ⟨(p+1,(a103,c103)),hlt',h103⟩ (by show S.length-(p+1)<S.length-p;omega) (O5 M M M M M) (fun w h=>?_);rw[hnx] at h;show Hp _ _ _ [⟨_,_,_,_,strV (T.take (p+1))⟩] _ w;rw[hst];exact Hp.drop h (Ki _ _) (Kh _)
        ·replace h90:=yR h90;exact absurd hcin (by rw[sU 114,sU 118,sU 109];exact fun e=>e.elim h74 fun e=>e.elim h84 h90)
     ·have hge:¬p<S.length:=fun h=>absurd hlt (by simp[ByteArray.size,h]);have hpe:p=S.length:=by omega
      have htk:T.take p=T:=List.take_of_length_le (by omega);refine xT<|zB<|zB<|xU<|zP<|zX<|wX (γ:=Nat) [(2,.pointer (some ⟨b2,0,none⟩)),(8,.slice (some ⟨bj,0,none⟩) p cap)] [(0,104,fun g=>.map (some g)),(1,105,fun g=>.pointer (some ⟨b2,0+0,none⟩)),(2,106,fun g=>.int .i64 i.op),(3,107,fun g=>.string ⟨((wC i.op.toNat)).toArray⟩),(4,108,fun g=>.string ⟨((wC i.op.toNat)++([32]:Bs)).toArray⟩),(5,109,fun g=>.slice (some ⟨bj,0,none⟩) p cap),(6,110,fun g=>.string ⟨(joB T).toArray⟩),(7,111,fun g=>.string ⟨((wC i.op.toNat)++([32]:Bs)++joB T).toArray⟩),(8,112,fun g=>.string ⟨(lnQ i a).toArray⟩),(9,4,fun g=>.string ⟨(lnQ i a).toArray⟩)] (fun D g=>fun w=>Hp (fun _=>False) w_0 [(b2,qiO i)] [⟨.slice (some ⟨bj,0,none⟩) p cap,9,1,p,strV T⟩] (fun _=>True) w∧(D 0=true→Blk g (mapN rG) w)) [[],[],[1],[0,2],[3],[],[5],[4,6],[7],[8]] 0 (by kernel_rfl) (by kernel_rfl) (by kernel_rfl) (O2 M M) (fun D w h hw=>⟨Hp.drew (by have h9:=Hp.drop hw (List.Sublist.cons _ (List.Sublist.cons _ (Kh _))) (Kh _);rw[htk] at h9;exact h9),(fun h0=>by rw[h 0 (by decide)] at h0;cases h0)⟩) ⟨?_,?_,?_,?_,?_,?_,?_,?_,?_,?_,trivial⟩ (fun g=>?_)
      ·intro D g hD hd;refine uS (vs:=[]) (by kernel_rfl) M (fun w hw=>(namesQ_any w (hK.sp.ext' (HpG.ext0 hw.1))).mono fun e w' ⟨b,_,e1,e2,e3⟩=>⟨_,e1,b,rfl,?_,HpG.onE hw.1 e2,fun _=>e3.2⟩)
       repeat' (first|exact trivial|apply And.intro|(intro _;rfl)|(intro h;rw[hD] at h;cases h))
      ·intro D g hD hd;refine zS (v:=.pointer (some ⟨b2,0+0,none⟩)) ?_ M Jv;refine zY (off:=0) (sz:=0) M U74 (by kernel_rfl) rfl
      ·intro D g hD hd;have hd1:D 1=true:=hd 1 (by simp);refine zS (v:=.int .i64 i.op) ?_ M Jv;refine zD M U3 M (fun w hw=>HpG.cell (k:=0) hw.1 M M)
      ·intro D g hD hd;have hd0:D 0=true:=hd 0 (by simp);have hd2:D 2=true:=hd 2 (by simp);refine zS (v:=.string ⟨((wC i.op.toNat)).toArray⟩) ?_ M Jv;refine (by rw[← hm2];exact yf_lookupV M M (fun w hw=>hw.2 hd0) Tryz.underlying153 Tryz.underlying3 zero_str hm1)
      ·intro D g hD hd;have hd3:D 3=true:=hd 3 (by simp);refine zS (v:=.string ⟨((wC i.op.toNat)++([32]:Bs)).toArray⟩) ?_ M Jv;refine zN M M ?_;(· (simp only[Jy,Jz];omega))
      ·intro D g hD hd;refine zS (v:=.slice (some ⟨bj,0,none⟩) p cap) ?_ M Jv;refine zK rfl
      ·intro D g hD hd;have hd5:D 5=true:=hd 5 (by simp);refine vR (v:=.string ⟨(joB T).toArray⟩) (by kernel_rfl) M (fun w hw=>join_row (k:=0) hw.1 M (by omega) (by omega) (by omega)) M (fun w w' hw hx=>⟨HpG.onE hw.1 hx,fun h=>(hw.2 h).onE hx⟩)
      ·intro D g hD hd;have hd4:D 4=true:=hd 4 (by simp);have hd6:D 6=true:=hd 6 (by simp);refine zS (v:=.string ⟨((wC i.op.toNat)++([32]:Bs)++joB T).toArray⟩) ?_ M Jv;refine zN M M ?_;(· (simp only[Jx,Jy,Jz];omega))
      ·intro D g hD hd;have hd7:D 7=true:=hd 7 (by simp);refine vR (v:=.string ⟨(lnQ i a).toArray⟩) (by kernel_rfl) M (fun w hw=>by have:=trimS_any ((wC i.op.toNat)++([32]:Bs)++joB T) (by simp only[Jx,Jy,Jz];omega) w;rw[htr] at this;exact this) M (fun w w' hw hx=>⟨HpG.onE hw.1 hx,fun h=>(hw.2 h).onE hx⟩)
      ·intro D g hD hd;have hd8:D 8=true:=hd 8 (by simp);refine zS (v:=.string ⟨(lnQ i a).toArray⟩) ?_ M Jv;refine xZ rfl
      ·refine tF (m':=[(2,.pointer (some ⟨b2,0,none⟩)),(8,.slice (some ⟨bj,0,none⟩) p cap),(4,.string ⟨(lnQ i a).toArray⟩)]) (H':=Hp (fun _=>False) w_0 [(b2,qiO i)] [⟨.slice (some ⟨bj,0,none⟩) p cap,9,1,p,strV T⟩] (fun _=>True)) ?_ (O3 M M M) (fun w hw=>hw.1);refine zP<|zQ<|zO M M (fun w hw=>?_);exact⟨rfl,hw.ext0⟩
end Go.Proofs.YtkaepknpplhgkaaGreatDoor
namespace Go.Proofs.YtkaepknpplhgkaaGreatDoor
open Go.RowKit
theorem get4_any (r:Bs) (hr:r.length≤1000000000) (w_0:World):Calls Tryz.prog 93 #[.string ⟨r.toArray⟩] w_0 fun e w'=>e=.returned (.int .u32 (getL (r.take 4)))∧Ext w_0 w':=by
 obtain⟨s,hs⟩:∃s,s=r.take 4:=⟨_,rfl⟩;have hsl:s.length=if r.length<4 then r.length else 4:=by rw[hs,Kx];split<;>omega
 have hs4:s.length≤4:=by rw[hs];exact List.length_take_le ..
 rw[← hs];refine zH (args:=[.string ⟨r.toArray⟩]) Tryz.func93 M 27 M (Kc M)<|Z1 0 M<|zR (H':=Hp (fun _=>False) w_0 [] [] (fun _=>True)) (fun u hu=>?_) ?_
 ·subst hu;exact Hp.start0
 refine zX<|zZ<|Za rfl rfl<|ZX<|zZ<|Za rfl rfl<|ZX<|zX<|zZ<|Zm rfl rfl<|Zm rfl rfl<|ZF rfl (wV rfl U9)<|ZF rfl (yf_min rfl rfl)<|ZF rfl (yf_strHi (c:=s) rfl rfl Tryz.underlying9 (by split<;>omega) (by split<;>omega) (by rw[hs];split<;>first|(rw[Int.toNat_natCast,List.take_of_length_le (Ab r.length),List.take_of_length_le (show r.length≤4 by omega)])|rfl)) ?_;refine wl_bytes .none M  M Tryz.underlying9 Tryz.underlying53 Tryz.underlying5 (fun _ h=>h.elim) (fun b11 cap F hF=>?_);refine ZF M (xI M U53)<|Zm M M<|ZT<|yV<|xO (ι:={i:Nat // i≤s.length}) (fun i=>[(3,.int .u32 (getL (s.take i.1):Nat)),(11,.slice (some ⟨b11,0,none⟩) s.length cap),(12,.int .i64 s.length),(13,.int .i64 (i.1:Nat))]) (fun _=>Hp (fun _=>False) w_0 [] [] (fun u=>RdF F (some ⟨b11,0,none⟩) (u8L s) u∧True)) (fun i=>s.length-i.1) ⟨0,Aa _⟩ ?_ ?_ (fun i=>?_)
 ·exact .cons M<|.cons M<|.cons M<|.cons M<|.nil
 ·exact fun w h=>h
 obtain⟨i,hi⟩:=i;dsimp only;refine zX<|zZ<|ZF M (yB M M)<|ZX<|zW M (fun h14=>?_) (fun h14=>?_)
 ·replace h14:=Ke h14;skip;obtain⟨c,hc⟩:∃c,s[i]? = some c:=⟨s[i]'(by omega),Kj _⟩;have hcl:=UInt8.toNat_lt c
  have ht:s.take (i+1)=s.take i++[c]:=by
   rw[List.take_add_one,hc];rfl
  have hst:=or_step (s.take i) c (by rw[Kx];omega);rw[show (s.take i).length=i by rw[Kx];omega,← ht] at hst;refine zL<|zP<|zX<|yV<|zX<|zZ<|Zm rfl rfl<|ZF rfl (zA (es:=1) rfl rfl U53 (by kernel_rfl) rfl (by first|decide|omega|(simp;done)|(simp;omega)) rfl) ?_;refine ZF M (zD M U5 M (fun w hw=>RdF.part (HpG.x hw).1 (i:=i) (by rw[Ag];omega) (by omega) (by rw[List.getElem?_map,hc];rfl))) ?_;refine Za M M<|Za M M<|ZT<|Z7r 3 4 5 11 12 13 14 M M M M M M M<|Zm M M<|Zm M M ?_
  refine ZF M (yQ M (by kernel_rfl) U22 (sQ _ (by omega) (by omega))) ?_
  refine Zm M M<|ZF M (sY M M (i64_in _ (by omega) (by omega))) ?_;refine ZF rfl (uM rfl rfl (by first|decide|omega) rfl) ?_;refine ZF M (yf_or M M hst)<|Za M M<|zI<|yW<|zP<|Z7r 3 4 5 11 12 13 14 M M M M M M M<|ZF M (yO M M (i64_in _ (by omega) (by omega))) ?_;refine Zm M M<|zI<|yK (ι:={i:Nat // i≤s.length}) ⟨i+1,by omega⟩ (by show s.length-(i+1)<s.length-i;omega) (O4 M M M M) Jv
 ·replace h14:=Kf h14;skip;obtain rfl:i=s.length:=by omega
  refine xT<|zB<|zB<|xU<|zP<|zX<|zZ<|Zm M M<|Za M M<|ZT<|zQ<|zO M M (fun w hw=>?_);exact⟨by rw[Kw],(Kg hw).ext⟩
def nx1 (s:Bs) (a:Nat):Bs×Nat:=match pM s with
 | some i=>(lnK i a,i.size.toNat)
 | none=>([],1)
def nx2 (s:Bs) (a:Nat):Bs×Nat:=if s.length<4 then ([],s.length) else match decQ (getL (s.take 4)) with
 | some i=>(lnQ i a,4)
 | none=>([],4)
theorem decK_valid {s:Bs}{i:KI}(h:pM s=some i):wP i=true∧i.imm<4294967296∧i.size=(i.size.toNat:Nat):=by
 obtain⟨n,h1,_,_,h4⟩:=decK_some h;exact⟨by unfold wP;rw[h4];rfl,decK_imm h,by omega⟩
theorem dis1_any (s:Bs) (hs:s.length≤1000000000) (a:Nat) (ha:a<4294967296) (w_0:World) (hK:WOk w_0):Calls Tryz.prog 90 #[.string ⟨s.toArray⟩,.int .u32 a] w_0 fun e w'=>e=.returned (.tuple #[.string ⟨(nx1 s a).1.toArray⟩,.int .i64 (nx1 s a).2])∧Ext w_0 w':=by
 have hdc:=decode_any s hs;unfold DcPost at hdc;unfold nx1
 cases hd:pM s with
 | none =>
  rw[hd] at hdc;refine zH (args:=[.string ⟨s.toArray⟩,.int .u32 a]) Tryz.func90 M 20 M (Kc M)<|Z2 0 1 M M<|zR (H':=Hp (fun _=>False) w_0 [] [] (fun _=>True)) (fun u hu=>?_) ?_
  ·subst hu;exact Hp.start0
  refine zX<|zZ<|Za M M<|Za M M<|ZX<|zZ<|Zm M M<|wl_pureE (ι:=Int) (C:=fun x=>x≠0) (val:=fun x=>.tuple #[.agg (kiC ki0).toArray,.int .i64 x]) .none M  (by kernel_rfl) M (fun w hw=>(hdc w).mono fun e w' ⟨h1,h2⟩=>h2.elim (fun h=>⟨10,by decide,h,h1⟩) fun h=>⟨12,by decide,h,h1⟩) (fun x hx=>?_);refine Zm M M<|ZF M (yX M M)<|ZF M (yX M M)<|zC .none M (yS (z:=Jc) (cs:=Jm) (by kernel_rfl) M) (fun b6=>?_);refine ZR 0 M M M M M (by kernel_rfl) ?_;refine Za M M<|ZX<|zX<|Z6r 0 1 4 5 6 7 M M M M M M<|Zm M M<|ZF M (vW M M)<|ZT<|zW M (fun h14=>?_) (fun h14=>?_)
  ·replace h14:=wE h14;refine zX<|Z7r 0 1 4 5 6 7 14 M M M M M M M<|Za M M<|Za M M<|ZT<|zQ<|zT<|uU M M M (fun w hw=>?_);exact⟨rfl,hw.ext0⟩
  ·replace h14:=uY h14;exact absurd h14 hx
 | some i =>
  rw[hd] at hdc;obtain⟨hv,him,hsz⟩:=decK_valid hd;have hln:=fun w hw=>lineK_any i him a ha w hw;unfold lnV at hln;rw[Ae hv] at hln;dsimp only;refine zH (args:=[.string ⟨s.toArray⟩,.int .u32 a]) Tryz.func90 M 20 M (Kc M)<|Z2 0 1 M M<|zR (H':=Hp (fun _=>False) w_0 [] [] (fun _=>True)) (fun u hu=>?_) ?_
  ·subst hu;exact Hp.start0
  refine zX<|zZ<|Za M M<|Za M M<|ZX<|zZ<|Zm M M<|zE .none M  (v:=.tuple #[.agg (kiC i).toArray,.int .i64 0]) (by kernel_rfl) M (fun w hw=>(hdc w).mono fun e w' ⟨h1,h2⟩=>⟨h2,h1⟩) ?_;refine Zm M M<|ZF M (yX M M)<|ZF M (yX M M)<|zC .none M (yS (z:=Jc) (cs:=Jm) (by kernel_rfl) M) (fun b6=>?_);refine ZR 0 M M M M M (by kernel_rfl) ?_;refine Za M M<|ZX<|zX<|Z6r 0 1 4 5 6 7 M M M M M M<|Zm M M<|ZF M (vW M M)<|ZT<|zW M (fun h14=>?_) (fun h14=>?_)
  ·replace h14:=wE h14;exact absurd M h14
  ·replace h14:=uY h14;refine zL<|zP<|zX<|Z7 0 1 4 5 6 7 14 M M M M M M M<|rJ [0,1,2,3,4,5,6] (Blk b6 (kiO i)) (by kernel_rfl) (by kernel_rfl) Blk.stab (fun w h=>HpG.blk h (k:=0) M) (fun n0 hn0=>?_);refine Zd M M M (xE (cs:=kiC i) M U35 M (by kernel_rfl) (fun w hw j v hj=>Blk.cell hw (by rw[Kz];exact hj))) ?_;refine Zd M M M (zK M)<|wU M<|uZ .none M  (v:=.string ⟨(lnK i a).toArray⟩) (by kernel_rfl) M (fun _ _ h hx=>Blk.onE h hx) (fun w hw=>hln w (hK.ext hw.ext0)) ?_;refine Zd M M M (Y35x6 M) ?_;refine Zd M M M (zD M U3 M (fun w hw=>Blk.cell hw M)) ?_;refine Zd M M M (xZ M)<|Zd M M M (xZ M)<|pJ<|zP<|zQ<|uU M M M (fun w hw=>?_);exact⟨by rw[← hsz],hw.ext0⟩
theorem dis2_any (s:Bs) (hs:s.length≤1000000000) (a:Nat) (ha:a<4294967296) (w_0:World) (hK:WOk w_0):Calls Tryz.prog 91 #[.string ⟨s.toArray⟩,.int .u32 a] w_0 fun e w'=>e=.returned (.tuple #[.string ⟨(nx2 s a).1.toArray⟩,.int .i64 (nx2 s a).2])∧Ext w_0 w':=by
 have hgl:getL (s.take 4)<4294967296:=by
  have h1:=pC (s.take 4);have h2:(s.take 4).length≤4:=List.length_take_le ..;have:256 ^ (s.take 4).length≤256 ^ 4:=Nat.pow_le_pow_right (by omega) h2;omega
 have hdc:=fun w=>qdecode_any (getL (s.take 4)) hgl w;unfold DqPost at hdc;unfold nx2
 by_cases h4:s.length<4
 ·rw[Ae h4];refine zH (args:=[.string ⟨s.toArray⟩,.int .u32 a]) Tryz.func91 M 24 M (Kc M)<|Z2 0 1 M M<|zR (H':=Hp (fun _=>False) w_0 [] [] (fun _=>True)) (fun u hu=>?_) ?_
  ·subst hu;exact Hp.start0
  refine zX<|zZ<|Za M M<|Za M M<|ZX<|zX<|zZ<|Zm M M<|ZF M (wV M U9)<|ZF M (yB M M)<|ZT<|zW M (fun h10=>?_) (fun h10=>?_)
  ·replace h10:=Ke h10;refine zX<|Z5r 0 1 4 5 10 M M M M M<|Zm M M<|ZF M (wV M U9)<|Za M M<|Za M M<|ZT<|zQ<|zT<|uU M M M (fun w hw=>?_);exact⟨rfl,hw.ext0⟩
  ·replace h10:=Kf h10;omega
 ·rw[Ad h4]
  cases hd:decQ (getL (s.take 4)) with
  | none =>
   rw[hd] at hdc;refine zH (args:=[.string ⟨s.toArray⟩,.int .u32 a]) Tryz.func91 M 24 M (Kc M)<|Z2 0 1 M M<|zR (H':=Hp (fun _=>False) w_0 [] [] (fun _=>True)) (fun u hu=>?_) ?_
   ·subst hu;exact Hp.start0
   refine zX<|zZ<|Za M M<|Za M M<|ZX<|zX<|zZ<|Zm M M<|ZF M (wV M U9)<|ZF M (yB M M)<|ZT<|zW M (fun h10=>?_) (fun h10=>?_)
   ·replace h10:=Ke h10;omega
   ·replace h10:=Kf h10;refine zL<|zP<|zX<|Z5r 0 1 4 5 10 M M M M M<|Zm M M<|zE .none M  (v:=.int .u32 (getL (s.take 4):Nat)) (by kernel_rfl) M (fun w hw=>get4_any s hs w) ?_;refine zE .none M  (v:=.tuple #[.agg (qiC qi0).toArray,.int .i64 12]) (by kernel_rfl) M (fun w hw=>(hdc w).mono fun e w' ⟨h1,h2⟩=>⟨h2,h1⟩) ?_;refine Zm M M<|ZF M (yX M M)<|ZF M (yX M M)<|zC .none M (yS (z:=Jf) (cs:=Jp) (by kernel_rfl) M) (fun b6=>?_);refine ZR 0 M M M M M (by kernel_rfl) ?_;refine Za M M<|ZX<|zX<|Z7r 0 1 4 5 6 7 10 M M M M M M M<|Zm M M<|ZF M (vW M M)<|ZT<|zW M (fun h20=>?_) (fun h20=>?_)
    ·replace h20:=wE h20;refine zX<|Z8r 0 1 4 5 6 7 10 20 M M M M M M M M<|Za M M<|Za M M<|ZT<|zQ<|zT<|uU M M M (fun w hw=>?_);exact⟨rfl,hw.ext0⟩
    ·replace h20:=uY h20;cases h20
  | some i =>
   rw[hd] at hdc;have hen:=oH hd;have hv:wQ i=true:=by unfold wQ;rw[hen];rfl
   have hln:=fun w hw=>lineQ_any i (decQ_imm hgl hd) a ha w hw;unfold lnQV at hln;rw[Ae hv] at hln;dsimp only;refine zH (args:=[.string ⟨s.toArray⟩,.int .u32 a]) Tryz.func91 M 24 M (Kc M)<|Z2 0 1 M M<|zR (H':=Hp (fun _=>False) w_0 [] [] (fun _=>True)) (fun u hu=>?_) ?_
   ·subst hu;exact Hp.start0
   refine zX<|zZ<|Za M M<|Za M M<|ZX<|zX<|zZ<|Zm M M<|ZF M (wV M U9)<|ZF M (yB M M)<|ZT<|zW M (fun h10=>?_) (fun h10=>?_)
   ·replace h10:=Ke h10;omega
   ·replace h10:=Kf h10;refine zL<|zP<|zX<|Z5r 0 1 4 5 10 M M M M M<|Zm M M<|zE .none M  (v:=.int .u32 (getL (s.take 4):Nat)) (by kernel_rfl) M (fun w hw=>get4_any s hs w) ?_;refine zE .none M  (v:=.tuple #[.agg (qiC i).toArray,.int .i64 0]) (by kernel_rfl) M (fun w hw=>(hdc w).mono fun e w' ⟨h1,h2⟩=>⟨h2,h1⟩) ?_;refine Zm M M<|ZF M (yX M M)<|ZF M (yX M M)<|zC .none M (yS (z:=Jf) (cs:=Jp) (by kernel_rfl) M) (fun b6=>?_);refine ZR 0 M M M M M (by kernel_rfl) ?_;refine Za M M<|ZX<|zX<|Z7r 0 1 4 5 6 7 10 M M M M M M M<|Zm M M<|ZF M (vW M M)<|ZT<|zW M (fun h20=>?_) (fun h20=>?_)
    ·replace h20:=wE h20;exact absurd M h20
    ·replace h20:=uY h20;refine zL<|zP<|zX<|Z8r 0 1 4 5 6 7 10 20 M M M M M M M M<|ZF M (yU 0 M M U74 M (by kernel_rfl)) ?_;refine Zm M M<|zE .none M  (v:=.string ⟨(lnQ i a).toArray⟩) (by kernel_rfl) M (fun w hw=>hln w (hK.ext hw.ext0)) ?_;refine Za M M<|Za M M<|ZT<|zQ<|uU M M M (fun w hw=>?_);exact⟨rfl,hw.ext0⟩
theorem lnK_ne {i:KI}(h:wP i=true) (hi:i.imm<4294967296) (a:Nat):lnK i a≠[]:=by
 have hk:=vK_of hi h;have hr:=(vk_rng hk).1;unfold lnK
 by_cases h4:i.op≤4
 ·rw[Ae h4];have:i.op.toNat=0∨i.op.toNat=1∨i.op.toNat=2∨i.op.toNat=3∨i.op.toNat=4:=by omega
  rcases this with e|e|e|e|e<;>rw[e]<;>decide
 ·rw[Ad h4];have hif:∀{p:Prop} [Decidable p] {x y:Bs},x≠[]→y≠[]→(if p then x else y)≠[]:=fun {p} _ {x y} h k=>by split<;>assumption
  refine hif ?_ (hif ?_ (hif ?_ (hif ?_ (hif ?_ (hif ?_ (hif ?_ (hif ?_ (hif ?_ (hif ?_ (hif ?_ ?_))))))))))<;>simp
theorem lnQ_ne {i:QI}(h:VQ i) (a:Nat):lnQ i a≠[]:=by
 unfold lnQ
 split
 ·next hq =>
  have:i.op.toNat=49∨i.op.toNat=50∨i.op.toNat=51:=by
   unfold wF at hq
   repeat' split at hq
   all_goals first|(exfalso;revert hq;decide)|omega
  rcases this with e|e|e<;>rw[e]<;>decide
 ·simp
def nxK (kind:Int) (s:Bs) (a:Nat):Bs×Nat:=if kind=1 then nx1 s a else nx2 s a
theorem nxt_nx (kind:Int) (s:Bs) (a:Nat):nxtA kind s a=(if (nxK kind s a).1=[] then bytB (s.take (nxK kind s a).2) else (nxK kind s a).1,(nxK kind s a).2):=by
 unfold nxtA nxK
 by_cases hk:kind=1
 ·rw[Ae hk,Ae hk];unfold nx1
  cases hd:pM s with
  | none=>rfl
  | some i =>
   have h:=decK_valid hd;dsimp only;rw[Ad (lnK_ne h.1 h.2.1 a)]
 ·rw[Ad hk,Ad hk];unfold nx2
  by_cases h4:s.length<4
  ·rw[Ae h4,Ae h4];dsimp only;rw[Ae rfl,Kw]
  ·rw[Ad h4,Ad h4]
   have hgl:getL (s.take 4)<4294967296:=by
    have h1:=pC (s.take 4);have h2:(s.take 4).length≤4:=List.length_take_le ..;have:256 ^ (s.take 4).length≤256 ^ 4:=Nat.pow_le_pow_right (by omega) h2;omega
   cases hd:decQ (getL (s.take 4)) with
   | none=>rfl
   | some i =>
    have hen:=oH hd;dsimp only;rw[Ad (lnQ_ne (vQ_of (decQ_imm hgl hd) (by rw[hen];rfl)) a)]
end Go.Proofs.YtkaepknpplhgkaaGreatDoor
namespace Go.Proofs.YtkaepknpplhgkaaGreatDoor
open Go.RowKit
section
variable {P:Program}{n:Fr}{m:List (Nat×Value)}{ty:TypeId}{H:World→Prop}
def isFnV (v:Value):Bool:=match v with
 | .func _ _ _=>true
 | _=>false
theorem run_eqlIn_fn {t:TypeId}{ps rs:Array TypeId}{vr:Bool}{x:Value}(ht:P.underlying t=some (.func ps rs vr)) (hx:x=.nilFunc∨isFnV x=true) (w:World) (d:Nat):(Op.equalIn (d+1) t x .nilFunc).run P w=.ok (!isFnV x) w:=by
 rcases hx with rfl|h
 ·simp[Op.equalIn,run_underlying ht,isFnV]
 ·cases x<;>first|(simp[isFnV] at h;done)|simp[Op.equalIn,run_underlying ht,isFnV]
theorem run_eql_fn {t:TypeId}{ps rs:Array TypeId}{vr:Bool}{x:Value}(ht:P.underlying t=some (.func ps rs vr)) (hx:x=.nilFunc∨isFnV x=true) (w:World):(Op.equal t x .nilFunc).run P w=.ok (!isFnV x) w:=run_eqlIn_fn ht hx w 9999
theorem yf_eqNilF {x y:Operand}{t t':TypeId}{ps rs:Array TypeId}{vr:Bool}{v:Value}(hx:ev m x=some v) (hy:ev m y=some .nilFunc) (hv:v=.nilFunc∨isFnV v=true) (ht:P.underlying t=some (.func ps rs vr)):YF P (.binOp .eql t x y t') ty n m H (.bool (!isFnV v)):=fun _ w d pos af g hs hw=>by
 have:=run_eql_fn (P:=P) ht hv w;cases v<;>first|(simp[isFnV] at hv;done)|simp[Yl,execOp,hs.ev hx,hs.ev hy,binOp,Result.andThen,eqGuard,this]
end
abbrev disFn (kind:Int):FuncId:=if kind=1 then 90 else 91
structure DL where
 p:Nat
 f:Nat
 out:Bs
 q:Option Addr
 BA:Option Addr
 bc:Nat
structure DLI (kind:Int) (org:Nat) (code:Bs) (b:Nat) (full:Bs) (j:DL):Prop where
 le:j.p≤code.length
 fu:code.length-j.p≤j.f
 e:j.out++pU (disF kind org j.f (code.drop j.p) j.p)=full
 q:j.q=none∨j.q=some ⟨b,0,none⟩
 a:j.out=[]→j.BA=none
theorem DLI.step {kind:Int}{org:Nat}{code:Bs}{b:Nat}{full:Bs}{p f:Nat}{out:Bs}{q BA:Option Addr}{bc:Nat}(h:DLI kind org code b full ⟨p,f,out,q,BA,bc⟩) (hp:p<code.length):∃f',f=f'+1∧(out++((nxtA kind (code.drop p) ((org+p)%4294967296)).1++[10]))++pU (disF kind org f' (code.drop (p+(nxtA kind (code.drop p) ((org+p)%4294967296)).2)) (p+(nxtA kind (code.drop p) ((org+p)%4294967296)).2))=full:=by
 have hf:=h.fu;have he:=h.e;dsimp only at hf he;obtain⟨f',rfl⟩:∃f',f=f'+1:=⟨f-1,by omega⟩;have hne:code.drop p≠[]:=fun e=>by have:=List.drop_eq_nil_iff.1 e;omega
 refine⟨f',rfl,?_⟩;rw[← he,disF,Ad hne,List.drop_drop];simp[pU]
theorem dis_find (kind:Int) (v1 v2:Value):Instr.findNow (.int .i64) (.int .i64 kind) [{ key:=.int .i64 1,val:=v1,born:=0 },{ key:=.int .i64 2,val:=v2,born:=1 }] 0=some (if kind=1 then some (0,v1) else if kind=2 then some (1,v2) else none):=by
 simp only[Instr.findNow,same_int]
 by_cases h1:kind=1
 ·simp[h1]
 ·by_cases h2:kind=2
  ·simp[h2]
  ·simp[h1,h2,Ne.symm h1,Ne.symm h2]
theorem zero_disFn:∀w:World,(zeroValue 158).run Tryz.prog w=.ok .nilFunc w:=fun w=>by kernel_rfl
theorem dis_fn (kind:Int) (hk:kind=1∨kind=2):goes Tryz.prog (disFn kind)=true:=by
 rcases hk with rfl|rfl<;>kernel_rfl
theorem dis_nx (kind:Int) (hk:kind=1∨kind=2) (s:Bs) (hs:s.length≤1000000000) (a:Nat) (ha:a<4294967296) (w:World) (hK:WOk w):Calls Tryz.prog (disFn kind) #[.string ⟨s.toArray⟩,.int .u32 a] w fun e w'=>e=.returned (.tuple #[.string ⟨(nxK kind s a).1.toArray⟩,.int .i64 (nxK kind s a).2])∧Ext w w':=by
 rcases hk with rfl|rfl
 ·exact dis1_any s hs a ha w hK
 ·exact dis2_any s hs a ha w hK
theorem linesB_le (kind:Int) (hk:kind=1∨kind=2) (org:Nat) (code:Bs):(pU (disF kind org code.length code 0)).length≤81*code.length:=dis_len hk org code.length code 0 (Ab _)
theorem take_ln {c:UInt8}{l:Bs}{k:Nat}(h:l[k]? = some c):(l.take (k+1)).map (fun c=>Lib.decDigits c.toNat)=(l.take k).map (fun c=>Lib.decDigits c.toNat)++[Lib.decDigits c.toNat]:=by
 rw[take_one h,List.map_append];rfl
theorem dis_any (kind:Int) (code:Bs) (hc:code.length≤1000000000) (org:Nat) (ho:org<4294967296) (w_0:World) (hK:WOk w_0):Calls Tryz.prog 36 #[.int .i64 kind,.string ⟨code.toArray⟩,.int .u32 org] w_0 fun e w'=>e=.returned (.string ⟨(disA kind code org).toArray⟩)∧Ext w_0 w':=by
 unfold disA
 by_cases hk:kind≠1∧kind≠2
 ·rw[Ae hk];have e:((if kind=1 then some (0,fnV 90) else if kind=2 then some (1,fnV 91) else none:Option (Nat×Value)).map (·.2)).getD .nilFunc=.nilFunc:=by rw[Ad hk.1,Ad hk.2];rfl
  refine zH (args:=[.int .i64 kind,.string ⟨code.toArray⟩,.int .u32 org]) Tryz.func36 M 68 M (Kc M)<|Z3 0 1 2 M M M<|zR (H':=Hp (fun _=>False) w_0 [] [] (fun _=>True)) (fun u hu=>?_) ?_
  ·subst hu;exact Hp.start0
  refine zX<|zZ<|Za M M<|ZX<|zZ<|zC .none M (tS) (fun b15=>?_);refine yM .none (cf_insert 0 M M M M U162 U3 M) (fun _=>?_);refine yM .none (cf_insert 0 M M M M U162 U3 M) (fun _=>?_);refine Zm M M<|Zm M M<|uT .none M  (v:=.nilFunc) (by rw[← e];exact yf_lookupV (z:=.nilFunc) M M (fun w hw=>HpG.blk hw (k:=0) M) Tryz.underlying162 Tryz.underlying3 zero_disFn (dis_find kind _ _)) ?_;refine Za M M<|ZX<|zX<|Z5r 0 1 2 6 7 M M M M M<|Zm M M<|uT .none M  (v:=.bool true) (yf_eqNilF M M (.inl M) Tryz.underlying158)<|ZT<|zW M (fun hc=>?_) (fun hc=>?_)
  ·refine zX<|Z6r 0 1 2 6 7 20 M M M M M M<|Za M M<|ZT<|zQ<|zT<|zO M M (fun w hw=>?_);exact⟨rfl,hw.ext0⟩
  ·cases hc
 ·rw[Ad hk];have hk12:kind=1∨kind=2:=by omega
  have e:((if kind=1 then some (0,fnV 90) else if kind=2 then some (1,fnV 91) else none:Option (Nat×Value)).map (·.2)).getD .nilFunc=fnV (disFn kind):=by
   rcases hk12 with rfl|rfl<;>rfl
  have hgo:=dis_fn kind hk12;have hfl:=linesB_le kind hk12 org code;obtain⟨full,hfull⟩:∃x,x=pU (disF kind org code.length code 0):=⟨_,rfl⟩;rw[← hfull] at hfl ⊢;refine zH (args:=[.int .i64 kind,.string ⟨code.toArray⟩,.int .u32 org]) Tryz.func36 M 68 M (Kc M)<|Z3 0 1 2 M M M<|zR (H':=Hp (fun _=>False) w_0 [] [] (fun _=>True)) (fun u hu=>?_) ?_
  ·subst hu;exact Hp.start0
  refine zX<|zZ<|Za M M<|ZX<|zZ<|zC .none M (tS) (fun b15=>?_);refine yM .none (cf_insert 0 M M M M U162 U3 M) (fun _=>?_);refine yM .none (cf_insert 0 M M M M U162 U3 M) (fun _=>?_);refine Zm M M<|Zm M M<|uT .none M  (v:=fnV (disFn kind)) (by rw[← e];exact yf_lookupV (z:=.nilFunc) M M (fun w hw=>HpG.blk hw (k:=0) M) Tryz.underlying162 Tryz.underlying3 zero_disFn (dis_find kind _ _)) ?_;refine Za M M<|ZX<|zX<|Z5r 0 1 2 6 7 M M M M M<|Zm M M<|uT .none M  (v:=.bool false) (yf_eqNilF (v:=fnV (disFn kind)) M M (.inr M) Tryz.underlying158) ?_;refine ZT<|zW M (fun hc=>?_) (fun hc=>?_)
  ·cases hc
  ·refine zL<|zP<|zX<|Z6r 0 1 2 6 7 20 M M M M M M<|zC .none M (yS (z:=.agg #[.pointer none,.slice none 0 0]) (cs:=[.pointer none,.slice none 0 0]) (by kernel_rfl) M) (fun b8=>?_);refine ZX<|zX<|zZ<|Za M M<|ZT<|yV<|xO (ι:={j:DL // DLI kind org code b8 full j}) (fun j=>[(1,.string ⟨code.toArray⟩),(2,.int .u32 org),(7,fnV (disFn kind)),(8,.pointer (some ⟨b8,0,none⟩)),(9,.int .i64 (j.1.p:Nat))]) (fun j=>Hp (fun _=>False) w_0 [(b8,bdO (.pointer j.1.q) (.slice j.1.BA j.1.out.length j.1.bc))] [rwB j.1.BA j.1.bc j.1.out] (fun _=>True)) (fun j=>code.length-j.1.p) ⟨⟨0,code.length,[],none,none,0⟩,⟨Aa _,Ab _,hfull.symm,.inl rfl,fun _=>rfl⟩⟩ ?_ ?_ (fun j=>?_)
   ·exact .cons M<|.cons M<|.cons M<|.cons M<|.cons M<|.nil
   ·exact fun w h=>Hp.nil (Hp.drop h (.cons_cons _ (.cons _ .slnil)) (Kh _)) _ _
   obtain⟨⟨p,f,out,q,BA,bc⟩,hj⟩:=j;have hple:=hj.le;have hje:=hj.e;have hq:=hj.q;have hBA:=hj.a;dsimp only at hple hje hq hBA ⊢;refine zX<|zX<|zZ<|Zm M M<|Zm M M<|ZF M (wV M U9)<|ZF M (yB M M)<|ZT<|zW M (fun h24=>?_) (fun h24=>?_)
   ·replace h24:=Ke h24;skip;have h24':p<code.length:=by omega
    obtain⟨f',hf',hst⟩:=hj.step h24';have hsne:code.drop p≠[]:=fun e=>by have:=List.drop_eq_nil_iff.1 e;omega
    have hau:IntKind.u32.wrap ((org:Int)+IntKind.u32.wrap (p:Int))=(((org+p)%4294967296:Nat):Int):=by rw[sX,sX];omega
    have hamod:(org+p)%4294967296<4294967296:=Nat.mod_lt _ (by decide);obtain⟨hn0,hnl,_⟩:=nxt_it hk12 hsne hamod;have hnx:=nxt_nx kind (code.drop p) ((org+p)%4294967296);have hds:=dis_nx kind hk12 (code.drop p) (by rw[Ks];omega) ((org+p)%4294967296) hamod;obtain⟨⟨ln,nn⟩,hx⟩:∃x,x=nxK kind (code.drop p) ((org+p)%4294967296):=⟨_,rfl⟩;rw[← hx] at hnx hds;dsimp only at hnx hds;obtain⟨X,hX⟩:∃X,X=if ln=[] then bytB ((code.drop p).take nn) else ln:=⟨_,rfl⟩;rw[← hX] at hnx;rw[hnx] at hn0 hnl hst;dsimp only at hn0 hnl hst;rw[Ks] at hnl;have hol:(out++(X++([10]:Bs))).length≤full.length:=by rw[← hst];exact (List.sublist_append_left _ _).length_le
    rw[Jx] at hol;have hXl10:(X++([10]:Bs)).length=X.length+1:=by simp
    refine zL<|zP<|yV<|zX<|Z6r 1 2 7 8 9 24 M M M M M M<|Zm M M<|Zm M M<|Zm M M<|ZF M (rK (c:=code.drop p) M M Tryz.underlying9 (by omega) (by omega) (by rw[Int.toNat_natCast])) ?_;refine Zm M M<|Zm M M ?_
    refine ZF M (yQ M (by kernel_rfl) U22 M) ?_
    refine ZF M (yO M M hau)<|xK (ι:=Unit) (val:=fun _=>.tuple #[.string ⟨ln.toArray⟩,.int .i64 (nn:Nat)]) (H':=fun _=>Hp (fun _=>False) w_0 [(b8,bdO (.pointer q) (.slice BA out.length bc))] [rwB BA bc out] (fun _=>True)) .none M  (rB (us:=[]) (vs:=[.string ⟨(code.drop p).toArray⟩,.int .u32 ((org+p)%4294967296:Nat)]) (cs:=[]) hgo M M (fun w hw=>(hds w (hK.ext hw.ext0)).mono fun e w' ⟨e1,e2⟩=>⟨_,e1,(),rfl,HpG.onE hw e2⟩)) (fun _=>?_);refine Zm M M<|ZF M (yX M M)<|ZF M (yX M M)<|Za M M<|Za M M<|ZT<|yN (ι:=Unit) (fun _=>[(1,.string ⟨code.toArray⟩),(2,.int .u32 org),(7,fnV (disFn kind)),(8,.pointer (some ⟨b8,0,none⟩)),(9,.int .i64 (p:Nat)),(10,.string ⟨X.toArray⟩),(11,.int .i64 (nn:Nat))]) (fun _=>Hp (fun _=>False) w_0 [(b8,bdO (.pointer q) (.slice BA out.length bc))] [rwB BA bc out] (fun _=>True)) ?_ (fun _=>?_)
    ·refine zX<|Z8r 1 2 7 8 9 10 11 24 M M M M M M M M<|Zm M M<|ZF M (yE M M U9)<|ZT<|zW M (fun h38=>?_) (fun h38=>?_)
     ·have hln:ln=[]:=Ke h38;obtain⟨B,hB⟩:∃B,B=(code.drop p).take nn:=⟨_,rfl⟩;have hBl:B.length=nn:=by rw[hB,Kx,Ks];omega
      have hjb:(joB (B.map fun c=>Lib.decDigits c.toNat)).length≤5*B.length:=by
       have:=joB_len (k:=3) (l:=B.map fun c=>Lib.decDigits c.toNat) (fun x hx=>by
        obtain⟨c,_,rfl⟩:=List.mem_map.1 hx;have:=UInt8.toNat_lt c
        exact wR (k:=3) (by omega) (by decide))
       rw[Ag] at this;exact this
      have hXb:X=bytB B:=by rw[hX,Ae hln,hB]
      refine zX<|Z9r 1 2 7 8 9 10 11 24 38 M M M M M M M M M<|Za M M<|ZX<|zX<|zZ<|Zm M M<|Zm M M<|Zm M M<|Zm M M<|ZF M (yO M M (show IntKind.i64.wrap ((p:Int)+((nn:Nat):Int))=((p+nn:Nat):Int) from i64_in ((p+nn:Nat):Int) (by omega) (by omega))) ?_;refine ZF M (yf_strSlice (c:=B) M M M Tryz.underlying9 (by omega) (by omega) (by omega) (by rw[Int.toNat_natCast,Int.toNat_natCast,Nat.add_sub_cancel_left,hB])) ?_;refine wl_bytes .none M  M Tryz.underlying9 Tryz.underlying53 Tryz.underlying5 (fun _ h=>h.elim) (fun b45 cap45 F hF=>?_);refine ZF M (xI M U53)<|Zm M M<|ZT<|yV<|xO (ι:={j:Nat×(Option Addr×Nat) // j.1≤nn∧j.1≤j.2.2∧(0<j.1→∃b,j.2.1=some ⟨b,0,none⟩)}) (fun j=>[(1,.string ⟨code.toArray⟩),(2,.int .u32 org),(7,fnV (disFn kind)),(8,.pointer (some ⟨b8,0,none⟩)),(9,.int .i64 (p:Nat)),(11,.int .i64 (nn:Nat)),(12,.slice j.1.2.1 j.1.1 j.1.2.2),(45,.slice (some ⟨b45,0,none⟩) B.length cap45),(46,.int .i64 B.length),(47,.int .i64 (j.1.1:Nat))]) (fun j=>Hp (fun _=>False) w_0 [(b8,bdO (.pointer q) (.slice BA out.length bc))] [⟨.slice j.1.2.1 j.1.1 j.1.2.2,9,1,j.1.1,strV ((B.take j.1.1).map fun c=>Lib.decDigits c.toNat)⟩,rwB BA bc out] (fun u=>RdF F (some ⟨b45,0,none⟩) (u8L B) u∧True)) (fun j=>nn-j.1.1) ⟨(0,(none,0)),Aa _,Ab _,fun h=>absurd h (by omega)⟩ ?_ ?_ (fun j=>?_)
      ·exact .cons M<|.cons M<|.cons M<|.cons M<|.cons M<|.cons M<|.cons M<|.cons M<|.cons M<|.cons M<|.nil
      ·exact fun w h=>Hp.nil h _ _
      obtain⟨⟨k,A,cap⟩,hkn,hkc,hkA⟩:=j;dsimp only at hkn hkc hkA ⊢;refine zX<|zZ<|ZF M (yB M M)<|ZX<|zW M (fun h48=>?_) (fun h48=>?_)
      ·replace h48:=Ke h48;skip;obtain⟨c,hcb⟩:∃c,B[k]? = some c:=⟨B[k]'(by omega),Kj _⟩;have hcl:=UInt8.toNat_lt c;have htk:=take_ln hcb;have hst2:strV ((B.take (k+1)).map fun c=>Lib.decDigits c.toNat)=strV ((B.take k).map fun c=>Lib.decDigits c.toNat)++[.string ⟨(Lib.decDigits c.toNat).toArray⟩]:=by rw[htk];simp
       refine zL<|zP<|zX<|yV<|zX<|zZ<|ZF rfl (zA (es:=1) rfl rfl U53 (by kernel_rfl) rfl (by first|decide|omega|(simp;done)|(simp;omega)) rfl) ?_;refine ZF M (zD M U5 M (fun w hw=>RdF.part (HpG.x hw).1 (i:=k) (by rw[Ag];omega) (by omega) (by rw[List.getElem?_map,hcb];rfl))) ?_;refine Za M M<|ZT<|Z12r 1 2 7 8 9 11 12 14 45 46 47 48 M M M M M M M M M M M M<|Zm M M<|Zm M M ?_
       refine ZF M (yQ M (by kernel_rfl) U3 (wK (by omega))) ?_
       refine zE .none M  (v:=.string ⟨(Lib.decDigits c.toNat).toArray⟩) (by kernel_rfl) M (fun w hw=>by
        have:=sC (c.toNat:Nat) (by omega) (by omega) w (hK.tb.ext hw.ext0);rw[show Lib.itoa ((c.toNat:Nat):Int)=Lib.decDigits c.toNat from (Ad (by omega)).trans (congrArg Lib.decDigits (Int.toNat_natCast _))] at this
        exact this) ?_
       refine zC .none M (wS (z:=Jg) M M U59 (by kernel_rfl) (by kernel_rfl) M M) (fun b55=>?_);refine uJ (z:=Jg) (bytes:=16) 0 0 .none M M M M M U59 (by kernel_rfl) M M M M M (by omega) (by omega) (fun a56 c56 h56=>?_);refine Za M M<|zI<|yW<|zP<|Z12r 1 2 7 8 9 11 12 14 45 46 47 48 M M M M M M M M M M M M<|ZF M (yO M M (show IntKind.i64.wrap ((k:Int)+1)=((k+1:Nat):Int) from i64_in ((k+1:Nat):Int) (by omega) (by omega))) ?_;refine Zm M M<|zI<|yK (ι:={j:Nat×(Option Addr×Nat) // j.1≤nn∧j.1≤j.2.2∧(0<j.1→∃b,j.2.1=some ⟨b,0,none⟩)}) ⟨(k+1,(some ⟨a56,0,none⟩,c56)),by omega,h56,fun _=>⟨a56,rfl⟩⟩ (by show nn-(k+1)<nn-k;omega) (O10 M M M M M M M M M M) (fun w h=>?_);show Hp _ _ _ [⟨_,_,_,_,strV ((B.take (k+1)).map fun c=>Lib.decDigits c.toNat)⟩,_] _ w;rw[hst2];exact Hp.drop h (Ki _ _) (Kh _)
      ·replace h48:=Kf h48;skip;obtain rfl:k=nn:=by omega
       obtain⟨bA,rfl⟩:=hkA hn0;have hBt:B.take k=B:=List.take_of_length_le (by omega);refine xT<|zB<|zB<|xU<|zP<|zZ<|Zm M M<|zE .none M  (v:=.string ⟨(joB (B.map fun c=>Lib.decDigits c.toNat)).toArray⟩) (by kernel_rfl) M (fun w hw=>join_row (l:=B.map fun c=>Lib.decDigits c.toNat) (k:=0) hw (by rw[hBt];rfl) (by rw[Ag];omega) (by omega) (by omega)) ?_;refine ZF rfl (zN rfl rfl (by first|omega|simp<;>omega)) ?_;exact Za M M<|zI<|zU (ι:=Unit) () (.cons M<|.cons M<|.cons M<|.cons M<|.cons M<|.consE M (by rw[hXb];rfl)<|.cons M<|.nil) (fun w h=>Hp.weakX (Hp.drop h (Kh _) (.cons _ (Kh _))) fun _ _=>trivial)
     ·have hXl:X=ln:=by rw[hX,Ad (Kf h38)]
      exact zL<|zU (ι:=Unit) () (.cons M<|.cons M<|.cons M<|.cons M<|.cons M<|.consE M (by rw[hXl];rfl)<|.cons M<|.nil) Jv
    ·refine zX<|zZ<|Zm rfl rfl<|ZF rfl (zN rfl rfl (by first|omega|simp<;>omega)) ?_;refine xK (ι:={i:Option Addr×Nat // out++(X++([10]:Bs))=[]→i.1=none}) (val:=fun _=>.tuple #[.int .i64 ((X++([10]:Bs)).length:Nat),.nilIface]) (H':=fun i=>Hp (fun _=>False) w_0 [(b8,bdO (.pointer (some ⟨b8,0,none⟩)) (.slice i.1.1 (out++(X++([10]:Bs))).length i.1.2))] [rwB i.1.1 i.1.2 (out++(X++([10]:Bs)))] (fun _=>True)) .none M  (tL (by kernel_rfl) M (fun w hw=>(write_any 0 0 (X++([10]:Bs)) hq M M hBA (by omega) w hw).mono fun e w' ⟨e1,A',c',e2,e3⟩=>⟨_,e1,⟨(A',c'),e2⟩,rfl,e3⟩)) (fun ⟨⟨BA2,bc2⟩,hBA2⟩=>?_);refine ZT<|Z7r 1 2 7 8 9 10 11 M M M M M M M<|Zm M M<|Zm M M<|ZF M (yO M M (show IntKind.i64.wrap ((p:Int)+((nn:Nat):Int))=((p+nn:Nat):Int) from i64_in ((p+nn:Nat):Int) (by omega) (by omega))) ?_;refine Za M M<|zI<|yW<|yK (ι:={j:DL // DLI kind org code b8 full j}) ⟨⟨p+nn,f',out++(X++([10]:Bs)),some ⟨b8,0,none⟩,BA2,bc2⟩,⟨by show p+nn≤_;omega,by show code.length-(p+nn)≤f';have:=hj.fu;dsimp only at this;omega,hst,.inr rfl,hBA2⟩⟩ (by show code.length-(p+nn)<code.length-p;omega) (O5 M M M M M) Jv
   ·replace h24:=Kf h24;skip;have hpe:p=code.length:=by omega
    have hof:out=full:=by
     rw[← hje,hpe,List.drop_length];cases f<;>simp[disF,pU]
    refine xT<|zB<|zB<|xU<|zP<|zX<|Z6r 1 2 7 8 9 24 M M M M M M<|xK (ι:=Unit) (val:=fun _=>.string ⟨out.toArray⟩) (H':=fun _=>Hp (fun _=>False) w_0 [(b8,bdO (.pointer q) (.slice BA out.length bc))] [] (fun _=>True)) .none M  (tL (by kernel_rfl) M (fun w hw=>(str_any 0 hBA M w hw).mono fun e w' ⟨e1,e2⟩=>⟨_,e1,(),rfl,e2⟩)) (fun _=>?_);refine Za M M<|ZT<|zQ<|zO M M (fun w hw=>?_);exact⟨by rw[hof],hw.ext0⟩
end Go.Proofs.YtkaepknpplhgkaaGreatDoor
