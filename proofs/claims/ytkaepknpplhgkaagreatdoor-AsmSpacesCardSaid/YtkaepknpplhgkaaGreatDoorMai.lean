/- Instructions of Q read from a word (qcode.Decode); targets of Q. -/
import Derived.Test.YtkaepknpplhgkaaGreatDoorMah
import Derived.Test.YtkaepknpplhgkaaGreatDoorMac
import Derived.Test.YtkaepknpplhgkaaGreatDoorMaa
import Derived.Test.YtkaepknpplhgkaaGreatDoorMad
import Derived.Test.YtkaepknpplhgkaaGreatDoorMaX
import Derived.Test.YtkaepknpplhgkaaGreatDoorMaW
import Derived.Test.YtkaepknpplhgkaaGreatDoorMaf
namespace Go.Proofs.YtkaepknpplhgkaaGreatDoor
open Go.RowKit
section
variable {P:Program}{n:Fr}{m:List (Nat×Value)}{ty:TypeId}{G B:Nat→Prop}{w0 w:World}{L:List (Nat×Obj)}{R:List Rw}{X J:World→Prop}{Q:Exit→Act→World→Prop}{ops:Array Oper}{σ:List Nat}
theorem wd_callVF {d:Nat}{pos:String}{af:Array Edge}{gd:Option (Nat×Bool)}{x:Operand}{f:FuncId}{args:List Operand}{ats:Array TypeId}{us vs cs:List Value}{v:Value}(hg:Gd ops m gd) (hd:Nat.blt d n=true) (hx:ev m x=some (.func (.func f) us.toArray cs.toArray)) (hf:goes P f=true) (ha:evl m args=some vs)
  (hJ:∀w w',J w→Ext w w'→J w')
  (hC:∀w,HpG G B w0 L R X w→Calls P f (us++vs++cs).toArray w fun e w'=>e=.returned v∧Ext w w')
  (h:WD P ops J Q σ G n ((d,v)::m) (HpG G B w0 L R X)):WDo P ops J Q ⟨some d,.call { callee:=.value x,args:=args.toArray,argTypes:=ats },ty,pos,af,gd⟩ σ G n m (HpG G B w0 L R X) :=
 wd_chain (ι:=Unit) (val:=fun _=>v) (H':=fun _=>HpG G B w0 L R X) rfl (fun _ _ e=>by cases e) hg hd (fun _=>HpG.stab)
  (fun _ w _ _ _ _ hs hw hj=>(pS hs hf hx ha ((hC w hw).mono fun _ _ ⟨e1,e2⟩=>⟨_,e1,rfl,e2⟩)).mono
   (R:=fun v' w'=>v'=v∧Ext w w') fun _ w' ⟨e1,e2⟩=>⟨Keep.of_ext e2,hJ w w' hj e2,(),e1,hw.onE e2⟩) fun _=>h
end
theorem fdv (n p:Nat):((n:Int).fdiv (2 ^ p))=((n/2 ^ p:Nat):Int):=by
 rw[Int.fdiv_eq_ediv_of_nonneg _ (Int.le_of_lt (by have:0<(2:Int) ^ p:=Int.pow_pos (by decide);exact this))];simp
abbrev bxW (w:Nat):Obj:=bk 22 [.int .u32 w]
def fldW (w at_:Nat) (u:Bool):Nat:=if u then w/2 ^ at_%16 else 0
theorem fldW_any (u:Bool) (k:Nat) (hk:k≤22) (v:Nat) (hv:v<4294967296) (b:Nat) (w_0:World) (hb:Blk b (bxW v) w_0):Calls Tryz.prog 163 #[.bool u,.int .i64 k,.pointer (some ⟨b,0,none⟩)] w_0 fun e w'=>e=.returned (.int .i64 (fldW v k u:Nat))∧Ext w_0 w':=by
 unfold fldW
 have e1:((v:Int).fdiv (2 ^ (min (k:Int).toNat IntKind.u32.bits)))=((v/2 ^ k:Nat):Int):=by
  rw[show min (k:Int).toNat IntKind.u32.bits=k by have:IntKind.u32.bits=32:=rfl;omega,fdv]
 have e2:((v/2 ^ k:Nat):Int).tmod 16=((v/2 ^ k%16:Nat):Int):=by rw[Int.tmod_eq_emod_of_nonneg (Int.natCast_nonneg _)];simp
 refine zP (args:=[.bool u,.int .i64 k,.pointer (some ⟨b,0,none⟩)]) Tryz.func163 M 13 M (Nat.le_of_ble_eq_true M)<|Z3 0 1 2 M M M<|zU (H':=Hp (fun _=>False) w_0 [] [] (Blk b (bxW v))) (fun u hu=>?_) ?_
 ·subst hu;exact Hp.start ⟨fun k=>k=b,fun k hk=>(by subst hk;exact⟨hb.lt,id⟩),fun u hu=>(hu _ M).trans hb⟩
 refine zX<|zZ<|Za M M<|ZX<|zX<|zZ<|Zm M M<|ZF M (xD M)<|ZT<|zT M (fun h7=>?_) (fun h7=>?_)
 ·refine zX<|Z5r 0 1 2 5 7 M M M M M<|Za M M<|ZT<|zR<|zN<|zO M M (fun w hw=>?_);have h9:u=false:=by simpa using h7
  exact⟨by rw[h9];rfl,hw.ext0⟩
 ·refine zK<|zS<|zX<|Z5r 0 1 2 5 7 M M M M M<|ZF M (zC M Tryz.underlying22 M (fun w hw=>Blk.cell (o:=0) (v:=.int .u32 v) (HpG.x hw) M)) ?_;refine Zm M M ?_;(refine ZF rfl (yf_shr rfl rfl ?_ e1) ?_;(· first|decide|omega);skip);(refine ZF rfl (yf_rem rfl rfl ?_ e2) ?_;(· first|decide|omega);skip)
  refine ZF M (yO M (by kernel_rfl) Tryz.underlying3 (sG (by omega))) ?_
  refine Za M M<|ZT<|zR<|zO M M (fun w hw=>?_);have h9:u=true:=by simpa using h7
  exact⟨by rw[h9];rfl,hw.ext0⟩
/-- What a word's fields are, by the shape of its operation. -/
def mkS (v:Nat) (q:SQ):QI:=⟨(v/67108864:Nat),(fldW v 22 q.d:Nat),(fldW v 18 q.a:Nat),(fldW v 14 q.b:Nat),if q.kind=1 then sxL (v%2 ^ q.bits) q.bits else v%2 ^ q.bits⟩
abbrev qi0:QI:=⟨0,0,0,0,0⟩
theorem decQ_eq (v:Nat):decQ v=if sR (mkS v (wR ((v/67108864:Nat):Int)))=some v then some (mkS v (wR ((v/67108864:Nat):Int))) else none:=by
 unfold decQ
 cases hs:shpQ ((v/67108864:Nat):Int) with
 | none =>
  have:sR (mkS v (wR ((v/67108864:Nat):Int)))=none:=by unfold sR;rw[show (mkS v (wR ((v/67108864:Nat):Int))).op=((v/67108864:Nat):Int) from rfl,hs]
  rw[this];rfl
 | some s =>
  have e:mkS v (wR ((v/67108864:Nat):Int))=mkQ v s:=by
   unfold wR mkS mkQ;rw[hs];dsimp only;unfold fldW;cases s.d<;>cases s.a<;>cases s.b<;>rfl
  rw[e]
def DqPost (v:Nat) (w:World) (e:Ending) (w':World):Prop:=Ext w w'∧e=.returned (match decQ v with
 | some i=>.tuple #[.agg (qiC i).toArray,.int .i64 0]
 | none=>.tuple #[.agg (qiC qi0).toArray,.int .i64 12])
theorem mkS_imm (v:Nat) (q:SQ) (hq:SqOk q):(mkS v q).imm<4294967296:=by
 have h1:v%2 ^ q.bits<2 ^ q.bits:=Nat.mod_lt _ (Nat.pow_pos (by omega));show (if q.kind=1 then sxL (v%2 ^ q.bits) q.bits else v%2 ^ q.bits)<_
 split
 ·next h=>exact sxL_lt (by have:=hq.k h;have:=hq.b;unfold BitA;omega)
 ·rcases hq.b with h|h|h<;>rw[h] at h1 ⊢<;>omega
set_option maxHeartbeats 1000000 in
set_option maxRecDepth 100000 in
theorem qdecode_any (v:Nat) (hv:v<4294967296) (w_0:World):Calls Tryz.prog 92 #[.int .u32 v] w_0 (DqPost v w_0):=by
 unfold DqPost;rw[decQ_eq v];have hq:=sqOf_ok ((v/67108864:Nat):Int);have ho:=fun w=>of_any ((v/67108864:Nat):Int) w;generalize wR ((v/67108864:Nat):Int)=q at hq ho ⊢;have him:=mkS_imm v q hq;have hbits:=hq.b
 have e1:((v:Int).fdiv (2 ^ (min (26:Int).toNat IntKind.u32.bits)))=((v/67108864:Nat):Int):=by
  rw[show min (26:Int).toNat IntKind.u32.bits=26 from rfl,fdv]
 have e5:=mask_w (n:=v) (b:=q.bits) hv (by omega);have hmb:v%2 ^ q.bits<4294967296:=Nat.lt_of_le_of_lt (Nat.mod_le _ _) hv;refine zP (args:=[.int .u32 v]) Tryz.func92 M 62 M (Nat.le_of_ble_eq_true M)<|Z1 0 M<|zU (H':=Hp (fun _=>False) w_0 [] [] (fun _=>True)) (fun u hu=>?_) ?_
 ·subst hu;exact Hp.start0
 refine zX<|zZ<|zM .none M (yF M M) (fun b1=>?_);refine zM .none M (yV (z:=.agg #[.int .i64 0,.int .i64 0,.int .i64 0,.int .i64 0,.int .u32 0]) (cs:=[.int .i64 0,.int .i64 0,.int .i64 0,.int .i64 0,.int .u32 0]) (by kernel_rfl) M) (fun b2=>?_);refine Za M M<|ZX<|zZ<|ZF M (zV 1 M M M Tryz.underlying22 M) ?_;(refine ZF rfl (yf_shr rfl rfl ?_ e1) ?_;(· first|decide|omega);skip)
 refine ZF M (yO M (by kernel_rfl) Tryz.underlying3 (sG (by omega))) ?_
 refine ZF M (yU [.int .i64 0,.int .i64 0,.int .i64 0,.int .i64 0,.int .u32 0] [(0,1),(1,1),(2,1),(3,1),(4,1)] M (by kernel_rfl) (by kernel_rfl) M) ?_;refine zM .none M (yV (z:=.agg #[.int .i64 0,.int .i64 0,.int .i64 0,.int .i64 0,.int .u32 0]) (cs:=[.int .i64 0,.int .i64 0,.int .i64 0,.int .i64 0,.int .u32 0]) (by kernel_rfl) M) (fun b4=>?_);refine ZR 0 M M M M M (by kernel_rfl) ?_;refine ZX<|Z5r 0 1 2 3 4 M M M M M<|ZF M (zY (off:=0) (sz:=0) M Tryz.underlying74 (by kernel_rfl) M) ?_;refine ZF M (zV 0 M M M Tryz.underlying3 M)<|zD .none M  (v:=.agg (sqC q).toArray) (by kernel_rfl) M (fun w hw=>ho w) ?_;refine zM .none M (yV (z:=.agg #[.bool false,.bool false,.bool false,.bool false,.int .i64 0,.int .i64 0,.int .u32 0]) (cs:=[.bool false,.bool false,.bool false,.bool false,.int .i64 0,.int .i64 0,.int .u32 0]) (by kernel_rfl) M) (fun b5=>?_);refine ZR 0 M M M M M (by kernel_rfl) ?_;refine ZX<|Z6r 0 1 2 3 4 5 M M M M M M<|ZF M (xP M M)<|Za M M<|ZX<|Z7 0 1 2 3 4 5 6 M M M M M M M<|sV 13 [0,1,2,3,4,5,6,7,8,9,10,11,12] (fun w=>Blk b1 (bxW v) w∧Blk b5 (bk 212 (sqC q)) w) (by kernel_rfl) (by kernel_rfl) (fun u ob h=>⟨Blk.stab u ob h.1,Blk.stab u ob h.2⟩) (fun w h=>⟨HpG.blk h (k:=3) rfl,HpG.blk h (k:=0) rfl⟩) (fun n0 hn0=>?_);refine Zd M M M (zJ M)<|Zd M M M (zY (off:=1) (sz:=0) M Tryz.underlying212 (by kernel_rfl) M) ?_;refine Zd M M M (zC M Tryz.underlying4 M (fun w hw=>Blk.cell hw.2 M)) ?_;refine wT M<|wd_callVF (us:=[]) (vs:=[.bool q.d,.int .i64 22]) (cs:=[.pointer (some ⟨b1,0,none⟩)]) (v:=.int .i64 (fldW v 22 q.d:Nat)) .none M  M (by kernel_rfl) M (fun _ _ h hx=>⟨Blk.onE h.1 hx,Blk.onE h.2 hx⟩) (fun w hw=>fldW_any q.d 22 (by decide) v hv b1 w (HpG.blk hw (k:=3) M)) ?_;refine Zd M M M (zJ M)<|Zd M M M (zY (off:=2) (sz:=0) M Tryz.underlying212 (by kernel_rfl) M) ?_;refine Zd M M M (zC M Tryz.underlying4 M (fun w hw=>Blk.cell hw.2 M)) ?_;refine wT M<|wd_callVF (us:=[]) (vs:=[.bool q.a,.int .i64 18]) (cs:=[.pointer (some ⟨b1,0,none⟩)]) (v:=.int .i64 (fldW v 18 q.a:Nat)) .none M  M (by kernel_rfl) M (fun _ _ h hx=>⟨Blk.onE h.1 hx,Blk.onE h.2 hx⟩) (fun w hw=>fldW_any q.a 18 (by decide) v hv b1 w (HpG.blk hw (k:=3) M)) ?_;refine Zd M M M (zJ M)<|Zd M M M (zY (off:=3) (sz:=0) M Tryz.underlying212 (by kernel_rfl) M) ?_;refine Zd M M M (zC M Tryz.underlying4 M (fun w hw=>Blk.cell hw.2 M)) ?_;refine wT M<|wd_callVF (us:=[]) (vs:=[.bool q.b,.int .i64 14]) (cs:=[.pointer (some ⟨b1,0,none⟩)]) (v:=.int .i64 (fldW v 14 q.b:Nat)) .none M  M (by kernel_rfl) M (fun _ _ h hx=>⟨Blk.onE h.1 hx,Blk.onE h.2 hx⟩) (fun w hw=>fldW_any q.b 14 (by decide) v hv b1 w (HpG.blk hw (k:=3) M)) ?_;refine Zd M M M (zY (off:=1) (sz:=0) M Tryz.underlying74 (by kernel_rfl) M) ?_;refine rK ?_;simp only[List.drop_succ_cons,List.drop_zero];refine ZS 1 M M M M M (by kernel_rfl) ?_
 refine ZF M (zY (off:=2) (sz:=0) M Tryz.underlying74 (by kernel_rfl) M) ?_;refine ZS 1 M M M M M (by kernel_rfl) ?_;refine ZF M (zY (off:=3) (sz:=0) M Tryz.underlying74 (by kernel_rfl) M) ?_;refine ZS 1 M M M M M (by kernel_rfl) ?_;refine ZX<|Z7 0 1 2 3 4 5 6 M M M M M M M<|wc_still 7 (by kernel_rfl) (by kernel_rfl) (fun _ h=>HpG.drew h) ?_;refine yP .none M (zV 3 M M M Tryz.underlying22 M)<|yP .none M (zY (off:=5) (sz:=0) M Tryz.underlying212 (by kernel_rfl) M) ?_;refine yP .none M (zV 0 M M M Tryz.underlying3 M) ?_;(refine yP .none rfl (sC rfl rfl ?_ rfl) ?_;(· first|decide|omega);skip);refine yP .none M (wU M M M)<|yP .none M (yf_and M M e5)<|yP .none M (zY (off:=4) (sz:=0) M Tryz.underlying74 (by kernel_rfl) M) ?_;refine wt_tail<|ZS 1 M M M M M (by kernel_rfl) ?_;refine ZX<|zX<|Z7r 0 1 2 3 4 5 6 M M M M M M M<|ZF M (zY (off:=4) (sz:=0) M Tryz.underlying212 (by kernel_rfl) M) ?_;refine ZF M (zV 0 M M M Tryz.underlying3 M)<|ZF M (yR M M)<|ZT<|zT M (fun h41=>?_) (fun h41=>?_)
 ·replace h41:=eq_of_beq h41;have hi:mkS v q=⟨(v/67108864:Nat),(fldW v 22 q.d:Nat),(fldW v 18 q.a:Nat),(fldW v 14 q.b:Nat),sxL (v%2 ^ q.bits) q.bits⟩:=by unfold mkS;rw[if_pos (by omega)]
  rw[hi] at him ⊢;have hqe:=fun w=>qencode_any ⟨(v/67108864:Nat),(fldW v 22 q.d:Nat),(fldW v 18 q.a:Nat),(fldW v 14 q.b:Nat),sxL (v%2 ^ q.bits) q.bits⟩ him w;obtain⟨vd,hvd⟩:∃x,x=vP ⟨(v/67108864:Nat),(fldW v 22 q.d:Nat),(fldW v 18 q.a:Nat),(fldW v 14 q.b:Nat),sxL (v%2 ^ q.bits) q.bits⟩:=⟨_,rfl⟩;unfold vP at hvd;obtain⟨en,hen⟩:∃x,x=sR ⟨(v/67108864:Nat),(fldW v 22 q.d:Nat),(fldW v 18 q.a:Nat),(fldW v 14 q.b:Nat),sxL (v%2 ^ q.bits) q.bits⟩:=⟨_,rfl⟩;unfold vP at hqe;rw[← hen] at hvd ⊢;simp only[← hen,← hvd] at hqe;refine Z8r 0 1 2 3 4 5 6 41 M M M M M M M M<|ZF M (zY (off:=4) (sz:=0) M Tryz.underlying74 (by kernel_rfl) M) ?_;refine ZF M (zV 1 M M M Tryz.underlying22 M)<|ZF M (zY (off:=5) (sz:=0) M Tryz.underlying212 (by kernel_rfl) M) ?_;refine ZF M (zV 0 M M M Tryz.underlying3 M)<|zD .none M  (v:=.int .u32 (sxL (v%2 ^ q.bits) q.bits)) (by kernel_rfl) M (fun w hw=>sign_any (v%2 ^ q.bits) q.bits hmb (by have:=hq.k (by omega);unfold BitA;omega) w) ?_;refine ZF M (zY (off:=4) (sz:=0) M Tryz.underlying74 (by kernel_rfl) M) ?_;refine ZS 1 M M M M M (by kernel_rfl) ?_;refine ZX<|zX<|Z8r 0 1 2 3 4 5 6 41 M M M M M M M M<|ZF M (yS 1 M M Tryz.underlying74 M (by kernel_rfl)) ?_;refine zD .none M  (by kernel_rfl) M (fun w hw=>hqe w) ?_;refine Zm M M<|ZF M (zH M M)<|ZF M (zH M M)<|Za M M<|Za M M<|ZX<|Z10r 0 1 2 3 4 5 6 7 8 41 M M M M M M M M M M<|Zm M M<|ZF M (uU M M)<|Zm M M<|zA 55 M (fun g3=>?_) (fun g3=>?_)
  ·replace g3:=vL g3;refine ZP M<|ZP M<|ZP M<|ZF M (zI M M)<|ZT<|sN M<|zX<|Z11r 0 1 2 3 4 5 6 7 8 41 59 M M M M M M M M M M M<|ZF M (yU [.int .i64 0,.int .i64 0,.int .i64 0,.int .i64 0,.int .u32 0] [(0,1),(1,1),(2,1),(3,1),(4,1)] M (by kernel_rfl) (by kernel_rfl) M) ?_;refine ZR 2 M M M M M (by kernel_rfl) ?_;refine Za M M<|ZT<|zR<|zN<|vI M M M 2 M Tryz.underlying74 M (by kernel_rfl) (fun w hw=>?_)
   have h9:en=none:=by cases en with
    | none=>rfl
    | some x=>rw[show vd=true from hvd,if_pos rfl] at g3;exact absurd M g3
   exact⟨hw.ext0,by rw[h9];rfl⟩
  ·replace g3:=uC g3;refine ZG M M M (zJ M)<|ZG M M M (zV 3 M M M Tryz.underlying22 M)<|ZG M M M (uU M M)<|ZF M (zG M M)<|ZT<|zT M (fun h59=>?_) (fun h59=>?_)
   ·replace h59:=vL h59;refine zX<|Z11r 0 1 2 3 4 5 6 7 8 41 59 M M M M M M M M M M M<|ZF M (yU [.int .i64 0,.int .i64 0,.int .i64 0,.int .i64 0,.int .u32 0] [(0,1),(1,1),(2,1),(3,1),(4,1)] M (by kernel_rfl) (by kernel_rfl) M) ?_;refine ZR 2 M M M M M (by kernel_rfl) ?_;refine Za M M<|ZT<|zR<|zN<|vI M M M 2 M Tryz.underlying74 M (by kernel_rfl) (fun w hw=>?_);have h9:en≠some v:=fun e=>by rw[e] at h59;exact h59 rfl
    exact⟨hw.ext0,by rw[if_neg h9];rfl⟩
   ·replace h59:=uC h59;refine zK<|zS<|zX<|Z11r 0 1 2 3 4 5 6 7 8 41 59 M M M M M M M M M M M<|ZF M (yS 1 M M Tryz.underlying74 M (by kernel_rfl)) ?_;refine ZR 2 M M M M M (by kernel_rfl) ?_;refine Za M M<|ZT<|zR<|vI M M M 2 M Tryz.underlying74 M (by kernel_rfl) (fun w hw=>?_)
    have h9:en=some v:=by cases en with
     | none=>rw[show vd=false from hvd] at g3;cases g3
     | some x=>rw[Int.ofNat_inj.1 (show ((x:Nat):Int)=v from h59)]
    exact⟨hw.ext0,by rw[if_pos h9];rfl⟩
 ·replace h41:=yH h41;have hi:mkS v q=⟨(v/67108864:Nat),(fldW v 22 q.d:Nat),(fldW v 18 q.a:Nat),(fldW v 14 q.b:Nat),v%2 ^ q.bits⟩:=by unfold mkS;rw[if_neg (by omega)]
  rw[hi] at him ⊢;have hqe:=fun w=>qencode_any ⟨(v/67108864:Nat),(fldW v 22 q.d:Nat),(fldW v 18 q.a:Nat),(fldW v 14 q.b:Nat),v%2 ^ q.bits⟩ him w;obtain⟨vd,hvd⟩:∃x,x=vP ⟨(v/67108864:Nat),(fldW v 22 q.d:Nat),(fldW v 18 q.a:Nat),(fldW v 14 q.b:Nat),v%2 ^ q.bits⟩:=⟨_,rfl⟩;unfold vP at hvd;obtain⟨en,hen⟩:∃x,x=sR ⟨(v/67108864:Nat),(fldW v 22 q.d:Nat),(fldW v 18 q.a:Nat),(fldW v 14 q.b:Nat),v%2 ^ q.bits⟩:=⟨_,rfl⟩;unfold vP at hqe;rw[← hen] at hvd ⊢;simp only[← hen,← hvd] at hqe;refine zK<|zS<|zX<|zX<|Z8r 0 1 2 3 4 5 6 41 M M M M M M M M<|ZF M (yS 1 M M Tryz.underlying74 M (by kernel_rfl)) ?_;refine zD .none M  (by kernel_rfl) M (fun w hw=>hqe w) ?_;refine Zm M M<|ZF M (zH M M)<|ZF M (zH M M)<|Za M M<|Za M M<|ZX<|Z10r 0 1 2 3 4 5 6 7 8 41 M M M M M M M M M M<|Zm M M<|ZF M (uU M M)<|Zm M M<|zA 55 M (fun g3=>?_) (fun g3=>?_)
  ·replace g3:=vL g3;refine ZP M<|ZP M<|ZP M<|ZF M (zI M M)<|ZT<|sN M<|zX<|Z11r 0 1 2 3 4 5 6 7 8 41 59 M M M M M M M M M M M<|ZF M (yU [.int .i64 0,.int .i64 0,.int .i64 0,.int .i64 0,.int .u32 0] [(0,1),(1,1),(2,1),(3,1),(4,1)] M (by kernel_rfl) (by kernel_rfl) M) ?_;refine ZR 2 M M M M M (by kernel_rfl) ?_;refine Za M M<|ZT<|zR<|zN<|vI M M M 2 M Tryz.underlying74 M (by kernel_rfl) (fun w hw=>?_)
   have h9:en=none:=by cases en with
    | none=>rfl
    | some x=>rw[show vd=true from hvd,if_pos rfl] at g3;exact absurd M g3
   exact⟨hw.ext0,by rw[h9];rfl⟩
  ·replace g3:=uC g3;refine ZG M M M (zJ M)<|ZG M M M (zV 3 M M M Tryz.underlying22 M)<|ZG M M M (uU M M)<|ZF M (zG M M)<|ZT<|zT M (fun h59=>?_) (fun h59=>?_)
   ·replace h59:=vL h59;refine zX<|Z11r 0 1 2 3 4 5 6 7 8 41 59 M M M M M M M M M M M<|ZF M (yU [.int .i64 0,.int .i64 0,.int .i64 0,.int .i64 0,.int .u32 0] [(0,1),(1,1),(2,1),(3,1),(4,1)] M (by kernel_rfl) (by kernel_rfl) M) ?_;refine ZR 2 M M M M M (by kernel_rfl) ?_;refine Za M M<|ZT<|zR<|zN<|vI M M M 2 M Tryz.underlying74 M (by kernel_rfl) (fun w hw=>?_);have h9:en≠some v:=fun e=>by rw[e] at h59;exact h59 rfl
    exact⟨hw.ext0,by rw[if_neg h9];rfl⟩
   ·replace h59:=uC h59;refine zK<|zS<|zX<|Z11r 0 1 2 3 4 5 6 7 8 41 59 M M M M M M M M M M M<|ZF M (yS 1 M M Tryz.underlying74 M (by kernel_rfl)) ?_;refine ZR 2 M M M M M (by kernel_rfl) ?_;refine Za M M<|ZT<|zR<|vI M M M 2 M Tryz.underlying74 M (by kernel_rfl) (fun w hw=>?_)
    have h9:en=some v:=by cases en with
     | none=>rw[show vd=false from hvd] at g3;cases g3
     | some x=>rw[Int.ofNat_inj.1 (show ((x:Nat):Int)=v from h59)]
    exact⟨hw.ext0,by rw[if_pos h9];rfl⟩
theorem branch_any (op:Int) (w_0:World):Calls Tryz.prog 157 #[.int .i64 op] w_0 fun e w'=>e=.returned (.bool (decide (32≤op∧op≤37)))∧Ext w_0 w':=by
 refine zP (args:=[.int .i64 op]) Tryz.func157 M 9 M (Nat.le_of_ble_eq_true M)<|Z1 0 M<|zU (H':=Hp (fun _=>False) w_0 [] [] (fun _=>True)) (fun u hu=>?_) ?_
 ·subst hu;exact Hp.start0
 refine zX<|zZ<|Za M M<|ZX<|zZ<|Zm M M<|ZF M (vG M M)<|Zm M M<|zA 5 M (fun g3=>?_) (fun g3=>?_)
 ·replace g3:=of_decide_eq_true g3;refine ZG M M M (zJ M)<|ZG M M M (vJ M M)<|ZF M (zI M M)<|Za M M<|ZT<|zR<|zO M M (fun w hw=>?_);exact⟨by congr 2;rw[Bool.eq_iff_iff,decide_eq_true_eq,decide_eq_true_eq];omega,hw.ext0⟩
 ·replace g3:=of_decide_eq_false g3;refine ZP M<|ZP M<|ZF M (zG M M)<|Za M M<|ZT<|zR<|zO M M (fun w hw=>?_);exact⟨by rw[decide_eq_false (by omega)],hw.ext0⟩
theorem qtarget_any (i:QI) (hi:i.imm<4294967296) (hv:vP i=true) (hj:qL i.op=true) (a:Nat) (ha:a<4294967296) (w_0:World):Calls Tryz.prog 82 #[.agg (qiC i).toArray,.int .u32 a] w_0 fun e w'=>e=.returned (.tuple #[.int .u32 ((a+4*i.imm)%4294967296:Nat),.bool true])∧Ext w_0 w':=by
 have e1:∀z:Int,IntKind.u32.wrap z=z%4294967296:=fun _=>rfl;have e2:IntKind.u32.wrap ((a:Int)+IntKind.u32.wrap (4*(i.imm:Int)))=((a+4*i.imm)%4294967296:Nat):=by rw[e1,e1];omega
 have hj':i.op=40∨(32≤i.op∧i.op≤37):=by
  unfold qL at hj;simp only[Bool.or_eq_true,decide_eq_true_eq] at hj;omega
 refine zP (args:=[.agg (qiC i).toArray,.int .u32 a]) Tryz.func82 M 25 M (Nat.le_of_ble_eq_true M)<|Z2 0 1 M M<|zU (H':=Hp (fun _=>False) w_0 [] [] (fun _=>True)) (fun u hu=>?_) ?_
 ·subst hu;exact Hp.start0
 refine zX<|zZ<|zM .none M (yF M M) (fun b2=>?_);refine Za M M<|Za M M<|ZX<|zX<|zZ<|ZF M (yS 0 M M Tryz.underlying74 M (by kernel_rfl)) ?_;refine zD .none M  (v:=.bool true) (by kernel_rfl) M (fun w hw=>(qvalid_any i hi w).mono fun e w' ⟨h1,h2⟩=>⟨by rw[h1,hv],h2⟩) ?_;refine ZF M (xD M)<|Zm M M<|zA 9 M (fun hb=>?_) (fun hb=>?_)
 ·cases hb
 ·refine ZG M M M (zY (off:=0) (sz:=0) M Tryz.underlying74 (by kernel_rfl) M) ?_;refine ZG M M M (zV 0 M M M Tryz.underlying3 M)<|ZG M M M (uU M M)<|ZG M M M (zJ M)<|zA 13 M (fun g8=>?_) (fun g8=>?_)
  ·replace g8:=vL g8;refine ZG M M M (zY (off:=0) (sz:=0) M Tryz.underlying74 (by kernel_rfl) M) ?_;refine ZG M M M (zV 0 M M M Tryz.underlying3 M)<|zD (.some M M) M  (v:=.bool (decide (32≤i.op∧i.op≤37))) (by kernel_rfl) M (fun w hw=>branch_any i.op w) ?_;refine ZG M M M (xD M)<|ZG M M M (zI M M)<|ZF M (zG M M)<|ZT<|zT M (fun h19=>?_) (fun h19=>?_)
   ·first|(exact absurd h19 (by rw[decide_eq_true (show 32≤i.op∧i.op≤37 by omega)];decide))|cases h19
   ·refine zK<|zS<|zX<|Z6r 0 1 2 4 5 19 M M M M M M<|Zm M M<|ZF M (zY (off:=4) (sz:=0) M Tryz.underlying74 (by kernel_rfl) M) ?_;refine ZF M (zV 0 M M M Tryz.underlying22 M)<|ZF M (yf_mul M M M)<|ZF M (yK M M e2)<|Za M M<|Za M M<|ZT<|zR<|uQ M M M (fun w hw=>?_);exact⟨rfl,hw.ext0⟩
  ·replace g8:=uC g8;refine ZP M<|ZP M<|ZP M<|ZP M<|ZG M M M (zG M M)<|ZF M (zG M M)<|ZT<|tZ M<|zK<|zS<|zX<|Z6r 0 1 2 4 5 19 M M M M M M<|Zm M M<|ZF M (zY (off:=4) (sz:=0) M Tryz.underlying74 (by kernel_rfl) M) ?_;refine ZF M (zV 0 M M M Tryz.underlying22 M)<|ZF M (yf_mul M M M)<|ZF M (yK M M e2)<|Za M M<|Za M M<|ZT<|zR<|uQ M M M (fun w hw=>?_);exact⟨rfl,hw.ext0⟩
end Go.Proofs.YtkaepknpplhgkaaGreatDoor
/- Joined strings; names looked up; a space cut off. -/
namespace Go.Proofs.YtkaepknpplhgkaaGreatDoor
open Go.RowKit
section
variable {P:Program}{n:Fr}{m:List (Nat×Value)}{ty:TypeId}
theorem yf_lookupV {ik:IntKind}{H:World→Prop}{x y:Operand}{T K E:TypeId}{g c:Nat}{es:Array MapEntry}{key:Int}{z:Value}{r:Option (Nat×Value)}(hx:ev m x=some (.map (some g))) (hy:ev m y=some (.int ik key)) (hr:∀w,H w→w.heap[g]? = some (.map es c)) (hT:P.underlying T=some (.map K E)) (hK:P.underlying K=some (.int ik)) (hz:∀w,(zeroValue E).run P w=.ok z w) (hf:Instr.findNow (.int ik) (.int ik key) es.toList 0=some r) :
  YF P (.lookup T x y false) ty n m H ((r.map (·.2)).getD z):=fun a w d pos af gd hs hw=>by
 have hc:(Instr.checkKey es.isEmpty 10000 K (.int ik key)).run P w=.ok () w:=MapKept.run_checkKey (k:=.int ik key) hK (by simp[MapKept.IsKey]) _ 9999
 have hl:(Instr.lookup T (.map (some g)) (.int ik key) false).run P w=.ok ((r.map (·.2)).getD z) w:=by
  cases r with
  | none=>simp[Instr.lookup,run_underlying hT,MapKept.run_getObj_map (hr w hw),hc,MapKept.run_findKey hK hf,hz,Result.andThen]
  | some v=>simp[Instr.lookup,run_underlying hT,MapKept.run_getObj_map (hr w hw),hc,MapKept.run_findKey hK hf,Result.andThen]
 simp[Yl,execOp,hs.ev hx,hs.ev hy,hl]
theorem nf_bs0F {t e:TypeId}{size:Nat}(ht:P.underlying t=some (.slice e)) (hs':(P.info? e).map (·.size)=some size):NF P (.buildSlice t 0 #[]) ty n m (bk e []) (fun g=>.slice (some ⟨g,0,none⟩) 0 0):=by
 intro a w d pos af g hs
 cases hq:P.info? e with
 | none=>simp[hq] at hs'
 | some i =>
  have:(Instr.buildSlice t 0 #[]).run P w=.ok (.slice (some ⟨w.heap.size,0,none⟩) 0 0) (w.alloc (bk e [])):=by
   simp[Instr.buildSlice,run_underlying ht,sizeOf,typeInfo,hq,newRow,Instr.fill];rw[show Array.range 0=#[] from Array.ext (by simp) (by simp),Array.map_empty]
  simp[execOp,this]
end
theorem findQ (key:Nat):∀(l:List (Nat×Bs)) (i j:Nat),∃n,Instr.findNow (.int .i64) (.int .i64 (key:Int)) ((l.zipIdx i).map fun p=>{ key:=.int .i64 p.1.1,val:=.string ⟨p.1.2.toArray⟩,born:=p.2 }) j=some ((l.find? fun p=>Nat.beq p.1 key).map fun p=>(n,.string ⟨p.2.toArray⟩))
 | [],_,_=>⟨0,rfl⟩
 | (k,x)::l,i,j=>by
  simp only[List.zipIdx_cons,List.map_cons,Instr.findNow,same_int,List.find?_cons]
  by_cases h:k=key
  ·subst h;exact⟨j,by rw[decide_eq_true rfl,show Nat.beq k k=true from Nat.beq_refl k];rfl⟩
  ·obtain⟨n,hn⟩:=findQ key l (i+1) (j+1);refine⟨n,?_⟩;rw[decide_eq_false (by omega),show Nat.beq k key=false from Bool.eq_false_iff.2 fun e=>h (Nat.eq_of_beq_eq_true e)];exact hn
/-- The name of an operation of Q, as a map finds it. -/
theorem qnm_look (op:Nat):∃r,Instr.findNow (.int .i64) (.int .i64 (op:Int)) (mapNE sI).toArray.toList 0=some r∧(r.map (·.2)).getD (.string ⟨#[]⟩)=.string ⟨(vH op).toArray⟩:=by
 obtain⟨n,hn⟩:=findQ op sI 0 0;refine⟨_,hn,?_⟩;unfold vH;cases sI.find? fun p=>Nat.beq p.1 op<;>rfl
theorem zero_str:∀w:World,(zeroValue 9).run Tryz.prog w=.ok (.string ⟨#[]⟩) w:=fun w=>by kernel_rfl
theorem join_jo:∀l:List Bs,Lib.join l [44,32]=joB l
 | []=>rfl
 | [x]=>by simp[Lib.join,joB]
 | x::y::r=>by
  have ih:=join_jo (y::r);unfold Lib.join at ih ⊢;show _=x++[44,32]++joB (y::r);rw[← ih];simp[List.intercalate,List.intersperse]
abbrev strV (l:List Bs):List Value:=l.map fun x=>.string ⟨x.toArray⟩
theorem join_row {w0 w:World}{L:List (Nat×Obj)}{R:List Rw}{X:World→Prop}{k b n cap:Nat}{l:List Bs}(h:Hp (fun _=>False) w0 L R X w) (hk:R[k]? = some ⟨.slice (some ⟨b,0,none⟩) n cap,9,1,n,strV l⟩) (hn:l.length=n) (hN:n≤1000000000) (hl:(joB l).length≤100000000000) :
  Calls Tryz.prog 86 #[.slice (some ⟨b,0,none⟩) n cap,.string ⟨#[44,32]⟩] w fun e w'=>e=.returned (.string ⟨(joB l).toArray⟩)∧Ext w w':=by
 subst hn;obtain⟨rest,hb⟩:=HpG.rowBlock h hk;have hcp:=HpG.rowCp h hk;have hm:(l.map fun x=>(⟨x.toArray⟩:ByteArray)).map (·.data.toList)=l:=by rw[List.map_map];exact (List.map_congr_left fun x _=>rfl).trans (List.map_id l)
 have:=Tryz.strings_Join b 0 cap (l.map fun x=>⟨x.toArray⟩) ⟨#[44,32]⟩ w (fun j x hj=>?_) (Array.getElem?_eq_some_iff.1 hb).1 (by rw[List.length_map];omega) (by rw[List.length_map];exact hcp.1) (by rw[hm];show (Lib.join l [44,32]).length≤_;rw[join_jo];omega)
 ·rw[hm,List.length_map] at this;refine this.mono fun e w' ⟨h1,h2⟩=>⟨?_,h2⟩;rw[h1,← join_jo]
 ·rw[List.getElem?_map] at hj
  cases hlj:l[j]? with
  | none=>rw[hlj] at hj;cases hj
  | some s =>
   rw[hlj] at hj;cases hj;refine Blk.cell hb ?_;rw[Nat.zero_add,List.getElem?_append_left (by rw[List.length_map];exact (List.getElem?_eq_some_iff.1 hlj).1),List.getElem?_map,hlj];rfl
end Go.Proofs.YtkaepknpplhgkaaGreatDoor
/- Lines of instructions of Q (asm.LineQ). -/
namespace Go.Proofs.YtkaepknpplhgkaaGreatDoor
open Go.RowKit
/-- A text that does not end with a space. -/
def NoSp (s:Bs):Prop:=∃y c,s=y++[c]∧c≠32
theorem NoSp.pre {s:Bs}(t:Bs) (h:NoSp s):NoSp (t++s):=by
 obtain⟨y,c,rfl,hc⟩:=h;exact⟨t++y,c,(List.append_assoc ..).symm,hc⟩
theorem dec_nosp (n:Nat):NoSp (Lib.decDigits n):=by
 obtain⟨h1,_,h3⟩:=dec_all (n+1) n (by omega);refine⟨_,_,(List.dropLast_concat_getLast h3).symm,fun e=>?_⟩;have:=h1 _ (List.getLast_mem h3);rw[e] at this;exact absurd this (by decide)
theorem prtQ_nosp (i:QI) (a:Nat) (c:UInt8) (k:Nat):NoSp (prtQ i a c k):=by
 unfold prtQ
 split
 ·exact (dec_nosp _).pre [114]
 ·split
  ·unfold qK
   split
   ·exact dec_nosp _
   ·split
    ·exact dec_nosp _
    ·unfold tX
     split
     ·exact (dec_nosp _).pre [45]
     ·exact dec_nosp _
  ·exact⟨_,93,rfl,by decide⟩
theorem joB_nosp:∀{l:List Bs},l≠[]→(∀x∈l,NoSp x)→NoSp (joB l)
 | [],h,_=>absurd rfl h
 | [x],_,h=>h x (by simp)
 | x::y::r,_,h=>(joB_nosp (l:=y::r) (by simp) fun z hz=>h z (List.mem_cons_of_mem _ hz)).pre (x++[44,32])
theorem prtsQ_nosp (i:QI) (a:Nat):∀(l:List UInt8) (k:Nat),∀x∈qQ i a l k,NoSp x
 | [],_,_,h=>nomatch h
 | c::l,k,x,h=>by
  rcases List.mem_cons.1 h with rfl|h
  ·exact prtQ_nosp i a c k
  ·exact prtsQ_nosp i a l (k+1) x h
theorem trim_sp (s:Bs):Lib.trimSuffix (s++[32]) [32]=s:=by
 unfold Lib.trimSuffix Lib.hasSuffix;simp
theorem trim_no {s:Bs}(h:NoSp s):Lib.trimSuffix s [32]=s:=by
 obtain⟨y,c,rfl,hc⟩:=h;unfold Lib.trimSuffix Lib.hasSuffix;simp[hc,Ne.symm hc]
theorem lnQ_trim (i:QI) (a:Nat):Lib.trimSuffix (vH i.op.toNat++[32]++joB (qQ i a (vS i.op.toNat) 0)) [32]=lnQ i a:=by
 unfold lnQ
 by_cases h:vS i.op.toNat=[]
 ·rw[if_pos h,h];show Lib.trimSuffix (vH i.op.toNat++[32]++[]) [32]=_;rw[List.append_nil,trim_sp]
 ·rw[if_neg h];refine trim_no ((joB_nosp ?_ (prtsQ_nosp i a _ 0)).pre _)
  cases hs:vS i.op.toNat with
  | nil=>exact absurd hs h
  | cons c r=>intro e;cases e
theorem trimS_any (s:Bs) (hs:s.length≤1000000) (w:World):Calls Tryz.prog 84 #[.string ⟨s.toArray⟩,.string ⟨#[32]⟩] w fun e w'=>e=.returned (.string ⟨(Lib.trimSuffix s [32]).toArray⟩)∧Ext w w' :=
 (Tryz.strings_TrimSuffix ⟨s.toArray⟩ ⟨#[32]⟩ w (by show s.toArray.size≤_;rw[List.size_toArray];omega)).mono fun _ _ ⟨h1,h2⟩=>⟨h1,h2▸Ext.refl _⟩
theorem prtsQ_at {i:QI}{a:Nat}:∀{l:List UInt8}{k p:Nat}{c:UInt8},l[p]? = some c→(qQ i a l k)[p]? = some (prtQ i a c (k+p))
 | [],_,_,_,h=>by cases h
 | x::l,k,0,c,h=>by cases h;rfl
 | x::l,k,p+1,c,h=>by
  have:=prtsQ_at (i:=i) (a:=a) (l:=l) (k:=k+1) (p:=p) h;rw[show k+(p+1)=k+1+p by omega];exact this
theorem shq_in {op:Nat}{p:Nat}{c:UInt8}(h:(vS op)[p]? = some c):c=114∨c=118∨c=109:=by
 have hm:=List.mem_of_getElem? h
 have:∀x∈vS op,x=114∨x=118∨x=109:=by
  unfold vS
  repeat' split
  all_goals decide
 exact this c hm
theorem shq_reg {op:Nat}{p:Nat}(h:p<(vS op).length):p+xG op<3:=by
 unfold xG;have h3:=shqL_le op
 split
 ·next hq =>
  rcases hq with hq|hq
  ·have:op=52:=by omega
   subst this;have:(vS 52).length=1:=rfl;omega
  ·have:op=54:=by omega
   subst this;have:(vS 54).length=2:=rfl;omega
 ·omega
def lnQV (i:QI) (a:Nat):Bs:=if vP i=true then lnQ i a else []
theorem regs_at (i:QI) {p:Nat}(h:p+xG i.op<3):([.int .i64 i.d,.int .i64 i.a,.int .i64 i.b]:List Value)[xG i.op+p]? = some (.int .i64 ((qR i).getD p 0)):=by
 unfold qR;unfold xG at h ⊢
 split
 ·next hq =>
  rw[if_pos hq] at h;have:p=0∨p=1:=by omega
  rcases this with rfl|rfl<;>rfl
 ·next hq =>
  rw[if_neg hq] at h;have:p=0∨p=1∨p=2:=by omega
  rcases this with rfl|rfl|rfl<;>rfl
theorem vq_rng {i:QI}(h:VQ i):(0≤i.op∧i.op<64)∧(0≤i.d∧i.d<16)∧(0≤i.a∧i.a<16)∧(0≤i.b∧i.b<16):=by
 cases h<;>dsimp only<;>omega
end Go.Proofs.YtkaepknpplhgkaaGreatDoor
/- Lines of instructions of Q (asm.LineQ), walked. -/
namespace Go.Proofs.YtkaepknpplhgkaaGreatDoor
open Go.RowKit
set_option maxHeartbeats 4000000 in
set_option maxRecDepth 100000 in
theorem lineQ_any (i:QI) (hi:i.imm<4294967296) (a:Nat) (ha:a<4294967296) (w_0:World) (hK:WOk w_0):Calls Tryz.prog 33 #[.agg (qiC i).toArray,.int .u32 a] w_0 fun e w'=>e=.returned (.string ⟨(lnQV i a).toArray⟩)∧Ext w_0 w':=by
 unfold lnQV
 cases hv:vP i with
 | false =>
  refine zP (args:=[.agg (qiC i).toArray,.int .u32 a]) Tryz.func33 M 113 M (Nat.le_of_ble_eq_true M)<|Z2 0 1 M M<|zU (H':=Hp (fun _=>False) w_0 [] [] (fun _=>True)) (fun u hu=>?_) ?_
  ·subst hu;exact Hp.start0
  refine zX<|zZ<|zM .none M (yF M M) (fun b2=>?_);refine Za M M<|ZX<|zX<|zZ<|ZF M (yS 0 M M Tryz.underlying74 M (by kernel_rfl)) ?_;refine zD .none M  (v:=.bool false) (by kernel_rfl) M (fun w hw=>(qvalid_any i hi w).mono fun e w' ⟨h1,h2⟩=>⟨by rw[h1,hv],h2⟩) ?_;refine ZF M (xD M)<|ZT<|zT M (fun hc=>?_) (fun hc=>?_)
  ·refine zX<|Z5r 0 1 2 4 14 M M M M M<|Za M M<|ZT<|zR<|zN<|zO M M (fun w hw=>?_);exact⟨rfl,hw.ext0⟩
  ·cases hc
 | true =>
  have hvq:=vQ_of hi hv;obtain⟨⟨ho0,ho1⟩,⟨hd0,hd1⟩,⟨ha0,ha1⟩,hb0,hb1⟩:=vq_rng hvq;have hsm:=vq_sm hvq;have hil:=sgnB_len hi;have hop:((i.op.toNat:Nat):Int)=i.op:=Int.toNat_of_nonneg ho0;have hqo:xG (i.op.toNat:Nat)=xG i.op:=by rw[hop]
  obtain⟨S,hS⟩:∃S,S=vS i.op.toNat:=⟨_,rfl⟩;have hS3:S.length≤3:=by rw[hS];exact shqL_le _
  obtain⟨hpn,hpl⟩:=prtsQ_len hsm a S 0;have hpt:=fun p c (h:S[p]? = some c)=>prtsQ_at (i:=i) (a:=a) (k:=0) h;obtain⟨T,hT⟩:∃T,T=qQ i a S 0:=⟨_,rfl⟩;rw[← hT] at hpn hpl hpt;have hjl:(joB T).length≤100:=by have:=joB_len hpl;omega
  have htr:=lnQ_trim i a;rw[← hS,← hT] at htr;have hnl:=qnmL_len i.op.toNat;have hral:(rgB i.a).length≤3:=rgB_len (by omega);have hol:(uS i.imm).length≤11:=offB_len hi;obtain⟨mr,hm1,hm2⟩:=qnm_look i.op.toNat;rw[hop] at hm1
  have hr15:∀k,0≤(qR i).getD k 0∧(qR i).getD k 0<16:=by
   intro k;unfold qR
   split
   ·match k with
    | 0=>exact⟨ha0,ha1⟩
    | 1=>exact⟨hb0,hb1⟩
    | k+2=>exact⟨Int.le_refl 0,(by decide:(0:Int)<16)⟩
   ·match k with
    | 0=>exact⟨hd0,hd1⟩
    | 1=>exact⟨ha0,ha1⟩
    | 2=>exact⟨hb0,hb1⟩
    | k+3=>exact⟨Int.le_refl 0,(by decide:(0:Int)<16)⟩
  rw[if_pos rfl];refine zP (args:=[.agg (qiC i).toArray,.int .u32 a]) Tryz.func33 M 113 M (Nat.le_of_ble_eq_true M)<|Z2 0 1 M M<|zU (H':=Hp (fun _=>False) w_0 [] [] (fun _=>True)) (fun u hu=>?_) ?_
  ·subst hu;exact Hp.start0
  refine zX<|zZ<|zM .none M (yF M M) (fun b2=>?_);refine Za M M<|ZX<|zX<|zZ<|ZF M (yS 0 M M Tryz.underlying74 M (by kernel_rfl)) ?_;refine zD .none M  (v:=.bool true) (by kernel_rfl) M (fun w hw=>(qvalid_any i hi w).mono fun e w' ⟨h1,h2⟩=>⟨by rw[h1,hv],h2⟩) ?_;refine ZF M (xD M)<|ZT<|zT M (fun hc=>?_) (fun hc=>?_)
  ·cases hc
  ·refine zK<|zS<|zX<|Z5r 0 1 2 4 14 M M M M M<|ZF M (zY (off:=4) (sz:=0) M Tryz.underlying74 (by kernel_rfl) M) ?_;refine ZF M (zV 0 M M M Tryz.underlying22 M)<|zD .none M  (v:=.string ⟨(tX i.imm).toArray⟩) (by kernel_rfl) M (fun w hw=>qS i.imm hi w (hK.tb.ext hw.ext0)) ?_;refine Za M M<|ZT<|xS (ι:=Unit) (fun _=>[(1,.int .u32 a),(2,.pointer (some ⟨b2,0,none⟩)),(5,.string ⟨(qK i a).toArray⟩)]) (fun _=>Hp (fun _=>False) w_0 [(b2,qiO i)] [] (fun _=>True)) ?_ (fun _=>?_)
   ·refine yX<|zX<|Z6r 0 1 2 4 5 14 M M M M M M<|ZF M (zY (off:=0) (sz:=0) M Tryz.underlying74 (by kernel_rfl) M) ?_;refine ZF M (zV 0 M M M Tryz.underlying3 M)<|zD .none M  (v:=.bool (qL i.op)) (by kernel_rfl) M (fun w hw=>jumps_any i.op w) ?_;refine Za M M<|ZT<|zT M (fun h18=>?_) (fun h18=>?_)
    ·refine zX<|Z7r 0 1 2 4 5 14 18 M M M M M M M<|ZF M (yS 0 M M Tryz.underlying74 M (by kernel_rfl)) ?_;refine Zm M M<|zD .none M  (by kernel_rfl) M (fun w hw=>qtarget_any i hi hv h18 a ha w) ?_;refine Zm M M<|ZF M (zH M M)<|ZF M (zH M M)<|Za M M<|Za M M<|ZT<|Z8r 0 1 2 4 5 6 14 18 M M M M M M M M<|Zm M M<|zD .none M  (v:=.string ⟨(Lib.decDigits ((a+4*i.imm)%4294967296)).toArray⟩) (by kernel_rfl) M (fun w hw=>vR _ (Nat.mod_lt _ (by decide)) w (hK.tb.ext hw.ext0)) ?_;exact Za rfl rfl<|zE<|yY<|yZ (ι:=Unit) () (.cons rfl<|.cons rfl<|.consE rfl (by unfold qK;first|rw[if_pos h18]|(rw[if_neg (by rw[h18];decide)];first|rw[if_pos (by omega)]|rw[if_neg (by omega)]))<|.nil) (fun w h=>h)
    ·refine zX<|Z7r 0 1 2 4 5 14 18 M M M M M M M<|ZF M (zY (off:=0) (sz:=0) M Tryz.underlying74 (by kernel_rfl) M) ?_;refine ZF M (zV 0 M M M Tryz.underlying3 M)<|ZF M (vG M M)<|Zm M M<|zA 34 M (fun g4=>?_) (fun g4=>?_)
     ·replace g4:=of_decide_eq_true g4;refine ZG M M M (zY (off:=0) (sz:=0) M Tryz.underlying74 (by kernel_rfl) M) ?_;refine ZG M M M (zV 0 M M M Tryz.underlying3 M)<|ZG M M M (vJ M M)<|ZF M (zI M M)<|Zm M M<|zA 39 M (fun g9=>?_) (fun g9=>?_)
      ·replace g9:=of_decide_eq_true g9;refine ZP M<|ZP M<|ZP M<|ZF M (zI M M)<|Za M M<|ZT<|sN M<|Z8r 0 1 2 4 5 14 18 30 M M M M M M M M<|ZF M (zY (off:=4) (sz:=0) M Tryz.underlying74 (by kernel_rfl) M) ?_;refine ZF M (zV 0 M M M Tryz.underlying22 M)<|zD .none M  (v:=.string ⟨(Lib.decDigits i.imm).toArray⟩) (by kernel_rfl) M (fun w hw=>vR i.imm hi w (hK.tb.ext hw.ext0)) ?_;exact Za rfl rfl<|zE<|yY<|yZ (ι:=Unit) () (.cons rfl<|.cons rfl<|.consE rfl (by unfold qK;first|rw[if_pos h18]|(rw[if_neg (by rw[h18];decide)];first|rw[if_pos (by omega)]|rw[if_neg (by omega)]))<|.nil) (fun w h=>h)
      ·replace g9:=of_decide_eq_false g9;refine ZG M M M (zY (off:=0) (sz:=0) M Tryz.underlying74 (by kernel_rfl) M) ?_;refine ZG M M M (zV 0 M M M Tryz.underlying3 M)<|ZG M M M (vG M M)<|ZF M (zG M M)<|Za M M<|ZT<|zT M (fun h30=>?_) (fun h30=>?_)
       ·replace h30:=of_decide_eq_true h30;refine Z8r 0 1 2 4 5 14 18 30 M M M M M M M M<|ZF M (zY (off:=4) (sz:=0) M Tryz.underlying74 (by kernel_rfl) M) ?_;refine ZF M (zV 0 M M M Tryz.underlying22 M)<|zD .none M  (v:=.string ⟨(Lib.decDigits i.imm).toArray⟩) (by kernel_rfl) M (fun w hw=>vR i.imm hi w (hK.tb.ext hw.ext0)) ?_;exact Za rfl rfl<|zE<|yY<|yZ (ι:=Unit) () (.cons rfl<|.cons rfl<|.consE rfl (by unfold qK;first|rw[if_pos h18]|(rw[if_neg (by rw[h18];decide)];first|rw[if_pos (by omega)]|rw[if_neg (by omega)]))<|.nil) (fun w h=>h)
       ·replace h30:=of_decide_eq_false h30;exact zK<|yY<|yZ (ι:=Unit) () (.cons rfl<|.cons rfl<|.consE rfl (by unfold qK;first|rw[if_pos h18]|(rw[if_neg (by rw[h18];decide)];first|rw[if_pos (by omega)]|rw[if_neg (by omega)]))<|.nil) (fun w h=>h)
     ·replace g4:=of_decide_eq_false g4;refine ZP M<|ZP M<|ZP M<|ZF M (zG M M)<|Zm M M<|ZG M M M (zY (off:=0) (sz:=0) M Tryz.underlying74 (by kernel_rfl) M) ?_;refine ZG M M M (zV 0 M M M Tryz.underlying3 M)<|ZG M M M (vG M M)<|ZF M (zG M M)<|Za M M<|ZT<|zT M (fun h30=>?_) (fun h30=>?_)
      ·replace h30:=of_decide_eq_true h30;refine Z8r 0 1 2 4 5 14 18 30 M M M M M M M M<|ZF M (zY (off:=4) (sz:=0) M Tryz.underlying74 (by kernel_rfl) M) ?_;refine ZF M (zV 0 M M M Tryz.underlying22 M)<|zD .none M  (v:=.string ⟨(Lib.decDigits i.imm).toArray⟩) (by kernel_rfl) M (fun w hw=>vR i.imm hi w (hK.tb.ext hw.ext0)) ?_;exact Za rfl rfl<|zE<|yY<|yZ (ι:=Unit) () (.cons rfl<|.cons rfl<|.consE rfl (by unfold qK;first|rw[if_pos h18]|(rw[if_neg (by rw[h18];decide)];first|rw[if_pos (by omega)]|rw[if_neg (by omega)]))<|.nil) (fun w h=>h)
      ·replace h30:=of_decide_eq_false h30;exact zK<|yY<|yZ (ι:=Unit) () (.cons rfl<|.cons rfl<|.consE rfl (by unfold qK;first|rw[if_pos h18]|(rw[if_neg (by rw[h18];decide)];first|rw[if_pos (by omega)]|rw[if_neg (by omega)]))<|.nil) (fun w h=>h)
   ·refine zX<|zZ<|zM .none M  (nf_bs0F (size:=1) Tryz.underlying59 (by kernel_rfl)) (fun b47=>?_);refine Za M M<|ZX<|Z4r 1 2 5 8 M M M M<|ZF M (zY (off:=1) (sz:=0) M Tryz.underlying74 (by kernel_rfl) M) ?_;refine ZF M (zV 1 M M M Tryz.underlying3 M)<|ZF M (zY (off:=2) (sz:=0) M Tryz.underlying74 (by kernel_rfl) M) ?_;refine ZF M (zV 1 M M M Tryz.underlying3 M)<|ZF M (zY (off:=3) (sz:=0) M Tryz.underlying74 (by kernel_rfl) M) ?_;refine ZF M (zV 1 M M M Tryz.underlying3 M)<|zM .none M (nf_bsn (z:=.int .i64 0) M M M M Tryz.underlying111 (by kernel_rfl) (by kernel_rfl) M M) (fun b54=>?_);refine Za M M<|ZT<|xS (ι:=Unit) (fun _=>[(1,.int .u32 a),(2,.pointer (some ⟨b2,0,none⟩)),(5,.string ⟨(qK i a).toArray⟩),(8,.slice (some ⟨b47,0,none⟩) 0 0),(9,.slice (some ⟨b54,xG i.op,none⟩) (3-xG i.op) (3-xG i.op))]) (fun _=>Hp (fun _=>False) w_0 [(b54,bk 3 [.int .i64 i.d,.int .i64 i.a,.int .i64 i.b]),(b47,bk 9 []),(b2,qiO i)] [] (fun _=>True)) ?_ (fun _=>?_)
    ·refine xS (ι:=Unit) (fun _=>[(1,.int .u32 a),(2,.pointer (some ⟨b2,0,none⟩)),(5,.string ⟨(qK i a).toArray⟩),(8,.slice (some ⟨b47,0,none⟩) 0 0),(9,.slice (some ⟨b54,0,none⟩) 3 3),(62,.bool (decide (i.op=52∨i.op=54)))]) (fun _=>Hp (fun _=>False) w_0 [(b54,bk 3 [.int .i64 i.d,.int .i64 i.a,.int .i64 i.b]),(b47,bk 9 []),(b2,qiO i)] [] (fun _=>True)) ?_ (fun _=>?_)
     ·refine Z5r 1 2 5 8 9 M M M M M<|ZF M (zY (off:=0) (sz:=0) M Tryz.underlying74 (by kernel_rfl) M) ?_;refine ZF M (zV 2 M M M Tryz.underlying3 M)<|ZF M (yR M M)<|Zm M M<|zA 58 M (fun g4=>?_) (fun g4=>?_)
      ·replace g4:=eq_of_beq g4;exact ZP M<|ZP M<|ZP M<|ZF M (zI M M)<|zE<|yZ (ι:=Unit) () (.cons M<|.cons M<|.cons M<|.cons M<|.cons M<|.consE M (by rw[decide_eq_true (show i.op=52∨i.op=54 by omega)])<|.nil) (fun w h=>h)
      ·replace g4:=yH g4;refine ZG M M M (zY (off:=0) (sz:=0) M Tryz.underlying74 (by kernel_rfl) M) ?_;exact ZG M M M (zV 2 M M M Tryz.underlying3 M)<|ZG M M M (yR M M)<|ZF M (zG M M)<|zE<|yZ (ι:=Unit) () (.cons M<|.cons M<|.cons M<|.cons M<|.cons M<|.consE M (by congr 1;rw[Bool.eq_iff_iff,beq_iff_eq,decide_eq_true_eq];omega)<|.nil) (fun w h=>h)
     ·refine zT M (fun h62=>?_) (fun h62=>?_)
      ·replace h62:=of_decide_eq_true h62;refine zZ<|Zm M M<|ZF M (yf_sliceLo (i:=1) (size:=1) M M Tryz.underlying111 (by kernel_rfl) M (by decide)) ?_;exact Za M M<|zE<|yZ (ι:=Unit) () (.cons M<|.cons M<|.cons M<|.cons M<|.consE M (by unfold xG;rw[if_pos h62];rfl)<|.nil) (fun w h=>h)
      ·replace h62:=of_decide_eq_false h62;exact zK<|yZ (ι:=Unit) () (.cons M<|.cons M<|.cons M<|.cons M<|.consE M (by unfold xG;rw[if_neg h62])<|.nil) (fun w h=>h)
    ·refine zX<|zX<|zZ<|ZF M (zY (off:=0) (sz:=0) M Tryz.underlying74 (by kernel_rfl) M) ?_;refine ZF M (zV 2 M M M Tryz.underlying3 M) ?_
     refine zD .none M  (v:=.string ⟨S.toArray⟩) (by kernel_rfl) M (fun w hw=>by
      have:=shapeQ_any i.op.toNat (by omega) w
      rw[hop,← hS] at this;exact this) ?_
     refine wl_range .none M  M Tryz.underlying9 (fun bi=>?_);refine ZT<|yX<|xR (ι:={j:Nat×(Nat×Nat) // j.1≤S.length∧j.1≤j.2.2}) (fun j=>[(2,.pointer (some ⟨b2,0,none⟩)),(5,.string ⟨(qK i a).toArray⟩),(8,.slice (some ⟨j.1.2.1,0,none⟩) j.1.1 j.1.2.2),(9,.slice (some ⟨b54,xG i.op,none⟩) (3-xG i.op) (3-xG i.op)),(68,.pointer (some ⟨bi,0,none⟩))]) (fun j=>Hp (fun _=>False) w_0 [(bi,.stringIter ⟨S.toArray⟩ j.1.1),(b54,bk 3 [.int .i64 i.d,.int .i64 i.a,.int .i64 i.b]),(b2,qiO i)] [⟨.slice (some ⟨j.1.2.1,0,none⟩) j.1.1 j.1.2.2,9,1,j.1.1,strV (T.take j.1.1)⟩] (fun _=>True)) (fun j=>S.length-j.1.1) ⟨(0,(b47,0)),Nat.zero_le _,Nat.le_refl _⟩ ?_ ?_ (fun j=>?_)
     ·exact .cons M<|.cons M<|.cons M<|.cons M<|.cons M<|.nil
     ·exact fun w h=>Hp.toRow (k:=0) (Hp.swapL h (List.perm_middle (l₁:=[_,_]))) (HpG.old h (k:=2) M) M (by decide)
     obtain⟨⟨p,bj,cap⟩,hp,hcap⟩:=j;dsimp only at hp hcap ⊢;refine zX<|zZ<|wl_next 0 .none M  M M<|ZF M (zH M (nextV0 ⟨S.toArray⟩ p))<|ZX ?_;skip;refine zT M (fun hlt=>?_) (fun hlt=>?_)
     ·have hlt:=of_decide_eq_true hlt;have hlt':p<S.length:=by simpa [ByteArray.size] using hlt
      obtain⟨c,hc⟩:∃c,S[p]? = some c:=⟨S[p],List.getElem?_eq_getElem hlt'⟩;have hcin:=shq_in (by rw[hS] at hc;exact hc);have hca:c.toNat<128:=by rcases hcin with rfl|rfl|rfl<;>decide
      have hnx:nextP ⟨S.toArray⟩ p=p+1:=by unfold nextP;rw[if_pos hlt,decode_list hc hca]
      have hqp:=shq_reg (p:=p) (by rw[← hS];exact hlt');rw[hqo] at hqp;have hpc:=hpt p c hc;rw[Nat.zero_add] at hpc;have htk:T.take (p+1)=T.take p++[prtQ i a c p]:=qE hpc;refine zK<|zS<|yX<|zX<|zZ<|ZF M (zH M (nextV1 hlt))<|ZF M ((zH M ((nextV2 hlt).trans (by rw[decode_list hc hca]):_=some (.int .i32 (c.toNat:Nat))))) ?_;refine Za M M<|Za M M<|ZX<|Z9r 2 5 8 9 10 11 68 69 70 M M M M M M M M M<|Zm M M<|ZT<|yX<|zX<|zZ<|ZF M (yR M M)<|Za M M<|ZT<|zT M (fun h74=>?_) (fun h74=>?_)
      ·replace h74:=eq_of_beq h74;have hc1:c=114:=(wK 114).2 h74;have hpq:prtQ i a c p=rgB ((qR i).getD p 0):=by rw[hc1];rfl
       have hst:strV (T.take (p+1))=strV (T.take p)++[.string ⟨(rgB ((qR i).getD p 0)).toArray⟩]:=by rw[htk,hpq];simp
       refine Z11r 2 5 8 9 10 11 68 69 70 73 74 M M M M M M M M M M M<|Zm M M<|Zm M M<|Zm M M<|ZF M (zF (j:=p) (es:=1) M M Tryz.underlying111 (by kernel_rfl) M (by omega) M) ?_;refine ZF M (zC M Tryz.underlying3 M (fun w hw=>HpG.cell (k:=1) hw M (by rw[Nat.mul_one];exact regs_at i hqp))) ?_;refine zD .none M  (v:=.string ⟨(rgB ((qR i).getD p 0)).toArray⟩) (by kernel_rfl) M (fun w hw=>by have:=hr15 p;exact rI _ this.1 (by omega) w (hK.tb.ext hw.ext0)) ?_;refine zM .none M (xI (z:=.string ⟨#[]⟩) M M Tryz.underlying59 (by kernel_rfl) (by kernel_rfl) M M) (fun b82=>?_);(refine vF (z:=.string ⟨#[]⟩) (bytes:=16) 0 0 .none rfl rfl rfl rfl rfl Tryz.underlying59 (by kernel_rfl) rfl rfl rfl rfl rfl ?_ ?_ (fun a83 c83 h83=>?_);(· omega);(· omega);skip);refine Za M M<|zE<|yY<|yY<|yM (ι:={j:Nat×(Nat×Nat) // j.1≤S.length∧j.1≤j.2.2}) ⟨(p+1,(a83,c83)),hlt',h83⟩ (by show S.length-(p+1)<S.length-p;omega) (O5 M M M M M) (fun w h=>?_);rw[hnx] at h;show Hp _ _ _ [⟨_,_,_,_,strV (T.take (p+1))⟩] _ w;rw[hst];exact Hp.drop h (List.sublist_cons_self _ _) (List.Sublist.refl _)
      ·replace h74:=yH h74;refine zX<|Z11r 2 5 8 9 10 11 68 69 70 73 74 M M M M M M M M M M M<|ZF M (yR M M)<|Za M M<|ZT<|zT M (fun h84=>?_) (fun h84=>?_)
       ·replace h84:=eq_of_beq h84;have hc1:c=118:=(wK 118).2 h84;have hpq:prtQ i a c p=qK i a:=by rw[hc1];rfl
        have hst:strV (T.take (p+1))=strV (T.take p)++[.string ⟨(qK i a).toArray⟩]:=by rw[htk,hpq];simp
        refine Z12r 2 5 8 9 10 11 68 69 70 73 74 84 M M M M M M M M M M M M<|Zm M M<|Zm M M<|zM .none M (xI (z:=.string ⟨#[]⟩) M M Tryz.underlying59 (by kernel_rfl) (by kernel_rfl) M M) (fun b88=>?_);(refine vF (z:=.string ⟨#[]⟩) (bytes:=16) 0 0 .none rfl rfl rfl rfl rfl Tryz.underlying59 (by kernel_rfl) rfl rfl rfl rfl rfl ?_ ?_ (fun a89 c89 h89=>?_);(· omega);(· omega);skip);refine Za M M<|zE<|yY<|yY<|yM (ι:={j:Nat×(Nat×Nat) // j.1≤S.length∧j.1≤j.2.2}) ⟨(p+1,(a89,c89)),hlt',h89⟩ (by show S.length-(p+1)<S.length-p;omega) (O5 M M M M M) (fun w h=>?_);rw[hnx] at h;show Hp _ _ _ [⟨_,_,_,_,strV (T.take (p+1))⟩] _ w;rw[hst];exact Hp.drop h (List.sublist_cons_self _ _) (List.Sublist.refl _)
       ·replace h84:=yH h84;refine zX<|Z12r 2 5 8 9 10 11 68 69 70 73 74 84 M M M M M M M M M M M M<|ZF M (yR M M)<|Za M M<|ZT<|zT M (fun h90=>?_) (fun h90=>?_)
        ·replace h90:=eq_of_beq h90;have hc1:c=109:=(wK 109).2 h90;have hpq:prtQ i a c p=[91]++rgB i.a++uS i.imm++[93]:=by rw[hc1];rfl
         have hst:strV (T.take (p+1))=strV (T.take p)++[.string ⟨([91]++rgB i.a++uS i.imm++[93]:Bs).toArray⟩]:=by rw[htk,hpq];simp
         refine Z13 2 5 8 9 10 11 68 69 70 73 74 84 90 M M M M M M M M M M M M M<|sV 11 [0,1,2,3,4,5,6,7,8,9,10] (Blk b2 (qiO i)) (by kernel_rfl) (by kernel_rfl) Blk.stab (fun w h=>HpG.blk h (k:=2) M) (fun n0 hn0=>?_);refine Zd M M M (zJ M)<|Zd M M M (zY (off:=2) (sz:=0) M Tryz.underlying74 (by kernel_rfl) M) ?_;refine Zd M M M (zC M Tryz.underlying3 M (fun w hw=>Blk.cell hw M)) ?_;refine wT M<|qW .none M  (v:=.string ⟨(rgB i.a).toArray⟩) (by kernel_rfl) M (fun _ _ h hx=>Blk.onE h hx) (fun w hw=>rI i.a ha0 (by omega) w (hK.tb.ext hw.ext0)) ?_;refine wT M ?_;(refine tS ?_ .none rfl (zB (a:=[91]) rfl rfl ?_) ?_;(· rfl);(· (simp only[List.length_cons,List.length_nil];omega));skip);refine Zd M M M (zY (off:=4) (sz:=0) M Tryz.underlying74 (by kernel_rfl) M) ?_;refine Zd M M M (zC M Tryz.underlying22 M (fun w hw=>Blk.cell hw M)) ?_;refine wT M<|qW .none M  (v:=.string ⟨(uS i.imm).toArray⟩) (by kernel_rfl) M (fun _ _ h hx=>Blk.onE h hx) (fun w hw=>offset_any i.imm hi w (hK.tb.ext hw.ext0)) ?_;refine wT M ?_;(refine tS ?_ .none rfl (zB rfl rfl ?_) ?_;(· rfl);(· (simp only[List.length_append,List.length_cons,List.length_nil];omega));skip);refine wT M ?_;(refine tS ?_ .none rfl (zB rfl rfl ?_) ?_;(· rfl);(· (simp only[List.length_append,List.length_cons,List.length_nil];omega));skip);refine wT M<|wd_newH ?_ .none M (fun k hk=>Nat.lt_of_lt_of_le hk hn0) (xI (z:=.string ⟨#[]⟩) M M Tryz.underlying59 (by kernel_rfl) (by kernel_rfl) M M) (fun b102 hb102=>?_)
         ·rfl
         refine rK ?_;simp only[List.drop_succ_cons,List.drop_zero];(refine vF (z:=.string ⟨#[]⟩) (bytes:=16) 0 0 .none rfl rfl rfl rfl rfl Tryz.underlying59 (by kernel_rfl) rfl rfl rfl rfl rfl ?_ ?_ (fun a103 c103 h103=>?_);(· omega);(· omega);skip);refine Za M M<|zE<|yY<|yY<|yM (ι:={j:Nat×(Nat×Nat) // j.1≤S.length∧j.1≤j.2.2}) ⟨(p+1,(a103,c103)),hlt',h103⟩ (by show S.length-(p+1)<S.length-p;omega) (O5 M M M M M) (fun w h=>?_);rw[hnx] at h;show Hp _ _ _ [⟨_,_,_,_,strV (T.take (p+1))⟩] _ w;rw[hst];exact Hp.drop h (List.sublist_cons_self _ _) (List.Sublist.refl _)
        ·replace h90:=yH h90;exact absurd hcin (by rw[wK 114,wK 118,wK 109];exact fun e=>e.elim h74 fun e=>e.elim h84 h90)
     ·have hge:¬p<S.length:=fun h=>absurd hlt (by simp[ByteArray.size,h]);have hpe:p=S.length:=by omega
      have htk:T.take p=T:=List.take_of_length_le (by omega);refine xW<|zL<|zL<|xX<|zS<|zX<|vT (γ:=Nat) [(2,.pointer (some ⟨b2,0,none⟩)),(8,.slice (some ⟨bj,0,none⟩) p cap)] [(0,104,fun g=>.map (some g)),(1,105,fun g=>.pointer (some ⟨b2,0+0,none⟩)),(2,106,fun g=>.int .i64 i.op),(3,107,fun g=>.string ⟨((vH i.op.toNat)).toArray⟩),(4,108,fun g=>.string ⟨((vH i.op.toNat)++([32]:Bs)).toArray⟩),(5,109,fun g=>.slice (some ⟨bj,0,none⟩) p cap),(6,110,fun g=>.string ⟨(joB T).toArray⟩),(7,111,fun g=>.string ⟨((vH i.op.toNat)++([32]:Bs)++joB T).toArray⟩),(8,112,fun g=>.string ⟨(lnQ i a).toArray⟩),(9,4,fun g=>.string ⟨(lnQ i a).toArray⟩)] (fun D g=>fun w=>Hp (fun _=>False) w_0 [(b2,qiO i)] [⟨.slice (some ⟨bj,0,none⟩) p cap,9,1,p,strV T⟩] (fun _=>True) w∧(D 0=true→Blk g (mapN sI) w)) [[],[],[1],[0,2],[3],[],[5],[4,6],[7],[8]] 0 (by kernel_rfl) (by kernel_rfl) (by kernel_rfl) (O2 M M) (fun D w h hw=>⟨Hp.drew (by have h9:=Hp.drop hw (List.Sublist.cons _ (List.Sublist.cons _ (List.Sublist.refl _))) (List.Sublist.refl _);rw[htk] at h9;exact h9),(fun h0=>by rw[h 0 (by decide)] at h0;cases h0)⟩) ⟨?_,?_,?_,?_,?_,?_,?_,?_,?_,?_,trivial⟩ (fun g=>?_)
      ·intro D g hD hd;refine rD (vs:=[]) (by kernel_rfl) M (fun w hw=>(namesQ_any w (hK.sp.ext' (HpG.ext0 hw.1))).mono fun e w' ⟨b,_,e1,e2,e3⟩=>⟨_,e1,b,rfl,?_,HpG.onE hw.1 e2,fun _=>e3.2⟩)
       repeat' (first|exact trivial|apply And.intro|(intro _;rfl)|(intro h;rw[hD] at h;cases h))
      ·intro D g hD hd;refine zQ (v:=.pointer (some ⟨b2,0+0,none⟩)) ?_ M (fun w h=>h);refine zY (off:=0) (sz:=0) M Tryz.underlying74 (by kernel_rfl) rfl
      ·intro D g hD hd;have hd1:D 1=true:=hd 1 (by simp);refine zQ (v:=.int .i64 i.op) ?_ M (fun w h=>h);refine zC M Tryz.underlying3 M (fun w hw=>HpG.cell (k:=0) hw.1 M M)
      ·intro D g hD hd;have hd0:D 0=true:=hd 0 (by simp);have hd2:D 2=true:=hd 2 (by simp);refine zQ (v:=.string ⟨((vH i.op.toNat)).toArray⟩) ?_ M (fun w h=>h);refine (by rw[← hm2];exact yf_lookupV M M (fun w hw=>hw.2 hd0) Tryz.underlying153 Tryz.underlying3 zero_str hm1)
      ·intro D g hD hd;have hd3:D 3=true:=hd 3 (by simp);refine zQ (v:=.string ⟨((vH i.op.toNat)++([32]:Bs)).toArray⟩) ?_ M (fun w h=>h);refine zB M M ?_;(· (simp only[List.length_cons,List.length_nil];omega))
      ·intro D g hD hd;refine zQ (v:=.slice (some ⟨bj,0,none⟩) p cap) ?_ M (fun w h=>h);refine zJ rfl
      ·intro D g hD hd;have hd5:D 5=true:=hd 5 (by simp);refine tP (v:=.string ⟨(joB T).toArray⟩) (by kernel_rfl) M (fun w hw=>join_row (k:=0) hw.1 M (by omega) (by omega) (by omega)) M (fun w w' hw hx=>⟨HpG.onE hw.1 hx,fun h=>(hw.2 h).onE hx⟩)
      ·intro D g hD hd;have hd4:D 4=true:=hd 4 (by simp);have hd6:D 6=true:=hd 6 (by simp);refine zQ (v:=.string ⟨((vH i.op.toNat)++([32]:Bs)++joB T).toArray⟩) ?_ M (fun w h=>h);refine zB M M ?_;(· (simp only[List.length_append,List.length_cons,List.length_nil];omega))
      ·intro D g hD hd;have hd7:D 7=true:=hd 7 (by simp);refine tP (v:=.string ⟨(lnQ i a).toArray⟩) (by kernel_rfl) M (fun w hw=>by have:=trimS_any ((vH i.op.toNat)++([32]:Bs)++joB T) (by simp only[List.length_append,List.length_cons,List.length_nil];omega) w;rw[htr] at this;exact this) M (fun w w' hw hx=>⟨HpG.onE hw.1 hx,fun h=>(hw.2 h).onE hx⟩)
      ·intro D g hD hd;have hd8:D 8=true:=hd 8 (by simp);refine zQ (v:=.string ⟨(lnQ i a).toArray⟩) ?_ M (fun w h=>h);refine xL rfl
      ·refine qH (m':=[(2,.pointer (some ⟨b2,0,none⟩)),(8,.slice (some ⟨bj,0,none⟩) p cap),(4,.string ⟨(lnQ i a).toArray⟩)]) (H':=Hp (fun _=>False) w_0 [(b2,qiO i)] [⟨.slice (some ⟨bj,0,none⟩) p cap,9,1,p,strV T⟩] (fun _=>True)) ?_ (O3 M M M) (fun w hw=>hw.1);refine zS<|zR<|zO M M (fun w hw=>?_);exact⟨rfl,hw.ext0⟩
end Go.Proofs.YtkaepknpplhgkaaGreatDoor
/- The next line of what is disassembled (the closures of asm.Disassemble). -/
namespace Go.Proofs.YtkaepknpplhgkaaGreatDoor
open Go.RowKit
theorem get4_any (r:Bs) (hr:r.length≤1000000000) (w_0:World):Calls Tryz.prog 93 #[.string ⟨r.toArray⟩] w_0 fun e w'=>e=.returned (.int .u32 (getL (r.take 4)))∧Ext w_0 w':=by
 obtain⟨s,hs⟩:∃s,s=r.take 4:=⟨_,rfl⟩;have hsl:s.length=if r.length<4 then r.length else 4:=by rw[hs,List.length_take];split<;>omega
 have hs4:s.length≤4:=by rw[hs];exact List.length_take_le ..
 rw[← hs];refine zP (args:=[.string ⟨r.toArray⟩]) Tryz.func93 M 27 M (Nat.le_of_ble_eq_true M)<|Z1 0 M<|zU (H':=Hp (fun _=>False) w_0 [] [] (fun _=>True)) (fun u hu=>?_) ?_
 ·subst hu;exact Hp.start0
 refine zX<|zZ<|Za rfl rfl<|ZX<|zZ<|Za rfl rfl<|ZX<|zX<|zZ<|Zm rfl rfl<|Zm rfl rfl<|ZF rfl (wD rfl Tryz.underlying9)<|ZF rfl (yf_min rfl rfl)<|ZF rfl (yf_strHi (c:=s) rfl rfl Tryz.underlying9 (by split<;>omega) (by split<;>omega) (by rw[hs];split<;>first|(rw[Int.toNat_natCast,List.take_of_length_le (Nat.le_refl r.length),List.take_of_length_le (show r.length≤4 by omega)])|rfl)) ?_;refine wl_bytes .none M  M Tryz.underlying9 Tryz.underlying53 Tryz.underlying5 (fun _ h=>h.elim) (fun b11 cap F hF=>?_);refine ZF M (xY M Tryz.underlying53)<|Zm M M<|ZT<|yX<|xR (ι:={i:Nat // i≤s.length}) (fun i=>[(3,.int .u32 (getL (s.take i.1):Nat)),(11,.slice (some ⟨b11,0,none⟩) s.length cap),(12,.int .i64 s.length),(13,.int .i64 (i.1:Nat))]) (fun _=>Hp (fun _=>False) w_0 [] [] (fun u=>RdF F (some ⟨b11,0,none⟩) (u8L s) u∧True)) (fun i=>s.length-i.1) ⟨0,Nat.zero_le _⟩ ?_ ?_ (fun i=>?_)
 ·exact .cons M<|.cons M<|.cons M<|.cons M<|.nil
 ·exact fun w h=>h
 obtain⟨i,hi⟩:=i;dsimp only;refine zX<|zZ<|ZF M (xV M M)<|ZX<|zT M (fun h14=>?_) (fun h14=>?_)
 ·replace h14:=of_decide_eq_true h14;skip;obtain⟨c,hc⟩:∃c,s[i]? = some c:=⟨s[i]'(by omega),List.getElem?_eq_getElem _⟩;have hcl:=UInt8.toNat_lt c
  have ht:s.take (i+1)=s.take i++[c]:=by
   rw[List.take_add_one,hc];rfl
  have hst:=or_step (s.take i) c (by rw[List.length_take];omega);rw[show (s.take i).length=i by rw[List.length_take];omega,← ht] at hst;refine zK<|zS<|zX<|yX<|zX<|zZ<|Zm M M ?_;(refine ZF rfl (zF (es:=1) rfl rfl Tryz.underlying53 (by kernel_rfl) rfl ?_ rfl) ?_;(· first|decide|omega|(simp;done)|(simp;omega));skip);refine ZF M (zC M Tryz.underlying5 M (fun w hw=>RdF.part (HpG.x hw).1 (i:=i) (by rw[List.length_map];omega) (by omega) (by rw[List.getElem?_map,hc];rfl))) ?_;refine Za M M<|Za M M<|ZT<|Z7r 3 4 5 11 12 13 14 M M M M M M M<|Zm M M<|Zm M M ?_
  (refine ZF rfl (yO rfl (by kernel_rfl) Tryz.underlying22 (u32_in _ ?_ ?_)) ?_;(· omega);(· omega);skip)
  refine Zm M M ?_;(refine ZF rfl (yf_mul rfl rfl (i64_in _ ?_ ?_)) ?_;(· omega);(· omega);skip);(refine ZF rfl (sC rfl rfl ?_ rfl) ?_;(· first|decide|omega);skip);refine ZF M (yf_or M M hst)<|Za M M<|zE<|yY<|zS<|Z7r 3 4 5 11 12 13 14 M M M M M M M ?_;(refine ZF rfl (yK rfl rfl (i64_in _ ?_ ?_)) ?_;(· omega);(· omega);skip);refine Zm M M<|zE<|yM (ι:={i:Nat // i≤s.length}) ⟨i+1,by omega⟩ (by show s.length-(i+1)<s.length-i;omega) (O4 M M M M) (fun w h=>h)
 ·replace h14:=of_decide_eq_false h14;skip;obtain rfl:i=s.length:=by omega
  refine xW<|zL<|zL<|xX<|zS<|zX<|zZ<|Zm M M<|Za M M<|ZT<|zR<|zO M M (fun w hw=>?_);exact⟨by rw[List.take_length],(HpG.keep hw).ext⟩
def nx1 (s:Bs) (a:Nat):Bs×Nat:=match decK s with
 | some i=>(lnK i a,i.size.toNat)
 | none=>([],1)
def nx2 (s:Bs) (a:Nat):Bs×Nat:=if s.length<4 then ([],s.length) else match decQ (getL (s.take 4)) with
 | some i=>(lnQ i a,4)
 | none=>([],4)
theorem decK_valid {s:Bs}{i:KI}(h:decK s=some i):wA i=true∧i.imm<4294967296∧i.size=(i.size.toNat:Nat):=by
 obtain⟨n,h1,_,_,h4⟩:=decK_some h;exact⟨by unfold wA;rw[h4];rfl,decK_imm h,by omega⟩
theorem dis1_any (s:Bs) (hs:s.length≤1000000000) (a:Nat) (ha:a<4294967296) (w_0:World) (hK:WOk w_0):Calls Tryz.prog 90 #[.string ⟨s.toArray⟩,.int .u32 a] w_0 fun e w'=>e=.returned (.tuple #[.string ⟨(nx1 s a).1.toArray⟩,.int .i64 (nx1 s a).2])∧Ext w_0 w':=by
 have hdc:=decode_any s hs;unfold DcPost at hdc;unfold nx1
 cases hd:decK s with
 | none =>
  rw[hd] at hdc;refine zP (args:=[.string ⟨s.toArray⟩,.int .u32 a]) Tryz.func90 M 20 M (Nat.le_of_ble_eq_true M)<|Z2 0 1 M M<|zU (H':=Hp (fun _=>False) w_0 [] [] (fun _=>True)) (fun u hu=>?_) ?_
  ·subst hu;exact Hp.start0
  refine zX<|zZ<|Za M M<|Za M M<|ZX<|zZ<|Zm M M<|wl_pureE (ι:=Int) (C:=fun x=>x≠0) (val:=fun x=>.tuple #[.agg (kiC ki0).toArray,.int .i64 x]) .none M  (by kernel_rfl) M (fun w hw=>(hdc w).mono fun e w' ⟨h1,h2⟩=>h2.elim (fun h=>⟨10,by decide,h,h1⟩) fun h=>⟨12,by decide,h,h1⟩) (fun x hx=>?_);refine Zm M M<|ZF M (zH M M)<|ZF M (zH M M)<|zM .none M (yV (z:=.agg #[.int .i64 0,.int .i64 0,.int .i64 0,.int .i64 0,.int .i64 0,.int .u32 0,.int .i64 0]) (cs:=[.int .i64 0,.int .i64 0,.int .i64 0,.int .i64 0,.int .i64 0,.int .u32 0,.int .i64 0]) (by kernel_rfl) M) (fun b6=>?_);refine ZR 0 M M M M M (by kernel_rfl) ?_;refine Za M M<|ZX<|zX<|Z6r 0 1 4 5 6 7 M M M M M M<|Zm M M<|ZF M (uU M M)<|ZT<|zT M (fun h14=>?_) (fun h14=>?_)
  ·replace h14:=vL h14;refine zX<|Z7r 0 1 4 5 6 7 14 M M M M M M M<|Za M M<|Za M M<|ZT<|zR<|zN<|uQ M M M (fun w hw=>?_);exact⟨rfl,hw.ext0⟩
  ·replace h14:=uC h14;exact absurd h14 hx
 | some i =>
  rw[hd] at hdc;obtain⟨hv,him,hsz⟩:=decK_valid hd;have hln:=fun w hw=>lineK_any i him a ha w hw;unfold lnV at hln;rw[if_pos hv] at hln;dsimp only;refine zP (args:=[.string ⟨s.toArray⟩,.int .u32 a]) Tryz.func90 M 20 M (Nat.le_of_ble_eq_true M)<|Z2 0 1 M M<|zU (H':=Hp (fun _=>False) w_0 [] [] (fun _=>True)) (fun u hu=>?_) ?_
  ·subst hu;exact Hp.start0
  refine zX<|zZ<|Za M M<|Za M M<|ZX<|zZ<|Zm M M<|zD .none M  (v:=.tuple #[.agg (kiC i).toArray,.int .i64 0]) (by kernel_rfl) M (fun w hw=>(hdc w).mono fun e w' ⟨h1,h2⟩=>⟨h2,h1⟩) ?_;refine Zm M M<|ZF M (zH M M)<|ZF M (zH M M)<|zM .none M (yV (z:=.agg #[.int .i64 0,.int .i64 0,.int .i64 0,.int .i64 0,.int .i64 0,.int .u32 0,.int .i64 0]) (cs:=[.int .i64 0,.int .i64 0,.int .i64 0,.int .i64 0,.int .i64 0,.int .u32 0,.int .i64 0]) (by kernel_rfl) M) (fun b6=>?_);refine ZR 0 M M M M M (by kernel_rfl) ?_;refine Za M M<|ZX<|zX<|Z6r 0 1 4 5 6 7 M M M M M M<|Zm M M<|ZF M (uU M M)<|ZT<|zT M (fun h14=>?_) (fun h14=>?_)
  ·replace h14:=vL h14;exact absurd M h14
  ·replace h14:=uC h14;refine zK<|zS<|zX<|Z7 0 1 4 5 6 7 14 M M M M M M M<|wc_drawN [0,1,2,3,4,5,6] (Blk b6 (kiO i)) (by kernel_rfl) (by kernel_rfl) Blk.stab (fun w h=>HpG.blk h (k:=0) M) (fun n0 hn0=>?_);refine Zd M M M (xT (cs:=kiC i) M Tryz.underlying35 M (by kernel_rfl) (fun w hw j v hj=>Blk.cell hw (by rw[Nat.zero_add];exact hj))) ?_;refine Zd M M M (zJ M)<|wT M<|qW .none M  (v:=.string ⟨(lnK i a).toArray⟩) (by kernel_rfl) M (fun _ _ h hx=>Blk.onE h hx) (fun w hw=>hln w (hK.ext hw.ext0)) ?_;refine Zd M M M (zY (off:=6) (sz:=0) M Tryz.underlying35 (by kernel_rfl) M) ?_;refine Zd M M M (zC M Tryz.underlying3 M (fun w hw=>Blk.cell hw M)) ?_;refine Zd M M M (xL M)<|Zd M M M (xL M)<|wd_endH<|zS<|zR<|uQ M M M (fun w hw=>?_);exact⟨by rw[← hsz],hw.ext0⟩
theorem dis2_any (s:Bs) (hs:s.length≤1000000000) (a:Nat) (ha:a<4294967296) (w_0:World) (hK:WOk w_0):Calls Tryz.prog 91 #[.string ⟨s.toArray⟩,.int .u32 a] w_0 fun e w'=>e=.returned (.tuple #[.string ⟨(nx2 s a).1.toArray⟩,.int .i64 (nx2 s a).2])∧Ext w_0 w':=by
 have hgl:getL (s.take 4)<4294967296:=by
  have h1:=getL_lt (s.take 4);have h2:(s.take 4).length≤4:=List.length_take_le ..;have:256 ^ (s.take 4).length≤256 ^ 4:=Nat.pow_le_pow_right (by omega) h2;omega
 have hdc:=fun w=>qdecode_any (getL (s.take 4)) hgl w;unfold DqPost at hdc;unfold nx2
 by_cases h4:s.length<4
 ·rw[if_pos h4];refine zP (args:=[.string ⟨s.toArray⟩,.int .u32 a]) Tryz.func91 M 24 M (Nat.le_of_ble_eq_true M)<|Z2 0 1 M M<|zU (H':=Hp (fun _=>False) w_0 [] [] (fun _=>True)) (fun u hu=>?_) ?_
  ·subst hu;exact Hp.start0
  refine zX<|zZ<|Za M M<|Za M M<|ZX<|zX<|zZ<|Zm M M<|ZF M (wD M Tryz.underlying9)<|ZF M (xV M M)<|ZT<|zT M (fun h10=>?_) (fun h10=>?_)
  ·replace h10:=of_decide_eq_true h10;refine zX<|Z5r 0 1 4 5 10 M M M M M<|Zm M M<|ZF M (wD M Tryz.underlying9)<|Za M M<|Za M M<|ZT<|zR<|zN<|uQ M M M (fun w hw=>?_);exact⟨rfl,hw.ext0⟩
  ·replace h10:=of_decide_eq_false h10;omega
 ·rw[if_neg h4]
  cases hd:decQ (getL (s.take 4)) with
  | none =>
   rw[hd] at hdc;refine zP (args:=[.string ⟨s.toArray⟩,.int .u32 a]) Tryz.func91 M 24 M (Nat.le_of_ble_eq_true M)<|Z2 0 1 M M<|zU (H':=Hp (fun _=>False) w_0 [] [] (fun _=>True)) (fun u hu=>?_) ?_
   ·subst hu;exact Hp.start0
   refine zX<|zZ<|Za M M<|Za M M<|ZX<|zX<|zZ<|Zm M M<|ZF M (wD M Tryz.underlying9)<|ZF M (xV M M)<|ZT<|zT M (fun h10=>?_) (fun h10=>?_)
   ·replace h10:=of_decide_eq_true h10;omega
   ·replace h10:=of_decide_eq_false h10;refine zK<|zS<|zX<|Z5r 0 1 4 5 10 M M M M M<|Zm M M<|zD .none M  (v:=.int .u32 (getL (s.take 4):Nat)) (by kernel_rfl) M (fun w hw=>get4_any s hs w) ?_;refine zD .none M  (v:=.tuple #[.agg (qiC qi0).toArray,.int .i64 12]) (by kernel_rfl) M (fun w hw=>(hdc w).mono fun e w' ⟨h1,h2⟩=>⟨h2,h1⟩) ?_;refine Zm M M<|ZF M (zH M M)<|ZF M (zH M M)<|zM .none M (yV (z:=.agg #[.int .i64 0,.int .i64 0,.int .i64 0,.int .i64 0,.int .u32 0]) (cs:=[.int .i64 0,.int .i64 0,.int .i64 0,.int .i64 0,.int .u32 0]) (by kernel_rfl) M) (fun b6=>?_);refine ZR 0 M M M M M (by kernel_rfl) ?_;refine Za M M<|ZX<|zX<|Z7r 0 1 4 5 6 7 10 M M M M M M M<|Zm M M<|ZF M (uU M M)<|ZT<|zT M (fun h20=>?_) (fun h20=>?_)
    ·replace h20:=vL h20;refine zX<|Z8r 0 1 4 5 6 7 10 20 M M M M M M M M<|Za M M<|Za M M<|ZT<|zR<|zN<|uQ M M M (fun w hw=>?_);exact⟨rfl,hw.ext0⟩
    ·replace h20:=uC h20;cases h20
  | some i =>
   rw[hd] at hdc;have hen:=decQ_some hd;have hv:vP i=true:=by unfold vP;rw[hen];rfl
   have hln:=fun w hw=>lineQ_any i (decQ_imm hgl hd) a ha w hw;unfold lnQV at hln;rw[if_pos hv] at hln;dsimp only;refine zP (args:=[.string ⟨s.toArray⟩,.int .u32 a]) Tryz.func91 M 24 M (Nat.le_of_ble_eq_true M)<|Z2 0 1 M M<|zU (H':=Hp (fun _=>False) w_0 [] [] (fun _=>True)) (fun u hu=>?_) ?_
   ·subst hu;exact Hp.start0
   refine zX<|zZ<|Za M M<|Za M M<|ZX<|zX<|zZ<|Zm M M<|ZF M (wD M Tryz.underlying9)<|ZF M (xV M M)<|ZT<|zT M (fun h10=>?_) (fun h10=>?_)
   ·replace h10:=of_decide_eq_true h10;omega
   ·replace h10:=of_decide_eq_false h10;refine zK<|zS<|zX<|Z5r 0 1 4 5 10 M M M M M<|Zm M M<|zD .none M  (v:=.int .u32 (getL (s.take 4):Nat)) (by kernel_rfl) M (fun w hw=>get4_any s hs w) ?_;refine zD .none M  (v:=.tuple #[.agg (qiC i).toArray,.int .i64 0]) (by kernel_rfl) M (fun w hw=>(hdc w).mono fun e w' ⟨h1,h2⟩=>⟨h2,h1⟩) ?_;refine Zm M M<|ZF M (zH M M)<|ZF M (zH M M)<|zM .none M (yV (z:=.agg #[.int .i64 0,.int .i64 0,.int .i64 0,.int .i64 0,.int .u32 0]) (cs:=[.int .i64 0,.int .i64 0,.int .i64 0,.int .i64 0,.int .u32 0]) (by kernel_rfl) M) (fun b6=>?_);refine ZR 0 M M M M M (by kernel_rfl) ?_;refine Za M M<|ZX<|zX<|Z7r 0 1 4 5 6 7 10 M M M M M M M<|Zm M M<|ZF M (uU M M)<|ZT<|zT M (fun h20=>?_) (fun h20=>?_)
    ·replace h20:=vL h20;exact absurd M h20
    ·replace h20:=uC h20;refine zK<|zS<|zX<|Z8r 0 1 4 5 6 7 10 20 M M M M M M M M<|ZF M (yS 0 M M Tryz.underlying74 M (by kernel_rfl)) ?_;refine Zm M M<|zD .none M  (v:=.string ⟨(lnQ i a).toArray⟩) (by kernel_rfl) M (fun w hw=>hln w (hK.ext hw.ext0)) ?_;refine Za M M<|Za M M<|ZT<|zR<|uQ M M M (fun w hw=>?_);exact⟨rfl,hw.ext0⟩
theorem lnK_ne {i:KI}(h:wA i=true) (hi:i.imm<4294967296) (a:Nat):lnK i a≠[]:=by
 have hk:=vK_of hi h;have hr:=(vk_rng hk).1;unfold lnK
 by_cases h4:i.op≤4
 ·rw[if_pos h4];have:i.op.toNat=0∨i.op.toNat=1∨i.op.toNat=2∨i.op.toNat=3∨i.op.toNat=4:=by omega
  rcases this with e|e|e|e|e<;>rw[e]<;>decide
 ·rw[if_neg h4];have hif:∀{p:Prop} [Decidable p] {x y:Bs},x≠[]→y≠[]→(if p then x else y)≠[]:=fun {p} _ {x y} h k=>by split<;>assumption
  refine hif ?_ (hif ?_ (hif ?_ (hif ?_ (hif ?_ (hif ?_ (hif ?_ (hif ?_ (hif ?_ (hif ?_ (hif ?_ ?_))))))))))<;>simp
theorem lnQ_ne {i:QI}(h:VQ i) (a:Nat):lnQ i a≠[]:=by
 unfold lnQ
 split
 ·next hq =>
  have:i.op.toNat=49∨i.op.toNat=50∨i.op.toNat=51:=by
   unfold vS at hq
   repeat' split at hq
   all_goals first|(exfalso;revert hq;decide)|omega
  rcases this with e|e|e<;>rw[e]<;>decide
 ·simp
def nxK (kind:Int) (s:Bs) (a:Nat):Bs×Nat:=if kind=1 then nx1 s a else nx2 s a
theorem nxt_nx (kind:Int) (s:Bs) (a:Nat):nxtA kind s a=(if (nxK kind s a).1=[] then bytB (s.take (nxK kind s a).2) else (nxK kind s a).1,(nxK kind s a).2):=by
 unfold nxtA nxK
 by_cases hk:kind=1
 ·rw[if_pos hk,if_pos hk];unfold nx1
  cases hd:decK s with
  | none=>rfl
  | some i =>
   have h:=decK_valid hd;dsimp only;rw[if_neg (lnK_ne h.1 h.2.1 a)]
 ·rw[if_neg hk,if_neg hk];unfold nx2
  by_cases h4:s.length<4
  ·rw[if_pos h4,if_pos h4];dsimp only;rw[if_pos rfl,List.take_length]
  ·rw[if_neg h4,if_neg h4]
   have hgl:getL (s.take 4)<4294967296:=by
    have h1:=getL_lt (s.take 4);have h2:(s.take 4).length≤4:=List.length_take_le ..;have:256 ^ (s.take 4).length≤256 ^ 4:=Nat.pow_le_pow_right (by omega) h2;omega
   cases hd:decQ (getL (s.take 4)) with
   | none=>rfl
   | some i =>
    have hen:=decQ_some hd;dsimp only;rw[if_neg (lnQ_ne (vQ_of (decQ_imm hgl hd) (by rw[hen];rfl)) a)]
end Go.Proofs.YtkaepknpplhgkaaGreatDoor
/- Disassemble, walked. -/
namespace Go.Proofs.YtkaepknpplhgkaaGreatDoor
open Go.RowKit
section
variable {P:Program}{n:Fr}{m:List (Nat×Value)}{ty:TypeId}{H:World→Prop}
def isFnV (v:Value):Bool:=match v with
 | .func _ _ _=>true
 | _=>false
theorem run_eqlIn_fn {t:TypeId}{ps rs:Array TypeId}{vr:Bool}{x:Value}(ht:P.underlying t=some (.func ps rs vr)) (hx:x=.nilFunc∨isFnV x=true) (w:World) (d:Nat):(Op.equalIn (d+1) t x .nilFunc).run P w=.ok (!isFnV x) w:=by
 rcases hx with rfl|h
 ·simp[Op.equalIn,run_underlying ht,isFnV]
 ·cases x<;>first|(simp[isFnV] at h;done)|simp[Op.equalIn,run_underlying ht,isFnV]
theorem run_eql_fn {t:TypeId}{ps rs:Array TypeId}{vr:Bool}{x:Value}(ht:P.underlying t=some (.func ps rs vr)) (hx:x=.nilFunc∨isFnV x=true) (w:World):(Op.equal t x .nilFunc).run P w=.ok (!isFnV x) w:=run_eqlIn_fn ht hx w 9999
theorem yf_eqNilF {x y:Operand}{t t':TypeId}{ps rs:Array TypeId}{vr:Bool}{v:Value}(hx:ev m x=some v) (hy:ev m y=some .nilFunc) (hv:v=.nilFunc∨isFnV v=true) (ht:P.underlying t=some (.func ps rs vr)):YF P (.binOp .eql t x y t') ty n m H (.bool (!isFnV v)):=fun _ w d pos af g hs hw=>by
 have:=run_eql_fn (P:=P) ht hv w;cases v<;>first|(simp[isFnV] at hv;done)|simp[Yl,execOp,hs.ev hx,hs.ev hy,binOp,Result.andThen,eqGuard,this]
end
abbrev disFn (kind:Int):FuncId:=if kind=1 then 90 else 91
structure DL where
 p:Nat
 f:Nat
 out:Bs
 q:Option Addr
 BA:Option Addr
 bc:Nat
structure DLI (kind:Int) (org:Nat) (code:Bs) (b:Nat) (full:Bs) (j:DL):Prop where
 le:j.p≤code.length
 fu:code.length-j.p≤j.f
 e:j.out++wG (disF kind org j.f (code.drop j.p) j.p)=full
 q:j.q=none∨j.q=some ⟨b,0,none⟩
 a:j.out=[]→j.BA=none
theorem DLI.step {kind:Int}{org:Nat}{code:Bs}{b:Nat}{full:Bs}{p f:Nat}{out:Bs}{q BA:Option Addr}{bc:Nat}(h:DLI kind org code b full ⟨p,f,out,q,BA,bc⟩) (hp:p<code.length):∃f',f=f'+1∧(out++((nxtA kind (code.drop p) ((org+p)%4294967296)).1++[10]))++wG (disF kind org f' (code.drop (p+(nxtA kind (code.drop p) ((org+p)%4294967296)).2)) (p+(nxtA kind (code.drop p) ((org+p)%4294967296)).2))=full:=by
 have hf:=h.fu;have he:=h.e;dsimp only at hf he;obtain⟨f',rfl⟩:∃f',f=f'+1:=⟨f-1,by omega⟩;have hne:code.drop p≠[]:=fun e=>by have:=List.drop_eq_nil_iff.1 e;omega
 refine⟨f',rfl,?_⟩;rw[← he,disF,if_neg hne,List.drop_drop];simp[wG]
theorem dis_find (kind:Int) (v1 v2:Value):Instr.findNow (.int .i64) (.int .i64 kind) [{ key:=.int .i64 1,val:=v1,born:=0 },{ key:=.int .i64 2,val:=v2,born:=1 }] 0=some (if kind=1 then some (0,v1) else if kind=2 then some (1,v2) else none):=by
 simp only[Instr.findNow,same_int]
 by_cases h1:kind=1
 ·simp[h1]
 ·by_cases h2:kind=2
  ·simp[h2]
  ·simp[h1,h2,Ne.symm h1,Ne.symm h2]
theorem zero_disFn:∀w:World,(zeroValue 158).run Tryz.prog w=.ok .nilFunc w:=fun w=>by kernel_rfl
theorem dis_fn (kind:Int) (hk:kind=1∨kind=2):goes Tryz.prog (disFn kind)=true:=by
 rcases hk with rfl|rfl<;>kernel_rfl
theorem dis_nx (kind:Int) (hk:kind=1∨kind=2) (s:Bs) (hs:s.length≤1000000000) (a:Nat) (ha:a<4294967296) (w:World) (hK:WOk w):Calls Tryz.prog (disFn kind) #[.string ⟨s.toArray⟩,.int .u32 a] w fun e w'=>e=.returned (.tuple #[.string ⟨(nxK kind s a).1.toArray⟩,.int .i64 (nxK kind s a).2])∧Ext w w':=by
 rcases hk with rfl|rfl
 ·exact dis1_any s hs a ha w hK
 ·exact dis2_any s hs a ha w hK
theorem linesB_le (kind:Int) (hk:kind=1∨kind=2) (org:Nat) (code:Bs):(wG (disF kind org code.length code 0)).length≤81*code.length:=dis_len hk org code.length code 0 (Nat.le_refl _)
theorem take_ln {c:UInt8}{l:Bs}{k:Nat}(h:l[k]? = some c):(l.take (k+1)).map (fun c=>Lib.decDigits c.toNat)=(l.take k).map (fun c=>Lib.decDigits c.toNat)++[Lib.decDigits c.toNat]:=by
 rw[qE h,List.map_append];rfl
set_option maxHeartbeats 4000000 in
set_option maxRecDepth 100000 in
theorem dis_any (kind:Int) (code:Bs) (hc:code.length≤1000000000) (org:Nat) (ho:org<4294967296) (w_0:World) (hK:WOk w_0):Calls Tryz.prog 36 #[.int .i64 kind,.string ⟨code.toArray⟩,.int .u32 org] w_0 fun e w'=>e=.returned (.string ⟨(disA kind code org).toArray⟩)∧Ext w_0 w':=by
 unfold disA
 by_cases hk:kind≠1∧kind≠2
 ·rw[if_pos hk];have e:((if kind=1 then some (0,fnV 90) else if kind=2 then some (1,fnV 91) else none:Option (Nat×Value)).map (·.2)).getD .nilFunc=.nilFunc:=by rw[if_neg hk.1,if_neg hk.2];rfl
  refine zP (args:=[.int .i64 kind,.string ⟨code.toArray⟩,.int .u32 org]) Tryz.func36 M 68 M (Nat.le_of_ble_eq_true M)<|Z3 0 1 2 M M M<|zU (H':=Hp (fun _=>False) w_0 [] [] (fun _=>True)) (fun u hu=>?_) ?_
  ·subst hu;exact Hp.start0
  refine zX<|zZ<|Za M M<|ZX<|zZ<|zM .none M (uL) (fun b15=>?_);refine yN .none (cf_insert 0 M M M M Tryz.underlying162 Tryz.underlying3 M) (fun _=>?_);refine yN .none (cf_insert 0 M M M M Tryz.underlying162 Tryz.underlying3 M) (fun _=>?_);refine Zm M M<|Zm M M<|tT .none M  (v:=.nilFunc) (by rw[← e];exact yf_lookupV (z:=.nilFunc) M M (fun w hw=>HpG.blk hw (k:=0) M) Tryz.underlying162 Tryz.underlying3 zero_disFn (dis_find kind _ _)) ?_;refine Za M M<|ZX<|zX<|Z5r 0 1 2 6 7 M M M M M<|Zm M M<|tT .none M  (v:=.bool true) (yf_eqNilF M M (.inl M) Tryz.underlying158)<|ZT<|zT M (fun hc=>?_) (fun hc=>?_)
  ·refine zX<|Z6r 0 1 2 6 7 20 M M M M M M<|Za M M<|ZT<|zR<|zN<|zO M M (fun w hw=>?_);exact⟨rfl,hw.ext0⟩
  ·cases hc
 ·rw[if_neg hk];have hk12:kind=1∨kind=2:=by omega
  have e:((if kind=1 then some (0,fnV 90) else if kind=2 then some (1,fnV 91) else none:Option (Nat×Value)).map (·.2)).getD .nilFunc=fnV (disFn kind):=by
   rcases hk12 with rfl|rfl<;>rfl
  have hgo:=dis_fn kind hk12;have hfl:=linesB_le kind hk12 org code;obtain⟨full,hfull⟩:∃x,x=wG (disF kind org code.length code 0):=⟨_,rfl⟩;rw[← hfull] at hfl ⊢;refine zP (args:=[.int .i64 kind,.string ⟨code.toArray⟩,.int .u32 org]) Tryz.func36 M 68 M (Nat.le_of_ble_eq_true M)<|Z3 0 1 2 M M M<|zU (H':=Hp (fun _=>False) w_0 [] [] (fun _=>True)) (fun u hu=>?_) ?_
  ·subst hu;exact Hp.start0
  refine zX<|zZ<|Za M M<|ZX<|zZ<|zM .none M (uL) (fun b15=>?_);refine yN .none (cf_insert 0 M M M M Tryz.underlying162 Tryz.underlying3 M) (fun _=>?_);refine yN .none (cf_insert 0 M M M M Tryz.underlying162 Tryz.underlying3 M) (fun _=>?_);refine Zm M M<|Zm M M<|tT .none M  (v:=fnV (disFn kind)) (by rw[← e];exact yf_lookupV (z:=.nilFunc) M M (fun w hw=>HpG.blk hw (k:=0) M) Tryz.underlying162 Tryz.underlying3 zero_disFn (dis_find kind _ _)) ?_;refine Za M M<|ZX<|zX<|Z5r 0 1 2 6 7 M M M M M<|Zm M M<|tT .none M  (v:=.bool false) (yf_eqNilF (v:=fnV (disFn kind)) M M (.inr M) Tryz.underlying158) ?_;refine ZT<|zT M (fun hc=>?_) (fun hc=>?_)
  ·cases hc
  ·refine zK<|zS<|zX<|Z6r 0 1 2 6 7 20 M M M M M M<|zM .none M (yV (z:=.agg #[.pointer none,.slice none 0 0]) (cs:=[.pointer none,.slice none 0 0]) (by kernel_rfl) M) (fun b8=>?_);refine ZX<|zX<|zZ<|Za M M<|ZT<|yX<|xR (ι:={j:DL // DLI kind org code b8 full j}) (fun j=>[(1,.string ⟨code.toArray⟩),(2,.int .u32 org),(7,fnV (disFn kind)),(8,.pointer (some ⟨b8,0,none⟩)),(9,.int .i64 (j.1.p:Nat))]) (fun j=>Hp (fun _=>False) w_0 [(b8,bdO (.pointer j.1.q) (.slice j.1.BA j.1.out.length j.1.bc))] [rwB j.1.BA j.1.bc j.1.out] (fun _=>True)) (fun j=>code.length-j.1.p) ⟨⟨0,code.length,[],none,none,0⟩,⟨Nat.zero_le _,Nat.le_refl _,hfull.symm,.inl rfl,fun _=>rfl⟩⟩ ?_ ?_ (fun j=>?_)
   ·exact .cons M<|.cons M<|.cons M<|.cons M<|.cons M<|.nil
   ·exact fun w h=>Hp.nil (Hp.drop h (.cons_cons _ (.cons _ .slnil)) (List.Sublist.refl _)) _ _
   obtain⟨⟨p,f,out,q,BA,bc⟩,hj⟩:=j;have hple:=hj.le;have hje:=hj.e;have hq:=hj.q;have hBA:=hj.a;dsimp only at hple hje hq hBA ⊢;refine zX<|zX<|zZ<|Zm M M<|Zm M M<|ZF M (wD M Tryz.underlying9)<|ZF M (xV M M)<|ZT<|zT M (fun h24=>?_) (fun h24=>?_)
   ·replace h24:=of_decide_eq_true h24;skip;have h24':p<code.length:=by omega
    obtain⟨f',hf',hst⟩:=hj.step h24';have hsne:code.drop p≠[]:=fun e=>by have:=List.drop_eq_nil_iff.1 e;omega
    have hau:IntKind.u32.wrap ((org:Int)+IntKind.u32.wrap (p:Int))=(((org+p)%4294967296:Nat):Int):=by rw[u32w,u32w];omega
    have hamod:(org+p)%4294967296<4294967296:=Nat.mod_lt _ (by decide);obtain⟨hn0,hnl,_⟩:=nxt_it hk12 hsne hamod;have hnx:=nxt_nx kind (code.drop p) ((org+p)%4294967296);have hds:=dis_nx kind hk12 (code.drop p) (by rw[List.length_drop];omega) ((org+p)%4294967296) hamod;obtain⟨⟨ln,nn⟩,hx⟩:∃x,x=nxK kind (code.drop p) ((org+p)%4294967296):=⟨_,rfl⟩;rw[← hx] at hnx hds;dsimp only at hnx hds;obtain⟨X,hX⟩:∃X,X=if ln=[] then bytB ((code.drop p).take nn) else ln:=⟨_,rfl⟩;rw[← hX] at hnx;rw[hnx] at hn0 hnl hst;dsimp only at hn0 hnl hst;rw[List.length_drop] at hnl;have hol:(out++(X++([10]:Bs))).length≤full.length:=by rw[← hst];exact (List.sublist_append_left _ _).length_le
    rw[List.length_append] at hol;have hXl10:(X++([10]:Bs)).length=X.length+1:=by simp
    refine zK<|zS<|yX<|zX<|Z6r 1 2 7 8 9 24 M M M M M M<|Zm M M<|Zm M M<|Zm M M<|ZF M (yf_strLo (c:=code.drop p) M M Tryz.underlying9 (by omega) (by omega) (by rw[Int.toNat_natCast])) ?_;refine Zm M M<|Zm M M ?_
    refine ZF M (yO M (by kernel_rfl) Tryz.underlying22 M) ?_
    refine ZF M (yK M M hau)<|xZ (ι:=Unit) (val:=fun _=>.tuple #[.string ⟨ln.toArray⟩,.int .i64 (nn:Nat)]) (H':=fun _=>Hp (fun _=>False) w_0 [(b8,bdO (.pointer q) (.slice BA out.length bc))] [rwB BA bc out] (fun _=>True)) .none M  (sD (us:=[]) (vs:=[.string ⟨(code.drop p).toArray⟩,.int .u32 ((org+p)%4294967296:Nat)]) (cs:=[]) hgo M M (fun w hw=>(hds w (hK.ext hw.ext0)).mono fun e w' ⟨e1,e2⟩=>⟨_,e1,(),rfl,HpG.onE hw e2⟩)) (fun _=>?_);refine Zm M M<|ZF M (zH M M)<|ZF M (zH M M)<|Za M M<|Za M M<|ZT<|xS (ι:=Unit) (fun _=>[(1,.string ⟨code.toArray⟩),(2,.int .u32 org),(7,fnV (disFn kind)),(8,.pointer (some ⟨b8,0,none⟩)),(9,.int .i64 (p:Nat)),(10,.string ⟨X.toArray⟩),(11,.int .i64 (nn:Nat))]) (fun _=>Hp (fun _=>False) w_0 [(b8,bdO (.pointer q) (.slice BA out.length bc))] [rwB BA bc out] (fun _=>True)) ?_ (fun _=>?_)
    ·refine zX<|Z8r 1 2 7 8 9 10 11 24 M M M M M M M M<|Zm M M<|ZF M (xQ M M Tryz.underlying9)<|ZT<|zT M (fun h38=>?_) (fun h38=>?_)
     ·have hln:ln=[]:=of_decide_eq_true h38;obtain⟨B,hB⟩:∃B,B=(code.drop p).take nn:=⟨_,rfl⟩;have hBl:B.length=nn:=by rw[hB,List.length_take,List.length_drop];omega
      have hjb:(joB (B.map fun c=>Lib.decDigits c.toNat)).length≤5*B.length:=by
       have:=joB_len (k:=3) (l:=B.map fun c=>Lib.decDigits c.toNat) (fun x hx=>by
        obtain⟨c,_,rfl⟩:=List.mem_map.1 hx;have:=UInt8.toNat_lt c
        exact vM (k:=3) (by omega) (by decide))
       rw[List.length_map] at this;exact this
      have hXb:X=bytB B:=by rw[hX,if_pos hln,hB]
      refine zX<|Z9r 1 2 7 8 9 10 11 24 38 M M M M M M M M M<|Za M M<|ZX<|zX<|zZ<|Zm M M<|Zm M M<|Zm M M<|Zm M M<|ZF M (yK M M (show IntKind.i64.wrap ((p:Int)+((nn:Nat):Int))=((p+nn:Nat):Int) from i64_in ((p+nn:Nat):Int) (by omega) (by omega))) ?_;refine ZF M (yf_strSlice (c:=B) M M M Tryz.underlying9 (by omega) (by omega) (by omega) (by rw[Int.toNat_natCast,Int.toNat_natCast,Nat.add_sub_cancel_left,hB])) ?_;refine wl_bytes .none M  M Tryz.underlying9 Tryz.underlying53 Tryz.underlying5 (fun _ h=>h.elim) (fun b45 cap45 F hF=>?_);refine ZF M (xY M Tryz.underlying53)<|Zm M M<|ZT<|yX<|xR (ι:={j:Nat×(Option Addr×Nat) // j.1≤nn∧j.1≤j.2.2∧(0<j.1→∃b,j.2.1=some ⟨b,0,none⟩)}) (fun j=>[(1,.string ⟨code.toArray⟩),(2,.int .u32 org),(7,fnV (disFn kind)),(8,.pointer (some ⟨b8,0,none⟩)),(9,.int .i64 (p:Nat)),(11,.int .i64 (nn:Nat)),(12,.slice j.1.2.1 j.1.1 j.1.2.2),(45,.slice (some ⟨b45,0,none⟩) B.length cap45),(46,.int .i64 B.length),(47,.int .i64 (j.1.1:Nat))]) (fun j=>Hp (fun _=>False) w_0 [(b8,bdO (.pointer q) (.slice BA out.length bc))] [⟨.slice j.1.2.1 j.1.1 j.1.2.2,9,1,j.1.1,strV ((B.take j.1.1).map fun c=>Lib.decDigits c.toNat)⟩,rwB BA bc out] (fun u=>RdF F (some ⟨b45,0,none⟩) (u8L B) u∧True)) (fun j=>nn-j.1.1) ⟨(0,(none,0)),Nat.zero_le _,Nat.le_refl _,fun h=>absurd h (by omega)⟩ ?_ ?_ (fun j=>?_)
      ·exact .cons M<|.cons M<|.cons M<|.cons M<|.cons M<|.cons M<|.cons M<|.cons M<|.cons M<|.cons M<|.nil
      ·exact fun w h=>Hp.nil h _ _
      obtain⟨⟨k,A,cap⟩,hkn,hkc,hkA⟩:=j;dsimp only at hkn hkc hkA ⊢;refine zX<|zZ<|ZF M (xV M M)<|ZX<|zT M (fun h48=>?_) (fun h48=>?_)
      ·replace h48:=of_decide_eq_true h48;skip;obtain⟨c,hcb⟩:∃c,B[k]? = some c:=⟨B[k]'(by omega),List.getElem?_eq_getElem _⟩;have hcl:=UInt8.toNat_lt c;have htk:=take_ln hcb;have hst2:strV ((B.take (k+1)).map fun c=>Lib.decDigits c.toNat)=strV ((B.take k).map fun c=>Lib.decDigits c.toNat)++[.string ⟨(Lib.decDigits c.toNat).toArray⟩]:=by rw[htk];simp
       refine zK<|zS<|zX<|yX<|zX<|zZ ?_;(refine ZF rfl (zF (es:=1) rfl rfl Tryz.underlying53 (by kernel_rfl) rfl ?_ rfl) ?_;(· first|decide|omega|(simp;done)|(simp;omega));skip);refine ZF M (zC M Tryz.underlying5 M (fun w hw=>RdF.part (HpG.x hw).1 (i:=k) (by rw[List.length_map];omega) (by omega) (by rw[List.getElem?_map,hcb];rfl))) ?_;refine Za M M<|ZT<|Z12r 1 2 7 8 9 11 12 14 45 46 47 48 M M M M M M M M M M M M<|Zm M M<|Zm M M ?_
       refine ZF M (yO M (by kernel_rfl) Tryz.underlying3 (sG (by omega))) ?_
       refine zD .none M  (v:=.string ⟨(Lib.decDigits c.toNat).toArray⟩) (by kernel_rfl) M (fun w hw=>by
        have:=tA (c.toNat:Nat) (by omega) (by omega) w (hK.tb.ext hw.ext0);rw[show Lib.itoa ((c.toNat:Nat):Int)=Lib.decDigits c.toNat from (if_neg (by omega)).trans (congrArg Lib.decDigits (Int.toNat_natCast _))] at this
        exact this) ?_
       refine zM .none M (xI (z:=.string ⟨#[]⟩) M M Tryz.underlying59 (by kernel_rfl) (by kernel_rfl) M M) (fun b55=>?_);(refine vF (z:=.string ⟨#[]⟩) (bytes:=16) 0 0 .none rfl rfl rfl rfl rfl Tryz.underlying59 (by kernel_rfl) rfl rfl rfl rfl rfl ?_ ?_ (fun a56 c56 h56=>?_);(· omega);(· omega);skip);refine Za M M<|zE<|yY<|zS<|Z12r 1 2 7 8 9 11 12 14 45 46 47 48 M M M M M M M M M M M M<|ZF M (yK M M (show IntKind.i64.wrap ((k:Int)+1)=((k+1:Nat):Int) from i64_in ((k+1:Nat):Int) (by omega) (by omega))) ?_;refine Zm M M<|zE<|yM (ι:={j:Nat×(Option Addr×Nat) // j.1≤nn∧j.1≤j.2.2∧(0<j.1→∃b,j.2.1=some ⟨b,0,none⟩)}) ⟨(k+1,(some ⟨a56,0,none⟩,c56)),by omega,h56,fun _=>⟨a56,rfl⟩⟩ (by show nn-(k+1)<nn-k;omega) (O10 M M M M M M M M M M) (fun w h=>?_);show Hp _ _ _ [⟨_,_,_,_,strV ((B.take (k+1)).map fun c=>Lib.decDigits c.toNat)⟩,_] _ w;rw[hst2];exact Hp.drop h (List.sublist_cons_self _ _) (List.Sublist.refl _)
      ·replace h48:=of_decide_eq_false h48;skip;obtain rfl:k=nn:=by omega
       obtain⟨bA,rfl⟩:=hkA hn0;have hBt:B.take k=B:=List.take_of_length_le (by omega);refine xW<|zL<|zL<|xX<|zS<|zZ<|Zm M M<|zD .none M  (v:=.string ⟨(joB (B.map fun c=>Lib.decDigits c.toNat)).toArray⟩) (by kernel_rfl) M (fun w hw=>join_row (l:=B.map fun c=>Lib.decDigits c.toNat) (k:=0) hw (by rw[hBt];rfl) (by rw[List.length_map];omega) (by omega) (by omega)) ?_;(refine ZF rfl (zB rfl rfl ?_) ?_;(· (first|omega|(simp only[List.length_append,List.length_cons,List.length_nil];omega)|(simp<;>omega)));skip);exact Za M M<|zE<|yZ (ι:=Unit) () (.cons M<|.cons M<|.cons M<|.cons M<|.cons M<|.consE M (by rw[hXb];rfl)<|.cons M<|.nil) (fun w h=>Hp.weakX (Hp.drop h (List.Sublist.refl _) (.cons _ (List.Sublist.refl _))) fun _ _=>trivial)
     ·have hXl:X=ln:=by rw[hX,if_neg (of_decide_eq_false h38)]
      exact zK<|yZ (ι:=Unit) () (.cons M<|.cons M<|.cons M<|.cons M<|.cons M<|.consE M (by rw[hXl];rfl)<|.cons M<|.nil) (fun w h=>h)
    ·refine zX<|zZ<|Zm M M ?_;(refine ZF rfl (zB rfl rfl ?_) ?_;(· (first|omega|(simp only[List.length_append,List.length_cons,List.length_nil];omega)|(simp<;>omega)));skip);refine xZ (ι:={i:Option Addr×Nat // out++(X++([10]:Bs))=[]→i.1=none}) (val:=fun _=>.tuple #[.int .i64 ((X++([10]:Bs)).length:Nat),.nilIface]) (H':=fun i=>Hp (fun _=>False) w_0 [(b8,bdO (.pointer (some ⟨b8,0,none⟩)) (.slice i.1.1 (out++(X++([10]:Bs))).length i.1.2))] [rwB i.1.1 i.1.2 (out++(X++([10]:Bs)))] (fun _=>True)) .none M  (uG (by kernel_rfl) M (fun w hw=>(write_any 0 0 (X++([10]:Bs)) hq M M hBA (by omega) w hw).mono fun e w' ⟨e1,A',c',e2,e3⟩=>⟨_,e1,⟨(A',c'),e2⟩,rfl,e3⟩)) (fun ⟨⟨BA2,bc2⟩,hBA2⟩=>?_);refine ZT<|Z7r 1 2 7 8 9 10 11 M M M M M M M<|Zm M M<|Zm M M<|ZF M (yK M M (show IntKind.i64.wrap ((p:Int)+((nn:Nat):Int))=((p+nn:Nat):Int) from i64_in ((p+nn:Nat):Int) (by omega) (by omega))) ?_;refine Za M M<|zE<|yY<|yM (ι:={j:DL // DLI kind org code b8 full j}) ⟨⟨p+nn,f',out++(X++([10]:Bs)),some ⟨b8,0,none⟩,BA2,bc2⟩,⟨by show p+nn≤_;omega,by show code.length-(p+nn)≤f';have:=hj.fu;dsimp only at this;omega,hst,.inr rfl,hBA2⟩⟩ (by show code.length-(p+nn)<code.length-p;omega) (O5 M M M M M) (fun w h=>h)
   ·replace h24:=of_decide_eq_false h24;skip;have hpe:p=code.length:=by omega
    have hof:out=full:=by
     rw[← hje,hpe,List.drop_length];cases f<;>simp[disF,wG]
    refine xW<|zL<|zL<|xX<|zS<|zX<|Z6r 1 2 7 8 9 24 M M M M M M<|xZ (ι:=Unit) (val:=fun _=>.string ⟨out.toArray⟩) (H':=fun _=>Hp (fun _=>False) w_0 [(b8,bdO (.pointer q) (.slice BA out.length bc))] [] (fun _=>True)) .none M  (uG (by kernel_rfl) M (fun w hw=>(str_any 0 hBA M w hw).mono fun e w' ⟨e1,e2⟩=>⟨_,e1,(),rfl,e2⟩)) (fun _=>?_);refine Za M M<|ZT<|zR<|zO M M (fun w hw=>?_);exact⟨by rw[hof],hw.ext0⟩
end Go.Proofs.YtkaepknpplhgkaaGreatDoor
