import Derived.Test.YtkaepknpplhgkaaGreatDoorMah
import Derived.Test.YtkaepknpplhgkaaGreatDoorMac
import Derived.Test.YtkaepknpplhgkaaGreatDoorMaa
import Derived.Test.YtkaepknpplhgkaaGreatDoorMad
import Derived.Test.YtkaepknpplhgkaaGreatDoorMaX
import Derived.Test.YtkaepknpplhgkaaGreatDoorMaW
import Derived.Test.YtkaepknpplhgkaaGreatDoorMaf
namespace Go.Proofs.YtkaepknpplhgkaaGreatDoor
open Go.RowKit
section
variable {P:Program}{n:Fr}{m:List (Nat×Value)}{ty:TypeId}{G B:Nat→Prop}{w0 w:World}{L:List (Nat×Obj)}{R:List Rw}{X J:World→Prop}{Q:Exit→Act→World→Prop}{ops:Array Oper}{σ:List Nat}
end
abbrev qi0:QI:=⟨0,0,0,0,0⟩
theorem branch_any (op:Int) (w_0:World):Calls Tryz.prog 157 #[.int .i64 op] w_0 fun e w'=>e=.returned (.bool (decide (32≤op∧op≤37)))∧Ext w_0 w':=by
 refine zM (args:=[.int .i64 op]) Tryz.func157 M 9 M (Jy M)<|Z1 0 M<|zU (H':=Hp (fun _=>False) w_0 [] [] (fun _=>True)) (fun u hu=>?_) ?_
 ·subst hu;exact Hp.start0
 refine zX<|zZ<|Za M M<|ZX<|zZ<|Zm M M<|ZF M (xJ M M)<|Zm M M<|zF 5 M (fun g3=>?_) (fun g3=>?_)
 ·replace g3:=Jz g3;refine ZG M M M (zJ M)<|ZG M M M (wQ M M)<|ZF M (zL M M)<|Za M M<|ZT<|zS<|zQ M M (fun w hw=>?_);exact⟨by congr 2;rw[Jw,Kx,Kx];omega,hw.ext0⟩
 ·replace g3:=Ka g3;refine ZP M<|ZP M<|ZF M (zN M M)<|Za M M<|ZT<|zS<|zQ M M (fun w hw=>?_);exact⟨by rw[Af (by omega)],hw.ext0⟩
theorem qtarget_any (i:QI) (hi:i.imm<4294967296) (hv:wH i=true) (hj:sP i.op=true) (a:Nat) (ha:a<4294967296) (w_0:World):Calls Tryz.prog 82 #[.agg (qiC i).toArray,.int .u32 a] w_0 fun e w'=>e=.returned (.tuple #[.int .u32 ((a+4*i.imm)%4294967296:Nat),.bool true])∧Ext w_0 w':=by
 have e1:∀z:Int,IntKind.u32.wrap z=z%4294967296:=fun _=>rfl;have e2:IntKind.u32.wrap ((a:Int)+IntKind.u32.wrap (4*(i.imm:Int)))=((a+4*i.imm)%4294967296:Nat):=by rw[e1,e1];omega
 have hj':i.op=40∨(32≤i.op∧i.op≤37):=by
  unfold sP at hj;simp only[Bool.or_eq_true,Kx] at hj;omega
 refine zM (args:=[.agg (qiC i).toArray,.int .u32 a]) Tryz.func82 M 25 M (Jy M)<|Z2 0 1 M M<|zU (H':=Hp (fun _=>False) w_0 [] [] (fun _=>True)) (fun u hu=>?_) ?_
 ·subst hu;exact Hp.start0
 refine zX<|zZ<|zG .none M (yG M M) (fun b2=>?_);refine Za M M<|Za M M<|ZX<|zX<|zZ<|ZF M (yS 0 M M Tryz.underlying74 M (by kernel_rfl)) ?_;refine zE .none M  (v:=.bool true) (by kernel_rfl) M (fun w hw=>(qvalid_any i hi w).mono fun e w' ⟨h1,h2⟩=>⟨by rw[h1,hv],h2⟩) ?_;refine ZF M (xD M)<|Zm M M<|zF 9 M (fun hb=>?_) (fun hb=>?_)
 ·cases hb
 ·refine ZG M M M (zY (off:=0) (sz:=0) M Tryz.underlying74 (by kernel_rfl) M) ?_;refine ZG M M M (zW 0 M M M Tryz.underlying3 M)<|ZG M M M (qW M M)<|ZG M M M (zJ M)<|zF 13 M (fun g8=>?_) (fun g8=>?_)
  ·replace g8:=qY g8;refine ZG M M M (zY (off:=0) (sz:=0) M Tryz.underlying74 (by kernel_rfl) M) ?_;refine ZG M M M (zW 0 M M M Tryz.underlying3 M)<|zE (.some M M) M  (v:=.bool (decide (32≤i.op∧i.op≤37))) (by kernel_rfl) M (fun w hw=>branch_any i.op w) ?_;refine ZG M M M (xD M)<|ZG M M M (zL M M)<|ZF M (zN M M)<|ZT<|zT M (fun h19=>?_) (fun h19=>?_)
   ·first|(exact absurd h19 (by rw[Ae (show 32≤i.op∧i.op≤37 by omega)];decide))|cases h19
   ·refine zH<|zR<|zX<|Z6r 0 1 2 4 5 19 M M M M M M<|Zm M M<|ZF M (zY (off:=4) (sz:=0) M Tryz.underlying74 (by kernel_rfl) M) ?_;refine ZF M (zW 0 M M M Tryz.underlying22 M)<|ZF M (qV M M M)<|ZF M (yP M M e2)<|Za M M<|Za M M<|ZT<|zS<|sZ M M M (fun w hw=>?_);exact⟨rfl,hw.ext0⟩
  ·replace g8:=bne_no g8;refine ZP M<|ZP M<|ZP M<|ZP M<|ZG M M M (zN M M)<|ZF M (zN M M)<|ZT<|uV M<|zH<|zR<|zX<|Z6r 0 1 2 4 5 19 M M M M M M<|Zm M M<|ZF M (zY (off:=4) (sz:=0) M Tryz.underlying74 (by kernel_rfl) M) ?_;refine ZF M (zW 0 M M M Tryz.underlying22 M)<|ZF M (qV M M M)<|ZF M (yP M M e2)<|Za M M<|Za M M<|ZT<|zS<|sZ M M M (fun w hw=>?_);exact⟨rfl,hw.ext0⟩
end Go.Proofs.YtkaepknpplhgkaaGreatDoor
namespace Go.Proofs.YtkaepknpplhgkaaGreatDoor
open Go.RowKit
section
variable {P:Program}{n:Fr}{m:List (Nat×Value)}{ty:TypeId}
theorem yf_lookupV {ik:IntKind}{H:World→Prop}{x y:Operand}{T K E:TypeId}{g c:Nat}{es:Array MapEntry}{key:Int}{z:Value}{r:Option (Nat×Value)}(hx:ev m x=some (.map (some g))) (hy:ev m y=some (.int ik key)) (hr:∀w,H w→w.heap[g]? = some (.map es c)) (hT:P.underlying T=some (.map K E)) (hK:P.underlying K=some (.int ik)) (hz:∀w,(zeroValue E).run P w=.ok z w) (hf:Instr.findNow (.int ik) (.int ik key) es.toList 0=some r) :
  YF P (.lookup T x y false) ty n m H ((r.map (·.2)).getD z):=fun a w d pos af gd hs hw=>by
 have hc:(Instr.checkKey es.isEmpty 10000 K (.int ik key)).run P w=.ok () w:=MapKept.run_checkKey (k:=.int ik key) hK (by simp[MapKept.IsKey]) _ 9999
 have hl:(Instr.lookup T (.map (some g)) (.int ik key) false).run P w=.ok ((r.map (·.2)).getD z) w:=by
  cases r with
  | none=>simp[Instr.lookup,run_underlying hT,MapKept.run_getObj_map (hr w hw),hc,MapKept.run_findKey hK hf,hz,Result.andThen]
  | some v=>simp[Instr.lookup,run_underlying hT,MapKept.run_getObj_map (hr w hw),hc,MapKept.run_findKey hK hf,Result.andThen]
 simp[Yl,execOp,hs.ev hx,hs.ev hy,hl]
theorem nf_bs0F {t e:TypeId}{size:Nat}(ht:P.underlying t=some (.slice e)) (hs':(P.info? e).map (·.size)=some size):NF P (.buildSlice t 0 #[]) ty n m (bk e []) (fun g=>.slice (some ⟨g,0,none⟩) 0 0):=by
 intro a w d pos af g hs
 cases hq:P.info? e with
 | none=>simp[hq] at hs'
 | some i =>
  have:(Instr.buildSlice t 0 #[]).run P w=.ok (.slice (some ⟨w.heap.size,0,none⟩) 0 0) (w.alloc (bk e [])):=by
   simp[Instr.buildSlice,run_underlying ht,sizeOf,typeInfo,hq,newRow,Instr.fill];rw[show Array.range 0=#[] from Array.ext (by simp) (by simp),Array.map_empty]
  simp[execOp,this]
end
theorem findQ (key:Nat):∀(l:List (Nat×Bs)) (i j:Nat),∃n,Instr.findNow (.int .i64) (.int .i64 (key:Int)) ((l.zipIdx i).map fun p=>{ key:=.int .i64 p.1.1,val:=.string ⟨p.1.2.toArray⟩,born:=p.2 }) j=some ((l.find? fun p=>Nat.beq p.1 key).map fun p=>(n,.string ⟨p.2.toArray⟩))
 | [],_,_=>⟨0,rfl⟩
 | (k,x)::l,i,j=>by
  simp only[List.zipIdx_cons,Aa,Instr.findNow,same_int,List.find?_cons]
  by_cases h:k=key
  ·subst h;exact⟨j,by rw[Ae rfl,show Nat.beq k k=true from Nat.beq_refl k];rfl⟩
  ·obtain⟨n,hn⟩:=findQ key l (i+1) (j+1);refine⟨n,?_⟩;rw[Af (by omega),show Nat.beq k key=false from Bool.eq_false_iff.2 fun e=>h (Nat.eq_of_beq_eq_true e)];exact hn
theorem qnm_look (op:Nat):∃r,Instr.findNow (.int .i64) (.int .i64 (op:Int)) (mapNE sQ).toArray.toList 0=some r∧(r.map (·.2)).getD (.string ⟨#[]⟩)=.string ⟨(wX op).toArray⟩:=by
 obtain⟨n,hn⟩:=findQ op sQ 0 0;refine⟨_,hn,?_⟩;unfold wX;cases sQ.find? fun p=>Nat.beq p.1 op<;>rfl
theorem zero_str:∀w:World,(zeroValue 9).run Tryz.prog w=.ok (.string ⟨#[]⟩) w:=fun w=>by kernel_rfl
theorem join_jo:∀l:List Bs,Lib.join l [44,32]=joB l
 | []=>rfl
 | [x]=>by simp[Lib.join,joB]
 | x::y::r=>by
  have ih:=join_jo (y::r);unfold Lib.join at ih ⊢;show _=x++[44,32]++joB (y::r);rw[← ih];simp[List.intercalate,List.intersperse]
abbrev strV (l:List Bs):List Value:=l.map fun x=>.string ⟨x.toArray⟩
theorem join_row {w0 w:World}{L:List (Nat×Obj)}{R:List Rw}{X:World→Prop}{k b n cap:Nat}{l:List Bs}(h:Hp (fun _=>False) w0 L R X w) (hk:R[k]? = some ⟨.slice (some ⟨b,0,none⟩) n cap,9,1,n,strV l⟩) (hn:l.length=n) (hN:n≤1000000000) (hl:(joB l).length≤100000000000) :
  Calls Tryz.prog 86 #[.slice (some ⟨b,0,none⟩) n cap,.string ⟨#[44,32]⟩] w fun e w'=>e=.returned (.string ⟨(joB l).toArray⟩)∧Ext w w':=by
 subst hn;obtain⟨rest,hb⟩:=HpG.rowBlock h hk;have hcp:=HpG.rowCp h hk;have hm:(l.map fun x=>(⟨x.toArray⟩:ByteArray)).map (·.data.toList)=l:=by rw[List.map_map];exact (List.map_congr_left fun x _=>rfl).trans (List.map_id l)
 have:=Tryz.strings_Join b 0 cap (l.map fun x=>⟨x.toArray⟩) ⟨#[44,32]⟩ w (fun j x hj=>?_) (Kh.1 hb).1 (by rw[Ab];omega) (by rw[Ab];exact hcp.1) (by rw[hm];show (Lib.join l [44,32]).length≤_;rw[join_jo];omega)
 ·rw[hm,Ab] at this;refine this.mono fun e w' ⟨h1,h2⟩=>⟨?_,h2⟩;rw[h1,← join_jo]
 ·rw[List.getElem?_map] at hj
  cases hlj:l[j]? with
  | none=>rw[hlj] at hj;cases hj
  | some s =>
   rw[hlj] at hj;cases hj;refine Blk.cell hb ?_;rw[Ku,List.getElem?_append_left (by rw[Ab];exact (Jx.1 hlj).1),List.getElem?_map,hlj];rfl
end Go.Proofs.YtkaepknpplhgkaaGreatDoor
namespace Go.Proofs.YtkaepknpplhgkaaGreatDoor
open Go.RowKit
def NoSp (s:Bs):Prop:=∃y c,s=y++[c]∧c≠32
theorem NoSp.pre {s:Bs}(t:Bs) (h:NoSp s):NoSp (t++s):=by
 obtain⟨y,c,rfl,hc⟩:=h;exact⟨t++y,c,(Kn ..).symm,hc⟩
theorem dec_nosp (n:Nat):NoSp (Lib.decDigits n):=by
 obtain⟨h1,_,h3⟩:=dec_all (n+1) n (by omega);refine⟨_,_,(List.dropLast_concat_getLast h3).symm,fun e=>?_⟩;have:=h1 _ (List.getLast_mem h3);rw[e] at this;exact absurd this (by decide)
theorem prtQ_nosp (i:QI) (a:Nat) (c:UInt8) (k:Nat):NoSp (qJ i a c k):=by
 unfold qJ
 split
 ·exact (dec_nosp _).pre [114]
 ·split
  ·unfold tP
   split
   ·exact dec_nosp _
   ·split
    ·exact dec_nosp _
    ·unfold sR
     split
     ·exact (dec_nosp _).pre [45]
     ·exact dec_nosp _
  ·exact⟨_,93,rfl,by decide⟩
theorem joB_nosp:∀{l:List Bs},l≠[]→(∀x∈l,NoSp x)→NoSp (joB l)
 | [],h,_=>absurd rfl h
 | [x],_,h=>h x (by simp)
 | x::y::r,_,h=>(joB_nosp (l:=y::r) (by simp) fun z hz=>h z (Kq _ hz)).pre (x++[44,32])
theorem prtsQ_nosp (i:QI) (a:Nat):∀(l:List UInt8) (k:Nat),∀x∈uT i a l k,NoSp x
 | [],_,_,h=>nomatch h
 | c::l,k,x,h=>by
  rcases List.mem_cons.1 h with rfl|h
  ·exact prtQ_nosp i a c k
  ·exact prtsQ_nosp i a l (k+1) x h
theorem trim_sp (s:Bs):Lib.trimSuffix (s++[32]) [32]=s:=by
 unfold Lib.trimSuffix Lib.hasSuffix;simp
theorem trim_no {s:Bs}(h:NoSp s):Lib.trimSuffix s [32]=s:=by
 obtain⟨y,c,rfl,hc⟩:=h;unfold Lib.trimSuffix Lib.hasSuffix;simp[hc,Ne.symm hc]
theorem lnQ_trim (i:QI) (a:Nat):Lib.trimSuffix (wX i.op.toNat++[32]++joB (uT i a (wY i.op.toNat) 0)) [32]=lnQ i a:=by
 unfold lnQ
 by_cases h:wY i.op.toNat=[]
 ·rw[Kz h,h];show Lib.trimSuffix (wX i.op.toNat++[32]++[]) [32]=_;rw[Ac,trim_sp]
 ·rw[Ky h];refine trim_no ((joB_nosp ?_ (prtsQ_nosp i a _ 0)).pre _)
  cases hs:wY i.op.toNat with
  | nil=>exact absurd hs h
  | cons c r=>intro e;cases e
theorem trimS_any (s:Bs) (hs:s.length≤1000000) (w:World):Calls Tryz.prog 84 #[.string ⟨s.toArray⟩,.string ⟨#[32]⟩] w fun e w'=>e=.returned (.string ⟨(Lib.trimSuffix s [32]).toArray⟩)∧Ext w w' :=
 (Tryz.strings_TrimSuffix ⟨s.toArray⟩ ⟨#[32]⟩ w (by show s.toArray.size≤_;rw[List.size_toArray];omega)).mono fun _ _ ⟨h1,h2⟩=>⟨h1,h2▸Ext.refl _⟩
theorem prtsQ_at {i:QI}{a:Nat}:∀{l:List UInt8}{k p:Nat}{c:UInt8},l[p]? = some c→(uT i a l k)[p]? = some (qJ i a c (k+p))
 | [],_,_,_,h=>by cases h
 | x::l,k,0,c,h=>by cases h;rfl
 | x::l,k,p+1,c,h=>by
  have:=prtsQ_at (i:=i) (a:=a) (l:=l) (k:=k+1) (p:=p) h;rw[show k+(p+1)=k+1+p by omega];exact this
theorem shq_in {op:Nat}{p:Nat}{c:UInt8}(h:(wY op)[p]? = some c):c=114∨c=118∨c=109:=by
 have hm:=Kg h
 have:∀x∈wY op,x=114∨x=118∨x=109:=by
  unfold wY
  repeat' split
  all_goals decide
 exact this c hm
theorem shq_reg {op:Nat}{p:Nat}(h:p<(wY op).length):p+xF op<3:=by
 unfold xF;have h3:=shqL_le op
 split
 ·next hq =>
  rcases hq with hq|hq
  ·have:op=52:=by omega
   subst this;have:(wY 52).length=1:=rfl;omega
  ·have:op=54:=by omega
   subst this;have:(wY 54).length=2:=rfl;omega
 ·omega
def lnQV (i:QI) (a:Nat):Bs:=if wH i=true then lnQ i a else []
theorem regs_at (i:QI) {p:Nat}(h:p+xF i.op<3):([.int .i64 i.d,.int .i64 i.a,.int .i64 i.b]:List Value)[xF i.op+p]? = some (.int .i64 ((sH i).getD p 0)):=by
 unfold sH;unfold xF at h ⊢
 split
 ·next hq =>
  rw[Kz hq] at h;have:p=0∨p=1:=by omega
  rcases this with rfl|rfl<;>rfl
 ·next hq =>
  rw[Ky hq] at h;have:p=0∨p=1∨p=2:=by omega
  rcases this with rfl|rfl|rfl<;>rfl
theorem vq_rng {i:QI}(h:VQ i):(0≤i.op∧i.op<64)∧(0≤i.d∧i.d<16)∧(0≤i.a∧i.a<16)∧(0≤i.b∧i.b<16):=by
 cases h<;>dsimp only<;>omega
end Go.Proofs.YtkaepknpplhgkaaGreatDoor
namespace Go.Proofs.YtkaepknpplhgkaaGreatDoor
open Go.RowKit
set_option maxHeartbeats 4000000 in
set_option maxRecDepth 100000 in
theorem lineQ_any (i:QI) (hi:i.imm<4294967296) (a:Nat) (ha:a<4294967296) (w_0:World) (hK:WOk w_0):Calls Tryz.prog 33 #[.agg (qiC i).toArray,.int .u32 a] w_0 fun e w'=>e=.returned (.string ⟨(lnQV i a).toArray⟩)∧Ext w_0 w':=by
 unfold lnQV
 cases hv:wH i with
 | false =>
  refine zM (args:=[.agg (qiC i).toArray,.int .u32 a]) Tryz.func33 M 113 M (Jy M)<|Z2 0 1 M M<|zU (H':=Hp (fun _=>False) w_0 [] [] (fun _=>True)) (fun u hu=>?_) ?_
  ·subst hu;exact Hp.start0
  refine zX<|zZ<|zG .none M (yG M M) (fun b2=>?_);refine Za M M<|ZX<|zX<|zZ<|ZF M (yS 0 M M Tryz.underlying74 M (by kernel_rfl)) ?_;refine zE .none M  (v:=.bool false) (by kernel_rfl) M (fun w hw=>(qvalid_any i hi w).mono fun e w' ⟨h1,h2⟩=>⟨by rw[h1,hv],h2⟩) ?_;refine ZF M (xD M)<|ZT<|zT M (fun hc=>?_) (fun hc=>?_)
  ·refine zX<|Z5r 0 1 2 4 14 M M M M M<|Za M M<|ZT<|zS<|zO<|zQ M M (fun w hw=>?_);exact⟨rfl,hw.ext0⟩
  ·cases hc
 | true =>
  have hvq:=vQ_of hi hv;obtain⟨⟨ho0,ho1⟩,⟨hd0,hd1⟩,⟨ha0,ha1⟩,hb0,hb1⟩:=vq_rng hvq;have hsm:=vq_sm hvq;have hil:=sgnB_len hi;have hop:((i.op.toNat:Nat):Int)=i.op:=Int.toNat_of_nonneg ho0;have hqo:xF (i.op.toNat:Nat)=xF i.op:=by rw[hop]
  obtain⟨S,hS⟩:∃S,S=wY i.op.toNat:=⟨_,rfl⟩;have hS3:S.length≤3:=by rw[hS];exact shqL_le _
  obtain⟨hpn,hpl⟩:=prtsQ_len hsm a S 0;have hpt:=fun p c (h:S[p]? = some c)=>prtsQ_at (i:=i) (a:=a) (k:=0) h;obtain⟨T,hT⟩:∃T,T=uT i a S 0:=⟨_,rfl⟩;rw[← hT] at hpn hpl hpt;have hjl:(joB T).length≤100:=by have:=joB_len hpl;omega
  have htr:=lnQ_trim i a;rw[← hS,← hT] at htr;have hnl:=qnmL_len i.op.toNat;have hral:(rgB i.a).length≤3:=rgB_len (by omega);have hol:(rL i.imm).length≤11:=offB_len hi;obtain⟨mr,hm1,hm2⟩:=qnm_look i.op.toNat;rw[hop] at hm1
  have hr15:∀k,0≤(sH i).getD k 0∧(sH i).getD k 0<16:=by
   intro k;unfold sH
   split
   ·match k with
    | 0=>exact⟨ha0,ha1⟩
    | 1=>exact⟨hb0,hb1⟩
    | k+2=>exact⟨Int.le_refl 0,(by decide:(0:Int)<16)⟩
   ·match k with
    | 0=>exact⟨hd0,hd1⟩
    | 1=>exact⟨ha0,ha1⟩
    | 2=>exact⟨hb0,hb1⟩
    | k+3=>exact⟨Int.le_refl 0,(by decide:(0:Int)<16)⟩
  rw[Kz rfl];refine zM (args:=[.agg (qiC i).toArray,.int .u32 a]) Tryz.func33 M 113 M (Jy M)<|Z2 0 1 M M<|zU (H':=Hp (fun _=>False) w_0 [] [] (fun _=>True)) (fun u hu=>?_) ?_
  ·subst hu;exact Hp.start0
  refine zX<|zZ<|zG .none M (yG M M) (fun b2=>?_);refine Za M M<|ZX<|zX<|zZ<|ZF M (yS 0 M M Tryz.underlying74 M (by kernel_rfl)) ?_;refine zE .none M  (v:=.bool true) (by kernel_rfl) M (fun w hw=>(qvalid_any i hi w).mono fun e w' ⟨h1,h2⟩=>⟨by rw[h1,hv],h2⟩) ?_;refine ZF M (xD M)<|ZT<|zT M (fun hc=>?_) (fun hc=>?_)
  ·cases hc
  ·refine zH<|zR<|zX<|Z5r 0 1 2 4 14 M M M M M<|ZF M (zY (off:=4) (sz:=0) M Tryz.underlying74 (by kernel_rfl) M) ?_;refine ZF M (zW 0 M M M Tryz.underlying22 M)<|zE .none M  (v:=.string ⟨(sR i.imm).toArray⟩) (by kernel_rfl) M (fun w hw=>signedA_any i.imm hi w (hK.tb.ext hw.ext0)) ?_;refine Za M M<|ZT<|yE (ι:=Unit) (fun _=>[(1,.int .u32 a),(2,.pointer (some ⟨b2,0,none⟩)),(5,.string ⟨(tP i a).toArray⟩)]) (fun _=>Hp (fun _=>False) w_0 [(b2,qiO i)] [] (fun _=>True)) ?_ (fun _=>?_)
   ·refine yZ<|zX<|Z6r 0 1 2 4 5 14 M M M M M M<|ZF M (zY (off:=0) (sz:=0) M Tryz.underlying74 (by kernel_rfl) M) ?_;refine ZF M (zW 0 M M M Tryz.underlying3 M)<|zE .none M  (v:=.bool (sP i.op)) (by kernel_rfl) M (fun w hw=>jumps_any i.op w) ?_;refine Za M M<|ZT<|zT M (fun h18=>?_) (fun h18=>?_)
    ·refine zX<|Z7r 0 1 2 4 5 14 18 M M M M M M M<|ZF M (yS 0 M M Tryz.underlying74 M (by kernel_rfl)) ?_;refine Zm M M<|zE .none M  (by kernel_rfl) M (fun w hw=>qtarget_any i hi hv h18 a ha w) ?_;refine Zm M M<|ZF M (yX M M)<|ZF M (yX M M)<|Za M M<|Za M M<|ZT<|Z8r 0 1 2 4 5 6 14 18 M M M M M M M M<|Zm M M<|zE .none M  (v:=.string ⟨(Lib.decDigits ((a+4*i.imm)%4294967296)).toArray⟩) (by kernel_rfl) M (fun w hw=>sN _ (Nat.mod_lt _ (by decide)) w (hK.tb.ext hw.ext0)) ?_;exact Za rfl rfl<|zK<|zA<|zP (ι:=Unit) () (.cons rfl<|.cons rfl<|.consE rfl (by unfold tP;first|rw[Kz h18]|(rw[Ky (by rw[h18];decide)];first|rw[Kz (by omega)]|rw[Ky (by omega)]))<|.nil) (fun w h=>h)
    ·refine zX<|Z7r 0 1 2 4 5 14 18 M M M M M M M<|ZF M (zY (off:=0) (sz:=0) M Tryz.underlying74 (by kernel_rfl) M) ?_;refine ZF M (zW 0 M M M Tryz.underlying3 M)<|ZF M (xJ M M)<|Zm M M<|zF 34 M (fun g4=>?_) (fun g4=>?_)
     ·replace g4:=Jz g4;refine ZG M M M (zY (off:=0) (sz:=0) M Tryz.underlying74 (by kernel_rfl) M) ?_;refine ZG M M M (zW 0 M M M Tryz.underlying3 M)<|ZG M M M (wQ M M)<|ZF M (zL M M)<|Zm M M<|zF 39 M (fun g9=>?_) (fun g9=>?_)
      ·replace g9:=Jz g9;refine ZP M<|ZP M<|ZP M<|ZF M (zL M M)<|Za M M<|ZT<|sX M<|Z8r 0 1 2 4 5 14 18 30 M M M M M M M M<|ZF M (zY (off:=4) (sz:=0) M Tryz.underlying74 (by kernel_rfl) M) ?_;refine ZF M (zW 0 M M M Tryz.underlying22 M)<|zE .none M  (v:=.string ⟨(Lib.decDigits i.imm).toArray⟩) (by kernel_rfl) M (fun w hw=>sN i.imm hi w (hK.tb.ext hw.ext0)) ?_;exact Za rfl rfl<|zK<|zA<|zP (ι:=Unit) () (.cons rfl<|.cons rfl<|.consE rfl (by unfold tP;first|rw[Kz h18]|(rw[Ky (by rw[h18];decide)];first|rw[Kz (by omega)]|rw[Ky (by omega)]))<|.nil) (fun w h=>h)
      ·replace g9:=Ka g9;refine ZG M M M (zY (off:=0) (sz:=0) M Tryz.underlying74 (by kernel_rfl) M) ?_;refine ZG M M M (zW 0 M M M Tryz.underlying3 M)<|ZG M M M (xJ M M)<|ZF M (zN M M)<|Za M M<|ZT<|zT M (fun h30=>?_) (fun h30=>?_)
       ·replace h30:=Jz h30;refine Z8r 0 1 2 4 5 14 18 30 M M M M M M M M<|ZF M (zY (off:=4) (sz:=0) M Tryz.underlying74 (by kernel_rfl) M) ?_;refine ZF M (zW 0 M M M Tryz.underlying22 M)<|zE .none M  (v:=.string ⟨(Lib.decDigits i.imm).toArray⟩) (by kernel_rfl) M (fun w hw=>sN i.imm hi w (hK.tb.ext hw.ext0)) ?_;exact Za rfl rfl<|zK<|zA<|zP (ι:=Unit) () (.cons rfl<|.cons rfl<|.consE rfl (by unfold tP;first|rw[Kz h18]|(rw[Ky (by rw[h18];decide)];first|rw[Kz (by omega)]|rw[Ky (by omega)]))<|.nil) (fun w h=>h)
       ·replace h30:=Ka h30;exact zH<|zA<|zP (ι:=Unit) () (.cons rfl<|.cons rfl<|.consE rfl (by unfold tP;first|rw[Kz h18]|(rw[Ky (by rw[h18];decide)];first|rw[Kz (by omega)]|rw[Ky (by omega)]))<|.nil) (fun w h=>h)
     ·replace g4:=Ka g4;refine ZP M<|ZP M<|ZP M<|ZF M (zN M M)<|Zm M M<|ZG M M M (zY (off:=0) (sz:=0) M Tryz.underlying74 (by kernel_rfl) M) ?_;refine ZG M M M (zW 0 M M M Tryz.underlying3 M)<|ZG M M M (xJ M M)<|ZF M (zN M M)<|Za M M<|ZT<|zT M (fun h30=>?_) (fun h30=>?_)
      ·replace h30:=Jz h30;refine Z8r 0 1 2 4 5 14 18 30 M M M M M M M M<|ZF M (zY (off:=4) (sz:=0) M Tryz.underlying74 (by kernel_rfl) M) ?_;refine ZF M (zW 0 M M M Tryz.underlying22 M)<|zE .none M  (v:=.string ⟨(Lib.decDigits i.imm).toArray⟩) (by kernel_rfl) M (fun w hw=>sN i.imm hi w (hK.tb.ext hw.ext0)) ?_;exact Za rfl rfl<|zK<|zA<|zP (ι:=Unit) () (.cons rfl<|.cons rfl<|.consE rfl (by unfold tP;first|rw[Kz h18]|(rw[Ky (by rw[h18];decide)];first|rw[Kz (by omega)]|rw[Ky (by omega)]))<|.nil) (fun w h=>h)
      ·replace h30:=Ka h30;exact zH<|zA<|zP (ι:=Unit) () (.cons rfl<|.cons rfl<|.consE rfl (by unfold tP;first|rw[Kz h18]|(rw[Ky (by rw[h18];decide)];first|rw[Kz (by omega)]|rw[Ky (by omega)]))<|.nil) (fun w h=>h)
   ·refine zX<|zZ<|zG .none M  (nf_bs0F (size:=1) Tryz.underlying59 (by kernel_rfl)) (fun b47=>?_);refine Za M M<|ZX<|Z4r 1 2 5 8 M M M M<|ZF M (zY (off:=1) (sz:=0) M Tryz.underlying74 (by kernel_rfl) M) ?_;refine ZF M (zW 1 M M M Tryz.underlying3 M)<|ZF M (zY (off:=2) (sz:=0) M Tryz.underlying74 (by kernel_rfl) M) ?_;refine ZF M (zW 1 M M M Tryz.underlying3 M)<|ZF M (zY (off:=3) (sz:=0) M Tryz.underlying74 (by kernel_rfl) M) ?_;refine ZF M (zW 1 M M M Tryz.underlying3 M)<|zG .none M (tQ (z:=.int .i64 0) M M M M Tryz.underlying111 (by kernel_rfl) (by kernel_rfl) M M) (fun b54=>?_);refine Za M M<|ZT<|yE (ι:=Unit) (fun _=>[(1,.int .u32 a),(2,.pointer (some ⟨b2,0,none⟩)),(5,.string ⟨(tP i a).toArray⟩),(8,.slice (some ⟨b47,0,none⟩) 0 0),(9,.slice (some ⟨b54,xF i.op,none⟩) (3-xF i.op) (3-xF i.op))]) (fun _=>Hp (fun _=>False) w_0 [(b54,bk 3 [.int .i64 i.d,.int .i64 i.a,.int .i64 i.b]),(b47,bk 9 []),(b2,qiO i)] [] (fun _=>True)) ?_ (fun _=>?_)
    ·refine yE (ι:=Unit) (fun _=>[(1,.int .u32 a),(2,.pointer (some ⟨b2,0,none⟩)),(5,.string ⟨(tP i a).toArray⟩),(8,.slice (some ⟨b47,0,none⟩) 0 0),(9,.slice (some ⟨b54,0,none⟩) 3 3),(62,.bool (decide (i.op=52∨i.op=54)))]) (fun _=>Hp (fun _=>False) w_0 [(b54,bk 3 [.int .i64 i.d,.int .i64 i.a,.int .i64 i.b]),(b47,bk 9 []),(b2,qiO i)] [] (fun _=>True)) ?_ (fun _=>?_)
     ·refine Z5r 1 2 5 8 9 M M M M M<|ZF M (zY (off:=0) (sz:=0) M Tryz.underlying74 (by kernel_rfl) M) ?_;refine ZF M (zW 2 M M M Tryz.underlying3 M)<|ZF M (yR M M)<|Zm M M<|zF 58 M (fun g4=>?_) (fun g4=>?_)
      ·replace g4:=Ki g4;exact ZP M<|ZP M<|ZP M<|ZF M (zL M M)<|zK<|zP (ι:=Unit) () (.cons M<|.cons M<|.cons M<|.cons M<|.cons M<|.consE M (by rw[Ae (show i.op=52∨i.op=54 by omega)])<|.nil) (fun w h=>h)
      ·replace g4:=yL g4;refine ZG M M M (zY (off:=0) (sz:=0) M Tryz.underlying74 (by kernel_rfl) M) ?_;exact ZG M M M (zW 2 M M M Tryz.underlying3 M)<|ZG M M M (yR M M)<|ZF M (zN M M)<|zK<|zP (ι:=Unit) () (.cons M<|.cons M<|.cons M<|.cons M<|.cons M<|.consE M (by congr 1;rw[Jw,Ad,Kx];omega)<|.nil) (fun w h=>h)
     ·refine zT M (fun h62=>?_) (fun h62=>?_)
      ·replace h62:=Jz h62;refine zZ<|Zm M M<|ZF M (yf_sliceLo (i:=1) (size:=1) M M Tryz.underlying111 (by kernel_rfl) M (by decide)) ?_;exact Za M M<|zK<|zP (ι:=Unit) () (.cons M<|.cons M<|.cons M<|.cons M<|.consE M (by unfold xF;rw[Kz h62];rfl)<|.nil) (fun w h=>h)
      ·replace h62:=Ka h62;exact zH<|zP (ι:=Unit) () (.cons M<|.cons M<|.cons M<|.cons M<|.consE M (by unfold xF;rw[Ky h62])<|.nil) (fun w h=>h)
    ·refine zX<|zX<|zZ<|ZF M (zY (off:=0) (sz:=0) M Tryz.underlying74 (by kernel_rfl) M) ?_;refine ZF M (zW 2 M M M Tryz.underlying3 M) ?_
     refine zE .none M  (v:=.string ⟨S.toArray⟩) (by kernel_rfl) M (fun w hw=>by
      have:=shapeQ_any i.op.toNat (by omega) w
      rw[hop,← hS] at this;exact this) ?_
     refine wl_range .none M  M Tryz.underlying9 (fun bi=>?_);refine ZT<|yZ<|xQ (ι:={j:Nat×(Nat×Nat) // j.1≤S.length∧j.1≤j.2.2}) (fun j=>[(2,.pointer (some ⟨b2,0,none⟩)),(5,.string ⟨(tP i a).toArray⟩),(8,.slice (some ⟨j.1.2.1,0,none⟩) j.1.1 j.1.2.2),(9,.slice (some ⟨b54,xF i.op,none⟩) (3-xF i.op) (3-xF i.op)),(68,.pointer (some ⟨bi,0,none⟩))]) (fun j=>Hp (fun _=>False) w_0 [(bi,.stringIter ⟨S.toArray⟩ j.1.1),(b54,bk 3 [.int .i64 i.d,.int .i64 i.a,.int .i64 i.b]),(b2,qiO i)] [⟨.slice (some ⟨j.1.2.1,0,none⟩) j.1.1 j.1.2.2,9,1,j.1.1,strV (T.take j.1.1)⟩] (fun _=>True)) (fun j=>S.length-j.1.1) ⟨(0,(b47,0)),Kv _,Kw _⟩ ?_ ?_ (fun j=>?_)
     ·exact .cons M<|.cons M<|.cons M<|.cons M<|.cons M<|.nil
     ·exact fun w h=>Hp.toRow (k:=0) (Hp.swapL h (List.perm_middle (l₁:=[_,_]))) (HpG.old h (k:=2) M) M (by decide)
     obtain⟨⟨p,bj,cap⟩,hp,hcap⟩:=j;dsimp only at hp hcap ⊢;refine zX<|zZ<|wl_next 0 .none M  M M<|ZF M (yX M (nextV0 ⟨S.toArray⟩ p))<|ZX ?_;skip;refine zT M (fun hlt=>?_) (fun hlt=>?_)
     ·have hlt:=Jz hlt;have hlt':p<S.length:=by simpa [ByteArray.size] using hlt
      obtain⟨c,hc⟩:∃c,S[p]? = some c:=⟨S[p],Kf hlt'⟩;have hcin:=shq_in (by rw[hS] at hc;exact hc);have hca:c.toNat<128:=by rcases hcin with rfl|rfl|rfl<;>decide
      have hnx:nextP ⟨S.toArray⟩ p=p+1:=by unfold nextP;rw[Kz hlt,decode_list hc hca]
      have hqp:=shq_reg (p:=p) (by rw[← hS];exact hlt');rw[hqo] at hqp;have hpc:=hpt p c hc;rw[Ku] at hpc;have htk:T.take (p+1)=T.take p++[qJ i a c p]:=take_one hpc;refine zH<|zR<|yZ<|zX<|zZ<|ZF M (yX M (nextV1 hlt))<|ZF M ((yX M ((nextV2 hlt).trans (by rw[decode_list hc hca]):_=some (.int .i32 (c.toNat:Nat))))) ?_;refine Za M M<|Za M M<|ZX<|Z9r 2 5 8 9 10 11 68 69 70 M M M M M M M M M<|Zm M M<|ZT<|yZ<|zX<|zZ<|ZF M (yR M M)<|Za M M<|ZT<|zT M (fun h74=>?_) (fun h74=>?_)
      ·replace h74:=Ki h74;have hc1:c=114:=(uJ 114).2 h74;have hpq:qJ i a c p=rgB ((sH i).getD p 0):=by rw[hc1];rfl
       have hst:strV (T.take (p+1))=strV (T.take p)++[.string ⟨(rgB ((sH i).getD p 0)).toArray⟩]:=by rw[htk,hpq];simp
       refine Z11r 2 5 8 9 10 11 68 69 70 73 74 M M M M M M M M M M M<|Zm M M<|Zm M M<|Zm M M<|ZF M (zC (j:=p) (es:=1) M M Tryz.underlying111 (by kernel_rfl) M (by omega) M) ?_;refine ZF M (zD M Tryz.underlying3 M (fun w hw=>HpG.cell (k:=1) hw M (by rw[Nat.mul_one];exact regs_at i hqp))) ?_;refine zE .none M  (v:=.string ⟨(rgB ((sH i).getD p 0)).toArray⟩) (by kernel_rfl) M (fun w hw=>by have:=hr15 p;exact regA_any _ this.1 (by omega) w (hK.tb.ext hw.ext0)) ?_;refine zG .none M (xH (z:=Jg) M M Tryz.underlying59 (by kernel_rfl) (by kernel_rfl) M M) (fun b82=>?_);refine vD (z:=Jg) (bytes:=16) 0 0 .none M M M M M Tryz.underlying59 (by kernel_rfl) M M M M M (by omega) (by omega) (fun a83 c83 h83=>?_);refine Za M M<|zK<|zA<|zA<|yM (ι:={j:Nat×(Nat×Nat) // j.1≤S.length∧j.1≤j.2.2}) ⟨(p+1,(a83,c83)),hlt',h83⟩ (by show S.length-(p+1)<S.length-p;omega) (O5 M M M M M) (fun w h=>?_);rw[hnx] at h;show Hp _ _ _ [⟨_,_,_,_,strV (T.take (p+1))⟩] _ w;rw[hst];exact Hp.drop h (Ke _ _) (Kc _)
      ·replace h74:=yL h74;refine zX<|Z11r 2 5 8 9 10 11 68 69 70 73 74 M M M M M M M M M M M<|ZF M (yR M M)<|Za M M<|ZT<|zT M (fun h84=>?_) (fun h84=>?_)
       ·replace h84:=Ki h84;have hc1:c=118:=(uJ 118).2 h84;have hpq:qJ i a c p=tP i a:=by rw[hc1];rfl
        have hst:strV (T.take (p+1))=strV (T.take p)++[.string ⟨(tP i a).toArray⟩]:=by rw[htk,hpq];simp
        refine Z12r 2 5 8 9 10 11 68 69 70 73 74 84 M M M M M M M M M M M M<|Zm M M<|Zm M M<|zG .none M (xH (z:=Jg) M M Tryz.underlying59 (by kernel_rfl) (by kernel_rfl) M M) (fun b88=>?_);refine vD (z:=Jg) (bytes:=16) 0 0 .none M M M M M Tryz.underlying59 (by kernel_rfl) M M M M M (by omega) (by omega) (fun a89 c89 h89=>?_);refine Za M M<|zK<|zA<|zA<|yM (ι:={j:Nat×(Nat×Nat) // j.1≤S.length∧j.1≤j.2.2}) ⟨(p+1,(a89,c89)),hlt',h89⟩ (by show S.length-(p+1)<S.length-p;omega) (O5 M M M M M) (fun w h=>?_);rw[hnx] at h;show Hp _ _ _ [⟨_,_,_,_,strV (T.take (p+1))⟩] _ w;rw[hst];exact Hp.drop h (Ke _ _) (Kc _)
       ·replace h84:=yL h84;refine zX<|Z12r 2 5 8 9 10 11 68 69 70 73 74 84 M M M M M M M M M M M M<|ZF M (yR M M)<|Za M M<|ZT<|zT M (fun h90=>?_) (fun h90=>?_)
        ·replace h90:=Ki h90;have hc1:c=109:=(uJ 109).2 h90;have hpq:qJ i a c p=[91]++rgB i.a++rL i.imm++[93]:=by rw[hc1];rfl
         have hst:strV (T.take (p+1))=strV (T.take p)++[.string ⟨([91]++rgB i.a++rL i.imm++[93]:Bs).toArray⟩]:=by rw[htk,hpq];simp
         refine Z13 2 5 8 9 10 11 68 69 70 73 74 84 90 M M M M M M M M M M M M M<|qQ 11 [0,1,2,3,4,5,6,7,8,9,10] (Blk b2 (qiO i)) (by kernel_rfl) (by kernel_rfl) Blk.stab (fun w h=>HpG.blk h (k:=2) M) (fun n0 hn0=>?_);refine Zd M M M (zJ M)<|Zd M M M (zY (off:=2) (sz:=0) M Tryz.underlying74 (by kernel_rfl) M) ?_;refine Zd M M M (zD M Tryz.underlying3 M (fun w hw=>Blk.cell hw M)) ?_;refine wC M<|vV .none M  (v:=.string ⟨(rgB i.a).toArray⟩) (by kernel_rfl) M (fun _ _ h hx=>Blk.onE h hx) (fun w hw=>regA_any i.a ha0 (by omega) w (hK.tb.ext hw.ext0)) ?_;refine Zd M M M (zB (a:=[91]) M M (by (simp only[Ju,Jv];omega))) ?_;refine Zd M M M (zY (off:=4) (sz:=0) M Tryz.underlying74 (by kernel_rfl) M) ?_;refine Zd M M M (zD M Tryz.underlying22 M (fun w hw=>Blk.cell hw M)) ?_;refine wC M<|vV .none M  (v:=.string ⟨(rL i.imm).toArray⟩) (by kernel_rfl) M (fun _ _ h hx=>Blk.onE h hx) (fun w hw=>offset_any i.imm hi w (hK.tb.ext hw.ext0)) ?_;refine Zd M M M (zB M M (by (simp only[Jt,Ju,Jv];omega))) ?_;refine Zd M M M (zB M M (by (simp only[Jt,Ju,Jv];omega))) ?_;refine wC M<|wd_newH ?_ .none M (fun k hk=>Kj hk hn0) (xH (z:=Jg) M M Tryz.underlying59 (by kernel_rfl) (by kernel_rfl) M M) (fun b102 hb102=>?_)
         ·rfl
         refine wd_endTH ?_;simp only[Kl,Kp];refine vD (z:=Jg) (bytes:=16) 0 0 .none M M M M M Tryz.underlying59 (by kernel_rfl) M M M M M (by omega) (by omega) (fun a103 c103 h103=>?_);refine Za M M<|zK<|zA<|zA<|yM (ι:={j:Nat×(Nat×Nat) // j.1≤S.length∧j.1≤j.2.2}) ⟨(p+1,(a103,c103)),hlt',h103⟩ (by show S.length-(p+1)<S.length-p;omega) (O5 M M M M M) (fun w h=>?_);rw[hnx] at h;show Hp _ _ _ [⟨_,_,_,_,strV (T.take (p+1))⟩] _ w;rw[hst];exact Hp.drop h (Ke _ _) (Kc _)
        ·replace h90:=yL h90;exact absurd hcin (by rw[uJ 114,uJ 118,uJ 109];exact fun e=>e.elim h74 fun e=>e.elim h84 h90)
     ·have hge:¬p<S.length:=fun h=>absurd hlt (by simp[ByteArray.size,h]);have hpe:p=S.length:=by omega
      have htk:T.take p=T:=List.take_of_length_le (by omega);refine xV<|zI<|zI<|xW<|zR<|zX<|sU (γ:=Nat) [(2,.pointer (some ⟨b2,0,none⟩)),(8,.slice (some ⟨bj,0,none⟩) p cap)] [(0,104,fun g=>.map (some g)),(1,105,fun g=>.pointer (some ⟨b2,0+0,none⟩)),(2,106,fun g=>.int .i64 i.op),(3,107,fun g=>.string ⟨((wX i.op.toNat)).toArray⟩),(4,108,fun g=>.string ⟨((wX i.op.toNat)++([32]:Bs)).toArray⟩),(5,109,fun g=>.slice (some ⟨bj,0,none⟩) p cap),(6,110,fun g=>.string ⟨(joB T).toArray⟩),(7,111,fun g=>.string ⟨((wX i.op.toNat)++([32]:Bs)++joB T).toArray⟩),(8,112,fun g=>.string ⟨(lnQ i a).toArray⟩),(9,4,fun g=>.string ⟨(lnQ i a).toArray⟩)] (fun D g=>fun w=>Hp (fun _=>False) w_0 [(b2,qiO i)] [⟨.slice (some ⟨bj,0,none⟩) p cap,9,1,p,strV T⟩] (fun _=>True) w∧(D 0=true→Blk g (mapN sQ) w)) [[],[],[1],[0,2],[3],[],[5],[4,6],[7],[8]] 0 (by kernel_rfl) (by kernel_rfl) (by kernel_rfl) (O2 M M) (fun D w h hw=>⟨Hp.drew (by have h9:=Hp.drop hw (List.Sublist.cons _ (List.Sublist.cons _ (Kc _))) (Kc _);rw[htk] at h9;exact h9),(fun h0=>by rw[h 0 (by decide)] at h0;cases h0)⟩) ⟨?_,?_,?_,?_,?_,?_,?_,?_,?_,?_,trivial⟩ (fun g=>?_)
      ·intro D g hD hd;refine oi_callG (vs:=[]) (by kernel_rfl) M (fun w hw=>(namesQ_any w (hK.sp.ext' (HpG.ext0 hw.1))).mono fun e w' ⟨b,_,e1,e2,e3⟩=>⟨_,e1,b,rfl,?_,HpG.onE hw.1 e2,fun _=>e3.2⟩)
       repeat' (first|exact trivial|apply And.intro|(intro _;rfl)|(intro h;rw[hD] at h;cases h))
      ·intro D g hD hd;refine yU (v:=.pointer (some ⟨b2,0+0,none⟩)) ?_ M (fun w h=>h);refine zY (off:=0) (sz:=0) M Tryz.underlying74 (by kernel_rfl) rfl
      ·intro D g hD hd;have hd1:D 1=true:=hd 1 (by simp);refine yU (v:=.int .i64 i.op) ?_ M (fun w h=>h);refine zD M Tryz.underlying3 M (fun w hw=>HpG.cell (k:=0) hw.1 M M)
      ·intro D g hD hd;have hd0:D 0=true:=hd 0 (by simp);have hd2:D 2=true:=hd 2 (by simp);refine yU (v:=.string ⟨((wX i.op.toNat)).toArray⟩) ?_ M (fun w h=>h);refine (by rw[← hm2];exact yf_lookupV M M (fun w hw=>hw.2 hd0) Tryz.underlying153 Tryz.underlying3 zero_str hm1)
      ·intro D g hD hd;have hd3:D 3=true:=hd 3 (by simp);refine yU (v:=.string ⟨((wX i.op.toNat)++([32]:Bs)).toArray⟩) ?_ M (fun w h=>h);refine zB M M ?_;(· (simp only[Ju,Jv];omega))
      ·intro D g hD hd;refine yU (v:=.slice (some ⟨bj,0,none⟩) p cap) ?_ M (fun w h=>h);refine zJ rfl
      ·intro D g hD hd;have hd5:D 5=true:=hd 5 (by simp);refine oi_call (v:=.string ⟨(joB T).toArray⟩) (by kernel_rfl) M (fun w hw=>join_row (k:=0) hw.1 M (by omega) (by omega) (by omega)) M (fun w w' hw hx=>⟨HpG.onE hw.1 hx,fun h=>(hw.2 h).onE hx⟩)
      ·intro D g hD hd;have hd4:D 4=true:=hd 4 (by simp);have hd6:D 6=true:=hd 6 (by simp);refine yU (v:=.string ⟨((wX i.op.toNat)++([32]:Bs)++joB T).toArray⟩) ?_ M (fun w h=>h);refine zB M M ?_;(· (simp only[Jt,Ju,Jv];omega))
      ·intro D g hD hd;have hd7:D 7=true:=hd 7 (by simp);refine oi_call (v:=.string ⟨(lnQ i a).toArray⟩) (by kernel_rfl) M (fun w hw=>by have:=trimS_any ((wX i.op.toNat)++([32]:Bs)++joB T) (by simp only[Jt,Ju,Jv];omega) w;rw[htr] at this;exact this) M (fun w w' hw hx=>⟨HpG.onE hw.1 hx,fun h=>(hw.2 h).onE hx⟩)
      ·intro D g hD hd;have hd8:D 8=true:=hd 8 (by simp);refine yU (v:=.string ⟨(lnQ i a).toArray⟩) ?_ M (fun w h=>h);refine wF rfl
      ·refine wq_to (m':=[(2,.pointer (some ⟨b2,0,none⟩)),(8,.slice (some ⟨bj,0,none⟩) p cap),(4,.string ⟨(lnQ i a).toArray⟩)]) (H':=Hp (fun _=>False) w_0 [(b2,qiO i)] [⟨.slice (some ⟨bj,0,none⟩) p cap,9,1,p,strV T⟩] (fun _=>True)) ?_ (O3 M M M) (fun w hw=>hw.1);refine zR<|zS<|zQ M M (fun w hw=>?_);exact⟨rfl,hw.ext0⟩
end Go.Proofs.YtkaepknpplhgkaaGreatDoor
namespace Go.Proofs.YtkaepknpplhgkaaGreatDoor
open Go.RowKit
end Go.Proofs.YtkaepknpplhgkaaGreatDoor
namespace Go.Proofs.YtkaepknpplhgkaaGreatDoor
open Go.RowKit
section
variable {P:Program}{n:Fr}{m:List (Nat×Value)}{ty:TypeId}{H:World→Prop}
end
structure DL where
 p:Nat
 f:Nat
 out:Bs
 q:Option Addr
 BA:Option Addr
 bc:Nat
structure DLI (kind:Int) (org:Nat) (code:Bs) (b:Nat) (full:Bs) (j:DL):Prop where
 le:j.p≤code.length
 fu:code.length-j.p≤j.f
 e:j.out++linesB (disF kind org j.f (code.drop j.p) j.p)=full
 q:j.q=none∨j.q=some ⟨b,0,none⟩
 a:j.out=[]→j.BA=none
theorem DLI.step {kind:Int}{org:Nat}{code:Bs}{b:Nat}{full:Bs}{p f:Nat}{out:Bs}{q BA:Option Addr}{bc:Nat}(h:DLI kind org code b full ⟨p,f,out,q,BA,bc⟩) (hp:p<code.length):∃f',f=f'+1∧(out++((nxtA kind (code.drop p) ((org+p)%4294967296)).1++[10]))++linesB (disF kind org f' (code.drop (p+(nxtA kind (code.drop p) ((org+p)%4294967296)).2)) (p+(nxtA kind (code.drop p) ((org+p)%4294967296)).2))=full:=by
 have hf:=h.fu;have he:=h.e;dsimp only at hf he;obtain⟨f',rfl⟩:∃f',f=f'+1:=⟨f-1,by omega⟩;have hne:code.drop p≠[]:=fun e=>by have:=List.drop_eq_nil_iff.1 e;omega
 refine⟨f',rfl,?_⟩;rw[← he,disF,Ky hne,List.drop_drop];simp[linesB]
end Go.Proofs.YtkaepknpplhgkaaGreatDoor
