import Derived.Test.YtkaepknpplhgkaaGreatDoorMaW
import Derived.Shelf.Strings.BuilderK
import Derived.Shelf.Strings.OnBuilder
import Derived.Shelf.Strconv.Itoa3
import Derived.Shelf.LaysM
import Derived.Test.YtkaepknpplhgkaaGreatDoorProg
set_option maxRecDepth 100000
set_option maxHeartbeats 1000000
namespace Go.Proofs.YtkaepknpplhgkaaGreatDoor
open Go.RowKit
abbrev tkC (t:ATk):List Value:=[.int .u8 t.kind,.string ⟨t.s.toArray⟩,.int .u32 t.n]
def rB (l:List ATk):List Value:=l.flatMap tkC
theorem toksC_len (l:List ATk):(rB l).length=l.length*3:=by
 induction l with
 | nil=>rfl
 | cons t l ih =>
  have e:rB (t::l)=tkC t++rB l:=rfl;rw[e,Kb,ih];simp;omega
theorem toksC_one (l:List ATk) (t:ATk):rB (l++[t])=rB l++tkC t:=by simp[rB]
theorem nO (c:UInt8) (r:Bs):vV (c::r) =
  if c=32∨c=9 then vV r
  else if sR c=true∨c=95∨c=46 then yG (vV ((c::r).drop ((c::r).takeWhile wF).length)) fun l=>.ok (⟨119,(c::r).takeWhile wF,0⟩::l)
  else if vU c=true then yG (pJ ((c::r).takeWhile tZ)) fun n=>yG (vV ((c::r).drop ((c::r).takeWhile tZ).length)) fun l=>.ok (⟨48,[],n⟩::l)
  else if c∈sgnL then yG (vV r) fun l=>.ok (⟨115,[c],0⟩::l)
  else .error 20:=by
 have hd:∀{p:UInt8→Bool},p c=true→((c::r).drop ((c::r).takeWhile p).length).length<r.length+1:=fun {p} hp=>by
  rw[List.takeWhile_cons,Ah hp,Kc,Kt,Kw];omega
 show oK (r.length+1+1) (c::r)=_;rw[oK]
 split
 rfl
 split
 ·next h =>
  have hw:wF c=true:=by
   unfold wF;rcases h with h|h|h;rw[h];rfl;subst h;rfl;subst h;rfl
  rw[sU (g:=((c::r).drop ((c::r).takeWhile wF).length).length+1) _ (hd hw) (by omega)];rfl
 split
 ·next h =>
  have hw:tZ c=true:=by unfold tZ;rw[h];simp
  rw[sU (g:=((c::r).drop ((c::r).takeWhile tZ).length).length+1) _ (hd hw) (by omega)];rfl
 rfl
structure LxI (s:Bs) (i:Nat) (out:List ATk):Prop where
 le:i≤s.length
 n:out.length≤i
 e:vV s=yG (vV (s.drop i)) fun l=>.ok (out++l)
theorem LxI.step {s:Bs}{i k:Nat}{out:List ATk}{t:List ATk}(h:LxI s i out) (hk:i+k≤s.length) (ht:t.length≤k) (e:vV (s.drop i)=yG (vV ((s.drop i).drop k)) fun l=>.ok (t++l)):LxI s (i+k) (out++t) :=
 ⟨hk,by have:=h.n;rw[Kb];omega,by
  rw[h.e,e,List.drop_drop]
  cases vV (s.drop (i+k))<;>simp[yG]⟩
theorem LxI.zero (s:Bs):LxI s 0 []:=⟨Ad _,Ae _,by show vV s=yG (vV s) _;cases vV s<;>rfl⟩
theorem LxI.fin {s:Bs}{out:List ATk}(h:LxI s s.length out):vV s=.ok out:=by
 have:=h.e;rw[List.drop_length,nP] at this;rw[this];simp[yG]
theorem LxI.bad {s:Bs}{i:Nat}{out:List ATk}{e:Nat}(h:LxI s i out) (he:vV (s.drop i)=.error e):vV s=.error e:=by
 rw[h.e,he];rfl
theorem idxB_mem (l:Bs) (c:UInt8):0≤Lib.indexByte l c↔c∈l:=by
 induction l with
 | nil=>simp[Lib.indexByte]
 | cons x l ih =>
  unfold Lib.indexByte
  by_cases h:x=c
  subst h;simp;have hge:=Lib.indexByte_ge l c;have h':¬c=x:=fun e=>h e.symm;simp only[Am,h,if_false,List.mem_cons,h',false_or,← ih]
  split<;>omega
def LxPost (w_0:World) (s:Bs) (e:Ending) (w':World):Prop:=Ext w_0 w'∧match rN s with
 | .ok l=>∃A cap,e=.returned (.slice A l.length cap)∧Cp l.length cap∧RdF (fun k=>w_0.heap.size≤k) A (rB l) w'
 | .error c=>e=.panicked (pan (qK c))
section
variable {P:Program}{ops:Array Oper}{Q:Exit→Act→World→Prop}{n:Fr}{m:List (Nat×Value)}{ty:TypeId}{G B:Nat→Prop}{w0:World}{L:List (Nat×Obj)}{R:List Rw}{X:World→Prop}{rest:List Oper}{d:Nat}{pos:String}{af:Array Edge}{gd:Option (Nat×Bool)}
theorem xP {x:Operand}{f:FuncId}{args:List Operand}{ats:Array TypeId}{us vs cs:List Value}{v:Value}{g:Nat}{ob ob':Obj}(k:Nat) (hg:Gd ops m gd) (hd:Nat.blt d n=true) (hf:goes P f=true) (hx:ev m x=some (.func (.func f) us.toArray cs.toArray)) (ha:evl m args=some vs) (hk:L[k]? = some (g,ob))
  (hC:∀w,HpG G B w0 L R X w→Calls P f (us++vs++cs).toArray w fun e w'=>e=.returned v∧Keep (fun j=>j=g) w w'∧w'.heap[g]? = some ob')
  (h:WL P ops Q rest n ((d,v)::m) (HpG G B w0 (L.set k (g,ob')) R X)):WL P ops Q (⟨some d,.call { callee:=.value x,args:=args.toArray,argTypes:=ats },ty,pos,af,gd⟩::rest) n m (HpG G B w0 L R X) :=
 xY (ι:=Unit) (val:=fun _=>v) (H':=fun _=>HpG G B w0 (L.set k (g,ob')) R X) hg hd (pN hf hx ha fun w hw=>(hC w hw).mono fun _ _ ⟨e1,e2,e3⟩=>⟨_,e1,(),rfl,hw.turn hk e2 e3⟩) fun _=>h
end
theorem qX (c:UInt8):∀j (hj:j<[c].length),([.int .u8 c.toNat]:List Value)[0+j]? = some (.int .u8 ([c][j].toNat:Int)):=fun j hj=>by
 have:j=0:=by simp at hj;omega
 subst this;rfl
theorem whW_fn:FnOk Tryz.prog (.func (.func 122) #[] #[]) u8V qR:=⟨_,rfl,(by kernel_rfl),fun r _ w=>lexW_any r w⟩
theorem whN_fn:FnOk Tryz.prog (.func (.func 125) #[] #[]) u8V alnQ:=⟨_,rfl,(by kernel_rfl),fun r _ w=>lexN_any r w⟩
theorem alnB_fun:tZ=fun c=>alnQ c.toNat:=rfl
theorem xC {c:UInt8}(k:UInt8):c=k↔(c.toNat:Int)=(k.toNat:Int):=by rw[Int.natCast_inj,UInt8.toNat_inj]
theorem lex_any (s:Bs) (hs:s.length≤2000000) (w_0:World) (hm:MxL w_0):Calls Tryz.prog 43 #[.string ⟨s.toArray⟩] w_0 (LxPost w_0 s):=by
 have hsc:(xM s).length≤2000000:=Ap (List.takeWhile_sublist _).length_le hs;have hlx:rN s=vV (xM s):=rfl;unfold LxPost;rw[hlx];refine zN (args:=[.string ⟨s.toArray⟩]) Tryz.func43 M 72 M (Kh M)<|Z1 0 M<|zG (H':=Jy w_0 [] [] MxL) (fun u hu=>?_) ?_;subst hu;exact Hp.start ⟨fun k=>k=Tryz.laysM145_ren.g 1,fun k hk=>by subst hk;exact⟨hm.lt,id⟩,fun u hu=>hm.foot (hu _ M)⟩;refine zX<|zZ<|zA .none M (yQ M M) fun b1=>Za M M<|ZX<|zZ<|Za M M<|ZX<|zZ<|Zl 0 M U9 M<|wl_pureE (ι:=Bs×Bool) (C:=fun _=>True) (val:=fun x=>.tuple #[.string ⟨(xM s).toArray⟩,.string ⟨x.1.toArray⟩,.bool x.2]) .none M  (by kernel_rfl) M (fun w hw=>(cut_any s (by omega) w (HpG.x hw)).mono fun e w' ⟨⟨x,h1⟩,h2⟩=>⟨x,trivial,h1,h2⟩) (fun x _=>?_);refine Zm M M<|ZF M (zC M M)<|ZF M (zC M M)<|ZF M (zC M M)<|ZS 0 M<|ZX<|Z4r 0 1 2 3 M<|Zt (z:=.int .i64 0) (cs:=Jj) M fun b4=>ZS 0 M<|ZX<|zZ<|ZF M (wX M M)<|Za M M<|ZX<|zJ<|yF (ι:={j:(Nat×List ATk)×(Option Addr×Nat) // LxI (xM s) j.1.1 j.1.2∧j.1.2.length≤j.2.2}) (fun j=>[(1,Jx b1),(3,.slice j.1.2.1 j.1.1.2.length j.1.2.2),(4,Jx b4),(5,.func (.func 120) #[] #[Jx b4,Jx b1])]) (fun j=>Jy w_0 [(b4,bxI j.1.1.1),(b1,bxS (xM s))] [⟨.slice j.1.2.1 j.1.1.2.length j.1.2.2,178,3,j.1.1.2.length,rB j.1.1.2⟩] (fun _=>True)) (fun j=>(xM s).length-j.1.1.1) ⟨((0,[]),(none,0)),LxI.zero _,Ae _⟩ ?_ ?_ (fun j=>?_);exact O4 rfl;exact fun w h=>Hp.nil (Hp.weakX h fun _ _=>trivial) _ _;obtain⟨⟨⟨i,out⟩,⟨A,cap⟩⟩,⟨hi,hcap⟩⟩:=j;dsimp only at hi hcap ⊢;have hile:=hi.le;have hn:=hi.n;refine zX<|zX<|zZ<|Zl 0 M U3 M<|Zl 1 M U9 M<|ZF M (wZ M U9)<|ZF M (yR M M)<|ZT<|zT M (fun h17=>?_) (fun h17=>?_)
 ·replace h17:=Ki h17;skip
  obtain⟨c,r,hcr⟩:∃c r,(xM s).drop i=c::r:=by
   cases hq:(xM s).drop i with
   | nil=>have:=List.drop_eq_nil_iff.1 hq;omega
   | cons c r=>exact⟨c,r,rfl⟩
  have hc:(xM s)[i]? = some c:=by
   have:((xM s).drop i)[0]? = some c:=by rw[hcr];rfl
   rwa [List.getElem?_drop,Nat.add_zero] at this
  have hlen:(c::r).length+i=(xM s).length:=by rw[← hcr,Kw];omega
  have hlc:=nO c r;have hcl:=UInt8.toNat_lt c;refine zR<|zV<|zJ<|zX<|Z5r 1 3 4 5 17 M<|Zl 1 M U9 M<|Zl 0 M U3 M<|ZF M (xX M M U9 M hc)<|Za M M<|ZT<|zJ<|zB (ι:={x:Bool // x=true↔c=32∨c=9}) (fun x=>[(1,Jx b1),(3,.slice A out.length cap),(4,Jx b4),(5,.func (.func 120) #[] #[Jx b4,Jx b1]),(6,.int .u8 c.toNat),(22,.bool x.1)]) (fun _=>Jy w_0 [(b4,bxI i),(b1,bxS (xM s))] [⟨.slice A out.length cap,178,3,out.length,rB out⟩] (fun _=>True)) ?_ (fun x=>?_)
  ·refine Z6r 1 3 4 5 6 17 M<|Zm M M<|Ze M<|Zm M M<|zQ 25 M (fun g8=>?_) (fun g8=>?_)
   ·replace g8:=Kq g8;refine ZP M<|ZP M<|Zh M<|Za M M<|zS<|zU (ι:={x:Bool // x=true↔c=32∨c=9}) ⟨true,⟨fun _=>.inl ((xC 32).2 g8),fun _=>rfl⟩⟩ (O6 M) Jz
   replace g8:=yT g8;refine Zv M<|Zx M<|Zf M<|Za M M<|zS<|zU (ι:={x:Bool // x=true↔c=32∨c=9}) ⟨_,⟨fun h=>.inr ((xC 9).2 (Kq h)),fun h=>Am.2 (h.elim (fun h=>absurd ((xC 32).1 h) g8) fun h=>(xC 9).1 h)⟩⟩ (O6 M) Jz
  obtain⟨x,hx⟩:=x;dsimp only;refine zT M (fun h22=>?_) (fun h22=>?_)
  ·rw[Ah (hx.1 h22)] at hlc;have hst:LxI (xM s) (i+1) (out++[]):=hi.step (k:=1) (t:=[]) (by have:=hlen;simp at this;omega) (Ad _) (by rw[hcr,hlc];show vV r=yG (vV r) _;cases vV r<;>rfl);rw[Al] at hst;refine zZ<|Zl 0 M U3 M<|ZF M (zF M M (i64_in _ (by omega) (by omega)))<|ZS 0 M<|zS<|zH<|zH<|yV (ι:={j:(Nat×List ATk)×(Option Addr×Nat) // LxI (xM s) j.1.1 j.1.2∧j.1.2.length≤j.2.2}) ⟨((i+1,out),(A,cap)),hst,hcap⟩ (by show (xM s).length-(i+1)<(xM s).length-i;omega) (O4 M) Jz
  skip;skip;have hx22:¬(c=32∨c=9):=fun h=>by rw[hx.2 h] at h22;cases h22
  rw[Ag hx22] at hlc;refine zB (ι:={x:Bool // x=true↔sR c=true∨c=95∨c=46}) (fun x=>[(1,Jx b1),(3,.slice A out.length cap),(4,Jx b4),(5,.func (.func 120) #[] #[Jx b4,Jx b1]),(6,.int .u8 c.toNat),(31,.bool x.1)]) (fun _=>Jy w_0 [(b4,bxI i),(b1,bxS (xM s))] [⟨.slice A out.length cap,178,3,out.length,rB out⟩] (fun _=>True)) ?_ (fun x=>?_)
  ·refine zZ<|Zm M M<|Zu (v:=.bool (rY c.toNat)) M (fun w hw=>qL _ w)<|Zm M M<|zQ 34 M (fun g10=>?_) (fun g10=>?_)
   ·refine ZP M<|ZP M<|Zh M<|Zm M M<|ZP M<|ZP M<|Zh M<|Za M M<|zS<|zU (ι:={x:Bool // x=true↔sR c=true∨c=95∨c=46}) ⟨true,⟨fun _=>.inl g10,fun _=>rfl⟩⟩ (O6 M) Jz
   skip;refine Zv M<|Zx M<|Zf M<|Zm M M<|zQ 38 M (fun g107=>?_) (fun g107=>?_)
   ·replace g107:=Kq g107;refine ZP M<|ZP M<|Zh M<|Za M M<|zS<|zU (ι:={x:Bool // x=true↔sR c=true∨c=95∨c=46}) ⟨true,⟨fun _=>.inr (.inl ((xC 95).2 g107)),fun _=>rfl⟩⟩ (O6 M) Jz
   replace g107:=yT g107;refine Zv M<|Zx M<|Zf M<|Za M M<|zS<|zU (ι:={x:Bool // x=true↔sR c=true∨c=95∨c=46}) ⟨_,⟨fun h=>.inr (.inr ((xC 46).2 (Kq h))),fun h=>Am.2 (h.elim (fun h=>by rw[show sR c=rY c.toNat from rfl,g10] at h;cases h) fun h=>h.elim (fun h=>absurd ((xC 95).1 h) g107) fun h=>(xC 46).1 h)⟩⟩ (O6 M) Jz
  obtain⟨y,hy⟩:=x;dsimp only;refine zT M (fun h31=>?_) (fun h31=>?_)
  ·rw[Ah (hy.1 h31)] at hlc;have hwt:whB qR (xM s) i=(c::r).takeWhile wF:=by rw[worB_fun];show ((xM s).drop i).takeWhile _=_;rw[hcr]
   have hw1:1≤((c::r).takeWhile wF).length:=by
    have:wF c=true:=by
     unfold wF;rcases hy.1 h31 with h|h|h;rw[h];rfl;subst h;rfl;subst h;rfl
    rw[List.takeWhile_cons,Ah this];simp
   have hw2:=(List.takeWhile_sublist (l:=c::r) wF).length_le;have hst:LxI (xM s) (i+((c::r).takeWhile wF).length) (out++[⟨119,(c::r).takeWhile wF,0⟩]):=hi.step (k:=((c::r).takeWhile wF).length) (t:=[⟨119,(c::r).takeWhile wF,0⟩]) (by omega) hw1 (by rw[hcr,hlc];rfl);refine zZ<|Zm M M<|Zm M M<|xP (us:=[]) (cs:=[Jx b4,Jx b1]) (args:=[_]) (vs:=[.func (.func 122) #[] #[]]) (v:=.string ⟨(whB qR (xM s) i).toArray⟩) (ob':=bxI (i+(whB qR (xM s) i).length)) 0 .none M  (by kernel_rfl) M M M (fun w hw=>while_any _ qR whW_fn (xM s) (by omega) i (by omega) b4 b1 (HpG.ne hw (i:=0) (j:=1) M M M) w (HpG.blkL (j:=0) hw M) (HpG.blkL (j:=1) hw M)) ?_;rw[hwt];refine ZF M (Zb [.int .u8 0,.string ⟨#[]⟩,.int .u32 0] [(0,1),(1,1),(2,1)] M)<|Zs (z:=.agg #[.int .u8 0,.string ⟨#[]⟩,.int .u32 0]) M U93 fun b46=>wN (z:=.agg #[.int .u8 0,.string ⟨#[]⟩,.int .u32 0]) (bytes:=32) 0 0 .none M M M M M U93 (by kernel_rfl) M M M M M (by omega) (by omega) fun a47 c47 h47=>Za M M<|zS<|zH<|zH<|yV (ι:={j:(Nat×List ATk)×(Option Addr×Nat) // LxI (xM s) j.1.1 j.1.2∧j.1.2.length≤j.2.2}) ⟨((i+((c::r).takeWhile wF).length,out++[⟨119,(c::r).takeWhile wF,0⟩]),(some ⟨a47,0,none⟩,c47)),hst,by rw[Kb];exact h47⟩ ?_ ?_ (fun w h=>?_);show (xM s).length-(i+((c::r).takeWhile wF).length)<(xM s).length-i;omega;exact .cons M<|.cons (by dsimp only;rw[Kb];rfl)<|.cons M<|.cons M<|.nil;dsimp only;rw[Kb,toksC_one];exact Hp.drop h (.cons _ (.refl _)) (Kl _)
  skip;skip;have hy31:¬(sR c=true∨c=95∨c=46):=fun h=>by rw[hy.2 h] at h31;cases h31
  rw[Ag hy31] at hlc;refine zX<|zZ<|Zm M M<|Zu (v:=.bool (uM c.toNat)) M (fun w hw=>oZ _ w)<|Za M M<|ZT<|zT M (fun h48=>?_) (fun h48=>?_)
  ·rw[Ah (show vU c=true from h48)] at hlc;have hwt:whB alnQ (xM s) i=(c::r).takeWhile tZ:=by rw[alnB_fun];show ((xM s).drop i).takeWhile _=_;rw[hcr]
   have hw1:1≤((c::r).takeWhile tZ).length:=by
    have:tZ c=true:=by unfold tZ;rw[show vU c=true from h48];simp
    rw[List.takeWhile_cons,Ah this];simp
   have hw2:=(List.takeWhile_sublist (l:=c::r) tZ).length_le;refine Z7r 1 3 4 5 6 31 48 M<|Zm M M<|Zm M M<|xP (us:=[]) (cs:=[Jx b4,Jx b1]) (args:=[_]) (vs:=[.func (.func 125) #[] #[]]) (v:=.string ⟨(whB alnQ (xM s) i).toArray⟩) (ob':=bxI (i+(whB alnQ (xM s) i).length)) 0 .none M  (by kernel_rfl) M M M (fun w hw=>while_any _ alnQ whN_fn (xM s) (by omega) i (by omega) b4 b1 (HpG.ne hw (i:=0) (j:=1) M M M) w (HpG.blkL (j:=0) hw M) (HpG.blkL (j:=1) hw M)) ?_;rw[hwt];have hnum:=fun w=>number_any ((c::r).takeWhile tZ) (by omega) w;rcases hna:pJ ((c::r).takeWhile tZ) with e9|n9
   ·rw[hna] at hlc;have hbad:=hi.bad (e:=e9) (by rw[hcr,hlc];rfl);refine oE .none (ch:=pan (qK e9)) (H':=fun w'=>Ext w_0 w') (by kernel_rfl) M (fun w hw=>(hnum w).mono fun e w' ⟨h1,h2⟩=>by rw[hna] at h1;exact⟨h1,(Kk hw).ext.trans h2⟩) ?_;refine yX<|yX<|zO<|yX<|zO<|xZ fun w hw=>⟨hw,by rw[hbad]⟩
   skip;rw[hna] at hlc;have hst:LxI (xM s) (i+((c::r).takeWhile tZ).length) (out++[⟨48,[],n9⟩]):=hi.step (k:=((c::r).takeWhile tZ).length) (t:=[⟨48,[],n9⟩]) (by omega) hw1 (by rw[hcr,hlc];rfl);refine Zu (v:=.int .u32 n9) M (fun w hw=>(hnum w).mono fun e w' ⟨h1,h2⟩=>by rw[hna] at h1;exact⟨h1,h2⟩) ?_;refine ZF M (Zb [.int .u8 0,.string ⟨#[]⟩,.int .u32 0] [(0,1),(1,1),(2,1)] M)<|Zs (z:=.agg #[.int .u8 0,.string ⟨#[]⟩,.int .u32 0]) M U93 fun b56=>wN (z:=.agg #[.int .u8 0,.string ⟨#[]⟩,.int .u32 0]) (bytes:=32) 0 0 .none M M M M M U93 (by kernel_rfl) M M M M M (by omega) (by omega) fun a57 c57 h57=>Za M M<|zS<|zH<|zH<|yV (ι:={j:(Nat×List ATk)×(Option Addr×Nat) // LxI (xM s) j.1.1 j.1.2∧j.1.2.length≤j.2.2}) ⟨((i+((c::r).takeWhile tZ).length,out++[⟨48,[],n9⟩]),(some ⟨a57,0,none⟩,c57)),hst,by rw[Kb];exact h57⟩ ?_ ?_ (fun w h=>?_);show (xM s).length-(i+((c::r).takeWhile tZ).length)<(xM s).length-i;omega;exact .cons M<|.cons (by dsimp only;rw[Kb];rfl)<|.cons M<|.cons M<|.nil;dsimp only;rw[Kb,toksC_one];exact Hp.drop h (.cons _ (.refl _)) (Kl _)
  skip;skip;rw[Ag (show ¬vU c=true by rw[show vU c=uM c.toNat from rfl,h48];simp)] at hlc;refine zB (ι:={x:Bool // x=true↔c∈sgnL}) (fun x=>[(1,Jx b1),(3,.slice A out.length cap),(4,Jx b4),(5,.func (.func 120) #[] #[Jx b4,Jx b1]),(6,.int .u8 c.toNat),(58,.bool x.1)]) (fun _=>Jy w_0 [(b4,bxI i),(b1,bxS (xM s))] [⟨.slice A out.length cap,178,3,out.length,rB out⟩] (fun _=>True)) ?_ (fun x=>?_)
  ·refine Z7r 1 3 4 5 6 31 48 M<|Zm M M<|Zu (v:=.int .i64 (Lib.indexByte sgnL c)) M (fun w hw=>(Tryz.strings_IndexByte ⟨sgnL.toArray⟩ c.toNat w).mono fun e w' ⟨h1,h2⟩=>by subst h2;refine⟨h1.trans ?_,Ext.refl _⟩;rw[Int.toNat_natCast,show c.toNat.toUInt8=c from UInt8.ofNat_toNat]) ?_;refine ZF M (yC M M)<|Za M M<|zS<|zU (ι:={x:Bool // x=true↔c∈sgnL}) ⟨_,⟨fun h=>(idxB_mem _ _).1 (Ki h),fun h=>An ((idxB_mem _ _).2 h)⟩⟩ (O6 M) Jz
  obtain⟨z,hz⟩:=x;dsimp only;refine zT M (fun h58=>?_) (fun h58=>?_)
  ·rw[Ah (hz.1 h58)] at hlc;have hst:LxI (xM s) (i+1) (out++[⟨115,[c],0⟩]):=hi.step (k:=1) (t:=[⟨115,[c],0⟩]) (by have:=hlen;simp at this;omega) (Ae _) (by rw[hcr,hlc];rfl);refine zX<|zZ<|Zl 0 M U3 M<|ZF M (zF M M (i64_in _ (by omega) (by omega)))<|ZS 0 M<|ZT<|Z6r 1 3 4 5 6 58 M<|Zm M M<|Zm M M<|Zs (z:=.int .u8 0) M U53 (fun b66=>?_)
   refine ZF M (sO 0 [c] M M Tryz.underlying53 Tryz.underlying5 Tryz.underlying9 M (qX c)) ?_
   refine ZF M (Zb [.int .u8 0,.string ⟨#[]⟩,.int .u32 0] [(0,1),(1,1),(2,1)] M)<|Zs (z:=.agg #[.int .u8 0,.string ⟨#[]⟩,.int .u32 0]) M U93 fun b69=>wN (z:=.agg #[.int .u8 0,.string ⟨#[]⟩,.int .u32 0]) (bytes:=32) 0 0 .none M M M M M U93 (by kernel_rfl) M M M M M (by omega) (by omega) fun a70 c70 h70=>Za M M<|zS<|zH<|zH<|yV (ι:={j:(Nat×List ATk)×(Option Addr×Nat) // LxI (xM s) j.1.1 j.1.2∧j.1.2.length≤j.2.2}) ⟨((i+1,out++[⟨115,[c],0⟩]),(some ⟨a70,0,none⟩,c70)),hst,by rw[Kb];exact h70⟩ ?_ ?_ (fun w h=>?_);show (xM s).length-(i+1)<(xM s).length-i;omega;exact .cons M<|.cons (by dsimp only;rw[Kb];rfl)<|.cons M<|.cons M<|.nil;dsimp only;rw[Kb,toksC_one];exact Hp.drop h (.cons _ (.cons _ (.refl _))) (Kl _)
  skip;skip;rw[Ag (fun h=>by rw[hz.2 h] at h58;cases h58)] at hlc;have hbad:=hi.bad (e:=20) (by rw[hcr,hlc]);refine zZ<|ZF M (xA M U25)<|wL .none M<|yX<|yX<|zO<|yX<|zO<|xZ fun w hw=>⟨(Kk hw).ext,by rw[hbad];rfl⟩
 replace h17:=Kj h17;skip;obtain rfl:i=(xM s).length:=by omega
 have hfin:=hi.fin;refine yM<|zP<|zP<|yN<|zV<|zX<|Z5r 1 3 4 5 17 M<|Zm M M<|Za M M<|ZU M M fun w hw=>⟨(Kk hw).ext,by rw[hfin];exact⟨A,cap,rfl,HpG.rowCp (j:=0) hw rfl,HpG.rowF (j:=0) hw rfl⟩⟩
end Go.Proofs.YtkaepknpplhgkaaGreatDoor
namespace Go.Proofs.YtkaepknpplhgkaaGreatDoor
open Go.RowKit
structure PV where
 kind:Int
 l:List ATk
 g:Nat
 off:Nat
 cap:Nat
abbrev pO (V:PV) (k:Nat) (A:Option Addr):Obj:=bk 176 [.int .i64 V.kind,.slice A (V.l.length-k) (V.cap-k)]
structure PAt (V:PV) (k:Nat) (A:Option Addr):Prop where
 le:k≤V.l.length
 cap:V.l.length≤V.cap
 big:V.cap≤maxLen
 at_:k<V.l.length→A=some ⟨V.g,V.off+3*k,none⟩
def TkX (V:PV) (w:World):Prop:=∀k t,V.l[k]? = some t→∀j v,(tkC t)[j]? = some v→w.cell? ⟨V.g,V.off+3*k+j,none⟩=some v
theorem TkX.foot {V:PV}{w w':World}(h:TkX V w) (hk:V.l≠[]→w'.heap[V.g]? = w.heap[V.g]?):TkX V w':=fun k t ht j v hv=>by
 rw[World.cell?_of_block (hk (fun e=>by rw[e] at ht;cases ht))];exact h k t ht j v hv
theorem TkX.head {V:PV}{w:World}(h:TkX V w) (hl:V.l≠[]):∃n,w.cell? ⟨V.g,V.off,none⟩=some (.int .u8 n):=by
 obtain⟨g,l,A,off,cap⟩:=V
 cases l with
 | nil=>exact absurd rfl hl
 | cons t l=>exact⟨t.kind,h 0 t rfl 0 _ rfl⟩
theorem TkX.lt {V:PV}{w:World}(h:TkX V w) (hl:V.l≠[]):V.g<w.heap.size:=by
 obtain⟨n,hn⟩:=h.head hl;exact World.block_lt_of_cell? _ _ hn
theorem TkX.ne {V:PV}{w:World}(h:TkX V w) (hl:V.l≠[]) {bp:Nat}{T:TypeId}{cs:List Value}(hb:w.heap[bp]? = some (bk T cs)) (hc:cs.all (fun v=>match v with|.int .u8 _=>false|_=>true)=true):V.g≠bp:=fun e=>by
 obtain⟨n,hn⟩:=h.head hl;rw[e,cell_of_row w bp V.off _ _ _ hb,List.getElem?_toArray] at hn;have:=List.all_eq_true.1 hc _ (Ko hn);cases this
theorem Hp.startV {V:PV}{w:World}{bp k:Nat}{A:Option Addr}(hb:w.heap[bp]? = some (pO V k A)) (hX:TkX V w):Hp (fun j=>j=bp) w [(bp,pO V k A)] [] (TkX V) w :=
 Hp.startB hb ⟨fun k=>V.l≠[]∧k=V.g,fun k hk=>by obtain⟨h1,h2⟩:=hk;subst h2;exact⟨hX.lt h1,hX.ne h1 hb rfl⟩,fun u hu=>hX.foot fun h=>hu _ ⟨h,rfl⟩⟩
def PPost {α:Type}(V:PV) (bp:Nat) (w:World) (val:α→Value) (r:Except Nat (α×List ATk)) (e:Ending) (w':World):Prop:=Keep (fun j=>j=bp) w w'∧match r with
 | .ok (a,l')=>∃k A,PAt V k A∧l'=V.l.drop k∧e=.returned (val a)∧w'.heap[bp]? = some (pO V k A)
 | .error c=>e=.panicked (pan (qK c))
section
variable {P:Program}{ops:Array Oper}{Q:Exit→Act→World→Prop}{n:Fr}{m:List (Nat×Value)}{ty:TypeId}{B:Nat→Prop}{w0:World}{L:List (Nat×Obj)}{R:List Rw}{X:World→Prop}{rest:List Oper}{d:Nat}{pos:String}{af:Array Edge}{gd:Option (Nat×Bool)}
theorem tI {α:Type}{val:α→Value}{r:Except Nat (α×List ATk)}{f:FuncId}{args:List Operand}{ats:Array TypeId}{vs:List Value}(V:PV) (bp:Nat) {k:Nat}{A:Option Addr}(j:Nat) (hg:Gd ops m gd) (hd:Nat.blt d n=true) (hf:goes P f=true) (ha:evl m args=some vs) (hk:L[j]? = some (bp,pO V k A))
  (hB:∀w w',Hp B w0 L R X w→Keep (fun j=>j=bp) w w'→Keep B w0 w')
  (hC:∀w,Hp B w0 L R X w→Calls P f vs.toArray w (PPost V bp w val r))
  (hbad:∀c,r=.error c→WQ Q (.panic (pan (qK c))) n m (fun w=>Keep B w0 w))
  (hok:∀a l' k' A',r=.ok (a,l')→PAt V k' A'→l'=V.l.drop k'→WL P ops Q rest n ((d,val a)::m) (Hp B w0 (L.set j (bp,pO V k' A')) R X)) :
  WL P ops Q (⟨some d,.call { callee:=.value (.func f),args:=args.toArray,argTypes:=ats },ty,pos,af,gd⟩::rest) n m (Hp B w0 L R X):=by
 cases hr:r with
 | error c =>
  refine oE (ch:=pan (qK c)) (H':=fun w=>Keep B w0 w) hg hf ha (fun w hw=>(hC w hw).mono fun e w' ⟨h1,h2⟩=>?_) (hbad c hr);rw[hr] at h2;exact⟨h2,hB w w' hw h1⟩
 | ok p =>
  obtain⟨a,l'⟩:=p;refine wl_turnE (ι:=Nat×Option Addr) (C:=fun i=>PAt V i.1 i.2∧l'=V.l.drop i.1) (val:=fun _=>val a) (ob':=fun i=>pO V i.1 i.2) hg hd j hf ha hk (fun w _ hw=>(hC w hw).mono fun e w' ⟨h1,h2⟩=>?_) fun i hi=>hok a l' i.1 i.2 hr hi.1 hi.2;rw[hr] at h2;obtain⟨k',A',h3,h4,h5,h6⟩:=h2;exact⟨(k',A'),⟨h3,h4⟩,h5,h1,h6⟩
end
theorem PAt.next {V:PV}{k:Nat}{A:Option Addr}(h:PAt V k A) (hk:k<V.l.length):PAt V (k+1) (sV A (V.cap-k) 1 3) :=
 ⟨hk,h.cap,h.big,fun h1=>by
  have:=h.cap;rw[h.at_ hk,sV,Ag (by omega)]
  simp[Addr.add]<;>omega⟩
theorem PAt.dropE {V:PV}{k:Nat}{A:Option Addr}(_h:PAt V k A) {t:ATk}(ht:V.l[k]? = some t):V.l.drop k=t::V.l.drop (k+1):=by
 obtain⟨h1,h2⟩:=Kg.1 ht;rw[List.drop_eq_getElem_cons h1,h2]
theorem PAt.dropN {V:PV}{k:Nat}{A:Option Addr}(_h:PAt V k A) (hk:¬k<V.l.length):V.l.drop k=[]:=Aj (by omega)
theorem PAt.tk {V:PV}{k:Nat}{A:Option Addr}(_h:PAt V k A) (hk:k<V.l.length):∃t,V.l[k]? = some t:=⟨V.l[k],Kn hk⟩
theorem nL (x:Bs) (t:ATk) (l:List ATk):isA x (t::l)=(decide (t.kind=115)&&decide (t.s=x)):=rfl
theorem rU (kd:Nat) (t:ATk) (l:List ATk):xH kd (t::l)=if t.kind=kd then .ok (t,l) else .error 20:=rfl
theorem PAt.tk' {V:PV}{k j:Nat}{A:Option Addr}(_h:PAt V k A) (hk:j<V.l.length):∃t,V.l[j]? = some t:=⟨V.l[j],Kn hk⟩
theorem is_any (V:PV) (x:Bs) (bp k:Nat) (A:Option Addr) (hp:PAt V k A) (w_0:World) (hb:w_0.heap[bp]? = some (pO V k A)) (hX:TkX V w_0) :
  Calls Tryz.prog 174 #[.pointer (some ⟨bp,0,none⟩),.string ⟨x.toArray⟩] w_0 fun e w'=>e=.returned (.bool (isA x (V.l.drop k)))∧Ext w_0 w':=by
 have hle:=hp.le;have hcp:=hp.cap;have hbg:=hp.big;unfold maxLen at hbg;refine zN (args:=[.pointer (some ⟨bp,0,none⟩),.string ⟨x.toArray⟩]) Tryz.func174 M 32 M (Kh M)<|Z2 0 1 M<|zG (H':=Jy w_0 [] [] (fun u=>Blk bp (pO V k A) u∧TkX V u)) (fun u hu=>?_) ?_;subst hu;exact Hp.start ⟨fun j=>j=bp∨(V.l≠[]∧j=V.g),fun j hj=>⟨hj.elim (fun h=>by subst h;exact (Kp.1 hb).1) (fun h=>by rw[h.2];exact hX.lt h.1),id⟩,fun u hu=>⟨(hu _ (.inl M)).trans hb,hX.foot fun h=>hu _ (.inr ⟨h,rfl⟩)⟩⟩;refine zX<|zZ<|Za M M<|ZX<|zZ<|Zm M M<|Zn M M<|ZF M (Y176x1 M) ?_;refine ZF M (zL M U93 M (fun w hw=>Blk.cell (HpG.x hw).1 M))<|ZF M (yK M U93)<|ZF M (vS M M)<|Zm M M<|zQ 11 M (fun g7=>?_) (fun g7=>?_)
 ·replace g7:=Ki g7;skip;obtain⟨t,ht⟩:=hp.tk (by omega);obtain rfl:=hp.at_ (by omega);have hde:=hp.dropE ht;refine Zv M<|ZG M M M (xV M)<|ZG M M M (Y176x1 M) ?_;refine ZG rfl rfl rfl (zL rfl U93 rfl (fun w hw=>Blk.cell (HpG.x hw).1 rfl))<|ZG rfl rfl rfl (Zi (j:=0) (es:=3) rfl rfl U93 rfl (by first|omega|simp<;>omega) rfl) ?_;refine ZG M M M (Y178x0 M) ?_;refine ZG M M M (zL M U5 M (fun w hw=>(HpG.x hw).2 k t ht 0 _ M))<|Zx M<|Zh M<|Zm M M<|zQ 21 M (fun g17=>?_) (fun g17=>?_)
  ·replace g17:=Kq g17;refine Zv M<|ZG M M M (xV M)<|ZG M M M (Y176x1 M) ?_;refine ZG rfl rfl rfl (zL rfl U93 rfl (fun w hw=>Blk.cell (HpG.x hw).1 rfl))<|ZG rfl rfl rfl (Zi (j:=0) (es:=3) rfl rfl U93 rfl (by first|omega|simp<;>omega) rfl) ?_;refine ZG M M M (zY (off:=1) (sz:=0) M U178 (by kernel_rfl) M) ?_;refine ZG M M M (zL M U9 M (fun w hw=>(HpG.x hw).2 k t ht 1 _ M))<|Zv M<|ZG M M M (yZ M M U9)<|Zh M<|Za M M<|ZU M M fun w hw=>⟨by rw[hde,nL,An (show t.kind=115 by omega),Bool.true_and],(Kk hw).ext⟩
  replace g17:=yT g17;refine ZP M<|ZP M<|ZP M<|ZP M<|ZP M<|ZP M<|ZP M<|ZP M<|ZP M<|Zf M<|Za M M<|ZU M M fun w hw=>⟨by rw[hde,nL,Ao (show ¬t.kind=115 by omega),Bool.false_and],(Kk hw).ext⟩
 replace g7:=Kj g7;skip;have hde:=hp.dropN (by omega);refine ZP M<|ZP M<|ZP M<|ZP M<|ZP M<|ZP M<|ZP M<|ZP M<|Zf M<|Zm M M<|ZP M<|ZP M<|ZP M<|ZP M<|ZP M<|ZP M<|ZP M<|ZP M<|ZP M<|Zf M<|Za M M<|ZU M M fun w hw=>⟨by rw[hde];rfl,(Kk hw).ext⟩
theorem sL (V:PV) (kd:Nat) (bp k:Nat) (A:Option Addr) (hp:PAt V k A) (w_0:World) (hb:w_0.heap[bp]? = some (pO V k A)) (hX:TkX V w_0) :
  Calls Tryz.prog 115 #[.pointer (some ⟨bp,0,none⟩),.int .u8 kd] w_0 (PPost V bp w_0 (fun t=>.agg (tkC t).toArray) (xH kd (V.l.drop k))):=by
 have hle:=hp.le;have hcp:=hp.cap;have hbg:=hp.big;unfold maxLen at hbg;unfold PPost;refine zN (args:=[.pointer (some ⟨bp,0,none⟩),.int .u8 kd]) Tryz.func115 M 39 M (Kh M)<|Z2 0 1 M<|zG (H':=Hp (fun j=>j=bp) w_0 [(bp,pO V k A)] [] (TkX V)) (fun u hu=>?_) ?_;subst hu;exact Hp.startV hb hX;refine zX<|zZ<|Zt (z:=.agg #[.int .u8 0,.string ⟨#[]⟩,.int .u32 0]) (cs:=[.int .u8 0,.string ⟨#[]⟩,.int .u32 0]) M fun b4=>ZX<|zX<|zZ<|Zm M M<|Zn M M<|ZF M (Y176x1 M) ?_;refine Zl 1 M U93 M<|ZF M (yK M U93)<|Ze M<|Zm M M<|zQ 12 M (fun g7=>?_) (fun g7=>?_)
 ·replace g7:=Kq g7;skip;have hde:=hp.dropN (by omega);refine ZP M<|ZP M<|ZP M<|ZP M<|ZP M<|ZP M<|ZP M<|ZP M<|ZP M<|Zh M<|ZT<|wY M<|Z4r 0 1 4 22 M<|ZF M (xA M U25)<|wL .none M<|zO<|xZ fun w hw=>⟨Kk hw,by rw[hde];rfl⟩
 replace g7:=yT g7;skip;obtain⟨t,ht⟩:=hp.tk (by omega);have hnx:=hp.next (by omega);obtain rfl:=hp.at_ (by omega);have hde:=hp.dropE ht;refine Zv M<|ZG M M M (xV M)<|ZG M M M (Y176x1 M) ?_;refine ZG rfl rfl rfl (yU 1 rfl rfl rfl U93 rfl)<|ZG rfl rfl rfl (Zi (j:=0) (es:=3) rfl rfl U93 rfl (by first|omega|simp<;>omega) rfl) ?_;refine ZG M M M (Y178x0 M) ?_;refine ZG M M M (zL M U5 M (fun w hw=>(HpG.x hw) k t ht 0 _ M))<|Zv M<|ZG M M M (xF M M)<|Zf M<|ZT<|zT M (fun h22=>?_) (fun h22=>?_)
 ·replace h22:=xD h22;refine Z4r 0 1 4 22 M<|ZF M (xA M U25)<|wL .none M<|zO<|xZ fun w hw=>⟨Kk hw,by rw[hde,rU,Ag (fun h=>h22 (by rw[h]))];rfl⟩
 replace h22:=wJ h22;refine zR<|zV<|zX<|Z4r 0 1 4 22 M<|Zm M M<|Zn M M<|ZF M (Y176x1 M) ?_;refine Zl 1 rfl U93 rfl<|ZF rfl (Zi (j:=0) (es:=3) rfl rfl U93 rfl (by first|omega|simp<;>omega) rfl) ?_;refine ZF M (xL (cs:=tkC t) M U178 M (by kernel_rfl) (fun w hw j v hv=>(HpG.x hw) k t ht j v hv))<|Zt (z:=.agg #[.int .u8 0,.string ⟨#[]⟩,.int .u32 0]) (cs:=[.int .u8 0,.string ⟨#[]⟩,.int .u32 0]) M fun b5=>ZR 0 M<|ZX<|Z5r 0 1 4 5 22 M<|Zm M M<|Zm M M<|Zn M M<|ZF M (Y176x1 M) ?_;refine Zl 2 M U93 M<|ZF M (qF (size:=3) (i:=1) M M U93 (by kernel_rfl) M (by omega)) ?_;refine Zn M M<|ZF M (Y176x1 M) ?_;refine ZS 2 M<|ZX<|Z5r 0 1 4 5 22 M<|ZF M (Zo 0 M U178 M)<|ZR 1 M<|ZT<|zK<|yS M M 1 M U178 M (by kernel_rfl) fun w hw=>⟨Kk hw,by rw[hde,rU,Ah (by omega)];exact⟨k+1,_,hnx,rfl,rfl,HpG.blkL (j:=2) hw rfl⟩⟩
theorem sJ (V:PV) (x:Bs) (bp k:Nat) (A:Option Addr) (hp:PAt V k A) (w_0:World) (hb:w_0.heap[bp]? = some (pO V k A)) (hX:TkX V w_0) :
  Calls Tryz.prog 116 #[.pointer (some ⟨bp,0,none⟩),.string ⟨x.toArray⟩] w_0 (PPost V bp w_0 (fun b=>.bool b) (.ok (isA x (V.l.drop k),pD x (V.l.drop k)))):=by
 have hle:=hp.le;have hcp:=hp.cap;have hbg:=hp.big;unfold maxLen at hbg;unfold PPost pD;dsimp only;refine zN (args:=[.pointer (some ⟨bp,0,none⟩),.string ⟨x.toArray⟩]) Tryz.func116 M 17 M (Kh M)<|Z2 0 1 M<|zG (H':=Hp (fun j=>j=bp) w_0 [(bp,pO V k A)] [] (TkX V)) (fun u hu=>?_) ?_;subst hu;exact Hp.startV hb hX;refine zX<|zZ<|Za M M<|ZX<|zX<|zZ<|Zm M M<|Zm M M<|Zu (v:=.bool (isA x (V.l.drop k))) M (fun w hw=>is_any V x bp k A hp w (HpG.blkL (j:=0) hw M) (HpG.x hw)) ?_;refine ZF M (xO M)<|ZT<|zT M (fun h8=>?_) (fun h8=>?_)
 ·have h8':isA x (V.l.drop k)=false:=by simpa using h8
  refine zX<|Z4r 0 1 4 8 M<|Za M M<|ZT<|zK<|zW<|yY M M fun w hw=>⟨Kk hw,k,A,hp,by rw[h8',Ag (by simp)],by rw[h8'],HpG.blkL (j:=0) hw rfl⟩
 skip;skip;have h8':isA x (V.l.drop k)=true:=by simpa using h8
 have hk:k<V.l.length:=Nat.lt_of_not_le fun hh=>by rw[Aj hh] at h8';cases h8'
 have hnx:=hp.next hk;refine zR<|zV<|zX<|Z4r 0 1 4 8 M<|Zm M M<|Zm M M<|Zn M M<|ZF M (Y176x1 M) ?_;refine Zl 0 M U93 M<|ZF M (qF (size:=3) (i:=1) M M U93 (by kernel_rfl) M (by omega)) ?_;refine Zn M M<|ZF M (Y176x1 M) ?_;refine ZS 0 M<|ZX<|Z4r 0 1 4 8 M<|Za M M<|ZU M M fun w hw=>⟨Kk hw,k+1,_,hnx,by rw[h8',Ah rfl,List.drop_drop],by rw[h8'],HpG.blkL (j:=0) hw rfl⟩
end Go.Proofs.YtkaepknpplhgkaaGreatDoor
namespace Go.Proofs
open Go.Shelf
def Tryz.lays171_ren:Go.Shelf.Ren:=⟨fun|171=>68|243=>150|246=>205|283=>233|284=>234|285=>235|286=>236|129=>249|317=>248|318=>250|319=>251|320=>252|337=>256|338=>257|n=>n,fun|3=>3|9=>9|2=>2|4=>4|171=>259|0=>0|53=>210|37=>53|5=>5|173=>262|212=>278|51=>22|20=>20|213=>279|46=>42|232=>290|233=>291|n=>n,fun|17=>3|18=>6|19=>7|n=>n⟩
theorem Tryz.lays171:Go.Proofs.Lays.n171 Tryz.prog Tryz.lays171_ren:={
 mixed:=by kernel_rfl
 f129:=Tryz.func249.trans (congrArg some (by kernel_rfl))
 f171:=Tryz.func68.trans (congrArg some (by kernel_rfl))
 f243:=Tryz.func150.trans (congrArg some (by kernel_rfl))
 f246:=Tryz.func205.trans (congrArg some (by kernel_rfl))
 f283:=Tryz.func233.trans (congrArg some (by kernel_rfl))
 f284:=Tryz.func234.trans (congrArg some (by kernel_rfl))
 f285:=Tryz.func235.trans (congrArg some (by kernel_rfl))
 f286:=Tryz.func236.trans (congrArg some (by kernel_rfl))
 f317:=Tryz.func248.trans (congrArg some (by kernel_rfl))
 f318:=Tryz.func250.trans (congrArg some (by kernel_rfl))
 f319:=Tryz.func251.trans (congrArg some (by kernel_rfl))
 f320:=Tryz.func252.trans (congrArg some (by kernel_rfl))
 f337:=Tryz.func256.trans (congrArg some (by kernel_rfl))
 f338:=Tryz.func257.trans (congrArg some (by kernel_rfl))
 t0:=Tryz.underlying0
 a0:=Tryz.isAgg0
 z0:=Tryz.sizeOf0
 v0:=Tryz.zeroValue0
 t2:=Tryz.underlying2
 a2:=Tryz.isAgg2
 z2:=Tryz.sizeOf2
 v2:=Tryz.zeroValue2
 t3:=Tryz.underlying3
 a3:=Tryz.isAgg3
 z3:=Tryz.sizeOf3
 v3:=Tryz.zeroValue3
 t4:=Tryz.underlying4
 a4:=Tryz.isAgg4
 z4:=Tryz.sizeOf4
 v4:=Tryz.zeroValue4
 t5:=Tryz.underlying5
 a5:=Tryz.isAgg5
 z5:=Tryz.sizeOf5
 v5:=Tryz.zeroValue5
 t9:=Tryz.underlying9
 a9:=Tryz.isAgg9
 z9:=Tryz.sizeOf9
 v9:=Tryz.zeroValue9
 t20:=Tryz.underlying20
 a20:=Tryz.isAgg20
 z20:=Tryz.sizeOf20
 v20:=Tryz.zeroValue20
 t37:=Tryz.underlying53
 a37:=Tryz.isAgg53
 z37:=Tryz.sizeOf53
 v37:=Tryz.zeroValue53
 t46:=Tryz.underlying42
 a46:=Tryz.isAgg42
 z46:=Tryz.sizeOf42
 v46:=Tryz.zeroValue42
 t51:=Tryz.underlying22
 a51:=Tryz.isAgg22
 z51:=Tryz.sizeOf22
 v51:=Tryz.zeroValue22
 t53:=Tryz.underlying210
 a53:=Tryz.isAgg210
 z53:=Tryz.sizeOf210
 v53:=Tryz.zeroValue210
 t171:=Tryz.underlying259
 a171:=Tryz.isAgg259
 z171:=Tryz.sizeOf259
 v171:=Tryz.zeroValue259
 t173:=Tryz.underlying262
 a173:=Tryz.isAgg262
 z173:=Tryz.sizeOf262
 v173:=Tryz.zeroValue262
 t212:=Tryz.underlying278
 a212:=Tryz.isAgg278
 z212:=Tryz.sizeOf278
 v212:=Tryz.zeroValue278
 t213:=Tryz.underlying279
 a213:=Tryz.isAgg279
 z213:=Tryz.sizeOf279
 t232:=Tryz.underlying290
 a232:=Tryz.isAgg290
 z232:=Tryz.sizeOf290
 v232:=Tryz.zeroValue290
 t233:=Tryz.underlying291
 a233:=Tryz.isAgg291
 z233:=Tryz.sizeOf291
 v233:=Tryz.zeroValue291
 g17:=by kernel_rfl
 g18:=by kernel_rfl
 g19:=by kernel_rfl }
open Go.RowKit Go.Sort Go.Lib in
theorem Tryz.strconv_Itoa_small (i:Nat) (hi:i<100) (w:World) :
  Calls Tryz.prog 68 #[.int .i64 i] w fun e w'=>e=.returned (.string ⟨(Lib.decDigits i).toArray⟩)∧w'=w:=Any.strconv_Itoa_small Tryz.lays171 i hi w
end Go.Proofs
namespace Go.Proofs.YtkaepknpplhgkaaGreatDoor
open Go.RowKit
def digS:Bs:=[48,49,50,51,52,53,54,55,56,57]
theorem digS_has (c:UInt8):digS.contains c=vU c:=by
 rw[Kf];unfold vU uM;simp only[List.contains_iff_mem,digS,List.mem_cons,List.not_mem_nil,or_false,Ab,Af,← UInt8.toNat_inj];simp;omega
theorem dw_nil {p:UInt8→Bool}{l:Bs}:l.dropWhile p=[]↔∀x∈l,p x=true:=by
 induction l with
 | nil=>simp
 | cons x l ih =>
  rw[List.dropWhile_cons]
  cases h:p x with
  | false=>simp[h]
  | true=>simp[h,ih]
theorem trim_nil (l cs:Bs):Lib.trimS l cs=[]↔∀x∈l,cs.contains x=true:=by
 unfold Lib.trimS Lib.trimLeftS Lib.trimRightS;rw[dw_nil]
 constructor
 ·intro h
  cases hd:l.reverse.dropWhile (cs.contains ·) with
  | nil =>
   have:=dw_nil.1 hd;exact fun x hx=>this x (List.mem_reverse.2 hx)
  | cons y r =>
   have hy:¬(cs.contains y=true):=by
    have key:∀{l:Bs} {y:UInt8} {r:Bs},l.dropWhile (cs.contains ·)=y::r→cs.contains y=false:=by
     intro l
     induction l with
     | nil=>intro y r h;cases h
     | cons x l ih =>
      intro y r h;rw[List.dropWhile_cons] at h
      cases hx:cs.contains x with
      | false=>rw[hx,Ag (by simp)] at h;cases h;exact hx
      | true=>rw[hx,Ah rfl] at h;exact ih h
    rw[key hd];simp
   exact absurd (h y (by rw[hd];simp)) hy
 intro h x hx;exact h x (List.mem_reverse.1 ((List.dropWhile_sublist _).mem (List.mem_reverse.1 hx)))
theorem trim_digits (s:Bs) (hs:s.length≤2000000) (w:World):Calls Tryz.prog 178 #[.string ⟨s.toArray⟩,.string ⟨digS.toArray⟩] w fun e w'=>e=.returned (.string ⟨(Lib.trimS s digS).toArray⟩)∧Ext w w' :=
 Any.strings_Trim_laid Tryz.lays160 (by kernel_rfl) ⟨s.toArray⟩ ⟨digS.toArray⟩ w (by show s.toArray.size≤_;simp;omega) (by decide) (ascii_of_all (by decide))
theorem numbered_any (s:Bs) (hs:s.length≤2000000) (w_0:World):Calls Tryz.prog 173 #[.string ⟨s.toArray⟩] w_0 fun e w'=>e=.returned (.bool (uC s))∧Ext w_0 w':=by
 have hnum:∀c r,s=c::r→uC s=(decide (1<s.length)&&decide (c=114)&&r.all vU):=fun c r e=>by subst e;unfold uC;simp
 refine zN (args:=[.string ⟨s.toArray⟩]) Tryz.func173 M 17 M (Kh M)<|Z1 0 M<|Z0<|zX<|zZ<|Za M M<|ZX<|zZ<|Zm M M<|ZF M (wZ M U9)<|ZF M (vS M M)<|Zm M M<|zQ 6 M (fun g4=>?_) (fun g4=>?_)
 ·replace g4:=Ki g4;skip
  obtain⟨c,r,hcr⟩:∃c r,s=c::r:=by
   cases s with
   | nil=>simp at g4
   | cons c r=>exact⟨c,r,rfl⟩
  have hlen:s.length=r.length+1:=by rw[hcr];rfl
  refine Zv M<|ZG M M M (xX M M U9 M (show s[0]? = some c by rw[hcr];rfl)) ?_;refine Zx M<|Zh M<|Zm M M<|zQ 11 M (fun g9=>?_) (fun g9=>?_)
  ·replace g9:=Kq g9;refine Zv M<|ZG M M M (rD M M U9 (by omega) (by omega) (show s.drop (Int.toNat 1)=r by rw[hcr];rfl)) ?_;refine xW (.some M M) M  (v:=.string ⟨(Lib.trimS r digS).toArray⟩) (by kernel_rfl) M (fun w hw=>trim_digits r (by omega) w)<|ZG M M M (yZ M M U9)<|Zh M<|Za M M<|ZU M M (fun w hw=>?_);refine⟨?_,(Kk hw).ext⟩;rw[hnum c r hcr,An (show 1<s.length by omega),An ((xC 114).2 g9),Bool.true_and,Bool.true_and];congr 2;rw[Kf,Af,trim_nil,List.all_eq_true];exact⟨fun h x hx=>by rw[← digS_has];exact h x hx,fun h x hx=>by rw[digS_has];exact h x hx⟩
  replace g9:=yT g9;refine ZP M<|ZP M<|ZP M<|ZP M<|Zf M<|Za M M<|ZU M M fun w hw=>⟨by rw[hnum c r hcr,Ao (show ¬c=114 from fun h=>g9 ((xC 114).1 h)),Bool.and_false,Bool.false_and],(Kk hw).ext⟩
 replace g4:=Kj g4;refine ZP M<|ZP M<|ZP M<|Zf M<|Zm M M<|ZP M<|ZP M<|ZP M<|ZP M<|Zf M<|Za M M<|ZU M M fun w hw=>⟨by unfold uC;rw[Ao (show ¬1<s.length by omega)];rfl,(Kk hw).ext⟩
theorem name_any (s:Bs) (hs:s.length≤2000000) (w_0:World):Calls Tryz.prog 114 #[.string ⟨s.toArray⟩] w_0 fun e w'=>Ext w_0 w'∧match tH s with
  | .ok x=>e=.returned (.string ⟨x.toArray⟩)
  | .error c=>e=.panicked (pan (qK c)):=by
 have hbad:(32<s.length∨(46:UInt8)∈s∨uC s=true)→tH s=.error 20:=fun h=>Ah h;have hok:¬(32<s.length∨(46:UInt8)∈s∨uC s=true)→tH s=.ok s:=fun h=>Ag h;refine zN (args:=[.string ⟨s.toArray⟩]) Tryz.func114 M 16 M (Kh M)<|Z1 0 M<|Z0<|zX<|zZ<|Za M M<|ZX<|zX<|zZ<|Zm M M<|ZF M (wZ M U9)<|ZF M (vS M M)<|Zm M M<|zQ 6 M (fun g4=>?_) (fun g4=>?_)
 ·replace g4:=Ki g4;refine ZP M<|ZP M<|Zh M<|Zm M M<|ZP M<|ZP M<|Zh M<|ZT<|wY M<|Z3r 0 2 13 M<|ZF M (xA M U25)<|wL .none M<|zO<|xZ fun w hw=>⟨(Kk hw).ext,by rw[hbad (.inl (by omega))];rfl⟩
 replace g4:=Kj g4;refine Zv M<|xW (.some M M) M  (v:=.bool (decide (46∈s))) (by kernel_rfl) M (fun w hw=>(Tryz.strings_Contains_one ⟨s.toArray⟩ 46 w).mono fun e w' ⟨h1,h2⟩=>by subst h2;exact⟨by rw[h1];congr 3;exact propext (idxB_mem _ _),Ext.refl _⟩) ?_;refine Zf M<|Zm M M<|zQ 10 M (fun g8=>?_) (fun g8=>?_)
 ·refine ZP M<|ZP M<|Zh M<|ZT<|wY M<|Z3r 0 2 13 M<|ZF M (xA M U25)<|wL .none M<|zO<|xZ fun w hw=>⟨(Kk hw).ext,by rw[hbad (.inr (.inl (Ki g8)))];rfl⟩
 skip;refine Zv M<|xW (.some M M) M  (v:=.bool (uC s)) (by kernel_rfl) M (fun w hw=>numbered_any s hs w)<|Zf M<|ZT<|zT M (fun h13=>?_) (fun h13=>?_)
 ·refine Z3r 0 2 13 M<|ZF M (xA M U25)<|wL .none M<|zO<|xZ fun w hw=>⟨(Kk hw).ext,by rw[hbad (.inr (.inr h13))];rfl⟩
 skip;refine zR<|zV<|zX<|Z3r 0 2 13 rfl<|Zm rfl rfl<|Za rfl rfl<|ZU rfl rfl fun w hw=>⟨(Kk hw).ext,by rw[hok (fun h=>by rcases h with h|h|h;omega;exact Kj g8 h;rw[h] at h13;cases h13)]⟩
theorem rnm_dec (i:Nat) (hi:i<16):[114]++Lib.decDigits i=rnmA i:=by
 unfold rnmA;rw[Lib.decDigits]
 by_cases h:i<10
 rw[dif_pos h,Ah h];rfl;rw[dif_neg h,Ag h,Lib.decDigits,dif_pos (by omega)];have:i=10∨i=11∨i=12∨i=13∨i=14∨i=15:=by omega
 rcases this with rfl|rfl|rfl|rfl|rfl|rfl<;>rfl
theorem regG_step (s:Bs) (f i:Nat):regG s (f+1) i=if s=rnmA i then (i:Int) else regG s f (i+1):=rfl
theorem reg_any (V:PV) (s:Bs) (bp k:Nat) (A:Option Addr) (w_0:World) (hb:w_0.heap[bp]? = some (pO V k A)) :
  Calls Tryz.prog 176 #[.pointer (some ⟨bp,0,none⟩),.string ⟨s.toArray⟩] w_0 fun e w'=>e=.returned (.int .i64 (tR V.kind s))∧Ext w_0 w':=by
 refine zN (args:=[.pointer (some ⟨bp,0,none⟩),.string ⟨s.toArray⟩]) Tryz.func176 M 23 M (Kh M)<|Z2 0 1 M<|zG (H':=Jy w_0 [] [] (Blk bp (pO V k A))) (fun u hu=>?_) ?_;subst hu;exact Hp.start ⟨fun j=>j=bp,fun j hj=>⟨by subst hj;exact (Kp.1 hb).1,id⟩,fun u hu=>(hu _ M).trans hb⟩;refine zX<|zZ<|Za M M<|ZX<|zZ<|Za M M<|ZT<|zB (ι:=Unit) (fun _=>[(1,.string ⟨s.toArray⟩),(5,.int .i64 (tG V.kind:Nat))]) (fun _=>Jy w_0 [] [] (fun _=>True)) ?_ (fun _=>?_)
 ·refine zX<|zZ<|Zm M M<|Zn M M<|ZF M (zY (off:=0) (sz:=0) M Tryz.underlying176 (by kernel_rfl) M) ?_;refine ZF M (zL M U3 M (fun w hw=>Blk.cell (HpG.x hw) M))<|Ze M<|ZT<|zT M (fun h11=>?_) (fun h11=>?_)
  ·replace h11:=Kq h11;refine Z5r 0 1 4 5 11 M<|Za M M<|zS<|zU (ι:=Unit) () (.cons M<|.consE M (by unfold tG;rw[Ah h11];rfl)<|.nil) (fun w h=>Hp.weakX h fun _ _=>trivial)
  replace h11:=yT h11;refine zR<|zU (ι:=Unit) () (.cons M<|.consE M (by unfold tG;rw[Ag h11];rfl)<|.nil) (fun w h=>Hp.weakX h fun _ _=>trivial)
 have hm16:tG V.kind≤16:=by unfold tG;split<;>omega
 refine zX<|zX<|zZ<|Zm M M<|Zm M M<|ZT<|zJ<|yF (ι:={i:Nat // i≤tG V.kind∧tR V.kind s=regG s (tG V.kind-i) i}) (fun i=>[(1,.string ⟨s.toArray⟩),(12,.int .i64 (tG V.kind:Nat)),(13,.int .i64 (i.1:Nat))]) (fun _=>Jy w_0 [] [] (fun _=>True)) (fun i=>tG V.kind-i.1) ⟨0,Ad _,rfl⟩ ?_ ?_ (fun i=>?_);exact O3 rfl;exact fun w h=>h;obtain⟨i,hi,hr⟩:=i;dsimp only;refine zX<|zZ<|ZF M (yR M M)<|ZX<|zT M (fun h14=>?_) (fun h14=>?_)
 ·replace h14:=Ki h14;skip;have hrn:=rnm_dec i (by omega);rw[show tG V.kind-i=(tG V.kind-(i+1))+1 by omega,regG_step] at hr;refine zR<|zV<|zX<|zJ<|zX<|zZ<|Zm M M<|Za M M<|ZX<|Z5r 1 6 12 13 14 M<|Zm M M<|Zm M M ?_
  refine Zu (v:=.string ⟨(Lib.decDigits i).toArray⟩) M (fun w hw=>(Tryz.strconv_Itoa_small i (by omega) w).mono fun e w' ⟨h1,h2⟩=>by subst h2;exact⟨h1,Ext.refl _⟩) ?_
  refine ZF M (yB M M (by (have:=dec_len (u:=i) (k:=2) (by omega) (by omega);simp;omega))) ?_;refine ZF M (yZ M M U9)<|ZT<|zT M (fun h20=>?_) (fun h20=>?_)
  ·refine zX<|Z6r 1 6 12 13 14 20 M<|Zm M M<|Za M M<|ZT<|zK<|zM<|zW<|zW<|zM<|zW<|yY M M fun w hw=>⟨by rw[hr,Ah (by rw[← hrn];exact Ki h20)],(Kk hw).ext⟩
  skip;refine zR<|zH<|zV<|Z6r 1 6 12 13 14 20 M<|ZF M (zF M M (i64_in _ (by omega) (by omega)))<|Zm M M<|zS<|yV (ι:={i:Nat // i≤tG V.kind∧tR V.kind s=regG s (tG V.kind-i) i}) ⟨i+1,by omega,by rw[hr,Ag (by rw[← hrn];exact Kj h20)]⟩ (by show tG V.kind-(i+1)<tG V.kind-i;omega) (O3 M) Jz
 replace h14:=Kj h14;skip;rw[show tG V.kind-i=0 by omega] at hr;refine yM<|zP<|zP<|yN<|zV<|zX<|zZ<|Za M M<|ZU M M fun w hw=>⟨by rw[hr];rfl,(Kk hw).ext⟩
end Go.Proofs.YtkaepknpplhgkaaGreatDoor
namespace Go.Proofs.YtkaepknpplhgkaaGreatDoor
open Go.RowKit
theorem register_any (V:PV) (bp k:Nat) (A:Option Addr) (hp:PAt V k A) (w_0:World) (hb:w_0.heap[bp]? = some (pO V k A)) (hX:TkX V w_0) :
  Calls Tryz.prog 214 #[.pointer (some ⟨bp,0,none⟩)] w_0 (PPost V bp w_0 (fun r=>.int .i64 r) (rgA V.kind (V.l.drop k))):=by
 have hr:rgA V.kind (V.l.drop k)=yG (xH 119 (V.l.drop k)) fun p=>if tR V.kind p.1.s<0 then .error 20 else .ok (tR V.kind p.1.s,p.2):=rfl;unfold PPost;refine zN (args:=[.pointer (some ⟨bp,0,none⟩)]) Tryz.func214 M 13 M (Kh M)<|Z1 0 M<|zG (H':=Hp (fun j=>j=bp) w_0 [(bp,pO V k A)] [] (TkX V)) (fun u hu=>?_) ?_;subst hu;exact Hp.startV hb hX;refine zX<|zZ<|Za M M<|ZX<|zZ<|Zm M M<|Zm M M<|tI (val:=fun t=>.agg (tkC t).toArray) (r:=xH 119 (V.l.drop k)) V bp 0 .none M  (by kernel_rfl) M M (fun w w' hw h=>(Kk hw).trans h) (fun w hw=>sL V 119 bp k A hp w (HpG.blkL (j:=0) hw M) (HpG.x hw)) (fun c hc=>zO<|xZ (fun w hw=>⟨hw,by rw[hr,hc];rfl⟩)) (fun t l1 k1 A1 h1 hp1 hl1=>?_);rw[h1] at hr;have hr:rgA V.kind (V.l.drop k)=if tR V.kind t.s<0 then .error 20 else .ok (tR V.kind t.s,l1):=hr;refine ZF M (tQ (off:=1) (ft:=9) M U178 (by kernel_rfl) U9 M M) ?_;refine Zu (v:=.int .i64 (tR V.kind t.s)) M (fun w hw=>reg_any V t.s bp k1 A1 w (HpG.blkL (j:=0) hw M)) ?_;refine Za M M<|ZX<|zX<|Z3r 0 2 3 M<|Zm M M<|ZF M (yR M M)<|ZT<|zT M (fun h10=>?_) (fun h10=>?_)
 ·replace h10:=Ki h10;refine Z4r 0 2 3 10 M<|ZF M (xA M U25)<|wL .none M<|zO<|xZ fun w hw=>⟨Kk hw,by rw[hr,Ah h10];rfl⟩
 replace h10:=Kj h10;refine zR<|zV<|zX<|Z4r 0 2 3 10 M<|Zm M M<|Za M M<|ZU M M fun w hw=>⟨Kk hw,by rw[hr,Ag h10];exact⟨k1,A1,hp1,hl1,rfl,HpG.blkL (j:=0) hw rfl⟩⟩
abbrev aoC (o:AOp):List Value:=[.int .u8 o.kind,.int .i64 o.r,.string ⟨o.name.toArray⟩,.int .u32 o.n,.int .i64 o.index,.int .i64 o.scale]
abbrev aoO (o:AOp):Obj:=bk 100 (aoC o)
section
variable {P:Program}{n:Fr}{m:List (Nat×Value)}{ty:TypeId}{G B:Nat→Prop}{w0:World}{L:List (Nat×Obj)}{R:List Rw}{X:World→Prop}
theorem rI {ik:IntKind}{x y z:Operand}{T K E:TypeId}{g c:Nat}{es:Array MapEntry}{key:Int}{v:Value}(k:Nat) (hx:ev m x=some (.map (some g))) (hy:ev m y=some (.int ik key)) (hz:ev m z=some v) (hk:L[k]? = some (g,.map es c)) (hT:P.underlying T=some (.map K E)) (hK:P.underlying K=some (.int ik)) (hf:Instr.findNow (.int ik) (.int ik key) es.toList 0=some none) :
  CF P (.insert T x y z) ty n m (HpG G B w0 L R X) (fun _:Unit=>undef) (fun _=>HpG G B w0 (L.set k (g,.map (es.push { key:=.int ik key,val:=v,born:=c }) (c+1))) R X):=fun a w d pos af gd hs hw=>by
 have hr:=hw.own _ (Ko hk);dsimp only at hr;have hc:(Instr.checkKey false 10000 K (.int ik key)).run P w=.ok () w:=MapKept.run_checkKey (k:=.int ik key) hK (by simp[MapKept.IsKey]) false 9999
 have hrun:(Instr.mapUpdate T (.map (some g)) (.int ik key) v).run P w=.ok () { w with heap:=w.heap.setIfInBounds g (.map (es.push { key:=.int ik key,val:=v,born:=c }) (c+1)) }:=by
  simp[Instr.mapUpdate,run_underlying hT,MapKept.run_getObj_map hr,hc,MapKept.run_findKey hK hf,MapKept.run_setObj_map _ hr,Result.andThen]
 have h2:=MapKept.heap_set (o':=.map (es.push { key:=.int ik key,val:=v,born:=c }) (c+1)) hr
 have hex:(execOp a.eval ⟨d,.insert T x y z,ty,pos,af,gd⟩).run P w=.ok .skip { w with heap:=w.heap.setIfInBounds g (.map (es.push { key:=.int ik key,val:=v,born:=c }) (c+1)) }:=by
  simp[execOp,hs.ev hx,hs.ev hy,hs.ev hz,hrun,Result.andThen]
 show Ch _ _ _ _ _;unfold Ch;rw[hex];exact⟨(),rfl,hw.turn hk ⟨rfl,rfl,rfl,by simp,fun j _ hne=>h2.2 j hne⟩ h2.1⟩
theorem yf_lookupK {ik:IntKind}{H:World→Prop}{x y:Operand}{T K E:TypeId}{g c:Nat}{es:Array MapEntry}{key:Int}{z:Value}{r:Option (Nat×Value)}(hx:ev m x=some (.map (some g))) (hy:ev m y=some (.int ik key)) (hr:∀w,H w→w.heap[g]? = some (.map es c)) (hT:P.underlying T=some (.map K E)) (hK:P.underlying K=some (.int ik)) (hz:∀w,(zeroValue E).run P w=.ok z w) (hf:Instr.findNow (.int ik) (.int ik key) es.toList 0=some r) :
  YF P (.lookup T x y true) ty n m H (.tuple #[(r.map (·.2)).getD z,.bool r.isSome]):=fun a w d pos af gd hs hw=>by
 have hc:(Instr.checkKey es.isEmpty 10000 K (.int ik key)).run P w=.ok () w:=MapKept.run_checkKey (k:=.int ik key) hK (by simp[MapKept.IsKey]) _ 9999
 have hl:(Instr.lookup T (.map (some g)) (.int ik key) true).run P w=.ok (.tuple #[(r.map (·.2)).getD z,.bool r.isSome]) w:=by
  cases r with
  | none=>simp[Instr.lookup,run_underlying hT,MapKept.run_getObj_map (hr w hw),hc,MapKept.run_findKey hK hf,hz,Result.andThen]
  | some v=>simp[Instr.lookup,run_underlying hT,MapKept.run_getObj_map (hr w hw),hc,MapKept.run_findKey hK hf,Result.andThen]
 simp[Yl,execOp,hs.ev hx,hs.ev hy,hl]
end
def scaE:List MapEntry:=[{ key:=.int .u32 1,val:=.int .i64 0,born:=0 },{ key:=.int .u32 2,val:=.int .i64 1,born:=1 },{ key:=.int .u32 4,val:=.int .i64 2,born:=2 },{ key:=.int .u32 8,val:=.int .i64 3,born:=3 }]
def scaI (n:Nat):Option (Nat×Value):=if n=1 then some (0,.int .i64 0) else if n=2 then some (1,.int .i64 1) else if n=4 then some (2,.int .i64 2) else if n=8 then some (3,.int .i64 3) else none
theorem same_int (ik:IntKind) (a b:Int):Instr.sameNow (.int ik) (.int ik a) (.int ik b)=some (decide (a=b)):=by
 simp[Instr.sameNow];rw[Kf];simp
theorem sca_find (n:Nat):Instr.findNow (.int .u32) (.int .u32 n) scaE 0=some (scaI n):=by
 have e:∀k:Nat,decide ((n:Int)=((k:Nat):Int))=decide (n=k):=fun k=>by rw[decide_eq_decide];omega
 have e1:=e 1;have e2:=e 2;have e4:=e 4;have e8:=e 8;simp only[scaE,Instr.findNow,same_int,scaI]
 by_cases h1:n=1
 subst h1;rfl
 by_cases h2:n=2
 subst h2;rfl
 by_cases h4:n=4
 subst h4;rfl
 by_cases h8:n=8
 subst h8;rfl;have g1:¬(n:Int)=1:=by omega
 have g2:¬(n:Int)=2:=by omega
 have g4:¬(n:Int)=4:=by omega
 have g8:¬(n:Int)=8:=by omega
 simp[h1,h2,h4,h8,g1,g2,g4,g8]
theorem sca_I (n:Nat):(scaI n).map (·.2)=(pM n).map (fun c=>.int .i64 c)∧(scaI n).isSome=(pM n).isSome:=by
 unfold scaI pM
 by_cases h1:n=1
 subst h1;exact⟨rfl,rfl⟩
 by_cases h2:n=2
 subst h2;exact⟨rfl,rfl⟩
 by_cases h4:n=4
 subst h4;exact⟨rfl,rfl⟩
 by_cases h8:n=8
 subst h8;exact⟨rfl,rfl⟩;simp[h1,h2,h4,h8]
end Go.Proofs.YtkaepknpplhgkaaGreatDoor
namespace Go.Proofs.YtkaepknpplhgkaaGreatDoor
open Go.RowKit
def memC (kind:Int) (l:List ATk):Prop:=kind=1∧isA [43] l=true∧(∃t,l[1]? = some t∧t.kind=119)
instance (kind:Int) (l:List ATk):Decidable (memC kind l):=by unfold memC;exact inferInstanceAs (Decidable (kind=1∧isA [43] l=true∧(∃t,l[1]? = some t∧t.kind=119)))
theorem memA_eq (kind:Int) (l:List ATk):sB kind l=yG (rgA kind l) fun p =>
  if memC kind p.2 then
   yG (rgA kind (p.2.drop 1)) fun q =>
    if isA [42] q.2 then yG (xH 48 (q.2.drop 1)) fun u=>match pM u.1.n with
     | some c=>vA ⟨109,p.1,[],0,q.1,c⟩ u.2
     | none=>.error 20
    else vA ⟨109,p.1,[],0,q.1,0⟩ q.2
  else vA ⟨109,p.1,[],0,-1,0⟩ p.2:=rfl
theorem TkX.at1 {V:PV}{w:World}(h:TkX V w) {k:Nat}{t:ATk}(ht:V.l[k+1]? = some t):w.cell? ⟨V.g,V.off+3*k+1*3+0,none⟩=some (.int .u8 t.kind):=by
 have:=h (k+1) t ht 0 _ rfl
 rwa [show V.off+3*(k+1)+0=V.off+3*k+1*3+0 by omega] at this
theorem qP {x:Bs}{l:List ATk}(h:isA x l=true):pD x l=l.drop 1:=Ah h
theorem skipA_f {x:Bs}{l:List ATk}(h:isA x l=false):pD x l=l:=by unfold pD;rw[h];rfl
theorem neg_wrap (n:Nat) (h:n<4294967296):IntKind.u32.wrap (0-(n:Int))=(negA n:Nat):=by
 simp only[IntKind.wrap,IntKind.bits,IntKind.signed,negA];simp;omega
theorem ao_n0 {o:AOp}(h:o.n=0):({ o with n:=0 }:AOp)=o:=by cases o;cases h;rfl
theorem oB {kd:Nat}{l l':List ATk}{t:ATk}(h:xH kd l=.ok (t,l')):t∈l:=by
 cases l with
 | nil=>cases h
 | cons x l =>
  rw[rU] at h
  split at h
  ·cases h;exact Ks ..
  ·cases h
theorem tailA_eq (o:AOp) (l:List ATk):vA o l =
 yG (if isA [43] l then yG (xH 48 (l.drop 1)) fun p=>.ok (p.1.n,p.2) else if isA [45] l then yG (xH 48 (l.drop 1)) fun p=>.ok (negA p.1.n,p.2) else .ok (0,l)) fun p =>
  if isA [93] p.2 then .ok ({ o with n:=p.1 },p.2.drop 1) else .error 20:=rfl
structure MmS where
 o:AOp
 k:Nat
 A:Option Addr
def NumX (V:PV):Prop:=∀t∈V.l,t.n<4294967296
theorem memory_any (V:PV) (hV:NumX V) (bp k:Nat) (A:Option Addr) (hp:PAt V k A) (w_0:World) (hb:w_0.heap[bp]? = some (pO V k A)) (hX:TkX V w_0) :
  Calls Tryz.prog 175 #[.pointer (some ⟨bp,0,none⟩)] w_0 (PPost V bp w_0 (fun o=>.agg (aoC o).toArray) (sB V.kind (V.l.drop k))):=by
 have hr:=memA_eq V.kind (V.l.drop k);have hbg:=hp.big;unfold maxLen at hbg;have hcp:=hp.cap;unfold PPost;refine zN (args:=[.pointer (some ⟨bp,0,none⟩)]) Tryz.func175 M 77 M (Kh M)<|Z1 0 M<|zG (H':=Hp (fun j=>j=bp) w_0 [(bp,pO V k A)] [] (TkX V)) (fun u hu=>?_) ?_;subst hu;exact Hp.startV hb hX;refine zX<|zZ<|Zt (z:=.agg #[.int .u8 0,.int .i64 0,.string ⟨#[]⟩,.int .u32 0,.int .i64 0,.int .i64 0]) (cs:=Jk) M fun b2=>ZX<|zZ<|Zm M M<|tI (val:=fun r=>.int .i64 r) (r:=rgA V.kind (V.l.drop k)) V bp 1 .none M  (by kernel_rfl) M M (fun w w' hw h=>(Kk hw).trans h) (fun w hw=>register_any V bp k A hp w (HpG.blkL (j:=1) hw M) (HpG.x hw)) (fun c hc=>zO<|xZ (fun w hw=>⟨hw,by rw[hr,hc];rfl⟩)) (fun r1 l1 k1 A1 h1 hp1 hl1=>?_);rw[h1] at hr
 have hr:sB V.kind (V.l.drop k)=if memC V.kind l1 then
   yG (rgA V.kind (l1.drop 1)) fun q =>
    if isA [42] q.2 then yG (xH 48 (q.2.drop 1)) fun u=>match pM u.1.n with
     | some c=>vA ⟨109,r1,[],0,q.1,c⟩ u.2
     | none=>.error 20
    else vA ⟨109,r1,[],0,q.1,0⟩ q.2
  else vA ⟨109,r1,[],0,-1,0⟩ l1:=hr
 subst hl1;refine ZF M (Zb [.int .u8 0,.int .i64 0,.string ⟨#[]⟩,.int .u32 0,.int .i64 0,.int .i64 0] [(0,1),(1,1),(2,1),(3,1),(4,1),(5,1)] M)<|Zt (z:=.agg #[.int .u8 0,.int .i64 0,.string ⟨#[]⟩,.int .u32 0,.int .i64 0,.int .i64 0]) (cs:=Jk) M fun b3=>ZR 0 M<|ZT<|zB (ι:={i:MmS // PAt V i.k i.A∧sB V.kind (V.l.drop k)=vA i.o (V.l.drop i.k)∧i.o.n=0}) (fun _=>[(0,.pointer (some ⟨bp,0,none⟩)),(2,Jx b2),(3,Jx b3)]) (fun i=>Hp (fun j=>j=bp) w_0 [(b3,aoO i.1.o),(b2,aoO uN),(bp,pO V i.1.k i.1.A)] [] (TkX V)) ?_ (fun i=>?_)
 ·refine zB (ι:={x:Bool // x=true↔memC V.kind (V.l.drop k1)}) (fun x=>[(0,.pointer (some ⟨bp,0,none⟩)),(2,Jx b2),(3,Jx b3),(35,.bool x.1)]) (fun i=>Hp (fun j=>j=bp) w_0 [(b3,aoO ⟨109,r1,[],0,-1,0⟩),(b2,aoO uN),(bp,pO V k1 A1)] [] (TkX V)) ?_ (fun x=>?_)
  ·refine Z3r 0 2 3 M<|Zm M M<|Zn M M<|ZF M (zY (off:=0) (sz:=0) M Tryz.underlying176 (by kernel_rfl) M) ?_;refine Zl 2 M U3 M<|Ze M<|Zm M M<|zQ 14 M (fun g6=>?_) (fun g6=>?_)
   ·replace g6:=Kq g6;refine Zv M<|xW (.some M M) M  (v:=.bool (isA [43] (V.l.drop k1))) (by kernel_rfl) M (fun w hw=>is_any V [43] bp k1 A1 hp1 w (HpG.blkL (j:=2) hw M) (HpG.x hw)) ?_;refine Zh M<|Zm M M<|zQ 18 M (fun g10=>?_) (fun g10=>?_)
    ·refine Zv M<|ZG M M M (xV M)<|ZG M M M (Y176x1 M) ?_;refine ZG M M M (yU 2 M M M U93 M)<|ZG M M M (yK M U93)<|ZG M M M (vS M M)<|Zh M<|Zm M M<|zQ 26 M (fun g18=>?_) (fun g18=>?_)
     ·replace g18:=Ki g18;skip;have hk1:k1+1<V.l.length:=by omega
      obtain⟨t,ht⟩:=hp1.tk' hk1;obtain rfl:=hp1.at_ (by omega);refine Zv M<|ZG M M M (xV M)<|ZG M M M (Y176x1 M) ?_;refine ZG rfl rfl rfl (yU 2 rfl rfl rfl U93 rfl)<|ZG rfl rfl rfl (Zi (j:=1) (es:=3) rfl rfl U93 rfl (by first|omega|simp<;>omega) rfl) ?_;refine ZG M M M (Y178x0 M) ?_;refine ZG M M M (zL M U5 M (fun w hw=>(HpG.x hw).at1 ht))<|Zx M<|Zh M<|zS<|zU (ι:={x:Bool // x=true↔memC V.kind (V.l.drop k1)}) ⟨_,⟨fun h=>⟨g6,g10,t,by rw[List.getElem?_drop];exact ht,by have:=Kq h;omega⟩,fun ⟨_,_,t',h1,h2⟩=>by rw[List.getElem?_drop,ht] at h1;cases h1;rw[h2];rfl⟩⟩ (O4 M) Jz
     replace g18:=Kj g18;refine ZP M<|ZP M<|ZP M<|ZP M<|ZP M<|ZP M<|ZP M<|ZP M<|Zf M<|zS<|zU (ι:={x:Bool // x=true↔memC V.kind (V.l.drop k1)}) ⟨false,⟨fun h=>(by cases h),fun ⟨_,_,t',h1,h2⟩=>by rw[List.getElem?_drop] at h1;have:=(Kg.1 h1).1;omega⟩⟩ (O4 M) Jz
    skip;refine ZP M<|ZP M<|ZP M<|ZP M<|ZP M<|ZP M<|Zf M<|Zm M M<|ZP M<|ZP M<|ZP M<|ZP M<|ZP M<|ZP M<|ZP M<|ZP M<|Zf M<|zS<|zU (ι:={x:Bool // x=true↔memC V.kind (V.l.drop k1)}) ⟨false,⟨fun h=>(by cases h),fun ⟨_,h,_⟩=>by rw[g10] at h;cases h⟩⟩ (O4 M) Jz
   replace g6:=yT g6;refine ZP M<|ZP M<|Zf M<|Zm M M<|ZP M<|ZP M<|ZP M<|ZP M<|ZP M<|ZP M<|Zf M<|Zm M M<|ZP M<|ZP M<|ZP M<|ZP M<|ZP M<|ZP M<|ZP M<|ZP M<|Zf M<|zS<|zU (ι:={x:Bool // x=true↔memC V.kind (V.l.drop k1)}) ⟨false,⟨fun h=>(by cases h),fun ⟨h,_⟩=>absurd h g6⟩⟩ (O4 M) Jz
  obtain⟨x,hx⟩:=x;dsimp only;refine zT M (fun h35=>?_) (fun h35=>?_)
  ·rw[Ah (hx.1 h35)] at hr;have hi43:=(hx.1 h35).2.1;refine zX<|zZ<|Zm M M<|tI (val:=fun b=>.bool b) (r:=.ok (isA [43] (V.l.drop k1),pD [43] (V.l.drop k1))) V bp 2 .none M  (by kernel_rfl) M M (fun w w' hw h=>(Kk hw).trans h) (fun w hw=>sJ V [43] bp k1 A1 hp1 w (HpG.blkL (j:=2) hw M) (HpG.x hw)) (fun c hc=>nomatch hc) (fun b1 l2 k2 A2 h2 hp2 hl2=>?_);cases h2;rw[qP hi43] at hl2;rw[hl2] at hr;refine ZX<|Z4r 0 2 3 35 M<|Zm M M<|tI (val:=fun r=>.int .i64 r) (r:=rgA V.kind (V.l.drop k2)) V bp 2 .none M  (by kernel_rfl) M M (fun w w' hw h=>(Kk hw).trans h) (fun w hw=>register_any V bp k2 A2 hp2 w (HpG.blkL (j:=2) hw M) (HpG.x hw)) (fun c hc=>zO<|zO<|xZ (fun w hw=>⟨hw,by rw[hr,hc];rfl⟩)) (fun r2 l3 k3 A3 h3 hp3 hl3=>?_);rw[h3] at hr
   have hr:sB V.kind (V.l.drop k)=if isA [42] l3 then yG (xH 48 (l3.drop 1)) fun u=>match pM u.1.n with
       | some c=>vA ⟨109,r1,[],0,r2,c⟩ u.2
       | none=>.error 20
      else vA ⟨109,r1,[],0,r2,0⟩ l3:=hr
   subst hl3;refine ZF M (zY (off:=4) (sz:=0) M U100 (by kernel_rfl) M) ?_;refine ZS 0 M<|ZX<|Z4r 0 2 3 35 M<|Zm M M<|tI (val:=fun b=>.bool b) (r:=.ok (isA [42] (V.l.drop k3),pD [42] (V.l.drop k3))) V bp 2 .none M  (by kernel_rfl) M M (fun w w' hw h=>(Kk hw).trans h) (fun w hw=>sJ V [42] bp k3 A3 hp3 w (HpG.blkL (j:=2) hw M) (HpG.x hw)) (fun c hc=>nomatch hc) (fun b2' l4 k4 A4 h4 hp4 hl4=>?_);cases h4;refine ZT<|zT M (fun h42=>?_) (fun h42=>?_)
   ·rw[Ah h42] at hr;rw[qP h42] at hl4;rw[hl4] at hr;refine zX<|Z5r 0 2 3 35 42 M<|zA .none M (rO) fun b44=>yP .none (rI 0 M M M M Tryz.underlying242 Tryz.underlying22 M) fun _=>yP .none (rI 0 M M M M Tryz.underlying242 Tryz.underlying22 M) fun _=>yP .none (rI 0 M M M M Tryz.underlying242 Tryz.underlying22 M) fun _=>yP .none (rI 0 M M M M Tryz.underlying242 Tryz.underlying22 M) fun _=>Zm M M<|Zm M M<|tI (val:=fun t=>.agg (tkC t).toArray) (r:=xH 48 (V.l.drop k4)) V bp 3 .none M  (by kernel_rfl) M M (fun w w' hw h=>(Kk hw).trans h) (fun w hw=>sL V 48 bp k4 A4 hp4 w (HpG.blkL (j:=3) hw M) (HpG.x hw)) (fun c hc=>zO<|zO<|xZ (fun w hw=>⟨hw,by rw[hr,hc];rfl⟩)) (fun t5 l5 k5 A5 h5 hp5 hl5=>?_);rw[h5] at hr
    have hr:sB V.kind (V.l.drop k)=match pM t5.n with
        | some c=>vA ⟨109,r1,[],0,r2,c⟩ l5
        | none=>.error 20:=hr
    subst hl5;refine ZF M (tQ (off:=2) (ft:=22) M U178 (by kernel_rfl) U22 M M) ?_;refine ZF M (yf_lookupK (c:=4) (es:=scaE.toArray) (z:=.int .i64 0) (r:=scaI t5.n) M M (fun w hw=>HpG.blkL (j:=0) hw M) Tryz.underlying242 Tryz.underlying22 Tryz.zeroValue3 (sca_find _)) ?_;rw[(sca_I t5.n).1,(sca_I t5.n).2];refine Zm M M<|ZF M (zC M M)<|ZF M (zC M M)<|Za M M<|Za M M<|ZX<|zX<|Z7r 0 2 3 4 5 35 42 M<|Zm M M<|ZF M (xO M)<|ZT<|zT M (fun h53=>?_) (fun h53=>?_)
    ·have hs5:pM t5.n=none:=by cases hs:pM t5.n with|none=>rfl|some c=>rw[hs] at h53;simp at h53
     rw[hs5] at hr;refine Z8r 0 2 3 4 5 35 42 53 M<|ZF M (xA M U25)<|wL .none M<|zO<|zO<|xZ fun w hw=>⟨Kk hw,by rw[hr];rfl⟩
    skip;obtain⟨c5,hs5⟩:∃c,pM t5.n=some c:=by cases hs:pM t5.n with|none=>rw[hs] at h53;simp at h53|some c=>exact⟨c,rfl⟩
    rw[hs5] at hr ⊢;refine zR<|zV<|Z8r 0 2 3 4 5 35 42 53 M<|Zm M M<|ZF M (zY (off:=5) (sz:=0) M U100 (by kernel_rfl) M) ?_;refine ZS 1 M<|zS<|zU (ι:={i:MmS // PAt V i.k i.A∧sB V.kind (V.l.drop k)=vA i.o (V.l.drop i.k)∧i.o.n=0}) ⟨⟨⟨109,r1,[],0,r2,c5⟩,k5,A5⟩,hp5,hr,rfl⟩ (O3 M) (fun w h=>Hp.drop h (.cons _ (.refl _)) (.refl _))
   skip;rw[h42,Ag (by simp)] at hr;rw[skipA_f h42] at hl4;rw[hl4] at hr;refine zR<|zU (ι:={i:MmS // PAt V i.k i.A∧sB V.kind (V.l.drop k)=vA i.o (V.l.drop i.k)∧i.o.n=0}) ⟨⟨⟨109,r1,[],0,r2,0⟩,k4,A4⟩,hp4,hr,rfl⟩ (O3 M) Jz
  skip;rw[Ag (fun h=>by rw[hx.2 h] at h35;cases h35)] at hr;refine zR<|zU (ι:={i:MmS // PAt V i.k i.A∧sB V.kind (V.l.drop k)=vA i.o (V.l.drop i.k)∧i.o.n=0}) ⟨⟨⟨109,r1,[],0,-1,0⟩,k1,A1⟩,hp1,hr,rfl⟩ (O3 M) Jz
 obtain⟨⟨o,k1,A1⟩,hp1,hr,hn0⟩:=i;dsimp only at hp1 hr hn0 ⊢;rw[tailA_eq] at hr;refine zB (ι:={i:Nat×Nat×Option Addr // PAt V i.2.1 i.2.2∧sB V.kind (V.l.drop k)=if isA [93] (V.l.drop i.2.1) then .ok ({ o with n:=i.1 },(V.l.drop i.2.1).drop 1) else .error 20}) (fun _=>[(0,.pointer (some ⟨bp,0,none⟩)),(2,Jx b2),(3,Jx b3)]) (fun i=>Hp (fun j=>j=bp) w_0 [(b3,aoO { o with n:=i.1.1 }),(b2,aoO uN),(bp,pO V i.1.2.1 i.1.2.2)] [] (TkX V)) ?_ (fun i=>?_)
 ·refine zJ<|zX<|zZ<|Zm M M<|tI (val:=fun b=>.bool b) (r:=.ok (isA [43] (V.l.drop k1),pD [43] (V.l.drop k1))) V bp 2 .none M  (by kernel_rfl) M M (fun w w' hw h=>(Kk hw).trans h) (fun w hw=>sJ V [43] bp k1 A1 hp1 w (HpG.blkL (j:=2) hw M) (HpG.x hw)) (fun c hc=>nomatch hc) (fun b1 l2 k2 A2 h2 hp2 hl2=>?_);cases h2;refine Za M M<|ZT<|zT M (fun h57=>?_) (fun h57=>?_)
  ·rw[Ah h57] at hr;rw[qP h57] at hl2;rw[hl2] at hr;refine Z4r 0 2 3 57 M<|Zm M M<|tI (val:=fun t=>.agg (tkC t).toArray) (r:=xH 48 (V.l.drop k2)) V bp 2 .none M  (by kernel_rfl) M M (fun w w' hw h=>(Kk hw).trans h) (fun w hw=>sL V 48 bp k2 A2 hp2 w (HpG.blkL (j:=2) hw M) (HpG.x hw)) (fun c hc=>yX<|zO<|xZ (fun w hw=>⟨hw,by rw[hr,hc];rfl⟩)) (fun t3 l3 k3 A3 h3 hp3 hl3=>?_);rw[h3] at hr;have hr:sB V.kind (V.l.drop k)=if isA [93] l3 then .ok ({ o with n:=t3.n },l3.drop 1) else .error 20:=hr;subst hl3;refine ZF M (tQ (off:=2) (ft:=22) M U178 (by kernel_rfl) U22 M M) ?_;refine ZF M (Y100x3 M) ?_;refine ZS 0 M<|zS<|zH<|zU (ι:={i:Nat×Nat×Option Addr // PAt V i.2.1 i.2.2∧sB V.kind (V.l.drop k)=if isA [93] (V.l.drop i.2.1) then .ok ({ o with n:=i.1 },(V.l.drop i.2.1).drop 1) else .error 20}) ⟨(t3.n,k3,A3),hp3,hr⟩ (O3 M) Jz
  skip;rw[h57,Ag (by simp)] at hr;rw[skipA_f h57] at hl2;rw[hl2] at hr;refine zX<|Z4r 0 2 3 57 M<|Zm M M<|tI (val:=fun b=>.bool b) (r:=.ok (isA [45] (V.l.drop k2),pD [45] (V.l.drop k2))) V bp 2 .none M  (by kernel_rfl) M M (fun w w' hw h=>(Kk hw).trans h) (fun w hw=>sJ V [45] bp k2 A2 hp2 w (HpG.blkL (j:=2) hw M) (HpG.x hw)) (fun c hc=>nomatch hc) (fun b1 l3 k3 A3 h3 hp3 hl3=>?_);cases h3;refine Za M M<|ZT<|zT M (fun h64=>?_) (fun h64=>?_)
  ·rw[Ah h64] at hr;rw[qP h64] at hl3;rw[hl3] at hr;refine Z5r 0 2 3 57 64 M<|Zm M M<|tI (val:=fun t=>.agg (tkC t).toArray) (r:=xH 48 (V.l.drop k3)) V bp 2 .none M  (by kernel_rfl) M M (fun w w' hw h=>(Kk hw).trans h) (fun w hw=>sL V 48 bp k3 A3 hp3 w (HpG.blkL (j:=2) hw M) (HpG.x hw)) (fun c hc=>yX<|zO<|xZ (fun w hw=>⟨hw,by rw[hr,hc];rfl⟩)) (fun t4 l4 k4 A4 h4 hp4 hl4=>?_);have ht4:=hV t4 (List.mem_of_mem_drop (oB h4));rw[h4] at hr;have hr:sB V.kind (V.l.drop k)=if isA [93] l4 then .ok ({ o with n:=negA t4.n },l4.drop 1) else .error 20:=hr;subst hl4;refine ZF M (tQ (off:=2) (ft:=22) M U178 (by kernel_rfl) U22 M M) ?_;refine ZF M (yf_neg M (neg_wrap _ ht4))<|ZF M (Y100x3 M) ?_;refine ZS 0 M<|zS<|zH<|zU (ι:={i:Nat×Nat×Option Addr // PAt V i.2.1 i.2.2∧sB V.kind (V.l.drop k)=if isA [93] (V.l.drop i.2.1) then .ok ({ o with n:=i.1 },(V.l.drop i.2.1).drop 1) else .error 20}) ⟨(negA t4.n,k4,A4),hp4,hr⟩ (O3 M) Jz
  skip;rw[h64,Ag (by simp)] at hr;rw[skipA_f h64] at hl3;rw[hl3] at hr;refine zR<|zH<|zU (ι:={i:Nat×Nat×Option Addr // PAt V i.2.1 i.2.2∧sB V.kind (V.l.drop k)=if isA [93] (V.l.drop i.2.1) then .ok ({ o with n:=i.1 },(V.l.drop i.2.1).drop 1) else .error 20}) ⟨(0,k3,A3),hp3,hr⟩ (O3 M) (fun w h=>by dsimp only;rw[ao_n0 hn0];exact h)
 obtain⟨⟨n1,k1,A1⟩,hp1,hr⟩:=i;dsimp only at hp1 hr ⊢;refine zX<|zX<|zZ<|Zm M M<|tI (val:=fun b=>.bool b) (r:=.ok (isA [93] (V.l.drop k1),pD [93] (V.l.drop k1))) V bp 2 .none M  (by kernel_rfl) M M (fun w w' hw h=>(Kk hw).trans h) (fun w hw=>sJ V [93] bp k1 A1 hp1 w (HpG.blkL (j:=2) hw M) (HpG.x hw)) (fun c hc=>nomatch hc) (fun b1 l2 k2 A2 h2 hp2 hl2=>?_);cases h2;refine ZF M (xO M)<|ZT<|zT M (fun h74=>?_) (fun h74=>?_)
 ·have h74':isA [93] (V.l.drop k1)=false:=by simpa using h74
  rw[h74',Ag (by simp)] at hr;refine Z4r 0 2 3 74 M<|ZF M (xA M U25)<|wL .none M<|zO<|xZ fun w hw=>⟨Kk hw,by rw[hr];rfl⟩
 skip;have h74':isA [93] (V.l.drop k1)=true:=by simpa using h74
 rw[Ah h74'] at hr;rw[qP h74'] at hl2;refine zR<|zV<|zX<|Z4r 0 2 3 74 M<|ZF M (Zo 0 M U100 M)<|ZR 1 M<|ZT<|zK<|yS M M 1 M U100 M (by kernel_rfl) fun w hw=>⟨Kk hw,by rw[hr];exact⟨k2,A2,hp2,hl2,rfl,HpG.blkL (j:=2) hw rfl⟩⟩
end Go.Proofs.YtkaepknpplhgkaaGreatDoor
namespace Go.Proofs.YtkaepknpplhgkaaGreatDoor
open Go.RowKit
theorem opA_eq (kind:Int) (l:List ATk):opA kind l =
 if isA [91] l then sB kind (l.drop 1)
 else if isA [45] l then yG (xH 48 (l.drop 1)) fun p=>.ok (⟨118,0,[],negA p.1.n,0,0⟩,p.2)
 else if (∃t,l[0]? = some t∧t.kind=48) then yG (xH 48 l) fun p=>.ok (⟨118,0,[],p.1.n,0,0⟩,p.2)
 else yG (xH 119 l) fun p =>
  if 0≤tR kind p.1.s then .ok (⟨114,tR kind p.1.s,[],0,0,0⟩,p.2)
  else yG (tH p.1.s) fun x=>.ok (⟨118,0,x,0,0,0⟩,p.2):=rfl
def LenX (V:PV):Prop:=∀t∈V.l,t.s.length≤2000000
theorem operand_any (V:PV) (hV:NumX V) (hL:LenX V) (bp k:Nat) (A:Option Addr) (hp:PAt V k A) (w_0:World) (hb:w_0.heap[bp]? = some (pO V k A)) (hX:TkX V w_0) :
  Calls Tryz.prog 117 #[.pointer (some ⟨bp,0,none⟩)] w_0 (PPost V bp w_0 (fun o=>.agg (aoC o).toArray) (opA V.kind (V.l.drop k))):=by
 have hr:=opA_eq V.kind (V.l.drop k);have hbg:=hp.big;unfold maxLen at hbg;have hcp:=hp.cap;unfold PPost;generalize opA V.kind (V.l.drop k)=z at hr ⊢;refine zN (args:=[.pointer (some ⟨bp,0,none⟩)]) Tryz.func117 M 52 M (Kh M)<|Z1 0 M<|zG (H':=Hp (fun j=>j=bp) w_0 [(bp,pO V k A)] [] (TkX V)) (fun u hu=>?_) ?_;subst hu;exact Hp.startV hb hX;refine zX<|zZ<|Zt (z:=.agg #[.int .u8 0,.int .i64 0,.string ⟨#[]⟩,.int .u32 0,.int .i64 0,.int .i64 0]) (cs:=Jk) M fun b2=>ZX<|zJ<|zX<|zZ<|Zm M M<|tI (val:=fun b=>.bool b) (r:=.ok (isA [91] (V.l.drop k),pD [91] (V.l.drop k))) V bp 1 .none M  (by kernel_rfl) M M (fun w w' hw h=>(Kk hw).trans h) (fun w hw=>sJ V [91] bp k A hp w (HpG.blkL (j:=1) hw M) (HpG.x hw)) (fun c hc=>nomatch hc) (fun b1 l1 k1 A1 h1 hp1 hl1=>?_);cases h1;refine Za M M<|ZT<|zT M (fun h5=>?_) (fun h5=>?_)
 ·rw[Ah h5] at hr;rw[qP h5] at hl1;rw[hl1] at hr;refine zX<|Z3r 0 2 5 M<|Zm M M<|tI (val:=fun o=>.agg (aoC o).toArray) (r:=sB V.kind (V.l.drop k1)) V bp 1 .none M  (by kernel_rfl) M M (fun w w' hw h=>(Kk hw).trans h) (fun w hw=>memory_any V hV bp k1 A1 hp1 w (HpG.blkL (j:=1) hw M) (HpG.x hw)) (fun c hc=>zO<|yX<|zO<|xZ (fun w hw=>⟨hw,by rw[hr,hc]⟩)) (fun o2 l2 k2 A2 h2 hp2 hl2=>?_);rw[h2] at hr;refine ZR 0 M<|ZT<|zK<|zM<|zW<|yS M M 0 M U100 M (by kernel_rfl) fun w hw=>⟨Kk hw,by rw[hr];exact⟨k2,A2,hp2,hl2,rfl,HpG.blkL (j:=1) hw rfl⟩⟩
 skip;rw[h5,Ag (by simp)] at hr;rw[skipA_f h5] at hl1;rw[hl1] at hr;refine zX<|Z3r 0 2 5 M<|Zm M M<|tI (val:=fun b=>.bool b) (r:=.ok (isA [45] (V.l.drop k1),pD [45] (V.l.drop k1))) V bp 1 .none M  (by kernel_rfl) M M (fun w w' hw h=>(Kk hw).trans h) (fun w hw=>sJ V [45] bp k1 A1 hp1 w (HpG.blkL (j:=1) hw M) (HpG.x hw)) (fun c hc=>nomatch hc) (fun b1 l2 k2 A2 h2 hp2 hl2=>?_);cases h2;refine Za M M<|ZT<|zT M (fun h10=>?_) (fun h10=>?_)
 ·rw[Ah h10] at hr;rw[qP h10] at hl2;rw[hl2] at hr;refine zX<|Z4r 0 2 5 10 M<|Zm M M<|tI (val:=fun t=>.agg (tkC t).toArray) (r:=xH 48 (V.l.drop k2)) V bp 1 .none M  (by kernel_rfl) M M (fun w w' hw h=>(Kk hw).trans h) (fun w hw=>sL V 48 bp k2 A2 hp2 w (HpG.blkL (j:=1) hw M) (HpG.x hw)) (fun c hc=>zO<|yX<|zO<|xZ (fun w hw=>⟨hw,by rw[hr,hc];rfl⟩)) (fun t3 l3 k3 A3 h3 hp3 hl3=>?_);have ht3:=hV t3 (List.mem_of_mem_drop (oB h3));rw[h3] at hr;refine ZF M (tQ (off:=2) (ft:=22) M U178 (by kernel_rfl) U22 M M) ?_;refine ZF M (yf_neg M (neg_wrap _ ht3))<|ZF M (Zb [.int .u8 0,.int .i64 0,.string ⟨#[]⟩,.int .u32 0,.int .i64 0,.int .i64 0] [(0,1),(1,1),(2,1),(3,1),(4,1),(5,1)] M)<|ZR 0 M<|ZT<|zK<|zM<|zW<|yS M M 0 M U100 M (by kernel_rfl) fun w hw=>⟨Kk hw,by rw[hr];exact⟨k3,A3,hp3,hl3,rfl,HpG.blkL (j:=1) hw rfl⟩⟩
 skip;rw[h10,Ag (by simp)] at hr;rw[skipA_f h10] at hl2;rw[hl2] at hr;have hcp2:=hp2.cap;refine zB (ι:={x:Bool // x=true↔∃t,(V.l.drop k2)[0]? = some t∧t.kind=48}) (fun x=>[(0,.pointer (some ⟨bp,0,none⟩)),(2,Jx b2),(18,.bool x.1)]) (fun i=>Hp (fun j=>j=bp) w_0 [(b2,aoO uN),(bp,pO V k2 A2)] [] (TkX V)) ?_ (fun x=>?_)
 ·refine Z4r 0 2 5 10 M<|Zm M M<|Zn M M<|ZF M (Y176x1 M) ?_;refine Zl 1 M U93 M<|ZF M (yK M U93)<|ZF M (vS M M)<|Zm M M<|zQ 25 M (fun g7=>?_) (fun g7=>?_)
  ·replace g7:=Ki g7;skip;have hk1:k2<V.l.length:=by omega
   obtain⟨t,ht⟩:=hp2.tk' hk1;obtain rfl:=hp2.at_ (by omega);refine Zv M<|ZG M M M (xV M)<|ZG M M M (Y176x1 M) ?_;refine ZG rfl rfl rfl (yU 1 rfl rfl rfl U93 rfl)<|ZG rfl rfl rfl (Zi (j:=0) (es:=3) rfl rfl U93 rfl (by first|omega|simp<;>omega) rfl) ?_;refine ZG M M M (Y178x0 M) ?_;refine ZG M M M (zL M U5 M (fun w hw=>(HpG.x hw) k2 t ht 0 _ M))<|Zx M<|Zh M<|Za M M<|zS<|zU (ι:={x:Bool // x=true↔∃t,(V.l.drop k2)[0]? = some t∧t.kind=48}) ⟨_,⟨fun h=>⟨t,by rw[List.getElem?_drop];exact ht,by have:=Kq h;omega⟩,fun ⟨t',h1,h2⟩=>by rw[List.getElem?_drop,Nat.add_zero,ht] at h1;cases h1;rw[h2];rfl⟩⟩ (O3 M) Jz
  replace g7:=Kj g7;refine ZP M<|ZP M<|ZP M<|ZP M<|ZP M<|ZP M<|ZP M<|ZP M<|Zf M<|Za M M<|zS<|zU (ι:={x:Bool // x=true↔∃t,(V.l.drop k2)[0]? = some t∧t.kind=48}) ⟨false,⟨fun h=>(by cases h),fun ⟨t',h1,h2⟩=>by rw[List.getElem?_drop] at h1;have:=(Kg.1 h1).1;omega⟩⟩ (O3 M) Jz
 obtain⟨x,hx⟩:=x;dsimp only;refine zT M (fun h18=>?_) (fun h18=>?_)
 ·rw[Ah (hx.1 h18)] at hr;refine zX<|zZ<|Zm M M<|tI (val:=fun t=>.agg (tkC t).toArray) (r:=xH 48 (V.l.drop k2)) V bp 1 .none M  (by kernel_rfl) M M (fun w w' hw h=>(Kk hw).trans h) (fun w hw=>sL V 48 bp k2 A2 hp2 w (HpG.blkL (j:=1) hw M) (HpG.x hw)) (fun c hc=>zO<|yX<|zO<|xZ (fun w hw=>⟨hw,by rw[hr,hc];rfl⟩)) (fun t3 l3 k3 A3 h3 hp3 hl3=>?_);rw[h3] at hr;refine ZF M (tQ (off:=2) (ft:=22) M U178 (by kernel_rfl) U22 M M) ?_;refine ZF M (Zb [.int .u8 0,.int .i64 0,.string ⟨#[]⟩,.int .u32 0,.int .i64 0,.int .i64 0] [(0,1),(1,1),(2,1),(3,1),(4,1),(5,1)] M)<|ZR 0 M<|ZT<|zK<|zM<|zW<|yS M M 0 M U100 M (by kernel_rfl) fun w hw=>⟨Kk hw,by rw[hr];exact⟨k3,A3,hp3,hl3,rfl,HpG.blkL (j:=1) hw rfl⟩⟩
 skip;rw[Ag (fun h=>by rw[hx.2 h] at h18;cases h18)] at hr;refine zR<|zH<|zV<|zX<|zZ<|Zm M M<|tI (val:=fun t=>.agg (tkC t).toArray) (r:=xH 119 (V.l.drop k2)) V bp 1 .none M  (by kernel_rfl) M M (fun w w' hw h=>(Kk hw).trans h) (fun w hw=>sL V 119 bp k2 A2 hp2 w (HpG.blkL (j:=1) hw M) (HpG.x hw)) (fun c hc=>zO<|xZ (fun w hw=>⟨hw,by rw[hr,hc];rfl⟩)) (fun t3 l3 k3 A3 h3 hp3 hl3=>?_);have ht3:=hL t3 (List.mem_of_mem_drop (oB h3));rw[h3] at hr;have hr:z=if 0≤tR V.kind t3.s then .ok (⟨114,tR V.kind t3.s,[],0,0,0⟩,l3) else yG (tH t3.s) fun x=>.ok (⟨118,0,x,0,0,0⟩,l3):=hr;refine ZF M (tQ (off:=1) (ft:=9) M U178 (by kernel_rfl) U9 M M) ?_;refine Za M M<|ZX<|zX<|Z4r 0 2 3 18 M<|Zm M M<|Zm M M<|Zu (v:=.int .i64 (tR V.kind t3.s)) M (fun w hw=>reg_any V t3.s bp k3 A3 w (HpG.blkL (j:=1) hw M)) ?_;refine Za M M<|ZX<|Z5r 0 2 3 4 18 M<|Zm M M<|ZF M (yC M M)<|ZT<|zT M (fun h46=>?_) (fun h46=>?_)
 ·replace h46:=Ki h46;rw[Ah h46] at hr;refine zX<|Z6r 0 2 3 4 18 46 M<|Zm M M<|ZF M (Zb [.int .u8 0,.int .i64 0,.string ⟨#[]⟩,.int .u32 0,.int .i64 0,.int .i64 0] [(0,1),(1,1),(2,1),(3,1),(4,1),(5,1)] M)<|ZR 0 M<|ZT<|zK<|zW<|yS M M 0 M U100 M (by kernel_rfl) fun w hw=>⟨Kk hw,by rw[hr];exact⟨k3,A3,hp3,hl3,rfl,HpG.blkL (j:=1) hw rfl⟩⟩
 replace h46:=Kj h46;rw[Ag h46] at hr;refine zR<|zV<|zX<|Z6r 0 2 3 4 18 46 M<|Zm M M ?_;have hnm:=fun w=>name_any t3.s ht3 w;rcases hna:tH t3.s with e9|n9
 ·rw[hna] at hr hnm;refine oE .none (ch:=pan (qK e9)) (H':=fun w'=>Keep (fun j=>j=bp) w_0 w') (by kernel_rfl) M (fun w hw=>(hnm w).mono fun e w' ⟨h1,h2⟩=>⟨h2,(Kk hw).trans (Keep.of_ext h1)⟩) ?_;refine zO<|xZ fun w hw=>⟨hw,by rw[hr];rfl⟩
 skip;rw[hna] at hr hnm;refine Zu (v:=.string ⟨n9.toArray⟩) M (fun w hw=>(hnm w).mono fun e w' ⟨h1,h2⟩=>⟨h2,h1⟩) ?_;refine ZF M (Zb [.int .u8 0,.int .i64 0,.string ⟨#[]⟩,.int .u32 0,.int .i64 0,.int .i64 0] [(0,1),(1,1),(2,1),(3,1),(4,1),(5,1)] M)<|ZR 0 M<|ZT<|zK<|yS M M 0 M U100 M (by kernel_rfl) fun w hw=>⟨Kk hw,by rw[hr];exact⟨k3,A3,hp3,hl3,rfl,HpG.blkL (j:=1) hw rfl⟩⟩
end Go.Proofs.YtkaepknpplhgkaaGreatDoor
namespace Go.Proofs.YtkaepknpplhgkaaGreatDoor
open Go.RowKit
structure TkOk (t:ATk):Prop where
 n:t.n<4294967296
 len:t.s.length≤2000000
theorem yL {α β:Type}{x:Except Nat α}{f:α→Except Nat β}{b:β}(h:yG x f=.ok b):∃a,x=.ok a∧f a=.ok b:=by
 cases x with
 | ok a=>exact⟨a,rfl,h⟩
 | error e=>cases h
theorem numA_lt {s:Bs}{n:Nat}(h:pJ s=.ok n):n<4294967296:=by
 rw[numA_eq] at h
 split at h
 ·split at h
  ·cases h
  ·cases h;omega
 ·cases h
theorem lexD_tk:∀(k:Nat) (s:Bs),s.length<k→s.length≤2000000→∀l,vV s=.ok l→∀t∈l,TkOk t
 | 0,_,h,_,_,_,_,_=>absurd h (by omega)
 | k+1,[],_,_,l,h,t,ht=>by rw[nP] at h;cases h;cases ht
 | k+1,c::r,h,hl,l,he,t,ht=>by
  have hlen:(c::r).length=r.length+1:=rfl;have htw:∀{p:UInt8→Bool},((c::r).takeWhile p).length≤r.length+1:=fun {p}=>(List.takeWhile_sublist p).length_le;rw[nO] at he
  split at he
  exact lexD_tk k r (by omega) (by omega) l he t ht
  split at he
  ·next hw =>
   obtain⟨l',h1,h2⟩:=yL he;cases h2
   have h0:1≤((c::r).takeWhile wF).length:=by
    have:wF c=true:=by
     unfold wF;rcases hw with h|h|h;rw[h];rfl;subst h;rfl;subst h;rfl
    rw[List.takeWhile_cons,Ah this];simp
   rcases List.mem_cons.1 ht with rfl|ht;exact⟨by show 0<_;omega,by have:=htw (p:=wF);show ((c::r).takeWhile wF).length≤_;omega⟩;exact lexD_tk k _ (by rw[Kw];omega) (by rw[Kw];omega) l' h1 t ht
  split at he
  ·next hd =>
   obtain⟨n,hn,he⟩:=yL he;obtain⟨l',h1,h2⟩:=yL he;cases h2
   have h0:1≤((c::r).takeWhile tZ).length:=by
    rw[List.takeWhile_cons,Ah (by unfold tZ;rw[hd];simp)];simp
   rcases List.mem_cons.1 ht with rfl|ht;exact⟨numA_lt hn,by show 0≤_;omega⟩;exact lexD_tk k _ (by rw[Kw];omega) (by rw[Kw];omega) l' h1 t ht
  split at he
  ·obtain⟨l',h1,h2⟩:=yL he;cases h2;rcases List.mem_cons.1 ht with rfl|ht;exact⟨by show 0<_;omega,by show 1≤_;omega⟩;exact lexD_tk k r (by omega) (by omega) l' h1 t ht
  ·cases he
structure OpR (o:AOp):Prop where
 n:o.n<4294967296
 r0:0≤o.r
 r:o.r<16
 i0:-1≤o.index
 i:o.index<16
 s0:0≤o.scale
 s:o.scale≤3
 k:o.kind=109∨o.kind=114∨o.kind=118
theorem regG_rng (s:Bs):∀(f i:Nat),i+f≤16→-1≤regG s f i∧regG s f i<16
 | 0,i,_=>by show -1≤(-1:Int)∧(-1:Int)<16;omega
 | f+1,i,h=>by
  rw[regG_step]
  split
  omega;exact regG_rng s f (i+1) (by omega)
theorem regA_rng (kind:Int) (s:Bs):-1≤tR kind s∧tR kind s<16:=regG_rng s _ _ (by unfold tG;split<;>omega)
theorem rgA_ok {kind:Int}{l l':List ATk}{r:Int}(h:rgA kind l=.ok (r,l')):0≤r∧r<16∧∃t,t∈l∧l'=l.drop 1:=by
 obtain⟨⟨t,l1⟩,h1,h2⟩:=yL h;have hm:=oB h1
 have h3:l1=l.drop 1:=by
  cases l with
  | nil=>cases h1
  | cons x l=>rw[rU] at h1;split at h1<;>cases h1;rfl
 dsimp only at h2
 split at h2
 ·cases h2
 ·cases h2;have:=regA_rng kind t.s;exact⟨by omega,by omega,t,hm,h3⟩
theorem vY {kd:Nat}{l l':List ATk}{t:ATk}(h:xH kd l=.ok (t,l')):t∈l∧l'=l.drop 1:=by
 refine⟨oB h,?_⟩
 cases l with
 | nil=>cases h
 | cons x l=>rw[rU] at h;split at h<;>cases h;rfl
theorem negA_lt (n:Nat):negA n<4294967296:=Nat.mod_lt _ (by omega)
theorem xJ {l:List ATk}{P:ATk→Prop}(h:∀t∈l,P t) (k:Nat):∀t∈l.drop k,P t:=fun t ht=>h t (List.mem_of_mem_drop ht)
theorem tailA_ok {o o':AOp}{l l':List ATk}(hl:∀t∈l,TkOk t) (h:vA o l=.ok (o',l')):∃n,n<4294967296∧o'={ o with n:=n }:=by
 rw[tailA_eq] at h;obtain⟨⟨n,l1⟩,h1,h2⟩:=yL h;dsimp only at h2
 split at h2
 ·cases h2;refine⟨n,?_,rfl⟩
  split at h1
  ·obtain⟨⟨t,l2⟩,h3,h4⟩:=yL h1;cases h4;exact (xJ hl 1 t (vY h3).1).n
  split at h1
  ·obtain⟨⟨t,l2⟩,h3,h4⟩:=yL h1;cases h4;exact negA_lt _
  ·cases h1;omega
 ·cases h2
theorem scaA_rng {n:Nat}{c:Int}(h:pM n=some c):0≤c∧c≤3:=by
 unfold pM at h
 split at h
 ·cases h;omega
 split at h
 ·cases h;omega
 split at h
 ·cases h;omega
 split at h
 ·cases h;omega
 ·cases h
theorem memA_ok {kind:Int}{l l':List ATk}{o:AOp}(hl:∀t∈l,TkOk t) (h:sB kind l=.ok (o,l')):OpR o:=by
 rw[memA_eq] at h;obtain⟨⟨r1,l1⟩,h1,h⟩:=yL h;obtain⟨a1,a2,_,_,rfl⟩:=rgA_ok h1;have hl1:=xJ hl 1;dsimp only at h
 split at h
 ·obtain⟨⟨r2,l2⟩,h2,h⟩:=yL h;obtain⟨b1,b2,_,_,rfl⟩:=rgA_ok h2;have hl2:=xJ (xJ hl1 1) 1;dsimp only at h
  split at h
  ·obtain⟨⟨t,l3⟩,h3,h⟩:=yL h;obtain⟨_,rfl⟩:=vY h3;dsimp only at h
   split at h
   ·next c hc =>
    have:=scaA_rng hc;obtain⟨n,hn,rfl⟩:=tailA_ok (xJ (xJ hl2 1) 1) h;exact⟨hn,a1,a2,by dsimp only;omega,by dsimp only;omega,this.1,this.2,.inl rfl⟩
   ·cases h
  obtain⟨n,hn,rfl⟩:=tailA_ok hl2 h;exact⟨hn,a1,a2,by dsimp only;omega,by dsimp only;omega,by dsimp only;omega,by dsimp only;omega,.inl rfl⟩
 obtain⟨n,hn,rfl⟩:=tailA_ok hl1 h;exact⟨hn,a1,a2,by dsimp only;omega,by dsimp only;omega,by dsimp only;omega,by dsimp only;omega,.inl rfl⟩
theorem opA_ok {kind:Int}{l l':List ATk}{o:AOp}(hl:∀t∈l,TkOk t) (h:opA kind l=.ok (o,l')):OpR o:=by
 rw[opA_eq] at h
 split at h
 exact memA_ok (xJ hl 1) h
 split at h
 ·obtain⟨⟨t,l1⟩,h1,h⟩:=yL h;cases h;exact⟨negA_lt _,by dsimp only;omega,by dsimp only;omega,by dsimp only;omega,by dsimp only;omega,by dsimp only;omega,by dsimp only;omega,.inr (.inr M)⟩
 split at h
 ·obtain⟨⟨t,l1⟩,h1,h⟩:=yL h;cases h;exact⟨(hl t (vY h1).1).n,by dsimp only;omega,by dsimp only;omega,by dsimp only;omega,by dsimp only;omega,by dsimp only;omega,by dsimp only;omega,.inr (.inr M)⟩
 obtain⟨⟨t,l1⟩,h1,h⟩:=yL h;have:=regA_rng kind t.s;dsimp only at h
 split at h
 ·cases h;exact⟨by dsimp only;omega,by dsimp only;omega,by dsimp only;omega,by dsimp only;omega,by dsimp only;omega,by dsimp only;omega,by dsimp only;omega,.inr (.inl M)⟩
 obtain⟨x,h2,h⟩:=yL h;cases h;exact⟨by dsimp only;omega,by dsimp only;omega,by dsimp only;omega,by dsimp only;omega,by dsimp only;omega,by dsimp only;omega,by dsimp only;omega,.inr (.inr M)⟩
def needS:KSel→Nat
 | .always _=>0
 | _=>2
def needF:KFil→Nat
 | .nothing=>0
 | .second=>2
 | .value=>1
 | .control=>2
 | .target=>1
 | .memory=>2
def FitA (f:AFm) (l:List AOp):Prop:=match f with
 | .byte|.word=>True
 | .zero=>l.length=1
 | .k sel fil=>needS sel≤l.length∧needF fil≤l.length
 | .q op=>0≤op∧xR l=rS op.toNat
def fitS (f:AFm) (sh:Bs):Bool:=match f with
 | .byte|.word=>true
 | .zero=>decide (sh.length=1)
 | .k sel fil=>decide (needS sel≤sh.length)&&decide (needF fil≤sh.length)
 | .q op=>decide (0≤op)&&decide (sh=rS op.toNat)
def lastW (x:Bs):Bs:=(x.reverse.takeWhile fun c=>!decide (c=32)).reverse
theorem lastW_is (a:Bs) {b:Bs}(h:∀c∈b,c≠32):lastW (a++32::b)=b:=by
 unfold lastW;rw[List.reverse_append,List.reverse_cons,Kv,takeW7 (fun c hc=>by rw[Ao (h c (List.mem_reverse.1 hc))];rfl) (fun c t e=>by cases e;rfl),List.reverse_reverse]
theorem fit_K:xS.all (fun p=>fitS p.2 (lastW p.1))=true:=by decide
theorem fit_Q:oJ.all (fun p=>fitS p.2 (lastW p.1))=true:=by decide
theorem qG {k:Bs}{l:List (Bs×AFm)}{f:AFm}(h:wR k l=some f):(k,f)∈l:=by
 induction l with
 | nil=>cases h
 | cons p l ih =>
  obtain⟨x,v⟩:=p
  by_cases hx:k=x
  rw[wR,Ah hx] at h;cases h;subst hx;exact Ks ..;rw[wR,Ag hx] at h;exact Ky _ (ih h)
theorem shpA_len (l:List AOp):(xR l).length=l.length:=Ak ..
theorem shpA_sp {l:List AOp}(h:∀o∈l,OpR o):∀c∈xR l,c≠32:=fun c hc=>by
 obtain⟨o,ho,rfl⟩:=List.mem_map.1 hc;rcases (h o ho).k with e|e|e<;>rw[e]<;>decide
theorem findA_fit {kind:Int}{op:Bs}{l:List AOp}{f:AFm}(h:∀o∈l,OpR o) (hf:wI kind op (xR l) l.length=some f):FitA f l:=by
 unfold wI at hf
 cases hd:qI op with
 | some g =>
  rw[hd] at hf;dsimp only at hf
  split at hf
  ·cases hf
  ·next hn =>
   cases hf;unfold qI at hd
   split at hd
   ·cases hd;trivial
   split at hd
   ·cases hd;trivial
   split at hd
   ·next hz=>cases hd;show l.length=1;exact Classical.byContradiction fun h1=>hn (.inr (.inr ⟨hz,h1⟩))
   ·cases hd
 | none =>
  rw[hd] at hf;dsimp only at hf;have hm:=qG hf
  have hs:fitS f (xR l)=true:=by
   rw[← lastW_is op (shpA_sp h)]
   split at hm
   exact List.all_eq_true.1 fit_Q _ hm;exact List.all_eq_true.1 fit_K _ hm
  cases f with
  | byte=>trivial
  | word=>trivial
  | zero=>have:=Ki hs;rw[shpA_len] at this;exact this
  | k sel fil =>
   simp only[fitS,Ab,Af,shpA_len] at hs;exact hs
  | q op =>
   simp only[fitS,Ab,Af] at hs;exact hs
end Go.Proofs.YtkaepknpplhgkaaGreatDoor
