/- The reference's check of programs, plainly, and that it is the program's. -/
import Derived.Test.YtfpkpnkdnammnaaGreatDoorMgw
import Derived.Test.YtfpkpnkdnammnaaGreatDoorMgO
import Derived.Test.YtfpkpnkdnammnaaGreatDoorLwZ
import Derived.Test.YtfpkpnkdnammnaaGreatDoorMgU
namespace Go.Proofs.YtfpkpnkdnammnaaGreatDoor
mutual
def stDp:St→Nat
 | .mk _ _ _ b c=>1+max (stDps b) (stDps c)
def stDps:List St→Nat
 | []=>0
 | x::l=>max (stDp x) (stDps l)
end
mutual
def stXd:St→Nat
 | .mk _ _ es b c=>max (max (stXds b) (stXds c)) (exDs es)
def stXds:List St→Nat
 | []=>0
 | x::l=>max (stXd x) (stXds l)
end
mutual
theorem stBad_iff:∀(x:St) (d:Nat),1≤d→(stBad d x=true↔8<d-1+stDp x∨8<stXd x)
 | .mk k s es b c,d,hd=>by
  have h1:=stsBad_iff b (d+1) (by omega);have h2:=stsBad_iff c (d+1) (by omega);simp only[stBad,Bool.or_eq_true,decide_eq_true_eq,h1,h2,stDp,stXd];omega
theorem stsBad_iff:∀(l:List St) (d:Nat),1≤d→(stsBad d l=true↔(0<stDps l∧8<d-1+stDps l)∨8<stXds l)
 | [],d,hd=>by simp[stsBad,stDps,stXds]
 | x::l,d,hd=>by
  have h1:=stBad_iff x d hd;have h2:=stsBad_iff l d hd;have h3:1≤stDp x:=by cases x;simp only[stDp];omega
  simp only[stsBad,Bool.or_eq_true,h1,h2,stDps,stXds];omega
end
theorem stsBad1 (l:List St):stsBad 1 l=true↔8<stDps l∨8<stXds l:=by
 rw[stsBad_iff l 1 (Nat.le_refl _)];omega
def orE (a b:Nat):Nat:=if a≠0 then a else b
theorem failC_or (e a b:Nat):wX (wX e a) b=wX e (orE a b):=by
 unfold wX orE
 by_cases h:e=0
 ·subst h;by_cases h2:a=0<;>simp[h2]
 ·simp[h]
mutual
def rkE (fs:List Fn) (nm:List Bs):Ex→Nat
 | .mk k _ s kids=>if k=2∧s∉nm then 21 else if k=3∧wK fs s<0 then 21 else if k=3∧(fs.getD (wK fs s).toNat tM).params.length≠kids.length then 23 else rkEs fs nm kids
def rkEs (fs:List Fn) (nm:List Bs):List Ex→Nat
 | []=>0
 | x::l=>orE (rkE fs nm x) (rkEs fs nm l)
end
mutual
theorem erE_rk (fs:List Fn) (nm:List Bs):∀(x:Ex) (e:Nat),erE fs nm x e=wX e (rkE fs nm x)
 | .mk k n s kids,e=>by
  have h:=erEs_rk fs nm kids;rw[erE,rkE,h]
  by_cases h2:k=2
  ·subst h2
   by_cases hm:s∈nm
   ·simp[hm]
   ·simp[hm,wX];split<;>simp_all
  ·by_cases h3:k=3
   ·subst h3
    by_cases hf:wK fs s<0
    ·simp[hf,wX];split<;>simp_all
    ·by_cases hp:(fs.getD (wK fs s).toNat tM).params.length≠kids.length
     ·rw[if_neg h2,if_pos rfl,if_neg hf,if_pos hp,if_neg (by simp),if_neg (by simp[hf]),if_pos ⟨rfl,hp⟩];simp[wX];split<;>simp_all
     ·rw[if_neg h2,if_pos rfl,if_neg hf,if_neg hp,if_neg (by simp),if_neg (by simp[hf]),if_neg (by simp only[true_and];exact hp)]
   ·rw[if_neg h2,if_neg h3,if_neg (by simp[h2]),if_neg (by simp[h3]),if_neg (by simp[h3])]
theorem erEs_rk (fs:List Fn) (nm:List Bs):∀(l:List Ex) (e:Nat),erEs fs nm l e=wX e (rkEs fs nm l)
 | [],e=>by rw[erEs,rkEs];unfold wX;split<;>simp_all
 | x::l,e=>by rw[erEs,rkEs,erEs_rk fs nm l,erE_rk fs nm x,failC_or]
end
mutual
def rkS (fs:List Fn):St→List Bs→List Bs×Nat
 | .mk k s es b c,nm =>
  if k=2∧s∉nm then (nm,21)
  else if k=1∧s∈nm then (nm,orE (rkEs fs nm es) 22)
  else if rkEs fs nm es≠0 then (nm,rkEs fs nm es)
  else if (rkB fs b (if k=1 then nm++[s] else nm)).2≠0 then rkB fs b (if k=1 then nm++[s] else nm)
  else rkB fs c (rkB fs b (if k=1 then nm++[s] else nm)).1
def rkB (fs:List Fn):List St→List Bs→List Bs×Nat
 | [],nm=>(nm,0)
 | x::l,nm=>if (rkS fs x nm).2≠0 then rkS fs x nm else rkB fs l (rkS fs x nm).1
end
theorem tU {e a:Nat} (h:e≠0):wX e a=e:=by unfold wX;rw[if_neg h]
theorem failC_zero (a:Nat):wX 0 a=a:=rfl
theorem failC_nz (e a:Nat):wX e 0=e:=by unfold wX;split<;>simp_all
mutual
theorem ckS_stick (fs:List Fn):∀(x:St) (nm:List Bs) (e:Nat),e≠0→(ckS fs x (nm,e)).2=e
 | .mk k s es b c,nm,e,he=>by
  have hb:=fun nm=>ckB_stick fs b nm e he;have hc:=fun nm=>ckB_stick fs c nm e he;rw[ckS];dsimp only
  have h1:erEs fs nm es (if k=2∧s∉nm then wX e 21 else e)=e:=by
   rw[erEs_rk,tU he];split<;>exact tU he
  rw[h1]
  have h2:∀p:List Bs×Nat,p.2=e→(ckB fs c (ckB fs b p)).2=e:=by
   rintro⟨p1,p2⟩ rfl
   have:=hb p1;obtain⟨q1,q2⟩:∃q:List Bs×Nat,ckB fs b (p1,p2)=q:=⟨_,rfl⟩;rw[q2];obtain⟨r1,r2⟩:=q1;have hr:r2=p2:=by rw[q2] at this;exact this
   subst hr;exact hc r1
  refine h2 _ ?_
  split
  ·unfold wQ;dsimp only;split
   ·exact tU he
   ·rfl
  ·rfl
theorem ckB_stick (fs:List Fn):∀(l:List St) (nm:List Bs) (e:Nat),e≠0→(ckB fs l (nm,e)).2=e
 | [],nm,e,he=>by rw[ckB]
 | x::l,nm,e,he=>by
  rw[ckB];have:=ckS_stick fs x nm e he;obtain⟨⟨r1,r2⟩,hq⟩:∃q:List Bs×Nat,ckS fs x (nm,e)=q:=⟨_,rfl⟩;rw[hq] at this ⊢;have hr:r2=e:=this;subst hr;exact ckB_stick fs l r1 r2 he
end
theorem vE (fs:List Fn) (l:List St) (p:List Bs×Nat) (h:p.2≠0):(ckB fs l p).2=p.2:=ckB_stick fs l p.1 p.2 h
mutual
theorem ckS_rk (fs:List Fn):∀(x:St) (nm:List Bs),(ckS fs x (nm,0)).2=(rkS fs x nm).2∧((rkS fs x nm).2=0→ckS fs x (nm,0)=rkS fs x nm)
 | .mk k s es b c,nm=>by
  have hb:=ckB_rk fs b;have hc:=ckB_rk fs c
  have stick:∀p:List Bs×Nat,p.2≠0→(ckB fs c (ckB fs b p)).2=p.2:=fun p h=>by
   rw[vE fs c _ (by rw[vE fs b p h];exact h),vE fs b p h]
  rw[ckS,rkS];dsimp only;rw[erEs_rk]
  by_cases h1:k=2∧s∉nm
  ·rw[if_pos h1,if_neg (by omega),if_pos h1,failC_zero,tU (by omega)];exact⟨stick (nm,21) (by simp),fun h=>by simp at h⟩
  rw[if_neg h1,if_neg h1,failC_zero]
  by_cases h2:k=1∧s∈nm
  ·rw[if_pos h2,if_pos h2.1]
   have hd:(wQ (nm,rkEs fs nm es) s).2=orE (rkEs fs nm es) 22:=by
    unfold wQ orE wX;simp only[h2.2,if_true];split<;>simp_all
   have hn:orE (rkEs fs nm es) 22≠0:=by unfold orE;split<;>simp_all
   exact⟨by rw[stick _ (by rw[hd];exact hn),hd],fun h=>absurd h hn⟩
  rw[if_neg h2]
  by_cases h3:rkEs fs nm es≠0
  ·rw[if_pos h3];have hd:∀p:List Bs×Nat,p.2=rkEs fs nm es→(ckB fs c (ckB fs b p)).2=rkEs fs nm es:=fun p hp=>by rw[stick p (by rw[hp];exact h3),hp]
   refine⟨hd _ ?_,fun h=>absurd h h3⟩
   split
   ·unfold wQ wX;dsimp only;split
    ·first|rfl|rw[if_neg h3]
    ·rfl
   ·rfl
  rw[if_neg h3];have h30:rkEs fs nm es=0:=by omega
  rw[h30]
  have he:(if k=1 then wQ (nm,0) s else (nm,0))=((if k=1 then nm++[s] else nm),0):=by
   split
   ·next hk=>unfold wQ;rw[if_neg (fun hm=>h2 ⟨hk,hm⟩)]
   ·rfl
  rw[he];generalize (if k=1 then nm++[s] else nm)=nm1;obtain⟨b1,b2⟩:=hb nm1
  by_cases h4:(rkB fs b nm1).2≠0
  ·rw[if_pos h4];exact⟨by rw[vE fs c _ (by rw[b1];exact h4),b1],fun h=>absurd h h4⟩
  rw[if_neg h4];have h40:(rkB fs b nm1).2=0:=by omega
  rw[b2 h40];obtain⟨c1,c2⟩:=hc (rkB fs b nm1).1;have hp:rkB fs b nm1=((rkB fs b nm1).1,0):=by rw[← h40]
  rw[hp];exact⟨c1,c2⟩
theorem ckB_rk (fs:List Fn):∀(l:List St) (nm:List Bs),(ckB fs l (nm,0)).2=(rkB fs l nm).2∧((rkB fs l nm).2=0→ckB fs l (nm,0)=rkB fs l nm)
 | [],nm=>by rw[ckB,rkB];exact⟨rfl,fun _=>rfl⟩
 | x::l,nm=>by
  obtain⟨x1,x2⟩:=ckS_rk fs x nm;rw[ckB,rkB]
  by_cases h:(rkS fs x nm).2≠0
  ·rw[if_pos h];exact⟨by rw[vE fs l _ (by rw[x1];exact h),x1],fun h'=>absurd h' h⟩
  ·rw[if_neg h];have h0:(rkS fs x nm).2=0:=by omega
   rw[x2 h0,show rkS fs x nm=((rkS fs x nm).1,0) by rw[← h0]];exact ckB_rk fs l _
end
/-! ### Functions -/
theorem tP (l:List Bs):∀(nm:List Bs) (e:Nat),e≠0→(l.foldl wQ (nm,e)).2=e:=by
 induction l with
 | nil=>intro _ _ _;rfl
 | cons x l ih =>
  intro nm e he;rw[List.foldl_cons];have:wQ (nm,e) x=(nm++[x],e):=by unfold wQ;dsimp only;split<;>simp[tU he]
  rw[this];exact ih _ _ he
/-- The parameters, taken one by one. -/
def rkP:List Bs→List Bs→Nat
 | _,[]=>0
 | nm,x::l=>if x∈nm then 22 else rkP (nm++[x]) l
theorem decl_rk (l:List Bs):∀nm:List Bs,(l.foldl wQ (nm,0)).2=rkP nm l∧(rkP nm l=0→l.foldl wQ (nm,0)=(nm++l,0)):=by
 induction l with
 | nil=>intro nm;exact⟨rfl,fun _=>by rw[List.append_nil];rfl⟩
 | cons x l ih =>
  intro nm;rw[List.foldl_cons,rkP]
  by_cases hx:x∈nm
  ·rw[if_pos hx];have:wQ (nm,0) x=(nm++[x],22):=by unfold wQ;dsimp only;rw[if_pos hx];rfl
   rw[this];exact⟨tP l _ 22 (by omega),fun h=>by omega⟩
  ·rw[if_neg hx];have:wQ (nm,0) x=(nm++[x],0):=by unfold wQ;dsimp only;rw[if_neg hx]
   rw[this];obtain⟨h1,h2⟩:=ih (nm++[x]);exact⟨h1,fun h=>by rw[h2 h,List.append_assoc];rfl⟩
def uF (f:Fn):Prop:=4<f.params.length∨12<f.params.length+stVs f.body∨400<stNs f.body∨8<stDps f.body∨8<stXds f.body
instance (f:Fn):Decidable (uF f):=by unfold uF;exact inferInstance
def rkF (fs:List Fn) (f:Fn):Nat:=if uF f then 2 else if rkP [] f.params≠0 then rkP [] f.params else (rkB fs f.body f.params).2
def rkFs (fs:List Fn):List Fn→Nat
 | []=>0
 | f::l=>if rkF fs f≠0 then rkF fs f else rkFs fs l
theorem ckF_stick (fs:List Fn) (f:Fn) (b:Bool) (e:Nat) (he:e≠0):(ckF fs (b,e) f).2=e:=by
 unfold ckF;dsimp only
 have:(if 4<f.params.length∨12<f.params.length+stVs f.body∨400<stNs f.body∨(b||stsBad 1 f.body)=true then wX e 2 else e)=e:=by
  split
  ·exact tU he
  ·rfl
 rw[this,vE fs f.body _ (by rw[tP _ _ _ he];exact he),tP _ _ _ he]
theorem ckF_rk (fs:List Fn) (f:Fn):(ckF fs (false,0) f).2=rkF fs f∧(rkF fs f=0→ckF fs (false,0) f=(false,0)):=by
 unfold ckF rkF;dsimp only;rw[Bool.false_or];have hb:=stsBad1 f.body;have hc:(4<f.params.length∨12<f.params.length+stVs f.body∨400<stNs f.body∨stsBad 1 f.body=true)↔uF f:=by unfold uF;rw[hb]
 by_cases hm:uF f
 ·rw[if_pos hm,if_pos (hc.2 hm)];exact⟨by rw[failC_zero,vE fs f.body _ (by rw[tP _ _ _ (by omega)];omega),tP _ _ _ (by omega)],fun h=>by omega⟩
 ·rw[if_neg hm,if_neg (fun h=>hm (hc.1 h))]
  have hd:stsBad 1 f.body=false:=by
   cases h:stsBad 1 f.body with
   | false=>rfl
   | true=>exact absurd (hc.1 (.inr (.inr (.inr h)))) hm
  obtain⟨d1,d2⟩:=decl_rk f.params []
  by_cases hp:rkP [] f.params≠0
  ·rw[if_pos hp];exact⟨by rw[vE fs f.body _ (by rw[d1];exact hp),d1],fun h=>absurd h hp⟩
  ·rw[if_neg hp,d2 (by omega),List.nil_append];exact⟨(ckB_rk fs f.body f.params).1,fun h=>by rw[hd,(ckB_rk fs f.body f.params).1,h]⟩
theorem ckFs_eq (fs:List Fn):∀l:List Fn,(l.foldl (ckF fs) (false,0)).2=rkFs fs l
 | []=>rfl
 | f::l=>by
  have stick:∀(l:List Fn) (p:Bool×Nat),p.2≠0→(l.foldl (ckF fs) p).2=p.2:=by
   intro l
   induction l with
   | nil=>intro p _;rfl
   | cons g l ih =>
    intro p hp;have:=ckF_stick fs g p.1 p.2 hp;rw[List.foldl_cons,ih _ (by show (ckF fs (p.1,p.2) g).2≠0;rw[this];exact hp)];exact this
  obtain⟨h1,h2⟩:=ckF_rk fs f;rw[List.foldl_cons,rkFs]
  by_cases h:rkF fs f≠0
  ·rw[if_pos h,stick l _ (by rw[h1];exact h),h1]
  ·rw[if_neg h,h2 (by omega)];exact ckFs_eq fs l
end Go.Proofs.YtfpkpnkdnammnaaGreatDoor
/- The reference's sizes of expressions and blocks; its Find. -/
namespace Go.Proofs.YtfpkpnkdnammnaaGreatDoor
open Go.RowKit
def szV (n v s e:Nat):List Value:=[.int .i64 n,.int .i64 v,.int .i64 s,.int .i64 e]
theorem i64_addN {a b:Nat} (h:a+b≤1000000000000000000):IntKind.i64.wrap ((a:Int)+(b:Int))=((a+b:Nat):Int):=by rw[i64_in _ (by omega) (by omega)];simp
theorem max_if (a b:Nat):(if (b:Int)>a then (b:Int) else a)=((max a b:Nat):Int):=by split<;>omega
theorem yf_maxR {P:Program} {n:Nat} {m:List (Nat×Value)} {ty:TypeId} {H:World→Prop} {x y:Operand} {k:IntKind} {a b c:Int} {ts:Array TypeId} (hx:ev m x=some (.int k a)) (hy:ev m y=some (.int k b)) (hc:(if b>a then b else a)=c):YF P (.call { callee:=.builtin .max,args:=#[x,y],argTypes:=ts }) ty n m H (.int k c):=hc▸yf_max hx hy
set_option maxRecDepth 100000 in
theorem rjoin_any (n v s e n' v' s' e':Nat) (hn:n+n'≤1000000000000000000) (hv:v+v'≤1000000000000000000) (w_0:World):Calls Tryz.prog 105 #[.agg (szV n v s e).toArray,.agg (szV n' v' s' e').toArray] w_0 fun r w'=>r=.returned (.agg (szV (n+n') (v+v') (max s s') (max e e')).toArray)∧Ext w_0 w':=by
 refine zA (args:=[.agg (szV n v s e).toArray,.agg (szV n' v' s' e').toArray]) Tryz.func105 V 26 V (Nat.le_of_ble_eq_true V)<|Z2 0 1 V V<|zF (H':=Hp (fun _=>False) w_0 [] [] (fun _=>True)) (fun u hu=>?_) ?_
 ·subst hu;exact Hp.start0
 refine zY<|zX<|zC .none V (wV V V) (fun b2=>?_);refine zC .none V (wV V V) (fun b3=>?_);refine zC .none V (yU (z:=.agg #[.int .i64 0,.int .i64 0,.int .i64 0,.int .i64 0]) (cs:=[.int .i64 0,.int .i64 0,.int .i64 0,.int .i64 0]) (by kernel_rfl) V) (fun b4=>?_);refine ZX<|zX<|ZF V (Y105x0 V) ?_;refine ZF V (zV 2 V V V U3 V)<|ZF V (Y105x0 V) ?_;refine ZF V (zV 1 V V V U3 V)<|ZF V (yL V V (i64_addN hn))<|ZF V (Y105x1 V) ?_;refine ZF V (zV 2 V V V U3 V)<|ZF V (Y105x1 V) ?_;refine ZF V (zV 1 V V V U3 V)<|ZF V (yL V V (i64_addN hv))<|ZF V (Y105x2 V) ?_;refine ZF V (zV 2 V V V U3 V)<|ZF V (Y105x2 V) ?_;refine ZF V (zV 1 V V V U3 V)<|ZF V (yf_maxR V V (max_if s s'))<|ZF V (Y105x3 V) ?_;refine ZF V (zV 2 V V V U3 V)<|ZF V (Y105x3 V) ?_;refine ZF V (zV 1 V V V U3 V)<|ZF V (yf_maxR V V (max_if e e'))<|ZF V (yV [.int .i64 0,.int .i64 0,.int .i64 0,.int .i64 0] [(0,1),(1,1),(2,1),(3,1)] V (by kernel_rfl) (by kernel_rfl) V) ?_;refine ZR 0 V V V V V (by kernel_rfl) ?_;refine ZT<|zO<|yO V V 0 V U105 V (by kernel_rfl) (fun w hw=>?_);exact⟨rfl,(HpG.keep hw).ext⟩
def REZ (x:Ex):Prop:=∀F A cap w,exN x≤1000000000000→xY F w x A cap→Calls Tryz.prog 106 #[.agg (xR x A cap).toArray] w fun r w'=>r=.returned (.agg (szV (exN x) 0 0 (exD x)).toArray)∧Ext w w'
theorem exDs_take {l:List Ex} {i:Nat} {x:Ex} (hx:l[i]? = some x):exDs (l.take (i+1))=max (exDs (l.take i)) (exD x):=by
 rw[xQ hx,uA];simp[exDs]
theorem exNs_take1 {l:List Ex} {i:Nat} {x:Ex} (hx:l[i]? = some x):exNs (l.take (i+1))=exNs (l.take i)+exN x:=by
 rw[xQ hx,vW];simp[exNs]
theorem exDs_le (l:List Ex):exDs l≤exNs l:=by
 induction l with
 | nil=>simp[exDs,exNs]
 | cons x l ih=>have:=exD_le x;simp only[exDs,exNs];omega
set_option maxHeartbeats 4000000 in
set_option maxRecDepth 100000 in
theorem rexprSize_step (k n:Nat) (s:Bs) (kids:List Ex) (IH:∀x∈kids,REZ x):REZ (.mk k n s kids):=by
 intro F A cap w_0 hN h;obtain⟨hle,kc,hk1,hk2⟩:=h;dsimp only[Ex.kids] at hk2 hle;have hlt:=hle.lt
 have hA:0<kids.length→∃b off,A=some ⟨b,off,none⟩:=fun h0=>by
  obtain⟨b,off,e,_⟩:=hk1 (by rw[hk2.len];omega);exact⟨b,off,e⟩
 have he:szV (exN (.mk k n s kids)) 0 0 (exD (.mk k n s kids))=szV (exNs kids+1) 0 0 (exDs kids+1):=by simp only[exN,exD,Nat.add_comm]
 rw[he];simp only[exN] at hN;have hDl:=exDs_le kids;refine zA (args:=[.agg (exC k n s A kids.length cap).toArray]) Tryz.func106 V 30 V (Nat.le_of_ble_eq_true V)<|Z1 0 V<|zF (H':=Hp (fun _=>False) w_0 [] [] (xP F w_0)) (fun u hu=>?_) ?_
 ·subst hu;exact Hp.startSame
 refine zY<|zX<|zC .none V (wV V V) (fun b1=>?_);refine zC .none V (yU (z:=.agg #[.int .i64 0,.int .i64 0,.int .i64 0,.int .i64 0]) (cs:=[.int .i64 0,.int .i64 0,.int .i64 0,.int .i64 0]) (by kernel_rfl) V) (fun b2=>?_);refine ZX<|zX<|ZF V (yV [.int .i64 0,.int .i64 0,.int .i64 0,.int .i64 0] [(0,1),(1,1),(2,1),(3,1)] V (by kernel_rfl) (by kernel_rfl) V) ?_;refine zC .none V (yU (z:=.agg #[.int .i64 0,.int .i64 0,.int .i64 0,.int .i64 0]) (cs:=[.int .i64 0,.int .i64 0,.int .i64 0,.int .i64 0]) (by kernel_rfl) V) (fun b3=>?_);refine ZR 0 V V V V V (by kernel_rfl) ?_;refine ZX<|zY<|Z4r 0 1 2 3 V V V V<|Za V V<|ZT<|zD<|yH (ι:={i:Nat // i≤kids.length}) (fun i=>[(1,.pointer (some ⟨b1,0,none⟩)),(2,.pointer (some ⟨b2,0,none⟩)),(3,.pointer (some ⟨b3,0,none⟩)),(4,.int .i64 i.1)]) (fun i=>Hp (fun _=>False) w_0 [(b3,bk 105 (szV (exNs (kids.take i.1)) 0 0 (exDs (kids.take i.1)))),(b2,bk 105 (szV 0 0 0 0)),(b1,bk 57 (exC k n s A kids.length cap))] [] (xP F w_0)) (fun i=>kids.length-i.1) ⟨0,Nat.zero_le _⟩ ?_ ?_ (fun i=>?_)
 ·exact .cons V<|.cons V<|.cons V<|.cons V<|.nil
 ·exact fun w h=>h
 obtain⟨i,hi⟩:=i;dsimp only;refine zY<|zY<|zX<|Zm V V<|ZF V (Y57x3 V) ?_;refine ZF V (zV 2 V V V U55 V)<|ZF V (yT V U55)<|ZF V (yD V V)<|ZT<|zT V (fun hc=>?_) (fun hc=>?_)
 ·replace hc:=of_decide_eq_true hc;obtain⟨b,off,rfl⟩:=hA (by omega);have hil:i<kids.length:=by omega
  obtain⟨x,hx⟩:∃x,kids[i]? = some x:=⟨kids[i],List.getElem?_eq_getElem hil⟩;have hxm:=List.mem_of_getElem? hx;obtain⟨A1,cap1,hfix⟩:=hk2.fix hx;have hxk:=(hfix F w_0 hk2).1;have hcell:=(hfix F w_0 hk2).2;have hxN:=exNs_take hx;refine zM<|zR<|zY<|zD<|Z5 1 2 3 4 10 V V V V V<|xH 8 [0,1,2,3,4,5,6,7] (fun u=>Blk b3 (bk 105 (szV (exNs (kids.take i)) 0 0 (exDs (kids.take i)))) u∧Blk b1 (bk 57 (exC k n s (some ⟨b,off,none⟩) kids.length cap)) u∧xP F w_0 u) (by kernel_rfl) (by kernel_rfl) (fun u ob h=>⟨Blk.stab u ob h.1,Blk.stab u ob h.2.1,xP.stab u ob h.2.2⟩) (fun w h=>⟨HpG.blk h (k:=0) rfl,HpG.blk h (k:=2) rfl,HpG.x h⟩) (fun n0 hn0=>?_);refine Zd V V V (yR (cs:=szV (exNs (kids.take i)) 0 0 (exDs (kids.take i))) V U105 V (by kernel_rfl) (fun w h j v hv=>by rw[Nat.zero_add,cell_of_row w b3 j _ _ _ h.1,List.getElem?_toArray];exact hv)) ?_;refine Zd V V V (Y57x3 V) ?_;refine Zd V V V (yW (v:=.slice (some ⟨b,off,none⟩) kids.length cap) V U55 V (fun u h=>by rw[cell_of_row u b1 _ _ _ _ h.2.1];rfl)) ?_;refine Zd V V V (zH V)<|yC V ?_;(refine xB ?_ .none rfl (zG (es:=4) rfl rfl U55 (by kernel_rfl) rfl ?_ rfl) ?_;(· rfl);(· first|decide|omega|(simp;done)|(simp;omega));skip);refine Zd V V V (yR (cs:=xR x A1 cap1) V U57 V (by kernel_rfl) (fun w h j v hv=>RdF.part (h.2.2.get RdF.lies hk1) (List.getElem?_eq_some_iff.1 (hcell j v hv)).1 (by omega) (hcell j v hv))) ?_;refine yC V<|wI .none V  (v:=.agg (szV (exN x) 0 0 (exD x)).toArray) (by kernel_rfl) V (fun w w' h hx=>⟨Blk.onE h.1 hx,Blk.onE h.2.1 hx,h.2.2.ext hx⟩) (fun w hw=>IH x hxm F A1 cap1 w (by omega) ((HpG.x hw).get xY.lies hxk)) ?_;refine yC V<|wI .none V  (v:=.agg (szV (exNs (kids.take (i+1))) 0 0 (exDs (kids.take (i+1)))).toArray) (by kernel_rfl) V (fun w w' h hx=>⟨Blk.onE h.1 hx,Blk.onE h.2.1 hx,h.2.2.ext hx⟩) (fun w hw=>by rw[exNs_take1 hx,exDs_take hx];exact rjoin_any _ _ _ _ _ _ _ _ (by omega) (by omega) w) ?_;refine wZ ?_;simp only[List.drop_succ_cons,List.drop_zero];refine ZR 0 V V V V V (by kernel_rfl) ?_;refine zP<|zK<|zR<|Z5r 1 2 3 4 10 V V V V V<|Zm V V ?_;(refine ZF rfl (yL rfl rfl (i64_in _ ?_ ?_)) ?_;(· omega);(· omega);skip);refine Za V V<|zP<|yN (ι:={i:Nat // i≤kids.length}) ⟨i+1,hil⟩ (by show kids.length-(i+1)<kids.length-i;omega) (O4 V V V V) (fun w h=>h)
 ·replace hc:=of_decide_eq_false hc;have hie:i=kids.length:=by omega
  subst hie;rw[List.take_length];refine yI<|zS<|zS<|yJ<|zR<|zY<|Z5r 1 2 3 4 10 V V V V V<|ZF V (Y105x0 V) ?_;refine ZF V (zV 0 V V V U3 V)<|ZF V (yL V V (vF (n:=exNs kids) (by omega))) ?_;refine ZF V (Y105x0 V) ?_;refine ZS 0 V V V V V (by kernel_rfl) ?_;refine ZX<|Z5r 1 2 3 4 10 V V V V V<|ZF V (Y105x3 V) ?_;refine ZF V (zV 0 V V V U3 V)<|ZF V (yL V V (vF (n:=exDs kids) (by omega))) ?_;refine ZF V (Y105x3 V) ?_;refine ZS 0 V V V V V (by kernel_rfl) ?_;refine ZX<|Z5r 1 2 3 4 10 V V V V V<|ZF V (zJ 0 V V U105 V (by kernel_rfl)) ?_;refine ZR 1 V V V V V (by kernel_rfl) ?_;refine ZT<|zO<|yO V V 1 V U105 V (by kernel_rfl) (fun w hw=>?_);exact⟨rfl,(HpG.keep hw).ext⟩
theorem rexprSize_all:∀(N:Nat) (x:Ex),SizeOf.sizeOf x<N→REZ x
 | 0,_,h=>absurd h (by omega)
 | N+1,.mk k n s kids,h=>rexprSize_step k n s kids fun x hx=>rexprSize_all N x (by have:=uY (k:=k) (n:=n) (s:=s) hx;omega)
theorem rexprSize_any (x:Ex):REZ x:=rexprSize_all _ x (Nat.lt_succ_self _)
end Go.Proofs.YtfpkpnkdnammnaaGreatDoor
/- The reference's sizes of blocks; its Find. -/
namespace Go.Proofs.YtfpkpnkdnammnaaGreatDoor
open Go.RowKit
theorem stDps_app:∀(l m:List St),stDps (l++m)=max (stDps l) (stDps m)
 | [],m=>by simp[stDps]
 | x::l,m=>by simp only[List.cons_append,stDps,stDps_app l m];omega
theorem stXds_app:∀(l m:List St),stXds (l++m)=max (stXds l) (stXds m)
 | [],m=>by simp[stXds]
 | x::l,m=>by simp only[List.cons_append,stXds,stXds_app l m];omega
mutual
theorem stDp_le:∀x:St,stDp x≤stN x
 | .mk k s es b c=>by
  have h1:=stDps_le b;have h2:=stDps_le c;simp only[stDp,stN];omega
theorem stDps_le:∀l:List St,stDps l≤stNs l
 | []=>by simp[stDps,stNs]
 | x::l=>by
  have h1:=stDp_le x;have h2:=stDps_le l;simp only[stDps,stNs];omega
end
mutual
theorem stV_le:∀x:St,stV x≤stN x
 | .mk k s es b c=>by
  have h1:=stVs_le b;have h2:=stVs_le c;simp only[stV,stN];split<;>omega
theorem stVs_le:∀l:List St,stVs l≤stNs l
 | []=>by simp[stVs,stNs]
 | x::l=>by
  have h1:=stV_le x;have h2:=stVs_le l;simp only[stVs,stNs];omega
end
theorem sz_at {l:List St} {i k:Nat} {s:Bs} {es:List Ex} {b c:List St} (hx:l[i]? = some (.mk k s es b c)):stNs (l.take (i+1))=stNs (l.take i)+(stNs b+stNs c+1+exNs es)∧stVs (l.take (i+1))=stVs (l.take i)+(stVs b+stVs c+(if k=1 then 1 else 0))∧stDps (l.take (i+1))=max (stDps (l.take i)) (max (stDps b) (stDps c)+1)∧stXds (l.take (i+1))=max (stXds (l.take i)) (max (max (stXds b) (stXds c)) (exDs es)):=by
 rw[xQ hx,uG,uH,stDps_app,stXds_app];simp only[stNs,stVs,stDps,stXds,stN,stV,stDp,stXd];refine⟨by omega,by omega,by omega,by omega⟩
/-- What the reference's stmtSize answers at a block. -/
def RSZ (l:List St):Prop:=∀F A cap w,stNs l≤1000000000000→xF F w l A cap→Calls Tryz.prog 61 #[.slice A l.length cap] w fun r w'=>r=.returned (.agg (szV (stNs l) (stVs l) (stDps l) (stXds l)).toArray)∧Ext w w'
set_option maxHeartbeats 8000000 in
set_option maxRecDepth 100000 in
theorem tT (a:List St) (IH:∀x∈a,RSZ x.body∧RSZ x.els):RSZ a:=by
 intro F A cap w_0 hN h;obtain⟨pa,ca,ra,va⟩:=h;have hla:=pa.lt
 have hA:0<a.length→∃b off,A=some ⟨b,off,none⟩:=fun h0=>by
  obtain⟨b,off,e,_⟩:=ra (by rw[va.len];omega);exact⟨b,off,e⟩
 refine zA (args:=[.slice A a.length cap]) Tryz.func61 V 60 V (Nat.le_of_ble_eq_true V)<|Z1 0 V<|zF (H':=Hp (fun _=>False) w_0 [] [] (xP F w_0)) (fun u hu=>?_) ?_
 ·subst hu;exact Hp.startSame
 refine zY<|zX<|zC .none V (yU (z:=.agg #[.int .i64 0,.int .i64 0,.int .i64 0,.int .i64 0]) (cs:=[.int .i64 0,.int .i64 0,.int .i64 0,.int .i64 0]) (by kernel_rfl) V) (fun b2=>?_);refine ZX<|zX<|ZF V (yV [.int .i64 0,.int .i64 0,.int .i64 0,.int .i64 0] [(0,1),(1,1),(2,1),(3,1)] V (by kernel_rfl) (by kernel_rfl) V) ?_;refine zC .none V (yU (z:=.agg #[.int .i64 0,.int .i64 0,.int .i64 0,.int .i64 0]) (cs:=[.int .i64 0,.int .i64 0,.int .i64 0,.int .i64 0]) (by kernel_rfl) V) (fun b3=>?_);refine ZR 0 V V V V V (by kernel_rfl) ?_;refine ZX<|zY<|Z3r 0 2 3 V V V<|Za V V<|ZT<|zD<|yH (ι:={i:Nat // i≤a.length}) (fun i=>[(0,.slice A a.length cap),(2,.pointer (some ⟨b2,0,none⟩)),(3,.pointer (some ⟨b3,0,none⟩)),(4,.int .i64 i.1)]) (fun i=>Hp (fun _=>False) w_0 [(b3,bk 105 (szV (stNs (a.take i.1)) (stVs (a.take i.1)) (stDps (a.take i.1)) (stXds (a.take i.1)))),(b2,bk 105 (szV 0 0 0 0))] [] (xP F w_0)) (fun i=>a.length-i.1) ⟨0,Nat.zero_le _⟩ ?_ ?_ (fun i=>?_)
 ·exact .cons V<|.cons V<|.cons V<|.cons V<|.nil
 ·exact fun w h=>h
 obtain⟨i,hi⟩:=i;dsimp only;refine zY<|zY<|zX<|Zm V V<|Zm V V<|ZF V (yT V U58)<|ZF V (yD V V)<|ZT<|zT V (fun hc=>?_) (fun hc=>?_)
 ·replace hc:=of_decide_eq_true hc;have hil:i<a.length:=by omega
  obtain⟨g1,o1,rfl⟩:=hA (by omega);obtain⟨x,hx⟩:∃x,a[i]? = some x:=⟨a[i],List.getElem?_eq_getElem hil⟩;have hxm:=List.mem_of_getElem? hx;obtain⟨a1,hfix1⟩:=va.fix hx;have hk1:=(hfix1 F w_0 va).1;have hc1:=(hfix1 F w_0 va).2;have hNx:=stNs_take hx
  cases x with
  | mk k s es b c=>?_
  have hI:=IH _ hxm;obtain⟨A1,A2,A3,c1,c2,c3⟩:=a1;obtain⟨p1,p2,p3,⟨x1,h1,k1⟩,h2,h3⟩:=hk1;dsimp only[St.exprs,St.body,St.els] at p1 p2 p3 h1 k1 h2 h3 hI
  have hA1:0<es.length→∃b off,A1=some ⟨b,off,none⟩:=fun h0=>by
   obtain⟨b,off,e,_⟩:=h1 (by rw[k1.len];omega);exact⟨b,off,e⟩
  have hel:=p1.lt;obtain⟨z1,z2,z3,z4⟩:=sz_at hx;simp only[stN] at hNx;have hd1:=stDps_le b;have hd2:=stDps_le c;have hv1:=stVs_le b;have hv2:=stVs_le c;have hv3:=stVs_le (a.take i);have hdx:=exDs_le es;refine zM<|zR<|zY<|zD<|zY<|Z5r 0 2 3 4 12 V V V V V<|Zm V V<|Zm V V ?_;(refine ZF rfl (zG (es:=5) rfl rfl U58 (by kernel_rfl) rfl ?_ rfl) ?_;(· first|decide|omega|(simp;done)|(simp;omega));skip);refine ZF V (yR (cs:=stC k s A1 es.length c1 A2 b.length c2 A3 c.length c3) V U60 V (by kernel_rfl) (fun w h j v hv=>RdF.part ((HpG.x h).get RdF.lies ra) (List.getElem?_eq_some_iff.1 (hc1 j v hv)).1 (by omega) (hc1 j v hv))) ?_;refine zC .none V (yU (z:=.agg #[.int .i64 0,.string ⟨#[]⟩,.slice none 0 0,.slice none 0 0,.slice none 0 0]) (cs:=[.int .i64 0,.string ⟨#[]⟩,.slice none 0 0,.slice none 0 0,.slice none 0 0]) (by kernel_rfl) V) (fun b5=>?_);refine ZR 0 V V V V V (by kernel_rfl) ?_;refine ZX<|Z6 0 2 3 4 5 12 V V V V V V<|xH 8 [0,1,2,3,4,5,6,7] (Blk b5 (bk 60 (stC k s A1 es.length c1 A2 b.length c2 A3 c.length c3))) (by kernel_rfl) (by kernel_rfl) Blk.stab (fun w h=>HpG.blk h (k:=0) V) (fun n0 hn0=>?_);refine Zd V V V (Y60x3 V) ?_;refine Zd V V V (yW (v:=.slice A2 b.length c2) V U58 V (fun u h=>by rw[cell_of_row u b5 _ _ _ _ h];rfl)) ?_;refine yC V<|wI .none V  (v:=.agg (szV (stNs b) (stVs b) (stDps b) (stXds b)).toArray) (by kernel_rfl) V (fun w w' h hx=>Blk.onE h hx) (fun w hw=>hI.1 F A2 c2 w (by omega) ((HpG.x hw).get xF.lies ⟨p2,h2⟩)) ?_;refine Zd V V V (Y60x4 V) ?_;refine Zd V V V (yW (v:=.slice A3 c.length c3) V U58 V (fun u h=>by rw[cell_of_row u b5 _ _ _ _ h];rfl)) ?_;refine yC V<|wI .none V  (v:=.agg (szV (stNs c) (stVs c) (stDps c) (stXds c)).toArray) (by kernel_rfl) V (fun w w' h hx=>Blk.onE h hx) (fun w hw=>hI.2 F A3 c3 w (by omega) ((HpG.x hw).get xF.lies ⟨p3,h3⟩)) ?_;refine yC V<|wI .none V  (v:=.agg (szV (stNs b+stNs c) (stVs b+stVs c) (max (stDps b) (stDps c)) (max (stXds b) (stXds c))).toArray) (by kernel_rfl) V (fun w w' h hx=>Blk.onE h hx) (fun w hw=>rjoin_any _ _ _ _ _ _ _ _ (by omega) (by omega) w) ?_;refine yC V<|tH ?_ .none V (fun k hk=>Nat.lt_of_lt_of_le hk hn0) (yU (z:=.agg #[.int .i64 0,.int .i64 0,.int .i64 0,.int .i64 0]) (cs:=[.int .i64 0,.int .i64 0,.int .i64 0,.int .i64 0]) (by kernel_rfl) V) (fun b6 hb6=>?_)
  ·rfl
  refine wZ ?_;simp only[List.drop_succ_cons,List.drop_zero];refine ZR 0 V V V V V (by kernel_rfl) ?_;refine ZX<|Z7r 0 2 3 4 5 6 12 V V V V V V V<|ZF V (Y105x2 V) ?_;refine ZF V (zV 0 V V V U3 V)<|ZF V (yL V V (vF (n:=max (stDps b) (stDps c)) (by omega))) ?_;refine ZF V (Y105x2 V) ?_;refine ZS 0 V V V V V (by kernel_rfl) ?_;refine ZX<|Z7r 0 2 3 4 5 6 12 V V V V V V V<|ZF V (Y105x0 V) ?_;refine ZF V (zV 0 V V V U3 V)<|ZF V (yL V V (vF (n:=stNs b+stNs c) (by omega))) ?_;refine ZF V (Y105x0 V) ?_;refine ZS 0 V V V V V (by kernel_rfl) ?_;refine ZT<|xE (ι:=Unit) (fun _=>[(0,.slice (some ⟨g1,o1,none⟩) a.length cap),(2,.pointer (some ⟨b2,0,none⟩)),(3,.pointer (some ⟨b3,0,none⟩)),(4,.int .i64 i),(5,.pointer (some ⟨b5,0,none⟩)),(6,.pointer (some ⟨b6,0,none⟩))]) (fun _=>Hp (fun _=>False) w_0 [(b6,bk 105 (szV (stNs b+stNs c+1) (stVs b+stVs c+(if k=1 then 1 else 0)) (max (stDps b) (stDps c)+1) (max (stXds b) (stXds c)))),(b5,bk 60 (stC k s A1 es.length c1 A2 b.length c2 A3 c.length c3)),(b3,bk 105 (szV (stNs (a.take i)) (stVs (a.take i)) (stDps (a.take i)) (stXds (a.take i)))),(b2,bk 105 (szV 0 0 0 0))] [] (xP F w_0)) ?_ (fun _=>?_)
  ·refine zY<|Z7r 0 2 3 4 5 6 12 V V V V V V V<|ZF V (Y60x0 V) ?_;refine ZF V (zV 1 V V V U3 V)<|ZF V (yX V V)<|ZT<|zT V (fun hc=>?_) (fun hc=>?_)
   ·replace hc:=eq_of_beq hc;have hk1:k=1:=by omega
    refine Z8r 0 2 3 4 5 6 12 36 V V V V V V V V<|ZF V (Y105x1 V) ?_;refine ZF V (zV 0 V V V U3 V)<|ZF V (yL V V (vF (n:=stVs b+stVs c) (by omega))) ?_;refine ZF V (Y105x1 V) ?_;refine ZS 0 V V V V V (by kernel_rfl) ?_;refine zP<|zB (ι:=Unit) () (O6 V V V V V V) (fun w h=>?_);rw[if_pos hk1];exact h
   ·replace hc:=yS hc;have hk1:k≠1:=by omega
    refine zM<|zB (ι:=Unit) () (O6 V V V V V V) (fun w h=>?_);rw[if_neg hk1];exact h
  ·refine zY<|zY<|zX<|Za V V<|ZT<|zD<|yH (ι:={j:Nat // j≤es.length}) (fun j=>[(0,.slice (some ⟨g1,o1,none⟩) a.length cap),(2,.pointer (some ⟨b2,0,none⟩)),(3,.pointer (some ⟨b3,0,none⟩)),(4,.int .i64 i),(5,.pointer (some ⟨b5,0,none⟩)),(6,.pointer (some ⟨b6,0,none⟩)),(7,.int .i64 j.1)]) (fun j=>Hp (fun _=>False) w_0 [(b6,bk 105 (szV (stNs b+stNs c+1+exNs (es.take j.1)) (stVs b+stVs c+(if k=1 then 1 else 0)) (max (stDps b) (stDps c)+1) (max (max (stXds b) (stXds c)) (exDs (es.take j.1))))),(b5,bk 60 (stC k s A1 es.length c1 A2 b.length c2 A3 c.length c3)),(b3,bk 105 (szV (stNs (a.take i)) (stVs (a.take i)) (stDps (a.take i)) (stXds (a.take i)))),(b2,bk 105 (szV 0 0 0 0))] [] (xP F w_0)) (fun j=>es.length-j.1) ⟨0,Nat.zero_le _⟩ ?_ ?_ (fun j=>?_)
   ·exact .cons V<|.cons V<|.cons V<|.cons V<|.cons V<|.cons V<|.cons V<|.nil
   ·intro w h;simp only[List.take_zero,exNs,exDs,Nat.add_zero,Nat.max_zero];exact h
   obtain⟨j,hj⟩:=j;dsimp only;refine zY<|zY<|zX<|Zm V V<|ZF V (Y60x2 V) ?_;refine ZF V (zV 1 V V V U55 V)<|ZF V (yT V U55)<|ZF V (yD V V)<|ZT<|zT V (fun hc=>?_) (fun hc=>?_)
   ·replace hc:=of_decide_eq_true hc;obtain⟨q,r,rfl⟩:=hA1 (by omega);have hjl:j<es.length:=by omega
    obtain⟨y,hy⟩:∃y,es[j]? = some y:=⟨es[j],List.getElem?_eq_getElem hjl⟩;obtain⟨B1,cap1,hfixe⟩:=k1.fix hy;have hyk:=(hfixe F w_0 k1).1;have hcelle:=(hfixe F w_0 k1).2;have hNe:=exNs_take hy;refine zM<|zR<|zY<|zD<|Z8 0 2 3 4 5 6 7 45 V V V V V V V V<|xH 8 [0,1,2,3,4,5,6,7] (fun u=>Blk b6 (bk 105 (szV (stNs b+stNs c+1+exNs (es.take j)) (stVs b+stVs c+(if k=1 then 1 else 0)) (max (stDps b) (stDps c)+1) (max (max (stXds b) (stXds c)) (exDs (es.take j))))) u∧Blk b5 (bk 60 (stC k s (some ⟨q,r,none⟩) es.length c1 A2 b.length c2 A3 c.length c3)) u∧xP F w_0 u) (by kernel_rfl) (by kernel_rfl) (fun u ob h=>⟨Blk.stab u ob h.1,Blk.stab u ob h.2.1,xP.stab u ob h.2.2⟩) (fun w h=>⟨HpG.blk h (k:=0) rfl,HpG.blk h (k:=1) rfl,HpG.x h⟩) (fun n0 hn0=>?_);refine Zd V V V (yR (cs:=szV (stNs b+stNs c+1+exNs (es.take j)) (stVs b+stVs c+(if k=1 then 1 else 0)) (max (stDps b) (stDps c)+1) (max (max (stXds b) (stXds c)) (exDs (es.take j)))) V U105 V (by kernel_rfl) (fun w h j v hv=>by rw[Nat.zero_add,cell_of_row w b6 j _ _ _ h.1,List.getElem?_toArray];exact hv)) ?_;refine Zd V V V (Y60x2 V) ?_;refine Zd V V V (yW (v:=.slice (some ⟨q,r,none⟩) es.length c1) V U55 V (fun u h=>by rw[cell_of_row u b5 _ _ _ _ h.2.1];rfl)) ?_;refine Zd V V V (zH V)<|yC V ?_;(refine xB ?_ .none rfl (zG (es:=4) rfl rfl U55 (by kernel_rfl) rfl ?_ rfl) ?_;(· rfl);(· first|decide|omega|(simp;done)|(simp;omega));skip);refine Zd V V V (yR (cs:=xR y B1 cap1) V U57 V (by kernel_rfl) (fun w h i v hv=>RdF.part (h.2.2.get RdF.lies h1) (List.getElem?_eq_some_iff.1 (hcelle i v hv)).1 (by omega) (hcelle i v hv))) ?_;refine yC V<|wI .none V  (v:=.agg (szV (exN y) 0 0 (exD y)).toArray) (by kernel_rfl) V (fun w w' h hx=>⟨Blk.onE h.1 hx,Blk.onE h.2.1 hx,h.2.2.ext hx⟩) (fun w hw=>rexprSize_any y F B1 cap1 w (by omega) ((HpG.x hw).get xY.lies hyk)) ?_;refine yC V ?_
    refine wI .none V  (v:=.agg (szV (stNs b+stNs c+1+exNs (es.take (j+1))) (stVs b+stVs c+(if k=1 then 1 else 0)) (max (stDps b) (stDps c)+1) (max (max (stXds b) (stXds c)) (exDs (es.take (j+1))))).toArray) (by kernel_rfl) V (fun w w' h hx=>⟨Blk.onE h.1 hx,Blk.onE h.2.1 hx,h.2.2.ext hx⟩) (fun w hw=>by
     have:=rjoin_any (stNs b+stNs c+1+exNs (es.take j)) (stVs b+stVs c+(if k=1 then 1 else 0)) (max (stDps b) (stDps c)+1) (max (max (stXds b) (stXds c)) (exDs (es.take j))) (exN y) 0 0 (exD y) (by omega) (by split<;>omega) w;rw[exNs_take1 hy,exDs_take hy,← Nat.add_assoc,← Nat.max_assoc]
     exact this) ?_
    refine wZ ?_;simp only[List.drop_succ_cons,List.drop_zero];refine ZR 0 V V V V V (by kernel_rfl) ?_;refine zP<|zK<|zR<|Z8r 0 2 3 4 5 6 7 45 V V V V V V V V<|Zm V V ?_;(refine ZF rfl (yL rfl rfl (i64_in _ ?_ ?_)) ?_;(· omega);(· omega);skip);refine Za V V<|zP<|yN (ι:={j:Nat // j≤es.length}) ⟨j+1,hjl⟩ (by show es.length-(j+1)<es.length-j;omega) (O7 V V V V V V V) (fun w h=>h)
   ·replace hc:=of_decide_eq_false hc;have hje:j=es.length:=by omega
    subst hje;rw[List.take_length];refine yI<|zS<|zS<|yJ<|zR<|Z8r 0 2 3 4 5 6 7 45 V V V V V V V V<|ZF V (zJ 2 V V U105 V (by kernel_rfl)) ?_;refine ZF V (zJ 0 V V U105 V (by kernel_rfl)) ?_;refine yY .none V  (v:=.agg (szV (stNs (a.take (i+1))) (stVs (a.take (i+1))) (stDps (a.take (i+1))) (stXds (a.take (i+1)))).toArray) (by kernel_rfl) V (fun w hw=>by rw[z1,z2,z3,z4];exact rjoin_any _ _ _ _ _ _ _ _ (by omega) (by split<;>omega) w) ?_;refine ZR 2 V V V V V (by kernel_rfl) ?_;refine zP<|zK<|zR<|Z8r 0 2 3 4 5 6 7 45 V V V V V V V V<|Zm V V ?_;(refine ZF rfl (yL rfl rfl (i64_in _ ?_ ?_)) ?_;(· omega);(· omega);skip);refine Za V V<|zP<|yN (ι:={i:Nat // i≤a.length}) ⟨i+1,hil⟩ (by show a.length-(i+1)<a.length-i;omega) (O4 V V V V) (fun w h=>Hp.drop h ((List.sublist_cons_self _ _).trans (List.sublist_cons_self _ _)) (List.Sublist.refl _))
 ·replace hc:=of_decide_eq_false hc;have hie:i=a.length:=by omega
  subst hie;rw[List.take_length];refine yI<|zS<|zS<|yJ<|zR<|zY<|Z5r 0 2 3 4 12 V V V V V<|ZF V (zJ 0 V V U105 V (by kernel_rfl)) ?_;refine ZR 1 V V V V V (by kernel_rfl) ?_;refine ZT<|zO<|yO V V 1 V U105 V (by kernel_rfl) (fun w hw=>?_);exact⟨rfl,(HpG.keep hw).ext⟩
theorem tD:∀(N:Nat) (x:St),SizeOf.sizeOf x<N→RSZ x.body∧RSZ x.els
 | 0,_,h=>absurd h (by omega)
 | N+1,.mk k s es b c,h=>⟨tT b fun x hx=>tD N x (by have:=wH (k:=k) (s:=s) (es:=es) (c:=c) (.inl hx);omega),tT c fun x hx=>tD N x (by have:=wH (k:=k) (s:=s) (es:=es) (b:=b) (.inr hx);omega)⟩
theorem rstmtSize_any (a:List St):RSZ a:=tT a fun x _=>tD _ x (Nat.lt_succ_self _)
/-! ### Find -/
set_option maxRecDepth 100000 in
theorem rfind_any (a:List Fn) (s:Bs) (F:Nat→Prop) (A:Option Addr) (c:Nat) (w_0:World) (ha:PgK F w_0 a A c):Calls Tryz.prog 60 #[.agg [Value.slice A a.length c].toArray,.string ⟨s.toArray⟩] w_0 fun e w'=>e=.returned (.int .i64 (wK a s))∧Ext w_0 w':=by
 obtain⟨pa,ca,ra,va⟩:=ha;have hla:=pa.lt
 have hA:0<a.length→∃b off,A=some ⟨b,off,none⟩:=fun h0=>by
  obtain⟨b,off,e,_⟩:=ra (by rw[va.len];omega);exact⟨b,off,e⟩
 refine zA (args:=[Value.agg [Value.slice A a.length c].toArray,.string ⟨s.toArray⟩]) Tryz.func60 V 22 V (Nat.le_of_ble_eq_true V)<|Z2 0 1 V V<|zF (H':=Hp (fun _=>False) w_0 [] [] (xP F w_0)) (fun u hu=>?_) ?_
 ·subst hu;exact Hp.startSame
 refine zY<|zX<|zC .none V (wV V V) (fun b2=>?_);refine Za V V<|ZX<|zY<|zX<|Za V V<|ZT<|zD<|yH (ι:={i:Nat // IxQ (fun f:Fn=>decide (f.name=s)) a i}) (fun i=>[(1,.string ⟨s.toArray⟩),(2,.pointer (some ⟨b2,0,none⟩)),(5,.int .i64 i.1)]) (fun _=>Hp (fun _=>False) w_0 [(b2,bk 32 [.slice A a.length c])] [] (xP F w_0)) (fun i=>a.length-i.1) ⟨0,⟨Nat.zero_le _,fun _ _ h=>absurd h (by omega)⟩⟩ ?_ ?_ (fun i=>?_)
 ·exact .cons V<|.cons V<|.cons V<|.nil
 ·exact fun w h=>h
 obtain⟨i,hi⟩:=i;dsimp only;have hil0:=hi.le;refine zY<|zY<|zX<|Zm V V<|ZF V (Y32x0 V) ?_;refine ZF V (zV 0 V V V U30 V)<|ZF V (yT V U30)<|ZF V (yD V V)<|ZT<|zT V (fun hc=>?_) (fun hc=>?_)
 ·replace hc:=of_decide_eq_true hc;have hil:i<a.length:=by omega
  obtain⟨g1,o1,rfl⟩:=hA (by omega);obtain⟨x,hx⟩:∃x,a[i]? = some x:=⟨a[i],List.getElem?_eq_getElem hil⟩;obtain⟨a1,hfix1⟩:=va.fix hx;have hc1:=(hfix1 F w_0 va).2;refine zM<|zR<|zY<|zD<|zY<|Z4r 1 2 5 10 V V V V<|ZF V (Y32x0 V) ?_;refine ZF V (zV 0 V V V U30 V)<|Zm V V ?_;(refine ZF rfl (zG (es:=3) rfl rfl U30 (by kernel_rfl) rfl ?_ rfl) ?_;(· first|decide|omega|(simp;done)|(simp;omega));skip);refine ZF V (Y62x0 V) ?_;refine ZF V (yW (v:=.string ⟨x.name.toArray⟩) V U9 V (fun w h=>RdF.part ((HpG.x h).get RdF.lies ra) (List.getElem?_eq_some_iff.1 (hc1 0 _ V)).1 (by omega) (hc1 0 _ V))) ?_;refine Zm V V<|ZF V (yE V V U9)<|ZT<|zT V (fun h20=>?_) (fun h20=>?_)
  ·refine zY<|Z5r 1 2 5 10 20 V V V V V<|Zm V V<|Za V V<|ZT<|zO<|zU<|zW<|zW<|zU<|zW<|zL V V (fun w hw=>?_);exact⟨by rw[show wK a s=(i:Nat) from idxQ_at hi hx (by simpa using h20)],(HpG.keep hw).ext⟩
  ·refine zM<|zK<|zR<|Z5r 1 2 5 10 20 V V V V V<|Zm V V ?_;(refine ZF rfl (yL rfl rfl (i64_in _ ?_ ?_)) ?_;(· omega);(· omega);skip);refine Za V V<|zP<|yN (ι:={i:Nat // IxQ (fun f:Fn=>decide (f.name=s)) a i}) ⟨i+1,⟨hil,fun j y hj hy=>?_⟩⟩ (by show a.length-(i+1)<a.length-i;omega) (O3 V V V) (fun w h=>h);rcases Nat.lt_or_ge j i with h1|h1
   ·exact hi.no j y h1 hy
   ·have:j=i:=by omega
    subst this;rw[hx] at hy;cases hy;simpa using h20
 ·replace hc:=of_decide_eq_false hc;have hie:i=a.length:=by omega
  subst hie;refine yI<|zS<|zS<|yJ<|zR<|zY<|Z4r 1 2 5 10 V V V V<|Za V V<|ZT<|zO<|zL V V (fun w hw=>?_);exact⟨by rw[show wK a s=-1 from sR hi],(HpG.keep hw).ext⟩
end Go.Proofs.YtfpkpnkdnammnaaGreatDoor
/- The reference's scope: expressions. -/
namespace Go.Proofs.YtfpkpnkdnammnaaGreatDoor
open Go.RowKit
abbrev scO (Ap:Option Addr) (len cp:Nat) (An:Option Addr) (nl cn:Nat):Obj:=bk 109 [.slice Ap len cp,.slice An nl cn]
theorem sc_fst {w:World} {cb len cp nl cn:Nat} {Ap An:Option Addr} (h:Blk cb (scO Ap len cp An nl cn) w) (j:Nat) (v:Value) (hv:[Value.slice Ap len cp][j]? = some v):w.cell? ⟨cb,0+j,none⟩=some v:=by
 have hj:j=0:=by have:=(List.getElem?_eq_some_iff.1 hv).1;simpa using this
 subst hj;rw[cell_of_row w cb _ _ _ _ h];exact hv
theorem rkEs_app (fs:List Fn) (nm:List Bs):∀(l m:List Ex),rkEs fs nm (l++m)=orE (rkEs fs nm l) (rkEs fs nm m)
 | [],m=>by simp[rkEs,orE]
 | x::l,m=>by
  simp only[List.cons_append,rkEs,rkEs_app fs nm l];unfold orE
  split<;>simp_all
theorem rkEs_at {fs:List Fn} {nm:List Bs} {l:List Ex} {i:Nat} {x:Ex} (hx:l[i]? = some x) (h0:rkEs fs nm (l.take i)=0):rkEs fs nm (l.take (i+1))=rkE fs nm x∧(rkE fs nm x≠0→rkEs fs nm l=rkE fs nm x):=by
 have e:rkEs fs nm (l.take (i+1))=rkE fs nm x:=by
  rw[xQ hx,rkEs_app,h0];simp only[rkEs];unfold orE
  by_cases h:rkE fs nm x=0<;>simp[h]
 refine⟨e,fun hn=>?_⟩;have h2:=rkEs_app fs nm (l.take (i+1)) (l.drop (i+1));rw[List.take_append_drop] at h2;rw[h2,e];unfold orE;rw[if_pos hn]
/-- What the reference's scope answers at an expression. -/
def RSE (x:Ex):Prop:=∀(fs:List Fn) (nm:List Bs) Ap cp An cn A cap cb w,nm.length≤1000000000000→w.heap[cb]? = some (scO Ap fs.length cp An nm.length cn)→PgK (fun _=>True) w fs Ap cp→RdF (fun _=>True) An (wO nm) w→xY (fun _=>True) w x A cap →
 Calls Tryz.prog 107 #[.pointer (some ⟨cb,0,none⟩),.agg (xR x A cap).toArray] w fun e w'=>e=.returned (.int .i64 (rkE fs nm x:Nat))∧Ext w w'
set_option maxHeartbeats 4000000 in
set_option maxRecDepth 100000 in
theorem rsexpr_step (k n:Nat) (s:Bs) (kids:List Ex) (IH:∀x∈kids,RSE x):RSE (.mk k n s kids):=by
 intro fs nm Ap cp An cn A cap cb w_0 hn hb hP hR h;obtain⟨hle,kc,hk1,hk2⟩:=h;dsimp only[Ex.kids] at hk2 hle;have hlt:=hle.lt
 have hA:0<kids.length→∃b off,A=some ⟨b,off,none⟩:=fun h0=>by
  obtain⟨b,off,e,_⟩:=hk1 (by rw[hk2.len];omega);exact⟨b,off,e⟩
 have hPc:=hP;obtain⟨hcp,fcs,hf1,hf2⟩:=hPc
 have hAp:0<fs.length→∃b off,Ap=some ⟨b,off,none⟩:=fun h0=>by
  obtain⟨b,off,e,_⟩:=hf1 (by rw[hf2.len];omega);exact⟨b,off,e⟩
 rw[rkE];refine zA (args:=[.pointer (some ⟨cb,0,none⟩),.agg (exC k n s A kids.length cap).toArray]) Tryz.func107 V 64 V (Nat.le_of_ble_eq_true V)<|Z2 0 1 V V<|zF (H':=Hp (fun _=>False) w_0 [] [] (xP (fun _=>True) w_0)) (fun u hu=>?_) ?_
 ·subst hu;exact Hp.startSame
 refine zY<|zX<|zC .none V (wV V V) (fun b3=>?_);refine Za V V<|ZT<|xE (ι:={u:Unit // ¬(k=2∧s∉nm)}) (fun _=>[(0,.pointer (some ⟨cb,0,none⟩)),(3,.pointer (some ⟨b3,0,none⟩))]) (fun _=>Hp (fun _=>False) w_0 [(b3,bk 57 (exC k n s A kids.length cap))] [] (xP (fun _=>True) w_0)) ?_ (fun u=>?_)
 ·refine zY<|zX<|ZF V (Y57x0 V) ?_;refine ZF V (zV 0 V V V U3 V)<|ZF V (yX V V)<|ZT<|zT V (fun hc=>?_) (fun hc=>?_)
  ·replace hc:=eq_of_beq hc;have hk2':k=2:=by omega
   refine zY<|Z5 0 1 3 4 11 V V V V V<|xH 7 [0,1,2,3,4,5,6] (fun u=>Blk b3 (bk 57 (exC k n s A kids.length cap)) u∧xP (fun _=>True) w_0 u) (by kernel_rfl) (by kernel_rfl) (fun u ob h=>⟨Blk.stab u ob h.1,xP.stab u ob h.2⟩) (fun w h=>⟨HpG.blk h (k:=0) rfl,HpG.x h⟩) (fun n0 hn0=>?_);refine Zd V V V (Y57x2 V) ?_;refine Zd V V V (yW (v:=.string ⟨s.toArray⟩) V U9 V (fun u h=>by rw[cell_of_row u b3 _ _ _ _ h.1];rfl)) ?_;refine Zd V V V (zH V)<|Zd V V V (yP V)<|Zd V V V (Y109x1 V) ?_;refine Zd V V V (yW (v:=.slice An nm.length cn) V U22 V (fun u h=>by rw[cell_of_row u cb _ _ _ _ (h.2.blk hb)];rfl)) ?_;refine yC V<|wI .none V  (v:=.bool (decide (s∈nm))) (by kernel_rfl) V (fun w w' h hx=>⟨Blk.onE h.1 hx,h.2.ext hx⟩) (fun w hw=>sO nm (by omega) s An cn w ((HpG.x hw).get RdF.lies hR)) ?_;refine wZ ?_;simp only[List.drop_succ_cons,List.drop_zero];refine Za V V<|ZX<|Z6r 0 1 3 4 5 11 V V V V V V<|Zm V V<|ZF V (xX V)<|ZT<|zT V (fun h20=>?_) (fun h20=>?_)
   ·refine zY<|Z7r 0 1 3 4 5 11 20 V V V V V V V<|Za V V<|ZT<|zO<|zW<|zL V V (fun w hw=>?_);exact⟨by rw[if_pos ⟨hk2',by simpa using h20⟩];rfl,(HpG.keep hw).ext⟩
   ·refine zM<|zB (ι:={u:Unit // ¬(k=2∧s∉nm)}) ⟨(),by first|exact fun h=>hk2' h.1|exact fun h=>h.2 (by simpa using h20)⟩ (O2 rfl rfl) (fun w h=>h)
  ·replace hc:=yS hc;have hk2':k≠2:=by omega
   refine zM<|zB (ι:={u:Unit // ¬(k=2∧s∉nm)}) ⟨(),by first|exact fun h=>hk2' h.1|exact fun h=>h.2 (by simpa using h20)⟩ (O2 rfl rfl) (fun w h=>h)
 ·obtain⟨_,hg2⟩:=u;refine xE (ι:={u:Unit // ¬(k=3∧wK fs s<0)∧¬(k=3∧(fs.getD (wK fs s).toNat tM).params.length≠kids.length)}) (fun _=>[(0,.pointer (some ⟨cb,0,none⟩)),(3,.pointer (some ⟨b3,0,none⟩))]) (fun _=>Hp (fun _=>False) w_0 [(b3,bk 57 (exC k n s A kids.length cap))] [] (xP (fun _=>True) w_0)) ?_ (fun u=>?_)
  ·refine zY<|zX<|ZF V (Y57x0 V) ?_;refine ZF V (zV 0 V V V U3 V)<|ZF V (yX V V)<|ZT<|zT V (fun hc=>?_) (fun hc=>?_)
   ·replace hc:=eq_of_beq hc;have hk3:k=3:=by omega
    refine zY<|Z3 0 3 23 V V V<|xH 7 [0,1,2,3,4,5,6] (fun u=>Blk b3 (bk 57 (exC k n s A kids.length cap)) u∧xP (fun _=>True) w_0 u) (by kernel_rfl) (by kernel_rfl) (fun u ob h=>⟨Blk.stab u ob h.1,xP.stab u ob h.2⟩) (fun w h=>⟨HpG.blk h (k:=0) rfl,HpG.x h⟩) (fun n0 hn0=>?_);refine Zd V V V (zH V)<|Zd V V V (yP V)<|Zd V V V (zZ (off:=0) (sz:=0) V Tryz.underlying109 (by kernel_rfl) V) ?_;refine Zd V V V (yR (cs:=[Value.slice Ap fs.length cp]) V U32 V (by kernel_rfl) (fun w h j v hv=>sc_fst (h.2.blk hb) j v hv)) ?_;refine Zd V V V (Y57x2 V) ?_;refine Zd V V V (yW (v:=.string ⟨s.toArray⟩) V U9 V (fun u h=>by rw[cell_of_row u b3 _ _ _ _ h.1];rfl)) ?_;refine yC V<|wI .none V  (v:=.int .i64 (wK fs s)) (by kernel_rfl) V (fun w w' h hx=>⟨Blk.onE h.1 hx,h.2.ext hx⟩) (fun w hw=>rfind_any fs s _ Ap cp w ((HpG.x hw).get PgK.lies hP)) ?_;refine wZ ?_;simp only[List.drop_succ_cons,List.drop_zero];refine Za V V<|ZX<|zY<|Z4r 0 3 6 23 V V V V<|Zm V V<|ZF V (yD V V)<|ZT<|zT V (fun h32=>?_) (fun h32=>?_)
    ·replace h32:=of_decide_eq_true h32;have h32':wK fs s<0:=by simpa using h32
     refine zY<|Z5r 0 3 6 23 32 V V V V V<|Za V V<|ZT<|zO<|zW<|zW<|zL V V (fun w hw=>?_);exact⟨by rw[if_neg hg2,if_pos ⟨hk3,h32'⟩];rfl,(HpG.keep hw).ext⟩
    ·replace h32:=of_decide_eq_false h32;have h32':¬wK fs s<0:=by simpa using h32
     obtain⟨i,y,hfi,hy,_⟩:=sS h32';have hil:=(List.getElem?_eq_some_iff.1 hy).1;obtain⟨g0,o0,rfl⟩:=hAp (by omega);obtain⟨a,hfix⟩:=hf2.fix hy;have hcell:=(hfix (fun _=>True) w_0 hf2).2;have hfi:wK fs s=(i:Nat):=hfi;have hgd:fs.getD (wK fs s).toNat tM=y:=by rw[hfi,Int.toNat_natCast,List.getD_eq_getElem?_getD,hy];rfl
     have hfl:=hcp.lt;refine zM<|zR<|zY<|Z5 0 3 6 23 32 V V V V V<|xH 13 [0,1,2,3,4,5,6,7,8,9,10,11,12] (fun u=>Blk b3 (bk 57 (exC k n s A kids.length cap)) u∧xP (fun _=>True) w_0 u) (by kernel_rfl) (by kernel_rfl) (fun u ob h=>⟨Blk.stab u ob h.1,xP.stab u ob h.2⟩) (fun w h=>⟨HpG.blk h (k:=0) rfl,HpG.x h⟩) (fun n0 hn0=>?_);refine Zd V V V (zH V)<|Zd V V V (yP V)<|Zd V V V (zZ (off:=0) (sz:=0) V Tryz.underlying109 (by kernel_rfl) V) ?_;refine Zd V V V (Y32x0 V) ?_;refine Zd V V V (yW (v:=.slice (some ⟨g0,o0,none⟩) fs.length cp) V U30 V (fun u h=>by rw[cell_of_row u cb _ _ _ _ (h.2.blk hb)];rfl)) ?_;refine Zd V V V (zH V)<|yC V ?_;(refine xB ?_ .none rfl (zG (es:=3) rfl rfl U30 (by kernel_rfl) hfi ?_ rfl) ?_;(· rfl);(· first|decide|omega|(simp;done)|(simp;omega));skip);refine Zd V V V (Y62x1 V) ?_;refine Zd V V V (yW (v:=.slice a.A1 y.params.length a.c1) V U22 V (fun w h=>RdF.part (h.2.get RdF.lies hf1) (List.getElem?_eq_some_iff.1 (hcell 1 _ V)).1 (by omega) (hcell 1 _ V))) ?_;refine Zd V V V (yT V U22)<|Zd V V V (Y57x3 V) ?_;refine Zd V V V (yW (v:=.slice A kids.length cap) V U55 V (fun u h=>by rw[cell_of_row u b3 _ _ _ _ h.1];rfl)) ?_;refine Zd V V V (yT V U55)<|wZ ?_;simp only[List.drop_succ_cons,List.drop_zero];refine ZF V (vV V V)<|ZT<|zT V (fun h46=>?_) (fun h46=>?_)
     ·replace h46:=wJ h46;have h46':y.params.length≠kids.length:=by intro e;simp[e] at h46
      refine zY<|Z6r 0 3 6 23 32 46 V V V V V V<|Za V V<|ZT<|zO<|zW<|zL V V (fun w hw=>?_);exact⟨by rw[if_neg hg2,if_neg (fun h=>h32' h.2),hgd,if_pos ⟨hk3,h46'⟩];rfl,(HpG.keep hw).ext⟩
     ·replace h46:=vU h46;have h46':¬y.params.length≠kids.length:=fun e=>e (by omega);refine zM<|zB (ι:={u:Unit // ¬(k=3∧wK fs s<0)∧¬(k=3∧(fs.getD (wK fs s).toNat tM).params.length≠kids.length)}) ⟨(),fun h=>h32' h.2,fun h=>h46' (by rw[← hgd];exact h.2)⟩ (O2 V V) (fun w h=>h)
   ·replace hc:=yS hc;have hk3:k≠3:=by omega
    refine zM<|zB (ι:={u:Unit // ¬(k=3∧wK fs s<0)∧¬(k=3∧(fs.getD (wK fs s).toNat tM).params.length≠kids.length)}) ⟨(),fun h=>hk3 h.1,fun h=>hk3 h.1⟩ (O2 V V) (fun w h=>h)
  ·obtain⟨_,hg3,hg4⟩:=u;refine zY<|zY<|zX<|Za V V<|ZT<|zD<|yH (ι:={i:Nat // i≤kids.length∧rkEs fs nm (kids.take i)=0}) (fun i=>[(0,.pointer (some ⟨cb,0,none⟩)),(3,.pointer (some ⟨b3,0,none⟩)),(7,.int .i64 i.1)]) (fun _=>Hp (fun _=>False) w_0 [(b3,bk 57 (exC k n s A kids.length cap))] [] (xP (fun _=>True) w_0)) (fun i=>kids.length-i.1) ⟨0,Nat.zero_le _,rfl⟩ ?_ ?_ (fun i=>?_)
   ·exact .cons V<|.cons V<|.cons V<|.nil
   ·exact fun w h=>h
   obtain⟨i,hi,hi0⟩:=i;dsimp only;refine zY<|zY<|zX<|Zm V V<|ZF V (Y57x3 V) ?_;refine ZF V (zV 0 V V V U55 V)<|ZF V (yT V U55)<|ZF V (yD V V)<|ZT<|zT V (fun hc=>?_) (fun hc=>?_)
   ·replace hc:=of_decide_eq_true hc;obtain⟨b,off,rfl⟩:=hA (by omega);have hil:i<kids.length:=by omega
    obtain⟨x,hx⟩:∃x,kids[i]? = some x:=⟨kids[i],List.getElem?_eq_getElem hil⟩;have hxm:=List.mem_of_getElem? hx;obtain⟨A1,cap1,hfix⟩:=hk2.fix hx;have hxk:=(hfix (fun _=>True) w_0 hk2).1;have hcell:=(hfix (fun _=>True) w_0 hk2).2;obtain⟨hx1,hx2⟩:=rkEs_at hx hi0;refine zM<|zR<|zY<|zD<|zY<|Z4r 0 3 7 51 V V V V<|Zm V V<|ZF V (Y57x3 V) ?_;refine ZF V (zV 0 V V V U55 V)<|Zm V V ?_;(refine ZF rfl (zG (es:=4) rfl rfl U55 (by kernel_rfl) rfl ?_ rfl) ?_;(· first|decide|omega|(simp;done)|(simp;omega));skip);refine ZF V (yR (cs:=xR x A1 cap1) V U57 V (by kernel_rfl) (fun w h j v hv=>RdF.part ((HpG.x h).get RdF.lies hk1) (List.getElem?_eq_some_iff.1 (hcell j v hv)).1 (by omega) (hcell j v hv))) ?_;refine yY .none V  (v:=.int .i64 (rkE fs nm x:Nat)) (by kernel_rfl) V (fun w hw=>IH x hxm fs nm Ap cp An cn A1 cap1 cb w hn ((HpG.x hw).blk hb) ((HpG.x hw).get PgK.lies hP) ((HpG.x hw).get RdF.lies hR) ((HpG.x hw).get xY.lies hxk)) ?_;refine Za V V<|ZX<|Z5r 0 3 7 8 51 V V V V V<|Zm V V<|ZF V (vV V V)<|ZT<|zT V (fun h62=>?_) (fun h62=>?_)
    ·replace h62:=wJ h62;have h62':rkE fs nm x≠0:=by intro e;simp[e] at h62
     refine zY<|Z6r 0 3 7 8 51 62 V V V V V V<|Zm V V<|Za V V<|ZT<|zO<|zU<|zW<|zW<|zU<|zW<|zL V V (fun w hw=>?_);exact⟨by rw[if_neg hg2,if_neg hg3,if_neg hg4,hx2 h62'],(HpG.keep hw).ext⟩
    ·replace h62:=vU h62;have h62':rkE fs nm x=0:=by omega
     refine zM<|zK<|zR<|Z6r 0 3 7 8 51 62 V V V V V V<|Zm V V ?_;(refine ZF rfl (yL rfl rfl (i64_in _ ?_ ?_)) ?_;(· omega);(· omega);skip);refine Za V V<|zP<|yN (ι:={i:Nat // i≤kids.length∧rkEs fs nm (kids.take i)=0}) ⟨i+1,hil,by rw[hx1,h62']⟩ (by show kids.length-(i+1)<kids.length-i;omega) (O3 V V V) (fun w h=>h)
   ·replace hc:=of_decide_eq_false hc;have hie:i=kids.length:=by omega
    subst hie;rw[List.take_length] at hi0;refine yI<|zS<|zS<|yJ<|zR<|zY<|Z4r 0 3 7 51 V V V V<|Za V V<|ZT<|zO<|zL V V (fun w hw=>?_);exact⟨by rw[if_neg hg2,if_neg hg3,if_neg hg4,hi0];rfl,(HpG.keep hw).ext⟩
theorem rsexpr_all:∀(N:Nat) (x:Ex),SizeOf.sizeOf x<N→RSE x
 | 0,_,h=>absurd h (by omega)
 | N+1,.mk k n s kids,h=>rsexpr_step k n s kids fun x hx=>rsexpr_all N x (by have:=uY (k:=k) (n:=n) (s:=s) hx;omega)
theorem rsexpr_any (x:Ex):RSE x:=rsexpr_all _ x (Nat.lt_succ_self _)
end Go.Proofs.YtfpkpnkdnammnaaGreatDoor
/- The reference's scope: statements. -/
namespace Go.Proofs.YtfpkpnkdnammnaaGreatDoor
open Go.RowKit
theorem HpG.keepX {G B:Nat→Prop} {w0 w w':World} {L:List (Nat×Obj)} {R:List Rw} {X:World→Prop} {k:Nat} {r:Rw} (h:HpG G B w0 L R X w) (hk:R[k]? = some r) (hK:Keep (fun q=>r.v.ownBlock=some q) w w'):X w':=by
 obtain⟨F,hF,hX⟩:=h.foot;refine hX w' fun j hj=>?_;obtain⟨a1,a2,a3,a4⟩:=hF j hj;exact hK.block j a1 fun e=>a3 (List.mem_append_right _ (List.mem_filterMap.2 ⟨r,List.mem_of_getElem? hk,e⟩))
abbrev scR (An:Option Addr) (nm:List Bs) (cn:Nat):Rw:=⟨.slice An nm.length cn,9,1,nm.length,wO nm⟩
theorem rkB_app (fs:List Fn):∀(a b:List St) (nm:List Bs),rkB fs (a++b) nm=if (rkB fs a nm).2≠0 then rkB fs a nm else rkB fs b (rkB fs a nm).1
 | [],b,nm=>by simp[rkB]
 | x::a,b,nm=>by
  have ih:=rkB_app fs a b (rkS fs x nm).1;simp only[List.cons_append,rkB]
  by_cases h:(rkS fs x nm).2=0
  ·simpa [h] using ih
  ·simp[h]
theorem rkB_at {fs:List Fn} {nm nm':List Bs} {l:List St} {i:Nat} {x:St} (hx:l[i]? = some x) (h0:rkB fs (l.take i) nm=(nm',0)):rkB fs (l.take (i+1)) nm=rkS fs x nm'∧((rkS fs x nm').2≠0→rkB fs l nm=rkS fs x nm'):=by
 have e:rkB fs (l.take (i+1)) nm=rkS fs x nm':=by
  rw[xQ hx,rkB_app,h0];simp only[rkB]
  by_cases h:(rkS fs x nm').2≠0
  ·simp[h]
  ·have h':(rkS fs x nm').2=0:=by omega
   simp[← h']
 refine⟨e,fun hn=>?_⟩;have h2:=rkB_app fs (l.take (i+1)) (l.drop (i+1)) nm;rw[List.take_append_drop,e,if_pos hn] at h2;exact h2
mutual
theorem rkS_len (fs:List Fn):∀(x:St) (nm:List Bs),(rkS fs x nm).1.length≤nm.length+stV x
 | .mk k s es b c,nm=>by
  have hb:=rkB_len fs b;have hc:=rkB_len fs c;rw[rkS];simp only[stV];have h1:(if k=1 then nm++[s] else nm).length=nm.length+(if k=1 then 1 else 0):=by split<;>simp
  generalize (if k=1 then nm++[s] else nm)=nm1 at h1;have hb1:=hb nm1;have hc1:=hc (rkB fs b nm1).1
  split
  ·show nm.length≤_;omega
  split
  ·show nm.length≤_;omega
  split
  ·show nm.length≤_;omega
  split
  ·omega
  ·omega
theorem rkB_len (fs:List Fn):∀(l:List St) (nm:List Bs),(rkB fs l nm).1.length≤nm.length+stVs l
 | [],nm=>by simp[rkB,stVs]
 | x::l,nm=>by
  have h1:=rkS_len fs x nm;have h2:=rkB_len fs l (rkS fs x nm).1;rw[rkB];simp only[stVs]
  split<;>omega
end
/-- What the reference's scope does at a block. -/
def RSB (l:List St):Prop:=∀(fs:List Fn) (nm:List Bs) Ap cp An cn F A cap cb w0 v0 (X:World→Prop) w,nm.length+stVs l≤1000000000000→rightSts l=true→PgK F v0 fs Ap cp→xF F v0 l A cap→(∀w,X w→xP F v0 w)→Hp (fun _=>False) w0 [(cb,scO Ap fs.length cp An nm.length cn)] [scR An nm cn] X w →
 Calls Tryz.prog 62 #[.pointer (some ⟨cb,0,none⟩),.slice A l.length cap] w fun e w'=>∃An' cn',e=.returned (.int .i64 ((rkB fs l nm).2:Nat))∧Hp (fun _=>False) w0 [(cb,scO Ap fs.length cp An' (rkB fs l nm).1.length cn')] [scR An' (rkB fs l nm).1 cn'] X w'
set_option maxHeartbeats 8000000 in
set_option maxRecDepth 100000 in
theorem rsstmts_step (a:List St) (IH:∀x∈a,RSB x.body∧RSB x.els):RSB a:=by
 intro fs nm0 Ap cp An0 cn0 F A cap cb w0 v0 X w_0 hn hr hP h hX hH;obtain⟨pa,ca,ra,va⟩:=h;have hla:=pa.lt
 have hA:0<a.length→∃b off,A=some ⟨b,off,none⟩:=fun h0=>by
  obtain⟨b,off,e,_⟩:=ra (by rw[va.len];omega);exact⟨b,off,e⟩
 have hPw:∀w,xP F v0 w→PgK (fun _=>True) w fs Ap cp:=fun w hs=>PgK.lies.mono (fun _ _=>trivial) (hs.get PgK.lies hP);refine zA (args:=[.pointer (some ⟨cb,0,none⟩),.slice A a.length cap]) Tryz.func62 V 95 V (Nat.le_of_ble_eq_true V)<|Z2 0 1 V V<|zF (H':=Hp (fun _=>False) w0 [(cb,scO Ap fs.length cp An0 nm0.length cn0)] [scR An0 nm0 cn0] X) (fun u hu=>?_) ?_
 ·subst hu;exact hH
 refine zY<|zX<|Za V V<|ZX<|zY<|zX<|Za V V<|ZT<|zD<|yH (ι:={j:Nat×Option Addr×Nat×List Bs // j.1≤a.length∧rkB fs (a.take j.1) nm0=(j.2.2.2,0)}) (fun j=>[(0,.pointer (some ⟨cb,0,none⟩)),(1,.slice A a.length cap),(5,.int .i64 j.1.1)]) (fun j=>Hp (fun _=>False) w0 [(cb,scO Ap fs.length cp j.1.2.1 j.1.2.2.2.length j.1.2.2.1)] [scR j.1.2.1 j.1.2.2.2 j.1.2.2.1] X) (fun j=>a.length-j.1.1) ⟨(0,An0,cn0,nm0),Nat.zero_le _,rfl⟩ ?_ ?_ (fun j=>?_)
 ·exact .cons V<|.cons V<|.cons V<|.nil
 ·exact fun w h=>h
 obtain⟨⟨i,An,cn,nm⟩,hi,hi0⟩:=j;dsimp only at hi hi0 ⊢;have hnl:=rkB_len fs (a.take i) nm0;rw[hi0] at hnl;dsimp only at hnl;refine zY<|zY<|zX<|Zm V V<|Zm V V<|ZF V (yT V U58)<|ZF V (yD V V)<|ZT<|zT V (fun hc=>?_) (fun hc=>?_)
 ·replace hc:=of_decide_eq_true hc;obtain⟨g0,o0,rfl⟩:=hA (by omega);have hil:i<a.length:=by omega
  obtain⟨x,hx⟩:∃x,a[i]? = some x:=⟨a[i],List.getElem?_eq_getElem hil⟩;have hxm:=List.mem_of_getElem? hx;obtain⟨a1,hfix⟩:=va.fix hx;have hxk:=(hfix F v0 va).1;have hcell:=(hfix F v0 va).2;have hV2:=stVs_take hx;have hrx:wC x=true:=List.all_eq_true.1 (by rw[← uX];exact hr) x hxm;obtain⟨hx1,hx2⟩:=rkB_at hx hi0
  cases x with
  | mk k s es b c=>?_
  have hI:=IH _ hxm;obtain⟨A1,A2,A3,c1,c2,c3⟩:=a1;obtain⟨p1,p2,p3,⟨x1,h1,k1⟩,h2,h3⟩:=hxk;dsimp only[St.exprs,St.body,St.els] at p1 p2 p3 h1 k1 h2 h3 hI;simp only[rightSt_eq,Bool.and_eq_true] at hrx;obtain⟨⟨⟨hok,hre⟩,hrb⟩,hrc⟩:=hrx;unfold okSt at hok;simp only[Bool.and_eq_true,decide_eq_true_eq] at hok;obtain⟨⟨⟨⟨⟨hka,hkb⟩,hle⟩,_⟩,_⟩,_⟩:=hok
  have hA1:0<es.length→∃b off,A1=some ⟨b,off,none⟩:=fun h0=>by
   obtain⟨b,off,e,_⟩:=h1 (by rw[k1.len];omega);exact⟨b,off,e⟩
  have hel:=p1.lt;simp only[stV] at hV2;have hnml:nm.length≤1000000000000:=by omega
  rw[rkS] at hx1 hx2;refine zM<|zR<|zY<|zD<|xE (ι:=Nat) (fun b6=>[(0,.pointer (some ⟨cb,0,none⟩)),(1,.slice (some ⟨g0,o0,none⟩) a.length cap),(5,.int .i64 i),(6,.pointer (some ⟨b6,0,none⟩))]) (fun b6=>Hp (fun _=>False) w0 [(cb,scO Ap fs.length cp An nm.length cn)] [scR An nm cn] (fun u=>Blk b6 (bk 60 (stC k s A1 es.length c1 A2 b.length c2 A3 c.length c3)) u∧X u)) ?_ (fun b6=>?_)
  ·refine Z4r 0 1 5 15 V V V V<|Zm V V<|Zm V V ?_;(refine ZF rfl (zG (es:=5) rfl rfl U58 (by kernel_rfl) rfl ?_ rfl) ?_;(· first|decide|omega|(simp;done)|(simp;omega));skip);refine ZF V (yR (cs:=stC k s A1 es.length c1 A2 b.length c2 A3 c.length c3) V U60 V (by kernel_rfl) (fun w h j v hv=>RdF.part ((hX _ (HpG.x h)).get RdF.lies ra) (List.getElem?_eq_some_iff.1 (hcell j v hv)).1 (by omega) (hcell j v hv))) ?_;refine zC .none V (yU (z:=.agg #[.int .i64 0,.string ⟨#[]⟩,.slice none 0 0,.slice none 0 0,.slice none 0 0]) (cs:=[.int .i64 0,.string ⟨#[]⟩,.slice none 0 0,.slice none 0 0,.slice none 0 0]) (by kernel_rfl) V) (fun b6=>?_);refine ZR 0 V V V V V (by kernel_rfl) ?_;refine zP<|zB (ι:=Nat) b6 (O4 V V V V) (fun w h=>Hp.toX h id)
  ·refine zY<|xH 7 [0,1,2,3,4,5,6] (fun u=>Blk b6 (bk 60 (stC k s A1 es.length c1 A2 b.length c2 A3 c.length c3)) u∧Blk cb (scO Ap fs.length cp An nm.length cn) u) (by kernel_rfl) (by kernel_rfl) (fun u ob h=>⟨Blk.stab u ob h.1,Blk.stab u ob h.2⟩) (fun w h=>⟨(HpG.x h).1,HpG.blk h (k:=0) rfl⟩) (fun n0 hn0=>?_);refine Zd V V V (Y60x1 V) ?_;refine Zd V V V (yW (v:=.string ⟨s.toArray⟩) V U9 V (fun u h=>by rw[cell_of_row u b6 _ _ _ _ h.1];rfl)) ?_;refine Zd V V V (zH V)<|Zd V V V (yP V)<|Zd V V V (Y109x1 V) ?_;refine Zd V V V (yW (v:=.slice An nm.length cn) V U22 V (fun u h=>by rw[cell_of_row u cb _ _ _ _ h.2];rfl)) ?_;refine yC V<|wI .none V  (v:=.bool (decide (s∈nm))) (by kernel_rfl) V (fun w w' h hx=>⟨Blk.onE h.1 hx,Blk.onE h.2 hx⟩) (fun w hw=>sO nm (by omega) s An cn w (HpG.rowF hw (j:=0) V)) ?_;refine wZ ?_;simp only[List.drop_succ_cons,List.drop_zero];refine Za V V<|ZT<|xE (ι:={u:Unit // ¬(k=2∧s∉nm)}) (fun _=>[(0,.pointer (some ⟨cb,0,none⟩)),(1,.slice (some ⟨g0,o0,none⟩) a.length cap),(5,.int .i64 i),(6,.pointer (some ⟨b6,0,none⟩)),(7,.bool (decide (s∈nm)))]) (fun _=>Hp (fun _=>False) w0 [(cb,scO Ap fs.length cp An nm.length cn)] [scR An nm cn] (fun u=>Blk b6 (bk 60 (stC k s A1 es.length c1 A2 b.length c2 A3 c.length c3)) u∧X u)) ?_ (fun u=>?_)
   ·refine zY<|Z5r 0 1 5 6 7 V V V V V<|ZF V (Y60x0 V) ?_;refine ZF V (yW (v:=.int .i64 k) V U3 V (fun u h=>by rw[cell_of_row u b6 _ _ _ _ (HpG.x h).1];rfl)) ?_;refine ZF V (yX V V)<|Zm V V<|zI 32 V (fun g6=>?_) (fun g6=>?_)
    ·replace g6:=eq_of_beq g6;refine ZG V V V (zH V)<|ZG V V V (xX V)<|ZF V (zQ V V)<|ZT<|zT V (fun h35=>?_) (fun h35=>?_)
     ·refine zY<|Z6r 0 1 5 6 7 35 V V V V V V<|Za V V<|ZT<|zO<|zW<|zU<|zW<|zW<|zU<|zW<|zL V V (fun w hw=>?_);have hkk:k=2∧s∉nm:=⟨by omega,by simpa using h35⟩;rw[if_pos hkk] at hx2;exact⟨An,cn,by rw[hx2 (by simp)];rfl,by rw[hx2 (by simp)];exact Hp.weakX hw fun u hu=>hu.2⟩
     ·refine zM<|zB (ι:={u:Unit // ¬(k=2∧s∉nm)}) ⟨(),by first|exact fun h=>h.2 (by simpa using h35)|exact fun h=>absurd h.1 (by omega)⟩ (O5 rfl rfl rfl rfl rfl) (fun w h=>h)
    ·replace g6:=yS g6;refine ZP rfl<|ZP rfl<|ZF rfl (zN rfl rfl)<|ZT<|wP rfl<|zM<|zB (ι:={u:Unit // ¬(k=2∧s∉nm)}) ⟨(),by first|exact fun h=>h.2 (by simpa using h35)|exact fun h=>absurd h.1 (by omega)⟩ (O5 rfl rfl rfl rfl rfl) (fun w h=>h)
   ·obtain⟨_,hg2⟩:=u;rw[if_neg hg2] at hx1 hx2;refine xE (ι:={u:Unit // ¬(k=1∧s∈nm)}) (fun _=>[(0,.pointer (some ⟨cb,0,none⟩)),(1,.slice (some ⟨g0,o0,none⟩) a.length cap),(5,.int .i64 i),(6,.pointer (some ⟨b6,0,none⟩))]) (fun _=>Hp (fun _=>False) w0 [(cb,scO Ap fs.length cp An nm.length cn)] [scR An nm cn] (fun u=>Blk b6 (bk 60 (stC k s A1 es.length c1 A2 b.length c2 A3 c.length c3)) u∧X u)) ?_ (fun u=>?_)
    ·refine zY<|zX<|ZF V (Y60x0 V) ?_;refine ZF V (yW (v:=.int .i64 k) V U3 V (fun u h=>by rw[cell_of_row u b6 _ _ _ _ (HpG.x h).1];rfl)) ?_;refine ZF V (yX V V)<|Zm V V<|zI 39 V (fun g8=>?_) (fun g8=>?_)
     ·replace g8:=eq_of_beq g8;refine ZG V V V (zH V)<|ZF V (zQ V V)<|ZT<|zT V (fun h41=>?_) (fun h41=>?_)
      ·have hkk:k=1∧s∈nm:=⟨by omega,by simpa using h41⟩;rw[if_pos hkk] at hx2;obtain⟨y,rfl⟩:∃y,es=[y]:=List.length_eq_one_iff.1 (by rw[hle,if_neg (by omega)]);obtain⟨g1,o1,rfl⟩:=hA1 (by simp);obtain⟨B1,cap1,hfixe⟩:=k1.fix (i:=0) (x:=y) rfl;have hyk:=(hfixe F v0 k1).1;have hcelle:=(hfixe F v0 k1).2
       have hx3:rkB fs a nm0=(nm,orE (rkE fs nm y) 22):=by
        have e:rkEs fs nm [y]=rkE fs nm y:=by simp only[rkEs];unfold orE;by_cases h:rkE fs nm y=0<;>simp[h]
        rw[e] at hx2;exact hx2 (by unfold orE;split<;>simp_all)
       refine zY<|Z6r 0 1 5 6 7 41 V V V V V V<|Zm V V<|ZF V (Y60x2 V) ?_;refine ZF V (yW (v:=.slice (some ⟨g1,o1,none⟩) 1 c1) V U55 V (fun u h=>by rw[cell_of_row u b6 _ _ _ _ (HpG.x h).1];rfl)) ?_;(refine ZF rfl (zG (j:=0) (es:=4) rfl rfl U55 (by kernel_rfl) rfl ?_ rfl) ?_;(· first|decide|omega|(simp;done)|(simp;omega));skip);refine ZF V (yR (cs:=xR y B1 cap1) V U57 V (by kernel_rfl) (fun w h j v hv=>RdF.part ((hX _ (HpG.x h).2).get RdF.lies h1) (List.getElem?_eq_some_iff.1 (hcelle j v hv)).1 (by omega) (hcelle j v hv))) ?_;refine yY .none V  (v:=.int .i64 (rkE fs nm y:Nat)) (by kernel_rfl) V (fun w hw=>rsexpr_any y fs nm Ap cp An cn B1 cap1 cb w hnml (HpG.blkL hw (j:=0) V) (hPw w (hX _ (HpG.x hw).2)) (RdF.lies.mono (fun _ _=>trivial) (HpG.rowF hw (j:=0) V)) (xY.lies.mono (fun _ _=>trivial) ((hX _ (HpG.x hw).2).get xY.lies hyk))) ?_;refine Za V V<|ZX<|zY<|Z7r 0 1 5 6 7 8 41 V V V V V V V<|Zm V V<|ZF V (vV V V)<|ZT<|zT V (fun h49=>?_) (fun h49=>?_)
       ·replace h49:=wJ h49;refine zY<|Z8r 0 1 5 6 7 8 41 49 V V V V V V V V<|Zm V V<|Za V V<|ZT<|zO<|zW<|zW<|zU<|zW<|zW<|zU<|zW<|zL V V (fun w hw=>?_);have h49':rkE fs nm y≠0:=by intro e;simp[e] at h49
        rw[hx3];exact⟨An,cn,by rw[show orE (rkE fs nm y) 22=rkE fs nm y from if_pos h49'],Hp.weakX hw fun u hu=>hu.2⟩
       ·replace h49:=vU h49;refine zM<|zR<|zY<|Z8r 0 1 5 6 7 8 41 49 V V V V V V V V<|Za V V<|ZT<|zO<|zW<|zU<|zW<|zW<|zU<|zW<|zL V V (fun w hw=>?_);have h49':rkE fs nm y=0:=by omega
        rw[hx3];exact⟨An,cn,by rw[h49'];rfl,Hp.weakX hw fun u hu=>hu.2⟩
      ·refine zM<|zB (ι:={u:Unit // ¬(k=1∧s∈nm)}) ⟨(),by first|exact fun h=>absurd h.2 (by simpa using h41)|exact fun h=>absurd h.1 (by omega)⟩ (O4 rfl rfl rfl rfl) (fun w h=>h)
     ·replace g8:=yS g8;refine ZP rfl<|ZF rfl (zN rfl rfl)<|ZT<|wP rfl<|zM<|zB (ι:={u:Unit // ¬(k=1∧s∈nm)}) ⟨(),by first|exact fun h=>absurd h.2 (by simpa using h41)|exact fun h=>absurd h.1 (by omega)⟩ (O4 rfl rfl rfl rfl) (fun w h=>h)
    ·obtain⟨_,hg1⟩:=u;rw[if_neg hg1] at hx1 hx2;refine zY<|zY<|zX<|Za V V<|ZT<|zD<|yH (ι:={j:Nat // j≤es.length∧rkEs fs nm (es.take j)=0}) (fun j=>[(0,.pointer (some ⟨cb,0,none⟩)),(1,.slice (some ⟨g0,o0,none⟩) a.length cap),(5,.int .i64 i),(6,.pointer (some ⟨b6,0,none⟩)),(9,.int .i64 j.1)]) (fun _=>Hp (fun _=>False) w0 [(cb,scO Ap fs.length cp An nm.length cn)] [scR An nm cn] (fun u=>Blk b6 (bk 60 (stC k s A1 es.length c1 A2 b.length c2 A3 c.length c3)) u∧X u)) (fun j=>es.length-j.1) ⟨0,Nat.zero_le _,rfl⟩ ?_ ?_ (fun j=>?_)
     ·exact .cons V<|.cons V<|.cons V<|.cons V<|.cons V<|.nil
     ·exact fun w h=>h
     obtain⟨j,hj,hj0⟩:=j;dsimp only;refine zY<|zY<|zX<|Zm V V<|ZF V (Y60x2 V) ?_;refine ZF V (yW (v:=.slice A1 es.length c1) V U55 V (fun u h=>by rw[cell_of_row u b6 _ _ _ _ (HpG.x h).1];rfl)) ?_;refine ZF V (yT V U55)<|ZF V (yD V V)<|ZT<|zT V (fun hc=>?_) (fun hc=>?_)
     ·replace hc:=of_decide_eq_true hc;obtain⟨g1,o1,rfl⟩:=hA1 (by omega);have hjl:j<es.length:=by omega
      obtain⟨y,hy⟩:∃y,es[j]? = some y:=⟨es[j],List.getElem?_eq_getElem hjl⟩;obtain⟨B1,cap1,hfixe⟩:=k1.fix hy;have hyk:=(hfixe F v0 k1).1;have hcelle:=(hfixe F v0 k1).2;obtain⟨hy1,hy2⟩:=rkEs_at hy hj0;refine zM<|zR<|zY<|zD<|zY<|Z6r 0 1 5 6 9 55 V V V V V V<|Zm V V<|ZF V (Y60x2 V) ?_;refine ZF V (yW (v:=.slice (some ⟨g1,o1,none⟩) es.length c1) V U55 V (fun u h=>by rw[cell_of_row u b6 _ _ _ _ (HpG.x h).1];rfl)) ?_;refine Zm V V ?_;(refine ZF rfl (zG (es:=4) rfl rfl U55 (by kernel_rfl) rfl ?_ rfl) ?_;(· first|decide|omega|(simp;done)|(simp;omega));skip);refine ZF V (yR (cs:=xR y B1 cap1) V U57 V (by kernel_rfl) (fun w h j v hv=>RdF.part ((hX _ (HpG.x h).2).get RdF.lies h1) (List.getElem?_eq_some_iff.1 (hcelle j v hv)).1 (by omega) (hcelle j v hv))) ?_;refine yY .none V  (v:=.int .i64 (rkE fs nm y:Nat)) (by kernel_rfl) V (fun w hw=>rsexpr_any y fs nm Ap cp An cn B1 cap1 cb w hnml (HpG.blkL hw (j:=0) V) (hPw w (hX _ (HpG.x hw).2)) (RdF.lies.mono (fun _ _=>trivial) (HpG.rowF hw (j:=0) V)) (xY.lies.mono (fun _ _=>trivial) ((hX _ (HpG.x hw).2).get xY.lies hyk))) ?_;refine Za V V<|ZX<|Z7r 0 1 5 6 9 10 55 V V V V V V V<|Zm V V<|ZF V (vV V V)<|ZT<|zT V (fun h66=>?_) (fun h66=>?_)
      ·replace h66:=wJ h66;have h66':rkE fs nm y≠0:=by intro e;simp[e] at h66
       refine zY<|Z8r 0 1 5 6 9 10 55 66 V V V V V V V V<|Zm V V<|Za V V<|ZT<|zO<|zU<|zW<|zW<|zU<|zW<|zU<|zW<|zW<|zU<|zW<|zL V V (fun w hw=>?_);have hes:=hy2 h66';rw[if_pos (by rw[hes];exact h66')] at hx2;rw[hx2 (by rw[hes];exact h66'),hes];exact⟨An,cn,rfl,Hp.weakX hw fun u hu=>hu.2⟩
      ·replace h66:=vU h66;have h66':rkE fs nm y=0:=by omega
       refine zM<|zK<|zR<|Z8r 0 1 5 6 9 10 55 66 V V V V V V V V<|Zm V V ?_;(refine ZF rfl (yL rfl rfl (i64_in _ ?_ ?_)) ?_;(· omega);(· omega);skip);refine Za V V<|zP<|yN (ι:={j:Nat // j≤es.length∧rkEs fs nm (es.take j)=0}) ⟨j+1,hjl,by rw[hy1,h66']⟩ (by show es.length-(j+1)<es.length-j;omega) (O5 V V V V V) (fun w h=>h)
     ·replace hc:=of_decide_eq_false hc;have hje:j=es.length:=by omega
      subst hje;rw[List.take_length] at hj0;rw[if_neg (by rw[hj0];simp)] at hx1 hx2;refine yI<|zS<|zS<|yJ<|zR<|xE (ι:=Option Addr×Nat) (fun _=>[(0,.pointer (some ⟨cb,0,none⟩)),(1,.slice (some ⟨g0,o0,none⟩) a.length cap),(5,.int .i64 i),(6,.pointer (some ⟨b6,0,none⟩))]) (fun q=>Hp (fun _=>False) w0 [(cb,scO Ap fs.length cp q.1 (if k=1 then nm++[s] else nm).length q.2)] [scR q.1 (if k=1 then nm++[s] else nm) q.2] (fun u=>Blk b6 (bk 60 (stC k s A1 es.length c1 A2 b.length c2 A3 c.length c3)) u∧X u)) ?_ (fun q=>?_)
      ·refine zY<|Z6r 0 1 5 6 9 55 V V V V V V<|ZF V (Y60x0 V) ?_;refine ZF V (yW (v:=.int .i64 k) V U3 V (fun u h=>by rw[cell_of_row u b6 _ _ _ _ (HpG.x h).1];rfl)) ?_;refine ZF V (yX V V)<|ZT<|zT V (fun hc=>?_) (fun hc=>?_)
       ·replace hc:=eq_of_beq hc;have hk1':k=1:=by omega
        refine Z7 0 1 5 6 9 55 70 V V V V V V V<|xH 9 [0,1,2,3,4,5,6,7,8] (fun u=>Blk b6 (bk 60 (stC k s A1 es.length c1 A2 b.length c2 A3 c.length c3)) u∧Blk cb (scO Ap fs.length cp An nm.length cn) u) (by kernel_rfl) (by kernel_rfl) (fun u ob h=>⟨Blk.stab u ob h.1,Blk.stab u ob h.2⟩) (fun w h=>⟨(HpG.x h).1,HpG.blk h (k:=0) rfl⟩) (fun n0 hn0=>?_);refine Zd V V V (zH V)<|Zd V V V (zH V)<|Zd V V V (yP V)<|Zd V V V (Y109x1 V) ?_;refine Zd V V V (yW (v:=.slice An nm.length cn) V U22 V (fun u h=>by rw[cell_of_row u cb _ _ _ _ h.2];rfl)) ?_;refine Zd V V V (Y60x1 V) ?_;refine Zd V V V (yW (v:=.string ⟨s.toArray⟩) V U9 V (fun u h=>by rw[cell_of_row u b6 _ _ _ _ h.1];rfl)) ?_;refine yC V<|tH ?_ .none V (fun k hk=>Nat.lt_of_lt_of_le hk hn0) (yA (z:=.string ⟨#[]⟩) V V U22 (by kernel_rfl) (by kernel_rfl) V V) (fun b78 hb78=>?_)
        ·rfl
        refine yC V<|wd_appendR (z:=.string ⟨#[]⟩) (bytes:=16) 0 0 .none V  V V V V Tryz.underlying22 (by kernel_rfl) V V V V V (by omega) (by omega) (fun w w' h1 h2 hK=>⟨(HpG.keepX h1 (k:=0) V hK).1,Blk.keep h2.2 hK (HpG.neR h1 (i:=1) (k:=0) V V)⟩) (fun a79 c79 N79 h79=>?_);refine wZ ?_;simp only[List.drop_succ_cons,List.drop_zero];refine Zn V V<|ZF V (Y109x1 V) ?_;refine ZS 1 V V V V V (by kernel_rfl) ?_;refine zP<|zB (ι:=Option Addr×Nat) (some ⟨a79,0,none⟩,c79) (O4 V V V V) (fun w h=>?_);dsimp only[scR];rw[if_pos hk1',List.length_append,tV];exact Hp.drop h (List.sublist_cons_self _ _) (List.Sublist.refl _)
       ·replace hc:=yS hc;have hk1':k≠1:=by omega
        refine zM<|zB (ι:=Option Addr×Nat) (An,cn) (O4 V V V V) (fun w h=>?_);rw[if_neg hk1'];exact h
      ·obtain⟨An1,cn1⟩:=q;dsimp only;have hl1:(if k=1 then nm++[s] else nm).length=nm.length+(if k=1 then 1 else 0):=by split<;>simp
       generalize (if k=1 then nm++[s] else nm)=nm1 at hl1 hx1 hx2 ⊢;have hl2:=rkB_len fs b nm1;refine zY<|zX<|Zm V V<|ZF V (Y60x3 V) ?_;refine ZF V (yW (v:=.slice A2 b.length c2) V U58 V (fun u h=>by rw[cell_of_row u b6 _ _ _ _ (HpG.x h).1];rfl)) ?_;refine yG (ι:=Option Addr×Nat) (val:=fun _=>.int .i64 ((rkB fs b nm1).2:Nat)) (H':=fun q=>Hp (fun _=>False) w0 [(cb,scO Ap fs.length cp q.1 (rkB fs b nm1).1.length q.2)] [scR q.1 (rkB fs b nm1).1 q.2] (fun u=>Blk b6 (bk 60 (stC k s A1 es.length c1 A2 b.length c2 A3 c.length c3)) u∧X u)) .none V  (wR (by kernel_rfl) V (fun w hw=>(hI.1 fs nm1 Ap cp An1 cn1 F A2 c2 cb w0 v0 _ w (by omega) hrb hP ⟨p2,h2⟩ (fun w h=>hX w h.2) hw).mono fun e w' ⟨An',cn',e1,e3⟩=>⟨_,e1,(An',cn'),rfl,e3⟩)) (fun q=>?_);obtain⟨An2,cn2⟩:=q;dsimp only;refine Za V V<|ZT<|xE (ι:={q:(Option Addr×Nat)×(List Bs×Nat) // rkB fs (a.take (i+1)) nm0=q.2∧(q.2.2≠0→rkB fs a nm0=q.2)}) (fun q=>[(0,.pointer (some ⟨cb,0,none⟩)),(1,.slice (some ⟨g0,o0,none⟩) a.length cap),(5,.int .i64 i),(11,.int .i64 (q.1.2.2:Nat))]) (fun q=>Hp (fun _=>False) w0 [(cb,scO Ap fs.length cp q.1.1.1 q.1.2.1.length q.1.1.2)] [scR q.1.1.1 q.1.2.1 q.1.1.2] X) ?_ (fun q=>?_)
       ·refine zY<|Z5r 0 1 5 6 11 V V V V V<|Zm V V<|ZF V (yX V V)<|ZT<|zT V (fun h87=>?_) (fun h87=>?_)
        ·replace h87:=eq_of_beq h87;have h87':(rkB fs b nm1).2=0:=by omega
         rw[if_neg (by rw[h87'];simp)] at hx1 hx2;refine Z6r 0 1 5 6 11 87 V V V V V V<|Zm V V<|ZF V (Y60x4 V) ?_;refine ZF V (yW (v:=.slice A3 c.length c3) V U58 V (fun u h=>by rw[cell_of_row u b6 _ _ _ _ (HpG.x h).1];rfl)) ?_;refine yG (ι:=Option Addr×Nat) (val:=fun _=>.int .i64 ((rkB fs c (rkB fs b nm1).1).2:Nat)) (H':=fun q=>Hp (fun _=>False) w0 [(cb,scO Ap fs.length cp q.1 (rkB fs c (rkB fs b nm1).1).1.length q.2)] [scR q.1 (rkB fs c (rkB fs b nm1).1).1 q.2] (fun u=>Blk b6 (bk 60 (stC k s A1 es.length c1 A2 b.length c2 A3 c.length c3)) u∧X u)) .none V  (wR (by kernel_rfl) V (fun w hw=>(hI.2 fs (rkB fs b nm1).1 Ap cp An2 cn2 F A3 c3 cb w0 v0 _ w (by omega) hrc hP ⟨p3,h3⟩ (fun w h=>hX w h.2) hw).mono fun e w' ⟨An',cn',e1,e3⟩=>⟨_,e1,(An',cn'),rfl,e3⟩)) (fun q=>?_);obtain⟨An3,cn3⟩:=q;dsimp only;refine Za V V<|zP<|zB (ι:={q:(Option Addr×Nat)×(List Bs×Nat) // rkB fs (a.take (i+1)) nm0=q.2∧(q.2.2≠0→rkB fs a nm0=q.2)}) ⟨((An3,cn3),rkB fs c (rkB fs b nm1).1),hx1,hx2⟩ (O4 V V V V) (fun w h=>Hp.weakX h fun u hu=>hu.2)
        ·replace h87:=yS h87;have h87':(rkB fs b nm1).2≠0:=by intro e;simp[e] at h87
         rw[if_pos h87'] at hx1 hx2;refine zM<|zB (ι:={q:(Option Addr×Nat)×(List Bs×Nat) // rkB fs (a.take (i+1)) nm0=q.2∧(q.2.2≠0→rkB fs a nm0=q.2)}) ⟨((An2,cn2),rkB fs b nm1),hx1,hx2⟩ (O4 V V V V) (fun w h=>Hp.weakX h fun u hu=>hu.2)
       ·obtain⟨⟨⟨An3,cn3⟩,nm3,e3⟩,hq1,hq2⟩:=q;dsimp only at hq1 hq2 ⊢;refine zY<|zX<|Zm V V<|ZF V (vV V V)<|ZT<|zT V (fun h93=>?_) (fun h93=>?_)
        ·replace h93:=wJ h93;have h93':e3≠0:=by intro e;simp[e] at h93
         refine zY<|Z5r 0 1 5 11 93 V V V V V<|Zm V V<|Za V V<|ZT<|zO<|zU<|zW<|zW<|zU<|zW<|zL V V (fun w hw=>?_);rw[hq2 h93'];exact⟨An3,cn3,rfl,hw⟩
        ·replace h93:=vU h93;have h93':e3=0:=by omega
         refine zM<|zK<|zR<|Z5r 0 1 5 11 93 V V V V V<|Zm V V ?_;(refine ZF rfl (yL rfl rfl (i64_in _ ?_ ?_)) ?_;(· omega);(· omega);skip);refine Za V V<|zP ?_;subst h93';refine yN (ι:={j:Nat×Option Addr×Nat×List Bs // j.1≤a.length∧rkB fs (a.take j.1) nm0=(j.2.2.2,0)}) ⟨(i+1,An3,cn3,nm3),hil,hq1⟩ (by show a.length-(i+1)<a.length-i;omega) (O3 V V V) (fun w h=>h)
 ·replace hc:=of_decide_eq_false hc;have hie:i=a.length:=by omega
  subst hie;rw[List.take_length] at hi0;refine yI<|zS<|zS<|yJ<|zR<|zY<|Z4r 0 1 5 15 V V V V<|Za V V<|ZT<|zO<|zL V V (fun w hw=>?_);rw[hi0];exact⟨An,cn,rfl,hw⟩
theorem rsstmts_all:∀(N:Nat) (x:St),SizeOf.sizeOf x<N→RSB x.body∧RSB x.els
 | 0,_,h=>absurd h (by omega)
 | N+1,.mk k s es b c,h=>⟨rsstmts_step b fun x hx=>rsstmts_all N x (by have:=wH (k:=k) (s:=s) (es:=es) (c:=c) (.inl hx);omega),rsstmts_step c fun x hx=>rsstmts_all N x (by have:=wH (k:=k) (s:=s) (es:=es) (b:=b) (.inr hx);omega)⟩
theorem rsstmts_any (a:List St):RSB a:=rsstmts_step a fun x _=>rsstmts_all _ x (Nat.lt_succ_self _)
end Go.Proofs.YtfpkpnkdnammnaaGreatDoor
/- The reference's Check. -/
namespace Go.Proofs.YtfpkpnkdnammnaaGreatDoor
open Go.RowKit
theorem rkP_app:∀(a b nm:List Bs),rkP nm (a++b)=if rkP nm a≠0 then rkP nm a else rkP (nm++a) b
 | [],b,nm=>by simp[rkP]
 | x::a,b,nm=>by
  have ih:=rkP_app a b (nm++[x]);simp only[List.cons_append,rkP]
  by_cases h:x∈nm
  ·simp[h]
  ·simpa [h,List.append_assoc] using ih
theorem rkP_at {ps:List Bs} {k:Nat} {x:Bs} (hx:ps[k]? = some x) (h0:rkP [] (ps.take k)=0):(x∈ps.take k→rkP [] ps=22)∧(x∉ps.take k→rkP [] (ps.take (k+1))=0):=by
 have e:rkP [] (ps.take (k+1))=if x∈ps.take k then 22 else 0:=by
  rw[xQ hx,rkP_app,h0];simp only[List.nil_append,rkP,ne_eq,not_true,if_false]
 refine⟨fun hm=>?_,fun hm=>by rw[e,if_neg hm]⟩;have h2:=rkP_app (ps.take (k+1)) (ps.drop (k+1)) [];rw[List.take_append_drop,e,if_pos hm,if_pos (by omega)] at h2;exact h2
theorem rkFs_app (fs:List Fn):∀(a b:List Fn),rkFs fs (a++b)=if rkFs fs a≠0 then rkFs fs a else rkFs fs b
 | [],b=>by simp[rkFs]
 | x::a,b=>by
  have ih:=rkFs_app fs a b;simp only[List.cons_append,rkFs]
  by_cases h:rkF fs x=0
  ·simpa [h] using ih
  ·simp[h]
theorem rkFs_at {fs l:List Fn} {i:Nat} {x:Fn} (hx:l[i]? = some x) (h0:rkFs fs (l.take i)=0):rkFs fs (l.take (i+1))=rkF fs x∧(rkF fs x≠0→rkFs fs l=rkF fs x):=by
 have e:rkFs fs (l.take (i+1))=rkF fs x:=by
  rw[xQ hx,rkFs_app,h0];simp only[rkFs]
  by_cases h:rkF fs x=0<;>simp[h]
 refine⟨e,fun hn=>?_⟩;have h2:=rkFs_app fs (l.take (i+1)) (l.drop (i+1));rw[List.take_append_drop,e,if_pos hn] at h2;exact h2
set_option maxHeartbeats 8000000 in
set_option maxRecDepth 100000 in
theorem rcheck_any (fs:List Fn) (F:Nat→Prop) (A:Option Addr) (cap:Nat) (w_0:World) (hN:∀f∈fs,f.params.length+stNs f.body≤1000000000000) (hP:PgK F w_0 fs A cap):Calls Tryz.prog 29 #[.agg [Value.slice A fs.length cap].toArray] w_0 fun e w'=>e=.returned (.int .i64 (vC fs))∧Ext w_0 w':=by
 have hP0:=hP;obtain⟨hcp,xs,hk1,hk2⟩:=hP0;have hlt:=hcp.lt
 have hA:0<fs.length→∃b off,A=some ⟨b,off,none⟩:=fun h0=>by
  obtain⟨b,off,e,_⟩:=hk1 (by rw[hk2.len];omega);exact⟨b,off,e⟩
 refine zA (args:=[Value.agg [Value.slice A fs.length cap].toArray]) Tryz.func29 V 135 V (Nat.le_of_ble_eq_true V)<|Z1 0 V<|zF (H':=Hp (fun _=>False) w_0 [] [] (xP F w_0)) (fun u hu=>?_) ?_
 ·subst hu;exact Hp.startSame
 refine zY<|zX<|zC .none V (wV V V) (fun b1=>?_);refine Za V V<|ZX<|zX<|ZF V (zJ 0 V V U32 V (by kernel_rfl)) ?_;refine yY .none V  (v:=.bool (wA fs)) (by kernel_rfl) V (fun w hw=>rright_any fs F A cap w ((HpG.x hw).get PgK.lies hP)) ?_;refine Za V V<|ZX<|zY<|Z4r 0 1 2 3 V V V V<|Zm V V<|ZF V (xX V)<|ZT<|zT V (fun h16=>?_) (fun h16=>?_)
 ·have hr:wA fs=false:=by simpa using h16
  refine zY<|Z5r 0 1 2 3 16 V V V V V<|Za V V<|ZT<|zO<|zW<|zL V V (fun w hw=>?_);exact⟨by rw[show vC fs=1 from if_pos hr];rfl,(HpG.keep hw).ext⟩
 ·have hr:¬wA fs=false:=by simpa using h16
  refine zM<|zR<|zY<|zY<|Z5r 0 1 2 3 16 V V V V V<|ZF V (Y32x0 V) ?_;refine ZF V (zV 0 V V V U30 V)<|ZF V (yT V U30)<|ZF V (wT V V)<|ZT<|zT V (fun h20=>?_) (fun h20=>?_)
  ·replace h20:=of_decide_eq_true h20;have hl:16<fs.length:=by omega
   refine zY<|Z6r 0 1 2 3 16 20 V V V V V V<|Za V V<|ZT<|zO<|zW<|zL V V (fun w hw=>?_);exact⟨by rw[show vC fs=2 from (if_neg hr).trans (if_pos hl)];rfl,(HpG.keep hw).ext⟩
  ·replace h20:=of_decide_eq_false h20;have hl:¬16<fs.length:=by omega
   refine zM<|zR<|zY<|zY<|Z6r 0 1 2 3 16 20 V V V V V V<|Za V V<|ZT<|zD<|yH (ι:={i:Nat // OnOk fs i}) (fun i=>[(1,.pointer (some ⟨b1,0,none⟩)),(4,.int .i64 i.1)]) (fun _=>Hp (fun _=>False) w_0 [(b1,bk 32 [.slice A fs.length cap])] [] (xP F w_0)) (fun i=>fs.length-i.1) ⟨0,⟨Nat.zero_le _,fun _ h=>absurd h (by omega)⟩⟩ ?_ ?_ (fun i=>?_)
   ·exact .cons V<|.cons V<|.nil
   ·exact fun w h=>h
   obtain⟨i,hi,hno⟩:=i;dsimp only;refine zY<|zY<|zX<|Zm V V<|ZF V (Y32x0 V) ?_;refine ZF V (zV 0 V V V U30 V)<|ZF V (yT V U30)<|ZF V (yD V V)<|ZT<|zT V (fun hc=>?_) (fun hc=>?_)
   ·replace hc:=of_decide_eq_true hc;obtain⟨g0,o0,rfl⟩:=hA (by omega);have hil:i<fs.length:=by omega
    obtain⟨x,hx⟩:∃x,fs[i]? = some x:=⟨fs[i],List.getElem?_eq_getElem hil⟩;obtain⟨a,hfix⟩:=hk2.fix hx;have hcell:=(hfix F w_0 hk2).2;have hgx:fs.getD i tM=x:=by rw[List.getD_eq_getElem?_getD,hx];rfl
    refine zM<|zR<|zY<|zD<|zY<|Z3 1 4 25 V V V<|xH 9 [0,1,2,3,4,5,6,7,8] (fun u=>Blk b1 (bk 32 [.slice (some ⟨g0,o0,none⟩) fs.length cap]) u∧xP F w_0 u) (by kernel_rfl) (by kernel_rfl) (fun u ob h=>⟨Blk.stab u ob h.1,xP.stab u ob h.2⟩) (fun w h=>⟨HpG.blk h (k:=0) rfl,HpG.x h⟩) (fun n0 hn0=>?_);refine Zd V V V (yR (cs:=[Value.slice (some ⟨g0,o0,none⟩) fs.length cap]) V U32 V (by kernel_rfl) (fun w h j v hv=>by rw[Nat.zero_add,cell_of_row w b1 j _ _ _ h.1,List.getElem?_toArray];exact hv)) ?_;refine Zd V V V (Y32x0 V) ?_;refine Zd V V V (yW (v:=.slice (some ⟨g0,o0,none⟩) fs.length cap) V U30 V (fun u h=>by rw[cell_of_row u b1 _ _ _ _ h.1];rfl)) ?_;refine Zd V V V (zH V)<|yC V ?_;(refine xB ?_ .none rfl (zG (es:=3) rfl rfl U30 (by kernel_rfl) rfl ?_ rfl) ?_;(· rfl);(· first|decide|omega|(simp;done)|(simp;omega));skip);refine Zd V V V (Y62x0 V) ?_;refine Zd V V V (yW (v:=.string ⟨x.name.toArray⟩) V U9 V (fun w h=>RdF.part (h.2.get RdF.lies hk1) (List.getElem?_eq_some_iff.1 (hcell 0 _ V)).1 (by omega) (hcell 0 _ V))) ?_;refine yC V<|wI .none V  (v:=.int .i64 (wK fs x.name)) (by kernel_rfl) V (fun w w' h hx=>⟨Blk.onE h.1 hx,h.2.ext hx⟩) (fun w hw=>rfind_any fs x.name F _ cap w ((HpG.x hw).get PgK.lies hP)) ?_;refine Zd V V V (zH V)<|wZ ?_;simp only[List.drop_succ_cons,List.drop_zero];refine ZF V (vV V V)<|ZT<|zT V (fun h37=>?_) (fun h37=>?_)
    ·replace h37:=wJ h37;refine zY<|Z4r 1 4 25 37 V V V V<|Za V V<|ZT<|zO<|zU<|zW<|zW<|zU<|zW<|zL V V (fun w hw=>?_);refine⟨?_,(HpG.keep hw).ext⟩;have h37':wK fs x.name≠(i:Nat):=by intro e;simp[e] at h37
     rw[show vC fs=22 from (if_neg hr).trans ((if_neg hl).trans (if_pos (List.any_eq_true.2 ⟨i,List.mem_range.2 hil,by rw[hgx,decide_eq_true_eq];exact h37'⟩)))];rfl
    ·replace h37:=vU h37;have h37':wK fs x.name=(i:Nat):=by simpa using h37
     refine zM<|zK<|zR<|Z4r 1 4 25 37 V V V V<|Zm V V ?_;(refine ZF rfl (yL rfl rfl (i64_in _ ?_ ?_)) ?_;(· omega);(· omega);skip);refine Za V V<|zP<|yN (ι:={i:Nat // OnOk fs i}) ⟨i+1,⟨by omega,fun j hj=>?_⟩⟩ (by show fs.length-(i+1)<fs.length-i;omega) (O2 V V) (fun w h=>h);rcases Nat.lt_or_ge j i with h1|h1
     ·exact hno j h1
     ·have:j=i:=by omega
      subst this;rw[hgx];exact h37'
   ·replace hc:=of_decide_eq_false hc;have hie:i=fs.length:=by omega
    subst hie
    have hon:¬(List.range fs.length).any (fun i=>decide (wK fs (fs.getD i tM).name≠i))=true:=by
     rw[List.any_eq_true]
     rintro⟨j,hj,hd⟩
     exact of_decide_eq_true hd (hno j (List.mem_range.1 hj))
    refine yI<|zS<|zS<|yJ<|zR<|zY<|Z3r 1 4 25 V V V<|ZF V (zJ 0 V V U32 V (by kernel_rfl)) ?_;refine yY .none V  (v:=.int .i64 (wK fs [109,97,105,110])) (by kernel_rfl) V (fun w hw=>rfind_any fs [109,97,105,110] F A cap w ((HpG.x hw).get PgK.lies hP)) ?_;refine Za V V<|ZX<|zY<|Z4r 1 4 5 25 V V V V<|Zm V V<|ZF V (yD V V)<|ZT<|zT V (fun h41=>?_) (fun h41=>?_)
    ·replace h41:=of_decide_eq_true h41;have hm:wK fs [109,97,105,110]<0:=by simpa using h41
     refine zY<|Z5r 1 4 5 25 41 V V V V V<|Za V V<|ZT<|zO<|zW<|zL V V (fun w hw=>?_);exact⟨by rw[show vC fs=21 from (if_neg hr).trans ((if_neg hl).trans ((if_neg hon).trans (if_pos hm)))];rfl,(HpG.keep hw).ext⟩
    ·replace h41:=of_decide_eq_false h41;have hm:¬wK fs [109,97,105,110]<0:=by simpa using h41
     obtain⟨i,y,hfi,hy,_⟩:=sS hm;have hil:=(List.getElem?_eq_some_iff.1 hy).1;obtain⟨g0,o0,rfl⟩:=hA (by omega);obtain⟨a,hfix⟩:=hk2.fix hy;have hcell:=(hfix F w_0 hk2).2;have hfi:wK fs [109,97,105,110]=(i:Nat):=hfi;have hgd:fs.getD (wK fs [109,97,105,110]).toNat tM=y:=by rw[hfi,Int.toNat_natCast,List.getD_eq_getElem?_getD,hy];rfl
     refine zM<|zR<|zY<|zY<|Z5r 1 4 5 25 41 V V V V V<|ZF V (Y32x0 V) ?_;refine ZF V (zV 0 V V V U30 V)<|Zm V V ?_;(refine ZF rfl (zG (es:=3) rfl rfl U30 (by kernel_rfl) hfi ?_ rfl) ?_;(· first|decide|omega|(simp;done)|(simp;omega));skip);refine ZF V (Y62x1 V) ?_;refine ZF V (yW (v:=.slice a.A1 y.params.length a.c1) V U22 V (fun w h=>RdF.part ((HpG.x h).get RdF.lies hk1) (List.getElem?_eq_some_iff.1 (hcell 1 _ V)).1 (by omega) (hcell 1 _ V))) ?_;refine ZF V (yT V U22)<|ZF V (wT V V)<|ZT<|zT V (fun h49=>?_) (fun h49=>?_)
     ·replace h49:=of_decide_eq_true h49;have hy0:0<(fs.getD (wK fs [109,97,105,110]).toNat tM).params.length:=by rw[hgd];omega
      refine zY<|Z6r 1 4 5 25 41 49 V V V V V V<|Za V V<|ZT<|zO<|zW<|zL V V (fun w hw=>?_);exact⟨by rw[show vC fs=23 from (if_neg hr).trans ((if_neg hl).trans ((if_neg hon).trans ((if_neg hm).trans (if_pos hy0))))];rfl,(HpG.keep hw).ext⟩
     ·replace h49:=of_decide_eq_false h49;have hy0:¬0<(fs.getD (wK fs [109,97,105,110]).toNat tM).params.length:=by rw[hgd];omega
      have hck:vC fs=rkFs fs fs:=(if_neg hr).trans ((if_neg hl).trans ((if_neg hon).trans ((if_neg hm).trans ((if_neg hy0).trans (ckFs_eq fs fs)))))
      have hrt:wA fs=true:=by cases h:wA fs with
       | true=>rfl
       | false=>exact absurd h hr
      rw[hck];refine zM<|zR<|zY<|zY<|Z6r 1 4 5 25 41 49 V V V V V V<|Za V V<|ZT<|zD<|yH (ι:={i:Nat // i≤fs.length∧rkFs fs (fs.take i)=0}) (fun i=>[(1,.pointer (some ⟨b1,0,none⟩)),(6,.int .i64 i.1)]) (fun _=>Hp (fun _=>False) w_0 [] [] (fun u=>Blk b1 (bk 32 [.slice (some ⟨g0,o0,none⟩) fs.length cap]) u∧xP F w_0 u)) (fun i=>fs.length-i.1) ⟨0,Nat.zero_le _,rfl⟩ ?_ ?_ (fun i=>?_)
      ·exact .cons V<|.cons V<|.nil
      ·exact fun w h=>Hp.toX h id
      obtain⟨j,hj,hj0⟩:=i;dsimp only;refine zY<|zY<|zX<|Zm V V<|ZF V (Y32x0 V) ?_;refine ZF V (yW (v:=.slice (some ⟨g0,o0,none⟩) fs.length cap) V U30 V (fun u h=>by rw[cell_of_row u b1 _ _ _ _ (HpG.x h).1];rfl)) ?_;refine ZF V (yT V U30)<|ZF V (yD V V)<|ZT<|zT V (fun hc=>?_) (fun hc=>?_)
      ·replace hc:=of_decide_eq_true hc;have hjl:j<fs.length:=by omega
       obtain⟨x,hx⟩:∃x,fs[j]? = some x:=⟨fs[j],List.getElem?_eq_getElem hjl⟩;have hxm:=List.mem_of_getElem? hx;obtain⟨ax,hfx⟩:=hk2.fix hx;have hcx:=(hfx F w_0 hk2).2;have hxk:=(hfx F w_0 hk2).1;have hNx:=hN x hxm;have hrx:vK x=true:=List.all_eq_true.1 hrt x hxm;unfold vK at hrx;simp only[Bool.and_eq_true] at hrx;obtain⟨hx1,hx2⟩:=rkFs_at (fs:=fs) hx hj0;obtain⟨nm,ps,body⟩:=x;obtain⟨A1,A2,c1,c2⟩:=ax;obtain⟨p1,p2,hp1,hp2⟩:=hxk;dsimp only at p1 p2 hp1 hp2 hNx hrx;have hpl:=p1.lt;have hvl:=stVs_le body
       have hA1:0<ps.length→∃b off,A1=some ⟨b,off,none⟩:=fun h0=>by
        obtain⟨b,off,e,_⟩:=hp1 (by rw[strs_len];omega);exact⟨b,off,e⟩
       refine zM<|zR<|zY<|zD<|zY<|Z3r 1 6 54 V V V<|ZF V (Y32x0 V) ?_;refine ZF V (yW (v:=.slice (some ⟨g0,o0,none⟩) fs.length cap) V U30 V (fun u h=>by rw[cell_of_row u b1 _ _ _ _ (HpG.x h).1];rfl)) ?_;refine Zm V V ?_;(refine ZF rfl (zG (es:=3) rfl rfl U30 (by kernel_rfl) rfl ?_ rfl) ?_;(· first|decide|omega|(simp;done)|(simp;omega));skip);refine ZF V (yR (cs:=fnC nm A1 ps.length c1 A2 body.length c2) V U62 V (by kernel_rfl) (fun w h j v hv=>RdF.part ((HpG.x h).2.get RdF.lies hk1) (List.getElem?_eq_some_iff.1 (hcx j v hv)).1 (by omega) (hcx j v hv))) ?_;refine zC .none V (yU (z:=.agg #[.string ⟨#[]⟩,.slice none 0 0,.slice none 0 0]) (cs:=[.string ⟨#[]⟩,.slice none 0 0,.slice none 0 0]) (by kernel_rfl) V) (fun b7=>?_);refine ZR 0 V V V V V (by kernel_rfl) ?_;refine ZX<|Z4r 1 6 7 54 V V V V<|ZF V (Y62x2 V) ?_;refine ZF V (zV 0 V V V U58 V)<|yY .none V  (v:=.agg (szV (stNs body) (stVs body) (stDps body) (stXds body)).toArray) (by kernel_rfl) V (fun w hw=>rstmtSize_any body F A2 c2 w (by omega) ((HpG.x hw).2.get xF.lies ⟨p2,hp2⟩)) ?_;refine zC .none V (yU (z:=.agg #[.int .i64 0,.int .i64 0,.int .i64 0,.int .i64 0]) (cs:=[.int .i64 0,.int .i64 0,.int .i64 0,.int .i64 0]) (by kernel_rfl) V) (fun b8=>?_);refine ZR 0 V V V V V (by kernel_rfl) ?_;refine ZX<|xE (ι:=Unit) (fun _=>[(1,.pointer (some ⟨b1,0,none⟩)),(6,.int .i64 j),(7,.pointer (some ⟨b7,0,none⟩)),(92,.bool (decide (uF ⟨nm,ps,body⟩)))]) (fun _=>Hp (fun _=>False) w_0 [] [] (fun u=>Blk b7 (bk 62 (fnC nm A1 ps.length c1 A2 body.length c2)) u∧Blk b1 (bk 32 [.slice (some ⟨g0,o0,none⟩) fs.length cap]) u∧xP F w_0 u)) ?_ (fun _=>?_)
       ·refine Z5r 1 6 7 8 54 V V V V V<|ZF V (Y62x1 V) ?_;refine ZF V (zV 1 V V V U22 V)<|ZF V (yT V U22)<|ZF V (wT V V)<|Zm V V<|zI 69 V (fun g5=>?_) (fun g5=>?_)
        ·replace g5:=of_decide_eq_true g5;refine ZP V<|ZP V<|ZP V<|ZP V<|ZP V<|ZP V<|ZP V<|ZF V (zQ V V)<|Zm V V<|ZP V<|ZP V<|ZP V<|ZF V (zQ V V)<|Zm V V<|ZP V<|ZP V<|ZP V<|ZF V (zQ V V)<|Zm V V<|ZP V<|ZP V<|ZP V<|ZF V (zQ V V)<|zP ?_
         refine zB (ι:=Unit) () (.cons V<|.cons V<|.cons V<|.cons (by
          show some (Value.bool _)=some (Value.bool _);congr 2
          first
          | (rw[Eq.comm,decide_eq_true_eq];unfold uF;dsimp only;omega)
          | (rw[Bool.eq_iff_iff,decide_eq_true_eq,decide_eq_true_eq];unfold uF;dsimp only;omega))<|.nil) (fun w h=>Hp.toX (Hp.drop h (List.sublist_cons_self _ _) (List.Sublist.refl _)) id)
        ·replace g5:=of_decide_eq_false g5;refine ZG V V V (Y62x1 V) ?_;refine ZG V V V (zV 1 V V V U22 V)<|ZG V V V (yT V U22)<|ZG V V V (Y105x1 V) ?_;refine ZG V V V (zV 0 V V V U3 V) ?_;(refine ZG rfl rfl rfl (yL rfl rfl (i64_in _ ?_ ?_)) ?_;(· omega);(· omega);skip);refine ZG V V V (wT V V)<|ZF V (zN V V)<|Zm V V<|zI 78 V (fun g14=>?_) (fun g14=>?_)
         ·replace g14:=of_decide_eq_true g14;refine ZP V<|ZP V<|ZP V<|ZF V (zQ V V)<|Zm V V<|ZP V<|ZP V<|ZP V<|ZF V (zQ V V)<|Zm V V<|ZP V<|ZP V<|ZP V<|ZF V (zQ V V)<|zP ?_
          refine zB (ι:=Unit) () (.cons V<|.cons V<|.cons V<|.cons (by
           show some (Value.bool _)=some (Value.bool _);congr 2
           first
           | (rw[Eq.comm,decide_eq_true_eq];unfold uF;dsimp only;omega)
           | (rw[Bool.eq_iff_iff,decide_eq_true_eq,decide_eq_true_eq];unfold uF;dsimp only;omega))<|.nil) (fun w h=>Hp.toX (Hp.drop h (List.sublist_cons_self _ _) (List.Sublist.refl _)) id)
         ·replace g14:=of_decide_eq_false g14;refine ZG V V V (Y105x0 V) ?_;refine ZG V V V (zV 0 V V V U3 V)<|ZG V V V (wT V V)<|ZF V (zN V V)<|Zm V V<|zI 83 V (fun g19=>?_) (fun g19=>?_)
          ·replace g19:=of_decide_eq_true g19;refine ZP V<|ZP V<|ZP V<|ZF V (zQ V V)<|Zm V V<|ZP V<|ZP V<|ZP V<|ZF V (zQ V V)<|zP ?_
           refine zB (ι:=Unit) () (.cons V<|.cons V<|.cons V<|.cons (by
            show some (Value.bool _)=some (Value.bool _);congr 2
            first
            | (rw[Eq.comm,decide_eq_true_eq];unfold uF;dsimp only;omega)
            | (rw[Bool.eq_iff_iff,decide_eq_true_eq,decide_eq_true_eq];unfold uF;dsimp only;omega))<|.nil) (fun w h=>Hp.toX (Hp.drop h (List.sublist_cons_self _ _) (List.Sublist.refl _)) id)
          ·replace g19:=of_decide_eq_false g19;refine ZG V V V (Y105x2 V) ?_;refine ZG V V V (zV 0 V V V U3 V)<|ZG V V V (wT V V)<|ZF V (zN V V)<|Zm V V<|zI 88 V (fun g24=>?_) (fun g24=>?_)
           ·replace g24:=of_decide_eq_true g24;refine ZP V<|ZP V<|ZP V<|ZF V (zQ V V)<|zP ?_
            refine zB (ι:=Unit) () (.cons V<|.cons V<|.cons V<|.cons (by
             show some (Value.bool _)=some (Value.bool _);congr 2
             first
             | (rw[Eq.comm,decide_eq_true_eq];unfold uF;dsimp only;omega)
             | (rw[Bool.eq_iff_iff,decide_eq_true_eq,decide_eq_true_eq];unfold uF;dsimp only;omega))<|.nil) (fun w h=>Hp.toX (Hp.drop h (List.sublist_cons_self _ _) (List.Sublist.refl _)) id)
           ·replace g24:=of_decide_eq_false g24;refine ZG V V V (Y105x3 V) ?_;refine ZG V V V (zV 0 V V V U3 V)<|ZG V V V (wT V V)<|ZF V (zN V V)<|zP ?_
            refine zB (ι:=Unit) () (.cons V<|.cons V<|.cons V<|.cons (by
             show some (Value.bool _)=some (Value.bool _);congr 2
             first
             | (rw[Eq.comm,decide_eq_true_eq];unfold uF;dsimp only;omega)
             | (rw[Bool.eq_iff_iff,decide_eq_true_eq,decide_eq_true_eq];unfold uF;dsimp only;omega))<|.nil) (fun w h=>Hp.toX (Hp.drop h (List.sublist_cons_self _ _) (List.Sublist.refl _)) id)
       ·refine zT V (fun h92=>?_) (fun h92=>?_)
        ·have hmf:=of_decide_eq_true h92;refine zY<|zX<|Za V V<|ZT<|zO<|zW<|zU<|zW<|zW<|zU<|zW<|zL V V (fun w hw=>?_);have hkf:rkF fs ⟨nm,ps,body⟩=2:=if_pos hmf;exact⟨by rw[hx2 (by rw[hkf];simp),hkf];rfl,(HpG.keep hw).ext⟩
        ·have hmf:=of_decide_eq_false h92;refine zM<|zR<|zY<|zX<|ZF V (yR (cs:=[Value.slice (some ⟨g0,o0,none⟩) fs.length cap]) V U32 V (by kernel_rfl) (fun w h j v hv=>by rw[Nat.zero_add,cell_of_row w b1 j _ _ _ (HpG.x h).2.1,List.getElem?_toArray];exact hv)) ?_;refine ZF V (yV [.slice none 0 0,.slice none 0 0] [(0,1),(1,1)] V (by kernel_rfl) (by kernel_rfl) V) ?_;refine zC .none V (wV V V) (fun b95=>?_);refine Za V V<|ZX<|zY<|Z5r 1 6 7 9 92 V V V V V<|Za V V<|ZT<|zD<|yH (ι:={q:Nat×Option Addr×Nat // q.1≤ps.length∧rkP [] (ps.take q.1)=0}) (fun q=>[(1,.pointer (some ⟨b1,0,none⟩)),(6,.int .i64 j),(7,.pointer (some ⟨b7,0,none⟩)),(9,.pointer (some ⟨b95,0,none⟩)),(10,.int .i64 q.1.1)]) (fun q=>Hp (fun _=>False) w_0 [(b95,scO (some ⟨g0,o0,none⟩) fs.length cap q.1.2.1 (ps.take q.1.1).length q.1.2.2)] [scR q.1.2.1 (ps.take q.1.1) q.1.2.2] (fun u=>Blk b7 (bk 62 (fnC nm A1 ps.length c1 A2 body.length c2)) u∧Blk b1 (bk 32 [.slice (some ⟨g0,o0,none⟩) fs.length cap]) u∧xP F w_0 u)) (fun q=>ps.length-q.1.1) ⟨(0,none,0),Nat.zero_le _,rfl⟩ ?_ ?_ (fun q=>?_)
         ·exact .cons V<|.cons V<|.cons V<|.cons V<|.cons V<|.nil
         ·exact fun w h=>Hp.nil h 9 1
         obtain⟨⟨k,An,cn⟩,hk,hk0⟩:=q;dsimp only at hk hk0 ⊢;have hkl2:(ps.take k).length≤ps.length:=List.length_take_le' ..;refine zY<|zY<|zX<|Zm V V<|ZF V (Y62x1 V) ?_;refine ZF V (yW (v:=.slice A1 ps.length c1) V U22 V (fun u h=>by rw[cell_of_row u b7 _ _ _ _ (HpG.x h).1];rfl)) ?_;refine ZF V (yT V U22)<|ZF V (yD V V)<|ZT<|zT V (fun hc=>?_) (fun hc=>?_)
         ·replace hc:=of_decide_eq_true hc;obtain⟨q1,r1,rfl⟩:=hA1 (by omega);have hkl:k<ps.length:=by omega
          obtain⟨s,hs⟩:∃s,ps[k]? = some s:=⟨ps[k],List.getElem?_eq_getElem hkl⟩;obtain⟨hs1,hs2⟩:=rkP_at hs hk0;refine zM<|zR<|zY<|zD<|zY<|Z6 1 6 7 9 10 100 V V V V V V<|xH 10 [0,1,2,3,4,5,6,7,8,9] (fun u=>Blk b95 (scO (some ⟨g0,o0,none⟩) fs.length cap An (ps.take k).length cn) u∧Blk b7 (bk 62 (fnC nm (some ⟨q1,r1,none⟩) ps.length c1 A2 body.length c2)) u∧xP F w_0 u) (by kernel_rfl) (by kernel_rfl) (fun u ob h=>⟨Blk.stab u ob h.1,Blk.stab u ob h.2.1,xP.stab u ob h.2.2⟩) (fun w h=>⟨HpG.blk h (k:=0) rfl,(HpG.x h).1,(HpG.x h).2.2⟩) (fun n0 hn0=>?_);refine Zd V V V (Y62x1 V) ?_;refine Zd V V V (yW (v:=.slice (some ⟨q1,r1,none⟩) ps.length c1) V U22 V (fun u h=>by rw[cell_of_row u b7 _ _ _ _ h.2.1];rfl)) ?_;refine Zd V V V (zH V)<|yC V ?_;(refine xB ?_ .none rfl (zG (es:=1) rfl rfl U22 (by kernel_rfl) rfl ?_ rfl) ?_;(· rfl);(· first|decide|omega|(simp;done)|(simp;omega));skip);refine Zd V V V (yW (v:=.string ⟨s.toArray⟩) V U9 V (fun w h=>RdF.part (h.2.2.get RdF.lies hp1) (by rw[strs_len];exact hkl) (by omega) (tX hs))) ?_;refine Zd V V V (zH V)<|Zd V V V (yP V)<|Zd V V V (Y109x1 V) ?_;refine Zd V V V (yW (v:=.slice An (ps.take k).length cn) V U22 V (fun u h=>by rw[cell_of_row u b95 _ _ _ _ h.1];rfl)) ?_;refine yC V<|wI .none V  (v:=.bool (decide (s∈ps.take k))) (by kernel_rfl) V (fun w w' h hx=>⟨Blk.onE h.1 hx,Blk.onE h.2.1 hx,h.2.2.ext hx⟩) (fun w hw=>sO (ps.take k) (by omega) s An cn w (HpG.rowF hw (j:=0) V)) ?_;refine wZ ?_;simp only[List.drop_succ_cons,List.drop_zero];refine Za V V<|ZX<|zY<|Z7r 1 6 7 9 10 11 100 V V V V V V V<|Zm V V<|ZT<|zT V (fun h113=>?_) (fun h113=>?_)
          ·refine zY<|zX<|Za V V<|ZT<|zO<|zW<|zU<|zW<|zW<|zU<|zW<|zU<|zW<|zW<|zU<|zW<|zL V V (fun w hw=>?_);have hsm:=hs1 (of_decide_eq_true h113);have hkf:rkF fs ⟨nm,ps,body⟩=22:=(if_neg hmf).trans ((if_pos (by show rkP [] ps≠0;rw[hsm];simp)).trans hsm);exact⟨by rw[hx2 (by rw[hkf];simp),hkf];rfl,(HpG.keep hw).ext⟩
          ·refine zM<|zR<|xH 12 [0,1,2,3,4,5,6,7,8,9,10,11] (fun u=>Blk b95 (scO (some ⟨g0,o0,none⟩) fs.length cap An (ps.take k).length cn) u∧Blk b7 (bk 62 (fnC nm (some ⟨q1,r1,none⟩) ps.length c1 A2 body.length c2)) u∧xP F w_0 u) (by kernel_rfl) (by kernel_rfl) (fun u ob h=>⟨Blk.stab u ob h.1,Blk.stab u ob h.2.1,xP.stab u ob h.2.2⟩) (fun w h=>⟨HpG.blk h (k:=0) rfl,(HpG.x h).1,(HpG.x h).2.2⟩) (fun n0 hn0=>?_);refine Zd V V V (zH V)<|Zd V V V (zH V)<|Zd V V V (yP V)<|Zd V V V (Y109x1 V) ?_;refine Zd V V V (yW (v:=.slice An (ps.take k).length cn) V U22 V (fun u h=>by rw[cell_of_row u b95 _ _ _ _ h.1];rfl)) ?_;refine Zd V V V (Y62x1 V) ?_;refine Zd V V V (yW (v:=.slice (some ⟨q1,r1,none⟩) ps.length c1) V U22 V (fun u h=>by rw[cell_of_row u b7 _ _ _ _ h.2.1];rfl)) ?_;refine Zd V V V (zH V)<|yC V ?_;(refine xB ?_ .none rfl (zG (es:=1) rfl rfl U22 (by kernel_rfl) rfl ?_ rfl) ?_;(· rfl);(· first|decide|omega|(simp;done)|(simp;omega));skip);refine Zd V V V (yW (v:=.string ⟨s.toArray⟩) V U9 V (fun w h=>RdF.part (h.2.2.get RdF.lies hp1) (by rw[strs_len];exact hkl) (by omega) (tX hs))) ?_;refine yC V<|tH ?_ .none V (fun k hk=>Nat.lt_of_lt_of_le hk hn0) (yA (z:=.string ⟨#[]⟩) V V U22 (by kernel_rfl) (by kernel_rfl) V V) (fun b124 hb124=>?_)
           ·rfl
           refine yC V<|wd_appendR (z:=.string ⟨#[]⟩) (bytes:=16) 0 0 .none V  V V V V Tryz.underlying22 (by kernel_rfl) V V V V V (by omega) (by omega) (fun w w' h1 h2 hK=>⟨Blk.keep h2.1 hK (HpG.neR h1 (i:=1) (k:=0) V V),(HpG.keepX h1 (k:=0) V hK).1,(HpG.keepX h1 (k:=0) V hK).2.2⟩) (fun a125 c125 N125 h125=>?_);refine wZ ?_;simp only[List.drop_succ_cons,List.drop_zero];refine Zn V V<|ZF V (Y109x1 V) ?_;refine ZS 1 V V V V V (by kernel_rfl) ?_;refine zP<|zK<|zR<|Z8r 1 6 7 9 10 11 100 113 V V V V V V V V<|Zm V V ?_;(refine ZF rfl (yL rfl rfl (i64_in _ ?_ ?_)) ?_;(· omega);(· omega);skip);refine Za V V<|zP<|yN (ι:={q:Nat×Option Addr×Nat // q.1≤ps.length∧rkP [] (ps.take q.1)=0}) ⟨(k+1,some ⟨a125,0,none⟩,c125),hkl,hs2 (of_decide_eq_false h113)⟩ (by show ps.length-(k+1)<ps.length-k;omega) (O5 V V V V V) (fun w h=>?_);dsimp only[scR];rw[xQ hs,List.length_append,tV];exact Hp.drop h (List.sublist_cons_self _ _) (List.Sublist.refl _)
         ·replace hc:=of_decide_eq_false hc;have hke:k=ps.length:=by omega
          subst hke;rw[List.take_length] at hk0 ⊢;refine yI<|zS<|zS<|yJ<|zR<|zY<|Z6r 1 6 7 9 10 100 V V V V V V<|Zm V V<|ZF V (Y62x2 V) ?_;refine ZF V (yW (v:=.slice A2 body.length c2) V U58 V (fun u h=>by rw[cell_of_row u b7 _ _ _ _ (HpG.x h).1];rfl)) ?_;refine yG (ι:=Option Addr×Nat) (val:=fun _=>.int .i64 ((rkB fs body ps).2:Nat)) (H':=fun q=>Hp (fun _=>False) w_0 [(b95,scO (some ⟨g0,o0,none⟩) fs.length cap q.1 (rkB fs body ps).1.length q.2)] [scR q.1 (rkB fs body ps).1 q.2] (fun u=>Blk b7 (bk 62 (fnC nm A1 ps.length c1 A2 body.length c2)) u∧Blk b1 (bk 32 [.slice (some ⟨g0,o0,none⟩) fs.length cap]) u∧xP F w_0 u)) .none V  (wR (by kernel_rfl) V (fun w hw=>(rsstmts_any body fs ps (some ⟨g0,o0,none⟩) cap An cn F A2 c2 b95 w_0 w_0 _ w (by omega) hrx.2 hP ⟨p2,hp2⟩ (fun w h=>h.2.2) hw).mono fun e w' ⟨An',cn',e1,e3⟩=>⟨_,e1,(An',cn'),rfl,e3⟩)) (fun q=>?_);obtain⟨An2,cn2⟩:=q;dsimp only;have hkf:rkF fs ⟨nm,ps,body⟩=(rkB fs body ps).2:=(if_neg hmf).trans (if_neg (by show ¬rkP [] ps≠0;rw[hk0];simp));refine Za V V<|ZX<|Z7r 1 6 7 9 10 12 100 V V V V V V V<|Zm V V<|ZF V (vV V V)<|ZT<|zT V (fun h133=>?_) (fun h133=>?_)
          ·replace h133:=wJ h133;refine zY<|Z8r 1 6 7 9 10 12 100 133 V V V V V V V V<|Zm V V<|Za V V<|ZT<|zO<|zU<|zW<|zW<|zU<|zW<|zL V V (fun w hw=>?_);have h133':(rkB fs body ps).2≠0:=by intro e;simp[e] at h133
           exact⟨by rw[hx2 (by rw[hkf];exact h133'),hkf],(HpG.keep hw).ext⟩
          ·replace h133:=vU h133;refine zM<|zK<|zR<|Z8r 1 6 7 9 10 12 100 133 V V V V V V V V<|Zm V V ?_;(refine ZF rfl (yL rfl rfl (i64_in _ ?_ ?_)) ?_;(· omega);(· omega);skip);refine Za V V<|zP ?_;have h133':(rkB fs body ps).2=0:=by omega
           refine yN (ι:={i:Nat // i≤fs.length∧rkFs fs (fs.take i)=0}) ⟨j+1,hjl,by rw[hx1,hkf,h133']⟩ (by show fs.length-(j+1)<fs.length-j;omega) (O2 V V) (fun w h=>Hp.weakX (Hp.drop h (List.nil_sublist _) (List.nil_sublist _)) fun u hu=>hu.2)
      ·replace hc:=of_decide_eq_false hc;have hje:j=fs.length:=by omega
       subst hje;rw[List.take_length] at hj0;refine yI<|zS<|zS<|yJ<|zR<|zY<|Z3r 1 6 54 V V V<|Za V V<|ZT<|zO<|zL V V (fun w hw=>?_);exact⟨by rw[hj0];rfl,(HpG.keep hw).ext⟩
end Go.Proofs.YtfpkpnkdnammnaaGreatDoor
