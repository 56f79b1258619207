import Derived.Test.YtfpkpnkdnammnaaGreatDoorMgt
import Derived.Test.YtfpkpnkdnammnaaGreatDoorMgN
import Derived.Test.YtfpkpnkdnammnaaGreatDoorMgI
import Derived.Test.YtfpkpnkdnammnaaGreatDoorMgz
namespace Go.Proofs.YtfpkpnkdnammnaaGreatDoor
def spN:List Bs→Nat
 | []=>0
 | x::r=>x.length+3+spN r
theorem print_zz {fs:List Fn}(h:∀f∈fs,Sml f) (hl:fs.length≤4):(xE fs).length≤1600000000:=by
 have:∀l:List Fn,(∀f∈l,Sml f)→((l.map prF).flatten).length≤l.length*400000000:=by
  intro l
  induction l with
  | nil=>intro _;exact Km _
  | cons x l ih =>
   intro hx;have h1:=prF_z (hx x (by simp));have h2:=ih fun y hy=>hx y (Kg _ hy);rw[Kq,Kr,Ji,Jj,Nat.succ_mul];omega
 have h1:=this fs h;unfold xE
 split
 ·omega
 ·exact Kl _
theorem rtok_spN:∀(k i:Nat) (s:Bs),s.length=k→spN ((sR i s).map (·.text))≤4*s.length+3:=by
 intro k
 induction k using Nat.strongRecOn with
 | _ k ih =>
  intro i s hk
  cases h:s.drop (spanL wP s) with
  | nil=>rw[rtokD_end h];simp only[Kq,List.map_nil,spN,Jk];omega
  | cons c r =>
   have hd:(c::r).length≤s.length:=by rw[← h,Kc];omega
   have hl0:=(sA c r).1
   by_cases h4:(xW (c::r)).kind=4
   ·rw[rtokD_bad h h4];simp only[Kq,List.map_nil,spN];omega
   ·have hl:=(sA c r).2 h4;rw[rtokD_next h h4];simp only[Kq,spN];have h2:=ih ((c::r).drop (xW (c::r)).text.length).length (by rw[Kc];omega) (i+spanL wP s+(xW (c::r)).text.length) _ rfl;have hdl:((c::r).drop (xW (c::r)).text.length).length=(c::r).length-(xW (c::r)).text.length:=Kc;rw[hdl] at h2;omega
theorem spN_app:∀a b:List Bs,spN (a++b)=spN a+spN b
 | [],b=>by simp[spN]
 | x::a,b=>by simp only[List.cons_append,spN,spN_app a b];omega
theorem spN_take (l:List Tok) (k:Nat):spN ((l.take k).map (·.text))≤spN (l.map (·.text)):=by
 conv=>rhs;rw[← List.take_append_drop k l,List.map_append,spN_app]
 omega
end Go.Proofs.YtfpkpnkdnammnaaGreatDoor
namespace Go.Proofs.YtfpkpnkdnammnaaGreatDoor
open Go.RowKit
theorem rmod_any (n k:Int) (hk:0<k) (hk2:k≤1000000000000000) (w_0:World):Calls Tryz.prog 20 #[.int .i64 n,.int .i64 k] w_0 fun e w'=>e=.returned (.int .i64 (n%k))∧Ext w_0 w':=by
 obtain⟨h1,h2,h3⟩:=mod_eq n k hk;refine yV (args:=[.int .i64 n,.int .i64 k]) Tryz.func20 V 12 V (Jn V)<|Z2 0 1 V V<|zD (H':=Hp (fun _=>False) w_0 [] [] (fun _=>True)) (fun u hu=>?_) ?_
 ·subst hu;exact Hp.start0
 refine zY<|zX<|Za V V<|ZX<|zX<|Zm V V<|Zm V V<|ZF V (yf_rem V V (by omega) V) ?_;refine Zm V V<|ZF V (yI V V (i64_in (n.tmod k+k) (by omega) (by omega))) ?_;refine Zm V V<|ZF V (yf_rem V V (by omega) h1) ?_;refine Za V V<|ZT<|zK<|zI V V (fun w hw=>?_);exact⟨rfl,(Jq hw).ext⟩
def blnL:List Bs:=[[32],[10],[9,32,13],[32,32]]
def spF:Nat→List Bs→Int→Bs
 | _,[],_=>[]
 | i,x::r,b=>x++blnL.getD ((b+i)%4).toNat []++spF (i+1) r (b.tdiv 3)
theorem spN_len:∀l:List Bs,3*l.length≤spN l
 | []=>Km _
 | x::r=>by have:=spN_len r;simp only[spN,Jj];omega
theorem bln_len (v:Nat):(blnL.getD v []).length≤3:=by
 rcases Nat.lt_or_ge v 4 with h|h
 ·have:∀v,v<4→(blnL.getD v []).length≤3:=by decide
  exact this v h
 ·rw[Ka,List.getElem?_eq_none (by show 4≤v;exact h)];exact Kl _
theorem tdiv3 (b:Int) (h1:-9223372036854775808≤b) (h2:b≤9223372036854775807):-3074457345618258603≤b.tdiv 3∧b.tdiv 3≤3074457345618258603:=by
 rcases Int.le_total 0 b with h|h
 ·rw[Int.tdiv_eq_ediv_of_nonneg h];omega
 ·obtain⟨c,rfl⟩:∃c:Int,b=-c:=⟨-b,by omega⟩;rw[Int.neg_tdiv,Int.tdiv_eq_ediv_of_nonneg (by omega)];omega
theorem strs_getY {l:List Bs}{i:Nat}(h:i<l.length):(xX l)[i]? = some (.string ⟨(l.getD i []).toArray⟩):=by
 simp[xX,List.getElem?_map,Jt h,Ka]
structure SpJ (n:Nat) (xs:List Bs) (b0:Int) (i:Nat) (out:Bs) (b:Int):Prop where
 le:i≤n
 e:out++spF i (xs.drop i) b=spF 0 xs b0
 len:out.length+spN (xs.drop i)≤1000000000000
 lo:-9223372036854775808≤b
 hi:b≤9223372036854775807
 lo3:1≤i→-3074457345618258603≤b∧b≤3074457345618258603
theorem rtok_text {ts:List Tok}{i:Nat}(h:i<ts.length):(wE ts)[5*i+1]? = some (.string ⟨(vK ts i).text.toArray⟩):=rtoksC_at h (j:=1) rfl
set_option maxHeartbeats 2000000 in
set_option maxRecDepth 100000 in
theorem spaced_any (ts:List Tok) (b0:Int) (h1:-9223372036854775808≤b0) (h2:b0≤9223372036854775807) (A:Option Addr) (cap:Nat) {F0:Nat→Prop}(hsz:spN (ts.map (·.text))≤1000000000000) (w_0:World) (h:RdF F0 A (wE ts) w_0):Calls Tryz.prog 21 #[.slice A ts.length cap,.int .i64 b0] w_0 fun e w'=>e=.returned (.string ⟨(spF 0 (ts.map (·.text)) b0).toArray⟩)∧Ext w_0 w':=by
 have hA:0<ts.length→∃g off,A=some ⟨g,off,none⟩:=fun h0=>by
  obtain⟨b,off,e,_⟩:=h (by rw[rtoksC_len];omega);exact⟨b,off,e⟩
 have hn:=spN_len (ts.map (·.text));rw[Kt] at hn;refine yV (args:=[.slice A ts.length cap,.int .i64 b0]) Tryz.func21 V 31 V (Jn V)<|Z2 0 1 V V<|zD (H':=Hp (fun _=>False) w_0 [] [] (RdF F0 A (wE ts))) (fun u hu=>?_) ?_
 ·subst hu;exact Hp.startT RdF.lies h
 refine zY<|zX<|Za V V<|ZX<|zX<|Za V V<|ZX<|zY<|zX<|Za V V<|ZT<|yY<|xV (ι:={j:(Nat×Bs)×Int // SpJ ts.length (ts.map (·.text)) b0 j.1.1 j.1.2 j.2}) (fun j=>[(0,.slice A ts.length cap),(1,.int .i64 j.1.2),(5,.string ⟨j.1.1.2.toArray⟩),(6,.int .i64 j.1.1.1)]) (fun _=>Hp (fun _=>False) w_0 [] [] (RdF F0 A (wE ts))) (fun j=>ts.length-j.1.1.1) ⟨((0,[]),b0),⟨Kl _,rfl,by simpa using hsz,h1,h2,fun h=>absurd h (by show ¬1≤0;omega)⟩⟩ ?_ ?_ (fun j=>?_)
 ·exact .cons V<|.cons V<|.cons V<|.cons V<|.nil
 ·exact fun w h=>h
 obtain⟨⟨⟨q,out⟩,b⟩,⟨hi,he,hlen,hlo,hhi,hlo3⟩⟩:=j;dsimp only at hi he hlen hlo hhi hlo3 ⊢;refine zY<|zY<|zX<|Zm V V<|Zm V V<|ZF V (yM V U27)<|ZF V (xS V V)<|ZT<|zT V (fun h10=>?_) (fun h10=>?_)
 ·replace h10:=Jo h10;skip;have hil:q<ts.length:=by omega
  obtain⟨g,off,rfl⟩:=hA (by omega);obtain⟨tx,htx⟩:∃tx,(vK ts q).text=tx:=⟨_,rfl⟩;have htc:=rtok_text hil;rw[htx] at htc
  have hdr:(ts.map (·.text)).drop q=tx::(ts.map (·.text)).drop (q+1):=by
   rw[List.drop_eq_getElem_cons (by rw[Kt];exact hil),List.getElem_map];congr 1;rw[← htx];unfold vK;rw[Ka,Jt hil];rfl
  rw[hdr] at he hlen;simp only[spN] at hlen;have hbl:=bln_len ((b+q)%4).toNat;have hm4:((b+q)%4).toNat<4:=by omega
  have htd:=tdiv3 b hlo hhi
  have hbi:-9223372036854775808≤b+q∧b+q≤9223372036854775807:=by
   rcases Nat.eq_zero_or_pos q with h0|h0
   ·subst h0;omega
   ·have:=hlo3 h0;omega
  refine zG<|zQ<|zY<|yY<|zY<|Z5 0 1 5 6 10 V V V V V<|wc_drawE 14 [[],[],[],[1,2],[3],[4],[0,5],[],[],[],[8,9],[10],[7,11],[12]] (fun i x=>([.string ⟨out.toArray⟩,.slice (some ⟨g,off,none⟩) ts.length cap,.int .i64 q,.pointer (some ⟨g,off+q*5,none⟩),.pointer (some ⟨g,off+q*5+1,none⟩),.string ⟨tx.toArray⟩,.string ⟨(out++tx).toArray⟩,.slice (some ⟨x,0,none⟩) 4 4,.int .i64 b,.int .i64 q,.int .i64 (b+q),.int .i64 (((b+q)%4).toNat:Nat),.pointer (some ⟨x,0+((b+q)%4).toNat*1,none⟩),.string ⟨(blnL.getD ((b+q)%4).toNat []).toArray⟩]:List Value).getD i undef) (fcL [none,none,none,none,none,none,none,some (fun x=>bk 9 (xX blnL)),none,none,none,none,some (fun x=>bk 9 (xX blnL)),none]) (by kernel_rfl) (by kernel_rfl) (by kernel_rfl) (by kernel_rfl) fcL.lies (fun n0 hn0=>⟨?_,?_,?_,?_,?_,?_,?_,?_,?_,?_,?_,?_,?_,?_,trivial⟩) (fun xs F hF=>?_)
  ·refine tY 0 (zO V) V (fun w hw h0=>trivial)
  ·refine tY 0 (zO V) V (fun w hw h0=>trivial)
  ·refine tY 0 (zO V) V (fun w hw h0=>trivial)
  ·intro x1 x2
   first|(refine tY 0 (zJ (es:=5) rfl rfl U27 (by kernel_rfl) rfl ?_ rfl) rfl (fun w hw h0=>trivial);(· first|decide|omega|(simp;done)|(simp;omega)))|(refine tY 0 (zJ (es:=5) rfl rfl U27 (by kernel_rfl) (Int.toNat_of_nonneg ?_).symm ?_ rfl) rfl (fun w hw h0=>trivial);(· omega);(· first|decide|omega|(simp;done)|(simp;omega)))
  ·intro x3;refine tY 0 (zZ (off:=1) (sz:=0) V U52 (by kernel_rfl) V) V (fun w hw h0=>trivial)
  ·intro x4;refine tY 0 (yO (v:=.string ⟨tx.toArray⟩) V U9 V (fun u h=>RdF.part (HpG.x h.2) (Jm.1 htc).1 (by omega) htc)) V (fun w hw h0=>trivial)
  ·intro x0 x5;(refine tY 0 (zF rfl rfl ?_) rfl (fun w hw h0=>trivial);(· first|omega|simp<;>omega))
  ·refine ce_new (wM (z:=Ja) V V V V U22 (by kernel_rfl) (by kernel_rfl) V V) (fun _=>rfl) (fun b F w h1 h2 h3=>⟨h1,h2,h3⟩)
  ·refine tY 0 (zO V) V (fun w hw h0=>trivial)
  ·refine tY 0 (zO V) V (fun w hw h0=>trivial)
  ·intro x8 x9
   first|(refine tY 0 (yI rfl rfl (i64_in _ ?_ ?_)) rfl (fun w hw h0=>trivial);(· omega);(· omega))|(refine tY 0 (yI rfl rfl rfl) rfl (fun w hw h0=>trivial))
  ·intro x10
   refine ce_pure (v:=.int .i64 (((b+q)%4).toNat:Nat)) 0 (by kernel_rfl) V (fun w hw=>by
    have h9:=rmod_any (b+q) 4 (by decide) (by decide) w;rw[← Int.toNat_of_nonneg (Int.emod_nonneg (b+q) (show (4:Int)≠0 by decide))] at h9
    exact h9) V (fun _ _=>trivial)
  ·intro x7 x11
   first|(refine tY x7 (zJ (es:=1) rfl rfl U22 (by kernel_rfl) rfl ?_ rfl) rfl (fun w hw h0=>hw.2.1);(· exact hm4))|(refine tY x7 (zJ (es:=1) rfl rfl U22 (by kernel_rfl) (Int.toNat_of_nonneg ?_).symm ?_ rfl) rfl (fun w hw h0=>hw.2.1);(· omega);(· exact hm4))
  ·intro x12;refine tY 0 (yO (v:=.string ⟨(blnL.getD ((b+q)%4).toNat []).toArray⟩) V U9 V (fun u h=>by rw[cell_of_row u x12 _ _ _ _ (show Blk x12 (bk 9 (xX blnL)) u from h.1.2.2),Kk,Nat.mul_one,List.getElem?_toArray];exact strs_getY (l:=blnL) hm4)) V (fun w hw h0=>trivial)
  refine wa_weak (m':=[(0,.slice (some ⟨g,off,none⟩) ts.length cap),(1,.int .i64 b),(6,.int .i64 q),(19,.string ⟨(out++tx).toArray⟩),(26,.string ⟨(blnL.getD ((b+q)%4).toNat []).toArray⟩)]) (H':=Hp (fun _=>False) w_0 [] [] (RdF F0 (some ⟨g,off,none⟩) (wE ts))) (O5 V V V V V) (fun w h=>Hp.weakX h fun u hu=>hu.2) ?_;refine yN (k:=1) [14] (by kernel_rfl) (by simp) ⟨⟨_,rfl,?_⟩,trivial⟩
  ·refine ZF V (zF V V (by (rw[Ji];omega))) ?_;refine zU<|yW<|yN (k:=0) [15] (by kernel_rfl) (by simp) ⟨⟨_,rfl,?_⟩,trivial⟩
   ·refine Za V V<|zU<|yW<|qU (by kernel_rfl) ?_;refine zQ<|Z4r 0 1 5 6 rfl rfl rfl rfl<|Zm rfl rfl<|ZF rfl (yf_quo rfl rfl (by first|decide|omega) (i64_in _ (by omega) (by omega))) ?_;refine Za V V<|zU<|zM<|zQ<|Z4r 0 1 5 6 V V V V<|Zm V V<|ZF V (yI V V (i64_in _ (by omega) (by omega))) ?_;refine Za V V<|zU<|yC (ι:={j:(Nat×Bs)×Int // SpJ ts.length (ts.map (·.text)) b0 j.1.1 j.1.2 j.2}) ⟨((q+1,out++tx++blnL.getD ((b+q)%4).toNat []),b.tdiv 3),⟨by show q+1≤ts.length;omega,?_,?_,by show _≤b.tdiv 3;omega,by show b.tdiv 3≤_;omega,fun _=>htd⟩⟩ (by show ts.length-(q+1)<ts.length-q;omega) (O4 V V V V) (fun w h=>h)
    ·rw[← he];simp[spF]
    ·simp only[Ji];omega
 ·replace h10:=Jp h10;skip;have hie:q=ts.length:=by omega
  rw[Ks (by rw[Kt];omega)] at he;refine xY<|zN<|zN<|xZ<|zQ<|zY<|Z5r 0 1 5 6 10 V V V V V<|Zm V V<|Za V V<|ZT<|zK<|zI V V (fun w hw=>?_);exact⟨by rw[← he];simp[spF],(Jq hw).ext⟩
theorem rtoksC_take:∀(T:List Tok) (k:Nat),wE (T.take k)=(wE T).take (5*k)
 | T,0=>by simp[wE]
 | [],k+1=>by simp[wE]
 | t::T,k+1=>by
  have e:wE (t::T)=rtokC t++wE T:=rfl;have e2:wE (t::T.take k)=rtokC t++wE (T.take k):=rfl;rw[List.take_succ_cons,e2,rtoksC_take T k,e,List.take_append];have h1:(rtokC t).take (5*(k+1))=rtokC t:=List.take_of_length_le (by simp;omega);have h2:5*(k+1)-(rtokC t).length=5*k:=by simp;omega
  rw[h1,h2]
theorem RdF.takeY {F:Nat→Prop}{A:Option Addr}{cs:List Value}{w:World}(h:RdF F A cs w) (k:Nat):RdF F A (cs.take k) w:=fun h0=>by
 rw[Ki] at h0;obtain⟨b,off,e,h1,h2,h3⟩:=h (by omega);refine⟨b,off,e,h1,h2,fun i hi=>?_⟩;rw[Ki] at hi;rw[h3 i (by omega)];simp[Ka,List.getElem?_take_of_lt (show i<k by omega)]
section
variable {P:Program}{n:Nat}{m:List (Nat×Value)}{ty:TypeId}{H:World→Prop}
end
end Go.Proofs.YtfpkpnkdnammnaaGreatDoor
