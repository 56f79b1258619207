/- The law of forms, plainly. -/
import Derived.Test.YtkaepknpplhgkaaGreatDoorMah
namespace Go.Proofs.YtkaepknpplhgkaaGreatDoor
/-- A memory operand with an index and no scale. -/
def iM1 (s x n:Nat):List It:=.c 91::iR s::.c 43::iR x::(iO n++[.c 93])
theorem opT_mem1 {s x n:Nat}(hs:s<8) (hx:x<8) (hn:n<4294967296):OpT 1 (tkI (iM1 s x n)) (mOp s (some (x,0)) n):=by
 refine⟨by unfold iM1;rw[wI];simp[itK],fun r=>?_⟩
 have e:tkI (iM1 s x n)++r=⟨115,[91],0⟩::⟨119,uF s,0⟩::⟨115,[43],0⟩::⟨119,uF x,0⟩::(tkI (iO n)++(⟨115,[93],0⟩:ATk)::r):=by
  unfold iM1;rw[wI,wI,wI,wI,tkI_app];show [_]++([_]++([_]++([_]++(tkI (iO n)++[⟨115,[93],0⟩]))))++r=_;simp
 rw[e];unfold opA;rw[if_pos (isA_s 91 _)];unfold sL;rw[List.drop_succ_cons,List.drop_zero,rgA_any (kind:=1) (by show s<8;exact hs),andR_ok];dsimp only;rw[if_pos ⟨rfl,isA_s 43 _,⟨_,rfl,rfl⟩⟩,List.drop_succ_cons,List.drop_zero,rgA_any (kind:=1) (by show x<8;exact hx),andR_ok];dsimp only;rw[if_neg]
 ·exact tail_any _ hn r
 ·unfold iO
  split<;>(intro h;cases h)
theorem okE_mem1 {s x n:Nat}(hs:s<16) (hx:x<16) (hn:n<4294967296):okE (iM1 s x n):=fun l h1 _=>by
 have h3:okI (iO n++(.c 93::l)):=iO_ok hn rfl ⟨by decide,h1⟩;have e:iM1 s x n++l=.c 91::iR s::.c 43::iR x::(iO n++(.c 93::l)):=by unfold iM1;simp
 rw[e];exact⟨by decide,wrd_rnm s hs,rfl,by decide,wrd_rnm x hx,iO_st _ _,h3⟩
/-- One line: its statement. -/
theorem li_one {l:List It}{nm:Bs}{os:List (List It)}{ops:List AOp}{f:AFm}(ok:okI l) (tk:tkI l=⟨119,nm,0⟩::vN (os.map tkI)) (h:OpsT 1 (os.map tkI) ops) (hf:wP 1 nm (wT ops) ops.length=some f) (hz:nm≠wY):liA 1 (txI l)=.ok ⟨[],nm,wT ops,ops,some f,0,sizeA f ops⟩:=by
 rw[liA_it 1 ok,tk];exact par_it h (joinT_col h) hf hz (joinT_len h)
theorem asm_one {text c:Bs}{st:ASt}{v:List Nat}(h:liA 1 text=.ok st) (lab:st.label=[]) (hv:∀lb,wV lb st.l=.ok v) (hc:∀a',cdA { st with at_:=a' } v 0=.ok c) (hs:st.size=c.length) (hn:NoNl text) (ht:text.length≤1000) (hl:c.length≤100):tQ 1 text 0=(c,0,0):=by
 have:=ds_asm (kind:=1) (org:=0) (text:=text) (.inl rfl) (DsA.cons h lab hv hc hs (.nil _)) (linA_one hn) (by omega) (by rw[List.append_nil];omega)
 rwa [List.append_nil] at this
theorem asm_bad {text:Bs}{st:ASt}{v:List Nat}{e:Nat}(h:liA 1 text=.ok st) (lab:st.label=[]) (hv:∀lb,wV lb st.l=.ok v) (hc:∀a',cdA { st with at_:=a' } v 0=.error e) (hs:st.size≤100) (hn:NoNl text) (ht:text.length≤1000):tQ 1 text 0=([],1,e):=by
 unfold tQ;rw[if_neg (by decide),if_neg (by omega),linA_one hn,pasF_ok h lab (by omega)]
 show (match (Except.ok ([]++[{ st with at_:=0 }],[]):Except (Nat×Nat) _) with
  | .error (k,e)=>([],k,e)
  | .ok (l,labels)=>match outF 0 labels l 0 [] with
   | .error (k,e)=>([],k,e)
   | .ok out=>(out,0,0))=_
 dsimp only;rw[List.nil_append,outF_bad (e:=e)];show yC (wV [] st.l) _=_;rw[hv];exact hc 0
/-- What a text comes to: nothing, or an instruction. -/
def FmR (text:Bs) (size v d:Nat):Prop:=if size=0 then tQ 1 text 0=([],1,13) else ∃c i,tQ 1 text 0=(c,0,0)∧c.length=size∧decK c=some i∧i.imm=v∧i.d=d
theorem fm_vk {text:Bs}{l:List It}{nm:Bs}{os:List (List It)}{ops:List AOp}{sel:KSel}{fil:KFil}{v:List Nat}{i:KI}{n d:Nat}(hvk:VK i) (tx:text=txI l) (ok:okI l) (tk:tkI l=⟨119,nm,0⟩::vN (os.map tkI)) (h:OpsT 1 (os.map tkI) ops) (hf:wP 1 nm (wT ops) ops.length=some (.k sel fil)) (hz:nm≠wY) (hv:∀lb,wV lb ops=.ok v) (hi:insK sel fil (wT ops) ops v 0=i) (hs:((sizeA (.k sel fil) ops:Nat):Int)=i.size) (ht:text.length≤1000) (hn:i.imm=n) (hd:i.d=d) (hz0:0<i.size∧i.size≤7):FmR text i.size.toNat n d:=by
 obtain⟨lf,h1,h2⟩:=enc_vk hvk;have hsz:=sizes_K h2;have hli:=li_one ok tk h hf hz;have hlab:({ label:=[],op:=nm,shape:=wT ops,l:=ops,form:=some (.k sel fil),at_:=0,size:=sizeA (.k sel fil) ops }:ASt).label=[]:=rfl;unfold FmR;rw[if_neg (by omega)];subst tx;refine⟨_,i,asm_one hli hlab hv (fun a'=>cdA_k M hi h2) (by dsimp only;omega) (okI_nl ok) ht (by omega),by omega,dec_vk hvk h2,hn,hd⟩
theorem sx_of {n:Nat}(hn:n<4294967296) (h:wE n 8=true):sxL (n%256) 8=n:=by
 unfold wE at h;unfold sxL;simp only[Nat.reducePow,Nat.reduceSub,Bool.or_eq_true,decide_eq_true_eq] at h ⊢
 split<;>omega
theorem sx_no {n:Nat}(hn:n<4294967296) (h:wE n 8=false):¬sxL (n%256) 8=n:=fun e=>by rw[sx_fit hn e] at h;cases h
theorem ops2 {d:Nat}(hd:d<8) {t:List It}{o:AOp}(h:OpT 1 (tkI t) o):OpsT 1 ([[iR d],t].map tkI) [⟨114,d,[],0,0,0⟩,o]:=.cons (tk_reg (by show d<8;exact hd)) (.cons h .nil)
theorem vals2v (lb:List (Bs×Nat)) (d n:Nat):wV lb [⟨114,d,[],0,0,0⟩,val7 n]=.ok [0,n]:=rfl
theorem vals2m (lb:List (Bs×Nat)) (d s n:Nat) (x:Option (Nat×Nat)):wV lb [⟨114,d,[],0,0,0⟩,mOp s x n]=.ok [0,n]:=rfl
theorem nm_ari:nmB 1 15 (fun k=>ariL.getD k []) [114,118] (fun k=>.k (.arith k) .value)=true:=by kernel_rfl
/-- Items of a line whose second operand stands behind a comma alone. -/
def lnJ (nm:Bs) (d:Nat) (t:List It):List It:=.w nm::.b 32::iR d::.c 44::t
theorem lnJ_ok {nm:Bs}(hw:wrdB nm=true) {d:Nat}(hd:d<8) {t:List It}(ht:okE t):okI (lnJ nm d t):=by
 have h:=ht [] trivial rfl;rw[List.append_nil] at h;exact⟨hw,rfl,.inl rfl,wrd_rnm d (by omega),rfl,by decide,h⟩
theorem lnJ_tk (nm:Bs) (d:Nat) (t:List It):tkI (lnJ nm d t)=⟨119,nm,0⟩::vN ([[iR d],t].map tkI):=rfl
end Go.Proofs.YtkaepknpplhgkaaGreatDoor
/- The six texts of the law of forms. -/
namespace Go.Proofs.YtkaepknpplhgkaaGreatDoor
def fsz (n a b:Nat):Nat:=if wE n 8=true then a else b
theorem fm0 {o d n:Nat}(ho:o<15) (hd:d<8) (hn:n<4294967296) {text:Bs}(tx:text=txI (lnI (ariL.getD o []) [[iR d],iS n])) (ht:text.length≤1000):FmR text (fsz n 3 6) n d:=by
 obtain⟨z0,z1,z2,z3,z4,z5,z6,z7,z8,z9,z10⟩:=sz_all;obtain⟨n1,n2,n3⟩:=nmB_at nm_ari ho;unfold fsz
 cases hf:wE n 8 with
 | true =>
  have hop:opK (.arith o) [⟨114,d,[],0,0,0⟩,val7 n]=((48+o:Nat):Int):=by
   show (if ([]:Bs)=[]∧wE n 8=true then ((48+o:Nat):Int) else _)=_;rw[if_pos ⟨rfl,hf⟩]
  have hz:=szB_at z3 ho;refine fm_vk (v:=[0,n]) (VK.short o d n ho hd hn (sx_of hn hf)) tx (lnI_ok n1 (all2 (okE_reg (by omega)) (okE_sgn hn))) (lnI_tk _ _) (ops2 hd (opT_sgn hn)) n3 n2 (fun lb=>vals2v lb d n) ?_ ?_ ht M M ⟨by show (0:Int)<3;decide,by show (3:Int)≤7;decide⟩
  ·show (⟨opK (.arith o) [⟨114,d,[],0,0,0⟩,val7 n],d,0,-1,0,n,(xF ((opK (.arith o) [⟨114,d,[],0,0,0⟩,val7 n])%256):Nat)⟩:KI)=_;rw[hop,hz];rfl
  ·show ((xF ((opK (.arith o) [⟨114,d,[],0,0,0⟩,val7 n])%256):Nat):Int)=3;rw[hop,hz];rfl
 | false =>
  have hop:opK (.arith o) [⟨114,d,[],0,0,0⟩,val7 n]=((64+o:Nat):Int):=by
   show (if ([]:Bs)=[]∧wE n 8=true then _ else ((64+o:Nat):Int))=_;rw[if_neg fun h=>by rw[hf] at h;cases h.2]
  have hz:=szB_at z4 ho;refine fm_vk (v:=[0,n]) (VK.imm o d n ho hd hn) tx (lnI_ok n1 (all2 (okE_reg (by omega)) (okE_sgn hn))) (lnI_tk _ _) (ops2 hd (opT_sgn hn)) n3 n2 (fun lb=>vals2v lb d n) ?_ ?_ ht M M ⟨by show (0:Int)<6;decide,by show (6:Int)≤7;decide⟩
  ·show (⟨opK (.arith o) [⟨114,d,[],0,0,0⟩,val7 n],d,0,-1,0,n,(xF ((opK (.arith o) [⟨114,d,[],0,0,0⟩,val7 n])%256):Nat)⟩:KI)=_;rw[hop,hz];rfl
  ·show ((xF ((opK (.arith o) [⟨114,d,[],0,0,0⟩,val7 n])%256):Nat):Int)=6;rw[hop,hz];rfl
theorem fm1 {o d n:Nat}(ho:o<15) (hd:d<8) (hn:n<4294967296) {text:Bs}(tx:text=txI (lnI (ariL.getD o []++[46,119]) [[iR d],iS n])) (ht:text.length≤1000):FmR text 6 n d:=by
 obtain⟨z0,z1,z2,z3,z4,z5,z6,z7,z8,z9,z10⟩:=sz_all;obtain⟨n1,n2,n3⟩:=nmB_at nm_imm ho;have hz:=szB_at z4 ho;refine fm_vk (v:=[0,n]) (VK.imm o d n ho hd hn) tx (lnI_ok n1 (all2 (okE_reg (by omega)) (okE_sgn hn))) (lnI_tk _ _) (ops2 hd (opT_sgn hn)) n3 n2 (fun lb=>vals2v lb d n) ?_ ?_ ht M M ⟨by show (0:Int)<6;decide,by show (6:Int)≤7;decide⟩
 ·show (⟨((64+o:Nat):Int),d,0,-1,0,n,(xF (((64+o:Nat):Int)%256):Nat)⟩:KI)=_;rw[hz];rfl
 ·show ((xF (((64+o:Nat):Int)%256):Nat):Int)=6;rw[hz];rfl
theorem fm2 {o d n:Nat}(ho:o<15) (hd:d<8) (hn:n<4294967296) {text:Bs}(tx:text=txI (lnI (ariL.getD o []++[46,98]) [[iR d],iS n])) (ht:text.length≤1000):FmR text (fsz n 3 0) n d:=by
 obtain⟨z0,z1,z2,z3,z4,z5,z6,z7,z8,z9,z10⟩:=sz_all;obtain⟨n1,n2,n3⟩:=nmB_at nm_shrt ho;have hz:=szB_at z3 ho;have ok:=lnI_ok n1 (all2 (okE_reg (show d<16 by omega)) (okE_sgn hn))
 have hi:insK (.always (48+o:Nat)) .value [114,118] [⟨114,d,[],0,0,0⟩,val7 n] [0,n] 0=⟨(48+o:Nat),d,0,-1,0,n,3⟩:=by
  show (⟨((48+o:Nat):Int),d,0,-1,0,n,(xF (((48+o:Nat):Int)%256):Nat)⟩:KI)=_;rw[hz];rfl
 unfold fsz
 cases hf:wE n 8 with
 | true =>
  refine fm_vk (v:=[0,n]) (VK.short o d n ho hd hn (sx_of hn hf)) tx ok (lnI_tk _ _) (ops2 hd (opT_sgn hn)) n3 n2 (fun lb=>vals2v lb d n) hi ?_ ht M M ⟨by show (0:Int)<3;decide,by show (3:Int)≤7;decide⟩;show ((xF (((48+o:Nat):Int)%256):Nat):Int)=3;rw[hz];rfl
 | false =>
  have hen:vJ ⟨(48+o:Nat),d,0,-1,0,n,3⟩=none:=by
   cases he:vJ ⟨(48+o:Nat),d,0,-1,0,n,3⟩ with
   | none=>rfl
   | some c =>
    have hvk:=vK_of (i:=⟨(48+o:Nat),d,0,-1,0,n,3⟩) hn (by rw[he];rfl)
    have h48:sxL (n%256) 8=n:=by
     generalize hj:(⟨(48+o:Nat),d,0,-1,0,n,3⟩:KI)=j at hvk;cases hvk<;>first|(injection hj with e1 e2 e3 e4 e5 e6 e7;subst e6;assumption)|(exfalso;injection hj with e1 e2 e3 e4 e5 e6 e7;omega)
    exact absurd h48 (sx_no hn hf)
  show FmR text 0 n d;unfold FmR;rw[if_pos rfl,tx];refine asm_bad (v:=[0,n]) (li_one ok (lnI_tk _ _) (ops2 hd (opT_sgn hn)) n3 n2) M (fun lb=>vals2v lb d n) (fun a'=>?_) ?_ (okI_nl ok) (by rw[← tx];exact ht)
  ·show uN (.k (.always (48+o:Nat)) .value) [114,118] [⟨114,d,[],0,0,0⟩,val7 n] [0,n] 0=_;unfold uN;dsimp only;rw[hi,hen]
  ·show xF (((48+o:Nat):Int)%256)≤100;rw[hz];decide
theorem fm3 {m d s n:Nat}(hm:m<7) (hd:d<8) (hs:s<8) (hn:n<4294967296) {text:Bs}(tx:text=txI (lnJ (accL.getD m []) d (iM s none n))) (ht:text.length≤1000):FmR text (fsz n 3 7) n d:=by
 obtain⟨z0,z1,z2,z3,z4,z5,z6,z7,z8,z9,z10⟩:=sz_all;obtain⟨n1,n2,n3⟩:=nmB_at nm_mem hm;have ok:=lnJ_ok n1 hd (okE_mem (x:=none) (show s<16 by omega) hn (fun _ h=>nomatch h));have op:=ops2 hd (opT_mem (kind:=1) (x:=none) (by show s<8;omega) hn (fun _ h=>nomatch h));unfold fsz
 cases hf:wE n 8 with
 | true =>
  have hop:opK (.access m) [⟨114,d,[],0,0,0⟩,mOp s none n]=((80+m:Nat):Int):=by
   show (if (-1:Int)<0∧wE n 8=true then ((80+m:Nat):Int) else _)=_;rw[if_pos ⟨by omega,hf⟩]
  have hz:=szB_at z5 hm;refine fm_vk (v:=[0,n]) (VK.mem m d s n hm hd hs hn (sx_of hn hf)) tx ok (lnJ_tk _ _ _) op n3 n2 (fun lb=>vals2m lb d s n none) ?_ ?_ ht M M ⟨by show (0:Int)<3;decide,by show (3:Int)≤7;decide⟩
  ·show (⟨opK (.access m) [⟨114,d,[],0,0,0⟩,mOp s none n],d,s,-1,0,n,(xF ((opK (.access m) [⟨114,d,[],0,0,0⟩,mOp s none n])%256):Nat)⟩:KI)=_;rw[hop,hz];rfl
  ·show ((xF ((opK (.access m) [⟨114,d,[],0,0,0⟩,mOp s none n])%256):Nat):Int)=3;rw[hop,hz];rfl
 | false =>
  have hop:opK (.access m) [⟨114,d,[],0,0,0⟩,mOp s none n]=((88+m:Nat):Int):=by
   show (if (-1:Int)<0∧wE n 8=true then _ else ((88+m:Nat):Int))=_;rw[if_neg fun h=>by rw[hf] at h;cases h.2]
  have hz:=szB_at z6 hm;refine fm_vk (v:=[0,n]) (VK.idx m d s n none hm hd hs hn (fun _ h=>nomatch h)) tx ok (lnJ_tk _ _ _) op n3 n2 (fun lb=>vals2m lb d s n none) ?_ ?_ ht M M ⟨by show (0:Int)<7;decide,by show (7:Int)≤7;decide⟩
  ·show (⟨opK (.access m) [⟨114,d,[],0,0,0⟩,mOp s none n],d,s,-1,0,n,(xF ((opK (.access m) [⟨114,d,[],0,0,0⟩,mOp s none n])%256):Nat)⟩:KI)=_;rw[hop,hz];rfl
  ·show ((xF ((opK (.access m) [⟨114,d,[],0,0,0⟩,mOp s none n])%256):Nat):Int)=7;rw[hop,hz];rfl
theorem fm4 {m d s n:Nat}(hm:m<7) (hd:d<8) (hs:s<8) (hn:n<4294967296) {text:Bs}(tx:text=txI (lnJ (accL.getD m []++[46,120]) d (iM s none n))) (ht:text.length≤1000):FmR text 7 n d:=by
 obtain⟨z0,z1,z2,z3,z4,z5,z6,z7,z8,z9,z10⟩:=sz_all;obtain⟨n1,n2,n3⟩:=nmB_at nm_idx hm;have hz:=szB_at z6 hm;refine fm_vk (v:=[0,n]) (VK.idx m d s n none hm hd hs hn (fun _ h=>nomatch h)) tx (lnJ_ok n1 hd (okE_mem (x:=none) (show s<16 by omega) hn (fun _ h=>nomatch h))) (lnJ_tk _ _ _) (ops2 hd (opT_mem (kind:=1) (x:=none) (by show s<8;omega) hn (fun _ h=>nomatch h))) n3 n2 (fun lb=>vals2m lb d s n none) ?_ ?_ ht M M ⟨by show (0:Int)<7;decide,by show (7:Int)≤7;decide⟩
 ·show (⟨((88+m:Nat):Int),d,s,-1,0,n,(xF (((88+m:Nat):Int)%256):Nat)⟩:KI)=_;rw[hz];rfl
 ·show ((xF (((88+m:Nat):Int)%256):Nat):Int)=7;rw[hz];rfl
theorem fm5 {m d s x n:Nat}(hm:m<7) (hd:d<8) (hs:s<8) (hx:x<8) (hn:n<4294967296) {text:Bs}(tx:text=txI (lnJ (accL.getD m []) d (iM1 s x n))) (ht:text.length≤1000):FmR text 7 n d:=by
 obtain⟨z0,z1,z2,z3,z4,z5,z6,z7,z8,z9,z10⟩:=sz_all;obtain⟨n1,n2,n3⟩:=nmB_at nm_mem hm;have hz:=szB_at z6 hm
 have hop:opK (.access m) [⟨114,d,[],0,0,0⟩,mOp s (some (x,0)) n]=((88+m:Nat):Int):=by
  show (if (x:Int)<0∧wE n 8=true then ((80+m:Nat):Int) else ((88+m:Nat):Int))=_;rw[if_neg fun h=>by have:=h.1;omega]
 refine fm_vk (v:=[0,n]) (VK.idx m d s n (some (x,0)) hm hd hs hn (fun p h=>by cases h;exact⟨hx,by show 0<4;decide⟩)) tx (lnJ_ok n1 hd (okE_mem1 (by omega) (by omega) hn)) (lnJ_tk _ _ _) (ops2 hd (opT_mem1 hs hx hn)) n3 n2 (fun lb=>vals2m lb d s n (some (x,0))) ?_ ?_ ht M M ⟨by show (0:Int)<7;decide,by show (7:Int)≤7;decide⟩
 ·show (⟨opK (.access m) [⟨114,d,[],0,0,0⟩,mOp s (some (x,0)) n],d,s,x,0,n,(xF ((opK (.access m) [⟨114,d,[],0,0,0⟩,mOp s (some (x,0)) n])%256):Nat)⟩:KI)=_;rw[hop,hz];rfl
 ·show ((xF ((opK (.access m) [⟨114,d,[],0,0,0⟩,mOp s (some (x,0)) n])%256):Nat):Int)=7;rw[hop,hz];rfl
end Go.Proofs.YtkaepknpplhgkaaGreatDoor
/- The law of forms. -/
namespace Go.Proofs.YtkaepknpplhgkaaGreatDoor
open Go.RowKit
theorem arith_rf (w_0:World):Calls Tryz.prog 25 #[] w_0 (NmPost ariL w_0):=by
 refine zS (args:=[]) Tryz.func25 M 2 M (Nat.le_of_ble_eq_true M)<|yK (.nil)<|zV (H':=Hp (fun _=>False) w_0 [] [] (fun _=>True)) (fun u hu=>?_) ?_
 ·subst hu;exact Hp.start0
 refine zX<|zZ<|Za M M<|ZX<|zZ<|zO .none M (rY (z:=.string ⟨#[]⟩) M M M M Tryz.underlying59 (by kernel_rfl) (by kernel_rfl) M M) (fun b1=>?_);refine Za M M<|ZT<|zQ<|zP M M (fun w hw=>?_);exact⟨b1,trivial,rfl,hw.ext0,HpG.mineL (j:=0) hw M id,HpG.blk hw (k:=0) rfl⟩
theorem mem_rf (w_0:World):Calls Tryz.prog 26 #[] w_0 (NmPost accL w_0):=by
 refine zS (args:=[]) Tryz.func26 M 2 M (Nat.le_of_ble_eq_true M)<|yK (.nil)<|zV (H':=Hp (fun _=>False) w_0 [] [] (fun _=>True)) (fun u hu=>?_) ?_
 ·subst hu;exact Hp.start0
 refine zX<|zZ<|Za M M<|ZX<|zZ<|zO .none M (rY (z:=.string ⟨#[]⟩) M M M M Tryz.underlying59 (by kernel_rfl) (by kernel_rfl) M M) (fun b1=>?_);refine Za M M<|ZT<|zQ<|zP M M (fun w hw=>?_);exact⟨b1,trivial,rfl,hw.ext0,HpG.mineL (j:=0) hw M id,HpG.blk hw (k:=0) rfl⟩
theorem tmM (n k:Nat) (_hk:0<k):((n:Int)).tmod (k:Int)=((n%k:Nat):Int):=by
 rw[Int.tmod_eq_emod_of_nonneg (by omega)];rfl
theorem sgnP_off (n:Nat):tF n true=offB n:=by
 unfold tF offB
 split
 ·rfl
 ·rw[if_pos rfl]
/-- The texts. -/
def fmT (o m d s x v:Nat):List Bs:=[
 ((((ariL.getD o []++[32])++(114::Lib.decDigits d))++[44,32])++tF v false),
 ((((ariL.getD o []++[46,119,32])++(114::Lib.decDigits d))++[44,32])++tF v false),
 ((((ariL.getD o []++[46,98,32])++(114::Lib.decDigits d))++[44,32])++tF v false),
 ((((((accL.getD m []++[32])++(114::Lib.decDigits d))++[44,91])++(114::Lib.decDigits s))++tF v true)++[93]),
 ((((((accL.getD m []++[46,120,32])++(114::Lib.decDigits d))++[44,91])++(114::Lib.decDigits s))++tF v true)++[93]),
 ((((((((accL.getD m []++[32])++(114::Lib.decDigits d))++[44,91])++(114::Lib.decDigits s))++[43])++(114::Lib.decDigits x))++tF v true)++[93])]
def fmS (v:Nat):List Nat:=[fsz v 3 6,6,fsz v 3 0,fsz v 3 7,7,7]
theorem dec_d {d:Nat}(h:d<8):(114::Lib.decDigits d:Bs)=uF d:=(rnm_dc d (by omega)).symm
theorem tx_iM (s v:Nat):txI (iM s none v)=[91]++uF s++offB v++[93]:=by
 rw[← iO_tx];simp[iM,iX,txI,itB,iR]
theorem tx_iM1 (s x v:Nat):txI (iM1 s x v)=[91]++uF s++[43]++uF x++offB v++[93]:=by
 rw[← iO_tx];simp[iM1,txI,itB,iR]
theorem tx_lnJ (nm:Bs) (d:Nat) (t:List It):txI (lnJ nm d t)=nm++[32]++uF d++[44]++txI t:=by
 simp[lnJ,txI,itB,iR]
theorem tx_lnI (nm:Bs) (d:Nat) (t:List It):txI (lnI nm [[iR d],t])=nm++[32]++uF d++[44,32]++txI t:=by
 simp[lnI,joinI,txI,itB,iR]
theorem fmT_ln {o m d s x v:Nat}(ho:o<15) (hm:m<7) (hd:d<8) (hs:s<8) (hx:x<8) (hv:v<4294967296):∀t∈fmT o m d s x v,t.length≤60:=by
 have h1:=nm_ln (l:=ariL) (m:=5) (by decide) o;have h2:=nm_ln (l:=accL) (m:=5) (by decide) m;have hdd:(Lib.decDigits d).length≤1:=vI (k:=1) (by omega) (by decide);have hds:(Lib.decDigits s).length≤1:=vI (k:=1) (by omega) (by decide);have hdx:(Lib.decDigits x).length≤1:=vI (k:=1) (by omega) (by decide);have h3:(tF v false).length≤11:=by rw[sgnP_no];exact sgnB_len hv
 have h4:(tF v true).length≤11:=by rw[sgnP_off];exact offB_len hv
 intro t ht;unfold fmT at ht;simp only[List.mem_cons,List.not_mem_nil,or_false] at ht;rcases ht with rfl|rfl|rfl|rfl|rfl|rfl<;>(simp only[List.length_append,List.length_cons,List.length_nil];omega)
theorem fm_six {o m d s x v:Nat}(ho:o<15) (hm:m<7) (hd:d<8) (hs:s<8) (hx:x<8) (hv:v<4294967296):∀k,k<6→FmR ((fmT o m d s x v).getD k []) ((fmS v).getD k 0) v d:=by
 have hl:=fmT_ln ho hm hd hs hx hv
 have len:∀k,k<6→((fmT o m d s x v).getD k []).length≤1000:=fun k hk=>by
  have:=hl ((fmT o m d s x v).getD k []) (by
   rw[List.getD_eq_getElem?_getD,List.getElem?_eq_getElem (show k<(fmT o m d s x v).length from hk)]
   exact List.getElem_mem _)
  omega
 have e1:=dec_d hd;have e2:=dec_d hs;have e3:=dec_d hx;intro k hk;have ht:=len k hk
 match k,hk with
 | 0,_ =>
  refine fm0 ho hd hv ?_ ht;rw[tx_lnI,iS_tx,← e1,← sgnP_no];rfl
 | 1,_ =>
  refine fm1 ho hd hv ?_ ht;rw[tx_lnI,iS_tx,← e1,← sgnP_no];show (((ariL.getD o []++[46,119,32])++(114::Lib.decDigits d))++[44,32])++tF v false=_;simp
 | 2,_ =>
  refine fm2 ho hd hv ?_ ht;rw[tx_lnI,iS_tx,← e1,← sgnP_no];show (((ariL.getD o []++[46,98,32])++(114::Lib.decDigits d))++[44,32])++tF v false=_;simp
 | 3,_ =>
  refine fm3 (s:=s) hm hd hs hv ?_ ht;rw[tx_lnJ,tx_iM,← e1,← e2,← sgnP_off];show ((((((accL.getD m []++[32])++(114::Lib.decDigits d))++[44,91])++(114::Lib.decDigits s))++tF v true)++[93])=_;simp
 | 4,_ =>
  refine fm4 (s:=s) hm hd hs hv ?_ ht;rw[tx_lnJ,tx_iM,← e1,← e2,← sgnP_off];show ((((((accL.getD m []++[46,120,32])++(114::Lib.decDigits d))++[44,91])++(114::Lib.decDigits s))++tF v true)++[93])=_;simp
 | 5,_ =>
  refine fm5 (s:=s) (x:=x) hm hd hs hx hv ?_ ht;rw[tx_lnJ,tx_iM1,← e1,← e2,← e3,← sgnP_off];show ((((((((accL.getD m []++[32])++(114::Lib.decDigits d))++[44,91])++(114::Lib.decDigits s))++[43])++(114::Lib.decDigits x))++tF v true)++[93])=_;simp
abbrev strM (l:List Bs):List Value:=l.map fun x=>.string ⟨x.toArray⟩
theorem fits_v {v:Nat}(hv:v<4294967296):((v+128)%4294967296<256)↔wE v 8=true:=by
 unfold wE;simp only[Nat.reducePow,Nat.reduceSub,Bool.or_eq_true,decide_eq_true_eq];omega
theorem fmT_at {o m d s x v k:Nat}(hk:k<6):(strM (fmT o m d s x v))[0+k*1]? = some (.string ⟨((fmT o m d s x v).getD k []).toArray⟩):=by
 rw[List.getElem?_map,show 0+k*1=k by omega,List.getElem?_eq_getElem (show k<(fmT o m d s x v).length from hk),List.getD_eq_getElem?_getD,List.getElem?_eq_getElem (show k<(fmT o m d s x v).length from hk)];rfl
abbrev szV (l:List Nat):List Value:=l.map fun n=>.int .i64 (n:Nat)
theorem fmS_at {v k:Nat}(hk:k<6):(szV (fmS v))[0+k*1]? = some (.int .i64 ((fmS v).getD k 0:Nat)):=by
 rw[List.getElem?_map,show 0+k*1=k by omega,List.getElem?_eq_getElem (show k<(fmS v).length from hk),List.getD_eq_getElem?_getD,List.getElem?_eq_getElem (show k<(fmS v).length from hk)];rfl
set_option maxHeartbeats 4000000 in
set_option maxRecDepth 100000 in
theorem forms_law (op v r0 r1 r2:Nat) (hop:op<256) (hv:v<4294967296) (h0:r0<256) (h1:r1<256) (h2:r2<256) (w_0:World) (hw0:WOk w_0):Calls Tryz.prog 9 #[.int .u8 op,.int .u32 v,.agg #[.int .u8 r0,.int .u8 r1,.int .u8 r2]] w_0 fun e w'=>e=.returned (.bool true)∧Ext w_0 w':=by
 obtain⟨o,ho⟩:∃n,n=op%15:=⟨_,rfl⟩;obtain⟨m,hm⟩:∃n,n=op%7:=⟨_,rfl⟩;obtain⟨d,hd⟩:∃n,n=r0%8:=⟨_,rfl⟩;obtain⟨s,hs⟩:∃n,n=r1%8:=⟨_,rfl⟩;obtain⟨x,hx⟩:∃n,n=r2%8:=⟨_,rfl⟩;have ho15:o<15:=by omega
 have hm7:m<7:=by omega
 have hd8:d<8:=by omega
 have hs8:s<8:=by omega
 have hx8:x<8:=by omega
 have hd32:d<4294967296:=by omega
 have hs32:s<4294967296:=by omega
 have hx32:x<4294967296:=by omega
 have hsix:=fm_six ho15 hm7 hd8 hs8 hx8 hv;have hl1:=nm_ln (l:=ariL) (m:=5) (by decide) o;have hl2:=nm_ln (l:=accL) (m:=5) (by decide) m;have hld:(Lib.decDigits d).length≤1:=vI (k:=1) (by omega) (by decide);have hls:(Lib.decDigits s).length≤1:=vI (k:=1) (by omega) (by decide);have hlx:(Lib.decDigits x).length≤1:=vI (k:=1) (by omega) (by decide);have hl3:(tF v false).length≤11:=by rw[sgnP_no];exact sgnB_len hv
 have hl4:(tF v true).length≤11:=by rw[sgnP_off];exact offB_len hv
 have e0:∀n:Nat,n<4294967296→IntKind.u32.wrap (n:Int)=n:=fun n hn=>u32n hn (Nat.le_refl _);refine zS (args:=[Value.int .u8 op,Value.int .u32 v,Value.agg [Value.int .u8 r0,Value.int .u8 r1,Value.int .u8 r2].toArray]) Tryz.func9 M 181 M (Nat.le_of_ble_eq_true M)<|Z3 0 1 2 M M M<|zV (H':=Hp (fun _=>False) w_0 [] [] (fun _=>True)) (fun u hu=>?_) ?_
 ·subst hu;exact Hp.start0
 refine zX<|zZ<|zO .none M (yB M M) (fun b5=>?_);refine Za M M<|ZX<|zZ<|yY .none M  (v:=.bool true) (by kernel_rfl) M (fun w hw=>sanity_any w (hw0.ext hw.ext0)) ?_;refine Za M M<|ZX<|Z6r 0 1 2 5 6 7 M M M M M M<|yS (ι:=Nat) (C:=fun _=>True) (val:=fun b=>.slice (some ⟨b,0,none⟩) 15 15) (TT:=fun b=>Bl7 b (vX ariL)) .none M  (by kernel_rfl) M (fun _ h=>h.elim) (fun _=>Bl7.lies) (fun w hw=>arith_rf w) (fun bn Fn _ hFn=>?_);refine Zm M M ?_;(refine ZF rfl (yf_rem rfl rfl ?_ ((tmM op 15 (by decide)).trans (by rw[← ho]))) ?_;(· first|decide|omega);skip);refine ZF M (zK (j:=o) (es:=1) M M Tryz.underlying59 (by kernel_rfl) M (by omega) M) ?_;refine ZF M (zD M Tryz.underlying9 M (fun w hw=>str_cell (HpG.x hw).1.2 (show o<15 by omega))) ?_;refine Za M M<|ZX<|Z7r 0 1 2 5 6 7 8 M M M M M M M<|yS (ι:=Nat) (C:=fun _=>True) (val:=fun b=>.slice (some ⟨b,0,none⟩) 7 7) (TT:=fun b=>Bl7 b (vX accL)) .none M  (by kernel_rfl) M (fun _ h=>h.elim) (fun _=>Bl7.lies) (fun w hw=>mem_rf w) (fun bm Fm _ hFm=>?_);refine Zm M M ?_;(refine ZF rfl (yf_rem rfl rfl ?_ ((tmM op 7 (by decide)).trans (by rw[← hm]))) ?_;(· first|decide|omega);skip);refine ZF M (zK (j:=m) (es:=1) M M Tryz.underlying59 (by kernel_rfl) M (by omega) M) ?_;refine ZF M (zD M Tryz.underlying9 M (fun w hw=>str_cell (HpG.x hw).1.2 (show m<7 by omega))) ?_;refine Za M M<|ZX<|Z8r 0 1 2 5 6 7 8 9 M M M M M M M M ?_;(refine ZF rfl (yA (j:=0) (es:=1) rfl rfl Tryz.underlying58 (by kernel_rfl) rfl ?_ rfl) ?_;(· first|decide|omega|(simp;done)|(simp;omega));skip);refine ZF M (zU 0 M M M Tryz.underlying5 M) ?_;(refine ZF rfl (yf_rem rfl rfl ?_ ((tmM r0 8 (by decide)).trans (by rw[← hd]))) ?_;(· first|decide|omega);skip)
 refine ZF M (yO M (by kernel_rfl) Tryz.underlying22 (e0 d hd32)) ?_
 refine yY .none M  (v:=.string ⟨(Lib.decDigits d).toArray⟩) (by kernel_rfl) M (fun w hw=>tZ d hd32 w) ?_;refine vA .none M  (v:=.string ⟨(114::Lib.decDigits d:Bs).toArray⟩) (zG (a:=[114]) M M ?_) ?_
 ·show 1+(Lib.decDigits d).length≤_;omega
 refine Za M M<|ZX<|Z9r 0 1 2 5 6 7 8 9 10 M M M M M M M M M ?_;(refine ZF rfl (yA (j:=1) (es:=1) rfl rfl Tryz.underlying58 (by kernel_rfl) rfl ?_ rfl) ?_;(· first|decide|omega|(simp;done)|(simp;omega));skip);refine ZF M (zU 0 M M M Tryz.underlying5 M) ?_;(refine ZF rfl (yf_rem rfl rfl ?_ ((tmM r1 8 (by decide)).trans (by rw[← hs]))) ?_;(· first|decide|omega);skip)
 refine ZF M (yO M (by kernel_rfl) Tryz.underlying22 (e0 s hs32)) ?_
 refine yY .none M  (v:=.string ⟨(Lib.decDigits s).toArray⟩) (by kernel_rfl) M (fun w hw=>tZ s hs32 w) ?_;refine vA .none M  (v:=.string ⟨(114::Lib.decDigits s:Bs).toArray⟩) (zG (a:=[114]) M M ?_) ?_
 ·show 1+(Lib.decDigits s).length≤_;omega
 refine Za M M<|ZX<|Z10r 0 1 2 5 6 7 8 9 10 11 M M M M M M M M M M ?_;(refine ZF rfl (yA (j:=2) (es:=1) rfl rfl Tryz.underlying58 (by kernel_rfl) rfl ?_ rfl) ?_;(· first|decide|omega|(simp;done)|(simp;omega));skip);refine ZF M (zU 0 M M M Tryz.underlying5 M) ?_;(refine ZF rfl (yf_rem rfl rfl ?_ ((tmM r2 8 (by decide)).trans (by rw[← hx]))) ?_;(· first|decide|omega);skip)
 refine ZF M (yO M (by kernel_rfl) Tryz.underlying22 (e0 x hx32)) ?_
 refine yY .none M  (v:=.string ⟨(Lib.decDigits x).toArray⟩) (by kernel_rfl) M (fun w hw=>tZ x hx32 w) ?_;refine vA .none M  (v:=.string ⟨(114::Lib.decDigits x:Bs).toArray⟩) (zG (a:=[114]) M M ?_) ?_
 ·show 1+(Lib.decDigits x).length≤_;omega
 refine Za M M<|ZX<|Z11r 0 1 2 5 6 7 8 9 10 11 12 M M M M M M M M M M M<|Zm M M<|yY .none M  (v:=.string ⟨(tF v false).toArray⟩) (by kernel_rfl) M (fun w hw=>signed_any v hv false w) ?_;refine Za M M<|ZX<|Z12r 0 1 2 5 6 7 8 9 10 11 12 13 M M M M M M M M M M M M<|Zm M M<|yY .none M  (v:=.string ⟨(tF v true).toArray⟩) (by kernel_rfl) M (fun w hw=>signed_any v hv true w) ?_;refine Za M M<|ZX<|Z13r 0 1 2 5 6 7 8 9 10 11 12 13 14 M M M M M M M M M M M M M<|Zm M M<|ZF M (yL M M (show IntKind.u32.wrap ((v:Int)+128)=(((v+128)%4294967296:Nat):Int) from M))<|ZF M (xO M M)<|Za M M<|ZX<|Z14r 0 1 2 5 6 7 8 9 10 11 12 13 14 15 M M M M M M M M M M M M M M<|Zm M M ?_;(refine ZF rfl (zG rfl rfl ?_) ?_;(· (simp only[List.length_append,List.length_cons,List.length_nil];omega));skip);refine Zm M M ?_;(refine ZF rfl (zG rfl rfl ?_) ?_;(· (simp only[List.length_append,List.length_cons,List.length_nil];omega));skip);(refine ZF rfl (zG rfl rfl ?_) ?_;(· (simp only[List.length_append,List.length_cons,List.length_nil];omega));skip);refine Zm M M ?_;(refine ZF rfl (zG rfl rfl ?_) ?_;(· (simp only[List.length_append,List.length_cons,List.length_nil];omega));skip);refine Zm M M ?_;(refine ZF rfl (zG rfl rfl ?_) ?_;(· (simp only[List.length_append,List.length_cons,List.length_nil];omega));skip);refine Zm M M ?_;(refine ZF rfl (zG rfl rfl ?_) ?_;(· (simp only[List.length_append,List.length_cons,List.length_nil];omega));skip);(refine ZF rfl (zG rfl rfl ?_) ?_;(· (simp only[List.length_append,List.length_cons,List.length_nil];omega));skip);refine Zm M M ?_;(refine ZF rfl (zG rfl rfl ?_) ?_;(· (simp only[List.length_append,List.length_cons,List.length_nil];omega));skip);refine Zm M M ?_;(refine ZF rfl (zG rfl rfl ?_) ?_;(· (simp only[List.length_append,List.length_cons,List.length_nil];omega));skip);refine Zm M M ?_;(refine ZF rfl (zG rfl rfl ?_) ?_;(· (simp only[List.length_append,List.length_cons,List.length_nil];omega));skip);(refine ZF rfl (zG rfl rfl ?_) ?_;(· (simp only[List.length_append,List.length_cons,List.length_nil];omega));skip);refine Zm M M ?_;(refine ZF rfl (zG rfl rfl ?_) ?_;(· (simp only[List.length_append,List.length_cons,List.length_nil];omega));skip);refine Zm M M ?_;(refine ZF rfl (zG rfl rfl ?_) ?_;(· (simp only[List.length_append,List.length_cons,List.length_nil];omega));skip);refine Zm M M ?_;(refine ZF rfl (zG rfl rfl ?_) ?_;(· (simp only[List.length_append,List.length_cons,List.length_nil];omega));skip);(refine ZF rfl (zG rfl rfl ?_) ?_;(· (simp only[List.length_append,List.length_cons,List.length_nil];omega));skip);refine Zm M M ?_;(refine ZF rfl (zG rfl rfl ?_) ?_;(· (simp only[List.length_append,List.length_cons,List.length_nil];omega));skip);refine Zm M M ?_;(refine ZF rfl (zG rfl rfl ?_) ?_;(· (simp only[List.length_append,List.length_cons,List.length_nil];omega));skip);(refine ZF rfl (zG rfl rfl ?_) ?_;(· (simp only[List.length_append,List.length_cons,List.length_nil];omega));skip);refine Zm M M ?_;(refine ZF rfl (zG rfl rfl ?_) ?_;(· (simp only[List.length_append,List.length_cons,List.length_nil];omega));skip)
 refine Zm M M ?_;(refine ZF rfl (zG rfl rfl ?_) ?_;(· (simp only[List.length_append,List.length_cons,List.length_nil];omega));skip);(refine ZF rfl (zG rfl rfl ?_) ?_;(· (simp only[List.length_append,List.length_cons,List.length_nil];omega));skip);refine Zm M M ?_;(refine ZF rfl (zG rfl rfl ?_) ?_;(· (simp only[List.length_append,List.length_cons,List.length_nil];omega));skip);refine Zm M M ?_;(refine ZF rfl (zG rfl rfl ?_) ?_;(· (simp only[List.length_append,List.length_cons,List.length_nil];omega));skip);(refine ZF rfl (zG rfl rfl ?_) ?_;(· (simp only[List.length_append,List.length_cons,List.length_nil];omega));skip);refine Zm M M ?_;(refine ZF rfl (zG rfl rfl ?_) ?_;(· (simp only[List.length_append,List.length_cons,List.length_nil];omega));skip);refine Zm M M ?_;(refine ZF rfl (zG rfl rfl ?_) ?_;(· (simp only[List.length_append,List.length_cons,List.length_nil];omega));skip);(refine ZF rfl (zG rfl rfl ?_) ?_;(· (simp only[List.length_append,List.length_cons,List.length_nil];omega));skip);refine Zm M M ?_;(refine ZF rfl (zG rfl rfl ?_) ?_;(· (simp only[List.length_append,List.length_cons,List.length_nil];omega));skip);(refine ZF rfl (zG rfl rfl ?_) ?_;(· (simp only[List.length_append,List.length_cons,List.length_nil];omega));skip);refine Zm M M ?_;(refine ZF rfl (zG rfl rfl ?_) ?_;(· (simp only[List.length_append,List.length_cons,List.length_nil];omega));skip);refine Zm M M ?_;(refine ZF rfl (zG rfl rfl ?_) ?_;(· (simp only[List.length_append,List.length_cons,List.length_nil];omega));skip);(refine ZF rfl (zG rfl rfl ?_) ?_;(· (simp only[List.length_append,List.length_cons,List.length_nil];omega));skip);refine ZF M (xH (cells:=(strM (fmT o m d s x v)).toArray) M (by kernel_rfl)) ?_;refine zO .none M (yW (z:=.agg #[.string ⟨#[]⟩,.string ⟨#[]⟩,.string ⟨#[]⟩,.string ⟨#[]⟩,.string ⟨#[]⟩,.string ⟨#[]⟩]) (cs:=[.string ⟨#[]⟩,.string ⟨#[]⟩,.string ⟨#[]⟩,.string ⟨#[]⟩,.string ⟨#[]⟩,.string ⟨#[]⟩]) (by kernel_rfl) M) (fun b16=>?_);refine ZR 0 M M M M M (by kernel_rfl) ?_;refine ZX<|Z15r 0 1 2 5 6 7 8 9 10 11 12 13 14 15 16 M M M M M M M M M M M M M M M<|ZF M (xH (cells:=#[.int .i64 6,.int .i64 6,.int .i64 0,.int .i64 7,.int .i64 7,.int .i64 7]) M (by kernel_rfl)) ?_;refine zO .none M (yW (z:=.agg #[.int .i64 0,.int .i64 0,.int .i64 0,.int .i64 0,.int .i64 0,.int .i64 0]) (cs:=[.int .i64 0,.int .i64 0,.int .i64 0,.int .i64 0,.int .i64 0,.int .i64 0]) (by kernel_rfl) M) (fun b17=>?_);refine ZR 0 M M M M M (by kernel_rfl) ?_;refine ZT<|xK (ι:=Unit) (fun _=>[(1,.int .u32 v),(5,.pointer (some ⟨b5,0,none⟩)),(7,.bool true),(16,.pointer (some ⟨b16,0,none⟩)),(17,.pointer (some ⟨b17,0,none⟩))]) (fun _=>Hp (fun _=>False) w_0 [(b17,bk 61 (szV (fmS v))),(b16,bk 45 (strM (fmT o m d s x v))),(b5,bk 58 [.int .u8 r0,.int .u8 r1,.int .u8 r2])] [] (fun _=>True)) ?_ (fun _=>?_)
 ·refine zX<|Z16r 0 1 2 5 6 7 8 9 10 11 12 13 14 15 16 17 M M M M M M M M M M M M M M M M<|Zm M M<|ZT<|zR M (fun h116=>?_) (fun h116=>?_)
  ·replace h116:=of_decide_eq_true h116;have hfit:wE v 8=true:=(fits_v hv).1 (by omega);refine zX<|zZ ?_;(refine ZF rfl (yA (j:=0) (es:=1) rfl rfl Tryz.underlying61 (by kernel_rfl) rfl ?_ rfl) ?_;(· first|decide|omega|(simp;done)|(simp;omega));skip);refine ZS 0 M M M M M (by kernel_rfl) ?_;refine ZX<|Z17r 0 1 2 5 6 7 8 9 10 11 12 13 14 15 16 17 116 M M M M M M M M M M M M M M M M M ?_;(refine ZF rfl (yA (j:=2) (es:=1) rfl rfl Tryz.underlying61 (by kernel_rfl) rfl ?_ rfl) ?_;(· first|decide|omega|(simp;done)|(simp;omega));skip);refine ZS 0 M M M M M (by kernel_rfl) ?_;refine ZT<|Z17r 0 1 2 5 6 7 8 9 10 11 12 13 14 15 16 17 116 M M M M M M M M M M M M M M M M M ?_;(refine ZF rfl (yA (j:=3) (es:=1) rfl rfl Tryz.underlying61 (by kernel_rfl) rfl ?_ rfl) ?_;(· first|decide|omega|(simp;done)|(simp;omega));skip);refine ZS 0 M M M M M (by kernel_rfl) ?_;refine zJ ?_
   exact zA (ι:=Unit) () (O5 M M M M M) (fun w h=>by
    have e:szV (fmS v)=[.int .i64 3,.int .i64 6,.int .i64 3,.int .i64 3,.int .i64 7,.int .i64 7]:=by unfold fmS fsz;rw[hfit];rfl
    rw[e]
    exact Hp.weakX h fun _ _=>trivial)
  ·replace h116:=of_decide_eq_false h116
   have hfit:wE v 8=false:=by
    cases hf:wE v 8 with
    | false=>rfl
    | true=>exact absurd ((fits_v hv).2 hf) (by omega)
   refine zM ?_
   exact zA (ι:=Unit) () (O5 M M M M M) (fun w h=>by
    have e:szV (fmS v)=[.int .i64 6,.int .i64 6,.int .i64 0,.int .i64 7,.int .i64 7,.int .i64 7]:=by unfold fmS fsz;rw[hfit];rfl
    rw[e]
    exact Hp.weakX h fun _ _=>trivial)
 ·refine zX<|zX<|zZ<|Za M M<|ZT<|yZ<|xQ (ι:={j:Nat // j≤6}) (fun j=>[(1,.int .u32 v),(5,.pointer (some ⟨b5,0,none⟩)),(7,.bool true),(16,.pointer (some ⟨b16,0,none⟩)),(17,.pointer (some ⟨b17,0,none⟩)),(18,.int .i64 (j.1:Nat))]) (fun _=>Hp (fun _=>False) w_0 [(b17,bk 61 (szV (fmS v))),(b16,bk 45 (strM (fmT o m d s x v))),(b5,bk 58 [.int .u8 r0,.int .u8 r1,.int .u8 r2])] [] (fun _=>True)) (fun j=>6-j.1) ⟨0,by decide⟩ ?_ ?_ (fun j=>?_)
  ·exact .cons M<|.cons M<|.cons M<|.cons M<|.cons M<|.cons M<|.nil
  ·exact fun w h=>h
  obtain⟨j,hj⟩:=j;dsimp only;refine zX<|zX<|zZ<|Zm M M<|ZF M (xO M M)<|ZT<|zR M (fun h121=>?_) (fun h121=>?_)
  ·replace h121:=of_decide_eq_true h121;have hj6:j<6:=by omega
   have hF:=hsix j hj6;unfold FmR at hF;obtain⟨z,hz⟩:∃z,z=(fmS v).getD j 0:=⟨_,rfl⟩;have hSat:=fmS_at (v:=v) hj6;rw[← hz] at hF hSat;obtain⟨⟨c,ln,er⟩,hp⟩:∃p,tQ 1 ((fmT o m d s x v).getD j []) 0=p:=⟨_,rfl⟩;rw[hp] at hF;refine zM<|zT<|zX<|yZ<|zX<|Z7r 1 5 7 16 17 18 121 M M M M M M M<|Zm M M<|ZF M (yA (es:=1) (j:=j) M M Tryz.underlying45 (by kernel_rfl) M hj6 M) ?_;refine ZF M (zD (v:=.string ⟨((fmT o m d s x v).getD j []).toArray⟩) M Tryz.underlying9 M (fun w hw=>HpG.cell (k:=1) hw M (fmT_at hj6))) ?_;refine yY .none M  (v:=.tuple #[.string ⟨c.toArray⟩,.int .i64 (ln:Nat),.int .i64 (er:Nat)]) (by kernel_rfl) M (fun w hw=>asm_is hp (by decide) (hw0.ext hw.ext0)) ?_;refine Zm M M<|ZF M (zC M M)<|ZF M (zC M M)<|ZF M (zC M M)<|Za M M<|Za M M<|Za M M<|ZX<|zX<|Z10r 1 5 7 16 17 18 19 20 21 121 M M M M M M M M M M<|Zm M M<|ZF M (yA (es:=1) (j:=j) M M Tryz.underlying61 (by kernel_rfl) M hj6 M) ?_;refine ZF M (zD (v:=.int .i64 (z:Nat)) M Tryz.underlying3 M (fun w hw=>HpG.cell (k:=0) hw M hSat)) ?_;refine ZF M (yF M M)<|ZT<|zR M (fun h135=>?_) (fun h135=>?_)
   ·replace h135:=eq_of_beq h135;have hz0:z=0:=by omega
    rw[if_pos hz0] at hF;cases hF;refine zX<|zX<|Z11r 1 5 7 16 17 18 19 20 21 121 135 M M M M M M M M M M M<|Zm M M<|ZF M (tU M M Tryz.underlying9)<|Zm M M<|zH 138 M (fun hb=>?_) (fun hb=>?_)
    ·exact absurd hb (by simp)
    ·refine ZG M M M (zI M)<|ZG M M M (vG M M)<|ZF M (zL M M)<|Zm M M<|zH 142 M (fun hb=>?_) (fun hb=>?_)
     ·replace hb:=vS hb
      first|exact absurd rfl hb|(simp at hb)
     ·replace hb:=uL hb;refine ZG M M M (zI M)<|ZG M M M (vG M M)<|ZF M (zL M M)<|ZT<|zR M (fun h145=>?_) (fun h145=>?_)
      ·replace h145:=vS h145
       first|exact absurd rfl h145|(simp at h145)
      ·replace h145:=uL h145;refine zM<|zT<|xW<|zN<|xX<|zT<|Z12r 1 5 7 16 17 18 19 20 21 121 135 145 M M M M M M M M M M M M<|Zm M M<|ZF M (yL M M (show IntKind.i64.wrap ((j:Int)+1)=((j+1:Nat):Int) from i64_in ((j+1:Nat):Int) (by omega) (by omega))) ?_;exact Za M M<|zJ<|yJ (ι:={j:Nat // j≤6}) ⟨j+1,by omega⟩ (by show 6-(j+1)<6-j;omega) (O6 M M M M M M) (fun w h=>h)
   ·replace h135:=xU h135;have hz0:z≠0:=by omega
    rw[if_neg hz0] at hF;obtain⟨c',i,hF1,hF2,hF3,hF4,hF5⟩:=hF;cases hF1
    have hcs:c.length≤10:=by
     have hz7:z≤7:=by
      rw[hz]
      have:∀n∈fmS v,n≤7:=by
       unfold fmS fsz
       split<;>decide
      rw[List.getD_eq_getElem?_getD,List.getElem?_eq_getElem (show j<(fmS v).length from hj6)];exact this _ (List.getElem_mem _)
     omega
    have hdc:=decode_any c (by omega);unfold DcPost at hdc;rw[hF3] at hdc;refine zM<|zT<|zX<|Z11r 1 5 7 16 17 18 19 20 21 121 135 M M M M M M M M M M M<|Zm M M<|yY .none M  (v:=.tuple #[.agg (kiC i).toArray,.int .i64 0]) (by kernel_rfl) M (fun w hw=>(hdc w).mono fun e w' ⟨h1,h2⟩=>⟨h2,h1⟩) ?_;refine Zm M M<|ZF M (zC M M)<|ZF M (zC M M)<|zO .none M (yW (z:=.agg #[.int .i64 0,.int .i64 0,.int .i64 0,.int .i64 0,.int .i64 0,.int .u32 0,.int .i64 0]) (cs:=[.int .i64 0,.int .i64 0,.int .i64 0,.int .i64 0,.int .i64 0,.int .u32 0,.int .i64 0]) (by kernel_rfl) M) (fun b22=>?_);refine ZR 0 M M M M M (by kernel_rfl) ?_;refine Za M M<|ZX<|Z13r 1 5 7 16 17 18 19 20 21 22 23 121 135 M M M M M M M M M M M M M<|Zm M M<|ZF M (vG M M)<|Zm M M<|zH 153 M (fun hb=>?_) (fun hb=>?_)
    ·replace hb:=vS hb
     first|exact absurd rfl hb|exact absurd (by rw[hF2]) hb|exact absurd (by rw[hF4]) hb
    ·replace hb:=uL hb;refine ZG M M M (zI M)<|ZG M M M (vG M M)<|ZF M (zL M M)<|Zm M M<|zH 157 M (fun hb=>?_) (fun hb=>?_)
     ·replace hb:=vS hb
      first|exact absurd rfl hb|exact absurd (by rw[hF2]) hb|exact absurd (by rw[hF4]) hb
     ·replace hb:=uL hb;refine ZG M M M (zI M)<|ZG M M M (uU M Tryz.underlying9)<|ZG M M M (zI M)<|ZG M M M (yA (es:=1) (j:=j) M M Tryz.underlying61 (by kernel_rfl) M hj6 M) ?_;refine ZG M M M (zD (v:=.int .i64 (z:Nat)) M Tryz.underlying3 M (fun w hw=>HpG.cell (k:=1) hw M hSat)) ?_;refine ZG M M M (vG M M)<|ZF M (zL M M)<|Zm M M<|zH 165 M (fun hb=>?_) (fun hb=>?_)
      ·replace hb:=vS hb
       first|exact absurd rfl hb|exact absurd (by rw[hF2]) hb|exact absurd (by rw[hF4]) hb
      ·replace hb:=uL hb;refine ZG M M M (zY (off:=5) (sz:=0) M Tryz.underlying35 (by kernel_rfl) M) ?_;refine ZG M M M (zU 0 M M M Tryz.underlying22 M)<|ZG M M M (zI M)<|ZG M M M (vG M M)<|ZF M (zL M M)<|Zm M M<|zH 171 M (fun hb=>?_) (fun hb=>?_)
       ·replace hb:=vS hb
        first|exact absurd rfl hb|exact absurd (by rw[hF2]) hb|exact absurd (by rw[hF4]) hb
       ·replace hb:=uL hb;refine ZG M M M (zY (off:=1) (sz:=0) M Tryz.underlying35 (by kernel_rfl) M) ?_;refine ZG M M M (zU 0 M M M Tryz.underlying3 M) ?_;(refine ZG rfl rfl rfl (yA (j:=0) (es:=1) rfl rfl Tryz.underlying58 (by kernel_rfl) rfl ?_ rfl) ?_;(· first|decide|omega|(simp;done)|(simp;omega));skip);refine ZG M M M (zU 3 M M M Tryz.underlying5 M) ?_;(refine ZG rfl rfl rfl (yf_rem rfl rfl ?_ ((tmM r0 8 (by decide)).trans (by rw[← hd]))) ?_;(· first|decide|omega);skip)
        refine ZG M M M (yO M (by kernel_rfl) Tryz.underlying3 (i64w_nat (by omega))) ?_
        refine ZG M M M (vG M M)<|ZF M (zL M M)<|ZT<|zR M (fun h179=>?_) (fun h179=>?_)
        ·replace h179:=vS h179;exact absurd (by rw[hF5]) h179
        ·replace h179:=uL h179;refine zM<|yX<|zT<|Z14r 1 5 7 16 17 18 19 20 21 22 23 121 135 179 M M M M M M M M M M M M M M<|Zm M M<|ZF M (yL M M (show IntKind.i64.wrap ((j:Int)+1)=((j+1:Nat):Int) from i64_in ((j+1:Nat):Int) (by omega) (by omega))) ?_;exact Za M M<|zJ<|yJ (ι:={j:Nat // j≤6}) ⟨j+1,by omega⟩ (by show 6-(j+1)<6-j;omega) (O6 M M M M M M) (fun w h=>Hp.drop h (List.sublist_cons_self _ _) (List.Sublist.refl _))
  ·replace h121:=of_decide_eq_false h121;refine xW<|zN<|zN<|xX<|zT<|zX<|Z7r 1 5 7 16 17 18 121 M M M M M M M<|Zm M M<|Za M M<|ZT<|zQ<|zP M M (fun w hw=>?_);exact⟨rfl,hw.ext0⟩
end Go.Proofs.YtkaepknpplhgkaaGreatDoor
