import Derived.Test.YtkaepknpplhgkaaGreatDoorMag
import Derived.Test.YtkaepknpplhgkaaGreatDoorMah
set_option maxRecDepth 100000
namespace Go.Proofs.YtkaepknpplhgkaaGreatDoor
open Go.Joins Go.ChangeShapes Go.WideShapes Go.ChangeAt Go.RowKit Go.Deep
theorem cell_ltA {w:World}{b o:Nat}{v:Value}(h:w.cell? ⟨b,o,none⟩=some v):b<w.heap.size:=by
 rcases Nat.lt_or_ge b w.heap.size with h1|h1
 ·exact h1
 ·unfold World.cell? at h;simp[Array.getElem?_eq_none h1] at h
theorem list_of {α:Type}{p:Nat→α→Prop}(d:α):∀n,(∀i,i<n→∃x,p i x)→∃l:List α,l.length=n∧∀i,i<n→p i (l.getD i d)
 | 0,_=>⟨[],rfl,fun i hi=>by omega⟩
 | n+1,h=>by
  obtain⟨l,hl,hp⟩:=list_of d n (fun i hi=>h i (by omega));obtain⟨x,hx⟩:=h n (by omega);refine⟨l++[x],by simp[hl],fun i hi=>?_⟩;rcases Nat.lt_or_ge i n with h1|h1
  ·have:=hp i h1;rw[Ki,List.getElem?_append_left (by omega),← Ki];exact this
  ·obtain rfl:i=n:=by omega
   have:(l++[x]).getD i d=x:=by rw[Ki,List.getElem?_append_right (by omega)];simp[hl]
   rw[this];exact hx
section
variable {H:Type}{enc:TypeId×Value→H}{w:World}{base:Nat}{spare:Nat→Bool}{held:Bool}{r:Reach}{b0:Nat}{v:Value}{d:DataW H}{p:List MemPlace}
theorem open_kins (hv:Value.okWide Tryz.prog w r b0 35 v) (h:DataW.Trod enc Tryz.prog w base spare held 35 v d p):∃i:KI,v=.agg (kiC i).toArray∧i.imm<4294967296:=by
 have hS:=Tryz.underlying35;obtain⟨cs,rfl,hsz⟩:=okWide_struct hS hv;have hC:Tryz.prog.cellsOf 35=7:=by kernel_rfl
 have hCi:Tryz.prog.cellsOf 3=1:=by kernel_rfl
 have hCu:Tryz.prog.cellsOf 22=1:=by kernel_rfl
 obtain⟨l⟩:=cs
 match l,hsz.trans hC with
 | [c0,c1,c2,c3,c4,c5,c6],_ =>
  obtain⟨fuel,hf⟩:=h;obtain⟨xs,n,_,_,_,hlen,hg⟩:=DataW.trod_struct hS hf
  match xs,hlen with
  | [y0,y1,y2,y3,y4,y5,y6],_ =>
   have t0:DataW.trod enc Tryz.prog w base spare held n 3 (([c0,c1,c2,c3,c4,c5,c6].drop 0).take (Tryz.prog.cellsOf 3))=some y0:=hg 0 _ rfl;have t1:DataW.trod enc Tryz.prog w base spare held n 3 (([c0,c1,c2,c3,c4,c5,c6].drop 1).take (Tryz.prog.cellsOf 3))=some y1:=hg 1 _ rfl;have t2:DataW.trod enc Tryz.prog w base spare held n 3 (([c0,c1,c2,c3,c4,c5,c6].drop 2).take (Tryz.prog.cellsOf 3))=some y2:=hg 2 _ rfl;have t3:DataW.trod enc Tryz.prog w base spare held n 3 (([c0,c1,c2,c3,c4,c5,c6].drop 3).take (Tryz.prog.cellsOf 3))=some y3:=hg 3 _ rfl;have t4:DataW.trod enc Tryz.prog w base spare held n 3 (([c0,c1,c2,c3,c4,c5,c6].drop 4).take (Tryz.prog.cellsOf 3))=some y4:=hg 4 _ rfl;have t5:DataW.trod enc Tryz.prog w base spare held n 22 (([c0,c1,c2,c3,c4,c5,c6].drop 5).take (Tryz.prog.cellsOf 22))=some y5:=hg 5 _ rfl;have t6:DataW.trod enc Tryz.prog w base spare held n 3 (([c0,c1,c2,c3,c4,c5,c6].drop 6).take (Tryz.prog.cellsOf 3))=some y6:=hg 6 _ rfl;rw[hCi] at t0 t1 t2 t3 t4 t6;rw[hCu] at t5;obtain⟨a0,e0,_,_⟩:=DataW.trod_int Tryz.underlying3 (show DataW.trod enc Tryz.prog w base spare held n 3 [c0]=some y0 from t0);obtain⟨a1,e1,_,_⟩:=DataW.trod_int Tryz.underlying3 (show DataW.trod enc Tryz.prog w base spare held n 3 [c1]=some y1 from t1);obtain⟨a2,e2,_,_⟩:=DataW.trod_int Tryz.underlying3 (show DataW.trod enc Tryz.prog w base spare held n 3 [c2]=some y2 from t2);obtain⟨a3,e3,_,_⟩:=DataW.trod_int Tryz.underlying3 (show DataW.trod enc Tryz.prog w base spare held n 3 [c3]=some y3 from t3);obtain⟨a4,e4,_,_⟩:=DataW.trod_int Tryz.underlying3 (show DataW.trod enc Tryz.prog w base spare held n 3 [c4]=some y4 from t4);obtain⟨a5,e5,_,w5⟩:=DataW.trod_int Tryz.underlying22 (show DataW.trod enc Tryz.prog w base spare held n 22 [c5]=some y5 from t5);obtain⟨a6,e6,_,_⟩:=DataW.trod_int Tryz.underlying3 (show DataW.trod enc Tryz.prog w base spare held n 3 [c6]=some y6 from t6);simp only[List.cons.injEq,and_true] at e0 e1 e2 e3 e4 e5 e6;subst e0 e1 e2 e3 e4 e5 e6;have u:=wf_u w5 rfl;have hmx:IntKind.u32.max=4294967295:=rfl;refine⟨⟨a0,a1,a2,a3,a4,a5.toNat,a6⟩,?_,by show a5.toNat<_;omega⟩;show _=Value.agg (#[.int .i64 a0,.int .i64 a1,.int .i64 a2,.int .i64 a3,.int .i64 a4,.int .u32 ((a5.toNat:Nat):Int),.int .i64 a6]);rw[show ((a5.toNat:Nat):Int)=a5 by omega]
end
end Go.Proofs.YtkaepknpplhgkaaGreatDoor
namespace Go.Proofs.YtkaepknpplhgkaaGreatDoor
section
variable {α:Type}(ln:α→Nat→Bs) (cd:α→Bs)
def codG (l:List α):Bs:=(l.map cd).flatten
def txtG (org:Nat):Nat→List α→Bs
 | _,[]=>[]
 | a,i::r=>(ln i ((org+a)%4294967296)++[10])++txtG org (a+(cd i).length) r
theorem codG_snoc (l:List α) (i:α):codG cd (l++[i])=codG cd l++cd i:=by simp[codG]
theorem txtG_snoc (org:Nat) (i:α):∀(l:List α) (a:Nat),txtG ln cd org a (l++[i])=txtG ln cd org a l++(ln i ((org+(a+(codG cd l).length))%4294967296)++[10])
 | [],a=>by simp[txtG,codG]
 | j::l,a=>by
  show (ln j ((org+a)%4294967296)++[10])++txtG ln cd org (a+(cd j).length) (l++[i])=(ln j ((org+a)%4294967296)++[10])++txtG ln cd org (a+(cd j).length) l++_;rw[txtG_snoc org i l];have:(codG cd (j::l)).length=(cd j).length+(codG cd l).length:=by simp[codG]
  rw[this,Nat.add_assoc a,Kj ((ln j ((org+a)%4294967296))++[10])]
theorem codG_len {k:Nat}(h:∀i,(cd i).length≤k):∀l:List α,(codG cd l).length≤k*l.length
 | []=>by simp[codG]
 | i::l=>by
  have:=codG_len h l;have:=h i;show (cd i++codG cd l).length≤k*(l.length+1);rw[Jp,Nat.mul_add];omega
theorem txtG_len {P:α→Prop}{k org:Nat}(h:∀i a,P i→(ln i a).length≤k):∀(l:List α) (a:Nat),(∀i∈l,P i)→(txtG ln cd org a l).length≤(k+1)*l.length
 | [],a,_=>by simp[txtG]
 | i::l,a,hp=>by
  have:=txtG_len (org:=org) h l (a+(cd i).length) (fun j hj=>hp j (Km _ hj));have:=h i ((org+a)%4294967296) (hp i (by simp));show ((ln i ((org+a)%4294967296)++[10])++txtG ln cd org (a+(cd i).length) l).length≤(k+1)*(l.length+1);rw[Jp,Jp,Nat.mul_add];simp only[Jq,Jr];omega
variable {kind:Int}{P:α→Prop}
theorem its_G (h:∀i a,P i→a<4294967296→∃l st,ln i a=txI l∧ItL kind a l st (cd i)) (org:Nat):∀(l:List α) (a:Nat),(∀i∈l,P i)→∃ss ls sts,txtG ln cd org a l=linesB ss∧ItLs kind org a ss ls sts (codG cd l)
 | [],a,_=>⟨[],[],[],rfl,.nil a⟩
 | i::l,a,hp=>by
  obtain⟨it,st,h1,h2⟩:=h i ((org+a)%4294967296) (hp i (by simp)) (Nat.mod_lt _ (by omega));obtain⟨ss,ls,sts,h3,h4⟩:=its_G h org l (a+(cd i).length) (fun j hj=>hp j (Km _ hj));exact⟨ln i ((org+a)%4294967296)::ss,it::ls,st::sts,by show _++txtG ln cd org (a+(cd i).length) l=_;rw[h3];rfl,.cons h1 h2 h4⟩
theorem asm_G (hk:kind=1∨kind=2) (h:∀i a,P i→a<4294967296→∃l st,ln i a=txI l∧ItL kind a l st (cd i)) (org:Nat) {l:List α}(hp:∀i∈l,P i) (ht:(txtG ln cd org 0 l).length≤1048576) (hc:(codG cd l).length≤65536):qW kind (txtG ln cd org 0 l) org=(codG cd l,0,0):=by
 obtain⟨ss,ls,sts,h3,h4⟩:=its_G ln cd h org l 0 hp;rw[h3] at ht ⊢;exact ds_asm hk h4.ds.end (linA_lines h4.nl) ht hc
end
def cdK (i:KI):Bs:=(uP i).getD []
def PK (i:KI):Prop:=VK i∧i.imm<4294967296
theorem cdK_len (i:KI):(cdK i).length≤7:=by
 unfold cdK
 cases h:uP i with
 | none=>exact Kr _
 | some c =>
  have hs:=sizes_K h;obtain⟨n,l,h1,h2,_,_⟩:=encK_rng h;show c.length≤7;rcases tY h1 with ⟨_,_,rfl,rfl⟩|⟨_,_,rfl,rfl⟩|⟨_,_,rfl,rfl⟩|⟨_,_,rfl,rfl⟩|⟨_,_,rfl,rfl⟩|⟨_,_,rfl,rfl⟩|⟨_,_,rfl,rfl⟩|⟨_,_,rfl,rfl⟩|⟨_,_,rfl,rfl⟩|⟨_,rfl,rfl⟩|⟨_,_,rfl,rfl⟩<;>omega
theorem lines_K (org:Nat) {l:List KI}(hp:∀i∈l,PK i) (hl:l.length≤30):qW 1 (txtG lnK cdK org 0 l) org=(codG cdK l,0,0):=by
 have h1:=txtG_len (k:=50) lnK cdK (org:=org) (P:=PK) (fun i a h=>lnK_len h.1 a) l 0 hp;have h2:=codG_len cdK cdK_len l;refine asm_G lnK cdK (P:=PK) (.inl M) (fun i a h ha=>?_) org hp (by omega) (by omega);obtain⟨_,_,e2⟩:=enc_vk h.1;have he:uP i=some (cdK i):=by unfold cdK;rw[e2];rfl
 exact itl_K h.2 he ha
structure Q5 where
 a:Int
 b:Int
 c:Int
 d:Int
 e:Int
abbrev q5C (q:Q5):List Value:=[.int .i64 q.a,.int .i64 q.b,.int .i64 q.c,.int .i64 q.d,.int .i64 q.e]
def q5S (l:List Q5):List Value:=l.flatMap q5C
theorem flt_at {α β:Type}{f:α→List β}{n:Nat}(hf:∀x,(f x).length=n):∀{l:List α}{i j:Nat}{x:α},l[i]? = some x→j<n→(l.flatMap f)[i*n+j]? = (f x)[j]?
 | [],i,j,x,h,_=>by cases i<;>cases h
 | a::l,0,j,x,h,hj=>by
  obtain rfl:a=x:=by simpa using h
  rw[List.flatMap_cons,Nat.zero_mul,Kq,List.getElem?_append_left (by rw[hf];exact hj)]
 | a::l,i+1,j,x,h,hj=>by
  rw[List.flatMap_cons,List.getElem?_append_right (by rw[hf,Nat.succ_mul];omega),hf,show (i+1)*n+j-n=i*n+j by rw[Nat.succ_mul];omega];exact flt_at hf (by simpa using h) hj
theorem q5S_len (l:List Q5):(q5S l).length=l.length*5:=by
 induction l with
 | nil=>rfl
 | cons q l ih =>
  show (q5C q++q5S l).length=_;rw[Jp,ih];show 5+l.length*5=(l.length+1)*5;omega
theorem q5S_at {l:List Q5}{i j:Nat}{q:Q5}{v:Value}(h:l[i]? = some q) (hv:(q5C q)[j]? = some v):(q5S l)[i*5+j]? = some v:=by
 have hj:j<5:=(Jt.1 hv).1;unfold q5S;rw[flt_at (n:=5) (fun _=>rfl) h hj];exact hv
end Go.Proofs.YtkaepknpplhgkaaGreatDoor
namespace Go.Proofs.YtkaepknpplhgkaaGreatDoor
open Go.Joins Go.ChangeShapes Go.WideShapes Go.ChangeAt Go.RowKit Go.Deep
section
variable {H:Type}{enc:TypeId×Value→H}{w:World}{base:Nat}{held:Bool}{r:Reach}{b0:Nat}{v:Value}{d:DataW H}{p:List MemPlace}
theorem open_int5s (hv:Value.okWide Tryz.prog w r b0 65 v) (h:DataW.Trod enc Tryz.prog w base (fun _=>true) held 65 v d p):∃A cap,∃l:List Q5,v=.slice A l.length cap∧l.length≤cap∧cap≤maxLen∧RdF (fun _=>True) A (q5S l) w:=by
 have hC:Tryz.prog.cellsOf 67=5:=by kernel_rfl
 have hC1:Tryz.prog.cellsOf 3=1:=by kernel_rfl
 obtain⟨A0,len0,cap0,rfl⟩:=okWide_slice Tryz.underlying65 hv;obtain⟨fuel,hf⟩:=h;rcases open_slice Tryz.underlying65 hf with ⟨hcs,_⟩|⟨a,len,cap,m,n,D,Pl,hcs,_,hl,hm,hmm,_,hel⟩
 ·have hcs:[Value.slice A0 len0 cap0]=[Value.slice none 0 0]:=hcs;refine⟨none,0,[],by simpa using hcs,by simp,by unfold maxLen;omega,fun h0=>by simp[q5S] at h0⟩
 ·simp only[if_true] at hmm;subst hmm;have hcs:[Value.slice A0 len0 cap0]=[Value.slice (some a) len m]:=hcs
  have each:∀i,i<len→∃q:Q5,∀j,j<5→w.cell? ((a.add (i*5)).add j)=some ((q5C q).getD j undef):=by
   intro i hi;obtain⟨cs',hc,ht⟩:=hel i (by omega);rw[hC] at hc;obtain⟨_,hcl,hat⟩:=World.cells?_some hc;obtain⟨xs,f,_,_,_,hxl,hg⟩:=DataW.trod_array Tryz.underlying67 ht
   match cs',hcl with
   | [c0,c1,c2,c3,c4],_ =>
    match xs,hxl with
    | [y0,y1,y2,y3,y4],_ =>
     have t0:=hg 0 (by omega);have t1:=hg 1 (by omega);have t2:=hg 2 (by omega);have t3:=hg 3 (by omega);have t4:=hg 4 (by omega);rw[hC1] at t0 t1 t2 t3 t4;obtain⟨a0,e0,_,_⟩:=DataW.trod_int Tryz.underlying3 (show DataW.trod enc Tryz.prog w base (fun _=>true) held f 3 [c0]=some y0 from t0);obtain⟨a1,e1,_,_⟩:=DataW.trod_int Tryz.underlying3 (show DataW.trod enc Tryz.prog w base (fun _=>true) held f 3 [c1]=some y1 from t1);obtain⟨a2,e2,_,_⟩:=DataW.trod_int Tryz.underlying3 (show DataW.trod enc Tryz.prog w base (fun _=>true) held f 3 [c2]=some y2 from t2);obtain⟨a3,e3,_,_⟩:=DataW.trod_int Tryz.underlying3 (show DataW.trod enc Tryz.prog w base (fun _=>true) held f 3 [c3]=some y3 from t3);obtain⟨a4,e4,_,_⟩:=DataW.trod_int Tryz.underlying3 (show DataW.trod enc Tryz.prog w base (fun _=>true) held f 3 [c4]=some y4 from t4);simp only[List.cons.injEq,and_true] at e0 e1 e2 e3 e4;subst e0 e1 e2 e3 e4;refine⟨⟨a0,a1,a2,a3,a4⟩,fun j hj=>?_⟩
     match j,hj with
     | 0,_=>exact hat 0 (by omega)
     | 1,_=>exact hat 1 (by omega)
     | 2,_=>exact hat 2 (by omega)
     | 3,_=>exact hat 3 (by omega)
     | 4,_=>exact hat 4 (by omega)
  obtain⟨l,hlen,hp⟩:=list_of ⟨0,0,0,0,0⟩ len each;refine⟨some a,m,l,by rw[hlen];simpa using hcs,by omega,hm,fun h0=>?_⟩;rw[q5S_len,hlen] at h0;have h00:=hp 0 (by omega) 0 (by omega);obtain⟨b,off,spot⟩:=a;have hspot:spot=none:=by simpa [Addr.add] using World.cell?_spot h00
  subst hspot;refine⟨b,off,rfl,trivial,?_,fun i hi=>?_⟩
  ·rw[Go.WideShapes.add_plain,Go.WideShapes.add_plain] at h00;exact cell_ltA h00
  ·rw[q5S_len,hlen] at hi;have h1:=hp (i/5) (by omega) (i%5) (by omega);rw[Go.WideShapes.add_plain,Go.WideShapes.add_plain,show off+i/5*5+i%5=off+i by omega] at h1;rw[h1];obtain⟨q,hq⟩:∃q,l[i/5]? = some q:=⟨_,Ka (by omega)⟩;have h2:l.getD (i/5) ⟨0,0,0,0,0⟩=q:=by rw[Ki,hq];rfl
   rw[h2];obtain⟨x,hx⟩:∃x,(q5C q)[i%5]? = some x:=⟨_,Ka (show i%5<(q5C q).length from Nat.mod_lt _ (by decide))⟩;have h4:=q5S_at hq hx;rw[show i/5*5+i%5=i by omega] at h4;have h3:(q5C q).getD (i%5) undef=x:=by rw[Ki,hx];rfl
   have h5:(q5S l).getD i undef=x:=by rw[Ki,h4];rfl
   rw[h3,h5]
end
end Go.Proofs.YtkaepknpplhgkaaGreatDoor
