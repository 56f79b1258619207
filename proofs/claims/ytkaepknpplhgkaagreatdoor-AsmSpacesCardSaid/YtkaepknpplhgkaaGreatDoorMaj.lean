/- The law of the round trip. -/
import Derived.Test.YtkaepknpplhgkaaGreatDoorMai
import Derived.Test.YtkaepknpplhgkaaGreatDoorMah
namespace Go.Proofs.YtkaepknpplhgkaaGreatDoor
open Go.RowKit
theorem short_any (s:Bs) (hs:s.length≤9223372036854775807) (k:Nat) (hk:k≤1000000000) (w_0:World):Calls Tryz.prog 16 #[.string ⟨s.toArray⟩,.int .i64 k] w_0 fun e w'=>e=.returned (.string ⟨(s.take k).toArray⟩)∧Ext w_0 w':=by
 refine zP (args:=[.string ⟨s.toArray⟩,.int .i64 k]) Tryz.func16 M 11 M (Nat.le_of_ble_eq_true M)<|Z2 0 1 M M<|zU (H':=Hp (fun _=>False) w_0 [] [] (fun _=>True)) (fun u hu=>?_) ?_
 ·subst hu;exact Hp.start0
 refine zX<|zZ<|Za rfl rfl<|ZX<|zZ<|Zm rfl rfl<|Zm rfl rfl<|ZF rfl (wD rfl Tryz.underlying9)<|Zm rfl rfl<|ZF rfl (yf_min rfl rfl)<|ZF rfl (yf_strHi (c:=s.take k) rfl rfl Tryz.underlying9 (by split<;>omega) (by split<;>omega) (by split<;>first|(rw[Int.toNat_natCast,List.take_of_length_le (Nat.le_refl s.length),List.take_of_length_le (show s.length≤k by omega)])|rw[Int.toNat_natCast])) ?_;refine Za M M<|ZT<|zR<|zO M M (fun w hw=>?_);exact⟨rfl,hw.ext0⟩
end Go.Proofs.YtkaepknpplhgkaaGreatDoor
/- The law of spaces, plainly. -/
namespace Go.Proofs.YtkaepknpplhgkaaGreatDoor
def uE:List Bs:=[[],[32],[9],[32,32,9,32],[],[32]]
def rB:List Bs:=[[10],[32,59,32,115,121,115,32,57,44,32,114,49,32,91,10],[9,59,10,10],[10,32,32,10,59,10]]
def spcC (c:UInt8):Bool:=decide (c=32)||decide (c=44)||decide (c=91)||decide (c=93)||decide (c=43)||decide (c=42)
def vC (n:Nat) (c:UInt8):Bs:=if c=10 then rB.getD (n%4) [] else if spcC c=true then uE.getD (n%6) []++[c]++uE.getD (n/6%6) [] else [c]
def spB (N:Nat→Nat):Nat→Bs→Bs
 | _,[]=>[]
 | i,c::r=>vC (N i) c++spB N (i+1) r
theorem spB_app (N:Nat→Nat):∀(a b:Bs) (i:Nat),spB N i (a++b)=spB N i a++spB N (i+a.length) b
 | [],b,i=>rfl
 | c::a,b,i=>by
  show vC (N i) c++spB N (i+1) (a++b)=vC (N i) c++spB N (i+1) a++_;rw[spB_app N a b (i+1),List.append_assoc,show i+(c::a).length=i+1+a.length by rw[List.length_cons];omega]
theorem wor_plain {c:UInt8}(h:wM c=true):c≠10∧spcC c=false:=by
 refine⟨(wor_no h).2.1,?_⟩
 cases hs:spcC c with
 | false=>rfl
 | true =>
  unfold spcC at hs;simp only[Bool.or_eq_true,decide_eq_true_eq] at hs;rcases hs with ((((rfl|rfl)|rfl)|rfl)|rfl)|rfl<;>(revert h;decide)
theorem dig_wor {c:UInt8}(h:uV c=true):wM c=true:=by unfold wM;rw[h];simp
theorem spB_plain (N:Nat→Nat):∀(s:Bs) (i:Nat),(∀c∈s,c≠10∧spcC c=false)→spB N i s=s
 | [],_,_=>rfl
 | c::s,i,h=>by
  obtain⟨h1,h2⟩:=h c (List.mem_cons_self ..);show vC (N i) c++spB N (i+1) s=_;rw[spB_plain N s (i+1) fun x hx=>h x (List.mem_cons_of_mem _ hx)];unfold vC;rw[if_neg h1,if_neg (by rw[h2];decide)];rfl
def blI (m:Bs):List It:=m.map .b
theorem tx_bl:∀m:Bs,txI (blI m)=m
 | []=>rfl
 | c::m=>by
  show [c]++txI (blI m)=_;rw[tx_bl m];rfl
theorem tk_bl:∀m:Bs,tkI (blI m)=[]
 | []=>rfl
 | c::m=>by
  show []++tkI (blI m)=_;rw[tk_bl m];rfl
theorem ok_bl {l:List It}(hl:okI l):∀m:Bs,(∀c∈m,c=32∨c=9)→okI (blI m++l)
 | [],_=>hl
 | c::m,h=>⟨h c (List.mem_cons_self ..),ok_bl hl m fun x hx=>h x (List.mem_cons_of_mem _ hx)⟩
theorem st_bl {l:List It}(hl:stI l=true):∀m:Bs,stI (blI m++l)=true
 | []=>hl
 | _::_=>rfl
theorem more_bl (n:Nat):∀c∈uE.getD n [],c=32∨c=9:=by
 have h:∀m∈uE,∀c∈m,c=32∨c=9:=by decide
 rw[List.getD_eq_getElem?_getD]
 cases e:uE[n]? with
 | none=>intro c hc;cases hc
 | some m=>exact h m (List.mem_of_getElem? e)
structure SpcI (N:Nat→Nat) (i:Nat) (l l':List It):Prop where
 tx:spB N i (txI l)=txI l'
 ok:okI l'
 tk:tkI l'=tkI l
 st:stI l=true→stI l'=true
theorem sp_one (N:Nat→Nat) (i:Nat) {x:UInt8}{t:It}(ht:itB t=[x]) (hx:x≠10) {r r':List It}(hs:∀l,stI (t::l)=true) (hok:∀l,okI l→okI (t::l)) (h:SpcI N (i+1) r r'):∃l',SpcI N i (t::r) l':=by
 have e:spB N i (txI (t::r))=vC (N i) x++txI r':=by
  rw[wJ,ht];show vC (N i) x++spB N (i+1) (txI r)=_;rw[h.tx]
 unfold vC at e;rw[if_neg hx] at e
 by_cases hc:spcC x=true
 ·rw[if_pos hc] at e;refine⟨blI (uE.getD (N i%6) [])++t::(blI (uE.getD (N i/6%6) [])++r'),?_,ok_bl (hok _ (ok_bl h.ok _ (more_bl _))) _ (more_bl _),?_,fun _=>st_bl (hs _) _⟩
  ·rw[e,txI_app,wJ,txI_app,tx_bl,tx_bl,ht];simp only[List.append_assoc]
  ·rw[tkI_app,wS,tkI_app,tk_bl,tk_bl,h.tk,wS];rfl
 ·rw[if_neg hc] at e;refine⟨t::r',?_,hok _ h.ok,?_,fun _=>hs _⟩
  ·rw[e,wJ,ht]
  ·rw[wS,wS,h.tk]
theorem sp_item (N:Nat→Nat):∀(l:List It) (i:Nat),okI l→∃l',SpcI N i l l'
 | [],i,_=>⟨[],rfl,trivial,rfl,fun _=>rfl⟩
 | .w s::r,i,h=>by
  obtain⟨h1,h2,h3⟩:=h;obtain⟨r',hr⟩:=sp_item N r (i+s.length) h3;refine⟨.w s::r',?_,⟨h1,hr.st h2,hr.ok⟩,?_,fun hh=>by cases hh⟩
  ·rw[wJ,wJ];show spB N i (s++txI r)=s++txI r';rw[spB_app,spB_plain N s i fun c hc=>wor_plain (wrd_wor h1 c hc),hr.tx]
  ·rw[wS,wS,hr.tk]
 | .n k::r,i,h=>by
  obtain⟨h1,h2,h3⟩:=h;obtain⟨r',hr⟩:=sp_item N r (i+(Lib.decDigits k).length) h3;refine⟨.n k::r',?_,⟨h1,hr.st h2,hr.ok⟩,?_,fun hh=>by cases hh⟩
  ·rw[wJ,wJ];show spB N i (Lib.decDigits k++txI r)=Lib.decDigits k++txI r';rw[spB_app,spB_plain N _ i fun c hc=>wor_plain (dig_wor (dec_mem hc)),hr.tx]
  ·rw[wS,wS,hr.tk]
 | .c x::r,i,h=>by
  obtain⟨r',hr⟩:=sp_item N r (i+1) h.2;exact sp_one N i (x:=x) (t:=.c x) M (sgn_wor h.1).2.2 (fun _=>rfl) (fun _ hl=>⟨h.1,hl⟩) hr
 | .b x::r,i,h=>by
  obtain⟨r',hr⟩:=sp_item N r (i+1) h.2;exact sp_one N i (x:=x) (t:=.b x) rfl (by rcases h.1 with rfl|rfl<;>decide) (fun _=>rfl) (fun _ hl=>⟨h.1,hl⟩) hr
theorem ok_snoc {x:UInt8}(hx:x=32∨x=9):∀{l:List It},okI l→okI (l++[.b x])
 | [],_=>⟨hx,trivial⟩
 | .w s::r,h=>⟨h.1,by have:=h.2.1;cases r with
  | nil=>rfl
  | cons t r=>cases t<;>exact this,ok_snoc hx h.2.2⟩
 | .n k::r,h=>⟨h.1,by have:=h.2.1;cases r with
  | nil=>rfl
  | cons t r=>cases t<;>exact this,ok_snoc hx h.2.2⟩
 | .c _::r,h=>⟨h.1,ok_snoc hx h.2⟩
 | .b _::r,h=>⟨h.1,ok_snoc hx h.2⟩
theorem li_cut {l:List It}(kind:Int) (h:okI l) (r:Bs):liA kind (txI l++59::r)=sH kind (tkI l):=by
 have e:lexA (txI l++59::r)=lexA (txI l):=by
  have h1:wV (txI l++59::r)=wV (txI l):=by
   have hn:=fun c hc=>(txI_no h c hc).1;rw[cutA_no hn];unfold wV;rw[List.takeWhile_append_of_pos (by intro c hc;simpa using hn c hc)];simp
  unfold lexA;rw[h1]
 unfold liA;rw[e,lexA_it h];rfl
theorem li_bl (kind:Int) (m:Bs) (h:∀c∈m,c=32∨c=9) (r:Bs) (hr:r=[]∨∃x,r=59::x):liA kind (m++r)=.ok ⟨[],[],[],[],none,0,0⟩:=by
 have hok:okI (blI m):=by have:=ok_bl (l:=[]) trivial m h;rwa [List.append_nil] at this
 have e:sH kind (tkI (blI m))=.ok ⟨[],[],[],[],none,0,0⟩:=by
  rw[tk_bl];have:=li_empty kind;unfold liA at this;rw[lexA_no (fun _ h=>absurd h (by simp)),lexD_nil] at this;exact this
 rcases hr with rfl|⟨x,rfl⟩
 ·rw[List.append_nil];have:=liA_it kind hok;rw[tx_bl] at this;exact this.trans e
 ·have:=li_cut kind hok x;rw[tx_bl] at this;exact this.trans e
/-- One line, with what is laid at its end. -/
structure SpL (kind:Int) (s:Bs) (st:ASt) (t:Bs) (ls:List Bs):Prop where
 tx:t=wG ls
 nl:∀x∈ls,NoNl x
 hd:∃x r,ls=x::r∧liA kind x=.ok st∧∀y∈r,liA kind y=.ok ⟨[],[],[],[],none,0,0⟩
theorem nl_app {a b:Bs}(h:NoNl a) (k:NoNl b):NoNl (a++b):=fun c hc=>(List.mem_append.1 hc).elim (h c) (k c)
theorem nl_dec {a:Bs}(h:(a.all fun c=>!decide (c=10))=true):NoNl a:=fun c hc=>by
 have:=List.all_eq_true.1 h c hc
 simpa using this
theorem sp_end (kind:Int) {l:List It}{st:ASt}(h:okI l) (hp:sH kind (tkI l)=.ok st) (n:Nat) (hn:n<4):∃ls,SpL kind (txI l) st (txI l++rB.getD n []) ls:=by
 have hnl:=okI_nl h
 match n,hn with
 | 0,_=>exact⟨[txI l],by simp[wG,rB],fun x hx=>by cases List.mem_singleton.1 hx;exact hnl,_,[],rfl,(liA_it kind h).trans hp,fun _ h=>absurd h (by simp)⟩
 | 1,_ =>
  refine⟨[txI l++[32,59,32,115,121,115,32,57,44,32,114,49,32,91]],by simp[wG,rB],fun x hx=>by cases List.mem_singleton.1 hx;exact nl_app hnl (nl_dec (by decide)),_,[],rfl,?_,fun _ h=>absurd h (by simp)⟩;have h2:=ok_snoc (x:=32) (.inl rfl) h;have:=li_cut kind h2 [32,115,121,115,32,57,44,32,114,49,32,91];rw[txI_app,tkI_app,List.append_assoc] at this;have e:tkI l++tkI [.b 32]=tkI l:=List.append_nil _;rw[e] at this;exact this.trans hp
 | 2,_ =>
  refine⟨[txI l++[9,59],[]],by simp[wG,rB],fun x hx=>?_,_,[[]],rfl,?_,fun y hy=>by cases List.mem_singleton.1 hy;exact li_empty kind⟩
  ·simp only[List.mem_cons,List.not_mem_nil,or_false] at hx;rcases hx with rfl|rfl
   ·exact nl_app hnl (nl_dec (by decide))
   ·exact nl_dec (by decide)
  ·have h2:=ok_snoc (x:=9) (.inr rfl) h;have:=li_cut kind h2 [];rw[txI_app,tkI_app,List.append_assoc] at this;have e:tkI l++tkI [.b 9]=tkI l:=List.append_nil _;rw[e] at this;exact this.trans hp
 | 3,_ =>
  refine⟨[txI l,[32,32],[59]],by simp[wG,rB],fun x hx=>?_,_,[[32,32],[59]],rfl,(liA_it kind h).trans hp,fun y hy=>?_⟩
  ·simp only[List.mem_cons,List.not_mem_nil,or_false] at hx;rcases hx with rfl|rfl|rfl
   ·exact hnl
   ·exact nl_dec (by decide)
   ·exact nl_dec (by decide)
  ·simp only[List.mem_cons,List.not_mem_nil,or_false] at hy;rcases hy with rfl|rfl
   ·exact li_bl kind [32,32] (by decide) [] (.inl M)
   ·exact li_bl kind [] (by decide) [59] (.inr ⟨[],rfl⟩)
theorem ds_empties {kind:Int}{org a:Nat}{ls:List Bs}{sts:List ASt}{c:Bs}(t:DsA kind org a ls sts c):∀r:List Bs,(∀y∈r,liA kind y=.ok ⟨[],[],[],[],none,0,0⟩)→∃sts',DsA kind org a (r++ls) sts' c
 | [],_=>⟨sts,t⟩
 | y::r,h=>by
  obtain⟨sts',k⟩:=ds_empties t r fun z hz=>h z (List.mem_cons_of_mem _ hz);exact⟨_,.empty (h y (List.mem_cons_self ..)) k⟩
theorem linesB_app (a b:List Bs):wG (a++b)=wG a++wG b:=by simp[wG]
theorem sp_lines {kind:Int}{org:Nat}(N:Nat→Nat) {a:Nat}{ss:List Bs}{ls:List (List It)}{sts:List ASt}{c:Bs}(h:ItLs kind org a ss ls sts c):∀i,∃ls2 sts2,spB N i (wG ss)=wG ls2∧(∀x∈ls2,NoNl x)∧DsA kind org a ls2 sts2 c:=by
 induction h with
 | nil a=>exact fun i=>⟨[],[],rfl,(fun _ h=>absurd h (by simp)),.nil a⟩
 | @cons a s l st ss ls sts c d hx h t ih =>
  intro i;obtain⟨l',hl⟩:=sp_item N l i h.ok;have hp:sH kind (tkI l')=.ok st:=by rw[hl.tk];exact h.par
  obtain⟨ls1,h1⟩:=sp_end kind hl.ok hp (N (i+s.length)%4) (Nat.mod_lt _ (by decide));obtain⟨ls2,sts2,e2,n2,d2⟩:=ih (i+s.length+1);obtain⟨x,r,rfl,hx1,hr1⟩:=h1.hd;obtain⟨v,hv1,hv2⟩:=h.cd;obtain⟨sts3,d3⟩:=ds_empties d2 r hr1;refine⟨(x::r)++ls2,st::sts3,?_,fun y hy=>(List.mem_append.1 hy).elim (h1.nl y) (n2 y),.cons hx1 h.lab hv1 hv2 h.size d3⟩;rw[linesB_app,← e2,← h1.tx];show spB N i ((s++[10])++wG ss)=_;rw[spB_app,spB_app,List.length_append,← hl.tx,← hx]
  have e10:spB N (i+s.length) [10]=rB.getD (N (i+s.length)%4) []:=by
   show vC (N (i+s.length)) 10++[]=_;rw[List.append_nil];exact if_pos rfl
  rw[e10];rfl
theorem pieceB_len (n:Nat) (c:UInt8):(vC n c).length≤15:=by
 have h1:∀m∈uE,m.length≤4:=by decide
 have h2:∀m∈rB,m.length≤15:=by decide
 have e1:=fun n=>sZ (l:=uE) (k:=4) h1 n;have e2:=fun n=>sZ (l:=rB) (k:=15) h2 n;have f1:=e1 (n%6);have f2:=e1 (n/6%6);have f3:=e2 (n%4);unfold vC
 split
 ·exact f3
 ·split
  ·simp only[List.length_append,List.length_cons,List.length_nil];omega
  ·show 1≤15;decide
theorem spB_len (N:Nat→Nat):∀(s:Bs) (i:Nat),(spB N i s).length≤15*s.length
 | [],_=>Nat.le_refl _
 | c::s,i=>by
  have h1:=pieceB_len (N i) c;have h2:=spB_len N s (i+1);show (vC (N i) c++spB N (i+1) s).length≤_;rw[List.length_append,List.length_cons];omega
/-- Blanks, comments and empty lines do not change the code. -/
theorem spaces_plain {kind:Int}(hk:kind=1∨kind=2) (N:Nat→Nat) (code:Bs) (org:Nat) (hc:code.length≤200):qJ kind (spB N 0 (disA kind code org)) org=(code,0,0):=by
 obtain⟨ls,sts,h⟩:=dis_its hk org code.length code 0 (Nat.le_refl _);obtain⟨ls2,sts2,e,n2,d2⟩:=sp_lines N h 0;have hl:=disA_len hk code org;have hs:=spB_len N (disA kind code org) 0;have ed:disA kind code org=wG (disF kind org code.length code 0):=if_neg (by omega);rw[ed] at hs hl ⊢;rw[e] at hs ⊢;exact ds_asm hk d2.end (linA_lines n2) (by omega) (by omega)
end Go.Proofs.YtkaepknpplhgkaaGreatDoor
/- The law of spaces. -/
namespace Go.Proofs.YtkaepknpplhgkaaGreatDoor
open Go.RowKit
section
variable {n:Fr}{m:List (Nat×Value)}{B:Nat→Prop}{w0:World}{L:List (Nat×Obj)}{R:List Rw}{X:World→Prop}
abbrev rwG (g cap:Nat) (l:Bs):Rw:=rwB (some ⟨g,0,none⟩) cap l
/-- A string appended to a row of bytes: what it does. -/
theorem ch_appStr {a:Act}{w:World}{base:Nat}{d:Option Nat}{pos:String}{af:Array Edge}{gd:Option (Nat×Bool)}{x y:Operand}{g0 cap:Nat}{l s:Bs}(hs:Sat n m a) (hown:w.ownsRow base 5 1 (.slice (some ⟨g0,0,none⟩) l.length cap) l.length (Lib.byteCells l)) (hb:base≤w.heap.size) (hx:ev m x=some (.slice (some ⟨g0,0,none⟩) l.length cap)) (hy:ev m y=some (.string ⟨s.toArray⟩)) (hl:l.length+s.length≤140737488355328) :
  Ch Tryz.prog ⟨d,.call { callee:=.builtin .append,args:=#[x,y],argTypes:=#[53,9] },53,pos,af,gd⟩ a w fun v w'=>∃i:Nat×Nat,v=.slice (some ⟨i.1,0,none⟩) (l++s).length i.2∧w.grownBy w' (some g0)∧w'.ownsRow base 5 1 (.slice (some ⟨i.1,0,none⟩) (l++s).length i.2) (l++s).length (Lib.byteCells (l++s))∧((Value.slice (some ⟨i.1,0,none⟩) (l++s).length i.2).ownBlock=some g0∨∀b,(Value.slice (some ⟨i.1,0,none⟩) (l++s).length i.2).ownBlock=some b→w.heap.size≤b):=by
 have hmap:(Tryz.prog.info? 5).map (fun i=>(i.zero,i.size,i.bytes))=some (some (.int .u8 0),1,1):=by kernel_rfl
 obtain⟨i,hq',hii⟩:=Option.map_eq_some_iff.1 hmap;obtain⟨hz,hs1,hb1⟩:i.zero=some (.int .u8 0)∧i.size=1∧i.bytes=1:=by simpa using hii
 obtain⟨v',w',hr,ho',hgr,hblk,hnil⟩:=app_str (P:=Tryz.prog) (w:=w) (base:=base) (t:=53) (u:=9) (ty:=53) (e:=5) (i:=i) Tryz.underlying53 Tryz.underlying9 hq' hz hs1 hb1 hown ⟨s.toArray⟩ (by simpa [ByteArray.size] using hl) hb;have e8:Lib.byteCells (l++s)=Lib.byteCells l++Lib.strCells ⟨s.toArray⟩:=by simp[Lib.byteCells,Lib.strCells]
 have ho2:w'.ownsRow base 5 1 v' (l++s).length (Lib.byteCells (l++s)):=by
  rw[List.length_append,e8];simpa [ByteArray.size] using ho'
 obtain⟨g',c',rfl⟩:∃g c,v'=.slice (some ⟨g,0,none⟩) (l++s).length c:=by
  rcases ho2.2 with ⟨e1,e2⟩|⟨g,cap,cur,e1,_⟩
  ·have:=(hnil.1 e1).1;cases this
  ·exact⟨_,_,e1⟩
 have ex:=hs.ev (x:=x) hx;have ey:=hs.ev (x:=y) hy
 have hrun:(execOp a.eval ⟨d,.call { callee:=.builtin .append,args:=#[x,y],argTypes:=#[53,9] },53,pos,af,gd⟩).run Tryz.prog w=.ok (.value (.slice (some ⟨g',0,none⟩) (l++s).length c')) w':=by
  simp[execOp,resolve,invoke,builtin,ex,ey,hr]
 unfold Ch;rw[hrun];exact⟨(g',c'),rfl,hgr,ho2,hblk⟩
theorem cf_appStr {x y:Operand}{g0 cap:Nat}{l s:Bs}(j:Nat) (hj:R[j]? = some (rwG g0 cap l)) (hx:ev m x=some (.slice (some ⟨g0,0,none⟩) l.length cap)) (hy:ev m y=some (.string ⟨s.toArray⟩)) (hl:l.length+s.length≤140737488355328) :
  CF Tryz.prog (.call { callee:=.builtin .append,args:=#[x,y],argTypes:=#[53,9] }) 53 n m (Hp B w0 L R X) (fun i:Nat×Nat=>.slice (some ⟨i.1,0,none⟩) (l++s).length i.2) (fun i=>Hp B w0 L (R.set j (rwG i.1 i.2 (l++s))) X):=fun a w d pos af gd hs hw =>
 (ch_appStr hs (HpG.rows hw _ (List.mem_of_getElem? hj)) (HpG.size hw) hx hy hl).mono fun v w' ⟨i,e1,e2,e3,e4⟩=>⟨i,e1,Hp.row (r':=rwG i.1 i.2 (l++s)) hw hj e2 e3 e4⟩
/-- A block of one byte appended to a row of bytes: what it does. -/
theorem ch_appOne {a:Act}{w:World}{base:Nat}{d:Option Nat}{pos:String}{af:Array Edge}{gd:Option (Nat×Bool)}{x y:Operand}{g0 cap b0:Nat}{l:Bs}{c:UInt8}(hs:Sat n m a) (hown:w.ownsRow base 5 1 (.slice (some ⟨g0,0,none⟩) l.length cap) l.length (Lib.byteCells l)) (hb:base≤w.heap.size) (hk:Blk b0 (bk 5 [.int .u8 c.toNat]) w) (hx:ev m x=some (.slice (some ⟨g0,0,none⟩) l.length cap)) (hy:ev m y=some (.slice (some ⟨b0,0,none⟩) 1 1)) (hl:l.length+1≤140737488355328) :
  Ch Tryz.prog ⟨d,.call { callee:=.builtin .append,args:=#[x,y],argTypes:=#[53,53] },53,pos,af,gd⟩ a w fun v w'=>∃i:Nat×Nat,v=.slice (some ⟨i.1,0,none⟩) (l++[c]).length i.2∧w.grownBy w' (some g0)∧w'.ownsRow base 5 1 (.slice (some ⟨i.1,0,none⟩) (l++[c]).length i.2) (l++[c]).length (Lib.byteCells (l++[c]))∧((Value.slice (some ⟨i.1,0,none⟩) (l++[c]).length i.2).ownBlock=some g0∨∀b,(Value.slice (some ⟨i.1,0,none⟩) (l++[c]).length i.2).ownBlock=some b→w.heap.size≤b):=by
 have hmap:(Tryz.prog.info? 5).map (fun i=>(i.zero,i.size,i.bytes))=some (some (.int .u8 0),1,1):=by kernel_rfl
 obtain⟨i,hq',hii⟩:=Option.map_eq_some_iff.1 hmap;obtain⟨hz,hs1,hb1⟩:i.zero=some (.int .u8 0)∧i.size=1∧i.bytes=1:=by simpa using hii
 obtain⟨g,cp,w',hr,h2,h3,h4,h5⟩:=run_append_lies (P:=Tryz.prog) (w:=w) 53 53 base 5 i (.int .u8 0) 1 1 Tryz.underlying53 hq' hz hs1 hb1 rfl (Nat.lt_succ_self 0) _ l.length _ hown ⟨b0,0,none⟩ 1 1 [.int .u8 c.toNat] rfl (fun j' u hu=>by
  rw[Addr.add_mid,Nat.zero_add];exact Blk.cell hk hu) (List.all_eq_true.1 M) (Nat.lt_succ_self 0) (Nat.le_trans hl (by decide)) (by rw[Nat.mul_one];exact hl) hb _ rfl
 have e8:Lib.byteCells (l++[c])=Lib.byteCells l++[.int .u8 c.toNat]:=by simp[Lib.byteCells]
 have hln:(l++[c]).length=l.length+1:=by simp
 have hrun:(execOp a.eval ⟨d,.call { callee:=.builtin .append,args:=#[x,y],argTypes:=#[53,53] },53,pos,af,gd⟩).run Tryz.prog w=.ok (.value (.slice (some ⟨g,0,none⟩) (l.length+1) cp)) w':=by
  simp[execOp,resolve,invoke,builtin,hs.ev hx,hs.ev hy,hr]
 unfold Ch;rw[hrun,hln,e8]
 exact⟨(g,cp),rfl,h3,h2,h4.elim (fun h4=>.inl h4.symm) fun h4=>.inr fun b' hb'=>by
  have h9:b'=g:=Option.some.inj (show some g=some b' from hb').symm
  rw[h9,h4];exact Nat.le_refl _⟩
theorem cf_appOne {x y:Operand}{g0 cap b0:Nat}{l:Bs}{c:UInt8}(j k:Nat) (hj:R[j]? = some (rwG g0 cap l)) (hk:L[k]? = some (b0,bk 5 [.int .u8 c.toNat])) (hx:ev m x=some (.slice (some ⟨g0,0,none⟩) l.length cap)) (hy:ev m y=some (.slice (some ⟨b0,0,none⟩) 1 1)) (hl:l.length+1≤140737488355328) :
  CF Tryz.prog (.call { callee:=.builtin .append,args:=#[x,y],argTypes:=#[53,53] }) 53 n m (Hp B w0 L R X) (fun i:Nat×Nat=>.slice (some ⟨i.1,0,none⟩) (l++[c]).length i.2) (fun i=>Hp B w0 L (R.set j (rwG i.1 i.2 (l++[c]))) X):=fun a w d pos af gd hs hw =>
 (ch_appOne hs (HpG.rows hw _ (List.mem_of_getElem? hj)) (HpG.size hw) (HpG.blk hw hk) hx hy hl).mono fun v w' ⟨i,e1,e2,e3,e4⟩=>⟨i,e1,Hp.row (r':=rwG i.1 i.2 (l++[c])) hw hj e2 e3 e4⟩
end
section
variable {P:Program}{n:Fr}{m:List (Nat×Value)}{ty:TypeId}{G B:Nat→Prop}{w0 w:World}{L:List (Nat×Obj)}{R:List Rw}{X J:World→Prop}{Q:Exit→Act→World→Prop}{ops:Array Oper}{σ:List Nat}
/-- A row grows, in a region that draws its order. -/
theorem wd_rowC {ι:Type}{op:Op}{d:Nat}{pos:String}{af:Array Edge}{gd:Option (Nat×Bool)}{r:Rw}{rr:ι→Rw}{val:ι→Value}(k:Nat) (hk:R[k]? = some r) (hkd:kd ⟨some d,op,ty,pos,af,gd⟩=.chain) (hsel:∀cs b,op≠.select cs b) (hg:Gd ops m gd) (hd:Nat.blt d n=true)
  (hrun:∀a w pos af gd,Sat n m a→HpG G B w0 L R X w→Ch P ⟨some d,op,ty,pos,af,gd⟩ a w fun v w'=>∃i,v=val i∧w.grownBy w' r.v.ownBlock∧w'.ownsRow w0.heap.size (rr i).E (rr i).size (rr i).v (rr i).n (rr i).xs∧((rr i).v.ownBlock=r.v.ownBlock∨∀b,(rr i).v.ownBlock=some b→w.heap.size≤b))
  (hJ:∀w w',HpG G B w0 L R X w→J w→Keep (fun q=>r.v.ownBlock=some q) w w'→J w')
  (h:∀i (N:Nat→Prop),WD P ops J Q σ (fun j=>N j∨G j) n ((d,val i)::m) (HpG (fun j=>N j∨G j) B w0 L (R.set k (rr i)) X)) :
  WDo P ops J Q ⟨some d,op,ty,pos,af,gd⟩ σ G n m (HpG G B w0 L R X):=by
 refine wd_chainN (ι:=ι×(Nat→Prop)) (val:=fun i=>val i.1) (N:=fun i=>i.2) (H':=fun i=>HpG (fun j=>i.2 j∨G j) B w0 L (R.set k (rr i.1)) X) hkd hsel hg hd (fun _=>HpG.stab) (fun a w pos af gd hs hw hjw=>?_) fun i=>h i.1 i.2;have hmem:=List.mem_of_getElem? hk;obtain⟨F,hF,hX⟩:=hw.foot;refine (hrun a w pos af gd hs hw).mono fun v w' ⟨i,e1,h3,h2,h4⟩=>?_;have hres:=Hp.row hw.hp (k:=k) (r':=rr i) hk h3 h2 h4;have hK:Keep (fun q=>r.v.ownBlock=some q) w w':=⟨h3.os,h3.tape,h3.output,h3.size,fun j hj hne=>h3.block j hj (fun e=>hne e.symm)⟩
 have hsub:=(blks_row (L:=L) (r':=rr i) hk (fun x' hx' b hb' e=>by
  subst e;rcases h4 with h4|h4
  ·rw[← h4];exact hb'
  ·have h5:=h4 _ hb';have h6:=hw.lt _ hx'
   omega) hw.nd).2
 have hbm:∀q,r.v.ownBlock=some q→q∈wB L R:=fun q hq=>List.mem_append_right _ (List.mem_filterMap.2 ⟨_,hmem,hq⟩);refine⟨hK.mono fun q _ hq=>hw.inG _ (hbm q hq),hJ w w' hw hjw hK,(i,fun q=>(rr i).v.ownBlock=some q∧w.heap.size≤q),e1,⟨hres.keep,hres.own,hres.mine,hres.rows,hres.nd,fun q hq=>?_,F,fun q hq=>?_,fun u hu=>hX u fun q hq=>?_⟩,fun q hq=>⟨hq.2,(h2.lt q hq.1).2⟩⟩
 ·rcases hsub q hq with hq|hq
  ·exact .inr (hw.inG _ hq)
  ·rcases h4 with h4|h4
   ·rw[h4] at hq;exact .inr (hw.inG _ (hbm _ hq))
   ·exact .inl ⟨hq,h4 q hq⟩
 ·obtain⟨f1,f2,f3,f4⟩:=hF q hq;refine⟨Nat.lt_of_lt_of_le f1 h3.size,f2,fun hm=>?_,.inr f4⟩;rcases hsub q hm with hm|hm
  ·exact f3 hm
  ·rcases h4 with h4|h4
   ·rw[h4] at hm;exact f3 (hbm _ hm)
   ·have:=h4 q hm;omega
 ·obtain⟨f1,f2,f3,f4⟩:=hF q hq;rw[hu q hq,hK.block q f1 (fun e=>f3 (hbm q e))]
end
section
variable {n:Fr}{m:List (Nat×Value)}{G B:Nat→Prop}{w0 w:World}{L:List (Nat×Obj)}{R:List Rw}{X J:World→Prop}{Q:Exit→Act→World→Prop}{ops:Array Oper}{σ:List Nat}
theorem HpG.neRow {i k g:Nat}{o:Obj}{r:Rw}(h:HpG G B w0 L R X w) (hi:L[i]? = some (g,o)) (hk:R[k]? = some r):r.v.ownBlock≠some g:=fun e =>
 (List.nodup_append.1 h.nd).2.2 g (List.mem_map.2 ⟨_,List.mem_of_getElem? hi,rfl⟩) g (List.mem_filterMap.2 ⟨r,List.mem_of_getElem? hk,e⟩) rfl
/-- A block that is not the row's stands when the row grows. -/
theorem blk_row {i k g:Nat}{o:Obj}{r:Rw}{w w':World}(h:HpG G B w0 L R X w) (hi:L[i]? = some (g,o)) (hk:R[k]? = some r) (hb:Blk g o w) (hK:Keep (fun q=>r.v.ownBlock=some q) w w'):Blk g o w' :=
 (hK.block g hb.lt (HpG.neRow h hi hk)).trans hb
theorem wd_appStr {d:Nat}{pos:String}{af:Array Edge}{gd:Option (Nat×Bool)}{x y:Operand}{g0 cap:Nat}{l s:Bs}(k:Nat) (hk:R[k]? = some (rwG g0 cap l)) (hg:Gd ops m gd) (hd:Nat.blt d n=true) (hx:ev m x=some (.slice (some ⟨g0,0,none⟩) l.length cap)) (hy:ev m y=some (.string ⟨s.toArray⟩)) (hl:l.length+s.length≤140737488355328)
  (hJ:∀w w',HpG G B w0 L R X w→J w→Keep (fun q=>(rwG g0 cap l).v.ownBlock=some q) w w'→J w')
  (h:∀(i:Nat×Nat) (N:Nat→Prop),WD Tryz.prog ops J Q σ (fun j=>N j∨G j) n ((d,.slice (some ⟨i.1,0,none⟩) (l++s).length i.2)::m) (HpG (fun j=>N j∨G j) B w0 L (R.set k (rwG i.1 i.2 (l++s))) X)) :
  WDo Tryz.prog ops J Q ⟨some d,.call { callee:=.builtin .append,args:=#[x,y],argTypes:=#[53,9] },53,pos,af,gd⟩ σ G n m (HpG G B w0 L R X) :=
 wd_rowC (ι:=Nat×Nat) (r:=rwG g0 cap l) (rr:=fun i=>rwG i.1 i.2 (l++s)) (val:=fun i=>.slice (some ⟨i.1,0,none⟩) (l++s).length i.2) k hk rfl (fun _ _ e=>by cases e) hg hd (fun a w pos af gd hs hw=>ch_appStr hs (HpG.rows hw _ (List.mem_of_getElem? hk)) (HpG.size hw) hx hy hl) hJ h
theorem wd_appOne {d:Nat}{pos:String}{af:Array Edge}{gd:Option (Nat×Bool)}{x y:Operand}{g0 cap b0:Nat}{l:Bs}{c:UInt8}(k j:Nat) (hk:R[k]? = some (rwG g0 cap l)) (hj:L[j]? = some (b0,bk 5 [.int .u8 c.toNat])) (hg:Gd ops m gd) (hd:Nat.blt d n=true) (hx:ev m x=some (.slice (some ⟨g0,0,none⟩) l.length cap)) (hy:ev m y=some (.slice (some ⟨b0,0,none⟩) 1 1)) (hl:l.length+1≤140737488355328)
  (hJ:∀w w',HpG G B w0 L R X w→J w→Keep (fun q=>(rwG g0 cap l).v.ownBlock=some q) w w'→J w')
  (h:∀(i:Nat×Nat) (N:Nat→Prop),WD Tryz.prog ops J Q σ (fun j=>N j∨G j) n ((d,.slice (some ⟨i.1,0,none⟩) (l++[c]).length i.2)::m) (HpG (fun j=>N j∨G j) B w0 L (R.set k (rwG i.1 i.2 (l++[c]))) X)) :
  WDo Tryz.prog ops J Q ⟨some d,.call { callee:=.builtin .append,args:=#[x,y],argTypes:=#[53,53] },53,pos,af,gd⟩ σ G n m (HpG G B w0 L R X) :=
 wd_rowC (ι:=Nat×Nat) (r:=rwG g0 cap l) (rr:=fun i=>rwG i.1 i.2 (l++[c])) (val:=fun i=>.slice (some ⟨i.1,0,none⟩) (l++[c]).length i.2) k hk rfl (fun _ _ e=>by cases e) hg hd (fun a w pos af gd hs hw=>ch_appOne hs (HpG.rows hw _ (List.mem_of_getElem? hk)) (HpG.size hw) (HpG.blk hw hj) hx hy hl) hJ h
end
theorem u8_cell {F:Nat→Prop}{A:Option Addr}{v:List Nat}{w:World}{b off o k x:Nat}(h:RdF F A (v.map fun n=>.int .u8 (n:Nat)) w) (hA:A=some ⟨b,off,none⟩) (hx:v[k]? = some x) (ho:o=off+k*1):w.cell? ⟨b,o,none⟩=some (.int .u8 x):=by
 rw[hA] at h;exact h.part (i:=k) (by rw[List.length_map];exact (List.getElem?_eq_some_iff.1 hx).1) (by omega) (by rw[List.getElem?_map,hx];rfl)
theorem spc_T {c:UInt8}(h:(c.toNat:Int)=32∨(c.toNat:Int)=44∨(c.toNat:Int)=91∨(c.toNat:Int)=93∨(c.toNat:Int)=43):spcC c=true:=by
 unfold spcC;simp only[Bool.or_eq_true,decide_eq_true_eq];rcases h with h|h|h|h|h
 ·exact .inl (.inl (.inl (.inl (.inl ((wK 32).2 h)))))
 ·exact .inl (.inl (.inl (.inl (.inr ((wK 44).2 h)))))
 ·exact .inl (.inl (.inl (.inr ((wK 91).2 h))))
 ·exact .inl (.inl (.inr ((wK 93).2 h)))
 ·exact .inl (.inr ((wK 43).2 h))
theorem spc_F {c:UInt8}(h1:(c.toNat:Int)≠32) (h2:(c.toNat:Int)≠44) (h3:(c.toNat:Int)≠91) (h4:(c.toNat:Int)≠93) (h5:(c.toNat:Int)≠43):((c.toNat:Int)==42)=spcC c:=by
 unfold spcC;rw[decide_eq_false fun e=>h1 ((wK 32).1 e),decide_eq_false fun e=>h2 ((wK 44).1 e),decide_eq_false fun e=>h3 ((wK 91).1 e),decide_eq_false fun e=>h4 ((wK 93).1 e),decide_eq_false fun e=>h5 ((wK 43).1 e)];rw[Bool.eq_iff_iff,beq_iff_eq];simp only[Bool.false_or,decide_eq_true_eq];exact (wK 42).symm
/-- What a row holds, as a fact. -/
def RowJ (g:Nat) (l:Bs) (w:World):Prop:=∃rest,Blk g (bk 5 (Lib.byteCells l++rest)) w
theorem RowJ.stab {g:Nat}{l:Bs}:uD (RowJ g l):=fun w ob ⟨r,h⟩=>⟨r,Blk.stab w ob h⟩
theorem RowJ.onE {g:Nat}{l:Bs}{w w':World}(h:RowJ g l w) (hx:Ext w w'):RowJ g l w':=h.elim fun r h=>⟨r,Blk.onE h hx⟩
theorem yf_convJ {n:Fr}{m:List (Nat×Value)}{x:Operand}{ty:TypeId}{g cap:Nat}{l:Bs}(hx:ev m x=some (.slice (some ⟨g,0,none⟩) l.length cap)):YF Tryz.prog (.convert 53 9 x) ty n m (RowJ g l) (.string ⟨l.toArray⟩):=fun a w d pos af gd hs hw=>by
 obtain⟨rest,hb⟩:=hw
 exact yf_convB (H:=Blk g (bk 5 (Lib.byteCells l++rest))) l hx (fun _ h=>h) Tryz.underlying53 Tryz.underlying5 Tryz.underlying9 M (fun i hi=>by
  rw[Nat.zero_add,List.getElem?_append_left (by rw[Lib.byteCells_length];exact hi)];unfold Lib.byteCells
  rw[List.getElem?_map,List.getElem?_eq_getElem hi];rfl) a w d pos af gd hs hb
theorem spB_snoc (N:Nat→Nat) {s:Bs}{i:Nat}{c:UInt8}(h:s[i]? = some c):spB N 0 (s.take (i+1))=spB N 0 (s.take i)++vC (N i) c:=by
 rw[qE h,spB_app,Nat.zero_add,List.length_take,show min i s.length=i by have:=(List.getElem?_eq_some_iff.1 h).1;omega];show _++(vC (N i) c++[])=_;rw[List.append_nil]
end Go.Proofs.YtkaepknpplhgkaaGreatDoor
/- The law of spaces, walked. -/
namespace Go.Proofs.YtkaepknpplhgkaaGreatDoor
open Go.RowKit
abbrev u8M (l:List Nat):List Value:=l.map fun n=>.int .u8 (n:Nat)
theorem tmN (n k:Nat) (_hk:0<k):((n:Int)).tmod (k:Int)=((n%k:Nat):Int):=by
 rw[Int.tmod_eq_emod_of_nonneg (by omega)];rfl
theorem tquoN (n k:Nat) (_hk:0<k):((n:Int)).tdiv (k:Int)=((n/k:Nat):Int):=by
 rw[Int.tdiv_eq_ediv_of_nonneg (by omega)];rfl
theorem more_at {i:Nat}(h:i<6):([.string ⟨#[]⟩,.string ⟨#[32]⟩,.string ⟨#[9]⟩,.string ⟨#[32,32,9,32]⟩,.string ⟨#[]⟩,.string ⟨#[32]⟩]:List Value)[0+i*1]? = some (.string ⟨(uE.getD i []).toArray⟩):=by
 match i,h with
 | 0,_=>rfl
 | 1,_=>rfl
 | 2,_=>rfl
 | 3,_=>rfl
 | 4,_=>rfl
 | 5,_=>rfl
theorem ends_at {i:Nat}(h:i<4):([.string ⟨#[10]⟩,.string ⟨#[32,59,32,115,121,115,32,57,44,32,114,49,32,91,10]⟩,.string ⟨#[9,59,10,10]⟩,.string ⟨#[10,32,32,10,59,10]⟩]:List Value)[0+i*1]? = some (.string ⟨(rB.getD i []).toArray⟩):=by
 match i,h with
 | 0,_=>rfl
 | 1,_=>rfl
 | 2,_=>rfl
 | 3,_=>rfl
set_option maxHeartbeats 4000000 in
set_option maxRecDepth 100000 in
theorem spaces_law (k:Nat) (s:Bs) (hs:s.length≤9223372036854775807) (l:List Nat) (A:Option Addr) (cap:Nat) (hl0:l.length≤9223372036854775807) (hlx:∀x∈l,x<256) {F:Nat→Prop}(w_0:World) (hw0:WOk w_0) (hL:RdF F A (u8M l) w_0):Calls Tryz.prog 14 #[.int .u8 k,.string ⟨s.toArray⟩,.slice A l.length cap] w_0 fun e w'=>e=.returned (.bool true)∧Ext w_0 w':=by
 obtain⟨code,hcode⟩:∃c,c=s.take 200:=⟨_,rfl⟩;have hcl:code.length≤200:=by rw[hcode];exact List.length_take_le ..
 have hk:=kindL_12 k;obtain⟨N,hN⟩:∃N:Nat→Nat,N=fun i=>if 0<l.length then l.getD (i%l.length) 0 else 0:=⟨_,rfl⟩;have hdl:=disA_len hk code 1000;have hsp:=spaces_plain hk N code 1000 hcl;obtain⟨T,hT⟩:∃T,T=disA (kindL k) code 1000:=⟨_,rfl⟩;rw[← hT] at hdl hsp;have hTl:T.length≤16200:=by omega
 have hsl:=fun i=>spB_len N (T.take i) 0;refine zP (args:=[Value.int .u8 k,Value.string ⟨s.toArray⟩,Value.slice A l.length cap]) Tryz.func14 M 120 M (Nat.le_of_ble_eq_true M)<|Z3 0 1 2 M M M<|zU (H':=Hp (fun _=>False) w_0 [] [] (RdF (fun k=>F k∧k<w_0.heap.size) A (u8M l))) (fun u hu=>?_) ?_
 ·subst hu;exact Hp.start ⟨fun k=>F k∧k<u.heap.size,fun k hk=>⟨hk.2,id⟩,fun u' hu'=>RdF.lies.foot (F:=fun k=>F k∧k<u.heap.size) hu' (RdF.lies.lt hL)⟩
 refine zX<|zZ<|Za M M<|ZX<|zZ<|zD .none M  (v:=.bool true) (by kernel_rfl) M (fun w hw=>sanity_any w (hw0.ext hw.ext0)) ?_;refine Za M M<|ZX<|Z5r 0 1 2 6 7 M M M M M<|Zm M M<|zD .none M  (v:=.string ⟨code.toArray⟩) (by kernel_rfl) M (fun w hw=>by rw[hcode];exact short_any s hs 200 (by decide) w) ?_;refine Za M M<|ZX<|Z5r 0 1 2 6 7 M M M M M<|Zm M M<|zD .none M  (v:=.int .i64 (kindL k)) (by kernel_rfl) M (fun w hw=>kind_any k w) ?_;refine Zm M M<|zD .none M  (v:=.string ⟨T.toArray⟩) (by kernel_rfl) M (fun w hw=>by rw[hT];exact dis_any (kindL k) code (by omega) 1000 (by decide) w (hw0.ext hw.ext0)) ?_;refine Za M M<|ZX<|Z6r 0 1 2 6 7 8 M M M M M M<|ZF M (xJ (cells:=#[.string ⟨#[]⟩,.string ⟨#[32]⟩,.string ⟨#[9]⟩,.string ⟨#[32,32,9,32]⟩,.string ⟨#[]⟩,.string ⟨#[32]⟩]) M (by kernel_rfl)) ?_;refine zM .none M (yV (z:=.agg #[.string ⟨#[]⟩,.string ⟨#[]⟩,.string ⟨#[]⟩,.string ⟨#[]⟩,.string ⟨#[]⟩,.string ⟨#[]⟩]) (cs:=[.string ⟨#[]⟩,.string ⟨#[]⟩,.string ⟨#[]⟩,.string ⟨#[]⟩,.string ⟨#[]⟩,.string ⟨#[]⟩]) (by kernel_rfl) M) (fun b9=>?_);refine ZR 0 M M M M M (by kernel_rfl) ?_;refine ZX<|Z7r 0 1 2 6 7 8 9 M M M M M M M<|ZF M (xJ (cells:=#[.string ⟨#[10]⟩,.string ⟨#[32,59,32,115,121,115,32,57,44,32,114,49,32,91,10]⟩,.string ⟨#[9,59,10,10]⟩,.string ⟨#[10,32,32,10,59,10]⟩]) M (by kernel_rfl)) ?_;refine zM .none M (yV (z:=.agg #[.string ⟨#[]⟩,.string ⟨#[]⟩,.string ⟨#[]⟩,.string ⟨#[]⟩]) (cs:=[.string ⟨#[]⟩,.string ⟨#[]⟩,.string ⟨#[]⟩,.string ⟨#[]⟩]) (by kernel_rfl) M) (fun b10=>?_);refine ZR 0 M M M M M (by kernel_rfl) ?_;refine ZX<|Z8r 0 1 2 6 7 8 9 10 M M M M M M M M<|zM .none M  (nf_bs0F (size:=1) Tryz.underlying53 (by kernel_rfl)) (fun b27=>?_);refine Za M M<|ZX<|zX<|Z9r 0 1 2 6 7 8 9 10 11 M M M M M M M M M<|Za M M<|ZT<|yX<|xR (ι:={j:Nat×(Nat×Nat) // j.1≤T.length}) (fun j=>[(0,.int .u8 k),(1,.string ⟨code.toArray⟩),(2,.slice A l.length cap),(6,.bool false),(7,.bool true),(8,.string ⟨T.toArray⟩),(9,.pointer (some ⟨b9,0,none⟩)),(10,.pointer (some ⟨b10,0,none⟩)),(11,.slice (some ⟨j.1.2.1,0,none⟩) (spB N 0 (T.take j.1.1)).length j.1.2.2),(12,.int .i64 (j.1.1:Nat))]) (fun j=>Hp (fun _=>False) w_0 [(b10,bk 81 [.string ⟨#[10]⟩,.string ⟨#[32,59,32,115,121,115,32,57,44,32,114,49,32,91,10]⟩,.string ⟨#[9,59,10,10]⟩,.string ⟨#[10,32,32,10,59,10]⟩]),(b9,bk 45 [.string ⟨#[]⟩,.string ⟨#[32]⟩,.string ⟨#[9]⟩,.string ⟨#[32,32,9,32]⟩,.string ⟨#[]⟩,.string ⟨#[32]⟩])] [rwG j.1.2.1 j.1.2.2 (spB N 0 (T.take j.1.1))] (RdF (fun k=>F k∧k<w_0.heap.size) A (u8M l))) (fun j=>T.length-j.1.1) ⟨(0,(b27,0)),Nat.zero_le _⟩ ?_ ?_ (fun j=>?_)
 ·exact .cons M<|.cons M<|.cons M<|.cons M<|.cons M<|.cons M<|.cons M<|.cons M<|.cons M<|.cons M<|.nil
 ·exact fun w h=>Hp.toRow (k:=0) h (HpG.old h (k:=0) M) M (by decide)
 obtain⟨⟨i,g,cg⟩,hi⟩:=j;dsimp only at hi ⊢;have hsi:=hsl i;have hti:(T.take i).length=i:=by rw[List.length_take];omega
 rw[hti] at hsi;refine zX<|zX<|zZ<|Zm M M<|Zm M M<|ZF M (wD M Tryz.underlying9)<|ZF M (xV M M)<|ZT<|zT M (fun h31=>?_) (fun h31=>?_)
 ·replace h31:=of_decide_eq_true h31;skip;obtain⟨c,hc⟩:∃c,T[i]? = some c:=⟨T[i]'(by omega),List.getElem?_eq_getElem _⟩;have hcl8:=UInt8.toNat_lt c;have hst:=spB_snoc N hc;have hpl:=pieceB_len (N i) c;have hNi:N i=if 0<l.length then l.getD (i%l.length) 0 else 0:=by rw[hN]
  have hN256:N i<256:=by
   rw[hNi]
   split
   ·rw[List.getD_eq_getElem?_getD]
    cases e:l[i%l.length]? with
    | none=>show 0<256;decide
    | some x=>exact hlx x (List.mem_of_getElem? e)
   ·decide
  refine zK<|zS<|zX<|yX<|zX<|Z11r 0 1 2 6 7 8 9 10 11 12 31 M M M M M M M M M M M<|Za M M<|ZT<|xS (ι:=Unit) (fun _=>[(0,.int .u8 k),(1,.string ⟨code.toArray⟩),(2,.slice A l.length cap),(6,.bool false),(7,.bool true),(8,.string ⟨T.toArray⟩),(9,.pointer (some ⟨b9,0,none⟩)),(10,.pointer (some ⟨b10,0,none⟩)),(11,.slice (some ⟨g,0,none⟩) (spB N 0 (T.take i)).length cg),(12,.int .i64 (i:Nat)),(13,.int .i64 (N i:Nat))]) (fun _=>Hp (fun _=>False) w_0 [(b10,bk 81 [.string ⟨#[10]⟩,.string ⟨#[32,59,32,115,121,115,32,57,44,32,114,49,32,91,10]⟩,.string ⟨#[9,59,10,10]⟩,.string ⟨#[10,32,32,10,59,10]⟩]),(b9,bk 45 [.string ⟨#[]⟩,.string ⟨#[32]⟩,.string ⟨#[9]⟩,.string ⟨#[32,32,9,32]⟩,.string ⟨#[]⟩,.string ⟨#[32]⟩])] [rwG g cg (spB N 0 (T.take i))] (RdF (fun k=>F k∧k<w_0.heap.size) A (u8M l))) ?_ (fun _=>?_)
  ·refine zX<|zZ<|Zm M M<|ZF M (xY M Tryz.underlying53)<|ZF M (tK M M)<|ZT<|zT M (fun h36=>?_) (fun h36=>?_)
   ·replace h36:=of_decide_eq_true h36;refine sM (φ:=∃b off,A=some ⟨b,off,none⟩) (fun w hw=>by obtain⟨b,off,e,_⟩:=(HpG.x hw) (by rw[List.length_map];omega);exact⟨b,off,e⟩) (fun ⟨bA,oA,hAe⟩=>?_);have hlp:0<l.length:=by omega
    have hml:i%l.length<l.length:=Nat.mod_lt _ hlp
    have hgm:l[i%l.length]? = some (N i):=by
     rw[hNi,if_pos hlp,List.getD_eq_getElem?_getD,List.getElem?_eq_getElem hml];rfl
    refine Z13r 0 1 2 6 7 8 9 10 11 12 13 31 36 M M M M M M M M M M M M M<|Zm M M<|Zm M M<|Zm M M<|ZF M (xY M Tryz.underlying53) ?_;(refine ZF rfl (yf_rem rfl rfl ?_ (tmN i l.length (by omega))) ?_;(· first|decide|omega);skip);refine ZF M (zF (j:=i%l.length) (es:=1) (g:=bA) (o:=oA) (len:=l.length) (cap:=cap) (congrArg (fun y=>some (Value.slice y l.length cap)) hAe) M Tryz.underlying53 (by kernel_rfl) M hml M) ?_;refine ZF M (zC (v:=.int .u8 (N i:Nat)) M Tryz.underlying5 M (fun w hw=>u8_cell (HpG.x hw) hAe hgm M)) ?_
    refine ZF M (yO M (by kernel_rfl) Tryz.underlying3 (sG (by omega))) ?_
    exact Za M M<|zE<|yZ (ι:=Unit) () (O11 M M M M M M M M M M M) (fun w h=>h)
   ·replace h36:=of_decide_eq_false h36;have hN0:N i=0:=by rw[hNi,if_neg (by omega)]
    exact zK<|yZ (ι:=Unit) () (.cons M<|.cons M<|.cons M<|.cons M<|.cons M<|.cons M<|.cons M<|.cons M<|.cons M<|.cons M<|.consE M (by rw[hN0];rfl)<|.nil) (fun w h=>h)
  ·refine zX<|zZ<|Zm M M<|Zm M M<|ZF M (vY (j:=i) M M Tryz.underlying9 M hc)<|Za M M<|ZX<|zX<|Z12r 0 1 2 6 7 8 9 10 11 12 13 14 M M M M M M M M M M M M<|Zm M M<|ZF M (yR M M)<|ZT<|zT M (fun h49=>?_) (fun h49=>?_)
   ·replace h49:=eq_of_beq h49;have hc10:c=10:=(wK 10).2 h49;have hpc:vC (N i) c=rB.getD (N i%4) []:=if_pos hc10;have hnw:spB N 0 (T.take (i+1))=(spB N 0 (T.take i))++rB.getD (N i%4) []:=by rw[hst,hpc]
    rw[hpc] at hpl;refine zX<|Z13r 0 1 2 6 7 8 9 10 11 12 13 14 49 M M M M M M M M M M M M M<|Zm M M<|Zm M M ?_;(refine ZF rfl (yf_rem rfl rfl ?_ (tmN (N i) 4 (by decide))) ?_;(· first|decide|omega);skip);refine ZF M (wF (es:=1) (j:=N i%4) M M Tryz.underlying81 (by kernel_rfl) M (Nat.mod_lt _ (by decide)) M) ?_;refine ZF M (zC (v:=.string ⟨(rB.getD (N i%4) []).toArray⟩) M Tryz.underlying9 M (fun w hw=>HpG.cell (k:=0) hw M (ends_at (Nat.mod_lt _ (by decide))))) ?_;refine xZ (ι:=Nat×Nat) (val:=fun q=>.slice (some ⟨q.1,0,none⟩) ((spB N 0 (T.take i))++rB.getD (N i%4) []).length q.2) (H':=fun q=>Hp (fun _=>False) w_0 [(b10,bk 81 [.string ⟨#[10]⟩,.string ⟨#[32,59,32,115,121,115,32,57,44,32,114,49,32,91,10]⟩,.string ⟨#[9,59,10,10]⟩,.string ⟨#[10,32,32,10,59,10]⟩]),(b9,bk 45 [.string ⟨#[]⟩,.string ⟨#[32]⟩,.string ⟨#[9]⟩,.string ⟨#[32,32,9,32]⟩,.string ⟨#[]⟩,.string ⟨#[32]⟩])] [rwG q.1 q.2 ((spB N 0 (T.take i))++rB.getD (N i%4) [])] (RdF (fun k=>F k∧k<w_0.heap.size) A (u8M l))) .none M  (cf_appStr 0 M M M (by omega)) (fun i55=>?_);refine Za M M<|ZT<|xW<|zL<|xX<|zS<|Z13r 0 1 2 6 7 8 9 10 11 12 13 14 49 M M M M M M M M M M M M M<|Zm M M<|ZF M (yK M M (show IntKind.i64.wrap ((i:Int)+1)=((i+1:Nat):Int) from i64_in ((i+1:Nat):Int) (by omega) (by omega))) ?_;refine Za M M<|zE ?_
    exact yM (ι:={j:Nat×(Nat×Nat) // j.1≤T.length}) ⟨(i+1,(i55.1,i55.2)),by omega⟩ (by show T.length-(i+1)<T.length-i;omega) (.cons M<|.cons M<|.cons M<|.cons M<|.cons M<|.cons M<|.cons M<|.cons M<|.consE M (by rw[hnw])<|.cons M<|.nil) (fun w h=>by
     show Hp _ _ [_,_] [rwG _ _ (spB N 0 (T.take (i+1)))] _ w;rw[hnw]
     exact h)
   ·replace h49:=yH h49;have hc10:c≠10:=fun e=>h49 ((wK 10).1 e);refine zK<|zS<|zX<|xS (ι:=Unit) (fun _=>[(0,.int .u8 k),(1,.string ⟨code.toArray⟩),(2,.slice A l.length cap),(6,.bool false),(7,.bool true),(8,.string ⟨T.toArray⟩),(9,.pointer (some ⟨b9,0,none⟩)),(10,.pointer (some ⟨b10,0,none⟩)),(11,.slice (some ⟨g,0,none⟩) (spB N 0 (T.take i)).length cg),(12,.int .i64 (i:Nat)),(13,.int .i64 (N i:Nat)),(14,.int .u8 c.toNat),(77,.bool (spcC c))]) (fun _=>Hp (fun _=>False) w_0 [(b10,bk 81 [.string ⟨#[10]⟩,.string ⟨#[32,59,32,115,121,115,32,57,44,32,114,49,32,91,10]⟩,.string ⟨#[9,59,10,10]⟩,.string ⟨#[10,32,32,10,59,10]⟩]),(b9,bk 45 [.string ⟨#[]⟩,.string ⟨#[32]⟩,.string ⟨#[9]⟩,.string ⟨#[32,32,9,32]⟩,.string ⟨#[]⟩,.string ⟨#[32]⟩])] [rwG g cg (spB N 0 (T.take i))] (RdF (fun k=>F k∧k<w_0.heap.size) A (u8M l))) ?_ (fun _=>?_)
    ·refine Z13r 0 1 2 6 7 8 9 10 11 12 13 14 49 M M M M M M M M M M M M M<|Zm M M<|ZF M (yR M M)<|Zm M M<|zA 58 M (fun q3=>?_) (fun q3=>?_)
     ·replace q3:=eq_of_beq q3;exact ZP M<|ZP M<|ZF M (zI M M)<|Zm M M<|ZP M<|ZP M<|ZF M (zI M M)<|Zm M M<|ZP M<|ZP M<|ZF M (zI M M)<|Zm M M<|ZP M<|ZP M<|ZF M (zI M M)<|Zm M M<|ZP M<|ZP M<|ZF M (zI M M)<|zE<|yZ (ι:=Unit) () (.cons M<|.cons M<|.cons M<|.cons M<|.cons M<|.cons M<|.cons M<|.cons M<|.cons M<|.cons M<|.cons M<|.cons M<|.consE M (by rw[spc_T (.inl q3)])<|.nil) (fun w h=>h)
     ·replace q3:=yH q3;refine ZG M M M (zJ M)<|ZG M M M (yR M M)<|ZF M (zG M M)<|Zm M M<|zA 62 M (fun q7=>?_) (fun q7=>?_)
      ·replace q7:=eq_of_beq q7;exact ZP M<|ZP M<|ZF M (zI M M)<|Zm M M<|ZP M<|ZP M<|ZF M (zI M M)<|Zm M M<|ZP M<|ZP M<|ZF M (zI M M)<|Zm M M<|ZP M<|ZP M<|ZF M (zI M M)<|zE<|yZ (ι:=Unit) () (.cons M<|.cons M<|.cons M<|.cons M<|.cons M<|.cons M<|.cons M<|.cons M<|.cons M<|.cons M<|.cons M<|.cons M<|.consE M (by rw[spc_T (.inr (.inl q7))])<|.nil) (fun w h=>h)
      ·replace q7:=yH q7;refine ZG M M M (zJ M)<|ZG M M M (yR M M)<|ZF M (zG M M)<|Zm M M<|zA 66 M (fun q11=>?_) (fun q11=>?_)
       ·replace q11:=eq_of_beq q11;exact ZP M<|ZP M<|ZF M (zI M M)<|Zm M M<|ZP M<|ZP M<|ZF M (zI M M)<|Zm M M<|ZP M<|ZP M<|ZF M (zI M M)<|zE<|yZ (ι:=Unit) () (.cons M<|.cons M<|.cons M<|.cons M<|.cons M<|.cons M<|.cons M<|.cons M<|.cons M<|.cons M<|.cons M<|.cons M<|.consE M (by rw[spc_T (.inr (.inr (.inl q11)))])<|.nil) (fun w h=>h)
       ·replace q11:=yH q11;refine ZG M M M (zJ M)<|ZG M M M (yR M M)<|ZF M (zG M M)<|Zm M M<|zA 70 M (fun q15=>?_) (fun q15=>?_)
        ·replace q15:=eq_of_beq q15;exact ZP M<|ZP M<|ZF M (zI M M)<|Zm M M<|ZP M<|ZP M<|ZF M (zI M M)<|zE<|yZ (ι:=Unit) () (.cons M<|.cons M<|.cons M<|.cons M<|.cons M<|.cons M<|.cons M<|.cons M<|.cons M<|.cons M<|.cons M<|.cons M<|.consE M (by rw[spc_T (.inr (.inr (.inr (.inl q15))))])<|.nil) (fun w h=>h)
        ·replace q15:=yH q15;refine ZG M M M (zJ M)<|ZG M M M (yR M M)<|ZF M (zG M M)<|Zm M M<|zA 74 M (fun q19=>?_) (fun q19=>?_)
         ·replace q19:=eq_of_beq q19;exact ZP M<|ZP M<|ZF M (zI M M)<|zE<|yZ (ι:=Unit) () (.cons M<|.cons M<|.cons M<|.cons M<|.cons M<|.cons M<|.cons M<|.cons M<|.cons M<|.cons M<|.cons M<|.cons M<|.consE M (by rw[spc_T (.inr (.inr (.inr (.inr q19))))])<|.nil) (fun w h=>h)
         ·replace q19:=yH q19;exact ZG M M M (zJ M)<|ZG M M M (yR M M)<|ZF M (zG M M)<|zE<|yZ (ι:=Unit) () (.cons M<|.cons M<|.cons M<|.cons M<|.cons M<|.cons M<|.cons M<|.cons M<|.cons M<|.cons M<|.cons M<|.cons M<|.consE M (by rw[← spc_F q3 q7 q11 q15 q19])<|.nil) (fun w h=>h)
    ·refine zT M (fun h77=>?_) (fun h77=>?_)
     ·have hpc:vC (N i) c=uE.getD (N i%6) []++[c]++uE.getD (N i/6%6) []:=by unfold vC;rw[if_neg hc10,if_pos h77]
      have hnw:spB N 0 (T.take (i+1))=(((spB N 0 (T.take i))++uE.getD (N i%6) [])++[c])++uE.getD (N i/6%6) []:=by rw[hst,hpc];simp only[List.append_assoc]
      have hm1:=sZ (l:=uE) (k:=4) (by decide) (N i%6);have hm2:=sZ (l:=uE) (k:=4) (by decide) (N i/6%6);refine zX<|wc_drawN [0,1,2,3,4,5,6,7,8,9,10,11,12,13,14,15] (Blk b9 (bk 45 [.string ⟨#[]⟩,.string ⟨#[32]⟩,.string ⟨#[9]⟩,.string ⟨#[32,32,9,32]⟩,.string ⟨#[]⟩,.string ⟨#[32]⟩])) (by kernel_rfl) (by kernel_rfl) Blk.stab (fun w h=>HpG.blk h (k:=1) M) (fun n0 hn0=>?_);refine Zd M M M (zJ M)<|Zd M M M (zJ M)<|wT M ?_;(refine tS ?_ .none rfl (yf_rem rfl rfl ?_ (tmN (N i) 6 (by decide))) ?_;(· rfl);(· first|decide|omega);skip);refine Zd M M M (wF (es:=1) (j:=N i%6) M M Tryz.underlying45 (by kernel_rfl) M (Nat.mod_lt _ (by decide)) M) ?_;refine Zd M M M (zC (v:=.string ⟨(uE.getD (N i%6) []).toArray⟩) M Tryz.underlying9 M (fun w hw=>Blk.cell hw (more_at (Nat.mod_lt _ (by decide))))) ?_;refine wT M<|wd_appStr (l:=(spB N 0 (T.take i))) (s:=uE.getD (N i%6) []) 0 M .none M  M M (by omega) (fun w w' hw hj hK=>blk_row hw (i:=1) (k:=0) M M hj hK) (fun i83 N83=>?_);refine Zd M M M (zJ M)<|wT M<|wd_newH M .none M  (fun k hk=>.inr (Nat.lt_of_lt_of_le hk hn0)) (xI (z:=.int .u8 0) M M Tryz.underlying53 (by kernel_rfl) (by kernel_rfl) M M) (fun b85 hb85=>?_);refine wT M<|wd_appOne (l:=(spB N 0 (T.take i))++uE.getD (N i%6) []) (c:=c) 0 0 M M .none M  M M (by rw[List.length_append];omega) (fun w w' hw hj hK=>blk_row hw (i:=2) (k:=0) M M hj hK) (fun i86 N86=>?_);refine Zd M M M (zJ M)<|wT M ?_;(refine tS ?_ .none rfl (yf_quo rfl rfl ?_ (show IntKind.i64.wrap ((N i:Int).tdiv 6)=((N i/6:Nat):Int) by rw[show ((N i:Int)).tdiv 6=((N i/6:Nat):Int) from tquoN (N i) 6 (by decide)];exact sG (by omega))) ?_;(· rfl);(· first|decide|omega);skip);refine wT M ?_;(refine tS ?_ .none rfl (yf_rem rfl rfl ?_ (tmN (N i/6) 6 (by decide))) ?_;(· rfl);(· first|decide|omega);skip);refine Zd M M M (wF (es:=1) (j:=N i/6%6) M M Tryz.underlying45 (by kernel_rfl) M (Nat.mod_lt _ (by decide)) M) ?_;refine Zd M M M (zC (v:=.string ⟨(uE.getD (N i/6%6) []).toArray⟩) M Tryz.underlying9 M (fun w hw=>Blk.cell hw (more_at (Nat.mod_lt _ (by decide))))) ?_;refine wT M<|wd_appStr (l:=((spB N 0 (T.take i))++uE.getD (N i%6) [])++[c]) (s:=uE.getD (N i/6%6) []) 0 M .none M  M M (by rw[List.length_append,List.length_append,show ([c]:Bs).length=1 from rfl];omega) (fun w w' hw hj hK=>blk_row hw (i:=2) (k:=0) M M hj hK) (fun i92 N92=>?_);refine Zd M M M (xL M)<|wd_endH<|zS<|xW<|zL<|xX<|zS<|Z13r 0 1 2 6 7 8 9 10 11 12 13 14 77 M M M M M M M M M M M M M<|Zm M M<|ZF M (yK M M (show IntKind.i64.wrap ((i:Int)+1)=((i+1:Nat):Int) from i64_in ((i+1:Nat):Int) (by omega) (by omega))) ?_;refine Za M M<|zE ?_
      exact yM (ι:={j:Nat×(Nat×Nat) // j.1≤T.length}) ⟨(i+1,(i92.1,i92.2)),by omega⟩ (by show T.length-(i+1)<T.length-i;omega) (.cons M<|.cons M<|.cons M<|.cons M<|.cons M<|.cons M<|.cons M<|.cons M<|.consE M (by rw[hnw])<|.cons M<|.nil) (fun w h=>by
       show Hp _ _ [_,_] [rwG _ _ (spB N 0 (T.take (i+1)))] _ w;rw[hnw]
       exact Hp.drop h (List.sublist_cons_self _ _) (List.Sublist.refl _))
     ·have hpc:vC (N i) c=[c]:=by unfold vC;rw[if_neg hc10,if_neg (by rw[h77];decide)]
      have hnw:spB N 0 (T.take (i+1))=(spB N 0 (T.take i))++[c]:=by rw[hst,hpc]
      refine zK<|zS<|zZ<|Zm M M<|Zm M M<|zM .none M (xI (z:=.int .u8 0) M M Tryz.underlying53 (by kernel_rfl) (by kernel_rfl) M M) (fun b95=>?_);refine xZ (ι:=Nat×Nat) (val:=fun q=>.slice (some ⟨q.1,0,none⟩) ((spB N 0 (T.take i))++[c]).length q.2) (H':=fun q=>Hp (fun _=>False) w_0 [(b95,bk 5 [.int .u8 c.toNat]),(b10,bk 81 [.string ⟨#[10]⟩,.string ⟨#[32,59,32,115,121,115,32,57,44,32,114,49,32,91,10]⟩,.string ⟨#[9,59,10,10]⟩,.string ⟨#[10,32,32,10,59,10]⟩]),(b9,bk 45 [.string ⟨#[]⟩,.string ⟨#[32]⟩,.string ⟨#[9]⟩,.string ⟨#[32,32,9,32]⟩,.string ⟨#[]⟩,.string ⟨#[32]⟩])] [rwG q.1 q.2 ((spB N 0 (T.take i))++[c])] (RdF (fun k=>F k∧k<w_0.heap.size) A (u8M l))) .none M  (cf_appOne 0 0 M M M M (by omega)) (fun i96=>?_);refine Za M M<|zE<|yY<|zS<|Z13r 0 1 2 6 7 8 9 10 11 12 13 14 77 M M M M M M M M M M M M M<|Zm M M<|ZF M (yK M M (show IntKind.i64.wrap ((i:Int)+1)=((i+1:Nat):Int) from i64_in ((i+1:Nat):Int) (by omega) (by omega))) ?_;refine Za M M<|zE ?_
      exact yM (ι:={j:Nat×(Nat×Nat) // j.1≤T.length}) ⟨(i+1,(i96.1,i96.2)),by omega⟩ (by show T.length-(i+1)<T.length-i;omega) (.cons M<|.cons M<|.cons M<|.cons M<|.cons M<|.cons M<|.cons M<|.cons M<|.consE M (by rw[hnw])<|.cons M<|.nil) (fun w h=>by
       show Hp _ _ [_,_] [rwG _ _ (spB N 0 (T.take (i+1)))] _ w;rw[hnw]
       exact Hp.drop h (List.sublist_cons_self _ _) (List.Sublist.refl _))
 ·replace h31:=of_decide_eq_false h31;skip;have hie:i=T.length:=by omega
  have hte:T.take i=T:=List.take_of_length_le (by omega);rw[hte];refine xW<|zL<|zL<|xX<|zS<|zX<|Z11 0 1 2 6 7 8 9 10 11 12 31 M M M M M M M M M M M<|wc_drawN [0,1,2,3,4,5,6,7,8,9,10,11] (RowJ g (spB N 0 T)) (by kernel_rfl) (by kernel_rfl) RowJ.stab (fun w h=>HpG.rowBlock h (k:=0) M) (fun n0 hn0=>?_);refine Zd M M M (zJ M)<|wT M<|qW .none M  (v:=.int .i64 (kindL k)) (by kernel_rfl) M (fun _ _ h hx=>RowJ.onE h hx) (fun w hw=>kind_any k w) ?_;refine Zd M M M (zJ M)<|wT M ?_
  (refine tS ?_ .none rfl (yf_convJ rfl) ?_;·rfl)
  refine wT M<|qW .none M  (v:=.tuple #[.string ⟨code.toArray⟩,.int .i64 0,.int .i64 0]) (by kernel_rfl) M (fun _ _ h hx=>RowJ.onE h hx) (fun w hw=>asm_is hsp (by decide) (hw0.ext hw.ext0)) ?_;refine Zd M M M (zJ M)<|Zd M M M (zH M M)<|Zd M M M (zH M M)<|Zd M M M (zH M M)<|Zd M M M (xL M)<|Zd M M M (xL M)<|Zd M M M (xL M)<|wd_endH<|zS<|zX<|Z14r 0 1 2 6 7 8 9 10 11 12 15 16 17 31 M M M M M M M M M M M M M M<|Zm M M<|Zm M M<|zA 107 M (fun hb=>?_) (fun hb=>?_)
  ·refine ZG M M M (zJ M)<|ZG M M M (yR M M)<|ZF M (zI M M)<|Zm M M<|zA 111 M (fun hb=>?_) (fun hb=>?_)
   ·replace hb:=eq_of_beq hb;refine ZG M M M (zJ M)<|ZG M M M (yR M M)<|ZF M (zI M M)<|Zm M M<|zA 115 M (fun hb=>?_) (fun hb=>?_)
    ·replace hb:=eq_of_beq hb;refine ZG M M M (zJ M)<|ZG M M M (zJ M)<|ZG M M M (xQ M M Tryz.underlying9)<|ZF M (zI M M)<|Za M M<|ZT<|zR<|zO M M (fun w hw=>?_);exact⟨by rw[decide_eq_true rfl],hw.ext0⟩
    ·replace hb:=yH hb;exact absurd M hb
   ·replace hb:=yH hb;exact absurd M hb
  ·cases hb
end Go.Proofs.YtkaepknpplhgkaaGreatDoor
