/- The reference's text of programs, plainly, and that it is the printer's. -/
import Derived.Test.YtfpkpnkdnammnaaGreatDoorMgL
import Derived.Test.YtfpkpnkdnammnaaGreatDoorMgO
import Derived.Test.YtfpkpnkdnammnaaGreatDoorStr
namespace Go.Proofs.YtfpkpnkdnammnaaGreatDoor
def wr (all:Bool) (k:Nat) (s:Bs) (least:Int) (t:Bs):Bs:=if (k=7∧uG s<least)∨(all=true∧k≠2) then [40]++t++[41] else t
mutual
def rtx (all:Bool):Ex→Bs
 | .mk k n s kids=>if k=1 then Lib.decDigits n else if k=2 then s else if k=3 then s++[40]++Lib.join (rtxs all kids) [44,32]++[41] else if k=4 then [109,101,109,91]++rtxH all kids 0++[93] else if k=5 then [105,110] else if k=6 then s++rtxH all kids 8 else rtxH all kids (uG s)++[32]++s++[32]++rtxS all kids (uG s+1)
def rtxs (all:Bool):List Ex→List Bs
 | []=>[]
 | x::l=>wr all x.kind x.name 0 (rtx all x)::rtxs all l
def rtxH (all:Bool):List Ex→Int→Bs
 | [],_=>[]
 | x::_,least=>wr all x.kind x.name least (rtx all x)
def rtxS (all:Bool):List Ex→Int→Bs
 | [],_=>[]
 | _::l,least=>rtxH all l least
end
def rtT (all:Bool) (k n:Nat) (s:Bs) (kids:List Ex):Bs:=if k=1 then Lib.decDigits n else if k=2 then s else if k=3 then s++[40]++Lib.join (rtxs all kids) [44,32]++[41] else if k=4 then [109,101,109,91]++rtxH all kids 0++[93] else if k=5 then [105,110] else if k=6 then s++rtxH all kids 8 else rtxH all kids (uG s)++[32]++s++[32]++rtxS all kids (uG s+1)
theorem rtx_T (all:Bool) (k n:Nat) (s:Bs) (kids:List Ex):rtx all (.mk k n s kids)=rtT all k n s kids:=by rw[rtx,rtT]
def rwi (all:Bool) (x:Ex) (least:Int):Bs:=wr all x.kind x.name least (rtx all x)
mutual
def rLn (all:Bool):Nat→St→Bs
 | d,.mk k s es b c=>Lib.repeatL [32,32] d ++
  (if k=1 then [118,97,114,32]++s++[32,61,32]++rtxH all es 0++[59,10]
  else if k=2 then s++[32,61,32]++rtxH all es 0++[59,10]
  else if k=3 then [109,101,109,91]++rtxH all es 0++[93,32,61,32]++rtxS all es 0++[59,10]
  else if k=4 then [105,102,32]++rtxH all es 0++[32,123,10]++rLs all (d+1) b++Lib.repeatL [32,32] d++[125]++(if 0<c.length then [32,101,108,115,101,32,123,10]++rLs all (d+1) c++Lib.repeatL [32,32] d++[125] else [])++[10]
  else if k=5 then [119,104,105,108,101,32]++rtxH all es 0++[32,123,10]++rLs all (d+1) b++Lib.repeatL [32,32] d++[125,10]
  else if k=6 then [114,101,116,117,114,110,32]++rtxH all es 0++[59,10]
  else if k=7 then [111,117,116,32]++rtxH all es 0++[59,10]
  else if k=8 then rtxH all es 0++[59,10]
  else [])
def rLs (all:Bool):Nat→List St→Bs
 | _,[]=>[]
 | d,x::l=>rLn all d x++rLs all d l
end
def rFn (all:Bool) (f:Fn):Bs:=[102,110,32]++f.name++[40]++Lib.join f.params [44,32]++[41,32,123,10]++rLs all 1 f.body++[125,10]
def qW (all:Bool) (fs:List Fn):Bs:=(fs.map (rFn all)).flatten
theorem okEx7 {k:Nat}{s:Bs}{len:Nat}(h:xE k s len=true) (h1:k≠1) (h2:k≠2) (h3:k≠3) (h4:k≠4) (h5:k≠5) (h6:k≠6):k=7∧∃l,vX s=some l:=by
 unfold xE at h;rw[if_neg (by omega),if_neg h2,if_neg h3,if_neg h4,if_neg h6] at h
 split at h
 ·next h7 =>
  rw[Bool.and_eq_true] at h;exact⟨h7,Option.isSome_iff_exists.1 h.1⟩
 ·cases h
theorem qA {s:Bs}{l:Nat}(h:vX s=some l):uG s=(levN s:Nat):=by
 unfold uG levN;rw[h];rfl
mutual
theorem rtx_eq:∀x:Ex,yE x=true→∀need:Nat,need≤8→wr false x.kind x.name need (rtx false x)=vJ x need
 | .mk k n s kids,h,need,hn=>by
  rw[yE,Bool.and_eq_true,Bool.and_eq_true] at h;obtain⟨⟨hok,_⟩,hk⟩:=h;have e1:=rtxs_eq kids hk;have e2:=rtxH_eq kids hk;have e3:=rtxS_eq kids hk;show wr false k s need (rtx false (.mk k n s kids))=_;have h0:=e2 0 (by omega);have h8:=e2 8 (by omega);rw[show ((0:Nat):Int)=0 from rfl] at h0;rw[show ((8:Nat):Int)=8 from rfl] at h8
  have hT:rtT false k n s kids=textT k n s kids:=by
   unfold rtT textT;rw[e1,h0,h8]
   by_cases g1:k=1
   ·rw[if_pos g1,if_pos g1]
   rw[if_neg g1,if_neg g1]
   by_cases g2:k=2
   ·rw[if_pos g2,if_pos g2]
   rw[if_neg g2,if_neg g2]
   by_cases g3:k=3
   ·rw[if_pos g3,if_pos g3]
   rw[if_neg g3,if_neg g3]
   by_cases g4:k=4
   ·rw[if_pos g4,if_pos g4]
   rw[if_neg g4,if_neg g4]
   by_cases g5:k=5
   ·rw[if_pos g5,if_pos g5]
   rw[if_neg g5,if_neg g5]
   by_cases g6:k=6
   ·rw[if_pos g6,if_pos g6]
   rw[if_neg g6,if_neg g6];obtain⟨_,l,hl⟩:=okEx7 hok g1 g2 g3 g4 g5 g6;have h7:=lev_le s;have hb:=e3 (levN s+1) (by omega);rw[show ((levN s+1:Nat):Int)=(levN s:Int)+1 from rfl] at hb;rw[qA hl,e2 (levN s) (by omega),hb]
  rw[textE_eq,rtx_T,hT,wr]
  by_cases g:k=7
  ·subst g;obtain⟨_,l,hl⟩:=okEx7 hok (by omega) (by omega) (by omega) (by omega) (by omega) (by omega);have hr:=qA hl;rw[show qK 7 s=levN s from rfl]
   by_cases hb:levN s<need
   ·rw[if_pos (.inl ⟨rfl,by rw[hr];omega⟩),if_pos hb]
   ·rw[if_neg (by rw[hr];simp;omega),if_neg hb]
  ·rw[if_neg (by simp[g]),if_neg (by rw[qK,if_pos g];omega)]
theorem rtxs_eq:∀l:List Ex,rightExs l=true→rtxs false l=textEs l
 | [],_=>by rw[rtxs,textEs]
 | x::l,h=>by
  rw[rightExs,Bool.and_eq_true] at h;rw[rtxs,textEs,rtxs_eq l h.2,← rtx_eq x h.1 0 (by omega)];rfl
theorem rtxH_eq:∀l:List Ex,rightExs l=true→∀need:Nat,need≤8→rtxH false l need=textH l need
 | [],_,_,_=>by rw[rtxH,textH]
 | x::l,h,need,hn=>by
  rw[rightExs,Bool.and_eq_true] at h;rw[rtxH,textH,rtx_eq x h.1 need hn]
theorem rtxS_eq:∀l:List Ex,rightExs l=true→∀need:Nat,need≤8→rtxS false l need=textS l need
 | [],_,_,_=>by rw[rtxS,textS]
 | _::l,h,need,hn=>by
  rw[rightExs,Bool.and_eq_true] at h;rw[rtxS,textS,rtxH_eq l h.2 need hn]
end
mutual
theorem rLn_eq:∀(x:St),wW x=true→∀d,rLn false d x=prS d x
 | .mk k s es b c,h,d=>by
  rw[wW,Bool.and_eq_true,Bool.and_eq_true,Bool.and_eq_true] at h;obtain⟨⟨⟨hok,he⟩,hb⟩,hc⟩:=h;have e2:=rtxH_eq es he 0 (by omega);have e3:=rtxS_eq es he 0 (by omega);rw[show ((0:Nat):Int)=0 from rfl] at e2 e3;rw[rLn,prS,e2,e3,rLs_eq b hb,rLs_eq c hc];unfold uU
  by_cases h1:k=1
  ·subst h1;simp
  by_cases h2:k=2
  ·subst h2;simp
  by_cases h3:k=3
  ·subst h3;simp
  by_cases h4:k=4
  ·subst h4
   by_cases hl:0<c.length
   ·simp[hl]
   ·simp[hl]
  by_cases h5:k=5
  ·subst h5;simp
  by_cases h6:k=6
  ·subst h6;simp
  by_cases h7:k=7
  ·subst h7;simp
  by_cases h8:k=8
  ·subst h8;simp
  ·unfold okSt at hok;simp only[Bool.and_eq_true,decide_eq_true_eq] at hok;omega
theorem rLs_eq:∀(l:List St),rightSts l=true→∀d,rLs false d l=prB d l
 | [],_,d=>by rw[rLs,prB]
 | x::l,h,d=>by
  rw[rightSts,Bool.and_eq_true] at h;rw[rLs,prB,rLn_eq x h.1,rLs_eq l h.2]
end
theorem rSrc_eq {fs:List Fn}(h:vY fs=true):qW false fs=sC fs:=by
 unfold qW sC;rw[if_pos h];congr 1;refine List.map_congr_left fun f hf=>?_;have hf':vF f=true:=List.all_eq_true.1 h f hf;unfold vF at hf';rw[Bool.and_eq_true] at hf';unfold rFn prF uU;rw[rLs_eq f.body hf'.2];have h0:Lib.repeatL [32,32] 0=([]:Bs):=rfl;simp[h0]
end Go.Proofs.YtfpkpnkdnammnaaGreatDoor
/- The reference's numerals. -/
namespace Go.Proofs.YtfpkpnkdnammnaaGreatDoor
open Go.RowKit
end Go.Proofs.YtfpkpnkdnammnaaGreatDoor
/- The reference's text of an expression. -/
namespace Go.Proofs.YtfpkpnkdnammnaaGreatDoor
open Go.RowKit
/-! ### Joins -/
end Go.Proofs.YtfpkpnkdnammnaaGreatDoor
/- The reference's lines: statements as text. -/
namespace Go.Proofs.YtfpkpnkdnammnaaGreatDoor
open Go.RowKit
end Go.Proofs.YtfpkpnkdnammnaaGreatDoor
/- The reference's Source and Print. -/
namespace Go.Proofs.YtfpkpnkdnammnaaGreatDoor
open Go.RowKit
end Go.Proofs.YtfpkpnkdnammnaaGreatDoor
