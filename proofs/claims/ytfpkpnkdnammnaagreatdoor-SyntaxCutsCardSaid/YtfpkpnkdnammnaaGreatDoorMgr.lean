import Derived.Test.YtfpkpnkdnammnaaGreatDoorMgL
import Derived.Test.YtfpkpnkdnammnaaGreatDoorMgO
import Derived.Test.YtfpkpnkdnammnaaGreatDoorStr
set_option maxRecDepth 100000
set_option maxHeartbeats 8000000
namespace Go.Proofs.YtfpkpnkdnammnaaGreatDoor
def wr (all:Bool) (k:Nat) (s:Bs) (least:Int) (t:Bs):Bs:=if (k=7∧vZ s<least)∨(all=true∧k≠2) then [40]++t++[41] else t
mutual
def rtx (all:Bool):Ex→Bs
 | .mk k n s kids=>if k=1 then Lib.decDigits n else if k=2 then s else if k=3 then s++[40]++Lib.join (rtxs all kids) [44,32]++[41] else if k=4 then [109,101,109,91]++rtxH all kids 0++[93] else if k=5 then [105,110] else if k=6 then s++rtxH all kids 8 else rtxH all kids (vZ s)++[32]++s++[32]++rtxS all kids (vZ s+1)
def rtxs (all:Bool):List Ex→List Bs
 | []=>[]
 | x::l=>wr all x.kind x.name 0 (rtx all x)::rtxs all l
def rtxH (all:Bool):List Ex→Int→Bs
 | [],_=>[]
 | x::_,least=>wr all x.kind x.name least (rtx all x)
def rtxS (all:Bool):List Ex→Int→Bs
 | [],_=>[]
 | _::l,least=>rtxH all l least
end
def rtT (all:Bool) (k n:Nat) (s:Bs) (kids:List Ex):Bs:=if k=1 then Lib.decDigits n else if k=2 then s else if k=3 then s++[40]++Lib.join (rtxs all kids) [44,32]++[41] else if k=4 then [109,101,109,91]++rtxH all kids 0++[93] else if k=5 then [105,110] else if k=6 then s++rtxH all kids 8 else rtxH all kids (vZ s)++[32]++s++[32]++rtxS all kids (vZ s+1)
theorem rtx_T (all:Bool) (k n:Nat) (s:Bs) (kids:List Ex):rtx all (.mk k n s kids)=rtT all k n s kids:=by rw[rtx,rtT]
def rwi (all:Bool) (x:Ex) (least:Int):Bs:=wr all x.kind x.name least (rtx all x)
mutual
def rLn (all:Bool):Nat→St→Bs
 | d,.mk k s es b c=>Lib.repeatL [32,32] d ++
  (if k=1 then [118,97,114,32]++s++[32,61,32]++rtxH all es 0++[59,10]
  else if k=2 then s++[32,61,32]++rtxH all es 0++[59,10]
  else if k=3 then [109,101,109,91]++rtxH all es 0++[93,32,61,32]++rtxS all es 0++[59,10]
  else if k=4 then [105,102,32]++rtxH all es 0++[32,123,10]++rLs all (d+1) b++Lib.repeatL [32,32] d++[125]++(if 0<c.length then [32,101,108,115,101,32,123,10]++rLs all (d+1) c++Lib.repeatL [32,32] d++[125] else [])++[10]
  else if k=5 then [119,104,105,108,101,32]++rtxH all es 0++[32,123,10]++rLs all (d+1) b++Lib.repeatL [32,32] d++[125,10]
  else if k=6 then [114,101,116,117,114,110,32]++rtxH all es 0++[59,10]
  else if k=7 then [111,117,116,32]++rtxH all es 0++[59,10]
  else if k=8 then rtxH all es 0++[59,10]
  else [])
def rLs (all:Bool):Nat→List St→Bs
 | _,[]=>[]
 | d,x::l=>rLn all d x++rLs all d l
end
def rFn (all:Bool) (f:Fn):Bs:=[102,110,32]++f.name++[40]++Lib.join f.params [44,32]++[41,32,123,10]++rLs all 1 f.body++[125,10]
def rSrc (all:Bool) (fs:List Fn):Bs:=(fs.map (rFn all)).flatten
theorem rLs_app (all:Bool) (d:Nat):∀l m:List St,rLs all d (l++m)=rLs all d l++rLs all d m
 | [],m=>by simp[rLs]
 | x::l,m=>by simp only[List.cons_append,rLs,rLs_app all d l,Kb]
theorem okEx7 {k:Nat}{s:Bs}{len:Nat}(h:xK k s len=true) (h1:k≠1) (h2:k≠2) (h3:k≠3) (h4:k≠4) (h5:k≠5) (h6:k≠6):k=7∧∃l,wA s=some l:=by
 unfold xK at h;rw[Ko (by omega),Ko h2,Ko h3,Ko h4,Ko h6] at h
 split at h
 ·next h7 =>
  rw[Kj] at h;exact⟨h7,Option.isSome_iff_exists.1 h.1⟩
 ·cases h
theorem pC {s:Bs}{l:Nat}(h:wA s=some l):vZ s=(levN s:Nat):=by
 unfold vZ levN;rw[h];rfl
mutual
theorem rtx_eq:∀x:Ex,yJ x=true→∀need:Nat,need≤8→wr false x.kind x.name need (rtx false x)=vD x need
 | .mk k n s kids,h,need,hn=>by
  rw[yJ,Kj,Kj] at h;obtain⟨⟨hok,_⟩,hk⟩:=h;have e1:=rtxs_eq kids hk;have e2:=rtxH_eq kids hk;have e3:=rtxS_eq kids hk;show wr false k s need (rtx false (.mk k n s kids))=_;have h0:=e2 0 (by omega);have h8:=e2 8 (by omega);rw[show ((0:Nat):Int)=0 from rfl] at h0;rw[show ((8:Nat):Int)=8 from rfl] at h8
  have hT:rtT false k n s kids=textT k n s kids:=by
   unfold rtT textT;rw[e1,h0,h8]
   by_cases g1:k=1
   ·rw[Kp g1,Kp g1]
   rw[Ko g1,Ko g1]
   by_cases g2:k=2
   ·rw[Kp g2,Kp g2]
   rw[Ko g2,Ko g2]
   by_cases g3:k=3
   ·rw[Kp g3,Kp g3]
   rw[Ko g3,Ko g3]
   by_cases g4:k=4
   ·rw[Kp g4,Kp g4]
   rw[Ko g4,Ko g4]
   by_cases g5:k=5
   ·rw[Kp g5,Kp g5]
   rw[Ko g5,Ko g5]
   by_cases g6:k=6
   ·rw[Kp g6,Kp g6]
   rw[Ko g6,Ko g6];obtain⟨_,l,hl⟩:=okEx7 hok g1 g2 g3 g4 g5 g6;have h7:=lev_le s;have hb:=e3 (levN s+1) (by omega);rw[show ((levN s+1:Nat):Int)=(levN s:Int)+1 from rfl] at hb;rw[pC hl,e2 (levN s) (by omega),hb]
  rw[textE_eq,rtx_T,hT,wr]
  by_cases g:k=7
  ·subst g;obtain⟨_,l,hl⟩:=okEx7 hok (by omega) (by omega) (by omega) (by omega) (by omega) (by omega);have hr:=pC hl;rw[show pM 7 s=levN s from rfl]
   by_cases hb:levN s<need
   ·rw[Kp (.inl ⟨rfl,by rw[hr];omega⟩),Kp hb]
   ·rw[Ko (by rw[hr];simp;omega),Ko hb]
  ·rw[Ko (by simp[g]),Ko (by rw[pM,Kp g];omega)]
theorem rtxs_eq:∀l:List Ex,rightExs l=true→rtxs false l=textEs l
 | [],_=>by rw[rtxs,textEs]
 | x::l,h=>by
  rw[rightExs,Kj] at h;rw[rtxs,textEs,rtxs_eq l h.2,← rtx_eq x h.1 0 (by omega)];rfl
theorem rtxH_eq:∀l:List Ex,rightExs l=true→∀need:Nat,need≤8→rtxH false l need=textH l need
 | [],_,_,_=>by rw[rtxH,textH]
 | x::l,h,need,hn=>by
  rw[rightExs,Kj] at h;rw[rtxH,textH,rtx_eq x h.1 need hn]
theorem rtxS_eq:∀l:List Ex,rightExs l=true→∀need:Nat,need≤8→rtxS false l need=textS l need
 | [],_,_,_=>by rw[rtxS,textS]
 | _::l,h,need,hn=>by
  rw[rightExs,Kj] at h;rw[rtxS,textS,rtxH_eq l h.2 need hn]
end
mutual
theorem rLn_eq:∀(x:St),xH x=true→∀d,rLn false d x=prS d x
 | .mk k s es b c,h,d=>by
  rw[xH,Kj,Kj,Kj] at h;obtain⟨⟨⟨hok,he⟩,hb⟩,hc⟩:=h;have e2:=rtxH_eq es he 0 (by omega);have e3:=rtxS_eq es he 0 (by omega);rw[show ((0:Nat):Int)=0 from rfl] at e2 e3;rw[rLn,prS,e2,e3,rLs_eq b hb,rLs_eq c hc];unfold uJ
  by_cases h1:k=1
  ·subst h1;simp
  by_cases h2:k=2
  ·subst h2;simp
  by_cases h3:k=3
  ·subst h3;simp
  by_cases h4:k=4
  ·subst h4
   by_cases hl:0<c.length
   ·simp[hl]
   ·simp[hl]
  by_cases h5:k=5
  ·subst h5;simp
  by_cases h6:k=6
  ·subst h6;simp
  by_cases h7:k=7
  ·subst h7;simp
  by_cases h8:k=8
  ·subst h8;simp
  ·unfold pA at hok;simp only[Kj,Kn] at hok;omega
theorem rLs_eq:∀(l:List St),rightSts l=true→∀d,rLs false d l=prB d l
 | [],_,d=>by rw[rLs,prB]
 | x::l,h,d=>by
  rw[rightSts,Kj] at h;rw[rLs,prB,rLn_eq x h.1,rLs_eq l h.2]
end
theorem rSrc_eq {fs:List Fn}(h:wD fs=true):rSrc false fs=xE fs:=by
 unfold rSrc xE;rw[Kp h];congr 1;refine List.map_congr_left fun f hf=>?_;have hf':vO f=true:=List.all_eq_true.1 h f hf;unfold vO at hf';rw[Kj] at hf';unfold rFn prF uJ;rw[rLs_eq f.body hf'.2];have h0:Lib.repeatL [32,32] 0=([]:Bs):=rfl;simp[h0]
end Go.Proofs.YtfpkpnkdnammnaaGreatDoor
namespace Go.Proofs.YtfpkpnkdnammnaaGreatDoor
open Go.RowKit
theorem quo10 (v:Nat):(v:Int).tdiv 10=((v/10:Nat):Int):=(Int.ofNat_tdiv v 10).symm
theorem digC_at (u:Nat):∀j (hj:j<[digC u].length),[Value.int .u8 (48+((u%10:Nat):Int))][0+j]? = some (.int .u8 (([digC u][j]).toNat:Int)):=fun j hj=>by
 have h0:j=0:=by simp at hj;exact hj
 subst h0
 have:(digC u).toNat=48+u%10:=by
  unfold digC;rw[UInt8.toNat_ofNat'];omega
 show some _=some _;rw[List.getElem_cons_zero,this];rfl
end Go.Proofs.YtfpkpnkdnammnaaGreatDoor
namespace Go.Proofs.YtfpkpnkdnammnaaGreatDoor
open Go.RowKit
theorem dec_small {u:Nat}(h:u<10):Lib.decDigits u=[digC u]:=by rw[dec_pre u,decPre,Kp h];rfl
theorem dec_big {u:Nat}(h:¬u<10):Lib.decDigits u=Lib.decDigits (u/10)++[digC u]:=by rw[dec_pre u,dec_pre (u/10),pre_step (by omega)]
theorem rdec_step (u:Nat) (hu0:u<4294967296) (IH:10≤u→∀w,Calls Tryz.prog 157 #[.int .u32 (u/10:Nat)] w fun e w'=>e=.returned (.string ⟨(Lib.decDigits (u/10)).toArray⟩)∧Ext w w') (w_0:World):Calls Tryz.prog 157 #[.int .u32 u] w_0 fun e w'=>e=.returned (.string ⟨(Lib.decDigits u).toArray⟩)∧Ext w_0 w':=by
 have hD:(Lib.decDigits (u/10)).length≤20:=dec_len (by omega) (by decide);refine yV (args:=[.int .u32 u]) Tryz.func157 V 18 V (Jn V)<|Z1 0 V<|zD (H':=Hp (fun _=>False) w_0 [] [] (fun _=>True)) (fun u hu=>?_) ?_
 ·subst hu;exact Hp.start0
 refine zY<|zX<|Za rfl rfl<|ZX<|zX<|Zm rfl rfl<|ZF rfl (yf_rem rfl rfl (by first|decide|omega) (Int.ofNat_tmod u 10).symm) ?_;refine ZF V (yI V V (u32_in _ (by omega) (by omega))) ?_
 refine ZF V (qP V (by kernel_rfl) Tryz.underlying5 (u8_in _ (by omega) (by omega))) ?_
 refine zC .none V (xR (z:=.int .u8 0) V V U54 (by kernel_rfl) (by kernel_rfl) V V) (fun b8=>?_)
 refine ZF V (yf_convL 0 [digC u] V V Tryz.underlying54 Tryz.underlying5 Tryz.underlying9 V (digC_at u)) ?_
 refine Za V V<|ZX<|zY<|Z3r 0 2 3 V V V<|Zm V V<|ZF V (xS V V)<|ZT<|zT V (fun hc=>?_) (fun hc=>?_)
 ·replace hc:=Jo hc;refine zY<|Z4r 0 2 3 11 V V V V<|Zm V V<|Za V V<|ZT<|zK<|zV<|zI V V (fun w hw=>?_);exact⟨by rw[dec_small (by omega)],(Jq hw).ext⟩
 ·replace hc:=Jp hc;refine zG<|zQ<|zY<|Z4r 0 2 3 11 rfl rfl rfl rfl<|Zm rfl rfl<|ZF rfl (yf_quo rfl rfl (by first|decide|omega) (show IntKind.u32.wrap ((u:Int).tdiv 10)=((u/10:Nat):Int) from by rw[quo10];exact u32_in _ (by omega) (by omega))) ?_;refine yT .none V  (v:=.string ⟨(Lib.decDigits (u/10)).toArray⟩) (by kernel_rfl) V (fun w hw=>IH (by omega) w) ?_;refine Zm V V<|ZF V (zF V V (by (simp only[List.length_singleton];omega))) ?_;refine Za V V<|ZT<|zK<|zI V V (fun w hw=>?_);exact⟨by rw[dec_big (u:=u) (by omega)],(Jq hw).ext⟩
theorem rdec_all:∀(N u:Nat),u<N→u<4294967296→∀w_0,Calls Tryz.prog 157 #[.int .u32 u] w_0 fun e w'=>e=.returned (.string ⟨(Lib.decDigits u).toArray⟩)∧Ext w_0 w'
 | 0,_,h,_=>absurd h (by omega)
 | N+1,u,h,h2=>rdec_step u h2 fun h3=>rdec_all N (u/10) (by omega) (by omega)
theorem rdec_any (u:Nat) (h:u<4294967296) (w_0:World):Calls Tryz.prog 157 #[.int .u32 u] w_0 fun e w'=>e=.returned (.string ⟨(Lib.decDigits u).toArray⟩)∧Ext w_0 w':=rdec_all _ u (Nat.lt_succ_self _) h w_0
theorem join_app (sep:Bs):∀(l m:List Bs),l≠[]→Lib.join (l++m) sep=Lib.join l sep++Lib.joinTail sep m
 | [],_,h=>absurd rfl h
 | y::l,m,_=>by
  rw[List.cons_append,Lib.join_cons,Lib.join_cons];unfold Lib.joinTail;simp only[List.map_append,List.flatten_append,Kb]
def jq (l:List Bs) (j:Nat):Bs:=if 0<j then Lib.join (l.take j) [44,32]++[44,32] else []
theorem jq_pos {l:List Bs}{j:Nat}(h:0<j):jq l j=Lib.join (l.take j) [44,32]++[44,32]:=Kp h
theorem jq_0 {l:List Bs}{j:Nat}(h:¬0<j):jq l j=Lib.join (l.take j) [44,32]:=by
 have:j=0:=by omega
 subst this;rw[jq,Ko h,List.take_zero,Lib.join_nil]
theorem jq_step {l:List Bs}{j:Nat}{x:Bs}(h:l[j]? = some x):Lib.join (l.take (j+1)) [44,32]=jq l j++x:=by
 rw[wF h]
 by_cases h0:0<j
 ·rw[join_app _ _ _ (fun e=>by
   have h1:=(Jm.1 h).1;have:=congrArg List.length e;rw[Ki,Jk] at this
   omega),jq_pos h0]
  simp[Lib.joinTail]
 ·have:j=0:=by omega
  subst this;rw[jq,Ko h0,List.take_zero,List.nil_append,List.nil_append,Lib.join_cons];simp[Lib.joinTail]
theorem jq_le {l:List Bs}{j:Nat}(h:j<l.length):(Lib.join (l.take (j+1)) [44,32]).length≤(Lib.join l [44,32]).length:=by
 have:=join_app [44,32] (l.take (j+1)) (l.drop (j+1)) (fun e=>by
   have:=congrArg List.length e;rw[Ki,Jk] at this
   omega)
 rw[List.take_append_drop] at this;rw[this,Ji];omega
theorem rtxs_len (all:Bool) (l:List Ex):(rtxs all l).length=l.length:=by
 induction l with
 | nil=>rfl
 | cons x l ih=>simp only[rtxs,Jj,ih]
theorem rtxs_at {all:Bool}{l:List Ex}{i:Nat}{x:Ex}(h:l[i]? = some x):(rtxs all l)[i]? = some (rwi all x 0):=by
 induction l generalizing i with
 | nil=>cases h
 | cons y l ih =>
  cases i with
  | zero=>cases h;simp[rtxs,rwi]
  | succ i=>simp only[rtxs,List.getElem?_cons_succ];exact ih h
theorem rtx_wi (all:Bool) (x:Ex) (least:Int):(rtx all x).length≤(rwi all x least).length:=by
 unfold rwi wr
 split
 ·simp only[Ji];omega
 ·exact Km _
def RTX (all:Bool) (x:Ex):Prop:=∀F A cap w,yJ x=true→exU x=true→(rtx all x).length≤1000000000000→xT F w x A cap→Calls Tryz.prog 137 #[.agg (xL x A cap).toArray,.bool all] w fun e w'=>e=.returned (.string ⟨(rtx all x).toArray⟩)∧Ext w w'
def RWI (all:Bool) (x:Ex):Prop:=∀least F A cap w,yJ x=true→exU x=true→(rwi all x least).length≤1000000000000→xT F w x A cap→Calls Tryz.prog 109 #[.agg (xL x A cap).toArray,.int .i64 least,.bool all] w fun e w'=>e=.returned (.string ⟨(rwi all x least).toArray⟩)∧Ext w w'
def wrB (all:Bool) (k:Nat) (s:Bs) (least:Int):Bool:=decide ((k=7∧vZ s<least)∨(all=true∧k≠2))
theorem rwithin_step (all:Bool) (k n:Nat) (s:Bs) (kids:List Ex) (IH:RTX all (.mk k n s kids)):RWI all (.mk k n s kids):=by
 intro least F A cap w_0 hr hu0 hl h;have hl0:=rtx_wi all (.mk k n s kids) least;have hlt:=h.1.lt;have hw:rwi all (.mk k n s kids) least=wr all k s least (rtx all (.mk k n s kids)):=rfl;rw[hw] at hl hl0 ⊢;have IH':=fun F A cap w h=>IH F A cap w hr hu0 (by omega) h;clear hw IH;generalize rtx all (.mk k n s kids)=t at hl hl0 IH' ⊢;refine yV (args:=[.agg (exC k n s A kids.length cap).toArray,.int .i64 least,.bool all]) Tryz.func109 V 33 V (Jn V)<|Z3 0 1 2 V V V<|zD (H':=Hp (fun _=>False) w_0 [] [] (wN F w_0)) (fun u hu=>?_) ?_
 ·subst hu;exact Hp.startSame
 refine zY<|zX<|zC .none V (vY V V) (fun b3=>?_);refine Za V V<|ZX<|zX<|ZF V (yX 0 V V U57 V (by kernel_rfl)) ?_;refine Zm V V<|yT .none V  (v:=.string ⟨t.toArray⟩) (by kernel_rfl) V (fun w hw=>IH' F A cap w ((HpG.x hw).get xT.lies h)) ?_;refine Za V V<|ZX<|xA (ι:=Unit) (fun _=>[(7,.string ⟨t.toArray⟩),(28,.bool (wrB all k s least))]) (fun _=>Hp (fun _=>False) w_0 [] [] (wN F w_0)) ?_ (fun _=>?_)
 ·refine Z6r 0 1 2 3 6 7 V V V V V V<|ZF V (Y57x0 V) ?_;refine ZF V (zW 0 V V V U3 V)<|ZF V (yS V V)<|Zm V V<|zH 14 V (fun g4=>?_) (fun g4=>?_)
  ·replace g4:=Jw g4;refine ZG V V V (Y57x2 V) ?_;refine ZG V V V (zW 0 V V V U9 V)<|yT (.some V V) V  (v:=.int .i64 (vZ s)) (by kernel_rfl) V (fun w hw=>rrank_any s w) ?_;refine ZG V V V (zO V)<|ZG V V V (xS V V)<|ZF V (zP V V)<|Zm V V<|zH 21 V (fun g11=>?_) (fun g11=>?_)
   ·replace g11:=Jo g11;refine ZP V<|ZP V<|yZ V V V<|yZ V V V<|yZ V V V<|ZP V<|ZF V (zP V V)<|zU ?_
    refine zA (ι:=Unit) () (.cons V<|.cons (by
     show some (Value.bool _)=some (Value.bool _);congr 2;unfold wrB;rw[Jl]
     simp_all<;>omega)<|.nil) (fun w h=>Hp.drop h (Kf _) (Kf _))
   ·replace g11:=Jp g11;refine ZG V V V (zO V)<|ZG V V V (zO V)<|zH 23 V (fun g13=>?_) (fun g13=>?_)
    ·refine ZG V V V (Y57x0 V) ?_;refine ZG V V V (zW 0 V V V U3 V)<|ZG V V V (sW V V)<|ZG V V V (zP V V)<|ZF V (zL V V)<|zU ?_
     refine zA (ι:=Unit) () (.cons V<|.cons (by
      show some (Value.bool _)=some (Value.bool _);congr 2;unfold wrB;rw[Jl]
      simp_all<;>omega)<|.nil) (fun w h=>Hp.drop h (Kf _) (Kf _))
    ·refine ZP V<|ZP V<|ZP V<|ZG V V V (zL V V)<|ZF V (zL V V)<|zU ?_
     refine zA (ι:=Unit) () (.cons V<|.cons (by
      show some (Value.bool _)=some (Value.bool _);congr 2;unfold wrB;rw[Jl]
      simp_all<;>omega)<|.nil) (fun w h=>Hp.drop h (Kf _) (Kf _))
  ·replace g4:=yP g4;refine ZP V<|ZP V<|ZP V<|ZP V<|ZP V<|ZF V (zL V V)<|Zm V V<|ZG V V V (zO V)<|ZG V V V (zO V)<|zH 23 V (fun g13=>?_) (fun g13=>?_)
   ·refine ZG V V V (Y57x0 V) ?_;refine ZG V V V (zW 0 V V V U3 V)<|ZG V V V (sW V V)<|ZG V V V (zP V V)<|ZF V (zL V V)<|zU ?_
    refine zA (ι:=Unit) () (.cons V<|.cons (by
     show some (Value.bool _)=some (Value.bool _);congr 2;unfold wrB;rw[Jl]
     simp_all<;>omega)<|.nil) (fun w h=>Hp.drop h (Kf _) (Kf _))
   ·refine ZP V<|ZP V<|ZP V<|ZG V V V (zL V V)<|ZF V (zL V V)<|zU ?_
    refine zA (ι:=Unit) () (.cons V<|.cons (by
     show some (Value.bool _)=some (Value.bool _);congr 2;unfold wrB;rw[Jl]
     simp_all<;>omega)<|.nil) (fun w h=>Hp.drop h (Kf _) (Kf _))
 ·refine zT V (fun h28=>?_) (fun h28=>?_)
  ·refine zY<|zX<|Zm rfl rfl<|ZF rfl (zF rfl rfl (by first|omega|simp<;>omega)) ?_;refine ZF rfl (zF rfl rfl (by first|omega|simp<;>omega)) ?_;refine Za V V<|ZT<|zK<|zV<|zI V V (fun w hw=>?_);exact⟨by rw[wr,Kp (Jo h28)],(Jq hw).ext⟩
  ·refine zG<|zQ<|zY<|zX<|Zm V V<|Za V V<|ZT<|zK<|zI V V (fun w hw=>?_);exact⟨by rw[wr,Ko (Jp h28)],(Jq hw).ext⟩
theorem rtext_step (all:Bool) (k n:Nat) (s:Bs) (kids:List Ex) (IH:∀x∈kids,RWI all x):RTX all (.mk k n s kids):=by
 intro F A cap w_0 hr hu0 hl h;obtain⟨hle,kc,hk1,hk2⟩:=h;dsimp only[Ex.kids] at hk2 hle;have hlt:=hle.lt;simp only[rightEx_eq,Kj] at hr;obtain⟨⟨hok,hn0⟩,hrk⟩:=hr;rw[wK,List.all_eq_true] at hrk;simp only[exU,Kj,Kn] at hu0;obtain⟨hun,huk⟩:=hu0;have huk:=qX huk
 have hA:0<kids.length→∃b off,A=some ⟨b,off,none⟩:=fun h0=>by
  obtain⟨b,off,e,_⟩:=hk1 (by rw[hk2.len];omega);exact⟨b,off,e⟩
 rw[rtx_T] at hl ⊢;refine yV (args:=[.agg (exC k n s A kids.length cap).toArray,.bool all]) Tryz.func137 V 96 V (Jn V)<|Z2 0 1 V V<|zD (H':=Hp (fun _=>False) w_0 [] [] (wN F w_0)) (fun u hu=>?_) ?_
 ·subst hu;exact Hp.startSame
 refine zY<|zX<|zC .none V (vY V V) (fun b2=>?_);refine Za V V<|ZX<|zY<|zX<|ZF V (Y57x0 V) ?_;refine ZF V (zW 0 V V V U3 V)<|ZT<|yY<|zY<|Z5r 0 1 2 4 9 V V V V V<|ZF V (yS V V)<|Za V V<|ZT<|zT V (fun hc=>?_) (fun hc=>?_)
 ·replace hc:=Jw hc;have hk:k=1:=by omega
  refine zY<|Z6r 0 1 2 4 9 10 V V V V V V<|ZF V (Y57x1 V) ?_;refine ZF V (zW 0 V V V U50 V)<|yT .none V  (v:=.string ⟨(Lib.decDigits n).toArray⟩) (by kernel_rfl) V (fun w hw=>rdec_any n hun w) ?_;refine Za V V<|ZT<|zK<|zR<|zV<|zI V V (fun w hw=>?_);exact⟨by rw[show rtT all k n s kids=Lib.decDigits n from Kp hk],(Jq hw).ext⟩
 ·replace hc:=yP hc;have hk1':k≠1:=by omega
  refine zY<|Z6r 0 1 2 4 9 10 V V V V V V<|ZF V (yS V V)<|Za V V<|ZT<|zT V (fun hc=>?_) (fun hc=>?_)
  ·replace hc:=Jw hc;have hk:k=2:=by omega
   refine zY<|Z7r 0 1 2 4 9 10 15 V V V V V V V<|ZF V (Y57x2 V) ?_;refine ZF V (zW 0 V V V U9 V)<|Za V V<|ZT<|zK<|zR<|zV<|zI V V (fun w hw=>?_);exact⟨by rw[show rtT all k n s kids=s from (Ko hk1').trans (Kp hk)],(Jq hw).ext⟩
  ·replace hc:=yP hc;have hk2':k≠2:=by omega
   refine zY<|Z7r 0 1 2 4 9 10 15 V V V V V V V<|ZF V (yS V V)<|Za V V<|ZT<|zT V (fun hc=>?_) (fun hc=>?_)
   ·replace hc:=Jw hc;have hk:k=3:=by omega
    subst hk;have hl3:(s++[40]++Lib.join (rtxs all kids) [44,32]++[41]).length≤1000000000000:=hl;simp only[Ji,Jj,Jk] at hl3;have hlr:=rtxs_len all kids;refine zY<|Z8r 0 1 2 4 9 10 15 19 V V V V V V V V<|Za V V<|ZX<|zY<|zX<|Za V V<|ZT<|yY<|xV (ι:={j:Nat // j≤kids.length}) (fun j=>[(1,.bool all),(2,.pointer (some ⟨b2,0,none⟩)),(5,.string ⟨(Lib.join ((rtxs all kids).take j.1) [44,32]).toArray⟩),(6,.int .i64 j.1)]) (fun j=>Hp (fun _=>False) w_0 [(b2,bk 57 (exC 3 n s A kids.length cap))] [] (wN F w_0)) (fun j=>kids.length-j.1) ⟨0,Kl _⟩ ?_ ?_ (fun j=>?_)
    ·exact .cons V<|.cons V<|.cons (by rw[List.take_zero,Lib.join_nil];rfl)<|.cons V<|.nil
    ·exact fun w h=>h
    obtain⟨i,hi⟩:=j;dsimp only;refine zY<|zY<|zX<|Zm V V<|ZF V (Y57x3 V) ?_;refine ZF V (zW 0 V V V U55 V)<|ZF V (yM V U55)<|ZF V (xS V V)<|ZT<|zT V (fun hc=>?_) (fun hc=>?_)
    ·replace hc:=Jo hc;obtain⟨b,off,rfl⟩:=hA (by omega);have hil:i<kids.length:=by omega
     obtain⟨x,hx⟩:∃x,kids[i]? = some x:=⟨kids[i],Jt hil⟩;have hxm:=Ju hx;obtain⟨A1,cap1,hfix⟩:=hk2.fix hx;have hxk:=(hfix F w_0 hk2).1;have hcell:=(hfix F w_0 hk2).2;have hst:=jq_step (rtxs_at (all:=all) hx);have hjl:=jq_le (l:=rtxs all kids) (j:=i) (by rw[hlr];exact hil);rw[hst,Ji] at hjl;refine zG<|zQ<|zY<|yY<|xA (ι:=Unit) (fun _=>[(1,.bool all),(2,.pointer (some ⟨b2,0,none⟩)),(5,.string ⟨(jq (rtxs all kids) i).toArray⟩),(6,.int .i64 i)]) (fun _=>Hp (fun _=>False) w_0 [(b2,bk 57 (exC 3 n s (some ⟨b,off,none⟩) kids.length cap))] [] (wN F w_0)) ?_ (fun _=>?_)
     ·refine zY<|Z5r 1 2 5 6 25 V V V V V<|Zm V V<|ZF V (wO V V)<|ZT<|zT V (fun hc=>?_) (fun hc=>?_)
      ·replace hc:=Jo hc;refine Z6r 1 2 5 6 25 29 V V V V V V<|Zm V V<|ZF V (zF V V (by (rw[jq_pos (show 0<i by omega),Ji] at hjl;simp only[Jj,Jk] at hjl ⊢;omega))) ?_;refine Za rfl rfl<|zU<|zA (ι:=Unit) () (.cons rfl<|.cons rfl<|.cons (by first|(rw[jq_pos (show 0<i by omega)];rfl)|(rw[jq_0 (show ¬0<i by omega)];rfl))<|.cons rfl<|.nil) (fun w h=>h)
      ·replace hc:=Jp hc;refine zG<|zA (ι:=Unit) () (.cons rfl<|.cons rfl<|.cons (by first|(rw[jq_pos (show 0<i by omega)];rfl)|(rw[jq_0 (show ¬0<i by omega)];rfl))<|.cons rfl<|.nil) (fun w h=>h)
     ·refine zX<|Zm V V<|ZF V (Y57x3 V) ?_;refine ZF rfl (zW 0 rfl rfl rfl U55 rfl)<|Zm rfl rfl<|ZF rfl (zJ (es:=4) rfl rfl U55 (by kernel_rfl) rfl (by first|decide|omega|(simp;done)|(simp;omega)) rfl) ?_;refine ZF V (yD (cs:=xL x A1 cap1) V U57 V (by kernel_rfl) (fun w h j v hv=>RdF.part ((HpG.x h).get RdF.lies hk1) (Jm.1 (hcell j v hv)).1 (by omega) (hcell j v hv))) ?_;refine Zm V V<|yT .none V  (v:=.string ⟨(rwi all x 0).toArray⟩) (by kernel_rfl) V (fun w hw=>IH x hxm 0 F A1 cap1 w (hrk x hxm) (huk x hxm) (by omega) ((HpG.x hw).get xT.lies hxk)) ?_;refine ZF V (zF V V (by omega)) ?_;refine Za V V<|zU<|zM<|zQ<|Z4r 1 2 5 6 V V V V<|Zm V V<|ZF V (yI V V (i64_in _ (by omega) (by omega))) ?_;refine Za V V<|zU<|yC (ι:={j:Nat // j≤kids.length}) ⟨i+1,hil⟩ (by show kids.length-(i+1)<kids.length-i;omega) (.cons V<|.cons V<|.cons (by rw[hst];rfl)<|.cons V<|.nil) (fun w h=>h)
    ·replace hc:=Jp hc;have hie:i=kids.length:=by omega
     subst hie;rw[show (rtxs all kids).take kids.length=rtxs all kids by rw[← hlr,Kh]];refine xY<|zN<|zN<|xZ<|zQ<|zY<|Z5r 1 2 5 6 25 V V V V V<|ZF V (Y57x2 V) ?_;refine ZF rfl (zW 0 rfl rfl rfl U9 rfl)<|ZF rfl (zF rfl rfl (by first|omega|simp<;>omega)) ?_;refine Zm rfl rfl<|ZF rfl (zF rfl rfl (by first|omega|simp<;>omega)) ?_;refine ZF rfl (zF rfl rfl (by first|omega|simp<;>omega)) ?_;refine Za V V<|ZT<|zK<|zR<|zV<|zI V V (fun w hw=>?_);exact⟨rfl,(Jq hw).ext⟩
   ·replace hc:=yP hc;have hk3':k≠3:=by omega
    refine zY<|Z8r 0 1 2 4 9 10 15 19 V V V V V V V V<|ZF V (yS V V)<|Za V V<|ZT<|zT V (fun hc=>?_) (fun hc=>?_)
    ·replace hc:=Jw hc;have hk:k=4:=by omega
     subst hk
     obtain⟨x,rfl⟩:∃x,kids=[x]:=by
      rw[xB rfl] at hok;simp only[Kj,Kn] at hok;exact List.length_eq_one_iff.1 hok.2
     obtain⟨g0,o0,rfl⟩:=hA (by simp);obtain⟨A1,cap1,hfix⟩:=hk2.fix (i:=0) (x:=x) rfl;have hxk:=(hfix F w_0 hk2).1;have hcell:=(hfix F w_0 hk2).2;have hl4:([109,101,109,91]++rwi all x 0++[93]).length≤1000000000000:=hl;simp only[Ji,Jj,Jk] at hl4;refine zY<|Z9r 0 1 2 4 9 10 15 19 47 V V V V V V V V V<|ZF V (Y57x3 V) ?_;refine ZF rfl (zW 0 rfl rfl rfl U55 rfl)<|ZF rfl (zJ (j:=0) (es:=4) rfl rfl U55 (by kernel_rfl) rfl (by first|decide|omega|(simp;done)|(simp;omega)) rfl) ?_;refine ZF V (yD (cs:=xL x A1 cap1) V U57 V (by kernel_rfl) (fun w h j v hv=>RdF.part ((HpG.x h).get RdF.lies hk1) (Jm.1 (hcell j v hv)).1 (by omega) (hcell j v hv))) ?_;refine Zm V V<|yT .none V  (v:=.string ⟨(rwi all x 0).toArray⟩) (by kernel_rfl) V (fun w hw=>IH x (by simp) 0 F A1 cap1 w (hrk x (by simp)) (huk x (by simp)) (by omega) ((HpG.x hw).get xT.lies hxk)) ?_;refine ZF rfl (zF rfl rfl (by first|omega|simp<;>omega)) ?_;refine ZF rfl (zF rfl rfl (by first|omega|simp<;>omega)) ?_;refine Za V V<|ZT<|zK<|zR<|zV<|zI V V (fun w hw=>?_);exact⟨rfl,(Jq hw).ext⟩
    ·replace hc:=yP hc;have hk4':k≠4:=by omega
     refine zY<|Z9r 0 1 2 4 9 10 15 19 47 V V V V V V V V V<|ZF V (yS V V)<|Za V V<|ZT<|zT V (fun hc=>?_) (fun hc=>?_)
     ·replace hc:=Jw hc;have hk:k=5:=by omega
      refine zY<|Z10r 0 1 2 4 9 10 15 19 47 57 V V V V V V V V V V<|Za V V<|ZT<|zK<|zR<|zV<|zI V V (fun w hw=>?_);exact⟨by rw[show rtT all k n s kids=[105,110] from (Ko hk1').trans ((Ko hk2').trans ((Ko hk3').trans ((Ko hk4').trans (Kp hk))))],(Jq hw).ext⟩
     ·replace hc:=yP hc;have hk5':k≠5:=by omega
      refine zY<|Z10r 0 1 2 4 9 10 15 19 47 57 V V V V V V V V V V<|ZF V (yS V V)<|Za V V<|ZT<|zT V (fun hc=>?_) (fun hc=>?_)
      ·replace hc:=Jw hc;have hk:k=6:=by omega
       subst hk
       obtain⟨x,rfl⟩:∃x,kids=[x]:=by
        rw[xC rfl] at hok;simp only[Kj,Kn] at hok;exact List.length_eq_one_iff.1 hok.2
       obtain⟨g0,o0,rfl⟩:=hA (by simp);obtain⟨A1,cap1,hfix⟩:=hk2.fix (i:=0) (x:=x) rfl;have hxk:=(hfix F w_0 hk2).1;have hcell:=(hfix F w_0 hk2).2;have hl6:(s++rwi all x 8).length≤1000000000000:=hl;simp only[Ji] at hl6;refine zY<|Z11 0 1 2 4 9 10 15 19 47 57 59 V V V V V V V V V V V<|wR 10 [0,1,2,3,4,5,6,7,8,9] (fun u=>Blk b2 (bk 57 (exC 6 n s (some ⟨g0,o0,none⟩) 1 cap)) u∧wN F w_0 u) (by kernel_rfl) (by kernel_rfl) (fun u ob ⟨h1,h2⟩=>⟨Blk.stab u ob h1,wN.stab u ob h2⟩) (fun w h=>⟨HpG.blk h (k:=0) rfl,HpG.x h⟩) (fun n0 hn0=>?_);refine Zd V V V (Y57x2 V) ?_;refine Zd V V V (yO (v:=.string ⟨s.toArray⟩) V U9 V (fun u h=>by rw[cell_of_row u b2 _ _ _ _ h.1];rfl)) ?_;refine Zd V V V (Y57x3 V) ?_;refine Zd V V V (yO (v:=.slice (some ⟨g0,o0,none⟩) 1 cap) V U55 V (fun u h=>by rw[cell_of_row u b2 _ _ _ _ h.1];rfl)) ?_;refine Zd rfl rfl rfl (zJ (j:=0) (es:=4) rfl rfl U55 (by kernel_rfl) rfl (by first|decide|omega|(simp;done)|(simp;omega)) rfl) ?_;refine Zd V V V (yD (cs:=xL x A1 cap1) V U57 V (by kernel_rfl) (fun w h j v hv=>RdF.part (h.2.get RdF.lies hk1) (Jm.1 (hcell j v hv)).1 (by omega) (hcell j v hv))) ?_;refine xF V<|wd_callX (ι:=Nat) (C:=fun _=>True) (val:=fun a=>.slice (some ⟨a,0,none⟩) 8 8) (TT:=fun _ _ _=>True) .none V  (by kernel_rfl) V (fun _ h=>h.elim) (fun _=>⟨fun _ _=>trivial,fun _=>trivial,fun _ _=>trivial⟩) (fun w w' h hx=>⟨Blk.onE h.1 hx,h.2.ext hx⟩) (fun w hw=>(rlevels_any w).mono fun e w' ⟨a,av,h1,e1,e2,e3,e4⟩=>⟨a,trivial,e1,e2,trivial⟩) (fun aL FL _ hFL=>?_);refine Zd V V V (yM V U178)<|Zd V V V (zO V)<|xF V<|sM .none V  (v:=.string ⟨(rwi all x 8).toArray⟩) (by kernel_rfl) V (fun w w' h hx=>⟨Blk.onE h.1 hx,h.2.ext hx⟩) (fun w hw=>IH x (by simp) 8 F A1 cap1 w (hrk x (by simp)) (huk x (by simp)) (by omega) ((HpG.x hw).2.get xT.lies hxk)) ?_;refine wL ?_;simp only[Jz,Ke];refine ZF rfl (zF rfl rfl (by first|omega|simp<;>omega)) ?_;refine Za V V<|ZT<|zK<|zR<|zV<|zI V V (fun w hw=>?_);exact⟨rfl,(Jq hw).ext⟩
      ·replace hc:=yP hc
       have hk7:k=7:=by
        by_cases h7:k=7
        ·exact h7
        ·rw[wV (by omega)] at hok;cases hok
       subst hk7
       have hrk7:-1≤vZ s∧vZ s≤7:=by
        have:=lev_le s;unfold levN at this;unfold vZ
        cases hq:wA s with
        | none=>exact⟨by dsimp only;omega,by dsimp only;omega⟩
        | some l=>rw[hq] at this;exact⟨by dsimp only;omega,by dsimp only;have:l≤7:=this;omega⟩
       obtain⟨x,y,rfl⟩:∃x y,kids=[x,y]:=by
        rw[xD rfl] at hok;simp only[Kj,Kn] at hok;obtain⟨_,h2⟩:=hok
        match kids,h2 with
        | [x,y],_=>exact⟨x,y,rfl⟩
       obtain⟨g0,o0,rfl⟩:=hA (by simp);obtain⟨A1,cap1,hfix⟩:=hk2.fix (i:=0) (x:=x) rfl;have hxk:=(hfix F w_0 hk2).1;have hcell:=(hfix F w_0 hk2).2;obtain⟨A2,cap2,hfix2⟩:=hk2.fix (i:=1) (x:=y) rfl;have hyk:=(hfix2 F w_0 hk2).1;have hcell2:=(hfix2 F w_0 hk2).2;have hl7:(rwi all x (vZ s)++[32]++s++[32]++rwi all y (vZ s+1)).length≤1000000000000:=hl;simp only[Ji,Jj,Jk] at hl7;refine zG<|zM<|zQ<|zY<|Z11r 0 1 2 4 9 10 15 19 47 57 59 V V V V V V V V V V V<|ZF V (Y57x2 V) ?_;refine ZF V (zW 0 V V V U9 V)<|yT .none V  (v:=.int .i64 (vZ s)) (by kernel_rfl) V (fun w hw=>rrank_any s w) ?_;refine Za V V<|ZX<|Z12 0 1 2 4 7 9 10 15 19 47 57 59 V V V V V V V V V V V V<|wR 20 [0,1,2,3,4,5,6,7,8,9,10,11,12,13,14,15,16,17,18,19] (fun u=>Blk b2 (bk 57 (exC 7 n s (some ⟨g0,o0,none⟩) 2 cap)) u∧wN F w_0 u) (by kernel_rfl) (by kernel_rfl) (fun u ob ⟨h1,h2⟩=>⟨Blk.stab u ob h1,wN.stab u ob h2⟩) (fun w h=>⟨HpG.blk h (k:=0) rfl,HpG.x h⟩) (fun n0 hn0=>?_);refine Zd V V V (Y57x3 V) ?_;refine Zd V V V (yO (v:=.slice (some ⟨g0,o0,none⟩) 2 cap) V U55 V (fun u h=>by rw[cell_of_row u b2 _ _ _ _ h.1];rfl)) ?_;refine Zd rfl rfl rfl (zJ (j:=0) (es:=4) rfl rfl U55 (by kernel_rfl) rfl (by first|decide|omega|(simp;done)|(simp;omega)) rfl) ?_;refine Zd V V V (yD (cs:=xL x A1 cap1) V U57 V (by kernel_rfl) (fun w h j v hv=>RdF.part (h.2.get RdF.lies hk1) (Jm.1 (hcell j v hv)).1 (by omega) (hcell j v hv))) ?_;refine Zd V V V (zO V)<|Zd V V V (zO V)<|xF V<|sM .none V  (v:=.string ⟨(rwi all x (vZ s)).toArray⟩) (by kernel_rfl) V (fun w w' h hx=>⟨Blk.onE h.1 hx,h.2.ext hx⟩) (fun w hw=>IH x (by simp) (vZ s) F A1 cap1 w (hrk x (by simp)) (huk x (by simp)) (by omega) ((HpG.x hw).get xT.lies hxk)) ?_;refine Zd rfl rfl rfl (zF rfl rfl (by first|omega|simp<;>omega)) ?_;refine Zd V V V (Y57x2 V) ?_;refine Zd V V V (yO (v:=.string ⟨s.toArray⟩) V U9 V (fun u h=>by rw[cell_of_row u b2 _ _ _ _ h.1];rfl)) ?_;refine Zd rfl rfl rfl (zF rfl rfl (by first|omega|simp<;>omega)) ?_;refine Zd rfl rfl rfl (zF rfl rfl (by first|omega|simp<;>omega)) ?_;refine Zd V V V (Y57x3 V) ?_;refine Zd V V V (yO (v:=.slice (some ⟨g0,o0,none⟩) 2 cap) V U55 V (fun u h=>by rw[cell_of_row u b2 _ _ _ _ h.1];rfl)) ?_;refine Zd rfl rfl rfl (zJ (j:=1) (es:=4) rfl rfl U55 (by kernel_rfl) rfl (by first|decide|omega|(simp;done)|(simp;omega)) rfl) ?_;refine Zd V V V (yD (cs:=xL y A2 cap2) V U57 V (by kernel_rfl) (fun w h j v hv=>RdF.part (h.2.get RdF.lies hk1) (Jm.1 (hcell2 j v hv)).1 (by omega) (hcell2 j v hv))) ?_
       refine xF V<|sL V .none V (zO V)<|Zd V V V (yI V V (show IntKind.i64.wrap (vZ s+1)=vZ s+1 from IntWalk.i64_in _ ⟨by omega,by omega⟩)) ?_;refine Zd V V V (zO V)<|xF V<|sM .none V  (v:=.string ⟨(rwi all y (vZ s+1)).toArray⟩) (by kernel_rfl) V (fun w w' h hx=>⟨Blk.onE h.1 hx,h.2.ext hx⟩) (fun w hw=>IH y (by simp) (vZ s+1) F A2 cap2 w (hrk y (by simp)) (huk y (by simp)) (by omega) ((HpG.x hw).get xT.lies hyk)) ?_;refine wL ?_;simp only[Jz,Ke];refine ZF rfl (zF rfl rfl (by first|omega|simp<;>omega)) ?_;refine Za V V<|ZT<|zK<|zI V V (fun w hw=>?_);exact⟨rfl,(Jq hw).ext⟩
theorem rtext_all (all:Bool):∀(N:Nat) (x:Ex),SizeOf.sizeOf x<N→RTX all x∧RWI all x
 | 0,_,h=>absurd h (by omega)
 | N+1,.mk k n s kids,h =>
  have h1:=rtext_step all k n s kids fun x hx=>(rtext_all all N x (by have:=tM (k:=k) (n:=n) (s:=s) hx;omega)).2
  ⟨h1,rwithin_step all k n s kids h1⟩
theorem rwithin_any (all:Bool) (x:Ex):RWI all x:=(rtext_all all _ x (Nat.lt_succ_self _)).2
end Go.Proofs.YtfpkpnkdnammnaaGreatDoor
namespace Go.Proofs.YtfpkpnkdnammnaaGreatDoor
open Go.RowKit
theorem pP (d:Nat) (hd:d≤1000000000000) (w_0:World):Calls Tryz.prog 108 #[.int .i64 d] w_0 fun e w'=>e=.returned (.string ⟨(Lib.repeatL [32,32] d).toArray⟩)∧Ext w_0 w':=by
 refine yV (args:=[.int .i64 d]) Tryz.func108 V 13 V (Jn V)<|Z1 0 V<|zD (H':=Hp (fun _=>False) w_0 [] [] (fun _=>True)) (fun u hu=>?_) ?_
 ·subst hu;exact Hp.start0
 refine zY<|zX<|Za V V<|ZX<|zX<|Za V V<|ZX<|zY<|zX<|Za V V<|ZT<|yY<|xV (ι:={k:Nat // k≤d}) (fun k=>[(0,.int .i64 d),(3,.string ⟨(Lib.repeatL [32,32] k.1).toArray⟩),(4,.int .i64 k.1)]) (fun _=>Hp (fun _=>False) w_0 [] [] (fun _=>True)) (fun k=>d-k.1) ⟨0,Kl _⟩ ?_ ?_ (fun k=>?_)
 ·exact .cons V<|.cons V<|.cons V<|.nil
 ·exact fun w h=>h
 obtain⟨k,hk⟩:=k;dsimp only;have hlen:=Lib.repeatL_length [32,32] k;have h2:([32,32]:Bs).length=2:=rfl;rw[h2] at hlen;refine zY<|zY<|zX<|Zm V V<|Zm V V<|ZF V (xS V V)<|ZT<|zT V (fun hc=>?_) (fun hc=>?_)
 ·replace hc:=Jo hc;refine zG<|zQ<|zY<|yY<|Z4r 0 3 4 7 rfl rfl rfl rfl<|Zm rfl rfl<|ZF rfl (zF rfl rfl (by first|omega|simp<;>omega)) ?_;refine Za V V<|zU<|zM<|zQ<|Z4r 0 3 4 7 V V V V<|Zm V V<|ZF V (yI V V (i64_in _ (by omega) (by omega))) ?_;refine Za V V<|zU<|yC (ι:={k:Nat // k≤d}) ⟨k+1,by omega⟩ (by show d-(k+1)<d-k;omega) (.cons V<|.cons (by rw[Lib.repeatL_add,Lib.repeatL_one];rfl)<|.cons V<|.nil) (fun w h=>h)
 ·replace hc:=Jp hc;have hke:k=d:=by omega
  refine xY<|zN<|zN<|xZ<|zQ<|zY<|Z4r 0 3 4 7 V V V V<|Zm V V<|Za V V<|ZT<|zK<|zI V V (fun w hw=>?_);exact⟨by rw[hke],(Jq hw).ext⟩
theorem rtxH0 {all:Bool}{es:List Ex}{x:Ex}(h:es[0]? = some x) (l:Int):rtxH all es l=rwi all x l:=by
 cases es with
 | nil=>cases h
 | cons y l=>cases h;simp only[rtxH];rfl
theorem rtxS0 {all:Bool}{es:List Ex}{x:Ex}(h:es[1]? = some x) (l:Int):rtxS all es l=rwi all x l:=by
 cases es with
 | nil=>cases h
 | cons y l=>simp only[rtxS];exact rtxH0 h _
def rT (all:Bool) (d k:Nat) (s:Bs) (es:List Ex) (b c:List St):Bs :=
 if k=1 then [118,97,114,32]++s++[32,61,32]++rtxH all es 0++[59,10]
 else if k=2 then s++[32,61,32]++rtxH all es 0++[59,10]
 else if k=3 then [109,101,109,91]++rtxH all es 0++[93,32,61,32]++rtxS all es 0++[59,10]
 else if k=4 then [105,102,32]++rtxH all es 0++[32,123,10]++rLs all (d+1) b++Lib.repeatL [32,32] d++[125]++(if 0<c.length then [32,101,108,115,101,32,123,10]++rLs all (d+1) c++Lib.repeatL [32,32] d++[125] else [])++[10]
 else if k=5 then [119,104,105,108,101,32]++rtxH all es 0++[32,123,10]++rLs all (d+1) b++Lib.repeatL [32,32] d++[125,10]
 else if k=6 then [114,101,116,117,114,110,32]++rtxH all es 0++[59,10]
 else if k=7 then [111,117,116,32]++rtxH all es 0++[59,10]
 else if k=8 then rtxH all es 0++[59,10]
 else []
theorem rLn_T (all:Bool) (d:Nat) (x:St):rLn all d x=Lib.repeatL [32,32] d++rT all d x.kind x.name x.exprs x.body x.els:=by
 cases x;rw[rLn];rfl
theorem rT_text (all:Bool) (d k:Nat) (s:Bs) (es:List Ex) (b c:List St) (h1:1≤k) (h8:k≤8):(rtxH all es 0).length≤(rT all d k s es b c).length:=by
 have:k=1∨k=2∨k=3∨k=4∨k=5∨k=6∨k=7∨k=8:=by omega
 rcases this with rfl|rfl|rfl|rfl|rfl|rfl|rfl|rfl<;>simp[rT]<;>omega
theorem rLs_at {all:Bool}{d i:Nat}{a:List St}{x:St}(hx:a[i]? = some x):rLs all d (a.take (i+1))=rLs all d (a.take i)++(Lib.repeatL [32,32] d++rT all d x.kind x.name x.exprs x.body x.els)∧(rLs all d (a.take i)).length+((Lib.repeatL [32,32] d).length+(rT all d x.kind x.name x.exprs x.body x.els).length)≤(rLs all d a).length:=by
 have e:rLs all d (a.take (i+1))=rLs all d (a.take i)++(Lib.repeatL [32,32] d++rT all d x.kind x.name x.exprs x.body x.els):=by
  rw[wF hx,rLs_app,← rLn_T];simp[rLs]
 refine⟨e,?_⟩;have h2:=rLs_app all d (a.take (i+1)) (a.drop (i+1));rw[List.take_append_drop] at h2;rw[h2,Ji,e,Ji,Ji];omega
theorem stN_mem {x:St}{l:List St}(h:x∈l):stN x≤stNs l:=by
 obtain⟨a,b,rfl⟩:=List.append_of_mem h;rw[sB];simp only[stNs];omega
theorem stN_kids (x:St):stNs x.body+1≤stN x∧stNs x.els+1≤stN x:=by
 cases x;simp only[St.body,St.els,stN];omega
theorem stU_kids {x:St}(h:stU x=true):exUs x.exprs=true∧stsU x.body=true∧stsU x.els=true:=by
 cases x;simp only[stU,Kj] at h;exact⟨h.1.1,h.1.2,h.2⟩
def RLN (all:Bool) (b:List St):Prop:=∀(d:Nat) F A cap w,rightSts b=true→stsU b=true→d+stNs b≤1000000000000→(rLs all d b).length≤1000000000000→wQ F w b A cap→Calls Tryz.prog 63 #[.slice A b.length cap,.int .i64 d,.bool all] w fun e w'=>e=.returned (.string ⟨(rLs all d b).toArray⟩)∧Ext w w'
theorem rlines_step (all:Bool) (a:List St) (IH:∀x∈a,RLN all x.body∧RLN all x.els):RLN all a:=by
 intro d F A c w_0 hr hu0 hN hl h;obtain⟨pa,ca,ra,va⟩:=h;have hla:=pa.lt
 have hA:0<a.length→∃b off,A=some ⟨b,off,none⟩:=fun h0=>by
  obtain⟨b,off,e,_⟩:=ra (by rw[va.len];omega);exact⟨b,off,e⟩
 refine yV (args:=[.slice A a.length c,.int .i64 d,.bool all]) Tryz.func63 V 145 V (Jn V)<|Z3 0 1 2 V V V<|zD (H':=Hp (fun _=>False) w_0 [] [] (wN F w_0)) (fun u hu=>?_) ?_
 ·subst hu;exact Hp.startSame
 refine zY<|zX<|Za V V<|ZX<|zX<|Za V V<|ZX<|zY<|zX<|Za V V<|ZT<|yY<|xV (ι:={i:Nat // i≤a.length}) (fun i=>[(0,.slice A a.length c),(1,.int .i64 d),(2,.bool all),(7,.string ⟨(rLs all d (a.take i.1)).toArray⟩),(8,.int .i64 i.1)]) (fun _=>Hp (fun _=>False) w_0 [] [] (wN F w_0)) (fun i=>a.length-i.1) ⟨0,Kl _⟩ ?_ ?_ (fun i=>?_)
 ·exact .cons V<|.cons V<|.cons V<|.cons (by rw[List.take_zero,rLs];rfl)<|.cons V<|.nil
 ·exact fun w h=>h
 obtain⟨i,hi⟩:=i;dsimp only;refine zY<|zY<|zX<|Zm V V<|Zm V V<|ZF V (yM V U58)<|ZF V (xS V V)<|ZT<|zT V (fun hc=>?_) (fun hc=>?_)
 ·replace hc:=Jo hc;have hil:i<a.length:=by omega
  obtain⟨g1,o1,rfl⟩:=hA (by omega);obtain⟨x,hx⟩:∃x,a[i]? = some x:=⟨a[i],Jt hil⟩;have hxm:=Ju hx;obtain⟨a1,hfix1⟩:=va.fix hx;have hk1:=(hfix1 F w_0 va).1;have hc1:=(hfix1 F w_0 va).2;have hkb:wQ F w_0 x.body a1.A2 a1.c2:=⟨hk1.p2,hk1.h2⟩;have hkc:wQ F w_0 x.els a1.A3 a1.c3:=⟨hk1.p3,hk1.h3⟩;have hI:=IH x hxm;obtain⟨ce,re,ve⟩:=hk1.h1;have hle:=hk1.p1.lt;have hlb:=hk1.p2.lt;have hlc:=hk1.p3.lt;have hrx:xH x=true:=List.all_eq_true.1 (by rw[← uQ];exact hr) x hxm;rw[rightSt_eq'] at hrx;simp only[Kj] at hrx;obtain⟨⟨⟨hok,hre⟩,hrb⟩,hrc⟩:=hrx;rw[wK,List.all_eq_true] at hre;obtain⟨hue,hub,huc⟩:=stU_kids (stsU_all hu0 x hxm);have hue:=qX hue;have hN1:=stN_mem hxm;have hN2:=stN_kids x;unfold pA at hok;simp only[Kj,Kn] at hok;obtain⟨⟨⟨⟨⟨hka,hkb8⟩,hlex⟩,_⟩,_⟩,_⟩:=hok;obtain⟨hst,hsum⟩:=rLs_at (all:=all) (d:=d) hx;have htx:=rT_text all d x.kind x.name x.exprs x.body x.els hka hkb8;have hes0:0<x.exprs.length:=by rw[hlex];split<;>omega
  obtain⟨y,hy⟩:∃y,x.exprs[0]? = some y:=⟨x.exprs[0],Jt hes0⟩;rw[rtxH0 hy] at htx;have hym:=Ju hy;obtain⟨Ay,cy,hfy⟩:=ve.fix hy;have hky:=(hfy F w_0 ve).1;have hcy:=(hfy F w_0 ve).2;generalize hA1:a1.A1=P1 at re
  obtain⟨q,r,rfl⟩:∃b off,P1=some ⟨b,off,none⟩:=by
   obtain⟨b,off,e,_⟩:=re (by rw[ve.len];omega);exact⟨b,off,e⟩
  refine zG<|zQ<|xA (ι:=Unit) (fun _=>[(0,.slice (some ⟨g1,o1,none⟩) a.length c),(1,.int .i64 d),(2,.bool all),(7,.string ⟨(rLs all d (a.take (i+1))).toArray⟩),(8,.int .i64 i)]) (fun _=>Hp (fun _=>False) w_0 [] [] (wN F w_0)) ?_ (fun _=>?_)
  ·refine yY<|zY<|Z6r 0 1 2 7 8 14 rfl rfl rfl rfl rfl rfl<|Zm rfl rfl<|Zm rfl rfl<|ZF rfl (zJ (es:=5) rfl rfl U58 (by kernel_rfl) rfl (by first|decide|omega|(simp;done)|(simp;omega)) rfl) ?_
   refine ZF V (yD (cs:=stC x.kind x.name (some ⟨q,r,none⟩) x.exprs.length a1.c1 a1.A2 x.body.length a1.c2 a1.A3 x.els.length a1.c3) V U60 V (by kernel_rfl) (fun w h j v hv=>by
    rw[← hA1] at hv
    exact RdF.part ((HpG.x h).get RdF.lies ra) (Jm.1 (hc1 j v hv)).1 (by omega) (hc1 j v hv))) ?_
   refine zC .none V (yK (z:=.agg #[.int .i64 0,.string ⟨#[]⟩,.slice none 0 0,.slice none 0 0,.slice none 0 0]) (cs:=Jf) (by kernel_rfl) V) (fun b9=>?_);refine ZR 0 V V V V V (by kernel_rfl) ?_;refine ZX<|Z7r 0 1 2 7 8 9 14 V V V V V V V<|Zm V V<|Zm V V<|yT .none V  (v:=.string ⟨(Lib.repeatL [32,32] d).toArray⟩) (by kernel_rfl) V (fun w hw=>pP d (by omega) w) ?_;refine ZF rfl (zF rfl rfl (by first|omega|simp<;>omega)) ?_;refine Za V V<|ZX<|Z7r 0 1 2 7 8 9 14 V V V V V V V<|ZF V (Y60x2 V) ?_;refine ZF rfl (zW 0 rfl rfl rfl U55 rfl)<|ZF rfl (zJ (j:=0) (es:=4) rfl rfl U55 (by kernel_rfl) rfl (by first|decide|omega|(simp;done)|(simp;omega)) rfl) ?_;refine ZF V (yD (cs:=xL y Ay cy) V U57 V (by kernel_rfl) (fun w h j v hv=>RdF.part ((HpG.x h).get RdF.lies re) (Jm.1 (hcy j v hv)).1 (by omega) (hcy j v hv))) ?_;refine Zm V V<|yT .none V  (v:=.string ⟨(rwi all y 0).toArray⟩) (by kernel_rfl) V (fun w hw=>rwithin_any all y 0 F Ay cy w (hre y hym) (hue y hym) (by omega) ((HpG.x hw).get xT.lies hky)) ?_;refine Za V V<|ZX<|Z8r 0 1 2 7 8 9 10 14 V V V V V V V V<|ZF V (Y60x0 V) ?_;refine ZF V (zW 0 V V V U3 V)<|ZT<|yY<|zY<|Z9r 0 1 2 7 8 9 10 14 32 V V V V V V V V V<|ZF V (yS V V)<|Za V V<|ZT<|zT V (fun hc=>?_) (fun hc=>?_)
   ·replace hc:=Jw hc;have hv:rT all d x.kind x.name x.exprs x.body x.els=[118,97,114,32]++x.name++[32,61,32]++rwi all y 0++[59,10]:=by unfold rT;rw[Kp (by omega),rtxH0 hy]
    rw[hv] at hsum;simp only[Ji,Jj,Jk] at hsum;refine Z10r 0 1 2 7 8 9 10 14 32 33 rfl rfl rfl rfl rfl rfl rfl rfl rfl rfl<|Zm rfl rfl<|ZF rfl (zF rfl rfl (by first|omega|simp<;>omega)) ?_;refine ZF V (Y60x1 V) ?_;refine ZF rfl (zW 0 rfl rfl rfl U9 rfl)<|ZF rfl (zF rfl rfl (by first|omega|simp<;>omega)) ?_;refine ZF rfl (zF rfl rfl (by first|omega|simp<;>omega)) ?_;refine Zm rfl rfl<|ZF rfl (zF rfl rfl (by first|omega|simp<;>omega)) ?_;refine ZF rfl (zF rfl rfl (by first|omega|simp<;>omega)) ?_;refine Za V V<|zU<|zM<|zM<|zA (ι:=Unit) () (.cons V<|.cons V<|.cons V<|.cons (by rw[hst,hv];simp only[Kb,Ku,List.nil_append];rfl)<|.cons V<|.nil) (fun w h=>Hp.drop h (Kf _) (Kf _))
   ·replace hc:=yP hc;have hk1':x.kind≠1:=by omega
    refine zY<|Z10r 0 1 2 7 8 9 10 14 32 33 V V V V V V V V V V<|ZF V (yS V V)<|Za V V<|ZT<|zT V (fun hc=>?_) (fun hc=>?_)
    ·replace hc:=Jw hc;have hv:rT all d x.kind x.name x.exprs x.body x.els=x.name++[32,61,32]++rwi all y 0++[59,10]:=by unfold rT;rw[Ko hk1',Kp (by omega),rtxH0 hy]
     rw[hv] at hsum;simp only[Ji,Jj,Jk] at hsum;refine Z11r 0 1 2 7 8 9 10 14 32 33 44 V V V V V V V V V V V<|Zm V V<|ZF V (Y60x1 V) ?_;refine ZF rfl (zW 0 rfl rfl rfl U9 rfl)<|ZF rfl (zF rfl rfl (by first|omega|simp<;>omega)) ?_;refine ZF rfl (zF rfl rfl (by first|omega|simp<;>omega)) ?_;refine Zm rfl rfl<|ZF rfl (zF rfl rfl (by first|omega|simp<;>omega)) ?_;refine ZF rfl (zF rfl rfl (by first|omega|simp<;>omega)) ?_;refine Za V V<|zU<|zM<|zM<|zA (ι:=Unit) () (.cons V<|.cons V<|.cons V<|.cons (by rw[hst,hv];simp only[Kb,Ku,List.nil_append];rfl)<|.cons V<|.nil) (fun w h=>Hp.drop h (Kf _) (Kf _))
    ·replace hc:=yP hc;have hk2':x.kind≠2:=by omega
     refine zY<|Z11r 0 1 2 7 8 9 10 14 32 33 44 V V V V V V V V V V V<|ZF V (yS V V)<|Za V V<|ZT<|zT V (fun hc=>?_) (fun hc=>?_)
     ·replace hc:=Jw hc;have hk:x.kind=3:=by omega
      have hel2:1<x.exprs.length:=by rw[hlex,Kp hk];omega
      obtain⟨z,hz⟩:∃z,x.exprs[1]? = some z:=⟨x.exprs[1],Jt hel2⟩;have hzm:=Ju hz;obtain⟨Az,cz,hfz⟩:=ve.fix hz;have hkz:=(hfz F w_0 ve).1;have hcz:=(hfz F w_0 ve).2;have hv:rT all d x.kind x.name x.exprs x.body x.els=[109,101,109,91]++rwi all y 0++[93,32,61,32]++rwi all z 0++[59,10]:=by unfold rT;rw[Ko hk1',Ko hk2',Kp hk,rtxH0 hy,rtxS0 hz]
      rw[hv] at hsum;simp only[Ji,Jj,Jk] at hsum;refine Z12r 0 1 2 7 8 9 10 14 32 33 44 54 rfl rfl rfl rfl rfl rfl rfl rfl rfl rfl rfl rfl<|Zm rfl rfl<|ZF rfl (zF rfl rfl (by first|omega|simp<;>omega)) ?_;refine Zm rfl rfl<|ZF rfl (zF rfl rfl (by first|omega|simp<;>omega)) ?_;refine ZF rfl (zF rfl rfl (by first|omega|simp<;>omega)) ?_;refine ZF V (Y60x2 V) ?_;refine ZF rfl (zW 0 rfl rfl rfl U55 rfl)<|ZF rfl (zJ (j:=1) (es:=4) rfl rfl U55 (by kernel_rfl) rfl (by first|decide|omega|(simp;done)|(simp;omega)) rfl) ?_;refine ZF V (yD (cs:=xL z Az cz) V U57 V (by kernel_rfl) (fun w h j v hv=>RdF.part ((HpG.x h).get RdF.lies re) (Jm.1 (hcz j v hv)).1 (by omega) (hcz j v hv))) ?_;refine Zm V V<|yT .none V  (v:=.string ⟨(rwi all z 0).toArray⟩) (by kernel_rfl) V (fun w hw=>rwithin_any all z 0 F Az cz w (hre z hzm) (hue z hzm) (by omega) ((HpG.x hw).get xT.lies hkz)) ?_;refine ZF rfl (zF rfl rfl (by first|omega|simp<;>omega)) ?_;refine ZF rfl (zF rfl rfl (by first|omega|simp<;>omega)) ?_;refine Za V V<|zU<|zM<|zM<|zA (ι:=Unit) () (.cons V<|.cons V<|.cons V<|.cons (by rw[hst,hv];simp only[Kb,Ku,List.nil_append];rfl)<|.cons V<|.nil) (fun w h=>Hp.drop h (Kf _) (Kf _))
     ·replace hc:=yP hc;have hk3':x.kind≠3:=by omega
      refine zY<|Z12r 0 1 2 7 8 9 10 14 32 33 44 54 V V V V V V V V V V V V<|ZF V (yS V V)<|Za V V<|ZT<|zT V (fun hc=>?_) (fun hc=>?_)
      ·replace hc:=Jw hc;have hv:rT all d x.kind x.name x.exprs x.body x.els=[105,102,32]++rwi all y 0++[32,123,10]++rLs all (d+1) x.body++Lib.repeatL [32,32] d++[125]++(if 0<x.els.length then [32,101,108,115,101,32,123,10]++rLs all (d+1) x.els++Lib.repeatL [32,32] d++[125] else [])++[10]:=by unfold rT;rw[Ko hk1',Ko hk2',Ko hk3',Kp (by omega),rtxH0 hy]
       rw[hv] at hsum;simp only[Ji,Jj,Jk] at hsum;refine zY<|Z13r 0 1 2 7 8 9 10 14 32 33 44 54 69 rfl rfl rfl rfl rfl rfl rfl rfl rfl rfl rfl rfl rfl<|Zm rfl rfl<|ZF rfl (zF rfl rfl (by first|omega|simp<;>omega)) ?_;refine Zm rfl rfl<|ZF rfl (zF rfl rfl (by first|omega|simp<;>omega)) ?_;refine ZF rfl (zF rfl rfl (by first|omega|simp<;>omega)) ?_;refine ZF V (Y60x3 V) ?_;refine ZF V (zW 0 V V V U58 V)<|Zm V V<|ZF V (yI V V (i64_in _ (by omega) (by omega))) ?_;refine Zm V V<|yT .none V  (v:=.string ⟨(rLs all (d+1) x.body).toArray⟩) (by kernel_rfl) V (fun w hw=>hI.1 (d+1) F a1.A2 a1.c2 w hrb hub (by omega) (by omega) ((HpG.x hw).get wQ.lies hkb)) ?_;refine ZF rfl (zF rfl rfl (by first|omega|simp<;>omega)) ?_;refine Zm V V<|yT .none V  (v:=.string ⟨(Lib.repeatL [32,32] d).toArray⟩) (by kernel_rfl) V (fun w hw=>pP d (by omega) w) ?_;refine ZF rfl (zF rfl rfl (by first|omega|simp<;>omega)) ?_;refine ZF rfl (zF rfl rfl (by first|omega|simp<;>omega)) ?_;refine Za V V<|ZX<|zY<|Z13r 0 1 2 7 8 9 10 14 32 33 44 54 69 V V V V V V V V V V V V V<|ZF V (Y60x4 V) ?_;refine ZF V (zW 0 V V V U58 V)<|ZF V (yM V U58)<|ZF V (wO V V)<|ZT<|zT V (fun hc=>?_) (fun hc=>?_)
       ·replace hc:=Jo hc;rw[Kp (show 0<x.els.length by omega)] at hv hsum;simp only[Ji,Jj,Jk] at hsum;refine Z14r 0 1 2 7 8 9 10 14 32 33 44 54 69 90 rfl rfl rfl rfl rfl rfl rfl rfl rfl rfl rfl rfl rfl rfl<|Zm rfl rfl<|ZF rfl (zF rfl rfl (by first|omega|simp<;>omega)) ?_;refine ZF V (Y60x4 V) ?_;refine ZF V (zW 0 V V V U58 V)<|Zm V V<|ZF V (yI V V (i64_in _ (by omega) (by omega))) ?_;refine Zm V V<|yT .none V  (v:=.string ⟨(rLs all (d+1) x.els).toArray⟩) (by kernel_rfl) V (fun w hw=>hI.2 (d+1) F a1.A3 a1.c3 w hrc huc (by omega) (by omega) ((HpG.x hw).get wQ.lies hkc)) ?_;refine ZF rfl (zF rfl rfl (by first|omega|simp<;>omega)) ?_;refine Zm V V<|yT .none V  (v:=.string ⟨(Lib.repeatL [32,32] d).toArray⟩) (by kernel_rfl) V (fun w hw=>pP d (by omega) w) ?_;refine ZF rfl (zF rfl rfl (by first|omega|simp<;>omega)) ?_;refine ZF rfl (zF rfl rfl (by first|omega|simp<;>omega)) ?_;refine Za rfl rfl<|ZT<|Z14r 0 1 2 7 8 9 10 14 32 33 44 54 69 90 rfl rfl rfl rfl rfl rfl rfl rfl rfl rfl rfl rfl rfl rfl<|Zm rfl rfl<|ZF rfl (zF rfl rfl (by first|omega|simp<;>omega)) ?_;refine Za V V<|zU<|zM<|zM<|zA (ι:=Unit) () (.cons V<|.cons V<|.cons V<|.cons (by rw[hst,hv];simp only[Kb,Ku,List.nil_append];rfl)<|.cons V<|.nil) (fun w h=>Hp.drop h (Kf _) (Kf _))
       ·replace hc:=Jp hc;rw[Ko (show ¬0<x.els.length by omega)] at hv hsum;simp only[Jk] at hsum;refine zG<|zQ<|Z14r 0 1 2 7 8 9 10 14 32 33 44 54 69 90 rfl rfl rfl rfl rfl rfl rfl rfl rfl rfl rfl rfl rfl rfl<|Zm rfl rfl<|ZF rfl (zF rfl rfl (by first|omega|simp<;>omega)) ?_;refine Za V V<|zU<|zM<|zM<|zA (ι:=Unit) () (.cons V<|.cons V<|.cons V<|.cons (by rw[hst,hv];simp only[Kb,Ku,List.nil_append];rfl)<|.cons V<|.nil) (fun w h=>Hp.drop h (Kf _) (Kf _))
      ·replace hc:=yP hc;have hk4':x.kind≠4:=by omega
       refine zY<|Z13r 0 1 2 7 8 9 10 14 32 33 44 54 69 V V V V V V V V V V V V V<|ZF V (yS V V)<|Za V V<|ZT<|zT V (fun hc=>?_) (fun hc=>?_)
       ·replace hc:=Jw hc;have hv:rT all d x.kind x.name x.exprs x.body x.els=[119,104,105,108,101,32]++rwi all y 0++[32,123,10]++rLs all (d+1) x.body++Lib.repeatL [32,32] d++[125,10]:=by unfold rT;rw[Ko hk1',Ko hk2',Ko hk3',Ko hk4',Kp (by omega),rtxH0 hy]
        rw[hv] at hsum;simp only[Ji,Jj,Jk] at hsum;refine Z14r 0 1 2 7 8 9 10 14 32 33 44 54 69 106 rfl rfl rfl rfl rfl rfl rfl rfl rfl rfl rfl rfl rfl rfl<|Zm rfl rfl<|ZF rfl (zF rfl rfl (by first|omega|simp<;>omega)) ?_;refine Zm rfl rfl<|ZF rfl (zF rfl rfl (by first|omega|simp<;>omega)) ?_;refine ZF rfl (zF rfl rfl (by first|omega|simp<;>omega)) ?_;refine ZF V (Y60x3 V) ?_;refine ZF V (zW 0 V V V U58 V)<|Zm V V<|ZF V (yI V V (i64_in _ (by omega) (by omega))) ?_;refine Zm V V<|yT .none V  (v:=.string ⟨(rLs all (d+1) x.body).toArray⟩) (by kernel_rfl) V (fun w hw=>hI.1 (d+1) F a1.A2 a1.c2 w hrb hub (by omega) (by omega) ((HpG.x hw).get wQ.lies hkb)) ?_;refine ZF rfl (zF rfl rfl (by first|omega|simp<;>omega)) ?_;refine Zm V V<|yT .none V  (v:=.string ⟨(Lib.repeatL [32,32] d).toArray⟩) (by kernel_rfl) V (fun w hw=>pP d (by omega) w) ?_;refine ZF rfl (zF rfl rfl (by first|omega|simp<;>omega)) ?_;refine ZF rfl (zF rfl rfl (by first|omega|simp<;>omega)) ?_;refine Za V V<|zU<|zM<|zM<|zA (ι:=Unit) () (.cons V<|.cons V<|.cons V<|.cons (by rw[hst,hv];simp only[Kb,Ku,List.nil_append];rfl)<|.cons V<|.nil) (fun w h=>Hp.drop h (Kf _) (Kf _))
       ·replace hc:=yP hc;have hk5':x.kind≠5:=by omega
        refine zY<|Z14r 0 1 2 7 8 9 10 14 32 33 44 54 69 106 V V V V V V V V V V V V V V<|ZF V (yS V V)<|Za V V<|ZT<|zT V (fun hc=>?_) (fun hc=>?_)
        ·replace hc:=Jw hc;have hv:rT all d x.kind x.name x.exprs x.body x.els=[114,101,116,117,114,110,32]++rwi all y 0++[59,10]:=by unfold rT;rw[Ko hk1',Ko hk2',Ko hk3',Ko hk4',Ko hk5',Kp (by omega),rtxH0 hy]
         rw[hv] at hsum;simp only[Ji,Jj,Jk] at hsum;refine Z15r 0 1 2 7 8 9 10 14 32 33 44 54 69 106 124 rfl rfl rfl rfl rfl rfl rfl rfl rfl rfl rfl rfl rfl rfl rfl<|Zm rfl rfl<|ZF rfl (zF rfl rfl (by first|omega|simp<;>omega)) ?_;refine Zm rfl rfl<|ZF rfl (zF rfl rfl (by first|omega|simp<;>omega)) ?_;refine ZF rfl (zF rfl rfl (by first|omega|simp<;>omega)) ?_;refine Za V V<|zU<|zM<|zM<|zA (ι:=Unit) () (.cons V<|.cons V<|.cons V<|.cons (by rw[hst,hv];simp only[Kb,Ku,List.nil_append];rfl)<|.cons V<|.nil) (fun w h=>Hp.drop h (Kf _) (Kf _))
        ·replace hc:=yP hc;have hk6':x.kind≠6:=by omega
         refine zY<|Z15r 0 1 2 7 8 9 10 14 32 33 44 54 69 106 124 V V V V V V V V V V V V V V V<|ZF V (yS V V)<|Za V V<|ZT<|zT V (fun hc=>?_) (fun hc=>?_)
         ·replace hc:=Jw hc;have hv:rT all d x.kind x.name x.exprs x.body x.els=[111,117,116,32]++rwi all y 0++[59,10]:=by unfold rT;rw[Ko hk1',Ko hk2',Ko hk3',Ko hk4',Ko hk5',Ko hk6',Kp (by omega),rtxH0 hy]
          rw[hv] at hsum;simp only[Ji,Jj,Jk] at hsum;refine Z16r 0 1 2 7 8 9 10 14 32 33 44 54 69 106 124 131 rfl rfl rfl rfl rfl rfl rfl rfl rfl rfl rfl rfl rfl rfl rfl rfl<|Zm rfl rfl<|ZF rfl (zF rfl rfl (by first|omega|simp<;>omega)) ?_;refine Zm rfl rfl<|ZF rfl (zF rfl rfl (by first|omega|simp<;>omega)) ?_;refine ZF rfl (zF rfl rfl (by first|omega|simp<;>omega)) ?_;refine Za V V<|zU<|zM<|zM<|zA (ι:=Unit) () (.cons V<|.cons V<|.cons V<|.cons (by rw[hst,hv];simp only[Kb,Ku,List.nil_append];rfl)<|.cons V<|.nil) (fun w h=>Hp.drop h (Kf _) (Kf _))
         ·replace hc:=yP hc;have hk7':x.kind≠7:=by omega
          refine zY<|Z16r 0 1 2 7 8 9 10 14 32 33 44 54 69 106 124 131 V V V V V V V V V V V V V V V V<|ZF V (yS V V)<|Za V V<|ZT<|zT V (fun hc=>?_) (fun hc=>?_)
          ·replace hc:=Jw hc;have hv:rT all d x.kind x.name x.exprs x.body x.els=rwi all y 0++[59,10]:=by unfold rT;rw[Ko hk1',Ko hk2',Ko hk3',Ko hk4',Ko hk5',Ko hk6',Ko hk7',Kp (by omega),rtxH0 hy]
           rw[hv] at hsum;simp only[Ji,Jj,Jk] at hsum;refine Z17r 0 1 2 7 8 9 10 14 32 33 44 54 69 106 124 131 138 rfl rfl rfl rfl rfl rfl rfl rfl rfl rfl rfl rfl rfl rfl rfl rfl rfl<|Zm rfl rfl<|Zm rfl rfl<|ZF rfl (zF rfl rfl (by first|omega|simp<;>omega)) ?_;refine ZF rfl (zF rfl rfl (by first|omega|simp<;>omega)) ?_;refine Za V V<|zU<|zM<|zM<|zA (ι:=Unit) () (.cons V<|.cons V<|.cons V<|.cons (by rw[hst,hv];simp only[Kb,Ku,List.nil_append];rfl)<|.cons V<|.nil) (fun w h=>Hp.drop h (Kf _) (Kf _))
          ·replace hc:=yP hc;omega
  ·refine zX<|Zm V V<|ZF V (yI V V (i64_in _ (by omega) (by omega))) ?_;refine Za V V<|zU<|yC (ι:={i:Nat // i≤a.length}) ⟨i+1,hil⟩ (by show a.length-(i+1)<a.length-i;omega) (O5 V V V V V) (fun w h=>h)
 ·replace hc:=Jp hc;have hie:i=a.length:=by omega
  refine xY<|zN<|zN<|xZ<|zQ<|zY<|Z6r 0 1 2 7 8 14 V V V V V V<|Zm V V<|Za V V<|ZT<|zK<|zI V V (fun w hw=>?_);exact⟨by rw[hie,Kh],(Jq hw).ext⟩
theorem rlines_all (all:Bool):∀(N:Nat) (x:St),SizeOf.sizeOf x<N→RLN all x.body∧RLN all x.els
 | 0,_,h=>absurd h (by omega)
 | N+1,.mk k s es b c,h=>⟨rlines_step all b fun x hx=>rlines_all all N x (by have:=vF (k:=k) (s:=s) (es:=es) (c:=c) (.inl hx);omega),rlines_step all c fun x hx=>rlines_all all N x (by have:=vF (k:=k) (s:=s) (es:=es) (b:=b) (.inr hx);omega)⟩
theorem rlines_any (all:Bool) (a:List St):RLN all a:=rlines_step all a fun x _=>rlines_all all _ x (Nat.lt_succ_self _)
end Go.Proofs.YtfpkpnkdnammnaaGreatDoor
namespace Go.Proofs.YtfpkpnkdnammnaaGreatDoor
open Go.RowKit
theorem rFn_eq (all:Bool) (f:Fn):rFn all f=[102,110,32]++f.name++[40]++Lib.join f.params [44,32]++[41,32,123,10]++rLs all 1 f.body++[125,10]:=rfl
theorem rsource_any (all:Bool) (a:List Fn) (F:Nat→Prop) (A:Option Addr) (c:Nat) (w_0:World) (hr:wD a=true) (hU:∀f∈a,stsU f.body=true) (hN:∀f∈a,stNs f.body≤100000000000) (hl:(rSrc all a).length≤1000000000000) (ha:PgK F w_0 a A c):Calls Tryz.prog 30 #[.agg [Value.slice A a.length c].toArray,.bool all] w_0 fun e w'=>e=.returned (.string ⟨(rSrc all a).toArray⟩)∧Ext w_0 w':=by
 obtain⟨pa,ca,ra,va⟩:=ha;have hla:=pa.lt
 have hA:0<a.length→∃b off,A=some ⟨b,off,none⟩:=fun h0=>by
  obtain⟨b,off,e,_⟩:=ra (by rw[va.len];omega);exact⟨b,off,e⟩
 refine yV (args:=[Value.agg [Value.slice A a.length c].toArray,.bool all]) Tryz.func30 V 54 V (Jn V)<|Z2 0 1 V V<|zD (H':=Hp (fun _=>False) w_0 [] [] (wN F w_0)) (fun u hu=>?_) ?_
 ·subst hu;exact Hp.startSame
 refine zY<|zX<|zC .none V (vY V V) (fun b2=>?_);refine Za V V<|ZX<|zX<|Za V V<|ZX<|zY<|zX<|Za V V<|ZT<|yY<|xV (ι:={i:Nat // i≤a.length}) (fun i=>[(1,.bool all),(2,.pointer (some ⟨b2,0,none⟩)),(5,.string ⟨(rSrc all (a.take i.1)).toArray⟩),(6,.int .i64 i.1)]) (fun _=>Hp (fun _=>False) w_0 [(b2,bk 32 [.slice A a.length c])] [] (wN F w_0)) (fun i=>a.length-i.1) ⟨0,Kl _⟩ ?_ ?_ (fun i=>?_)
 ·exact .cons V<|.cons V<|.cons V<|.cons V<|.nil
 ·exact fun w h=>h
 obtain⟨i,hi⟩:=i;dsimp only;refine zY<|zY<|zX<|Zm V V<|ZF V (Y32x0 V) ?_;refine ZF V (zW 0 V V V U30 V)<|ZF V (yM V U30)<|ZF V (xS V V)<|ZT<|zT V (fun hc=>?_) (fun hc=>?_)
 ·replace hc:=Jo hc;have hil:i<a.length:=by omega
  obtain⟨g1,o1,rfl⟩:=hA (by omega);obtain⟨x,hx⟩:∃x,a[i]? = some x:=⟨a[i],Jt hil⟩;have hxm:=Ju hx;obtain⟨a1,hfix1⟩:=va.fix hx;have hk1:=(hfix1 F w_0 va).1;have hc1:=(hfix1 F w_0 va).2;have hkb:wQ F w_0 x.body a1.A2 a1.c2:=⟨hk1.p2,hk1.h2⟩;have hp1:=hk1.h1;have hpl1:=hk1.p1.lt
  have hP1:0<x.params.length→∃b off,a1.A1=some ⟨b,off,none⟩:=fun h0=>by
   obtain⟨b,off,e,_⟩:=hp1 (by rw[strs_len];omega);exact⟨b,off,e⟩
  generalize hA1:a1.A1=P1 at hp1 hP1;obtain⟨hft,hfl⟩:=flat_take (rFn all) hx;have hlf:((a.map (rFn all)).flatten).length≤1000000000000:=hl;have hrx:vO x=true:=List.all_eq_true.1 hr x hxm;unfold vO at hrx;simp only[Kj] at hrx;have hNx:=hN x hxm;rw[rFn_eq] at hft hfl
  change rSrc all (a.take (i+1))=rSrc all (a.take i)++_ at hft
  change (rSrc all (a.take i)).length+_≤_ at hfl
  simp only[Ji,Jj,Jk] at hfl;refine zG<|zQ<|zY<|yY<|zY<|Z5r 1 2 5 6 13 V V V V V<|ZF V (Y32x0 V) ?_;refine ZF rfl (zW 0 rfl rfl rfl U30 rfl)<|Zm rfl rfl<|ZF rfl (zJ (es:=3) rfl rfl U30 (by kernel_rfl) rfl (by first|decide|omega|(simp;done)|(simp;omega)) rfl) ?_
  refine ZF V (yD (cs:=fnC x.name P1 x.params.length a1.c1 a1.A2 x.body.length a1.c2) V U62 V (by kernel_rfl) (fun w h j v hv=>by
   rw[← hA1] at hv
   exact RdF.part ((HpG.x h).get RdF.lies ra) (Jm.1 (hc1 j v hv)).1 (by omega) (hc1 j v hv))) ?_
  refine zC .none V (yK (z:=.agg #[.string ⟨#[]⟩,.slice none 0 0,.slice none 0 0]) (cs:=Jg) (by kernel_rfl) V) (fun b7=>?_);refine ZR 0 V V V V V (by kernel_rfl) ?_;refine ZX<|Z6r 1 2 5 6 7 13 rfl rfl rfl rfl rfl rfl<|Zm rfl rfl<|ZF rfl (zF rfl rfl (by first|omega|simp<;>omega)) ?_;refine ZF V (Y62x0 V) ?_;refine ZF rfl (zW 0 rfl rfl rfl U9 rfl)<|ZF rfl (zF rfl rfl (by first|omega|simp<;>omega)) ?_;refine ZF rfl (zF rfl rfl (by first|omega|simp<;>omega)) ?_;refine Za V V<|ZX<|zY<|Z6r 1 2 5 6 7 13 V V V V V V<|Za V V<|ZT<|yY<|xV (ι:={k:Nat // k≤x.params.length}) (fun k=>[(1,.bool all),(2,.pointer (some ⟨b2,0,none⟩)),(5,.string ⟨(rSrc all (a.take i)++[102,110,32]++x.name++[40]++Lib.join (x.params.take k.1) [44,32]).toArray⟩),(6,.int .i64 i),(7,.pointer (some ⟨b7,0,none⟩)),(8,.int .i64 k.1)]) (fun _=>Hp (fun _=>False) w_0 [(b7,bk 62 (fnC x.name P1 x.params.length a1.c1 a1.A2 x.body.length a1.c2)),(b2,bk 32 [.slice (some ⟨g1,o1,none⟩) a.length c])] [] (wN F w_0)) (fun k=>x.params.length-k.1) ⟨0,Kl _⟩ ?_ ?_ (fun k=>?_)
  ·exact .cons V<|.cons V<|.cons (by rw[List.take_zero,Lib.join_nil,Ku];rfl)<|.cons V<|.cons V<|.cons V<|.nil
  ·exact fun w h=>h
  obtain⟨k,hk⟩:=k;dsimp only;refine zY<|zY<|zX<|Zm V V<|ZF V (Y62x1 V) ?_;refine ZF V (zW 0 V V V U22 V)<|ZF V (yM V U22)<|ZF V (xS V V)<|ZT<|zT V (fun hc=>?_) (fun hc=>?_)
  ·replace hc:=Jo hc;have hkl:k<x.params.length:=by omega
   obtain⟨q1,r1,rfl⟩:=hP1 (by omega);obtain⟨s,hs⟩:∃s,x.params[k]? = some s:=⟨x.params[k],Jt hkl⟩;have hst:=jq_step hs;have hjl:=jq_le (l:=x.params) hkl;rw[hst,Ji] at hjl;refine zG<|zQ<|zY<|yY<|xA (ι:=Unit) (fun _=>[(1,.bool all),(2,.pointer (some ⟨b2,0,none⟩)),(5,.string ⟨(rSrc all (a.take i)++[102,110,32]++x.name++[40]++jq x.params k).toArray⟩),(6,.int .i64 i),(7,.pointer (some ⟨b7,0,none⟩)),(8,.int .i64 k)]) (fun _=>Hp (fun _=>False) w_0 [(b7,bk 62 (fnC x.name (some ⟨q1,r1,none⟩) x.params.length a1.c1 a1.A2 x.body.length a1.c2)),(b2,bk 32 [.slice (some ⟨g1,o1,none⟩) a.length c])] [] (wN F w_0)) ?_ (fun _=>?_)
   ·refine zY<|Z7r 1 2 5 6 7 8 31 V V V V V V V<|Zm V V<|ZF V (wO V V)<|ZT<|zT V (fun hc=>?_) (fun hc=>?_)
    ·replace hc:=Jo hc;refine Z8r 1 2 5 6 7 8 31 35 V V V V V V V V<|Zm V V<|ZF V (zF V V (by (rw[jq_pos (show 0<k by omega),Ji] at hjl;simp only[Ji,Jj,Jk] at hjl ⊢;omega))) ?_;refine Za rfl rfl<|zU<|zA (ι:=Unit) () (.cons rfl<|.cons rfl<|.cons (by first|(rw[jq_pos (show 0<k by omega),← Kb];rfl)|(rw[jq_0 (show ¬0<k by omega)];rfl))<|.cons rfl<|.cons rfl<|.cons rfl<|.nil) (fun w h=>h)
    ·replace hc:=Jp hc;refine zG<|zA (ι:=Unit) () (.cons rfl<|.cons rfl<|.cons (by first|(rw[jq_pos (show 0<k by omega),← Kb];rfl)|(rw[jq_0 (show ¬0<k by omega)];rfl))<|.cons rfl<|.cons rfl<|.cons rfl<|.nil) (fun w h=>h)
   ·refine zX<|Zm V V<|ZF V (Y62x1 V) ?_;refine ZF rfl (zW 0 rfl rfl rfl U22 rfl)<|Zm rfl rfl<|ZF rfl (zJ (es:=1) rfl rfl U22 (by kernel_rfl) rfl (by first|decide|omega|(simp;done)|(simp;omega)) rfl) ?_;refine ZF V (yO (v:=.string ⟨s.toArray⟩) V U9 V (fun w h=>RdF.part ((HpG.x h).get RdF.lies hp1) (by rw[strs_len];exact hkl) (by omega) (rU hs))) ?_;refine ZF rfl (zF rfl rfl (by first|omega|simp<;>omega)) ?_;refine Za V V<|zU<|zM<|zQ<|Z6r 1 2 5 6 7 8 V V V V V V<|Zm V V<|ZF V (yI V V (i64_in _ (by omega) (by omega))) ?_;refine Za V V<|zU<|yC (ι:={k:Nat // k≤x.params.length}) ⟨k+1,hkl⟩ (by show x.params.length-(k+1)<x.params.length-k;omega) (.cons V<|.cons V<|.cons (by rw[hst,← Kb];rfl)<|.cons V<|.cons V<|.cons V<|.nil) (fun w h=>h)
  ·replace hc:=Jp hc;have hke:k=x.params.length:=by omega
   rw[hke,Kh];refine xY<|zN<|zN<|xZ<|zQ<|Z7r 1 2 5 6 7 8 31 rfl rfl rfl rfl rfl rfl rfl<|Zm rfl rfl<|ZF rfl (zF rfl rfl (by first|omega|simp<;>omega)) ?_;refine ZF V (Y62x2 V) ?_;refine ZF V (zW 0 V V V U58 V)<|Zm V V<|yT .none V  (v:=.string ⟨(rLs all 1 x.body).toArray⟩) (by kernel_rfl) V (fun w hw=>rlines_any all x.body 1 F a1.A2 a1.c2 w hrx.2 (hU x hxm) (by omega) (by omega) ((HpG.x hw).get wQ.lies hkb)) ?_;refine ZF rfl (zF rfl rfl (by first|omega|simp<;>omega)) ?_;refine ZF rfl (zF rfl rfl (by first|omega|simp<;>omega)) ?_;refine Za V V<|zU<|zM<|zQ<|Z7r 1 2 5 6 7 8 31 V V V V V V V<|Zm V V<|ZF V (yI V V (i64_in _ (by omega) (by omega))) ?_;refine Za V V<|zU<|yC (ι:={i:Nat // i≤a.length}) ⟨i+1,hil⟩ (by show a.length-(i+1)<a.length-i;omega) (.cons V<|.cons V<|.cons (by rw[hft];simp only[Kb];rfl)<|.cons V<|.nil) (fun w h=>Hp.drop h (Js _ _) (Jr _))
 ·replace hc:=Jp hc;have hie:i=a.length:=by omega
  refine xY<|zN<|zN<|xZ<|zQ<|zY<|Z5r 1 2 5 6 13 V V V V V<|Zm V V<|Za V V<|ZT<|zK<|zI V V (fun w hw=>?_);exact⟨by rw[hie,Kh],(Jq hw).ext⟩
theorem rprint_any (a:List Fn) (F:Nat→Prop) (A:Option Addr) (c:Nat) (w_0:World) (hU:∀f∈a,stsU f.body=true) (hN:∀f∈a,stNs f.body≤100000000000) (hl:(xE a).length≤1000000000000) (ha:PgK F w_0 a A c):Calls Tryz.prog 18 #[.agg [Value.slice A a.length c].toArray] w_0 fun e w'=>e=.returned (.string ⟨(xE a).toArray⟩)∧Ext w_0 w':=by
 refine yV (args:=[Value.agg [Value.slice A a.length c].toArray]) Tryz.func18 V 10 V (Jn V)<|Z1 0 V<|zD (H':=Hp (fun _=>False) w_0 [] [] (wN F w_0)) (fun u hu=>?_) ?_
 ·subst hu;exact Hp.startSame
 refine zY<|zX<|zC .none V (vY V V) (fun b1=>?_);refine Za V V<|ZX<|zX<|ZF V (yX 0 V V U32 V (by kernel_rfl)) ?_;refine yT .none V  (v:=.bool (wD a)) (by kernel_rfl) V (fun w hw=>rright_any a F A c w ((HpG.x hw).get PgK.lies ha)) ?_;refine Za V V<|ZX<|zY<|Z4r 0 1 2 3 V V V V<|Zm V V<|ZF V (xJ V)<|ZT<|zT V (fun h7=>?_) (fun h7=>?_)
 ·refine zY<|Z5r 0 1 2 3 7 V V V V V<|Za V V<|ZT<|zK<|zV<|zI V V (fun w hw=>?_);exact⟨by rw[show xE a=[] from Ko (by simpa using h7)],(Jq hw).ext⟩
 ·refine zG<|zQ<|zY<|Z5r 0 1 2 3 7 V V V V V<|ZF V (yX 0 V V U32 V (by kernel_rfl)) ?_;refine yT .none V  (v:=.string ⟨(xE a).toArray⟩) (by kernel_rfl) V (fun w hw=>?_) ?_
  ·have hra:wD a=true:=by first|assumption|simp_all
   have:=rsource_any false a F A c w hra hU hN (by rw[rSrc_eq hra];exact hl) ((HpG.x hw).get PgK.lies ha);rw[rSrc_eq hra] at this;exact this
  refine Za V V<|ZT<|zK<|zI V V (fun w hw=>?_);exact⟨rfl,(Jq hw).ext⟩
end Go.Proofs.YtfpkpnkdnammnaaGreatDoor
