import Derived.Test.YtfpkpnkdnammnaaGreatDoorMgl
import Derived.Test.YtfpkpnkdnammnaaGreatDoorMgc
import Derived.Test.YtfpkpnkdnammnaaGreatDoorMgd
namespace Go.Proofs.YtfpkpnkdnammnaaGreatDoor
open Go.RowKit
set_option maxHeartbeats 4000000 in
set_option maxRecDepth 100000 in
theorem changed_law (l:List Int) (lA:Option Addr) (lc:Nat) (hl:l.length≤9223372036854775807) (a:Int) (x:Bs) (hxl:x.length≤9223372036854775807) {F:Nat→Prop}(w_0:World) (hv:qW w_0) (hT:TbN w_0) (hL:RdF F lA (rA l) w_0) :
  Calls Tryz.prog 4 #[.slice lA l.length lc,.int .i64 a,.string ⟨x.toArray⟩] w_0 fun e w'=>e=.returned (.bool true)∧Ext w_0 w':=by
 have hml:∀f∈rY l,Sml f:=fun f hf=>(made_sml l f hf).1;have hm4:(rY l).length≤4:=(madeL_len l).2;have hpl:=print_zz hml hm4;obtain⟨T,htT⟩:∃T,sA (vJ (rY l))=T:=⟨_,rfl⟩
 have hsN:spN (T.map (·.text))≤6500000000:=by
  have:=rtok_spN _ 0 (vJ (rY l)) rfl;rw[← htT];exact Kx this (by omega)
 have hTn:0<T.length∧T.length≤1600000001:=by
  obtain⟨m,h1,h2,_⟩:=rtokL_pos (vJ (rY l));rw[htT] at h1;omega
 obtain⟨k,hk,hkl⟩:∃k:Nat,a%(T.length:Int)=k∧k<T.length:=by
  have h1:=Int.emod_nonneg a (show (T.length:Int)≠0 by omega);have h2:=Int.emod_lt_of_pos a (show (0:Int)<T.length by omega);exact⟨(a%(T.length:Int)).toNat,by omega,by omega⟩
 have hx14:(x.take 14).length≤14:=by rw[Kj];omega
 have hsp:∀(ts:List Tok),spN (ts.map (·.text))≤6500000000→∃sa,spF 0 (ts.map (·.text)) 0=sa∧sa.length≤6500000000:=fun ts h=>⟨_,rfl,Kx (spF_len _ _ _) h⟩;obtain⟨sa,hsa,hla⟩:=hsp (T.take k) (Kx (spN_take _ _) hsN);obtain⟨sb,hsb,hlb⟩:=hsp (T.drop k) (Kx (spN_drop _ _) hsN);obtain⟨sc,hsc,hlc⟩:=hsp (T.drop (k+1)) (Kx (spN_drop _ _) hsN)
 have hcall:∀(ts:List Tok) (A:Option Addr) (n c:Nat) (s:Bs) (w:World),ts.length=n→spN (ts.map (·.text))≤6500000000→spF 0 (ts.map (·.text)) 0=s→RdF (fun _=>True) A (xA ts) w→Calls Tryz.prog 21 #[.slice A n c,.int .i64 0] w fun e w'=>e=.returned (.string ⟨s.toArray⟩)∧Ext w w':=fun ts A n c s w h1 h2 h3 h4=>by
  subst h1 h3;exact spaced_any ts 0 (by decide) (by decide) A c (by omega) w h4
 refine yW (args:=[.slice lA l.length lc,.int .i64 a,.string ⟨x.toArray⟩]) Tryz.func4 V 77 V (Jo V)<|Z3 0 1 2 V V V<|zC (H':=Hp (fun _=>False) w_0 [] [] (fun _=>True)) (fun u hu=>?_) ?_
 ·subst hu;exact Hp.start0
 refine zY<|zX<|Za V V<|ZX<|zX<|yS .none V  (v:=.bool true) (by kernel_rfl) V (fun w hw=>sanity_any w (hv.ext (Jr hw).ext) (hT.ext (Jr hw).ext)) ?_;refine Za V V<|ZX<|Z5r 0 1 2 6 7 V V V V V<|Zm V V<|wl_callZ .none V  (by kernel_rfl) V (fun w hw=>made_z hl hL (Jr hw).ext) (fun ⟨Ap,cp⟩ v1 hp1 hw1=>?_);refine yS .none V  (v:=.string ⟨(vJ (rY l)).toArray⟩) (by kernel_rfl) V (fun w hw=>rprint_sml hml hm4 _ Ap cp w ((HpG.x hw).get PgK.lies hp1)) ?_;refine wl_callZ .none V  (by kernel_rfl) V (fun w hw=>(rtokens_any (vJ (rY l)) (by omega) w).mono (fun e w' (h:∃g cap,_)=>show ∃i:Nat×Nat,e=.returned (.slice (some ⟨i.1,0,none⟩) T.length i.2)∧Ext w w'∧(T.length≤i.2∧RdF (fun _=>True) (some ⟨i.1,0,none⟩) (xA T) w') from let ⟨g,cap,e1,e2,e3,e4⟩:=h;⟨(g,cap),by rw[← htT];exact e1,e3,by rw[← htT];exact e2,by rw[← htT];exact RdF.lies.mono (fun _ _=>trivial) e4⟩)) (fun ⟨g,cap⟩ v2 ⟨hcap,ht2⟩ hw2=>?_);have hdrop:∀j,RdF (fun _=>True) (some ⟨g,0+5*j,none⟩) (xA (T.drop j)) v2:=fun j=>by rw[rtoksC_drop];exact RdF.dropY ht2 _
 have htake:∀j,RdF (fun _=>True) (some ⟨g,0,none⟩) (xA (T.take j)) v2:=fun j=>by rw[rtoksC_take];exact RdF.takeY ht2 _
 refine Za V V<|ZX<|Z6r 0 1 2 6 7 8 V V V V V V<|Zm V V<|Zm V V<|ZF V (yL V U27) ?_
 refine yS .none V  (v:=.int .i64 k) (by kernel_rfl) V (fun w hw=>by
  have h9:=rmod_any a T.length (by omega) (by omega) w;rw[hk] at h9
  exact h9) ?_
 refine Za V V<|ZX<|Z7r 0 1 2 6 7 8 9 V V V V V V V<|Zm V V<|Zm V V<|ZF V (yf_sliceHi (size:=5) V V U27 (by kernel_rfl) V (by (show k≤cap;omega))) ?_;refine yS .none V  (v:=.string ⟨sa.toArray⟩) (by kernel_rfl) V (fun w hw=>hcall (T.take k) _ _ _ _ w (by rw[Kj];omega) (Kx (spN_take _ _) hsN) hsa ((HpG.x hw).get RdF.lies (htake k))) ?_;refine Za V V<|ZX<|Z8r 0 1 2 6 7 8 9 10 V V V V V V V V<|Zm V V<|Zm V V<|ZF V (yf_tokLo V V Tryz.underlying27 (by kernel_rfl) (by omega) (by omega)) ?_;refine yS .none V  (v:=.string ⟨sb.toArray⟩) (by kernel_rfl) V (fun w hw=>hcall (T.drop k) _ _ _ _ w Ke (Kx (spN_drop _ _) hsN) hsb ((HpG.x hw).get RdF.lies (hdrop k))) ?_;refine Za V V<|ZX<|Z9r 0 1 2 6 7 8 9 10 11 V V V V V V V V V<|Za V V<|ZT<|xH (ι:={c:Bs // c.length≤6500000000}) (fun c=>[(2,.string ⟨x.toArray⟩),(7,.bool true),(10,.string ⟨sa.toArray⟩),(11,.string ⟨sb.toArray⟩),(12,.string ⟨c.1.toArray⟩)]) (fun _=>Hp (fun _=>False) w_0 [] [] (xD (fun _=>True) v2)) ?_ (fun c=>?_)
 ·refine zY<|zX<|Zm V V<|ZF V (yJ V V (i64_in _ (by omega) (by omega))) ?_;refine Zm V V<|ZF V (yL V U27)<|ZF V (xR V V)<|ZT<|zQ V (fun h38=>?_) (fun h38=>?_)
  ·replace h38:=Jp h38;refine Z11r 0 1 2 6 7 8 9 10 11 12 38 V V V V V V V V V V V<|Zm V V<|Zm V V<|ZF V (yJ V V (show IntKind.i64.wrap ((k:Int)+1)=((k+1:Nat):Int) from by rw[i64_in _ (by omega) (by omega)];simp)) ?_;refine ZF V (yf_tokLo V V Tryz.underlying27 (by kernel_rfl) (by omega) (by omega)) ?_;refine yS .none V  (v:=.string ⟨sc.toArray⟩) (by kernel_rfl) V (fun w hw=>hcall (T.drop (k+1)) _ _ _ _ w Ke (Kx (spN_drop _ _) hsN) hsc ((HpG.x hw).get RdF.lies (hdrop (k+1)))) ?_;refine Za V V<|zU<|zF (ι:={c:Bs // c.length≤6500000000}) ⟨sc,hlc⟩ (O5 V V V V V) (fun w h=>h)
  ·replace h38:=Jq h38;refine zH<|zF (ι:={c:Bs // c.length≤6500000000}) ⟨[],by simp⟩ (O5 V V V V V) (fun w h=>h)
 ·obtain⟨cc,hcc⟩:=c;dsimp only;refine zY<|zX<|Zm V V<|Zm V V<|ZF V (vV V U9)<|ZF V (yf_min V V)<|ZF V (rI V V U9 (by split<;>omega) (by split<;>omega) (min_take x 14)) ?_;refine Za rfl rfl<|ZX<|Z6r 2 7 10 11 12 13 rfl rfl rfl rfl rfl rfl<|Zm rfl rfl<|Zm rfl rfl<|ZF rfl (zD rfl rfl (by first|omega|simp<;>omega)) ?_;refine ZF rfl (zD rfl rfl (by first|omega|simp<;>omega)) ?_;refine Zm rfl rfl<|ZF rfl (zD rfl rfl (by first|omega|simp<;>omega)) ?_;refine yS .none V  (v:=.bool true) (by kernel_rfl) V (fun w hw=>agrees_any _ (by simp only[Jj,Jk,Jl];omega) w (hv.ext (Jr hw).ext)) ?_;refine Za rfl rfl<|ZX<|Z7r 2 7 10 11 12 13 14 rfl rfl rfl rfl rfl rfl rfl<|Zm rfl rfl<|Zm rfl rfl<|ZF rfl (zD rfl rfl (by first|omega|simp<;>omega)) ?_;refine ZF rfl (zD rfl rfl (by first|omega|simp<;>omega)) ?_;refine Zm rfl rfl<|ZF rfl (zD rfl rfl (by first|omega|simp<;>omega)) ?_;refine yS .none V  (v:=.bool true) (by kernel_rfl) V (fun w hw=>agrees_any _ (by simp only[Jj,Jk,Jl];omega) w (hv.ext (Jr hw).ext)) ?_;refine Za rfl rfl<|ZX<|Z8r 2 7 10 11 12 13 14 15 rfl rfl rfl rfl rfl rfl rfl rfl<|Zm rfl rfl<|Zm rfl rfl<|ZF rfl (zD rfl rfl (by first|omega|simp<;>omega)) ?_;refine yS .none V  (v:=.bool true) (by kernel_rfl) V (fun w hw=>agrees_any _ (by simp only[Jj,Jk,Jl];omega) w (hv.ext (Jr hw).ext)) ?_;refine Za V V<|ZX<|Z9r 2 7 10 11 12 13 14 15 16 V V V V V V V V V<|Zm V V<|Zm V V<|zG 68 V (fun g2=>?_) (fun g2=>?_)
  ·refine ZG V V V (zR V)<|ZF V (zP V V)<|Zm V V<|zG 71 V (fun g5=>?_) (fun g5=>?_)
   ·refine ZG V V V (zR V)<|ZF V (zP V V)<|Zm V V<|zG 74 V (fun g8=>?_) (fun g8=>?_)
    ·refine ZG V V V (zR V)<|ZF V (zP V V)<|Za V V<|ZT<|zK<|zI V V (fun w hw=>?_);exact⟨rfl,(Jr hw).ext⟩
    ·cases g8
   ·cases g5
  ·cases g2
end Go.Proofs.YtfpkpnkdnammnaaGreatDoor
