import Derived.Test.YtkaepknpplhgkaaGreatDoorMap
import Derived.Test.YtkaepknpplhgkaaGreatDoorMas
import Derived.Test.YtkaepknpplhgkaaGreatDoorMai
import Derived.Test.YtkaepknpplhgkaaGreatDoorMaj
set_option maxRecDepth 100000
set_option maxHeartbeats 4000000
namespace Go.Proofs.YtkaepknpplhgkaaGreatDoor
open Go.RowKit
theorem quo16 (n:Nat) (h:n<256):IntKind.i64.wrap ((n:Int).tdiv 16)=((n/16:Nat):Int):=by
 rw[Int.tdiv_eq_ediv_of_nonneg (Int.natCast_nonneg _)];exact i64_in ((n/16:Nat):Int) (by omega) (by omega)
theorem rem16 (n:Nat):(n:Int).tmod 16=((n%16:Nat):Int):=by rw[Int.tmod_eq_emod_of_nonneg (Int.natCast_nonneg _)];omega
theorem rread_1 (c:UInt8) (hf:fmN ((c.toNat:Nat):Int)=1) (w_0:World):Calls Tryz.prog 53 #[.string ⟨[c].toArray⟩] w_0 fun e w'=>e=.returned (.agg (kiC ⟨(c.toNat:Nat),0,0,-1,0,0,1⟩).toArray)∧Ext w_0 w':=by
 have hc:=UInt8.toNat_lt c;have hfm:=fun w=>oP ((c.toNat:Nat):Int) w;rw[hf] at hfm;refine zH (args:=[.string ⟨[c].toArray⟩]) Tryz.func53 M 99 M (Kc M)<|Z1 0 M<|zR (H':=Hp (fun _=>False) w_0 [] [] (fun _=>True)) (fun u hu=>?_) ?_
 ·subst hu;exact Hp.start0
 refine zX<|zZ<|zC .none M (yS (z:=Jc) (cs:=Jm) (by kernel_rfl) M) (fun b2=>?_);refine ZX<|zZ<|Zm M M<|ZF M (yH (j:=0) M M Tryz.underlying9 M M) ?_
 refine ZF M (yQ M (by kernel_rfl) U3 (wK (by omega))) ?_
 refine zE .none M  (v:=.int .i64 (1:Nat)) (by kernel_rfl) M (fun w hw=>hfm w) ?_;refine Za M M<|ZX<|Z3r 0 2 3 M M M<|Zm M M<|ZF M (yH (j:=0) M M Tryz.underlying9 M M) ?_
 refine ZF M (yQ M (by kernel_rfl) U3 (wK (by omega))) ?_
 refine Zm M M<|ZF M (wV M U9)<|ZF M (yT [.int .i64 0,.int .i64 0,.int .i64 0,.int .i64 0,.int .i64 0,.int .u32 0,.int .i64 0] [(0,1),(1,1),(2,1),(3,1),(4,1),(5,1),(6,1)] M (by kernel_rfl) (by kernel_rfl) M) ?_;refine zC .none M (yS (z:=Jc) (cs:=Jm) (by kernel_rfl) M) (fun b4=>?_);refine ZR 0 M M M M M (by kernel_rfl) ?_;refine ZX<|zX<|Z4 0 2 3 4 M M M M<|zR (H':=Hp (fun _=>False) w_0 [(b4,kiO ⟨(c.toNat:Nat),0,0,-1,0,0,1⟩),(b2,kiO ⟨0,0,0,0,0,0,0⟩)] [] (fun _=>True)) Jv ?_;refine zZ<|Zm M M<|ZF M (wV M U9)<|ZF M (uL M M)<|ZT<|wM M<|zL<|zP<|zX<|zX<|Z5r 0 2 3 4 17 M M M M M<|Zm M M<|ZF M (yY M M)<|Zm M M<|ZG M M M (zK M)<|ZG M M M (yY M M)<|ZF M (zM M M)<|Zm M M<|ZG M M M (zK M)<|ZG M M M (yY M M)<|ZF M (zM M M)<|ZT<|wM M<|zL<|zP<|zX<|zX<|Z6r 0 2 3 4 17 37 M M M M M M<|Zm M M<|ZT<|yV ?_;refine zX<|zX<|zZ<|ZF M (yY M M)<|Za M M<|ZT<|wM M<|Z8r 0 2 3 4 17 37 43 44 M M M M M M M M<|ZF M (yY M M)<|Za M M<|ZT<|wM M<|zX<|Z8r 0 2 3 4 17 37 43 44 M M M M M M M M<|ZF M (yY M M)<|Za M M<|ZT<|wM M<|zX<|Z9r 0 2 3 4 17 37 43 44 51 M M M M M M M M M<|ZF M (yY M M)<|Za M M<|ZT<|wM M<|zX<|zX<|Z10r 0 2 3 4 17 37 43 44 51 57 M M M M M M M M M M<|ZF M (yY M M)<|Za M M<|ZT<|wM M ?_;refine zX<|Z11r 0 2 3 4 17 37 43 44 51 57 76 M M M M M M M M M M M<|ZF M (yY M M)<|Za M M<|ZT<|wM M<|Z11r 0 2 3 4 17 37 43 44 51 57 76 M M M M M M M M M M M<|ZF M (yY M M)<|Za M M<|ZT<|wM M<|zL<|yW<|zP<|zX<|Z11r 0 2 3 4 17 37 43 44 51 57 76 M M M M M M M M M M M<|ZF M (yU 0 M M U35 M (by kernel_rfl)) ?_;refine ZR 1 M M M M M (by kernel_rfl) ?_;refine ZT<|zQ<|yC M M 1 M Tryz.underlying35 M (by kernel_rfl) (fun w hw=>?_);exact⟨rfl,hw.ext0⟩
theorem len3 {r:Bs}(h:r.length=3):∃a b c,r=[a,b,c]:=by
 match r,h with
 | [a,b,c],_=>exact⟨a,b,c,rfl⟩
theorem fmt_tab {op:Int}{n:Nat}{l:List Fld}(h:tB op=some (n,l)):(fmN op=1→n=1∧l=[])∧(fmN op=2→n=2∧l=[.reg])∧(fmN op=3→n=2∧l=[.pair])∧(fmN op=4→n=3∧l=[.reg,.small])∧(fmN op=5→n=6∧l=[.reg,.full])∧(fmN op=6→n=3∧l=[.pair,.small])∧(fmN op=7→n=7∧l=[.pair,.index,.full])∧(fmN op=8→n=2∧l=[.small])∧(fmN op=9→n=5∧l=[.full])∧(fmN op=10→n=2∧l=[.plain])∧(fmN op=11→n=2∧l=[.pair])∧(fmN op=12→n=2∧l=[.pair]):=by
 obtain⟨k1,k2,k3,k4,k5,k6,k7,k8,k9⟩:=qV (op:=op)
 have key:∀f0:Nat,fmN op=f0→(f0=1→n=1∧l=[])∧(f0=2→n=2∧l=[.reg])∧(f0=3→n=2∧l=[.pair])∧(f0=4→n=3∧l=[.reg,.small])∧(f0=5→n=6∧l=[.reg,.full])∧(f0=6→n=3∧l=[.pair,.small])∧(f0=7→n=7∧l=[.pair,.index,.full])∧(f0=8→n=2∧l=[.small])∧(f0=9→n=5∧l=[.full])∧(f0=10→n=2∧l=[.plain])∧(f0=11→n=2∧l=[.pair])∧(f0=12→n=2∧l=[.pair]):=by
  intro f0 hf;rcases wO h with ⟨h0,h1,rfl,rfl⟩|⟨h0,h1,rfl,rfl⟩|⟨h0,h1,rfl,rfl⟩|⟨h0,h1,rfl,rfl⟩|⟨h0,h1,rfl,rfl⟩|⟨h0,h1,rfl,rfl⟩|⟨h0,h1,rfl,rfl⟩|⟨h0,h1,rfl,rfl⟩|⟨h0,h1,rfl,rfl⟩|⟨h0,rfl,rfl⟩|⟨h0,h1,rfl,rfl⟩
  ·rw[k1 ⟨h0,h1⟩] at hf;subst hf;simp
  ·rw[k2 ⟨h0,h1⟩] at hf;subst hf;simp
  ·rw[k3 ⟨h0,h1⟩] at hf;subst hf;simp
  ·rw[k4 ⟨h0,h1⟩] at hf;subst hf;simp
  ·rw[k5 ⟨h0,h1⟩] at hf;subst hf;simp
  ·rw[k6 ⟨h0,h1⟩] at hf;subst hf;simp
  ·rw[k7 ⟨h0,h1⟩] at hf;subst hf;simp
  ·rw[k8 ⟨h0,h1⟩] at hf;subst hf;simp
  ·rw[k9 (by omega)] at hf;subst hf;simp
  ·subst h0;subst hf;simp[fmN]
  ·rcases (show op=129∨op=130 by omega) with h2|h2<;>subst h2<;>subst hf<;>simp[fmN]
 exact key _ rfl
theorem rread_s (c x1:UInt8) (r:Bs) (f n:Nat) (l:List Fld) (hf:fmN ((c.toNat:Nat):Int)=f) (hf1:f≠1) (hf0:f≠0) (h:tB ((c.toNat:Nat):Int)=some (n,l)) (hl:(c::x1::r).length=n) (w_0:World):Calls Tryz.prog 53 #[.string ⟨(c::x1::r).toArray⟩] w_0 fun e w'=>e=.returned (.agg (kiC (xM (x1::r) ⟨(c.toNat:Nat),0,0,-1,0,0,n⟩ l)).toArray)∧Ext w_0 w':=by
 have hc:=UInt8.toNat_lt c;have h1:=UInt8.toNat_lt x1;have hfm:=fun w=>oP ((c.toNat:Nat):Int) w;rw[hf] at hfm;have hlt:=fmN_lt ((c.toNat:Nat):Int);rw[hf] at hlt;obtain⟨_,t2,t3,t4,t5,t6,t7,t8,t9,t10,t11,t12⟩:=fmt_tab h;rw[hf] at t2 t3 t4 t5 t6 t7 t8 t9 t10 t11 t12;have hn2:n=r.length+2:=by rw[← hl];rfl
 obtain⟨l1,l2,l4,l5,l6⟩:=list_len (l:=r);refine zH (args:=[.string ⟨(c::x1::r).toArray⟩]) Tryz.func53 M 99 M (Kc M)<|Z1 0 M<|zR (H':=Hp (fun _=>False) w_0 [] [] (fun _=>True)) (fun u hu=>?_) ?_
 ·subst hu;exact Hp.start0
 refine zX<|zZ<|zC .none M (yS (z:=Jc) (cs:=Jm) (by kernel_rfl) M) (fun b2=>?_);refine ZX<|zZ<|Zm M M<|ZF M (yH (j:=0) M M Tryz.underlying9 M M) ?_
 refine ZF M (yQ M (by kernel_rfl) U3 (wK (by omega))) ?_
 refine zE .none M  (v:=.int .i64 (f:Nat)) (by kernel_rfl) M (fun w hw=>hfm w) ?_;refine Za M M<|ZX<|Z3r 0 2 3 M M M<|Zm M M<|ZF M (yH (j:=0) M M Tryz.underlying9 M M) ?_
 refine ZF M (yQ M (by kernel_rfl) U3 (wK (by omega))) ?_
 refine Zm M M<|ZF M (wV M U9)<|ZF M (yT [.int .i64 0,.int .i64 0,.int .i64 0,.int .i64 0,.int .i64 0,.int .u32 0,.int .i64 0] [(0,1),(1,1),(2,1),(3,1),(4,1),(5,1),(6,1)] M (by kernel_rfl) (by kernel_rfl) M) ?_;refine zC .none M (yS (z:=Jc) (cs:=Jm) (by kernel_rfl) M) (fun b4=>?_);refine ZR 0 M M M M M (by kernel_rfl) ?_;refine ZX<|zX<|Z4 0 2 3 4 M M M M<|zR (H':=Hp (fun _=>False) w_0 [(b4,kiO ⟨(c.toNat:Nat),0,0,-1,0,0,n⟩),(b2,kiO ⟨0,0,0,0,0,0,0⟩)] [] (fun _=>True)) (fun w h=>by rw[← hl];exact h) ?_;refine zZ<|Zm M M<|ZF M (wV M U9)<|ZF M (uL M M)<|ZT<|zW M (fun h17=>?_) (fun h17=>?_)
 ·replace h17:=Ke h17;refine zX<|Z5r 0 2 3 4 17 M M M M M<|Zm M M<|ZF M (yH (j:=1) M M Tryz.underlying9 M M) ?_
  refine ZF M (yQ M (by kernel_rfl) U3 (wK (by omega))) ?_
  refine ZF rfl (yf_quo rfl rfl (by first|decide|omega) (quo16 x1.toNat (by omega))) ?_;refine ZF M (Y35x1 M) ?_;refine ZS 0 M M M M M (by kernel_rfl) ?_;refine ZT<|Z5r 0 2 3 4 17 M M M M M<|Zm M M<|ZF M (yH (j:=1) M M Tryz.underlying9 M M) ?_
  refine ZF M (yQ M (by kernel_rfl) U3 (wK (by omega))) ?_
  refine ZF rfl (rX rfl rfl (by first|decide|omega) (rem16 x1.toNat)) ?_;refine ZF M (Y35x2 M) ?_;refine ZS 0 M M M M M (by kernel_rfl) ?_;refine ZT<|yN (ι:={p:Int×Int // p=if f=2∨f=4∨f=5 then (((x1.toNat:Nat):Int),(0:Int)) else (((x1.toNat/16:Nat):Int),((x1.toNat%16:Nat):Int))}) (fun _=>[(0,.string ⟨(c::x1::r).toArray⟩),(2,.pointer (some ⟨b2,0,none⟩)),(3,.int .i64 ((f:Nat):Int)),(4,.pointer (some ⟨b4,0,none⟩))]) (fun p=>Hp (fun _=>False) w_0 [(b4,kiO ⟨(c.toNat:Nat),p.1.1,p.1.2,-1,0,0,n⟩),(b2,kiO ⟨0,0,0,0,0,0,0⟩)] [] (fun _=>True)) ?_ (fun p=>?_)
  ·refine yN (ι:={z:Bool // z=true↔(f=2∨f=4∨f=5)}) (fun z=>[(0,.string ⟨(c::x1::r).toArray⟩),(2,.pointer (some ⟨b2,0,none⟩)),(3,.int .i64 ((f:Nat):Int)),(4,.pointer (some ⟨b4,0,none⟩)),(37,.bool z.1)]) (fun _=>Hp (fun _=>False) w_0 [(b4,kiO ⟨(c.toNat:Nat),((x1.toNat/16:Nat):Int),((x1.toNat%16:Nat):Int),-1,0,0,n⟩),(b2,kiO ⟨0,0,0,0,0,0,0⟩)] [] (fun _=>True)) ?_ (fun z=>?_)
   ·refine Z5r 0 2 3 4 17 M M M M M<|Zm M M<|ZF M (yY M M)<|Zm M M<|zF 30 M (fun hb=>?_) (fun hb=>?_)
    ·replace hb:=Km hb;refine ZP M<|ZP M<|ZF M (zJ M M)<|Zm M M<|ZP M<|ZP M<|ZF M (zJ M M)<|zI ?_
     first|exact zU (ι:={z:Bool // z=true↔(f=2∨f=4∨f=5)}) ⟨true,by simp;omega⟩ (O5 rfl rfl rfl rfl rfl) Jv|exact zU (ι:={z:Bool // z=true↔(f=2∨f=4∨f=5)}) ⟨((f:Nat):Int)==5,by rw[Ai];omega⟩ (O5 rfl rfl rfl rfl rfl) Jv
    ·replace hb:=yR hb;refine ZG M M M (zK M)<|ZG M M M (yY M M)<|ZF M (zM M M)<|Zm M M<|zF 34 M (fun hb=>?_) (fun hb=>?_)
     ·replace hb:=Km hb;refine ZP M<|ZP M<|ZF M (zJ M M)<|zI ?_
      first|exact zU (ι:={z:Bool // z=true↔(f=2∨f=4∨f=5)}) ⟨true,by simp;omega⟩ (O5 rfl rfl rfl rfl rfl) Jv|exact zU (ι:={z:Bool // z=true↔(f=2∨f=4∨f=5)}) ⟨((f:Nat):Int)==5,by rw[Ai];omega⟩ (O5 rfl rfl rfl rfl rfl) Jv
     ·replace hb:=yR hb;refine ZG M M M (zK M)<|ZG M M M (yY M M)<|ZF M (zM M M)<|zI ?_
      first|exact zU (ι:={z:Bool // z=true↔(f=2∨f=4∨f=5)}) ⟨true,by simp;omega⟩ (O5 rfl rfl rfl rfl rfl) Jv|exact zU (ι:={z:Bool // z=true↔(f=2∨f=4∨f=5)}) ⟨((f:Nat):Int)==5,by rw[Ai];omega⟩ (O5 rfl rfl rfl rfl rfl) Jv
   ·obtain⟨z,hz⟩:=z;dsimp only;refine zW M (fun h37=>?_) (fun h37=>?_)
    ·refine zX<|zZ<|Zm M M<|ZF M (yH (j:=1) M M Tryz.underlying9 M M) ?_
     refine ZF M (yQ M (by kernel_rfl) U3 (wK (by omega))) ?_
     refine ZF M (Y35x1 M) ?_;refine ZS 0 M M M M M (by kernel_rfl) ?_;refine ZT<|Z5r 0 2 3 4 37 M M M M M<|ZF M (Y35x2 M) ?_;refine ZS 0 M M M M M (by kernel_rfl) ?_;exact zI<|zU (ι:={p:Int×Int // p=if f=2∨f=4∨f=5 then (((x1.toNat:Nat):Int),(0:Int)) else (((x1.toNat/16:Nat):Int),((x1.toNat%16:Nat):Int))}) ⟨(((x1.toNat:Nat):Int),(0:Int)),by rw[Ae (hz.1 h37)]⟩ (O4 M M M M) Jv
    ·exact zL<|zU (ι:={p:Int×Int // p=if f=2∨f=4∨f=5 then (((x1.toNat:Nat):Int),(0:Int)) else (((x1.toNat/16:Nat):Int),((x1.toNat%16:Nat):Int))}) ⟨(((x1.toNat/16:Nat):Int),((x1.toNat%16:Nat):Int)),by rw[Ad (fun h=>by rw[hz.2 h] at h37;cases h37)]⟩ (O4 M M M M) Jv
  ·obtain⟨⟨pd,ps⟩,hp⟩:=p;dsimp only;refine zX<|zX<|zZ<|Zm M M<|ZT<|yV<|zX<|zX<|zZ<|ZF M (yY M M)<|Za M M<|ZT<|zW M (fun h44=>?_) (fun h44=>?_)
   ·replace h44:=Km h44;refine zL<|zP<|zW M (fun h44=>?_) (fun h44=>?_)
    ·replace h44:=Km h44;obtain rfl:f=4:=by omega
     obtain⟨rfl,rfl⟩:=t4 rfl;obtain⟨x2,rfl⟩:=l1 (by omega);have hx2:=UInt8.toNat_lt x2;injection hp.trans (Ae (by decide)) with hp1 hp2;subst hp1;subst hp2;refine Z6r 0 2 3 4 43 44 M M M M M M<|Zm M M<|ZF M (yH (j:=2) M M Tryz.underlying9 M M)<|zE .none M  (v:=.int .u32 (sxL x2.toNat 8:Nat)) (by kernel_rfl) M (fun w hw=>rextend_any x2.toNat (by omega) w) ?_;refine ZF M (Y35x5 M) ?_;refine ZS 0 M M M M M (by kernel_rfl) ?_;refine zI<|yW<|zP<|zX<|Z6r 0 2 3 4 43 44 M M M M M M<|ZF M (yU 0 M M U35 M (by kernel_rfl)) ?_;refine ZR 1 M M M M M (by kernel_rfl) ?_;refine ZT<|zQ<|yC M M 1 M Tryz.underlying35 M (by kernel_rfl) (fun w hw=>?_);exact⟨rfl,hw.ext0⟩
    ·replace h44:=yR h44;exact False.elim (by omega)
   ·replace h44:=yR h44;refine Z6r 0 2 3 4 43 44 M M M M M M<|ZF M (yY M M)<|Za M M<|ZT<|zW M (fun h44=>?_) (fun h44=>?_)
    ·replace h44:=Km h44;obtain rfl:f=6:=by omega
     obtain⟨rfl,rfl⟩:=t6 rfl;obtain⟨x2,rfl⟩:=l1 (by omega);have hx2:=UInt8.toNat_lt x2;injection hp.trans (Ad (by decide)) with hp1 hp2;subst hp1;subst hp2;refine Z6r 0 2 3 4 43 44 M M M M M M<|Zm M M<|ZF M (yH (j:=2) M M Tryz.underlying9 M M)<|zE .none M  (v:=.int .u32 (sxL x2.toNat 8:Nat)) (by kernel_rfl) M (fun w hw=>rextend_any x2.toNat (by omega) w) ?_;refine ZF M (Y35x5 M) ?_;refine ZS 0 M M M M M (by kernel_rfl) ?_;refine zI<|yW<|zP<|zX<|Z6r 0 2 3 4 43 44 M M M M M M<|ZF M (yU 0 M M U35 M (by kernel_rfl)) ?_;refine ZR 1 M M M M M (by kernel_rfl) ?_;refine ZT<|zQ<|yC M M 1 M Tryz.underlying35 M (by kernel_rfl) (fun w hw=>?_);exact⟨rfl,hw.ext0⟩
    ·replace h44:=yR h44;refine zX<|Z6r 0 2 3 4 43 44 M M M M M M<|ZF M (yY M M)<|Za M M<|ZT<|zW M (fun h51=>?_) (fun h51=>?_)
     ·replace h51:=Km h51;obtain rfl:f=5:=by omega
      obtain⟨rfl,rfl⟩:=t5 rfl;obtain⟨x2,x3,x4,x5,rfl⟩:=l4 (by omega);have hx2:=UInt8.toNat_lt x2;have hx3:=UInt8.toNat_lt x3;have hx4:=UInt8.toNat_lt x4;have hx5:=UInt8.toNat_lt x5;injection hp.trans (Ae (by decide)) with hp1 hp2;subst hp1;subst hp2;refine Z7r 0 2 3 4 43 44 51 M M M M M M M<|Zm M M<|ZF M (rK (c:=[x2,x3,x4,x5]) M M Tryz.underlying9 (by decide) (by show (2:Int)≤((6:Nat):Int);decide) M) ?_;refine zE .none M  (v:=.int .u32 (getL [x2,x3,x4,x5]:Nat)) (by kernel_rfl) M (fun w hw=>rlong_any x2 x3 x4 x5 [] w) ?_;refine ZF M (Y35x5 M) ?_;refine ZS 0 M M M M M (by kernel_rfl) ?_;refine zI<|yW<|zP<|zX<|Z7r 0 2 3 4 43 44 51 M M M M M M M<|ZF M (yU 0 M M U35 M (by kernel_rfl)) ?_;refine ZR 1 M M M M M (by kernel_rfl) ?_;refine ZT<|zQ<|yC M M 1 M Tryz.underlying35 M (by kernel_rfl) (fun w hw=>?_);exact⟨rfl,hw.ext0⟩
     ·replace h51:=yR h51;refine zX<|Z7r 0 2 3 4 43 44 51 M M M M M M M<|ZF M (yY M M)<|Za M M<|ZT<|zW M (fun h57=>?_) (fun h57=>?_)
      ·replace h57:=Km h57;obtain rfl:f=7:=by omega
       obtain⟨rfl,rfl⟩:=t7 rfl;obtain⟨x2,x3,x4,x5,x6,rfl⟩:=l5 (by omega);have hx2:=UInt8.toNat_lt x2;have hx3:=UInt8.toNat_lt x3;have hx4:=UInt8.toNat_lt x4;have hx5:=UInt8.toNat_lt x5;have hx6:=UInt8.toNat_lt x6;injection hp.trans (Ad (by decide)) with hp1 hp2;subst hp1;subst hp2;refine zX<|Z8r 0 2 3 4 43 44 51 57 M M M M M M M M<|Zm M M<|ZF M (rK (c:=[x3,x4,x5,x6]) M M Tryz.underlying9 (by decide) (by show (3:Int)≤((7:Nat):Int);decide) M) ?_;refine zE .none M  (v:=.int .u32 (getL [x3,x4,x5,x6]:Nat)) (by kernel_rfl) M (fun w hw=>rlong_any x3 x4 x5 x6 [] w) ?_;refine ZF M (Y35x5 M) ?_;refine ZS 0 M M M M M (by kernel_rfl) ?_;refine ZX<|Z8r 0 2 3 4 43 44 51 57 M M M M M M M M<|Zm M M<|ZF M (yH (j:=2) M M Tryz.underlying9 M M)<|ZF M (vW M M)<|ZT<|zW M (fun h65=>?_) (fun h65=>?_)
       ·replace h65:=wE h65;refine zX<|Z9r 0 2 3 4 43 44 51 57 65 M M M M M M M M M<|Zm M M<|ZF M (yH (j:=2) M M Tryz.underlying9 M M) ?_
        refine ZF M (yQ M (by kernel_rfl) U3 (wK (by omega))) ?_
        refine ZF rfl (rX rfl rfl (by first|decide|omega) (rem16 x2.toNat)) ?_;refine ZF M (Y35x3 M) ?_;refine ZS 0 M M M M M (by kernel_rfl) ?_;refine ZT<|Z9r 0 2 3 4 43 44 51 57 65 M M M M M M M M M<|Zm M M<|ZF M (yH (j:=2) M M Tryz.underlying9 M M) ?_
        refine ZF M (yQ M (by kernel_rfl) U3 (wK (by omega))) ?_
        refine ZF rfl (yf_quo rfl rfl (by first|decide|omega) (quo16 x2.toNat (by omega))) ?_;refine ZF M (Y35x4 M) ?_;refine ZS 0 M M M M M (by kernel_rfl) ?_;refine zI<|yW<|zP<|zX<|Z9r 0 2 3 4 43 44 51 57 65 M M M M M M M M M<|ZF M (yU 0 M M U35 M (by kernel_rfl)) ?_;refine ZR 1 M M M M M (by kernel_rfl) ?_;refine ZT<|zQ<|yC M M 1 M Tryz.underlying35 M (by kernel_rfl) (fun w hw=>?_)
        exact⟨by
         show _=Ending.returned (.agg (kiC ({ (if x2=8 then ⟨(c.toNat:Nat),(x1.toNat/16:Nat),(x1.toNat%16:Nat),-1,0,0,(7:Nat)⟩ else ⟨(c.toNat:Nat),(x1.toNat/16:Nat),(x1.toNat%16:Nat),(x2.toNat%16:Nat),(x2.toNat/16:Nat),0,(7:Nat)⟩:KI) with imm:=getL [x3,x4,x5,x6] }:KI)).toArray)
         rw[Ad (show ¬x2=8 from fun h=>by rw[h] at h65;exact h65 rfl)];rfl,hw.ext0⟩
       ·replace h65:=uY h65;refine zL<|yW<|zP<|zX<|Z9r 0 2 3 4 43 44 51 57 65 M M M M M M M M M<|ZF M (yU 0 M M U35 M (by kernel_rfl)) ?_;refine ZR 1 M M M M M (by kernel_rfl) ?_;refine ZT<|zQ<|yC M M 1 M Tryz.underlying35 M (by kernel_rfl) (fun w hw=>?_)
        exact⟨by
         show _=Ending.returned (.agg (kiC ({ (if x2=8 then ⟨(c.toNat:Nat),(x1.toNat/16:Nat),(x1.toNat%16:Nat),-1,0,0,(7:Nat)⟩ else ⟨(c.toNat:Nat),(x1.toNat/16:Nat),(x1.toNat%16:Nat),(x2.toNat%16:Nat),(x2.toNat/16:Nat),0,(7:Nat)⟩:KI) with imm:=getL [x3,x4,x5,x6] }:KI)).toArray)
         rw[Ae (show x2=8 from UInt8.toNat_inj.1 (Int.ofNat.inj h65))];rfl,hw.ext0⟩
      ·replace h57:=yR h57;refine zX<|zX<|Z8r 0 2 3 4 43 44 51 57 M M M M M M M M<|ZF M (yY M M)<|Za M M<|ZT<|zW M (fun h76=>?_) (fun h76=>?_)
       ·replace h76:=Km h76;refine zL<|zP<|zW M (fun h76=>?_) (fun h76=>?_)
        ·replace h76:=Km h76;obtain rfl:f=8:=by omega
         obtain⟨rfl,rfl⟩:=t8 rfl;obtain rfl:r=[]:=List.eq_nil_of_length_eq_zero (by omega);injection hp.trans (Ad (by decide)) with hp1 hp2;subst hp1;subst hp2;refine zX<|Z9r 0 2 3 4 43 44 51 57 76 M M M M M M M M M<|ZF M (Y35x1 M) ?_;refine ZS 0 M M M M M (by kernel_rfl) ?_;refine ZX<|Z9r 0 2 3 4 43 44 51 57 76 M M M M M M M M M<|ZF M (Y35x2 M) ?_;refine ZS 0 M M M M M (by kernel_rfl) ?_;refine ZX<|Z9r 0 2 3 4 43 44 51 57 76 M M M M M M M M M<|Zm M M<|ZF M (yH (j:=1) M M Tryz.underlying9 M M) ?_
         refine ZF M (yQ M (by kernel_rfl) U22 (u32n (show x1.toNat<4294967296 by omega) (Ab _))) ?_
         refine ZF M (Y35x5 M) ?_;refine ZS 0 M M M M M (by kernel_rfl) ?_;refine ZX<|zX<|Z9r 0 2 3 4 43 44 51 57 76 M M M M M M M M M<|Zm M M<|ZF M (yY M M)<|ZT<|zW M (fun h87=>?_) (fun h87=>?_)
         ·replace h87:=Km h87;refine Z10r 0 2 3 4 43 44 51 57 76 87 M M M M M M M M M M<|Zm M M<|ZF M (yH (j:=1) M M Tryz.underlying9 M M)<|zE .none M  (v:=.int .u32 (sxL x1.toNat 8:Nat)) (by kernel_rfl) M (fun w hw=>rextend_any x1.toNat (by omega) w) ?_;refine ZF M (Y35x5 M) ?_;refine ZS 0 M M M M M (by kernel_rfl) ?_;refine ZX<|Z10r 0 2 3 4 43 44 51 57 76 87 M M M M M M M M M M<|Zm M M<|ZF M (yY M M)<|ZT<|zW M (fun h93=>?_) (fun h93=>?_)
          ·replace h93:=Km h93;exact absurd h93 (by decide)
          ·replace h93:=yR h93;refine zL<|yW<|zP<|zX<|Z11r 0 2 3 4 43 44 51 57 76 87 93 M M M M M M M M M M M<|ZF M (yU 0 M M U35 M (by kernel_rfl)) ?_;refine ZR 1 M M M M M (by kernel_rfl) ?_;refine ZT<|zQ<|yC M M 1 M Tryz.underlying35 M (by kernel_rfl) (fun w hw=>?_);exact⟨rfl,hw.ext0⟩
         ·replace h87:=yR h87;exact absurd h87 (by decide)
        ·replace h76:=yR h76;exact False.elim (by omega)
       ·replace h76:=yR h76;refine zX<|Z9r 0 2 3 4 43 44 51 57 76 M M M M M M M M M<|ZF M (yY M M)<|Za M M<|ZT<|zW M (fun h76=>?_) (fun h76=>?_)
        ·replace h76:=Km h76;refine zL<|zP<|zW M (fun h76=>?_) (fun h76=>?_)
         ·replace h76:=Km h76;obtain rfl:f=10:=by omega
          obtain⟨rfl,rfl⟩:=t10 rfl;obtain rfl:r=[]:=List.eq_nil_of_length_eq_zero (by omega);injection hp.trans (Ad (by decide)) with hp1 hp2;subst hp1;subst hp2;refine zX<|Z9r 0 2 3 4 43 44 51 57 76 M M M M M M M M M<|ZF M (Y35x1 M) ?_;refine ZS 0 M M M M M (by kernel_rfl) ?_;refine ZX<|Z9r 0 2 3 4 43 44 51 57 76 M M M M M M M M M<|ZF M (Y35x2 M) ?_;refine ZS 0 M M M M M (by kernel_rfl) ?_;refine ZX<|Z9r 0 2 3 4 43 44 51 57 76 M M M M M M M M M<|Zm M M<|ZF M (yH (j:=1) M M Tryz.underlying9 M M) ?_
          refine ZF M (yQ M (by kernel_rfl) U22 (u32n (show x1.toNat<4294967296 by omega) (Ab _))) ?_
          refine ZF M (Y35x5 M) ?_;refine ZS 0 M M M M M (by kernel_rfl) ?_;refine ZX<|zX<|Z9r 0 2 3 4 43 44 51 57 76 M M M M M M M M M<|Zm M M<|ZF M (yY M M)<|ZT<|zW M (fun h87=>?_) (fun h87=>?_)
          ·replace h87:=Km h87;exact absurd h87 (by decide)
          ·replace h87:=yR h87;refine zL<|zP<|zX<|Z10r 0 2 3 4 43 44 51 57 76 87 M M M M M M M M M M<|Zm M M<|ZF M (yY M M)<|ZT<|zW M (fun h93=>?_) (fun h93=>?_)
           ·replace h93:=Km h93;exact absurd h93 (by decide)
           ·replace h93:=yR h93;refine zL<|yW<|zP<|zX<|Z11r 0 2 3 4 43 44 51 57 76 87 93 M M M M M M M M M M M<|ZF M (yU 0 M M U35 M (by kernel_rfl)) ?_;refine ZR 1 M M M M M (by kernel_rfl) ?_;refine ZT<|zQ<|yC M M 1 M Tryz.underlying35 M (by kernel_rfl) (fun w hw=>?_);exact⟨rfl,hw.ext0⟩
         ·replace h76:=yR h76;exact False.elim (by omega)
        ·replace h76:=yR h76;refine Z9r 0 2 3 4 43 44 51 57 76 M M M M M M M M M<|ZF M (yY M M)<|Za M M<|ZT<|zW M (fun h76=>?_) (fun h76=>?_)
         ·replace h76:=Km h76;obtain rfl:f=9:=by omega
          obtain⟨rfl,rfl⟩:=t9 rfl;obtain⟨x2,x3,x4,rfl⟩:=len3 (r:=r) (by omega);have hx2:=UInt8.toNat_lt x2;have hx3:=UInt8.toNat_lt x3;have hx4:=UInt8.toNat_lt x4;injection hp.trans (Ad (by decide)) with hp1 hp2;subst hp1;subst hp2;refine zX<|Z9r 0 2 3 4 43 44 51 57 76 M M M M M M M M M<|ZF M (Y35x1 M) ?_;refine ZS 0 M M M M M (by kernel_rfl) ?_;refine ZX<|Z9r 0 2 3 4 43 44 51 57 76 M M M M M M M M M<|ZF M (Y35x2 M) ?_;refine ZS 0 M M M M M (by kernel_rfl) ?_;refine ZX<|Z9r 0 2 3 4 43 44 51 57 76 M M M M M M M M M<|Zm M M<|ZF M (yH (j:=1) M M Tryz.underlying9 M M) ?_
          refine ZF M (yQ M (by kernel_rfl) U22 (u32n (show x1.toNat<4294967296 by omega) (Ab _))) ?_
          refine ZF M (Y35x5 M) ?_;refine ZS 0 M M M M M (by kernel_rfl) ?_;refine ZX<|zX<|Z9r 0 2 3 4 43 44 51 57 76 M M M M M M M M M<|Zm M M<|ZF M (yY M M)<|ZT<|zW M (fun h87=>?_) (fun h87=>?_)
          ·replace h87:=Km h87;exact absurd h87 (by decide)
          ·replace h87:=yR h87;refine zL<|zP<|zX<|Z10r 0 2 3 4 43 44 51 57 76 87 M M M M M M M M M M<|Zm M M<|ZF M (yY M M)<|ZT<|zW M (fun h93=>?_) (fun h93=>?_)
           ·replace h93:=Km h93;refine Z11r 0 2 3 4 43 44 51 57 76 87 93 M M M M M M M M M M M<|Zm M M<|ZF M (rK (c:=[x1,x2,x3,x4]) M M Tryz.underlying9 (by decide) (by show (1:Int)≤((5:Nat):Int);decide) M) ?_;refine zE .none M  (v:=.int .u32 (getL [x1,x2,x3,x4]:Nat)) (by kernel_rfl) M (fun w hw=>rlong_any x1 x2 x3 x4 [] w) ?_;refine ZF M (Y35x5 M) ?_;refine ZS 0 M M M M M (by kernel_rfl) ?_;refine zI<|yW<|zP<|zX<|Z11r 0 2 3 4 43 44 51 57 76 87 93 M M M M M M M M M M M<|ZF M (yU 0 M M U35 M (by kernel_rfl)) ?_;refine ZR 1 M M M M M (by kernel_rfl) ?_;refine ZT<|zQ<|yC M M 1 M Tryz.underlying35 M (by kernel_rfl) (fun w hw=>?_);exact⟨rfl,hw.ext0⟩
           ·replace h93:=yR h93;exact absurd h93 (by decide)
         ·replace h76:=yR h76;refine zL<|yW<|zP<|zX<|Z9r 0 2 3 4 43 44 51 57 76 M M M M M M M M M<|ZF M (yU 0 M M U35 M (by kernel_rfl)) ?_;refine ZR 1 M M M M M (by kernel_rfl) ?_;refine ZT<|zQ<|yC M M 1 M Tryz.underlying35 M (by kernel_rfl) (fun w hw=>?_);rcases (show f=2∨f=3∨f=11∨f=12 by omega) with e|e|e|e
          ·obtain⟨rfl,rfl⟩:=t2 e;subst e;injection hp.trans (Ae (by decide)) with hp1 hp2;subst hp1;subst hp2;exact⟨rfl,hw.ext0⟩
          ·obtain⟨rfl,rfl⟩:=t3 e;subst e;injection hp.trans (Ad (by decide)) with hp1 hp2;subst hp1;subst hp2;exact⟨rfl,hw.ext0⟩
          ·obtain⟨rfl,rfl⟩:=t11 e;subst e;injection hp.trans (Ad (by decide)) with hp1 hp2;subst hp1;subst hp2;exact⟨rfl,hw.ext0⟩
          ·obtain⟨rfl,rfl⟩:=t12 e;subst e;injection hp.trans (Ad (by decide)) with hp1 hp2;subst hp1;subst hp2;exact⟨rfl,hw.ext0⟩
 ·replace h17:=Kf h17;exact False.elim (h17 (by show (1:Int)<(((c::x1::r).length:Nat):Int);rw[hl];omega))
theorem rread_all {c:UInt8}{r:Bs}{n:Nat}{l:List Fld}(h:tB ((c.toNat:Nat):Int)=some (n,l)) (hl:(c::r).length=n) (w_0:World):Calls Tryz.prog 53 #[.string ⟨(c::r).toArray⟩] w_0 fun e w'=>e=.returned (.agg (kiC (xM r ⟨(c.toNat:Nat),0,0,-1,0,0,n⟩ l)).toArray)∧Ext w_0 w':=by
 have hn:=wO h;have tb:=fmt_tab h
 have h00:fmN ((c.toNat:Nat):Int)≠0:=fun h0=>by
  obtain⟨k1,k2,k3,k4,k5,k6,k7,k8,k9⟩:=qV (op:=((c.toNat:Nat):Int));rcases hn with ⟨a,b,_⟩|⟨a,b,_⟩|⟨a,b,_⟩|⟨a,b,_⟩|⟨a,b,_⟩|⟨a,b,_⟩|⟨a,b,_⟩|⟨a,b,_⟩|⟨a,b,_⟩|⟨a,_⟩|⟨a,b,_⟩
  ·rw[k1 ⟨a,b⟩] at h0;cases h0
  ·rw[k2 ⟨a,b⟩] at h0;cases h0
  ·rw[k3 ⟨a,b⟩] at h0;cases h0
  ·rw[k4 ⟨a,b⟩] at h0;cases h0
  ·rw[k5 ⟨a,b⟩] at h0;cases h0
  ·rw[k6 ⟨a,b⟩] at h0;cases h0
  ·rw[k7 ⟨a,b⟩] at h0;cases h0
  ·rw[k8 ⟨a,b⟩] at h0;cases h0
  ·rw[k9 (by omega)] at h0;cases h0
  ·rw[a] at h0;exact absurd h0 (by decide)
  ·rcases (show (c.toNat:Int)=129∨(c.toNat:Int)=130 by omega) with h2|h2<;>rw[h2] at h0<;>exact absurd h0 (by decide)
 by_cases h1:fmN ((c.toNat:Nat):Int)=1
 ·obtain⟨rfl,rfl⟩:=tb.1 h1;obtain rfl:r=[]:=List.eq_nil_of_length_eq_zero (by rw[Jy] at hl;omega);exact rread_1 c h1 w_0
 ·cases r with
  | nil =>
   have hl:n=1:=hl.symm
   exfalso
   rcases hn with ⟨a,b,_⟩|hn
   ·exact h1 (qV.1 ⟨a,b⟩)
   ·omega
  | cons x1 r=>exact rread_s c x1 r _ n l rfl h1 h00 h hl w_0
def GotC (s:Bs) (x:KI×Int):Prop:=match pM s with
 | some i=>x=(i,0)
 | none=>x.2≠0
abbrev gotV (x:KI×Int):Value:=.agg (kiC x.1++[Value.int .i64 x.2]).toArray
theorem decK_cons (c:UInt8) (r:Bs):pM (c::r)=match tB ((c.toNat:Nat):Int) with
 | none=>none
 | some (n,l)=>if (c::r).length<n then none else
  if (tV (xM (((c::r).take n).drop 1) ⟨(c.toNat:Nat),0,0,-1,0,0,n⟩ l)).isSome=true then some (xM (((c::r).take n).drop 1) ⟨(c.toNat:Nat),0,0,-1,0,0,n⟩ l) else none:=rfl
def RdcPost (s:Bs) (w:World) (e:Ending) (w':World):Prop:=∃x,GotC s x∧e=.returned (gotV x)∧Ext w w'
theorem size_fin7:((List.range 256).all fun n=>decide (xJ (n:Nat)=szN (fmN (n:Nat))))=true:=by kernel_rfl
theorem sizeK_szN7 (op:Int):xJ op=szN (fmN op):=by
 by_cases h:0≤op∧op<256
 ·have:=tP size_fin7 op.toNat (by omega);have e:((op.toNat:Nat):Int)=op:=by omega
  rw[e] at this;exact Ke this
 ·have h1:fmN op=0:=by
   by_cases hf:fmN op=0
   ·exact hf
   ·exact absurd (fmN_op hf) h
  have h2:tB op=none:=by
   cases hf:tB op with
   | none=>rfl
   | some p =>
    obtain⟨n,l⟩:=p;have:=wO hf;omega
  unfold xJ;rw[h2,h1];rfl
theorem fmtK_fmN (op:Int):tB op=none↔fmN op=0:=by
 have h:=sizeK_szN7 op
 constructor
 ·intro h0;refine Classical.byContradiction fun hn=>?_;unfold xJ at h;rw[h0] at h;have hlt:=fmN_lt op;generalize fmN op=f at *
  match f,hlt with
  | 0,_=>exact hn rfl
  | 1,_|2,_|3,_|4,_|5,_|6,_|7,_|8,_|9,_|10,_|11,_|12,_=>exact absurd h (by decide)
 ·intro h0
  cases hf:tB op with
  | none=>rfl
  | some p =>
   obtain⟨n,l⟩:=p;unfold xJ at h;rw[hf,h0] at h;have h:n=0:=h;have:=wO hf;omega
theorem rdecode_any (s:Bs) (hs:s.length≤1000000000) (w_0:World):Calls Tryz.prog 21 #[.string ⟨s.toArray⟩] w_0 (RdcPost s w_0):=by
 unfold RdcPost
 cases s with
 | nil =>
  refine zH (args:=[.string ⟨([]:Bs).toArray⟩]) Tryz.func21 M 29 M (Kc M)<|Z1 0 M<|zR (H':=Hp (fun _=>False) w_0 [] [] (fun _=>True)) (fun u hu=>?_) ?_
  ·subst hu;exact Hp.start0
  refine zX<|zZ<|zC .none M (yS (z:=Ji) (cs:=Ju) (by kernel_rfl) M) (fun b2=>?_);refine ZX<|zX<|zZ<|Zm M M<|ZF M (yE M M U9)<|ZT<|zW M (fun h6=>?_) (fun h6=>?_)
  ·refine zX<|Z3r 0 2 6 M M M<|ZF M (yT [.int .i64 0,.int .i64 0,.int .i64 0,.int .i64 0,.int .i64 0,.int .u32 0,.int .i64 0,.int .i64 0] [(0,7),(7,1)] M (by kernel_rfl) (by kernel_rfl) M) ?_;refine ZR 0 M M M M M (by kernel_rfl) ?_;refine ZT<|zQ<|zT<|yC M M 0 M U37 M (by kernel_rfl) (fun w hw=>?_);exact⟨(⟨0,0,0,0,0,0,0⟩,10),(show (10:Int)≠0 by decide),rfl,hw.ext0⟩
  ·exact absurd h6 (by decide)
 | cons c r =>
  have hcl:=UInt8.toNat_lt c;have hz:=fun w=>rsize_any c.toNat hcl w;have hsz:=sizeK_szN7 ((c.toNat:Nat):Int)
  cases hp:tB ((c.toNat:Nat):Int) with
  | none =>
   have hn:pM (c::r)=none:=by rw[decK_cons,hp]
   have h0:=(fmtK_fmN _).1 hp;rw[h0] at hz;refine zH (args:=[.string ⟨(c::r).toArray⟩]) Tryz.func21 M 29 M (Kc M)<|Z1 0 M<|zR (H':=Hp (fun _=>False) w_0 [] [] (fun _=>True)) (fun u hu=>?_) ?_
   ·subst hu;exact Hp.start0
   refine zX<|zZ<|zC .none M (yS (z:=Ji) (cs:=Ju) (by kernel_rfl) M) (fun b2=>?_);refine ZX<|zX<|zZ<|Zm M M<|ZF M (yE M M U9)<|ZT<|zW M (fun h6=>?_) (fun h6=>?_)
   ·exact absurd (Ke h6) (by simp)
   ·refine zL<|zP<|zX<|Z3r 0 2 6 M M M<|Zm M M<|ZF M (yH (j:=0) M M Tryz.underlying9 M M)<|zE .none M  (v:=.int .i64 (szN 0:Nat)) (by kernel_rfl) M (fun w hw=>hz w) ?_;refine Za M M<|ZX<|zX<|Z4r 0 2 3 6 M M M M<|Zm M M<|ZF M (yY M M)<|ZT<|zW M (fun h12=>?_) (fun h12=>?_)
    ·replace h12:=Km h12;refine zX<|Z5r 0 2 3 6 12 M M M M M<|ZF M (yT [.int .i64 0,.int .i64 0,.int .i64 0,.int .i64 0,.int .i64 0,.int .u32 0,.int .i64 0,.int .i64 0] [(0,7),(7,1)] M (by kernel_rfl) (by kernel_rfl) M) ?_;refine ZR 0 M M M M M (by kernel_rfl) ?_;refine ZT<|zQ<|zT<|yC M M 0 M U37 M (by kernel_rfl) (fun w hw=>?_);exact⟨(⟨0,0,0,0,0,0,0⟩,12),by unfold GotC;rw[hn];show (12:Int)≠0;decide,rfl,hw.ext0⟩
    ·replace h12:=yR h12;exact absurd M h12
  | some p =>
   obtain⟨n,l⟩:=p;have hnz:szN (fmN ((c.toNat:Nat):Int))=n:=by rw[← hsz];unfold xJ;rw[hp]
   rw[hnz] at hz;have hn0:0<n∧n≤7:=by have:=wO hp;omega
   have hdk:=decK_cons c r;rw[hp] at hdk
   have hdk:pM (c::r)=if (c::r).length<n then none else
    if (tV (xM (((c::r).take n).drop 1) ⟨(c.toNat:Nat),0,0,-1,0,0,n⟩ l)).isSome=true then some (xM (((c::r).take n).drop 1) ⟨(c.toNat:Nat),0,0,-1,0,0,n⟩ l) else none:=hdk
   obtain⟨i,hi⟩:∃i,i=xM (((c::r).take n).drop 1) ⟨(c.toNat:Nat),0,0,-1,0,0,n⟩ l:=⟨_,rfl⟩;rw[← hi] at hdk;have hi32:i.imm<4294967296:=by rw[hi];exact takeFs_imm l _ _ (show (0:Nat)<_ by decide)
   have htk:(c::r).take n=c::r.take (n-1):=by
    obtain⟨m,rfl⟩:∃m,n=m+1:=⟨n-1,by omega⟩;rfl
   refine zH (args:=[.string ⟨(c::r).toArray⟩]) Tryz.func21 M 29 M (Kc M)<|Z1 0 M<|zR (H':=Hp (fun _=>False) w_0 [] [] (fun _=>True)) (fun u hu=>?_) ?_
   ·subst hu;exact Hp.start0
   refine zX<|zZ<|zC .none M (yS (z:=Ji) (cs:=Ju) (by kernel_rfl) M) (fun b2=>?_);refine ZX<|zX<|zZ<|Zm M M<|ZF M (yE M M U9)<|ZT<|zW M (fun h6=>?_) (fun h6=>?_)
   ·exact absurd (Ke h6) (by simp)
   ·refine zL<|zP<|zX<|Z3r 0 2 6 M M M<|Zm M M<|ZF M (yH (j:=0) M M Tryz.underlying9 M M)<|zE .none M  (v:=.int .i64 (n:Nat)) (by kernel_rfl) M (fun w hw=>hz w) ?_;refine Za M M<|ZX<|zX<|Z4r 0 2 3 6 M M M M<|Zm M M<|ZF M (yY M M)<|ZT<|zW M (fun h12=>?_) (fun h12=>?_)
    ·replace h12:=Km h12;exact False.elim (by omega)
    ·replace h12:=yR h12;refine zL<|zP<|zX<|zX<|Z5r 0 2 3 6 12 M M M M M<|Zm M M<|ZF M (wV M U9)<|Zm M M<|ZF M (yB M M)<|ZT<|zW M (fun h17=>?_) (fun h17=>?_)
     ·replace h17:=Ke h17;refine zX<|Z6r 0 2 3 6 12 17 M M M M M M<|ZF M (yT [.int .i64 0,.int .i64 0,.int .i64 0,.int .i64 0,.int .i64 0,.int .u32 0,.int .i64 0,.int .i64 0] [(0,7),(7,1)] M (by kernel_rfl) (by kernel_rfl) M) ?_;refine ZR 0 M M M M M (by kernel_rfl) ?_;refine ZT<|zQ<|zT<|yC M M 0 M U37 M (by kernel_rfl) (fun w hw=>?_);exact⟨(⟨0,0,0,0,0,0,0⟩,10),by unfold GotC;rw[hdk,Ae (by omega)];show (10:Int)≠0;decide,rfl,hw.ext0⟩
     ·replace h17:=Kf h17;refine zL<|zP<|zX<|Z6r 0 2 3 6 12 17 M M M M M M<|Zm M M<|Zm M M<|ZF M (yf_strHi (c:=(c::r).take n) M M Tryz.underlying9 (by omega) (by omega) (by rw[Int.toNat_natCast])) ?_
      refine zE .none M  (v:=.agg (kiC i).toArray) (by kernel_rfl) M (fun w hw=>by
       rw[hi,htk]
       exact rread_all hp (by rw[← htk,Kx];omega) w) ?_
      refine zC .none M (yS (z:=Jc) (cs:=Jm) (by kernel_rfl) M) (fun b4=>?_);refine ZR 0 M M M M M (by kernel_rfl) ?_;refine ZX<|zX<|Z7r 0 2 3 4 6 12 17 M M M M M M M<|ZF M (yU 0 M M U35 M (by kernel_rfl)) ?_;refine zE .none M  (v:=.bool (wP i)) (by kernel_rfl) M (fun w hw=>rvalid_any i hi32 w) ?_;refine ZF M (xF M)<|ZT<|zW M (fun h25=>?_) (fun h25=>?_)
      ·refine zX<|Z8r 0 2 3 4 6 12 17 25 M M M M M M M M<|ZF M (yT [.int .i64 0,.int .i64 0,.int .i64 0,.int .i64 0,.int .i64 0,.int .u32 0,.int .i64 0,.int .i64 0] [(0,7),(7,1)] M (by kernel_rfl) (by kernel_rfl) M) ?_;refine ZR 1 M M M M M (by kernel_rfl) ?_;refine ZT<|zQ<|zT<|yC M M 1 M U37 M (by kernel_rfl) (fun w hw=>?_)
       exact⟨(⟨0,0,0,0,0,0,0⟩,12),by
        have hv:(tV i).isSome=false:=by simpa [wP] using h25
        unfold GotC;rw[hdk,Ad (by omega),Ad (by rw[hv];decide)]
        show (12:Int)≠0;decide,rfl,hw.ext0⟩
      ·refine zL<|zP<|zX<|Z8r 0 2 3 4 6 12 17 25 M M M M M M M M<|ZF M (yU 0 M M U35 M (by kernel_rfl)) ?_;refine ZF M (yT [.int .i64 0,.int .i64 0,.int .i64 0,.int .i64 0,.int .i64 0,.int .u32 0,.int .i64 0,.int .i64 0] [(0,7),(7,1)] M (by kernel_rfl) (by kernel_rfl) M) ?_;refine ZR 1 M M M M M (by kernel_rfl) ?_;refine ZT<|zQ<|yC M M 1 M U37 M (by kernel_rfl) (fun w hw=>?_)
       exact⟨(i,0),by
        have hv:(tV i).isSome=true:=by simpa [wP] using h25
        unfold GotC
        rw[hdk,Ad (by omega),Ae hv],rfl,hw.ext0⟩
end Go.Proofs.YtkaepknpplhgkaaGreatDoor
namespace Go.Proofs.YtkaepknpplhgkaaGreatDoor
open Go.RowKit
theorem joB_snoc (x:Bs):∀l:List Bs,joB (l++[x])=if l=[] then x else (joB l++[44,32])++x
 | []=>rfl
 | [y]=>by simp[joB]
 | y::z::l=>by
  have ih:=joB_snoc x (z::l);rw[Ad (by simp)] at ih ⊢;show y++[44,32]++joB ((z::l)++[x])=(y++[44,32]++joB (z::l)++[44,32])++x;rw[ih];simp
def bytT (s:Bs) (k:Nat):Bs:=(qQ++[32])++joB ((s.take k).map fun c=>Lib.decDigits c.toNat)
theorem bytT_len {s:Bs}{k:Nat}(hk:k≤s.length):(bytT s k).length≤6+5*k:=by
 have:=joB_len (k:=3) (l:=(s.take k).map fun c=>Lib.decDigits c.toNat) (fun x hx=>by
  obtain⟨c,_,rfl⟩:=List.mem_map.1 hx;have:=UInt8.toNat_lt c
  exact wR (k:=3) (by omega) (by decide))
 rw[Ag,Kx] at this;unfold bytT;rw[Jx,Jx,show qQ.length=5 from rfl,show ([32]:Bs).length=1 from rfl];omega
theorem bytT_0 {s:Bs}{c:UInt8}(h:s[0]? = some c):bytT s 1=bytT s 0++Lib.decDigits c.toNat:=by
 unfold bytT;rw[take_ln h];simp[joB]
theorem bytT_s {s:Bs}{k:Nat}{c:UInt8}(hk:0<k) (h:s[k]? = some c):bytT s (k+1)=(bytT s k++[44,32])++Lib.decDigits c.toNat:=by
 unfold bytT;have hl:k<s.length:=(Kb.1 h).1
 rw[take_ln h,joB_snoc,Ad (by
  intro e;have:=congrArg List.length e;rw[Ag,Kx] at this
  simp only[Jz] at this;omega)]
 simp
theorem bytT_z {s:Bs}{k:Nat}{c:UInt8}(hk:k=0) (h:s[k]? = some c):bytT s k++Lib.decDigits c.toNat=bytT s (k+1):=by
 subst hk;exact (bytT_0 h).symm
theorem rbytes_any (s:Bs) (hs:s.length≤1000) (w_0:World):Calls Tryz.prog 96 #[.string ⟨s.toArray⟩] w_0 fun e w'=>e=.returned (.string ⟨(bytB s).toArray⟩)∧Ext w_0 w':=by
 refine zH (args:=[.string ⟨s.toArray⟩]) Tryz.func96 M 23 M (Kc M)<|Z1 0 M<|zR (H':=Hp (fun _=>False) w_0 [] [] (fun _=>True)) (fun u hu=>?_) ?_
 ·subst hu;exact Hp.start0
 refine zX<|zZ<|Za M M<|ZX<|zZ<|Za M M<|ZX<|zX<|zZ<|Za M M<|ZT<|yV<|xO (ι:={k:Nat // k≤s.length}) (fun k=>[(0,.string ⟨s.toArray⟩),(3,.string ⟨(bytT s k.1).toArray⟩),(4,.int .i64 (k.1:Nat))]) (fun _=>Hp (fun _=>False) w_0 [] [] (fun _=>True)) (fun k=>s.length-k.1) ⟨0,Aa _⟩ (O3 M M M) Jv (fun k=>?_);obtain⟨k,hk⟩:=k;dsimp only at hk ⊢;have hbl:=bytT_len hk;refine zX<|zX<|zZ<|Zm M M<|Zm M M<|ZF M (wV M U9)<|ZF M (yB M M)<|ZT<|zW M (fun h8=>?_) (fun h8=>?_)
 ·replace h8:=Ke h8;obtain⟨c,hc⟩:∃c,s[k]? = some c:=⟨s[k]'(by omega),Kj _⟩;have hcl:=UInt8.toNat_lt c;have hdl:(Lib.decDigits c.toNat).length≤10:=dec32 (by omega);refine zL<|zP<|zX<|yV<|yN (ι:={x:Bs // x.length≤10000∧x++Lib.decDigits c.toNat=bytT s (k+1)}) (fun x=>[(0,.string ⟨s.toArray⟩),(3,.string ⟨x.1.toArray⟩),(4,.int .i64 (k:Nat))]) (fun _=>Hp (fun _=>False) w_0 [] [] (fun _=>True)) ?_ (fun x=>?_)
  ·refine zX<|Z4r 0 3 4 8 M M M M<|Zm M M<|ZF M (uL M M)<|ZT<|zW M (fun h12=>?_) (fun h12=>?_)
   ·replace h12:=Ke h12;refine Z5r 0 3 4 8 12 M M M M M<|Zm M M<|ZF M (zN M M (by (show _+2≤_;omega))) ?_;exact Za M M<|zI<|zU (ι:={x:Bs // x.length≤10000∧x++Lib.decDigits c.toNat=bytT s (k+1)}) ⟨bytT s k++[44,32],by rw[Jx];show _+2≤_;omega,(bytT_s (by omega) hc).symm⟩ (O3 M M M) Jv
   ·replace h12:=Kf h12;exact zL<|zU (ι:={x:Bs // x.length≤10000∧x++Lib.decDigits c.toNat=bytT s (k+1)}) ⟨bytT s k,by omega,bytT_z (by omega) hc⟩ (O3 M M M) Jv
  ·obtain⟨x,hx1,hx2⟩:=x;dsimp only;refine zZ<|Zm M M<|Zm M M<|Zm M M<|ZF M (yH (j:=k) M M Tryz.underlying9 M hc) ?_
   refine ZF M (yQ M (by kernel_rfl) U22 (u32n (show c.toNat<4294967296 by omega) (Ab _))) ?_
   refine zE .none M  (v:=.string ⟨(Lib.decDigits c.toNat).toArray⟩) (by kernel_rfl) M (fun w hw=>vA c.toNat (by omega) w) ?_;refine ZF rfl (zN rfl rfl (by first|omega|simp<;>omega)) ?_;refine Za M M<|zI<|yW<|zP<|Z3r 0 3 4 M M M<|Zm M M<|ZF M (yO M M (show IntKind.i64.wrap ((k:Int)+1)=((k+1:Nat):Int) from i64_in ((k+1:Nat):Int) (by omega) (by omega))) ?_;exact Za M M<|zI<|yK (ι:={k:Nat // k≤s.length}) ⟨k+1,by omega⟩ (by show s.length-(k+1)<s.length-k;omega) (.cons M<|.consE M (by rw[← hx2])<|.cons M<|.nil) Jv
 ·replace h8:=Kf h8;obtain rfl:k=s.length:=by omega
  refine xT<|zB<|zB<|xU<|zP<|zX<|Z4r 0 3 4 8 M M M M<|Zm M M<|Za M M<|ZT<|zQ<|zO M M (fun w hw=>?_);exact⟨rD (by unfold bytT bytB;rw[Kw]),hw.ext0⟩
def gtN (a b c d k:Nat):Nat:=[0,a,a+256*b,a+256*b+65536*c,a+256*b+65536*c+16777216*d].getD k 0
theorem rget_step {a b c d k x:Nat}(ha:a<256) (hb:b<256) (hc:c<256) (hd:d<256) (hk:k<4) (hx:[a,b,c,d][k]? = some x):IntKind.u32.wrap (((gtN a b c d k:Nat):Int)+IntKind.u32.wrap (((x:Nat):Int)*2 ^ (min (8*((k:Nat):Int)).toNat IntKind.u32.bits)))=((gtN a b c d (k+1):Nat):Int):=by
 have e8:∀y:Nat,y<256→IntKind.u32.wrap ((y:Int)*2 ^ 0)=((y:Nat):Int):=fun y hy=>by rw[sX];omega
 have e0:(2:Int) ^ (min (8*((0:Nat):Int)).toNat IntKind.u32.bits)=1:=rfl;have e1:(2:Int) ^ (min (8*((1:Nat):Int)).toNat IntKind.u32.bits)=256:=rfl;have e2:(2:Int) ^ (min (8*((2:Nat):Int)).toNat IntKind.u32.bits)=65536:=rfl;have e3:(2:Int) ^ (min (8*((3:Nat):Int)).toNat IntKind.u32.bits)=16777216:=rfl
 match k,hk with
 | 0,_ =>
  obtain rfl:a=x:=by simpa using hx
  rw[e0,sX,sX];show (((0:Nat):Int)+_)%_=((a:Nat):Int);omega
 | 1,_ =>
  obtain rfl:b=x:=by simpa using hx
  rw[e1,sX,sX];show (((a:Nat):Int)+_)%_=((a+256*b:Nat):Int);omega
 | 2,_ =>
  obtain rfl:c=x:=by simpa using hx
  rw[e2,sX,sX];show (((a+256*b:Nat):Int)+_)%_=((a+256*b+65536*c:Nat):Int);omega
 | 3,_ =>
  obtain rfl:d=x:=by simpa using hx
  rw[e3,sX,sX];show (((a+256*b+65536*c:Nat):Int)+_)%_=((a+256*b+65536*c+16777216*d:Nat):Int);omega
theorem rget_any (a b c d:UInt8) (r:Bs) (hr:r.length≤1000000000) (w_0:World):Calls Tryz.prog 95 #[.string ⟨(a::b::c::d::r).toArray⟩] w_0 fun e w'=>e=.returned (.int .u32 (getL [a,b,c,d]:Nat))∧Ext w_0 w':=by
 have ha:=UInt8.toNat_lt a;have hb:=UInt8.toNat_lt b;have hc:=UInt8.toNat_lt c;have hd:=UInt8.toNat_lt d;rw[long_sum];obtain⟨s,hs⟩:∃s,s=a::b::c::d::r:=⟨_,rfl⟩;have hsl:s.length=r.length+4:=by rw[hs];rfl
 rw[← hs];refine zH (args:=[.string ⟨s.toArray⟩]) Tryz.func95 M 25 M (Kc M)<|Z1 0 M<|zR (H':=Hp (fun _=>False) w_0 [] [] (fun _=>True)) (fun u hu=>?_) ?_
 ·subst hu;exact Hp.start0
 refine zX<|zZ<|Za M M<|ZX<|zZ<|Za M M<|ZX<|zX<|zZ<|Za M M<|ZT<|yV<|xO (ι:={k:Nat // k≤4}) (fun k=>[(0,.string ⟨s.toArray⟩),(3,.int .u32 (gtN a.toNat b.toNat c.toNat d.toNat k.1:Nat)),(4,.int .i64 (k.1:Nat))]) (fun _=>Hp (fun _=>False) w_0 [] [] (fun _=>True)) (fun k=>4-k.1) ⟨0,Aa _⟩ (O3 M M M) Jv (fun k=>?_);obtain⟨k,hk⟩:=k;dsimp only at hk ⊢;refine zX<|zX<|zZ<|Zm M M<|Zm M M<|ZF M (wV M U9)<|ZF M (yB M M)<|Zm M M<|zF 9 M (fun g5=>?_) (fun g5=>?_)
 ·replace g5:=Ke g5;refine ZG M M M (zK M)<|ZG M M M (yB M M)<|ZF M (zJ M M)<|ZT<|zW M (fun h12=>?_) (fun h12=>?_)
  ·replace h12:=Ke h12;have hk4:k<4:=by omega
   obtain⟨x,hx⟩:∃x,s[k]? = some x:=⟨s[k]'(by omega),Kj _⟩;have hxl:=UInt8.toNat_lt x
   have hx2:[a.toNat,b.toNat,c.toNat,d.toNat][k]? = some x.toNat:=by
    rw[hs] at hx
    match k,hk4,hx with
    | 0,_,hx=>simpa using congrArg (Option.map UInt8.toNat) hx
    | 1,_,hx=>simpa using congrArg (Option.map UInt8.toNat) hx
    | 2,_,hx=>simpa using congrArg (Option.map UInt8.toNat) hx
    | 3,_,hx=>simpa using congrArg (Option.map UInt8.toNat) hx
   refine zL<|zP<|zX<|yV<|Z4r 0 3 4 12 M M M M<|Zm M M<|Zm M M<|Zm M M<|ZF M (yH (j:=k) M M Tryz.underlying9 M hx) ?_
   refine ZF M (yQ M (by kernel_rfl) U22 (u32n (show x.toNat<4294967296 by omega) (Ab _))) ?_
   refine Zm M M<|ZF M (sY M M (i64_in _ (by omega) (by omega))) ?_;refine ZF rfl (uM rfl rfl (by first|decide|omega) rfl) ?_;refine ZF M (yO M M (rget_step ha hb hc hd hk4 hx2))<|Za M M<|zI<|yW<|zP<|Z4r 0 3 4 12 M M M M<|Zm M M<|ZF M (yO M M (show IntKind.i64.wrap ((k:Int)+1)=((k+1:Nat):Int) from i64_in ((k+1:Nat):Int) (by omega) (by omega))) ?_;exact Za M M<|zI<|yK (ι:={k:Nat // k≤4}) ⟨k+1,by omega⟩ (by show 4-(k+1)<4-k;omega) (O3 M M M) Jv
  ·replace h12:=Kf h12;obtain rfl:k=4:=by omega
   refine xT<|zB<|zB<|xU<|zP<|zX<|Z4r 0 3 4 12 M M M M<|Zm M M<|Za M M<|ZT<|zQ<|zO M M (fun w hw=>?_);exact⟨rfl,hw.ext0⟩
 ·replace g5:=Kf g5;obtain rfl:k=4:=by omega
  refine ZP M<|ZP M<|ZF M (zM M M)<|ZT<|wM M<|xT<|zB<|zB<|xU<|zP<|zX<|Z4r 0 3 4 12 M M M M<|Zm M M<|Za M M<|ZT<|zQ<|zO M M (fun w hw=>?_);exact⟨rfl,hw.ext0⟩
end Go.Proofs.YtkaepknpplhgkaaGreatDoor
namespace Go.Proofs.YtkaepknpplhgkaaGreatDoor
open Go.RowKit
def GotQ (v:Nat) (x:QI×Int):Prop:=match decQ v with
 | some i=>x=(i,0)
 | none=>x=(qi0,12)
theorem rdq_call (v:Nat) (hv:v<4294967296) (w:World):Calls Tryz.prog 94 #[.int .u32 v] w fun e w'=>∃x:QI×Int,GotQ v x∧e=.returned (.tuple #[.agg (qiC x.1).toArray,.int .i64 x.2])∧Ext w w' :=
 (rdecodeQ_any v hv w).mono fun e w' ⟨h1,h2⟩=>by
  unfold GotQ
  cases hd:decQ v with
  | none=>rw[hd] at h2;exact⟨(qi0,12),rfl,h2,h1⟩
  | some i=>rw[hd] at h2;exact⟨(i,0),rfl,h2,h1⟩
theorem gotK_no {s:Bs}{x:KI×Int}(h:GotC s x) (h0:x.2≠0) (a:Nat):nx1 s a=([],1):=by
 unfold GotC at h;unfold nx1
 cases hd:pM s with
 | none=>rfl
 | some i=>rw[hd] at h;rw[h] at h0;exact absurd M h0
theorem gotK_yes {s:Bs}{x:KI×Int}(h:GotC s x) (h0:x.2=0) (a:Nat):nx1 s a=(lnV x.1 a,x.1.size.toNat)∧x.1.imm<4294967296∧x.1.size=(x.1.size.toNat:Nat)∧(lnV x.1 a).length≤50:=by
 unfold GotC at h;unfold nx1
 cases hd:pM s with
 | none=>rw[hd] at h;exact absurd h0 h
 | some i =>
  rw[hd] at h;obtain⟨h1,h2,h3⟩:=decK_valid hd;subst h;have hl:lnV i a=lnK i a:=by unfold lnV;rw[Ae h1]
  dsimp only;rw[hl];exact⟨rfl,h2,h3,lnK_len (vK_of h2 h1) a⟩
theorem gotQ_no {s:Bs}{x:QI×Int}(h4:¬s.length<4) (h:GotQ (getL (s.take 4)) x) (h0:x.2≠0) (a:Nat):nx2 s a=([],4):=by
 unfold GotQ at h;unfold nx2;rw[Ad h4]
 cases hd:decQ (getL (s.take 4)) with
 | none=>rfl
 | some i=>rw[hd] at h;rw[h] at h0;exact absurd M h0
theorem gotQ_yes {s:Bs}{x:QI×Int}(h4:¬s.length<4) (h:GotQ (getL (s.take 4)) x) (hv:getL (s.take 4)<4294967296) (h0:x.2=0) (a:Nat):nx2 s a=(lnQV x.1 a,4)∧x.1.imm<4294967296∧(lnQV x.1 a).length≤80:=by
 unfold GotQ at h;unfold nx2;rw[Ad h4]
 cases hd:decQ (getL (s.take 4)) with
 | none=>rw[hd] at h;rw[h] at h0;exact absurd h0 (by decide)
 | some i =>
  rw[hd] at h;have h1:wQ i=true:=by unfold wQ;rw[oH hd];rfl
  have h2:=decQ_imm hv hd;subst h;have hl:lnQV i a=lnQ i a:=by unfold lnQV;rw[Ae h1]
  dsimp only;rw[hl];exact⟨rfl,h2,lnQ_len (vQ_of h2 h1) a⟩
theorem nxK_1 (s:Bs) (a:Nat):nxK 1 s a=nx1 s a:=by unfold nxK;rw[Ae rfl]
theorem nxK_2 (s:Bs) (a:Nat):nxK 2 s a=nx2 s a:=by unfold nxK;rw[Ad (by decide)]
theorem nx2_short {s:Bs}(h:s.length<4) (a:Nat):nx2 s a=([],s.length):=by unfold nx2;rw[Ae h]
theorem nxK_le (kind:Int) (s:Bs) (a:Nat) (hk:kind=1∨kind=2):(nxK kind s a).2≤1000:=by
 rcases hk with rfl|rfl
 ·rw[nxK_1];unfold nx1
  cases hd:pM s with
  | none=>show 1≤1000;decide
  | some i =>
   obtain⟨n,l,h1,h2,_,_⟩:=encK_rng (decK_some hd).choose_spec.2.2.2;have:=wO h1;show i.size.toNat≤1000;omega
 ·rw[nxK_2];unfold nx2
  split
  ·show s.length≤1000;omega
  ·cases hd:decQ (getL (s.take 4))<;>(show 4≤1000;decide)
theorem list4 {s:Bs}(h:4≤s.length):∃a b c d r,s=a::b::c::d::r:=by
 match s,h with
 | a::b::c::d::r,_=>exact⟨a,b,c,d,r,rfl⟩
theorem gseg (x:KI×Int) (j:Nat) (v:Value) (h:(kiC x.1)[j]? = some v):(kiC x.1++[Value.int .i64 x.2])[0+j]? = some v:=by
 rw[Kz,List.getElem?_append_left (Kb.1 h).1];exact h
theorem rdis_any (kind:Int) (hk12:kind=1∨kind=2) (code:Bs) (hc:code.length≤1000000000) (org:Nat) (ho:org<4294967296) (w_0:World):Calls Tryz.prog 37 #[.int .i64 kind,.string ⟨code.toArray⟩,.int .u32 org] w_0 fun e w'=>e=.returned (.string ⟨(disA kind code org).toArray⟩)∧Ext w_0 w':=by
 unfold disA;rw[Ad (by omega)];have hfl:=linesB_le kind hk12 org code;obtain⟨full,hfull⟩:∃x,x=pU (disF kind org code.length code 0):=⟨_,rfl⟩;rw[← hfull] at hfl ⊢;refine zH (args:=[.int .i64 kind,.string ⟨code.toArray⟩,.int .u32 org]) Tryz.func37 M 85 M (Kc M)<|Z3 0 1 2 M M M<|zR (H':=Hp (fun _=>False) w_0 [] [] (fun _=>True)) (fun u hu=>?_) ?_
 ·subst hu;exact Hp.start0
 refine zX<|zZ<|Za M M<|ZX<|zZ<|Za M M<|ZX<|zX<|zZ<|Za M M<|ZT<|yV<|xO (ι:={j:Nat×Nat×Bs // DLI kind org code 0 full ⟨j.1,j.2.1,j.2.2,none,none,0⟩}) (fun j=>[(0,.int .i64 kind),(1,.string ⟨code.toArray⟩),(2,.int .u32 org),(7,.string ⟨j.1.2.2.toArray⟩),(8,.int .i64 (j.1.1:Nat))]) (fun _=>Hp (fun _=>False) w_0 [] [] (fun _=>True)) (fun j=>code.length-j.1.1) ⟨(0,code.length,[]),⟨Aa _,Ab _,hfull.symm,.inl rfl,fun _=>rfl⟩⟩ (O5 M M M M M) Jv (fun j=>?_);obtain⟨⟨p,f,out⟩,hj⟩:=j;have hple:=hj.le;have hje:=hj.e;dsimp only at hple hje hj ⊢;refine zX<|yN (ι:={z:Bool // z=true↔p<code.length}) (fun z=>[(0,.int .i64 kind),(1,.string ⟨code.toArray⟩),(2,.int .u32 org),(7,.string ⟨out.toArray⟩),(8,.int .i64 (p:Nat)),(25,.bool z.1)]) (fun _=>Hp (fun _=>False) w_0 [] [] (fun _=>True)) ?_ (fun z=>?_)
 ·refine zZ<|Zm M M<|Zm M M<|ZF M (wV M U9)<|ZF M (yB M M)<|Zm M M<|zF 18 M (fun hb=>?_) (fun hb=>?_)
  ·replace hb:=Ke hb;refine ZG M M M (zK M)<|ZG M M M (yY M M)<|ZG M M M (zK M)<|zF 21 M (fun hb=>?_) (fun hb=>?_)
   ·replace hb:=Km hb;refine ZP M<|ZP M<|ZG M M M (zJ M M)<|ZF M (zJ M M)<|zI ?_
    first|exact zU (ι:={z:Bool // z=true↔p<code.length}) ⟨true,by simp;omega⟩ (O6 rfl rfl rfl rfl rfl rfl) Jv|exact zU (ι:={z:Bool // z=true↔p<code.length}) ⟨false,by simp;omega⟩ (O6 rfl rfl rfl rfl rfl rfl) Jv|exact zU (ι:={z:Bool // z=true↔p<code.length}) ⟨kind==2,by rw[Ai];omega⟩ (O6 rfl rfl rfl rfl rfl rfl) Jv
   ·replace hb:=yR hb;refine ZG M M M (zK M)<|ZG M M M (yY M M)<|ZG M M M (zM M M)<|ZF M (zJ M M)<|zI ?_
    first|exact zU (ι:={z:Bool // z=true↔p<code.length}) ⟨true,by simp;omega⟩ (O6 rfl rfl rfl rfl rfl rfl) Jv|exact zU (ι:={z:Bool // z=true↔p<code.length}) ⟨false,by simp;omega⟩ (O6 rfl rfl rfl rfl rfl rfl) Jv|exact zU (ι:={z:Bool // z=true↔p<code.length}) ⟨kind==2,by rw[Ai];omega⟩ (O6 rfl rfl rfl rfl rfl rfl) Jv
  ·replace hb:=Kf hb;refine ZP M<|ZP M<|ZP M<|xH M M M<|xH M M M<|ZP M<|ZF M (zM M M)<|zI ?_
   first|exact zU (ι:={z:Bool // z=true↔p<code.length}) ⟨true,by simp;omega⟩ (O6 rfl rfl rfl rfl rfl rfl) Jv|exact zU (ι:={z:Bool // z=true↔p<code.length}) ⟨false,by simp;omega⟩ (O6 rfl rfl rfl rfl rfl rfl) Jv|exact zU (ι:={z:Bool // z=true↔p<code.length}) ⟨kind==2,by rw[Ai];omega⟩ (O6 rfl rfl rfl rfl rfl rfl) Jv
 ·obtain⟨z,hz⟩:=z;dsimp only;refine zW M (fun h25=>?_) (fun h25=>?_)
  ·have h24':p<code.length:=hz.1 h25;obtain⟨f',hf',hst⟩:=hj.step h24';obtain⟨s,hs⟩:∃s,s=code.drop p:=⟨_,rfl⟩;have hsl:s.length=code.length-p:=by rw[hs,Ks]
   obtain⟨a,haa⟩:∃a,a=(org+p)%4294967296:=⟨_,rfl⟩;have hau:IntKind.u32.wrap ((org:Int)+IntKind.u32.wrap (p:Int))=((a:Nat):Int):=by rw[sX,sX];omega
   have ha:a<4294967296:=by omega
   have hnx:=nxt_nx kind s a;have hsne:s≠[]:=fun e=>by rw[e] at hsl;simp only[Jz] at hsl;omega
   obtain⟨hn0,hnl,_⟩:=nxt_it hk12 hsne ha;rw[← hs,← haa] at hst;obtain⟨⟨ln,nn⟩,hx⟩:∃x,x=nxK kind s a:=⟨_,rfl⟩;rw[← hx] at hnx;dsimp only at hnx
   have nn4:nn≤1000:=by
    have h7:=nxK_le kind s a hk12;rw[← hx] at h7;exact h7
   obtain⟨X,hX⟩:∃X,X=if ln=[] then bytB (s.take nn) else ln:=⟨_,rfl⟩;rw[← hX] at hnx;rw[hnx] at hn0 hnl hst;dsimp only at hn0 hnl hst;have hol:(out++(X++([10]:Bs))).length≤full.length:=by rw[← hst];exact (List.sublist_append_left _ _).length_le
   rw[Jx] at hol;have hXl10:(X++([10]:Bs)).length=X.length+1:=by simp
   obtain⟨mn,hmn⟩:∃m:Nat,m=if 4≤s.length then 4 else s.length:=⟨_,rfl⟩
   have hmi:(if ((code.length:Nat):Int)-((p:Nat):Int)<(4:Int) then ((code.length:Nat):Int)-((p:Nat):Int) else (4:Int))=((mn:Nat):Int):=by
    rw[hmn]
    split<;>split<;>omega
   refine zL<|zP<|yV<|zX<|zZ<|Zm M M<|ZF M (wV M U9)<|Zm M M<|ZF M (xV M M (i64_in _ (by omega) (by omega))) ?_;refine uT .none M  (v:=.int .i64 ((mn:Nat):Int)) (by rw[← hmi];exact yf_min M M) ?_;refine Za M M<|ZX<|Z7r 0 1 2 7 8 9 25 M M M M M M M<|Za M M<|ZT<|yN (ι:=Unit) (fun _=>[(0,.int .i64 kind),(1,.string ⟨code.toArray⟩),(2,.int .u32 org),(7,.string ⟨out.toArray⟩),(8,.int .i64 (p:Nat)),(9,.int .i64 (nn:Nat)),(10,.string ⟨ln.toArray⟩)]) (fun _=>Hp (fun _=>False) w_0 [] [] (fun _=>True)) ?_ (fun _=>?_)
   ·refine zX<|zZ<|Zm M M<|ZF M (yY M M)<|ZT<|zW M (fun h32=>?_) (fun h32=>?_)
    ·replace h32:=Km h32;have hxk:(ln,nn)=nx1 s a:=by rw[hx,h32];exact nxK_1 s a
     refine zX<|Z9r 0 1 2 7 8 9 10 25 32 M M M M M M M M M<|Za M M<|ZX<|zZ<|Zm M M<|Zm M M<|ZF M (rK (c:=s) M M Tryz.underlying9 (by omega) (by omega) (by rw[Int.toNat_natCast,hs])) ?_;refine wl_pureE (C:=GotC s) (val:=gotV) .none M  (by kernel_rfl) M (fun w hw=>rdecode_any s (by omega) w) (fun x hgx=>?_);refine zC .none M (yS (z:=Ji) (cs:=Ju) (by kernel_rfl) M) (fun b11=>?_);refine ZR 0 M M M M M (by kernel_rfl) ?_;refine ZX<|Z10 0 1 2 7 8 9 10 11 25 32 M M M M M M M M M M<|zR (H':=Hp (fun _=>False) w_0 [(b11,bk 37 (kiC x.1++[Value.int .i64 x.2]))] [] (fun _=>True)) Jv ?_;refine zZ<|ZF M (zY (off:=7) (sz:=0) M U37 (by kernel_rfl) M) ?_;refine ZF M (zV 0 M M M U25 M)<|ZF M (yY M M)<|ZT<|zW M (fun h39=>?_) (fun h39=>?_)
     ·replace h39:=Km h39;obtain⟨y1,y2,y3,y4⟩:=gotK_yes hgx h39 a;rw[y1] at hxk;injection hxk with z1 z2;refine zX<|Z11r 0 1 2 7 8 9 10 11 25 32 39 M M M M M M M M M M M<|ZF M (zY (off:=0) (sz:=6) M U37 (by kernel_rfl) M) ?_;refine ZF M (Y35x6 M) ?_;refine ZF M (zV 0 M M M U3 M)<|Za M M<|ZT<|Z11r 0 1 2 7 8 9 10 11 25 32 39 M M M M M M M M M M M<|ZF M (zY (off:=0) (sz:=6) M U37 (by kernel_rfl) M) ?_;refine ZF M (pK (seg:=kiC x.1) 0 M M (gseg x) U35 M (by kernel_rfl)) ?_;refine Zm M M<|Zm M M ?_
      refine ZF M (yQ M (by kernel_rfl) U22 M) ?_
      refine ZF M (yO M M hau)<|zE .none M  (v:=.string ⟨(lnV x.1 a).toArray⟩) (by kernel_rfl) M (fun w hw=>rlineK_any x.1 y2 a ha w) ?_;exact Za M M<|zI<|zU (ι:=Unit) () (.cons M<|.cons M<|.cons M<|.cons M<|.cons M<|.consE M (by rw[z2,← y3])<|.consE M (by rw[z1])<|.nil) (fun w h=>Hp.drop h (Ku _) (Kh _))
     ·replace h39:=yR h39;have y1:=gotK_no hgx h39 a;rw[y1] at hxk;injection hxk with z1 z2;exact zL<|zU (ι:=Unit) () (.cons M<|.cons M<|.cons M<|.cons M<|.cons M<|.consE M (by rw[z2];rfl)<|.consE M (by rw[z1])<|.nil) (fun w h=>Hp.drop h (Ku _) (Kh _))
    ·replace h32:=yR h32;have hxq:(ln,nn)=nx2 s a:=by rw[hx,show kind=2 by omega];exact nxK_2 s a
     refine zX<|Z9r 0 1 2 7 8 9 10 25 32 M M M M M M M M M<|Zm M M<|ZF M (yY M M)<|ZT<|zW M (fun h51=>?_) (fun h51=>?_)
     ·replace h51:=Km h51
      have h4:4≤s.length:=by
       refine Classical.byContradiction fun hh=>?_;rw[Ad hh] at hmn;omega
      obtain⟨x0,x1,x2,x3,r,hsr⟩:=list4 h4;have htk:s.take 4=[x0,x1,x2,x3]:=by rw[hsr];rfl
      have hg4:getL [x0,x1,x2,x3]<4294967296:=Kn (pC [x0,x1,x2,x3]) (show 256 ^ 4≤4294967296 by decide);refine zX<|Z10r 0 1 2 7 8 9 10 25 32 51 M M M M M M M M M M<|Zm M M<|Zm M M<|ZF M (rK (c:=s) M M Tryz.underlying9 (by omega) (by omega) (by rw[Int.toNat_natCast,hs])) ?_
      refine zE .none M  (v:=.int .u32 (getL [x0,x1,x2,x3]:Nat)) (by kernel_rfl) M (fun w hw=>by
       have hrl:s.length=r.length+4:=by rw[hsr];rfl
       rw[hsr];exact rget_any x0 x1 x2 x3 r (by omega) w) ?_
      refine wl_pureE (C:=GotQ (getL [x0,x1,x2,x3])) (val:=fun x:QI×Int=>.tuple #[.agg (qiC x.1).toArray,.int .i64 x.2]) .none M  (by kernel_rfl) M (fun w hw=>rdq_call _ hg4 w) (fun x hgx=>?_);rw[← htk] at hgx hg4;refine Zm M M<|ZF M (yX M M)<|ZF M (yX M M)<|zC .none M (yS (z:=Jf) (cs:=Jp) (by kernel_rfl) M) (fun b12=>?_);refine ZR 0 M M M M M (by kernel_rfl) ?_;refine Za M M<|ZX<|Z12r 0 1 2 7 8 9 10 12 13 25 32 51 M M M M M M M M M M M M<|Zm M M<|ZF M (yY M M)<|ZT<|zW M (fun h61=>?_) (fun h61=>?_)
      ·replace h61:=Km h61;obtain⟨y1,y2,y3⟩:=gotQ_yes (by omega) hgx hg4 h61 a;rw[y1] at hxq;injection hxq with z1 z2;refine Z13r 0 1 2 7 8 9 10 12 13 25 32 51 61 M M M M M M M M M M M M M<|ZF M (yU 0 M M U74 M (by kernel_rfl)) ?_;refine Zm M M<|Zm M M ?_
       refine ZF M (yQ M (by kernel_rfl) U22 M) ?_
       refine ZF M (yO M M hau)<|zE .none M  (v:=.string ⟨(lnQV x.1 a).toArray⟩) (by kernel_rfl) M (fun w hw=>rlineQ_any x.1 y2 a ha w) ?_;exact Za M M<|zI<|zU (ι:=Unit) () (.cons M<|.cons M<|.cons M<|.cons M<|.cons M<|.consE M (by rw[z2,hmn,Ae h4])<|.consE M (by rw[z1])<|.nil) (fun w h=>Hp.drop h (Ku _) (Kh _))
      ·replace h61:=yR h61;have y1:=gotQ_no (by omega) hgx h61 a;rw[y1] at hxq;injection hxq with z1 z2;exact zL<|zU (ι:=Unit) () (.cons M<|.cons M<|.cons M<|.cons M<|.cons M<|.consE M (by rw[z2,hmn,Ae h4])<|.consE M (by rw[z1])<|.nil) (fun w h=>Hp.drop h (Ku _) (Kh _))
     ·replace h51:=yR h51
      have h4:s.length<4:=by
       refine Classical.byContradiction fun hh=>?_;rw[Ae (by omega)] at hmn;omega
      rw[nx2_short h4 a] at hxq;injection hxq with z1 z2;exact zL<|zU (ι:=Unit) () (.cons M<|.cons M<|.cons M<|.cons M<|.cons M<|.consE M (by rw[z2,hmn,Ad (by omega)])<|.consE M (by rw[z1])<|.nil) (fun w h=>Hp.drop h (Ku _) (Kh _))
   ·refine yN (ι:=Unit) (fun _=>[(0,.int .i64 kind),(1,.string ⟨code.toArray⟩),(2,.int .u32 org),(7,.string ⟨out.toArray⟩),(8,.int .i64 (p:Nat)),(9,.int .i64 (nn:Nat)),(10,.string ⟨X.toArray⟩)]) (fun _=>Hp (fun _=>False) w_0 [] [] (fun _=>True)) ?_ (fun _=>?_)
    ·refine zX<|zZ<|Zm M M<|ZF M (yE M M U9)<|ZT<|zW M (fun h69=>?_) (fun h69=>?_)
     ·have hX2:bytB (s.take nn)=X:=by rw[hX,Ae (Ke h69)]
      refine Z8r 0 1 2 7 8 9 10 69 M M M M M M M M<|Zm M M<|Zm M M<|Zm M M<|Zm M M<|ZF M (yO M M (show IntKind.i64.wrap (((p:Nat):Int)+((nn:Nat):Int))=((p+nn:Nat):Int) from i64_in ((p+nn:Nat):Int) (by omega) (by omega))) ?_;refine ZF M (yf_strSlice (c:=s.take nn) M M M Tryz.underlying9 (by omega) (by omega) (by omega) (by rw[Int.toNat_natCast,Int.toNat_natCast,Nat.add_sub_cancel_left,hs])) ?_;refine zE .none M  (v:=.string ⟨(bytB (s.take nn)).toArray⟩) (by kernel_rfl) M (fun w hw=>rbytes_any (s.take nn) (by rw[Kx];have:=nn4;omega) w) ?_;exact Za M M<|zI<|zU (ι:=Unit) () (.cons M<|.cons M<|.cons M<|.cons M<|.cons M<|.cons M<|.consE M (by rw[hX2])<|.nil) Jv
     ·have hX2:ln=X:=by rw[hX,Ad (Kf h69)]
      exact zL<|zU (ι:=Unit) () (.cons M<|.cons M<|.cons M<|.cons M<|.cons M<|.cons M<|.consE M (by rw[hX2])<|.nil) Jv
    ·refine zX<|zZ<|Zm M M<|Zm M M<|ZF M (zN M M (by omega)) ?_;refine ZF M (zN M M (by (rw[Jx,show ([10]:Bs).length=1 from rfl];omega))) ?_;refine Za M M<|ZT<|Z7r 0 1 2 7 8 9 10 M M M M M M M<|Zm M M<|Zm M M<|ZF M (yO M M (show IntKind.i64.wrap (((p:Nat):Int)+((nn:Nat):Int))=((p+nn:Nat):Int) from i64_in ((p+nn:Nat):Int) (by omega) (by omega))) ?_;exact Za M M<|zI<|yW<|yK (ι:={j:Nat×Nat×Bs // DLI kind org code 0 full ⟨j.1,j.2.1,j.2.2,none,none,0⟩}) ⟨(p+nn,f',out++(X++([10]:Bs))),⟨by show p+nn≤_;omega,by have:=hj.fu;dsimp only at this ⊢;omega,hst,.inl rfl,fun _=>rfl⟩⟩ (by show code.length-(p+nn)<code.length-p;omega) (.cons M<|.cons M<|.cons M<|.consE M (by rw[Kr])<|.cons M<|.nil) Jv
  ·have hpe:p=code.length:=by
    have:¬p<code.length:=fun h=>by rw[hz.2 h] at h25;cases h25
    omega
   have hfe:out=full:=by
    rw[hpe,List.drop_length] at hje;rw[← hje];cases f<;>simp[disF,pU]
   refine xT<|zB<|zB<|xU<|zP<|zX<|zZ<|Zm M M<|Za M M<|ZT<|zQ<|zO M M (fun w hw=>?_);exact⟨rD hfe,hw.ext0⟩
theorem disassemble_law (n:Nat) (s:Bs) (hs:s.length≤9223372036854775807) (org:Nat) (ho:org<4294967296) (w_0:World) (hw0:WOk w_0):Calls Tryz.prog 12 #[.int .u8 n,.string ⟨s.toArray⟩,.int .u32 org] w_0 fun e w'=>e=.returned (.bool true)∧Ext w_0 w':=by
 obtain⟨code,hcode⟩:∃c,c=s.take 400:=⟨_,rfl⟩;have hcl:code.length≤400:=by rw[hcode];exact List.length_take_le ..
 have hk:=kindL_12 n;refine zH (args:=[.int .u8 n,.string ⟨s.toArray⟩,.int .u32 org]) Tryz.func12 M 25 M (Kc M)<|Z3 0 1 2 M M M<|zR (H':=Hp (fun _=>False) w_0 [] [] (fun _=>True)) (fun u hu=>?_) ?_
 ·subst hu;exact Hp.start0
 refine zX<|zZ<|Za M M<|ZX<|zZ<|zE .none M  (v:=.bool true) (by kernel_rfl) M (fun w hw=>sanity_any w (hw0.ext hw.ext0)) ?_;refine Za M M<|ZX<|Z5r 0 1 2 6 7 M M M M M<|Zm M M<|zE .none M  (v:=.string ⟨code.toArray⟩) (by kernel_rfl) M (fun w hw=>by rw[hcode];exact short_any s hs 400 (by decide) w) ?_;refine Za M M<|ZX<|Z5r 0 1 2 6 7 M M M M M<|Zm M M<|Zm M M<|zF 12 M (fun hb=>?_) (fun hb=>?_)
 ·refine ZG M M M (zK M)<|zE (.some M M) M  (v:=.int .i64 (kindL n)) (by kernel_rfl) M (fun w hw=>kind_any n w) ?_;refine ZG M M M (zK M)<|ZG M M M (zK M)<|zE (.some M M) M  (v:=.string ⟨(disA (kindL n) code org).toArray⟩) (by kernel_rfl) M (fun w hw=>dis_any (kindL n) code (by omega) org ho w (hw0.ext hw.ext0)) ?_;refine ZG M M M (zK M)<|zE (.some M M) M  (v:=.int .i64 (kindL n)) (by kernel_rfl) M (fun w hw=>kind_any n w) ?_;refine ZG M M M (zK M)<|ZG M M M (zK M)<|zE (.some M M) M  (v:=.string ⟨(disA (kindL n) code org).toArray⟩) (by kernel_rfl) M (fun w hw=>rdis_any (kindL n) hk code (by omega) org ho w) ?_;refine ZG M M M (yE M M U9)<|ZF M (zJ M M)<|Za M M<|ZT<|zQ<|zO M M (fun w hw=>?_);exact⟨by rw[Aj rfl],hw.ext0⟩
 ·cases hb
end Go.Proofs.YtkaepknpplhgkaaGreatDoor
