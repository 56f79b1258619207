/- The law of parsing. -/
import Derived.Test.YtfpkpnkdnammnaaGreatDoorSs1
import Derived.Test.YtfpkpnkdnammnaaGreatDoorLs0
namespace Go.Proofs.YtfpkpnkdnammnaaGreatDoor
open Go.RowKit
theorem min_take (x:Bs) (n:Nat):x.take (Int.toNat (if (n:Int)<(x.length:Int) then (n:Int) else (x.length:Int)))=x.take n:=by
 split
 ·rfl
 ·rename_i h;rw[show Int.toNat ((x.length:Nat):Int)=x.length from rfl,List.take_length,List.take_of_length_le (by omega)]
set_option maxHeartbeats 4000000 in
set_option maxRecDepth 100000 in
theorem parses_law (s:Bs) (hs:s.length≤9223372036854775807) (ws:List Bs) (wA:Option Addr) (wc:Nat) (hw:ws.length≤9223372036854775807) (hws:∀x∈ws,x.length≤9223372036854775807) {F:Nat→Prop}(w_0:World) (hv:sW w_0) (hT:TbN w_0) (hL:RdF F wA (xG ws) w_0) :
  Calls Tryz.prog 3 #[.string ⟨s.toArray⟩,.slice wA ws.length wc] w_0 fun e w'=>e=.returned (.bool true)∧Ext w_0 w':=by
 have hA:0<ws.length→∃b off,wA=some ⟨b,off,none⟩:=fun h0=>by
  obtain⟨b,off,e,_⟩:=hL (by simpa [xG] using h0);exact⟨b,off,e⟩
 refine zC (args:=[.string ⟨s.toArray⟩,.slice wA ws.length wc]) Tryz.func3 V 57 V (Nat.le_of_ble_eq_true V)<|Z2 0 1 V V<|zI (H':=Hp (fun _=>False) w_0 [] [] (RdF F wA (xG ws))) (fun u hu=>?_) ?_
 ·subst hu;exact Hp.startT RdF.lies hL
 refine zY<|zX<|Za V V<|ZX<|zX<|yS .none V  (v:=.bool true) (by kernel_rfl) V (fun w hw=>sanity_any w (hv.ext (HpG.keep hw).ext) (hT.ext (HpG.keep hw).ext)) ?_;refine Za V V<|ZX<|Z4r 0 1 4 5 V V V V<|Za V V<|ZX<|zY<|zX<|Za V V<|ZT<|zB<|xW (ι:={j:Nat×Bs // j.1≤ws.length∧j.1≤60∧j.2.length≤15*j.1}) (fun j=>[(0,.string ⟨s.toArray⟩),(1,.slice wA ws.length wc),(5,.bool true),(6,.string ⟨j.1.2.toArray⟩),(7,.int .i64 j.1.1)]) (fun _=>Hp (fun _=>False) w_0 [] [] (RdF F wA (xG ws))) (fun j=>60-j.1.1) ⟨(0,[]),by simp⟩ ?_ ?_ (fun j=>?_)
 ·exact .cons V<|.cons V<|.cons V<|.cons V<|.cons V<|.nil
 ·exact fun w h=>h
 obtain⟨⟨i,t⟩,hi,hi6,ht⟩:=j;dsimp only at hi hi6 ht ⊢;refine zY<|wZ (ι:={y:Bool // y=true↔i<ws.length∧i<60}) (fun y=>[(0,.string ⟨s.toArray⟩),(1,.slice wA ws.length wc),(5,.bool true),(6,.string ⟨t.toArray⟩),(7,.int .i64 i),(19,.bool y.1)]) (fun _=>Hp (fun _=>False) w_0 [] [] (RdF F wA (xG ws))) ?_ (fun y=>?_)
 ·refine zX<|Zm V V<|Zm V V<|ZF V (yL V U22)<|ZF V (xM V V)<|Zm V V<|zH 16 V (fun hb=>?_) (fun hb=>?_)
  ·replace hb:=of_decide_eq_true hb;refine ZG V V V (zU V)<|ZG V V V (xM V V)<|ZF V (zT V V)<|zN<|yX (ι:={y:Bool // y=true↔i<ws.length∧i<60}) ⟨decide ((i:Int)<60),by rw[decide_eq_true_iff];omega⟩ (O6 V V V V V V) (fun w h=>h)
  ·replace hb:=of_decide_eq_false hb;refine ZP V<|ZP V<|ZF V (zM V V)<|zN<|yX (ι:={y:Bool // y=true↔i<ws.length∧i<60}) ⟨false,⟨fun h=>(by cases h),fun h=>by omega⟩⟩ (O6 V V V V V V) (fun w h=>h)
 ·obtain⟨yb,hyb⟩:=y;dsimp only;refine zQ V (fun h19=>?_) (fun h19=>?_)
  ·obtain⟨hil,hi60⟩:=hyb.1 h19;obtain⟨b,off,rfl⟩:=hA (by omega);obtain⟨x,hx⟩:∃x,ws[i]? = some x:=⟨ws[i],List.getElem?_eq_getElem hil⟩;have hxl:=hws x (List.mem_of_getElem? hx);have hx14:(x.take 14).length≤14:=by rw[List.length_take];omega
   refine zJ<|zR<|zY<|zB<|tB [0,1,2,3,4,5,6,7,8,9,10,11,12,13,14] _ (by kernel_rfl) (by kernel_rfl) HpG.stab HpG.stab (fun _ h=>HpG.drew h) (fun _ h=>h) ?_;refine Zd V V V (zU V)<|Zd V V V (zU V)<|Zd V V V (zU V)<|yY V ?_;(refine zD ?_ .none rfl (zL (es:=1) rfl rfl U22 (by kernel_rfl) rfl ?_ rfl) ?_;(· rfl);(· first|decide|omega|(simp;done)|(simp;omega));skip);refine Zd V V V (yP (v:=.string ⟨x.toArray⟩) V U9 V (fun w h=>RdF.part (HpG.x h) (by simpa [xG] using hil) (by omega) (uS hx))) ?_;refine Zd V V V (zU V)<|Zd V V V (zU V)<|yY V ?_;(refine zD ?_ .none rfl (zL (es:=1) rfl rfl U22 (by kernel_rfl) rfl ?_ rfl) ?_;(· rfl);(· first|decide|omega|(simp;done)|(simp;omega));skip);refine Zd V V V (yP (v:=.string ⟨x.toArray⟩) V U9 V (fun w h=>RdF.part (HpG.x h) (by simpa [xG] using hil) (by omega) (uS hx))) ?_;refine Zd V V V (wN V U9)<|Zd V V V (yf_min V V)<|yY V ?_;(refine zD ?_ .none rfl (tP rfl rfl U9 ?_ ?_ (min_take x 14)) ?_;(· rfl);(· split<;>omega);(· split<;>omega);skip);refine yY V ?_;(refine zD ?_ .none rfl (yN rfl rfl ?_) ?_;(· rfl);(· (first|omega|(simp only[List.length_append,List.length_cons,List.length_nil];omega)|(simp<;>omega)));skip);refine yY V ?_;(refine zD ?_ .none rfl (yN rfl rfl ?_) ?_;(· rfl);(· (first|omega|(simp only[List.length_append,List.length_cons,List.length_nil];omega)|(simp<;>omega)));skip);refine Zd V V V (uG V)<|uQ<|zG<|zR<|Z6r 0 1 5 6 7 19 V V V V V V<|Zm V V ?_;(refine ZF rfl (yG rfl rfl (i64_in _ ?_ ?_)) ?_;(· omega);(· omega);skip);refine Za V V<|zN<|yH (ι:={j:Nat×Bs // j.1≤ws.length∧j.1≤60∧j.2.length≤15*j.1}) ⟨(i+1,t++x.take 14++[32]),by dsimp only;simp only[List.length_append,List.length_cons,List.length_nil];omega⟩ (by show 60-(i+1)<60-i;omega) (O5 V V V V V) (fun w h=>h)
  ·refine yC<|zP<|zP<|yD<|zR<|zY<|zX<|Zm V V<|Zm V V<|ZF V (wN V U9)<|ZF V (yf_min V V) ?_;(refine ZF rfl (tP rfl rfl U9 ?_ ?_ (min_take s 2000)) ?_;(· split<;>omega);(· split<;>omega);skip);refine yS .none V  (v:=.bool true) (by kernel_rfl) V (fun w hw=>agrees_any (s.take 2000) (by rw[List.length_take];omega) w (hv.ext (HpG.keep hw).ext)) ?_;refine Za V V<|ZX<|Z7r 0 1 5 6 7 8 19 V V V V V V V<|Zm V V<|yS .none V  (v:=.bool true) (by kernel_rfl) V (fun w hw=>agrees_any t (by omega) w (hv.ext (HpG.keep hw).ext)) ?_;refine Za V V<|ZX<|Z8r 0 1 5 6 7 8 9 19 V V V V V V V V<|Zm V V ?_;(refine ZF rfl (yN rfl rfl ?_) ?_;(· (first|omega|(simp only[List.length_append,List.length_cons,List.length_nil];omega)|(simp<;>omega)));skip);refine yS .none V  (v:=.bool true) (by kernel_rfl) V (fun w hw=>agrees_any ([102,110,32,109,97,105,110,40,41,32,123]++t) (by simp only[List.length_append,List.length_cons,List.length_nil];omega) w (hv.ext (HpG.keep hw).ext)) ?_;refine Za V V<|ZX<|Z9r 0 1 5 6 7 8 9 10 19 V V V V V V V V V<|Zm V V<|Zm V V<|zH 48 V (fun g2=>?_) (fun g2=>?_)
   ·refine ZG V V V (zU V)<|ZF V (zT V V)<|Zm V V<|zH 51 V (fun g5=>?_) (fun g5=>?_)
    ·refine ZG V V V (zU V)<|ZF V (zT V V)<|Zm V V<|zH 54 V (fun g8=>?_) (fun g8=>?_)
     ·refine ZG V V V (zU V)<|ZF V (zT V V)<|Za V V<|ZT<|zO<|zK V V (fun w hw=>?_);exact⟨rfl,(HpG.keep hw).ext⟩
     ·cases g8
    ·cases g5
   ·cases g2
end Go.Proofs.YtfpkpnkdnammnaaGreatDoor
