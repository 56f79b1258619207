import Derived.Test.YtkaepknpplhgkaaGreatDoorMaW
import Derived.Test.YtkaepknpplhgkaaGreatDoorMaX
import Derived.Test.YtkaepknpplhgkaaGreatDoorMav
namespace Go.Proofs.YtkaepknpplhgkaaGreatDoor
open Go.RowKit
theorem pG (r:Nat) (w_0:World):Calls Tryz.prog 128 #[.int .u8 r] w_0 fun e w'=>e=.returned (.bool (rY r))∧Ext w_0 w':=by
 refine zN (args:=[.int .u8 r]) Tryz.func128 M 9 M (Kh M)<|Z1 0 M<|Z0<|zX<|zZ<|Za M M<|ZX<|zZ<|Zm M M<|ZF M (yC M M)<|Zm M M<|zQ 5 M (fun hb=>?_) (fun hb=>?_)
 ·replace hb:=Ki hb;refine Zv M<|ZG M M M (xE M M)<|Zh M<|Za M M<|ZU M M fun w hw=>⟨by congr 2;rw[Kf];simp[rY];try omega,(Kk hw).ext⟩
 replace hb:=Kj hb;refine ZP M<|ZP M<|Zf M<|Za M M<|ZU M M fun w hw=>⟨by congr 2;rw[Kf];simp[rY];try omega,(Kk hw).ext⟩
theorem qD (r:Nat) (w_0:World):Calls Tryz.prog 129 #[.int .u8 r] w_0 fun e w'=>e=.returned (.bool (uM r))∧Ext w_0 w':=by
 refine zN (args:=[.int .u8 r]) Tryz.func129 M 9 M (Kh M)<|Z1 0 M<|Z0<|zX<|zZ<|Za M M<|ZX<|zZ<|Zm M M<|ZF M (yC M M)<|Zm M M<|zQ 5 M (fun hb=>?_) (fun hb=>?_)
 ·replace hb:=Ki hb;refine Zv M<|ZG M M M (xE M M)<|Zh M<|Za M M<|ZU M M fun w hw=>⟨by congr 2;rw[Kf];simp[uM];try omega,(Kk hw).ext⟩
 replace hb:=Kj hb;refine ZP M<|ZP M<|Zf M<|Za M M<|ZU M M fun w hw=>⟨by congr 2;rw[Kf];simp[uM];try omega,(Kk hw).ext⟩
def oR (s:Bs):Int:=match pJ s with
 | .ok n=>(n:Nat)
 | .error e=>if e=24 then 4294967296 else -1
theorem numA_err {s:Bs}{e:Nat}(h:pJ s=.error e):e=20∨e=24:=by
 rw[numA_eq] at h
 split at h
 ·split at h
  ·cases h;exact .inr rfl
  ·cases h
 ·cases h;exact .inl rfl
theorem numA_ltR {s:Bs}{n:Nat}(h:pJ s=.ok n):n<4294967296:=by
 rw[numA_eq] at h
 split at h
 ·split at h
  ·cases h
  ·cases h;omega
 ·cases h
theorem wvalue_any (s:Bs) (hs:s.length≤1000000000000) (w_0:World):Calls Tryz.prog 130 #[.string ⟨s.toArray⟩] w_0 fun e w'=>e=.returned (.int .i64 (oR s))∧Ext w_0 w':=by
 have hbad:=@NuI.bad s;have hfin:=@NuI.fin s;have htl:(tlA s).length≤1000000000000:=by unfold tlA;split<;>(try rw[Kw])<;>omega
 have hb:oI s=10∨oI s=16:=by unfold oI;split<;>simp
 refine zN (args:=[.string ⟨s.toArray⟩]) Tryz.func130 M 52 M (Kh M)<|Z1 0 M<|Z0<|zX<|zZ<|Za M M<|ZX<|zZ<|Za M M<|ZT<|zB (ι:=Unit) (fun _=>[(0,.string ⟨(tlA s).toArray⟩),(3,.int .i64 (oI s))]) (fun _=>Jy w_0 [] [] (fun _=>True)) ?_ (fun _=>?_)
 ·refine zX<|zZ<|Zm M M<|ZF M (wZ M U9)<|ZF M (vS M M)<|Zm M M<|zQ 10 M (fun hb=>?_) (fun hb=>?_)
  ·replace hb:=Ki hb;refine Zv M<|ZG M M M (yf_strHi M M U9 (by omega) (by omega) M)<|ZG M M M (yZ (a:=s.take 2) (b:=[48,120]) M M Tryz.underlying9) ?_;refine Zh M<|ZT<|zT M (fun h14=>?_) (fun h14=>?_)
   ·refine zX<|Z4r 0 2 3 14 M<|Za M M<|ZT<|zZ<|Zm M M<|ZF M (rD M M U9 (by omega) (by omega) M)<|Za M M<|zS<|zU (ι:=Unit) () (.consE M (by rw[(hex_t (Ki h14) (by omega)).1];rfl)<|.consE M (by rw[(hex_t (Ki h14) (by omega)).2];rfl)<|.nil) Jz
   skip;refine zR<|zU (ι:=Unit) () (.consE M (by rw[(hex_f (fun h=>Kj h14 h.1)).1])<|.consE M (by rw[(hex_f (fun h=>Kj h14 h.1)).2];rfl)<|.nil) Jz
  replace hb:=Kj hb;refine ZP M<|ZP M<|ZP M<|Zf M<|ZT<|zD M<|zR<|zU (ι:=Unit) () (.consE M (by rw[(hex_f (fun h=>absurd h.2 (by omega))).1])<|.consE M (by rw[(hex_f (fun h=>absurd h.2 (by omega))).2];rfl)<|.nil) Jz
 unfold oR;generalize tlA s=t at *;generalize oI s=b at *;refine zX<|zZ<|Za M M<|ZX<|zX<|zZ<|Za M M<|ZT<|zJ<|yF (ι:={j:Nat×Nat×Bool // NuI b t j.1 j.2.1 j.2.2}) (fun j=>[(0,.string ⟨t.toArray⟩),(3,.int .i64 b),(4,.int .i64 j.1.2.1),(5,.int .i64 j.1.1)]) (fun _=>Jy w_0 [] [] (fun _=>True)) (fun j=>t.length-j.1.1) ⟨(0,0,false),NuI.zero _ _⟩ ?_ ?_ (fun j=>?_);exact O4 rfl;exact fun w h=>h;obtain⟨⟨i,n,lg⟩,hi⟩:=j;dsimp only at hi ⊢;have hile:=hi.le;have hnle:n≤4294967296:=by have:=hi.n;omega
 refine zX<|zX<|zZ<|Zm M M<|Zm M M<|ZF M (wZ M U9)<|ZF M (yR M M)<|ZT<|zT M (fun h20=>?_) (fun h20=>?_)
 ·replace h20:=Ki h20;skip;obtain⟨c,hc⟩:∃c,t[i]? = some c:=⟨t[i]'(by omega),Kn _⟩;have hcl:=UInt8.toNat_lt c;have hdl:tC c≤99:=digA_99 c;have hnb:n*b≤4294967296*16:=Nat.mul_le_mul hnle (by omega);refine zR<|zV<|zX<|zJ<|zX<|Z5r 0 3 4 5 20 M<|Za M M<|ZT<|zB (ι:=Unit) (fun _=>[(0,.string ⟨t.toArray⟩),(3,.int .i64 b),(4,.int .i64 n),(5,.int .i64 i),(6,.int .i64 (if uM c.toNat=true then ((c.toNat-48:Nat):Int) else 99))]) (fun _=>Jy w_0 [] [] (fun _=>True)) ?_ (fun _=>?_)
  ·refine zX<|zZ<|Zm M M<|Zm M M<|ZF M (xX M M U9 M hc)<|Zu (v:=.bool (uM c.toNat)) M (fun w hw=>qD _ w)<|ZT<|zT M (fun h26=>?_) (fun h26=>?_)
   ·have h26':48≤c.toNat∧c.toNat≤57:=by unfold uM at h26;simpa using h26
    refine Z7r 0 3 4 5 6 20 26 M<|Zm M M<|Zm M M<|ZF M (xX M M U9 M hc)<|ZF M (vL M M (Zu8 _))<|ZF M (Zc M U3 (i64_in _ (by omega) (by omega)))<|Za M M<|zS<|zU (ι:=Unit) () (.cons M<|.cons M<|.cons M<|.cons M<|.consE M (by rw[Ah h26];congr 1;omega)<|.nil) Jz
   skip;refine zR<|zU (ι:=Unit) () (.cons M<|.cons M<|.cons M<|.cons M<|.consE M (by rw[Ag (by rw[h26];simp)])<|.nil) Jz
  skip;refine zB (ι:=Unit) (fun _=>[(0,.string ⟨t.toArray⟩),(3,.int .i64 b),(4,.int .i64 n),(5,.int .i64 i),(6,.int .i64 (tC c))]) (fun _=>Jy w_0 [] [] (fun _=>True)) ?_ (fun _=>?_)
  ·refine zX<|zZ<|Zm M M<|Zm M M<|ZF M (xX M M U9 M hc)<|Zu (v:=.bool (rY c.toNat)) M (fun w hw=>pG _ w)<|ZT<|zT M (fun h35=>?_) (fun h35=>?_)
   ·have h35':97≤c.toNat∧c.toNat≤122:=by unfold rY at h35;simpa using h35
    have hd35:uM c.toNat=false:=by unfold uM;simp;omega
    refine Z6r 0 3 4 5 6 35 M<|Zm M M<|Zm M M<|ZF M (xX M M U9 M hc)<|ZF M (vL M M (Zu8 _))<|ZF M (Zc M U3 (i64_in _ (by omega) (by omega)))<|ZF M (zF M M (i64_in _ (by omega) (by omega)))<|Za M M<|zS<|zU (ι:=Unit) () (.cons M<|.cons M<|.cons M<|.cons M<|.consE M (by rw[digA_l hd35 h35];congr 1;omega)<|.nil) Jz
   skip;refine zR ?_
   refine zU (ι:=Unit) () (.cons M<|.cons M<|.cons M<|.cons M<|.consE M (by
    cases hd:uM c.toNat with
    | true=>rw[Ah rfl,digA_d hd]
    | false=>rw[Ag (by simp),digA_n hd h35];rfl)<|.nil) Jz
  skip;refine zX<|zX<|zZ<|Zm M M<|Zm M M<|ZF M (yC M M)<|ZT<|zT M (fun h44=>?_) (fun h44=>?_)
  ·replace h44:=Ki h44;have hb20:=hbad hi hc (by omega);refine zX<|Z6r 0 3 4 5 6 44 M<|Za M M<|ZT<|zK<|zW<|zM<|zW<|zW<|zM<|zW<|yY M M (fun w hw=>?_);refine⟨?_,(Kk hw).ext⟩;rw[hb20];rfl
  replace h44:=Kj h44;refine zR<|zV<|Z6r 0 3 4 5 6 44 M<|Zm M M<|Zm M M<|ZF M (vE M M (Zi64 _))<|Zm M M<|ZF M (zF M M (Zi64 _))<|ZF M (yf_min M M)<|Za M M<|zS<|zH<|zV<|Z6r 0 3 4 5 6 44 M<|Zm M M<|ZF M (zF M M (i64_in _ (by omega) (by omega)))<|Za M M<|zS<|yV (ι:={j:Nat×Nat×Bool // NuI b t j.1 j.2.1 j.2.2}) ⟨(i+1,(if 4294967296≤n*b+tC c then 4294967296 else n*b+tC c),(if 4294967296≤n*b+tC c then true else lg)),hi.step hc (by omega) (by omega) (by omega)⟩ (by show t.length-(i+1)<t.length-i;omega) (.cons M<|.cons M<|.consE M (by dsimp only;congr 1;(repeat' split)<;>omega)<|.cons M<|.nil) Jz
 replace h20:=Kj h20;skip;obtain rfl:i=t.length:=by omega
 have hf:=hfin hi;refine yM<|zP<|zP<|yN<|zV<|zX<|Z5r 0 3 4 5 20 M<|Zm M M<|Za M M<|ZU M M (fun w hw=>?_);refine⟨?_,(Kk hw).ext⟩;rw[hf];have h1:=hi.lg;have h2:=hi.n
 split
 ·next n9 hn9 =>
  split at hn9
  ·cases hn9
  ·cases hn9;rfl
 ·next e9 he9 =>
  split at he9
  ·next hlg =>
   cases he9;rw[Ah rfl];rw[hlg] at h1;have:=Ki h1.symm;congr 2;omega
  ·cases he9
end Go.Proofs.YtkaepknpplhgkaaGreatDoor
namespace Go.Proofs.YtkaepknpplhgkaaGreatDoor
open Go.RowKit
theorem digit_ex {c:UInt8}(h:vU c=true):∃k,k<10∧c=UInt8.ofNat (48+k):=by
 unfold vU uM at h;simp only[Ab,Af] at h;exact⟨c.toNat-48,by omega,by rw[show 48+(c.toNat-48)=c.toNat by omega,UInt8.ofNat_toNat]⟩
theorem reg_2:∀k,k<10→∀b:Bool,regG [114,UInt8.ofNat (48+k)] (if b then 16 else 8) 0=if (if b then 15 else 7)<k then -1 else (k:Int):=by decide
theorem val_1:∀k,k<10→oR [UInt8.ofNat (48+k)]=(k:Int):=by decide
theorem reg_3:∀k,k<10→∀j,j<10→∀b:Bool,regG [114,UInt8.ofNat (48+k),UInt8.ofNat (48+j)] (if b then 16 else 8) 0=if k=0∨(if b then 15 else 7)<10*k+j then -1 else ((10*k+j:Nat):Int):=by decide
theorem val_2:∀k,k<10→∀j,j<10→oR [UInt8.ofNat (48+k),UInt8.ofNat (48+j)]=((10*k+j:Nat):Int):=by decide
theorem rnm_len (i:Nat):(rnmA i).length≤3:=by unfold rnmA;split<;>simp
theorem reg_long {s:Bs}(h:3<s.length):∀f i,regG s f i=-1
 | 0,_=>rfl
 | f+1,i=>by
  rw[regG_step,Ag (fun e=>by have:=rnm_len i;rw[← e] at this;omega)];exact reg_long h f (i+1)
def rgR (kind:Int) (s:Bs):Int:=if uC s=true then (if 0≤tR kind s then tR kind s else -2) else -1
theorem dig_48:∀k,k<10→((UInt8.ofNat (48+k)).toNat=48↔k=0):=by decide
theorem reg_num {kind:Int}{s:Bs}(h:uC s=true):tR kind s=if 3<s.length∨(if kind=2 then 15 else 7)<oR (s.drop 1)∨(s.length=3∧∃c,s[1]? = some c∧c.toNat=48) then -1 else oR (s.drop 1):=by
 unfold uC at h;simp only[Ab,Af] at h;obtain⟨⟨h1,h2⟩,h3⟩:=h;have hm:∀t,regG t (tG kind) 0=regG t (if decide (kind=2) then 16 else 8) 0:=fun t=>by unfold tG;simp
 unfold tR
 by_cases hl:3<s.length
 rw[reg_long hl,Ah (.inl hl)]
 match s,h1,h2,h3,hl with
 | [a,b],_,h2,h3,_ =>
  have ha:a=114:=by simpa using h2
  have hb:vU b=true:=by simpa using h3
  obtain⟨k,hk,rfl⟩:=digit_ex hb;subst ha;rw[hm,reg_2 k hk,show ([114,UInt8.ofNat (48+k)]:Bs).drop 1=[UInt8.ofNat (48+k)] from rfl,val_1 k hk]
  by_cases h9:kind=2
  ·simp only[h9,decide_true,if_true];simp
   split<;>split<;>omega
  simp only[h9,decide_false,if_false];simp
  split<;>split<;>omega
 | [a,b,c],_,h2,h3,_ =>
  have ha:a=114:=by simpa using h2
  have hb:vU b=true∧vU c=true:=by simpa using h3
  obtain⟨k,hk,rfl⟩:=digit_ex hb.1;obtain⟨j,hj,rfl⟩:=digit_ex hb.2;subst ha;rw[hm,reg_3 k hk j hj,show ([114,UInt8.ofNat (48+k),UInt8.ofNat (48+j)]:Bs).drop 1=[UInt8.ofNat (48+k),UInt8.ofNat (48+j)] from rfl,val_2 k hk j hj]
  have e:(∃c,([114,UInt8.ofNat (48+k),UInt8.ofNat (48+j)]:Bs)[1]? = some c∧c.toNat=48)↔k=0:=by
   rw[← dig_48 k hk];exact⟨fun ⟨c,h1,h2⟩=>by cases h1;exact h2,fun h=>⟨_,rfl,h⟩⟩
  by_cases h9:kind=2
  ·simp only[h9,decide_true,if_true,e];simp
   split<;>split<;>omega
  simp only[h9,decide_false,if_false,e];simp
  split<;>split<;>omega
 | a::b::c::d::r,_,_,_,hl=>exact absurd (by simp) hl
theorem val_rng {s:Bs}(h:uC s=true):0≤oR (s.drop 1)∧oR (s.drop 1)≤4294967296:=by
 unfold uC at h;simp only[Ab,Af] at h;unfold oR
 cases hn:pJ (s.drop 1) with
 | ok n=>have:=numA_lt hn;dsimp only;omega
 | error e =>
  rcases numA_err hn with rfl|rfl
  ·exfalso
   rw[numA_eq] at hn;have hx:∀c∈s.drop 1,vU c=true:=List.all_eq_true.1 h.2
   have hh:¬((s.drop 1).take 2=[48,120]∧2<(s.drop 1).length):=fun ⟨h1,_⟩=>by
    have:(120:UInt8)∈s.drop 1:=List.mem_of_mem_take (i:=2) (by rw[h1];simp);have:=hx _ this
    revert this;decide
   obtain⟨e1,e2⟩:=hex_f hh;rw[e1,e2,Ah (List.all_eq_true.2 fun c hc=>An (by rw[digA_d (hx c hc)];have:=hx c hc;unfold vU uM at this;simp only[Ab,Af] at this;omega))] at hn
   split at hn<;>cases hn
  show (0:Int)≤4294967296∧(4294967296:Int)≤4294967296;omega
theorem oU (kind:Int) (s:Bs) (hs:s.length≤1000000000000) (w_0:World):Calls Tryz.prog 183 #[.int .i64 kind,.string ⟨s.toArray⟩] w_0 fun e w'=>e=.returned (.int .i64 (rgR kind s))∧Ext w_0 w':=by
 have hno:¬(1<s.length∧s.take 1=[114]∧(s.drop 1).all vU=true)→rgR kind s=-1:=fun h=>Ag fun h'=>h (by unfold uC at h';simp only[Ab,Af] at h';exact⟨h'.1.1,h'.1.2,h'.2⟩);have hyes:1<s.length→s.take 1=[114]→(s.drop 1).all vU=true→uC s=true:=fun h1 h2 h3=>by unfold uC;rw[An h1,An h2,h3];rfl
 refine zN (args:=[.int .i64 kind,.string ⟨s.toArray⟩]) Tryz.func183 M 51 M (Kh M)<|Z2 0 1 M<|Z0<|zX<|zZ<|Za M M<|ZX<|zB (ι:={x:Bool // x=true↔¬(1<s.length∧s.take 1=[114])}) (fun x=>[(0,.int .i64 kind),(1,.string ⟨s.toArray⟩),(15,.bool x.1)]) (fun _=>Jy w_0 [] [] (fun _=>True)) ?_ (fun x=>?_)
 ·refine zZ<|Zm M M<|ZF M (wZ M U9)<|ZF M (yR M M)<|Zm M M<|zQ 11 M (fun hb=>?_) (fun hb=>?_)
  ·replace hb:=Ki hb;refine ZP M<|ZP M<|ZP M<|Zh M<|zS ?_;exact zU (ι:={x:Bool // x=true↔¬(1<s.length∧s.take 1=[114])}) ⟨true,⟨fun _ h=>by omega,fun _=>rfl⟩⟩ (O3 M) Jz
  replace hb:=Kj hb;skip;obtain⟨c0,hc0⟩:∃c,s[0]? = some c:=⟨s[0]'(by omega),Kn _⟩
  have htk:s.take 1=[c0]:=by
   match s,hc0 with
   | a::r,h=>cases h;rfl
  refine Zv M<|ZG M M M (xX M M U9 M hc0)<|ZG M M M (xF M M)<|Zf M<|zS ?_
  exact zU (ι:={x:Bool // x=true↔¬(1<s.length∧s.take 1=[114])}) ⟨_,⟨fun h h2=>by
    rw[htk] at h2;have:=h2.2;cases this
    revert h;decide,fun h=>by
    have h9:((c0.toNat:Int)==114)=false:=beq_eq_false_iff_ne.2 fun e=>h ⟨by omega,by rw[htk,(xC 114).2 e]⟩
    rw[h9]⟩⟩ (O3 rfl) Jz
 obtain⟨x,hx⟩:=x;dsimp only;refine zT M (fun h15=>?_) (fun h15=>?_)
 ·have hnr:=hno fun h=>(hx.1 h15) ⟨h.1,h.2.1⟩;refine zX<|zZ<|Za M M<|ZT<|zK<|zW<|yY M M fun w hw=>⟨by rw[hnr],(Kk hw).ext⟩
 skip;have hx15:1<s.length∧s.take 1=[114]:=Classical.byContradiction fun h=>by rw[hx.2 h] at h15;cases h15
 refine zR<|zV<|zX<|zX<|zZ<|Za M M<|ZT<|zJ<|yF (ι:={i:Nat // 1≤i∧i≤s.length∧∀j c,1≤j→j<i→s[j]? = some c→vU c=true}) (fun i=>[(0,.int .i64 kind),(1,.string ⟨s.toArray⟩),(5,.int .i64 i.1)]) (fun _=>Jy w_0 [] [] (fun _=>True)) (fun i=>s.length-i.1) ⟨1,Ae _,by omega,fun j c h1 h2=>by omega⟩ ?_ ?_ (fun i=>?_);exact O3 rfl;exact fun w h=>h;obtain⟨i,hi1,hile,hi⟩:=i;dsimp only;refine zX<|zX<|zZ<|Zm M M<|Zm M M<|ZF M (wZ M U9)<|ZF M (yR M M)<|ZT<|zT M (fun h19=>?_) (fun h19=>?_)
 ·replace h19:=Ki h19;skip;obtain⟨c,hc⟩:∃c,s[i]? = some c:=⟨s[i]'(by omega),Kn _⟩;refine zR<|zV<|zX<|zJ<|zX<|Z4r 0 1 5 19 M<|Zm M M<|Zm M M<|ZF M (xX M M U9 M hc)<|Zu (v:=.bool (uM c.toNat)) M (fun w hw=>qD _ w)<|ZF M (xO M)<|ZT<|zT M (fun h26=>?_) (fun h26=>?_)
  ·have hnr:=hno fun h=>by
    have h9:=List.all_eq_true.1 h.2.2 c (Ko (i:=i-1) (by rw[List.getElem?_drop,show 1+(i-1)=i by omega];exact hc));rw[show vU c=uM c.toNat from rfl] at h9;rw[h9] at h26;cases h26
   refine zX<|Z5r 0 1 5 19 26 M<|Za M M<|ZT<|zK<|zM<|zW<|zW<|zM<|zW<|yY M M fun w hw=>⟨by rw[hnr],(Kk hw).ext⟩
  skip;refine zR<|zH<|zV<|Z5r 0 1 5 19 26 M<|Zm M M<|ZF M (zF M M (i64_in _ (by omega) (by omega)))<|Za M M<|zS ?_
  refine yV (ι:={i:Nat // 1≤i∧i≤s.length∧∀j c,1≤j→j<i→s[j]? = some c→vU c=true}) ⟨i+1,by omega,by omega,fun j d h1 h2 hd=>by
    rcases Nat.lt_or_ge j i with h5|h5;exact hi j d h1 h5 hd;have:j=i:=by omega
    subst this;rw[hc] at hd;cases hd;rw[show vU c=uM c.toNat from rfl]
    simpa using h26⟩ (by show s.length-(i+1)<s.length-i;omega) (O3 rfl) Jz
 replace h19:=Kj h19;skip
 have hnb:uC s=true:=hyes hx15.1 hx15.2 (List.all_eq_true.2 fun c hc=>by
  obtain⟨j,hj,e⟩:=List.getElem_of_mem hc;have:s[1+j]? = some c:=by rw[← List.getElem?_drop,Kn hj,e]
  exact hi (1+j) c (by omega) (by have:=(Kg.1 this).1;omega) this)
 have hrn:=reg_num (kind:=kind) hnb;have hvr:=val_rng hnb;have hgr:rgR kind s=if 0≤tR kind s then tR kind s else -2:=Ah hnb;refine yM<|zP<|zP<|yN<|zV<|zX<|Z4r 0 1 5 19 M<|Zm M M<|ZF M (rD M M U9 (by omega) (by omega) M)<|Zu (v:=.int .i64 (oR (s.drop 1))) M (fun w hw=>wvalue_any _ (by rw[Kw];omega) w) ?_;refine Za M M<|ZX<|Z5r 0 1 5 6 19 M<|Za M M<|ZT<|zB (ι:=Unit) (fun _=>[(0,.int .i64 kind),(1,.string ⟨s.toArray⟩),(6,.int .i64 (oR (s.drop 1))),(7,.int .i64 (if kind=2 then 15 else 7))]) (fun _=>Jy w_0 [] [] (fun _=>True)) ?_ (fun _=>?_)
 ·refine zX<|zZ<|Zm M M<|Ze M<|ZT<|zT M (fun h31=>?_) (fun h31=>?_)
  ·replace h31:=Kq h31;refine Z7r 0 1 5 6 7 19 31 M<|Za M M<|zS ?_;exact zU (ι:=Unit) () (.cons M<|.cons M<|.cons M<|.consE M (by rw[Ah h31])<|.nil) Jz
  replace h31:=yT h31;refine zR ?_;exact zU (ι:=Unit) () (.cons M<|.cons M<|.cons M<|.consE M (by rw[Ag h31])<|.nil) Jz
 generalize oR (s.drop 1)=n at *;refine zX<|zB (ι:={x:Bool // x=true↔(3<s.length∨(if kind=2 then 15 else 7)<n∨(s.length=3∧∃c,s[1]? = some c∧c.toNat=48))}) (fun x=>[(6,.int .i64 n),(49,.bool x.1)]) (fun _=>Jy w_0 [] [] (fun _=>True)) ?_ (fun x=>?_)
 ·refine zZ<|Zm M M<|ZF M (wZ M U9)<|ZF M (vS M M)<|Zm M M<|zQ 35 M (fun hb=>?_) (fun hb=>?_)
  ·replace hb:=Ki hb;refine ZP M<|ZP M<|ZP M<|Zh M<|Zm M M<|ZP M<|ZP M<|ZP M<|ZP M<|zE M M M<|zE M M M<|zE M M M<|ZP M<|Zh M<|zS ?_;have h9:true=true↔(3<s.length∨(if kind=2 then 15 else 7)<n∨(s.length=3∧∃c,s[1]? = some c∧c.toNat=48)):=⟨fun _=>.inl (by omega),fun _=>rfl⟩;exact zU ⟨true,h9⟩ (O2 M) Jz
  replace hb:=Kj hb;refine Zv M<|Zv M<|ZG M M M (vS M M)<|Zf M<|Zm M M<|zQ 40 M (fun hb=>?_) (fun hb=>?_)
  ·replace hb:=Ki hb;refine ZP M<|ZP M<|ZP M<|ZP M<|zE M M M<|zE M M M<|zE M M M<|ZP M<|Zh M<|zS ?_;have h9:true=true↔(3<s.length∨(if kind=2 then 15 else 7)<n∨(s.length=3∧∃c,s[1]? = some c∧c.toNat=48)):=⟨fun _=>.inr (.inl (by omega)),fun _=>rfl⟩;exact zU ⟨true,h9⟩ (O2 M) Jz
  replace hb:=Kj hb;refine Zv M<|ZG M M M (wZ M U9)<|Zx M<|Zv M<|zQ 44 M (fun hb=>?_) (fun hb=>?_)
  ·replace hb:=Kq hb;skip;obtain⟨c1,hc1⟩:∃c,s[1]? = some c:=⟨s[1]'(by omega),Kn _⟩;refine Zv M<|ZG M M M (xX M M U9 M hc1)<|Zx M<|ZG M M M (yA M M)<|Zf M<|zS<|zU ⟨(c1.toNat:Int)==48,?_⟩ (O2 M) Jz
   exact⟨fun h=>.inr (.inr ⟨by omega,c1,hc1,by rw[(xC (c:=c1) 48).2 (Kq h)];rfl⟩),fun h=>by
     rcases h with h|h|⟨_,c,h1,h2⟩;omega;omega;rw[hc1] at h1;cases h1
     exact Am.2 (by rw[h2];rfl)⟩
  replace hb:=yT hb;refine ZP M<|ZP M<|ZP M<|ZG M M M (yD M M)<|Zf M<|zS ?_
  have h9:false=true↔(3<s.length∨(if kind=2 then 15 else 7)<n∨(s.length=3∧∃c,s[1]? = some c∧c.toNat=48)):=⟨fun h=>(by cases h),fun h=>by
    rcases h with h|h|⟨h,_⟩<;>omega⟩
  exact zU ⟨false,h9⟩ (O2 M) Jz
 obtain⟨y,hy⟩:=x;dsimp only;refine zT M (fun h49=>?_) (fun h49=>?_)
 ·refine zX<|zZ<|Za M M<|ZT<|zK<|zW<|yY M M (fun w hw=>?_);refine⟨?_,(Kk hw).ext⟩;rw[Ah (hy.1 h49)] at hrn;rw[hgr,hrn];rfl
 skip;refine zR<|zV<|zX<|zZ<|Zm M M<|Za M M<|ZU M M (fun w hw=>?_);refine⟨?_,(Kk hw).ext⟩;rw[Ag (fun h=>by rw[hy.2 h] at h49;cases h49)] at hrn;rw[hgr,hrn,Ah hvr.1]
end Go.Proofs.YtkaepknpplhgkaaGreatDoor
namespace Go.Proofs.YtkaepknpplhgkaaGreatDoor
open Go.RowKit
def nQ (s:Bs):Bool:=decide (¬(32<s.length∨(46:UInt8)∈s∨uC s=true))
theorem rgR_1 (kind:Int) (s:Bs):rgR kind s=-1↔¬uC s=true:=by
 unfold rgR
 split
 ·next h =>
  constructor
  ·intro h9
   split at h9<;>omega
  intro h9;exact absurd h h9
 ·next h=>exact⟨fun _=>h,fun _=>rfl⟩
theorem wname_any (s:Bs) (hs:s.length≤1000000000000) (w_0:World):Calls Tryz.prog 132 #[.string ⟨s.toArray⟩] w_0 fun e w'=>e=.returned (.bool (nQ s))∧Ext w_0 w':=by
 refine zN (args:=[.string ⟨s.toArray⟩]) Tryz.func132 M 22 M (Kh M)<|Z1 0 M<|Z0<|zX<|zZ<|Za M M<|ZX<|zX<|zZ<|Za M M<|ZT<|zJ<|yF (ι:={i:Nat // i≤s.length∧∀j,j<i→s[j]? ≠ some 46}) (fun i=>[(0,.string ⟨s.toArray⟩),(3,.int .i64 i.1)]) (fun _=>Jy w_0 [] [] (fun _=>True)) (fun i=>s.length-i.1) ⟨0,Ad _,fun j h=>absurd h (by omega)⟩ (O2 M) Jz (fun i=>?_);obtain⟨i,hile,hi⟩:=i;dsimp only;refine zX<|zX<|zZ<|Zm M M<|Zm M M<|ZF M (wZ M U9)<|ZF M (yR M M)<|ZT<|zT M (fun h7=>?_) (fun h7=>?_)
 ·replace h7:=Ki h7;skip;obtain⟨c,hc⟩:∃c,s[i]? = some c:=⟨s[i]'(by omega),Kn _⟩;refine zR<|zV<|zX<|zJ<|zX<|Z3r 0 3 7 M<|Zm M M<|Zm M M<|ZF M (xX M M U9 M hc)<|Ze M<|ZT<|zT M (fun h13=>?_) (fun h13=>?_)
  ·replace h13:=Kq h13
   have hb:nQ s=false:=Ao (fun h=>h (.inr (.inl (by
    have:c=46:=(xC 46).2 h13;subst this
    exact Ko hc))))
   refine zX<|Z4r 0 3 7 13 M<|Za M M<|ZT<|zK<|zM<|zW<|zW<|zM<|zW<|yY M M fun w hw=>⟨by rw[hb],(Kk hw).ext⟩
  replace h13:=yT h13;refine zR<|zH<|zV<|Z4r 0 3 7 13 M<|Zm M M<|ZF M (zF M M (i64_in _ (by omega) (by omega)))<|Za M M<|zS ?_
  refine yV ⟨i+1,by omega,fun j h2 hd=>by
    rcases Nat.lt_or_ge j i with h5|h5;exact hi j h5 hd;have:j=i:=by omega
    subst this;rw[hc] at hd;cases hd
    exact h13 rfl⟩ (by show s.length-(i+1)<s.length-i;omega) (O2 rfl) Jz
 replace h7:=Kj h7;skip
 have hno:(46:UInt8)∉s:=fun h=>by
  obtain⟨j,hj,e⟩:=List.getElem_of_mem h;exact hi j (by omega) (by rw[Kn hj,e])
 refine yM<|zP<|zP<|yN<|zV<|zX<|Z3r 0 3 7 M<|Zm M M<|ZF M (wZ M U9)<|ZF M (xE M M)<|Zm M M<|zQ 17 M (fun hb=>?_) (fun hb=>?_)
 ·replace hb:=Ki hb;refine Zv M<|xW (.some M M) M  (v:=.int .i64 (rgR 1 s)) (by kernel_rfl) M (fun w hw=>oU 1 s hs w)<|Zx M<|Zh M<|Za M M<|ZU M M (fun w hw=>?_);refine⟨?_,(Kk hw).ext⟩;congr 2;unfold nQ;rw[show ((rgR 1 s) == -1)=decide (rgR 1 s=-1) by rw[Kf,Am,decide_eq_true_iff],decide_eq_decide,rgR_1];exact⟨fun h h9=>h9.elim (fun h=>by omega) fun h9=>h9.elim hno h,fun h h9=>h (.inr (.inr h9))⟩
 replace hb:=Kj hb;refine ZP M<|ZP M<|ZP M<|Zf M<|Za M M<|ZU M M (fun w hw=>?_);refine⟨?_,(Kk hw).ext⟩;congr 2;exact (Ao (fun h=>h (.inl (by omega)))).symm
def rkd (k:Nat):Int:=if k=119 then 1 else if k=48 then 2 else 3
abbrev tkR (t:ATk):List Value:=[.int .i64 (rkd t.kind),.string ⟨t.s.toArray⟩,.int .u32 t.n]
structure TV where
 l:List ATk
 g:Nat
 off:Nat
 cap:Nat
structure TvA (V:TV) (A:Option Addr):Prop where
 cap:V.l.length≤V.cap
 big:V.cap≤maxLen
 at_:V.l≠[]→A=some ⟨V.g,V.off,none⟩
 ok:∀t∈V.l,(t.kind=119∨t.kind=48∨t.kind=115)∧t.s.length≤2000000∧t.n<4294967296
def TvX (V:TV) (w:World):Prop:=∀k t,V.l[k]? = some t→∀j v,(tkR t)[j]? = some v→w.cell? ⟨V.g,V.off+3*k+j,none⟩=some v
theorem TvX.foot {V:TV}{w w':World}(h:TvX V w) (hk:V.l≠[]→w'.heap[V.g]? = w.heap[V.g]?):TvX V w':=fun k t ht j v hv=>by
 rw[World.cell?_of_block (hk (fun e=>by rw[e] at ht;cases ht))];exact h k t ht j v hv
theorem TvX.lt {V:TV}{w:World}(h:TvX V w) (hl:V.l≠[]):V.g<w.heap.size:=by
 obtain⟨l,g,off,cap⟩:=V
 cases l with
 | nil=>exact absurd rfl hl
 | cons t l=>exact World.block_lt_of_cell? _ _ (h 0 t rfl 0 _ rfl)
theorem Hp.startTv {V:TV}{w:World}(h:TvX V w):Jy w [] [] (TvX V) w :=
 Hp.start ⟨fun k=>V.l≠[]∧k=V.g,fun k hk=>⟨by rw[hk.2];exact h.lt hk.1,id⟩,fun u hu=>h.foot fun h=>hu _ ⟨h,rfl⟩⟩
theorem rkd_1 {k:Nat}(h:k=119∨k=48∨k=115):(rkd k=1↔k=119)∧(rkd k=2↔k=48)∧(rkd k=3↔k=115):=by
 rcases h with h|h|h<;>subst h<;>decide
theorem isA_at (x:Bs) (l:List ATk) (k:Nat):isA x (l.drop k)=match l[k]? with
  | some t=>decide (t.kind=115)&&decide (t.s=x)
  | none=>false:=by
 cases h:l[k]? with
 | none=>rw[Aj (List.getElem?_eq_none_iff.1 h)];rfl
 | some t =>
  obtain⟨h1,h2⟩:=Kg.1 h;rw[List.drop_eq_getElem_cons h1,h2];rfl
theorem uQ (V:TV) (A:Option Addr) (hA:TvA V A) (k:Nat) (x:Bs) (w_0:World) (hX:TvX V w_0):Calls Tryz.prog 131 #[.slice A V.l.length V.cap,.int .i64 k,.string ⟨x.toArray⟩] w_0 fun e w'=>e=.returned (.bool (isA x (V.l.drop k)))∧Ext w_0 w':=by
 have hcp:=hA.cap;have hbg:=hA.big;unfold maxLen at hbg;rw[isA_at];refine zN (args:=[.slice A V.l.length V.cap,.int .i64 k,.string ⟨x.toArray⟩]) Tryz.func131 M 28 M (Kh M)<|Z3 0 1 2 M<|zG (H':=Jy w_0 [] [] (TvX V)) (fun u hu=>?_) ?_;subst hu;exact Hp.startTv hX;refine zX<|zZ<|Za M M<|ZX<|zZ<|Zm M M<|Zm M M<|ZF M (yK M U113)<|ZF M (yR M M)<|Zm M M<|zQ 11 M (fun g5=>?_) (fun g5=>?_)
 ·replace g5:=Ki g5;obtain⟨t,ht⟩:∃t,V.l[k]? = some t:=⟨V.l[k]'(by omega),Kn _⟩;have hA2:=hA.at_ (fun e=>by rw[e] at ht;cases ht);have htk:=rkd_1 (hA.ok t (Ko ht)).1;refine Zv M<|Zv M<|ZG M M M (Zi (j:=k) (es:=3) (g:=V.g) (o:=V.off) (len:=V.l.length) (cap:=V.cap) (congrArg (fun z=>some (Value.slice z V.l.length V.cap)) hA2) M Tryz.underlying113 M (by omega) M) ?_;refine ZG M M M (Y190x0 M) ?_;refine ZG M M M (zL M U3 M (fun w hw=>by have:=HpG.x hw k t ht 0 _ rfl;rw[Nat.mul_comm 3 k] at this;exact this)) ?_;refine Zx M<|Zh M<|Zm M M<|zQ 19 M (fun g13=>?_) (fun g13=>?_)
  ·replace g13:=Kq g13;refine Zv M<|Zv M<|ZG M M M (Zi (j:=k) (es:=3) (g:=V.g) (o:=V.off) (len:=V.l.length) (cap:=V.cap) (congrArg (fun z=>some (Value.slice z V.l.length V.cap)) hA2) M Tryz.underlying113 M (by omega) M) ?_;refine ZG M M M (Y190x1 M) ?_;refine ZG M M M (zL M U9 M (fun w hw=>by have:=HpG.x hw k t ht 1 _ rfl;rw[Nat.mul_comm 3 k] at this;exact this)) ?_;refine Zv M<|ZG M M M (yZ M M U9)<|Zh M<|Za M M<|ZU M M fun w hw=>⟨by rw[ht];dsimp only;rw[An (show t.kind=115 from htk.2.2.1 g13),Bool.true_and],(Kk hw).ext⟩
  replace g13:=yT g13;refine ZP M<|ZP M<|ZP M<|ZP M<|ZP M<|ZP M<|ZP M<|Zf M<|Za M M<|ZU M M fun w hw=>⟨by rw[ht];dsimp only;rw[Ao (show ¬t.kind=115 from fun h=>g13 (htk.2.2.2 h)),Bool.false_and],(Kk hw).ext⟩
 replace g5:=Kj g5;refine ZP M<|ZP M<|ZP M<|ZP M<|ZP M<|ZP M<|Zf M<|Zm M M<|ZP M<|ZP M<|ZP M<|ZP M<|ZP M<|ZP M<|ZP M<|Zf M<|Za M M<|ZU M M fun w hw=>⟨by rw[List.getElem?_eq_none (show V.l.length≤k by omega)],(Kk hw).ext⟩
end Go.Proofs.YtkaepknpplhgkaaGreatDoor
namespace Go.Proofs.YtkaepknpplhgkaaGreatDoor
open Go.RowKit
def xI (kind:Int) (l:List ATk) (k:Nat):Int:=match l[k]? with
 | some t=>if t.kind=119 then rgR kind t.s else -1
 | none=>-1
def rP (l:List ATk) (k:Nat):Bool:=match l[k]? with
 | some t=>decide (t.kind=48)
 | none=>false
theorem wreg_any (kind:Int) (V:TV) (A:Option Addr) (hA:TvA V A) (k:Nat) (w_0:World) (hX:TvX V w_0):Calls Tryz.prog 229 #[.int .i64 kind,.slice A V.l.length V.cap,.int .i64 k] w_0 fun e w'=>e=.returned (.int .i64 (xI kind V.l k))∧Ext w_0 w':=by
 have hcp:=hA.cap;have hbg:=hA.big;unfold maxLen at hbg;unfold xI;refine zN (args:=[.int .i64 kind,.slice A V.l.length V.cap,.int .i64 k]) Tryz.func229 M 26 M (Kh M)<|Z3 0 1 2 M<|zG (H':=Jy w_0 [] [] (TvX V)) (fun u hu=>?_) ?_;subst hu;exact Hp.startTv hX;refine zX<|zZ<|Za M M<|ZX<|zB (ι:={z:Bool // z=true↔¬∃t,V.l[k]? = some t∧t.kind=119}) (fun z=>[(0,.int .i64 kind),(1,.slice A V.l.length V.cap),(2,.int .i64 k),(18,.bool z.1)]) (fun _=>Jy w_0 [] [] (TvX V)) ?_ (fun z=>?_)
 ·refine zZ<|Zm M M<|Zm M M<|ZF M (yK M U113)<|ZF M (yC M M)<|Zm M M<|zQ 11 M (fun g5=>?_) (fun g5=>?_)
  ·replace g5:=Ki g5;refine ZP M<|ZP M<|ZP M<|ZP M<|ZP M<|ZP M<|Zh M<|zS ?_;exact zU ⟨true,⟨fun _ ⟨t,ht,_⟩=>by have:=(Kg.1 ht).1;omega,fun _=>rfl⟩⟩ (O4 M) Jz
  replace g5:=Kj g5;obtain⟨t,ht⟩:∃t,V.l[k]? = some t:=⟨V.l[k]'(by omega),Kn _⟩;have hA2:=hA.at_ (fun e=>by rw[e] at ht;cases ht);have hok:=hA.ok t (Ko ht);have htk:=rkd_1 hok.1;refine Zv M<|Zv M<|ZG M M M (Zi (j:=k) (es:=3) (g:=V.g) (o:=V.off) (len:=V.l.length) (cap:=V.cap) (congrArg (fun z=>some (Value.slice z V.l.length V.cap)) hA2) M Tryz.underlying113 M (by omega) M) ?_;refine ZG M M M (Y190x0 M) ?_;refine ZG M M M (zL M U3 M (fun w hw=>by have:=HpG.x hw k t ht 0 _ rfl;rw[Nat.mul_comm 3 k] at this;exact this)) ?_;refine ZG M M M (xF M M)<|Zf M<|zS<|zU ⟨decide (t.kind≠119),⟨fun h ⟨t',h1,h2⟩=>by rw[ht] at h1;cases h1;exact Ki h h2,fun h=>An fun h2=>h ⟨t,ht,h2⟩⟩⟩ (.cons M<|.cons M<|.cons M<|.consE M ?_<|.nil) Jz;show Value.bool (rkd t.kind != 1)=Value.bool (decide (t.kind≠119));rcases hok.1 with h|h|h<;>rw[h]<;>rfl
 obtain⟨z,hz⟩:=z;dsimp only;refine zT M (fun h18=>?_) (fun h18=>?_)
 ·refine zX<|zZ<|Za M M<|ZT<|zK<|zW<|yY M M (fun w hw=>?_);refine⟨?_,(Kk hw).ext⟩;congr 2
  split
  ·next t ht=>rw[Ag (fun h=>hz.1 h18 ⟨t,ht,h⟩)]
  rfl
 skip;obtain⟨t,ht,hk⟩:∃t,V.l[k]? = some t∧t.kind=119:=Classical.byContradiction fun h=>by rw[hz.2 h] at h18;cases h18
 have hA2:=hA.at_ (fun e=>by rw[e] at ht;cases ht);have hok:=hA.ok t (Ko ht);have hkl:k<V.l.length:=(Kg.1 ht).1;refine zR<|zV<|zX<|zZ<|Zm M M<|Zm M M<|Zm M M<|ZF M (Zi (j:=k) (es:=3) (g:=V.g) (o:=V.off) (len:=V.l.length) (cap:=V.cap) (congrArg (fun z=>some (Value.slice z V.l.length V.cap)) hA2) M Tryz.underlying113 M (by omega) M) ?_;refine ZF M (Y190x1 M) ?_;refine ZF M (zL M U9 M (fun w hw=>by have:=HpG.x hw k t ht 1 _ rfl;rw[Nat.mul_comm 3 k] at this;exact this)) ?_;refine Zu (v:=.int .i64 (rgR kind t.s)) M (fun w hw=>oU kind t.s (by omega) w)<|Za M M<|ZU M M (fun w hw=>?_);refine⟨?_,(Kk hw).ext⟩;rw[ht];dsimp only;rw[Ah hk]
theorem wnumber_any (V:TV) (A:Option Addr) (hA:TvA V A) (k:Nat) (w_0:World) (hX:TvX V w_0):Calls Tryz.prog 185 #[.slice A V.l.length V.cap,.int .i64 k] w_0 fun e w'=>e=.returned (.bool (rP V.l k))∧Ext w_0 w':=by
 have hcp:=hA.cap;have hbg:=hA.big;unfold maxLen at hbg;unfold rP;refine zN (args:=[.slice A V.l.length V.cap,.int .i64 k]) Tryz.func185 M 17 M (Kh M)<|Z2 0 1 M<|zG (H':=Jy w_0 [] [] (TvX V)) (fun u hu=>?_) ?_;subst hu;exact Hp.startTv hX;refine zX<|zZ<|Za M M<|ZX<|zZ<|Zm M M<|Zm M M<|ZF M (yK M U113)<|ZF M (yR M M)<|Zm M M<|zQ 9 M (fun g5=>?_) (fun g5=>?_)
 ·replace g5:=Ki g5;obtain⟨t,ht⟩:∃t,V.l[k]? = some t:=⟨V.l[k]'(by omega),Kn _⟩;have hA2:=hA.at_ (fun e=>by rw[e] at ht;cases ht);have hok:=hA.ok t (Ko ht);refine Zv M<|Zv M<|ZG M M M (Zi (j:=k) (es:=3) (g:=V.g) (o:=V.off) (len:=V.l.length) (cap:=V.cap) (congrArg (fun z=>some (Value.slice z V.l.length V.cap)) hA2) M Tryz.underlying113 M (by omega) M) ?_;refine ZG M M M (Y190x0 M) ?_;refine ZG M M M (zL M U3 M (fun w hw=>by have:=HpG.x hw k t ht 0 _ rfl;rw[Nat.mul_comm 3 k] at this;exact this)) ?_;refine Zx M<|Zh M<|Za M M<|ZU M M (fun w hw=>?_);refine⟨?_,(Kk hw).ext⟩;rw[ht];dsimp only;congr 2;rcases hok.1 with h|h|h<;>rw[h]<;>rfl
 replace g5:=Kj g5;refine ZP M<|ZP M<|ZP M<|ZP M<|ZP M<|ZP M<|Zf M<|Za M M<|ZU M M fun w hw=>⟨by rw[List.getElem?_eq_none (show V.l.length≤k by omega)],(Kk hw).ext⟩
end Go.Proofs.YtkaepknpplhgkaaGreatDoor
namespace Go.Proofs.YtkaepknpplhgkaaGreatDoor
open Go.RowKit
theorem regG_mem {s:Bs}:∀{f i:Nat},regG s f i≠-1→∃j,i≤j∧j<i+f∧s=rnmA j
 | 0,_,h=>absurd rfl h
 | f+1,i,h=>by
  rw[regG_step] at h
  by_cases e:s=rnmA i
  exact⟨i,Ae _,by omega,e⟩;rw[Ag e] at h;obtain⟨j,h1,h2,h3⟩:=regG_mem h;exact⟨j,by omega,by omega,h3⟩
theorem numb_rnm:∀j,j<16→uC (rnmA j)=true:=by decide
theorem regA_numb {kind:Int}{s:Bs}(h:0≤tR kind s):uC s=true:=by
 obtain⟨j,_,h2,rfl⟩:=regG_mem (s:=s) (f:=tG kind) (i:=0) (fun e=>by unfold tR at h;rw[e] at h;omega);exact numb_rnm j (by unfold tG at h2;split at h2<;>omega)
theorem rgR_pos (kind:Int) (s:Bs):(0≤rgR kind s↔0≤tR kind s)∧(0≤rgR kind s→rgR kind s=tR kind s):=by
 unfold rgR
 by_cases h:0≤tR kind s
 rw[Ah (regA_numb h),Ah h];exact⟨Iff.rfl,fun _=>rfl⟩;rw[Ag h]
 split<;>exact⟨⟨fun h9=>by omega,fun h9=>absurd h9 h⟩,fun h9=>by omega⟩
theorem dropk_at {l:List ATk}{k:Nat}{t:ATk}(h:l[k]? = some t):l.drop k=t::l.drop (k+1):=by
 obtain⟨h1,h2⟩:=Kg.1 h;rw[List.drop_eq_getElem_cons h1,h2]
theorem regP_some (kind:Int) {l:List ATk}{k:Nat}{t:ATk}(h:l[k]? = some t):xI kind l k=if t.kind=119 then rgR kind t.s else -1:=by unfold xI;rw[h]
theorem regP_none (kind:Int) {l:List ATk}{k:Nat}(h:l[k]? = none):xI kind l k=-1:=by unfold xI;rw[h]
theorem numP_some {l:List ATk}{k:Nat}{t:ATk}(h:l[k]? = some t):rP l k=decide (t.kind=48):=by unfold rP;rw[h]
theorem numP_none {l:List ATk}{k:Nat}(h:l[k]? = none):rP l k=false:=by unfold rP;rw[h]
theorem rgA_at (kind:Int) (l:List ATk) (k:Nat):rgA kind (l.drop k)=if 0≤xI kind l k then .ok (xI kind l k,l.drop (k+1)) else .error 20:=by
 cases h:l[k]? with
 | none =>
  rw[Aj (List.getElem?_eq_none_iff.1 h),regP_none kind h];rfl
 | some t =>
  rw[dropk_at h];show yG (if t.kind=119 then Except.ok (t,l.drop (k+1)) else .error 20) _=_
  by_cases h1:t.kind=119
  ·have er:xI kind l k=rgR kind t.s:=by rw[regP_some kind h,Ah h1]
   rw[Ah h1,er];show (if tR kind t.s<0 then Except.error 20 else .ok (tR kind t.s,l.drop (k+1)))=_;obtain⟨e1,e2⟩:=rgR_pos kind t.s
   by_cases h2:0≤rgR kind t.s
   rw[Ah h2,Ag (by have:=e1.1 h2;omega),e2 h2];rw[Ag h2,Ah (by have:=fun h9=>h2 (e1.2 h9);omega)]
  have er:xI kind l k=-1:=by rw[regP_some kind h,Ag h1]
  rw[Ag h1,er];rfl
def valP (l:List ATk) (k:Nat):Nat:=match l[k]? with
 | some t=>t.n
 | none=>0
theorem valP_some {l:List ATk}{k:Nat}{t:ATk}(h:l[k]? = some t):valP l k=t.n:=by unfold valP;rw[h]
theorem take48_at (l:List ATk) (k:Nat):(∃t,t.n=valP l k∧xH 48 (l.drop k)=if rP l k=true then .ok (t,l.drop (k+1)) else .error 20):=by
 cases h:l[k]? with
 | none =>
  rw[Aj (List.getElem?_eq_none_iff.1 h),numP_none h];exact⟨⟨0,[],valP l k⟩,rfl,rfl⟩
 | some t =>
  rw[dropk_at h,numP_some h];refine⟨t,(valP_some h).symm,?_⟩;show (if t.kind=48 then Except.ok (t,l.drop (k+1)) else .error 20)=_
  by_cases h1:t.kind=48
  rw[Ah h1,Ah (An h1)];rw[Ag h1,Ag (fun h9=>h1 (Ki h9))]
theorem num_lt {l:List ATk}{k:Nat}(h:rP l k=true):k<l.length:=by
 unfold rP at h
 split at h
 ·next t ht=>exact (Kg.1 ht).1
 ·cases h
theorem isA_lt {x:Bs}{l:List ATk}{k:Nat}(h:isA x (l.drop k)=true):k<l.length:=by
 rw[isA_at] at h
 split at h
 ·next t ht=>exact (Kg.1 ht).1
 ·cases h
def whl (x:Except Nat (AOp×List ATk)):Option AOp:=match x with
 | .ok (o,[])=>some o
 | _=>none
theorem oprR_eq (kind:Int) (l:List ATk):qN kind l=whl (opA kind l):=rfl
def finQ (o:AOp) (l:List ATk) (k:Nat):Option AOp:=if isA [93] (l.drop k)=true∧k+1=l.length then some o else none
theorem fin_eq (o:AOp) (l:List ATk) (k n:Nat):whl (if isA [93] (l.drop k) then .ok ({ o with n:=n },(l.drop k).drop 1) else .error 20)=finQ { o with n:=n } l k:=by
 unfold finQ
 by_cases h:isA [93] (l.drop k)=true
 ·have hl:=isA_lt h;rw[Ah h,List.drop_drop]
  by_cases h2:k+1=l.length
  rw[Ah ⟨h,h2⟩,Aj (by omega)];rfl;rw[Ag (fun h9=>h2 h9.2)];have:(l.drop (k+1)).length≠0:=by rw[Kw];omega
  cases he:l.drop (k+1) with
  | nil=>rw[he] at this;exact absurd M this
  | cons _ _=>rfl
 rw[Ag h,Ag (fun h9=>h h9.1)];rfl
def tailQ (o:AOp) (l:List ATk) (k:Nat):Option AOp :=
 if isA [43] (l.drop k)=true∨isA [45] (l.drop k)=true then
  (if rP l (k+1)=true then finQ { o with n:=if isA [43] (l.drop k)=true then valP l (k+1) else negA (valP l (k+1)) } l (k+2) else none)
 else finQ { o with n:=0 } l k
theorem tail_eq (o:AOp) (l:List ATk) (k:Nat):whl (vA o (l.drop k))=tailQ o l k:=by
 obtain⟨t,ht,e⟩:=take48_at l (k+1);unfold vA tailQ;rw[List.drop_drop,e]
 by_cases h1:isA [43] (l.drop k)=true
 ·rw[Ah (show isA [43] (l.drop k)=true∨isA [45] (l.drop k)=true from .inl h1),Ah h1]
  by_cases h2:rP l (k+1)=true
  rw[Ah h2,Ah h2,Ah h1,← ht];exact fin_eq o l (k+2) t.n;rw[Ag h2,Ag h2];rfl
 by_cases h3:isA [45] (l.drop k)=true
 ·rw[Ah (show isA [43] (l.drop k)=true∨isA [45] (l.drop k)=true from .inr h3),Ag h1,Ah h3]
  by_cases h2:rP l (k+1)=true
  rw[Ah h2,Ah h2,Ag h1,← ht];exact fin_eq o l (k+2) (negA t.n);rw[Ag h2,Ag h2];rfl
 rw[Ag (show ¬(isA [43] (l.drop k)=true∨isA [45] (l.drop k)=true) from fun h=>h.elim h1 h3),Ag h1,Ag h3];exact fin_eq o l k 0
def memQ (kind:Int) (l:List ATk):Option AOp :=
 if 0≤xI kind l 1 then
  (if kind=1∧isA [43] (l.drop 2)=true∧0≤xI kind l 3 then
   (if isA [42] (l.drop 4)=true then
    (if rP l 5=true then (match pM (valP l 5) with
     | some c=>tailQ ⟨109,xI kind l 1,[],0,xI kind l 3,c⟩ l 6
     | none=>none) else none)
   else tailQ ⟨109,xI kind l 1,[],0,xI kind l 3,0⟩ l 4)
  else tailQ ⟨109,xI kind l 1,[],0,-1,0⟩ l 2)
 else none
theorem num_reg {kind:Int}{l:List ATk}{k:Nat}(h:∃t,l[k]? = some t∧t.kind=119):rP l k=false:=by
 obtain⟨t,h1,h2⟩:=h;unfold rP;rw[h1];exact Ao (by omega)
theorem mem_eq (kind:Int) (l:List ATk):whl (sB kind (l.drop 1))=memQ kind l:=by
 unfold sB memQ;rw[rgA_at]
 by_cases h1:0≤xI kind l 1
 ·rw[Ah h1,Ah h1];show whl (if kind=1∧isA [43] (l.drop 2)=true∧(∃t,(l.drop 2)[1]? = some t∧t.kind=119) then _ else _)=_;dsimp only;rw[List.drop_drop,rgA_at,List.getElem?_drop]
  by_cases h2:kind=1∧isA [43] (l.drop 2)=true∧(∃t,l[2+1]? = some t∧t.kind=119)
  ·rw[Ah h2]
   by_cases h3:0≤xI kind l 3
   ·rw[Ah (show 0≤xI kind l (2+1) from h3),Ah ⟨h2.1,h2.2.1,h3⟩];obtain⟨t,ht,e⟩:=take48_at l 5;show whl (if isA [42] (l.drop 4) then yG (xH 48 ((l.drop 4).drop 1)) _ else _)=_;rw[List.drop_drop,e]
    by_cases h4:isA [42] (l.drop 4)=true
    ·rw[Ah h4,Ah h4]
     by_cases h5:rP l 5=true
     ·rw[Ah h5,Ah h5,← ht];show whl (match pM t.n with|some c=>vA ⟨109,xI kind l 1,[],0,xI kind l 3,c⟩ (l.drop 6)|none=>.error 20)=_
      cases pM t.n with
      | none=>rfl
      | some c=>exact tail_eq _ l 6
     rw[Ag h5,Ag h5];rfl
    rw[Ag h4,Ag h4];exact tail_eq _ l 4
   rw[Ag (show ¬0≤xI kind l (2+1) from h3),Ag (fun h=>h3 h.2.2)];unfold tailQ;rw[Ah (.inl h2.2.1),Ag (by rw[num_reg (kind:=kind) h2.2.2];simp)];rfl
  rw[Ag h2,Ag (fun h=>h2 ⟨h.1,h.2.1,by
   have h9:=h.2.2;unfold xI at h9
   split at h9
   ·next t ht =>
    split at h9
    ·next hk=>exact⟨t,ht,hk⟩
    omega
   omega⟩)]
  exact tail_eq _ l 2
 rw[Ag h1,Ag h1];rfl
def oprQ (kind:Int) (l:List ATk):Option AOp :=
 if isA [91] l=true then memQ kind l
 else if l.length=2∧isA [45] l=true∧rP l 1=true then some ⟨118,0,[],negA (valP l 1),0,0⟩
 else match l with
  | [t]=>if t.kind=48 then some ⟨118,0,[],t.n,0,0⟩
   else if t.kind=119 then
    (if 0≤rgR kind t.s then some ⟨114,rgR kind t.s,[],0,0,0⟩
    else if rgR kind t.s=-1∧nQ t.s=true then some ⟨118,0,t.s,0,0,0⟩ else none)
   else none
  | _=>none
theorem opr_eq (kind:Int) (l:List ATk):qN kind l=oprQ kind l:=by
 rw[oprR_eq];unfold opA oprQ
 by_cases h1:isA [91] l=true
 rw[Ah h1,Ah h1,mem_eq];rw[Ag h1,Ag h1]
 by_cases h2:isA [45] l=true
 ·rw[Ah h2];obtain⟨t,ht,e⟩:=take48_at l 1;rw[e];have h0:=isA_lt (k:=0) (l:=l) (by rw[Kx];exact h2)
  by_cases h3:rP l 1=true
  ·rw[Ah h3]
   by_cases h4:l.length=2
   ·rw[Ah ⟨h4,h2,h3⟩,← ht];show whl (.ok (⟨118,0,[],negA t.n,0,0⟩,l.drop (1+1)))=_;rw[Aj (by omega)];rfl
   rw[Ag (fun h=>h4 h.1)];have hl:=num_lt h3
   match l,hl,h4 with
   | a::b::c::r,_,_=>rfl
   | [a,b],_,h4=>exact absurd rfl h4
  rw[Ag h3,Ag (fun h=>h3 h.2.2)]
  match l,h0,h2 with
  | [t'],_,h2 =>
   have:t'.kind=115:=by
    have:(decide (t'.kind=115)&&decide (t'.s=[45]))=true:=h2;simp only[Ab,Af] at this;exact this.1
   dsimp only;rw[Ag (by omega),Ag (by omega)];rfl
  | a::b::r,_,_=>rfl
 rw[Ag h2,Ag (show ¬(l.length=2∧isA [45] l=true∧rP l 1=true) from fun h=>h2 h.2.1)]
 match l with
 | []=>rfl
 | [t] =>
  dsimp only
  by_cases h3:t.kind=48
  ·rw[Ah ⟨t,rfl,h3⟩,Ah h3];show whl (yG (if t.kind=48 then Except.ok (t,[]) else .error 20) _)=_;rw[Ah h3];rfl
  rw[Ag (fun ⟨t',e1,e2⟩=>by cases e1;exact h3 e2),Ag h3];show whl (yG (if t.kind=119 then Except.ok (t,[]) else .error 20) _)=_
  by_cases h4:t.kind=119
  ·rw[Ah h4,Ah h4];show whl (if 0≤tR kind t.s then .ok (⟨114,tR kind t.s,[],0,0,0⟩,[]) else yG (tH t.s) fun x=>.ok (⟨118,0,x,0,0,0⟩,[]))=_;obtain⟨e1,e2⟩:=rgR_pos kind t.s
   by_cases h5:0≤rgR kind t.s
   rw[Ah h5,Ah (e1.1 h5),e2 h5];rfl;rw[Ag h5,Ag (fun h=>h5 (e1.2 h))];unfold tH
   by_cases h6:32<t.s.length∨(46:UInt8)∈t.s∨uC t.s=true
   rw[Ah h6,Ag (show ¬(rgR kind t.s=-1∧nQ t.s=true) from fun h=>Ki h.2 h6)];rfl;rw[Ag h6,Ah (show rgR kind t.s=-1∧nQ t.s=true from ⟨(rgR_1 kind t.s).2 (fun h=>h6 (.inr (.inr h))),An h6⟩)];rfl
  rw[Ag h4,Ag h4];rfl
 | a::b::r =>
  dsimp only
  split
  ·show whl (yG (if a.kind=48 then Except.ok (a,b::r) else .error 20) _)=_
   split<;>rfl
  show whl (yG (if a.kind=119 then Except.ok (a,b::r) else .error 20) _)=_
  split
  ·show whl (if 0≤tR kind a.s then .ok (⟨114,tR kind a.s,[],0,0,0⟩,b::r) else yG (tH a.s) fun x=>.ok (⟨118,0,x,0,0,0⟩,b::r))=_
   split
   rfl
   ·cases tH a.s<;>rfl
  rfl
end Go.Proofs.YtkaepknpplhgkaaGreatDoor
