import Derived.Test.YtkaepknpplhgkaaGreatDoorMaY
import Derived.Laws.BitsAllLaws
import Derived.Laws.IdiomStrings
set_option maxRecDepth 100000
namespace Go.Proofs.YtkaepknpplhgkaaGreatDoor
open Go.RowKit
section
variable {P:Program}{ops:Array Oper}{Q:Exit→Act→World→Prop}{n:Fr}{m:List (Nat×Value)}{ty:TypeId}{B:Nat→Prop}{w0:World}{L:List (Nat×Obj)}{R:List Rw}{X:World→Prop}{rest:List Oper}{d:Nat}{pos:String}{af:Array Edge}{gd:Option (Nat×Bool)}
abbrev u8L (l:Bs):List Value:=l.map fun b=>.int .u8 b.toNat
theorem wl_bytes {x:Operand}{src dst e:TypeId}{l:Bs}(hg:Gd ops m gd) (hd:Nat.blt d n=true) (hx:ev m x=some (.string ⟨l.toArray⟩)) (hs:P.underlying src=some .string) (ht:P.underlying dst=some (.slice e)) (he:P.underlying e=some (.int .u8)) (hB:∀k,B k→k<w0.heap.size)
  (h:∀g cap F,(∀k,F k→w0.heap.size≤k)→WL P ops Q rest n ((d,.slice (some ⟨g,0,none⟩) l.length cap)::m) (Hp B w0 L R (fun u=>RdF F (some ⟨g,0,none⟩) (u8L l) u∧X u))):WL P ops Q (⟨some d,.convert src dst x,ty,pos,af,gd⟩::rest) n m (Hp B w0 L R X) :=
 xY (ι:={i:Nat×Nat×(Nat→Prop) // ∀k,i.2.2 k→w0.heap.size≤k}) (val:=fun i=>.slice (some ⟨i.1.1,0,none⟩) l.length i.1.2.1) (H':=fun i=>Hp B w0 L R (fun u=>RdF i.1.2.2 (some ⟨i.1.1,0,none⟩) (u8L l) u∧X u)) hg hd
  (fun a w d pos af gd hsat hw=>by
   have hr:=run_bytes_of_string (P:=P) w src dst e ⟨l.toArray⟩ hs ht he
   have hex:(execOp a.eval ⟨d,.convert src dst x,ty,pos,af,gd⟩).run P w=.ok (.value (.slice (some ⟨w.heap.size,0,none⟩) l.length (grownCap w l.length 0 e))) (w.drew.alloc (.cells (bytesRow ⟨l.toArray⟩ (grownCap w l.length 0 e)) e ((bytesRow ⟨l.toArray⟩ (grownCap w l.length 0 e)).size,(bytesRow ⟨l.toArray⟩ (grownCap w l.length 0 e)).size+1))):=by
    simp only[execOp,hsat.ev hx];have:(⟨l.toArray⟩:ByteArray).size=l.length:=by simp[ByteArray.size]
    rw[this] at hr;simp[hr]
   have hext:Ext w (w.drew.alloc (.cells (bytesRow ⟨l.toArray⟩ (grownCap w l.length 0 e)) e ((bytesRow ⟨l.toArray⟩ (grownCap w l.length 0 e)).size,(bytesRow ⟨l.toArray⟩ (grownCap w l.length 0 e)).size+1))):=Ext.alloc (ext_drewN w 1) _
   have hl:RdF (fun k=>w.heap.size≤k) (some ⟨w.heap.size,0,none⟩) (u8L l) (w.drew.alloc (.cells (bytesRow ⟨l.toArray⟩ (grownCap w l.length 0 e)) e ((bytesRow ⟨l.toArray⟩ (grownCap w l.length 0 e)).size,(bytesRow ⟨l.toArray⟩ (grownCap w l.length 0 e)).size+1))):=fun _=>⟨w.heap.size,0,rfl,Ae _,by show w.heap.size<(w.heap.push _).size;simp,fun i hi=>by
    rw[Ac];have:=World.cell?_alloc_mark w.drew (bytesRow ⟨l.toArray⟩ (grownCap w l.length 0 e)) e ((bytesRow ⟨l.toArray⟩ (grownCap w l.length 0 e)).size,(bytesRow ⟨l.toArray⟩ (grownCap w l.length 0 e)).size+1) i;have e1:w.drew.heap.size=w.heap.size:=rfl;rw[e1] at this;rw[this];rw[Ak] at hi;unfold bytesRow;rw[Array.getElem?_append_left (by simpa using hi),Ku,List.getElem?_map]
    simp[hi]⟩
   obtain⟨F,hF,hp⟩:=Hp.callT0 RdF.lies hw hB hext hl;show Ch _ _ _ _ _;unfold Ch;rw[hex]
   exact⟨⟨(w.heap.size,grownCap w l.length 0 e,F),hF⟩,rfl,hp⟩) fun i=>h i.1.1 i.1.2.1 i.1.2.2 i.2
end
theorem i64w_nat {k:Nat}(h:k<9223372036854775808):IntKind.i64.wrap (k:Int)=k:=i64_in _ (by omega) (by omega)
theorem i64_and_nat (a b:Nat) (ha:a<9223372036854775808) (hb:b<9223372036854775808):bits .and .i64 (a:Int) (b:Int)=((a &&& b:Nat):Int):=by
 have hx:a &&& b<2 ^ 63:=Nat.and_lt_two_pow _ (by omega);show IntKind.i64.wrap ((BitVec.ofInt 64 (a:Int) &&& BitVec.ofInt 64 (b:Int)).toNat:Int)=_;rw[BitVec.toNat_and,BitVec.ofInt_natCast,BitVec.toNat_ofNat,BitVec.ofInt_natCast,BitVec.toNat_ofNat,Nat.mod_eq_of_lt (by omega),Nat.mod_eq_of_lt (by omega),i64w_nat (by omega)]
theorem i64_or_nat (a b:Nat) (ha:a<9223372036854775808) (hb:b<9223372036854775808):bits .or .i64 (a:Int) (b:Int)=((a ||| b:Nat):Int):=by
 have hx:a ||| b<2 ^ 63:=Nat.or_lt_two_pow (by omega) (by omega);show IntKind.i64.wrap ((BitVec.ofInt 64 (a:Int) ||| BitVec.ofInt 64 (b:Int)).toNat:Int)=_;rw[BitVec.toNat_or,BitVec.ofInt_natCast,BitVec.toNat_ofNat,BitVec.ofInt_natCast,BitVec.toNat_ofNat,Nat.mod_eq_of_lt (by omega),Nat.mod_eq_of_lt (by omega),i64w_nat (by omega)]
theorem sh4_c (c:UInt8):((c.toNat:Nat):Int).fdiv (2 ^ (min (4:Int).toNat IntKind.i64.bits))=((c.toNat/16:Nat):Int):=by
 rw[Int.fdiv_eq_ediv_of_nonneg _ (by decide),show (2:Int) ^ (min (4:Int).toNat IntKind.i64.bits)=16 by decide];omega
theorem an15_c (c:UInt8):bits .and .i64 ((c.toNat:Nat):Int) 15=((c.toNat%16:Nat):Int):=by
 have hc:=UInt8.toNat_lt c;have:=i64_and_nat c.toNat 15 (by omega) (by omega);rw[show ((15:Nat):Int)=15 from rfl] at this;rw[this,Nat.and_two_pow_sub_one_eq_mod c.toNat 4]
theorem getL_snoc:∀(l:Bs) (c:UInt8),getL (l++[c])=getL l+c.toNat*256 ^ l.length
 | [],c=>by show c.toNat+256*0=0+c.toNat*1;omega
 | x::l,c=>by
  have:=getL_snoc l c;show x.toNat+256*getL (l++[c])=x.toNat+256*getL l+c.toNat*256 ^ (l.length+1);rw[this,Nat.pow_succ,Nat.mul_add,Nat.mul_comm 256 (c.toNat*256 ^ l.length),Nat.mul_assoc];omega
theorem getL_max:∀(l:Bs),getL l<256 ^ l.length
 | []=>by decide
 | c::l=>by
  have:=getL_max l;have hc:=UInt8.toNat_lt c;show c.toNat+256*getL l<256 ^ (l.length+1);rw[Nat.pow_succ];omega
theorem or_step (l:Bs) (c:UInt8) (hl:l.length<4):bits .or .u32 ((getL l:Nat):Int) (IntKind.u32.wrap ((c.toNat:Int)*2 ^ (min (8*(l.length:Int)).toNat IntKind.u32.bits)))=((getL (l++[c]):Nat):Int):=by
 have hc:=UInt8.toNat_lt c;have h1:=getL_max l;have hp:(256:Nat) ^ l.length=2 ^ (8*l.length):=by rw[Nat.pow_mul]
 have e1:min (8*(l.length:Int)).toNat IntKind.u32.bits=8*l.length:=by
  have:IntKind.u32.bits=32:=rfl;omega
 have h2:c.toNat*256 ^ l.length<4294967296:=by
  have:256 ^ l.length≤256 ^ 3:=Nat.pow_le_pow_right (by omega) (by omega);have:c.toNat*256 ^ l.length≤255*256 ^ 3:=Nat.mul_le_mul (by omega) this;omega
 have h3:getL l<4294967296:=by
  have:256 ^ l.length≤256 ^ 3:=Nat.pow_le_pow_right (by omega) (by omega);omega
 have e2:IntKind.u32.wrap ((c.toNat:Int)*2 ^ (min (8*(l.length:Int)).toNat IntKind.u32.bits))=((c.toNat*256 ^ l.length:Nat):Int):=by
  rw[e1,IntKind.wrap_u32'];have:(c.toNat:Int)*2 ^ (8*l.length)=((c.toNat*256 ^ l.length:Nat):Int):=by rw[hp];simp
  rw[this];omega
 rw[e2,u32_or_nat _ _ h3 h2,getL_snoc,hp];have:=Nat.two_pow_add_eq_or_of_lt (i:=8*l.length) (b:=getL l) (by rw[← hp];exact h1) c.toNat;rw[Nat.or_comm,Nat.mul_comm c.toNat,← this,Nat.add_comm]
theorem get_any (s:Bs) (hs:s.length≤4) (w_0:World):Calls Tryz.prog 93 #[.string ⟨s.toArray⟩] w_0 fun e w'=>e=.returned (.int .u32 (getL s))∧Ext w_0 w':=by
 refine zN (args:=[.string ⟨s.toArray⟩]) Tryz.func93 M 27 M (Kh M)<|Z1 0 M<|Z0<|zX<|zZ<|Za M M<|ZX<|zZ<|Za M M<|ZX<|zX<|zZ<|Zm M M<|Zm M M<|ZF M (wZ M U9)<|ZF M (yf_min M M)<|ZF M (yf_strHi M M U9 (by (split<;>omega)) (by (split<;>omega)) (List.take_of_length_le (by split<;>omega))) ?_;refine wl_bytes .none M  M Tryz.underlying9 Tryz.underlying53 Tryz.underlying5 (fun _ h=>h.elim) (fun b11 cap F hF=>?_);refine ZF M (yK M U53)<|Zm M M<|ZT<|zJ<|yF (ι:={i:Nat // i≤s.length}) (fun i=>[(3,.int .u32 (getL (s.take i.1):Nat)),(11,.slice (some ⟨b11,0,none⟩) s.length cap),(12,.int .i64 s.length),(13,.int .i64 (i.1:Nat))]) (fun _=>Jy w_0 [] [] (fun u=>RdF F (some ⟨b11,0,none⟩) (u8L s) u∧True)) (fun i=>s.length-i.1) ⟨0,Ad _⟩ ?_ ?_ (fun i=>?_);exact O4 rfl;exact fun w h=>h;obtain⟨i,hi⟩:=i;dsimp only;refine zX<|zZ<|ZF M (yR M M)<|ZX<|zT M (fun h14=>?_) (fun h14=>?_)
 ·replace h14:=Ki h14;skip;obtain⟨c,hc⟩:∃c,s[i]? = some c:=⟨s[i]'(by omega),Kn _⟩;have hcl:=UInt8.toNat_lt c
  have ht:s.take (i+1)=s.take i++[c]:=by
   rw[List.take_add_one,hc];rfl
  have hst:=or_step (s.take i) c (by rw[Aa];omega);rw[show (s.take i).length=i by rw[Aa];omega,← ht] at hst;refine zR<|zV<|zX<|zJ<|zX<|zZ<|Zm rfl rfl<|ZF rfl (Zi (es:=1) rfl rfl U53 rfl (by first|omega|simp<;>omega) rfl) ?_;refine ZF M (zL M U5 M (fun w hw=>RdF.part (HpG.x hw).1 (i:=i) (by rw[Ak];omega) (by omega) (by rw[List.getElem?_map,hc];rfl))) ?_;refine Za rfl rfl<|Za rfl rfl<|ZT<|Z7r 3 4 5 11 12 13 14 rfl<|Zm rfl rfl<|Zm rfl rfl<|ZF rfl (Zc rfl U22 (qV _ (by omega) (by omega)))<|Zm rfl rfl<|ZF rfl (vE rfl rfl (i64_in _ (by omega) (by omega)))<|ZF rfl (sP rfl rfl (by first|decide|omega) rfl) ?_;refine ZF M (yf_or M M hst)<|Za M M<|zS<|zH<|zV<|Z7r 3 4 5 11 12 13 14 M<|ZF M (zF M M (i64_in _ (by omega) (by omega)))<|Zm M M<|zS<|yV (ι:={i:Nat // i≤s.length}) ⟨i+1,by omega⟩ (by show s.length-(i+1)<s.length-i;omega) (O4 M) Jz
 replace h14:=Kj h14;skip;obtain rfl:i=s.length:=by omega
 refine yM<|zP<|zP<|yN<|zV<|zX<|zZ<|Zm M M<|Za M M<|ZU M M fun w hw=>⟨by rw[Kz],(Kk hw).ext⟩
abbrev kiC (i:KI):List Value:=[.int .i64 i.op,.int .i64 i.d,.int .i64 i.s,.int .i64 i.index,.int .i64 i.scale,.int .u32 i.imm,.int .i64 i.size]
abbrev kiO (i:KI):Obj:=bk 35 (kiC i)
abbrev nxV (ba bs:Nat):Value:=.func (.func 147) #[] #[.pointer (some ⟨ba,0,none⟩),.pointer (some ⟨bs,0,none⟩)]
theorem tE (s:Bs) (p:Nat) (c:UInt8) (hc:s[p]? = some c) (hl:s.length≤1000000000) (ba bs:Nat) (w_0:World) (ha:w_0.heap[ba]? = some (bxI p)) (hb:w_0.heap[bs]? = some (bxS s)) (hne:bs≠ba) :
  Calls Tryz.prog 147 #[.pointer (some ⟨ba,0,none⟩),.pointer (some ⟨bs,0,none⟩)] w_0 fun e w'=>e=.returned (.int .u8 c.toNat)∧Keep (fun j=>j=ba) w_0 w'∧w'.heap[ba]? = some (bxI (p+1)):=by
 have hp:=(Kg.1 hc).1;have hbs:bs<w_0.heap.size:=(Kp.1 hb).1;refine zN (args:=[.pointer (some ⟨ba,0,none⟩),.pointer (some ⟨bs,0,none⟩)]) Tryz.func147 M 9 M (Kh M)<|Z2 0 1 M<|zG (H':=Hp (fun k=>k=ba) w_0 [(ba,bxI p)] [] (Blk bs (bxS s))) (fun u hu=>?_) ?_;subst hu;exact Hp.startB ha ⟨fun k=>k=bs,fun k hk=>by subst hk;exact⟨hbs,hne⟩,fun u hu=>(hu _ M).trans hb⟩;refine zX<|zZ<|Za M M<|ZX<|zZ<|Zl 0 M U3 M<|ZF M (zF M M (i64_in _ (by omega) (by omega)))<|ZS 0 M<|ZX<|Z3r 0 1 2 M<|ZF M (zL M U9 M (fun w hw=>Blk.cell (HpG.x hw) M))<|Zl 0 M U3 M<|ZF M (vL M M (i64_in _ (by omega) (by omega)))<|ZF M (xX M M U9 (show ((p:Int)+1-1)=((p:Nat):Int) by omega) hc) ?_;refine Za M M<|ZU M M fun w hw=>⟨rfl,Kk hw,HpG.blkL (j:=0) hw rfl⟩
end Go.Proofs.YtkaepknpplhgkaaGreatDoor
namespace Go.Proofs.YtkaepknpplhgkaaGreatDoor
open Go.RowKit
theorem obj_ne {w:World}{a b:Nat}{o p:Obj}(ha:w.heap[a]? = some o) (hb:w.heap[b]? = some p) (hop:o≠p):a≠b:=fun e=>by
 subst e;rw[ha] at hb;exact hop (Option.some.inj hb)
theorem bk_ne {T U:TypeId}{cs ds:List Value}(h:T≠U):bk T cs≠bk U ds:=fun e=>by injection e with _ e2;exact h e2
def ndF:Fld→Nat
 | .full=>4
 | _=>1
def ndL:List Fld→Nat
 | []=>0
 | f::l=>ndF f+ndL l
structure RdK (ba bs bi p:Nat) (s:Bs) (i:KI) (w:World):Prop where
 a:w.heap[ba]? = some (bxI p)
 b:w.heap[bs]? = some (bxS s)
 i:w.heap[bi]? = some (kiO i)
 l:s.length≤1000000000
theorem RdK.ab {ba bs bi p:Nat}{s:Bs}{i:KI}{w:World}(h:RdK ba bs bi p s i w):bs≠ba:=obj_ne h.b h.a (bk_ne (by decide))
theorem RdK.ai {ba bs bi p:Nat}{s:Bs}{i:KI}{w:World}(h:RdK ba bs bi p s i w):ba≠bi:=obj_ne h.a h.i (bk_ne (by decide))
theorem RdK.bi {ba bs bi p:Nat}{s:Bs}{i:KI}{w:World}(h:RdK ba bs bi p s i w):bs≠bi:=obj_ne h.b h.i (bk_ne (by decide))
theorem RdK.hp {ba bs bi p:Nat}{s:Bs}{i:KI}{w:World}(h:RdK ba bs bi p s i w):Hp (fun j=>j=ba∨j=bi) w [(ba,bxI p),(bi,kiO i)] [] (Blk bs (bxS s)) w :=
 Hp.start2 h.a h.i h.ai ⟨fun k=>k=bs,fun k hk=>by subst hk;exact⟨(Kp.1 h.b).1,h.ab,h.bi⟩,fun u hu=>(hu _ rfl).trans h.b⟩
def tV (ba bi p:Nat) (s:Bs) (i:KI) (l:List Fld) (w:World) (e:Ending) (w':World):Prop:=e=.returned (.tuple #[])∧Keep (fun j=>j=ba∨j=bi) w w'∧w'.heap[ba]? = some (bxI (p+ndL l))∧w'.heap[bi]? = some (kiO (vZ (s.drop p) i l))
theorem qJ {s:Bs}{p:Nat}{c:UInt8}(h:s[p]? = some c):s.drop p=c::s.drop (p+1):=by
 obtain⟨h1,h2⟩:=Kg.1 h;rw[List.drop_eq_getElem_cons h1,h2]
theorem qH {s:Bs}{p:Nat}(h:p<s.length):∃c,s[p]? = some c:=⟨s[p],Kn h⟩
theorem four_cells (a b c d:UInt8):∀j (hj:j<[a,b,c,d].length),([.int .u8 a.toNat,.int .u8 b.toNat,.int .u8 c.toNat,.int .u8 d.toNat]:List Value)[0+j]? = some (.int .u8 ([a,b,c,d][j].toNat:Int)):=fun j hj=>by
 have:j=0∨j=1∨j=2∨j=3:=by simp at hj;omega
 rcases this with rfl|rfl|rfl|rfl<;>rfl
section
variable (ba bs bi p:Nat) (s:Bs) (i:KI) (w_0:World) (h:RdK ba bs bi p s i w_0)
include h
theorem none_tk:Calls Tryz.prog 188 #[nxV ba bs,.pointer (some ⟨bi,0,none⟩)] w_0 (tV ba bi p s i [] w_0):=by
 unfold tV;refine zN (args:=[nxV ba bs,.pointer (some ⟨bi,0,none⟩)]) Tryz.func188 M 4 M (Kh M)<|yJ (.nil)<|zG (H':=Hp (fun j=>j=ba∨j=bi) w_0 [(ba,bxI p),(bi,kiO i)] [] (Blk bs (bxS s))) (fun u hu=>?_) ?_;subst hu;exact h.hp;refine zR<|vJ M fun w hw=>⟨rfl,Kk hw,HpG.blkL (j:=0) hw rfl,HpG.blkL (j:=1) hw rfl⟩
theorem reg_tk (hl:p<s.length):Calls Tryz.prog 190 #[nxV ba bs,.pointer (some ⟨bi,0,none⟩)] w_0 (tV ba bi p s i [.reg] w_0):=by
 obtain⟨c,hc⟩:=qH hl;have hcl:=UInt8.toNat_lt c;unfold tV;rw[qJ hc];refine zN (args:=[nxV ba bs,.pointer (some ⟨bi,0,none⟩)]) Tryz.func190 M 10 M (Kh M)<|Z2 0 1 M<|zG (H':=Hp (fun j=>j=ba∨j=bi) w_0 [(ba,bxI p),(bi,kiO i)] [] (Blk bs (bxS s))) (fun u hu=>?_) ?_;subst hu;exact h.hp;refine zZ<|Zm M M<|Zm M M<|xP (us:=[]) (vs:=[]) (cs:=[.pointer (some ⟨ba,0,none⟩),.pointer (some ⟨bs,0,none⟩)]) (v:=.int .u8 c.toNat) (ob':=bxI (p+1)) 0 .none M  (by kernel_rfl) M M M (fun w hw=>tE s p c hc h.l ba bs w (HpG.blkL (j:=0) hw M) (HpG.x hw) h.ab) ?_;refine ZF M (Zc M U3 (i64_in _ (by omega) (by omega)))<|Zn M M<|ZF M (Y35x1 M) ?_;refine ZS 1 M<|zS<|vJ M fun w hw=>⟨rfl,Kk hw,HpG.blkL (j:=0) hw rfl,HpG.blkL (j:=1) hw rfl⟩
theorem pair_tk (hl:p<s.length):Calls Tryz.prog 192 #[nxV ba bs,.pointer (some ⟨bi,0,none⟩)] w_0 (tV ba bi p s i [.pair] w_0):=by
 obtain⟨c,hc⟩:=qH hl;have hcl:=UInt8.toNat_lt c;unfold tV;rw[qJ hc];refine zN (args:=[nxV ba bs,.pointer (some ⟨bi,0,none⟩)]) Tryz.func192 M 18 M (Kh M)<|Z2 0 1 M<|zG (H':=Hp (fun j=>j=ba∨j=bi) w_0 [(ba,bxI p),(bi,kiO i)] [] (Blk bs (bxS s))) (fun u hu=>?_) ?_;subst hu;exact h.hp;refine zX<|zZ<|Zm M M<|xP (us:=[]) (vs:=[]) (cs:=[.pointer (some ⟨ba,0,none⟩),.pointer (some ⟨bs,0,none⟩)]) (v:=.int .u8 c.toNat) (ob':=bxI (p+1)) 0 .none M  (by kernel_rfl) M M M (fun w hw=>tE s p c hc h.l ba bs w (HpG.blkL (j:=0) hw M) (HpG.x hw) h.ab) ?_;refine ZF rfl (Zc rfl U3 (i64_in _ (by omega) (by omega)))<|Za rfl rfl<|ZT<|Z3r 0 1 4 rfl<|Zm rfl rfl<|Zm rfl rfl<|Zm rfl rfl<|ZF rfl (qE rfl rfl (by first|decide|omega) (sh4_c c)) ?_;refine Zm M M<|ZF M (yf_and M M (an15_c c))<|Zn M M<|ZF M (Y35x1 M) ?_;refine ZS 1 M<|Zn M M<|ZF M (Y35x2 M) ?_;refine ZS 1 M<|zS<|vJ M fun w hw=>⟨rfl,Kk hw,HpG.blkL (j:=0) hw rfl,HpG.blkL (j:=1) hw rfl⟩
theorem small_tk (hl:p<s.length):Calls Tryz.prog 195 #[nxV ba bs,.pointer (some ⟨bi,0,none⟩)] w_0 (tV ba bi p s i [.small] w_0):=by
 obtain⟨c,hc⟩:=qH hl;have hcl:=UInt8.toNat_lt c;unfold tV;rw[qJ hc];refine zN (args:=[nxV ba bs,.pointer (some ⟨bi,0,none⟩)]) Tryz.func195 M 11 M (Kh M)<|Z2 0 1 M<|zG (H':=Hp (fun j=>j=ba∨j=bi) w_0 [(ba,bxI p),(bi,kiO i)] [] (Blk bs (bxS s))) (fun u hu=>?_) ?_;subst hu;exact h.hp;refine zZ<|Zm M M<|Zm M M<|xP (us:=[]) (vs:=[]) (cs:=[.pointer (some ⟨ba,0,none⟩),.pointer (some ⟨bs,0,none⟩)]) (v:=.int .u8 c.toNat) (ob':=bxI (p+1)) 0 .none M  (by kernel_rfl) M M M (fun w hw=>tE s p c hc h.l ba bs w (HpG.blkL (j:=0) hw M) (HpG.x hw) h.ab) ?_;refine ZF M (Zc M U22 (qV _ (by omega) (by omega)))<|Zu (v:=.int .u32 (sxL c.toNat 8)) M (fun w hw=>sign_any c.toNat 8 (by omega) (.inl M) w)<|Zn M M<|ZF M (Y35x5 M) ?_;refine ZS 1 M<|zS<|vJ M fun w hw=>⟨rfl,Kk hw,HpG.blkL (j:=0) hw rfl,HpG.blkL (j:=1) hw rfl⟩
theorem plain_tk (hl:p<s.length):Calls Tryz.prog 202 #[nxV ba bs,.pointer (some ⟨bi,0,none⟩)] w_0 (tV ba bi p s i [.plain] w_0):=by
 obtain⟨c,hc⟩:=qH hl;have hcl:=UInt8.toNat_lt c;unfold tV;rw[qJ hc];refine zN (args:=[nxV ba bs,.pointer (some ⟨bi,0,none⟩)]) Tryz.func202 M 10 M (Kh M)<|Z2 0 1 M<|zG (H':=Hp (fun j=>j=ba∨j=bi) w_0 [(ba,bxI p),(bi,kiO i)] [] (Blk bs (bxS s))) (fun u hu=>?_) ?_;subst hu;exact h.hp;refine zZ<|Zm M M<|Zm M M<|xP (us:=[]) (vs:=[]) (cs:=[.pointer (some ⟨ba,0,none⟩),.pointer (some ⟨bs,0,none⟩)]) (v:=.int .u8 c.toNat) (ob':=bxI (p+1)) 0 .none M  (by kernel_rfl) M M M (fun w hw=>tE s p c hc h.l ba bs w (HpG.blkL (j:=0) hw M) (HpG.x hw) h.ab) ?_;refine ZF M (Zc M U22 (qV _ (by omega) (by omega)))<|Zn M M<|ZF M (Y35x5 M) ?_;refine ZS 1 M<|zS<|vJ M fun w hw=>⟨rfl,Kk hw,HpG.blkL (j:=0) hw rfl,HpG.blkL (j:=1) hw rfl⟩
theorem full_tk (hl:p+4≤s.length):Calls Tryz.prog 198 #[nxV ba bs,.pointer (some ⟨bi,0,none⟩)] w_0 (tV ba bi p s i [.full] w_0):=by
 obtain⟨c0,h0⟩:=qH (s:=s) (p:=p) (by omega);obtain⟨c1,h1⟩:=qH (s:=s) (p:=p+1) (by omega);obtain⟨c2,h2⟩:=qH (s:=s) (p:=p+1+1) (by omega);obtain⟨c3,h3⟩:=qH (s:=s) (p:=p+1+1+1) (by omega);unfold tV;rw[qJ h0,qJ h1,qJ h2,qJ h3];refine zN (args:=[nxV ba bs,.pointer (some ⟨bi,0,none⟩)]) Tryz.func198 M 20 M (Kh M)<|Z2 0 1 M<|zG (H':=Hp (fun j=>j=ba∨j=bi) w_0 [(ba,bxI p),(bi,kiO i)] [] (Blk bs (bxS s))) (fun u hu=>?_) ?_;subst hu;exact h.hp;refine zX<|zZ<|Zm M M<|xP (us:=[]) (vs:=[]) (cs:=[.pointer (some ⟨ba,0,none⟩),.pointer (some ⟨bs,0,none⟩)]) (v:=.int .u8 c0.toNat) (ob':=bxI (p+1)) 0 .none M  (by kernel_rfl) M M M (fun w hw=>tE s p c0 h0 h.l ba bs w (HpG.blkL (j:=0) hw M) (HpG.x hw) h.ab) ?_;refine Zm M M<|xP (us:=[]) (vs:=[]) (cs:=[.pointer (some ⟨ba,0,none⟩),.pointer (some ⟨bs,0,none⟩)]) (v:=.int .u8 c1.toNat) (ob':=bxI (p+1+1)) 0 .none M  (by kernel_rfl) M M M (fun w hw=>tE s (p+1) c1 h1 h.l ba bs w (HpG.blkL (j:=0) hw M) (HpG.x hw) h.ab) ?_;refine Zm M M<|xP (us:=[]) (vs:=[]) (cs:=[.pointer (some ⟨ba,0,none⟩),.pointer (some ⟨bs,0,none⟩)]) (v:=.int .u8 c2.toNat) (ob':=bxI (p+1+1+1)) 0 .none M  (by kernel_rfl) M M M (fun w hw=>tE s (p+1+1) c2 h2 h.l ba bs w (HpG.blkL (j:=0) hw M) (HpG.x hw) h.ab) ?_;refine Zm M M<|xP (us:=[]) (vs:=[]) (cs:=[.pointer (some ⟨ba,0,none⟩),.pointer (some ⟨bs,0,none⟩)]) (v:=.int .u8 c3.toNat) (ob':=bxI (p+1+1+1+1)) 0 .none M  (by kernel_rfl) M M M (fun w hw=>tE s (p+1+1+1) c3 h3 h.l ba bs w (HpG.blkL (j:=0) hw M) (HpG.x hw) h.ab) ?_;refine zA .none M (tX (z:=.int .u8 0) M M M M U53 (by kernel_rfl) (by kernel_rfl) M M) fun b13=>Za M M<|ZT<|Z3r 0 1 4 M<|Zm M M<|Zm M M ?_
 refine ZF M (sO 0 [c0,c1,c2,c3] M M Tryz.underlying53 Tryz.underlying5 Tryz.underlying9 M (four_cells c0 c1 c2 c3)) ?_
 refine Zu (v:=.int .u32 (getL [c0,c1,c2,c3])) M (fun w hw=>get_any [c0,c1,c2,c3] (Ae 4) w)<|Zn M M<|ZF M (Y35x5 M) ?_;refine ZS 2 M<|zS<|vJ M fun w hw=>⟨rfl,Kk hw,HpG.blkL (j:=1) hw rfl,HpG.blkL (j:=2) hw rfl⟩
theorem index_tk (hl:p<s.length):Calls Tryz.prog 200 #[nxV ba bs,.pointer (some ⟨bi,0,none⟩)] w_0 (tV ba bi p s i [.index] w_0):=by
 obtain⟨c,hc⟩:=qH hl;have hcl:=UInt8.toNat_lt c
 have hx:vZ (s.drop p) i [.index]=if c=8 then i else { i with index:=(c.toNat%16:Nat),scale:=(c.toNat/16:Nat) }:=by
  rw[qJ hc];show (if c=8 then i else { i with index:=(c.toNat%16:Nat),scale:=(c.toNat/16:Nat) })=_;rfl
 unfold tV;rw[hx];refine zN (args:=[nxV ba bs,.pointer (some ⟨bi,0,none⟩)]) Tryz.func200 M 20 M (Kh M)<|Z2 0 1 M<|zG (H':=Hp (fun j=>j=ba∨j=bi) w_0 [(ba,bxI p),(bi,kiO i)] [] (Blk bs (bxS s))) (fun u hu=>?_) ?_;subst hu;exact h.hp;refine zX<|zZ<|Zm M M<|xP (us:=[]) (vs:=[]) (cs:=[.pointer (some ⟨ba,0,none⟩),.pointer (some ⟨bs,0,none⟩)]) (v:=.int .u8 c.toNat) (ob':=bxI (p+1)) 0 .none M  (by kernel_rfl) M M M (fun w hw=>tE s p c hc h.l ba bs w (HpG.blkL (j:=0) hw M) (HpG.x hw) h.ab) ?_;refine ZF M (Zc M U3 (i64_in _ (by omega) (by omega)))<|Za M M<|ZX<|Z3r 0 1 4 M<|Zm M M<|ZF M (xF M M)<|ZT<|zT M (fun h9=>?_) (fun h9=>?_)
 ·replace h9:=xD h9;refine Z4r 0 1 4 9 rfl<|Zm rfl rfl<|Zm rfl rfl<|Zm rfl rfl<|ZF rfl (yf_and rfl rfl (an15_c c))<|Zm rfl rfl<|ZF rfl (qE rfl rfl (by first|decide|omega) (sh4_c c)) ?_;refine Zn M M<|ZF M (Y35x3 M) ?_;refine ZS 1 M<|Zn M M<|ZF M (Y35x4 M) ?_;refine ZS 1 M<|zS<|vJ M fun w hw=>⟨rfl,Kk hw,HpG.blkL (j:=0) hw rfl,by rw[Ag (fun e=>h9 ((xC 8).1 e))];exact HpG.blkL (j:=1) hw rfl⟩
 replace h9:=wJ h9;refine zR<|vJ M fun w hw=>⟨rfl,Kk hw,HpG.blkL (j:=0) hw rfl,by rw[Ah ((xC 8).2 h9)];exact HpG.blkL (j:=1) hw rfl⟩
def tkFid:Fld→FuncId
 | .reg=>190
 | .pair=>192
 | .small=>195
 | .plain=>202
 | .full=>198
 | .index=>200
theorem fld_tk (f:Fld) (hl:p+ndF f≤s.length):Calls Tryz.prog (tkFid f) #[nxV ba bs,.pointer (some ⟨bi,0,none⟩)] w_0 (tV ba bi p s i [f] w_0):=by
 cases f;exact reg_tk ba bs bi p s i w_0 h (by have:ndF .reg=1:=rfl;omega);exact pair_tk ba bs bi p s i w_0 h (by have:ndF .pair=1:=rfl;omega);exact small_tk ba bs bi p s i w_0 h (by have:ndF .small=1:=rfl;omega);exact plain_tk ba bs bi p s i w_0 h (by have:ndF .plain=1:=rfl;omega);exact full_tk ba bs bi p s i w_0 h hl;exact index_tk ba bs bi p s i w_0 h (by have:ndF .index=1:=rfl;omega)
end
end Go.Proofs.YtkaepknpplhgkaaGreatDoor
namespace Go.Proofs.YtkaepknpplhgkaaGreatDoor
end Go.Proofs.YtkaepknpplhgkaaGreatDoor
namespace Go.Proofs.YtkaepknpplhgkaaGreatDoor
inductive It
 | w (s:Bs)
 | n (k:Nat)
 | c (x:UInt8)
 | b (x:UInt8)
def wrdB (s:Bs):Bool:=match s with
 | []=>false
 | c::w=>(sR c||decide (c=95)||decide (c=46))&&w.all wF
def itB:It→Bs
 | .w s=>s
 | .n k=>Lib.decDigits k
 | .c x=>[x]
 | .b x=>[x]
def itK:It→List ATk
 | .w s=>[⟨119,s,0⟩]
 | .n k=>[⟨48,[],k⟩]
 | .c x=>[⟨115,[x],0⟩]
 | .b _=>[]
def txI (l:List It):Bs:=(l.map itB).flatten
def tkI (l:List It):List ATk:=(l.map itK).flatten
def stI:List It→Bool
 | []=>true
 | .c _::_=>true
 | .b _::_=>true
 | _=>false
def okI:List It→Prop
 | []=>True
 | .w s::r=>wrdB s=true∧stI r=true∧okI r
 | .n k::r=>k<4294967296∧stI r=true∧okI r
 | .c x::r=>x∈sgnL∧okI r
 | .b x::r=>(x=32∨x=9)∧okI r
theorem pZ (i:It) (l:List It):txI (i::l)=itB i++txI l:=rfl
theorem tkI_cons (i:It) (l:List It):tkI (i::l)=itK i++tkI l:=rfl
theorem sgn_wor:∀{x:UInt8},x∈sgnL→wF x=false∧x≠59∧x≠10:=by
 have:∀x∈sgnL,wF x=false∧x≠59∧x≠10:=by decide
 exact fun {x} h=>this x h
theorem wor_no {c:UInt8}(h:wF c=true):c≠59∧c≠10∧c≠32:=by
 refine⟨?_,?_,?_⟩<;>(rintro rfl;revert h;decide)
theorem wrd_wor {s:Bs}(h:wrdB s=true):∀c∈s,wF c=true:=by
 cases s with
 | nil=>cases h
 | cons c w =>
  simp only[wrdB,Ab,Bool.or_eq_true,Af,List.all_eq_true] at h;intro x hx;rcases List.mem_cons.1 hx with rfl|hx
  ·unfold wF;rcases h.1 with (h|h)|h;rw[h];rfl;subst h;rfl;subst h;rfl
  exact h.2 x hx
theorem stI_stp {l:List It}(h:okI l) (hs:stI l=true):Stp7 (txI l):=by
 intro c t e
 cases l with
 | nil=>cases e
 | cons i l =>
  cases i with
  | w s=>cases hs
  | n k=>cases hs
  | c x =>
   rw[pZ] at e;cases e;exact (sgn_wor h.1).1
  | b x =>
   rw[pZ] at e;cases e;rcases h.1 with rfl|rfl<;>decide
theorem lexD_it:∀{l:List It},okI l→vV (txI l)=.ok (tkI l)
 | [],_=>rfl
 | .w s::l,h=>by
  obtain⟨h1,h2,h3⟩:=h;rw[pZ,tkI_cons]
  cases s with
  | nil=>cases h1
  | cons c w =>
   simp only[wrdB,Ab,Bool.or_eq_true,Af,List.all_eq_true] at h1;show vV (c::w++txI l)=_;rw[lexD_word (by rcases h1.1 with (h|h)|h;exact .inl h;exact .inr (.inl h);exact .inr (.inr h)) h1.2 (stI_stp h3 h2),lexD_it h3];rfl
 | .n k::l,h=>by
  obtain⟨h1,h2,h3⟩:=h;rw[pZ,tkI_cons];show vV (Lib.decDigits k++txI l)=_;rw[lexD_dec h1 (stI_stp h3 h2),lexD_it h3];rfl
 | .c x::l,h=>by
  rw[pZ,tkI_cons];show vV (x::txI l)=_;rw[lexD_sign h.1,lexD_it h.2];rfl
 | .b x::l,h=>by
  rw[pZ,tkI_cons];show vV (x::txI l)=_;rw[lexD_blank h.1,lexD_it h.2];rfl
theorem txI_no:∀{l:List It},okI l→∀c∈txI l,c≠59∧c≠10
 | [],_,_,hc=>by cases hc
 | i::l,h,c,hc=>by
  have hl:okI l:=by cases i with
   | w s=>exact h.2.2
   | n k=>exact h.2.2
   | c x=>exact h.2
   | b x=>exact h.2
  rw[pZ] at hc;rcases Aq.1 hc with hc|hc
  ·cases i with
   | w s=>exact⟨(wor_no (wrd_wor h.1 c hc)).1,(wor_no (wrd_wor h.1 c hc)).2.1⟩
   | n k=>exact⟨dig_ne (dec_mem hc) (by decide),dig_ne (dec_mem hc) (by decide)⟩
   | c x=>cases Ar.1 hc;exact (sgn_wor h.1).2
   | b x =>
    cases Ar.1 hc;rcases h.1 with rfl|rfl<;>decide
  exact txI_no hl c hc
theorem lexA_it {l:List It}(h:okI l):rN (txI l)=.ok (tkI l):=by
 rw[lexA_no fun c hc=>(txI_no h c hc).1,lexD_it h]
theorem liA_it {l:List It}(kind:Int) (h:okI l):liA kind (txI l)=nR kind (tkI l):=by
 unfold liA;rw[lexA_it h];rfl
theorem okI_nl {l:List It}(h:okI l):NoNl (txI l):=fun c hc=>(txI_no h c hc).2
end Go.Proofs.YtkaepknpplhgkaaGreatDoor
namespace Go.Proofs.YtkaepknpplhgkaaGreatDoor
theorem rM {op:Int}{n:Nat}{l:List Fld}(h:pR op=some (n,l)) :
  (0≤op∧op≤4∧n=1∧l=[])∨(16≤op∧op≤21∧n=2∧l=[.reg])∨(32≤op∧op≤46∧n=2∧l=[.pair])∨(48≤op∧op≤62∧n=3∧l=[.reg,.small])∨(64≤op∧op≤78∧n=6∧l=[.reg,.full])
  ∨ (80≤op∧op≤86∧n=3∧l=[.pair,.small])∨(88≤op∧op≤94∧n=7∧l=[.pair,.index,.full])∨(96≤op∧op≤109∧n=2∧l=[.small])∨(112≤op∧op≤113∧n=5∧l=[.full])∨(op=128∧n=2∧l=[.plain])∨(129≤op∧op≤130∧n=2∧l=[.pair]):=by
 unfold pR fmtL at h;simp only[fmtF] at h
 by_cases h0:0≤op∧op≤4
 rw[Ah h0] at h;cases h;exact .inl ⟨h0.1,h0.2,rfl,rfl⟩;rw[Ag h0] at h;right
 by_cases h0:16≤op∧op≤21
 rw[Ah h0] at h;cases h;exact .inl ⟨h0.1,h0.2,rfl,rfl⟩;rw[Ag h0] at h;right
 by_cases h0:32≤op∧op≤46
 rw[Ah h0] at h;cases h;exact .inl ⟨h0.1,h0.2,rfl,rfl⟩;rw[Ag h0] at h;right
 by_cases h0:48≤op∧op≤62
 rw[Ah h0] at h;cases h;exact .inl ⟨h0.1,h0.2,rfl,rfl⟩;rw[Ag h0] at h;right
 by_cases h0:64≤op∧op≤78
 rw[Ah h0] at h;cases h;exact .inl ⟨h0.1,h0.2,rfl,rfl⟩;rw[Ag h0] at h;right
 by_cases h0:80≤op∧op≤86
 rw[Ah h0] at h;cases h;exact .inl ⟨h0.1,h0.2,rfl,rfl⟩;rw[Ag h0] at h;right
 by_cases h0:88≤op∧op≤94
 rw[Ah h0] at h;cases h;exact .inl ⟨h0.1,h0.2,rfl,rfl⟩;rw[Ag h0] at h;right
 by_cases h0:96≤op∧op≤109
 rw[Ah h0] at h;cases h;exact .inl ⟨h0.1,h0.2,rfl,rfl⟩;rw[Ag h0] at h;right
 by_cases h0:112≤op∧op≤113
 rw[Ah h0] at h;cases h;exact .inl ⟨h0.1,h0.2,rfl,rfl⟩;rw[Ag h0] at h;right
 by_cases h0:128≤op∧op≤128
 rw[Ah h0] at h;cases h;exact .inl ⟨by omega,rfl,rfl⟩;rw[Ag h0] at h;right
 by_cases h0:129≤op∧op≤130
 rw[Ah h0] at h;cases h;exact⟨h0.1,h0.2,rfl,rfl⟩;rw[Ag h0] at h;cases h
def idxV:Option (Nat×Nat)→Int
 | none=>-1
 | some p=>p.1
def scaV:Option (Nat×Nat)→Int
 | none=>0
 | some p=>p.2
inductive VK:KI→Prop
 | none (k:Nat) (hk:k<5):VK ⟨k,0,0,-1,0,0,1⟩
 | reg (k d:Nat) (hk:k<6) (hd:d<8):VK ⟨(16+k:Nat),d,0,-1,0,0,2⟩
 | regs (k d s:Nat) (hk:k<15) (hd:d<8) (hs:s<8):VK ⟨(32+k:Nat),d,s,-1,0,0,2⟩
 | short (k d n:Nat) (hk:k<15) (hd:d<8) (hn:n<4294967296) (hf:sxL (n%256) 8=n):VK ⟨(48+k:Nat),d,0,-1,0,n,3⟩
 | imm (k d n:Nat) (hk:k<15) (hd:d<8) (hn:n<4294967296):VK ⟨(64+k:Nat),d,0,-1,0,n,6⟩
 | mem (k d s n:Nat) (hk:k<7) (hd:d<8) (hs:s<8) (hn:n<4294967296) (hf:sxL (n%256) 8=n):VK ⟨(80+k:Nat),d,s,-1,0,n,3⟩
 | idx (k d s n:Nat) (x:Option (Nat×Nat)) (hk:k<7) (hd:d<8) (hs:s<8) (hn:n<4294967296) (hx:∀p,x=some p→p.1<8∧p.2<4):VK ⟨(88+k:Nat),d,s,idxV x,scaV x,n,7⟩
 | cond (k n:Nat) (hk:k<14) (hn:n<4294967296) (hf:sxL (n%256) 8=n):VK ⟨(96+k:Nat),0,0,-1,0,n,2⟩
 | jump (k n:Nat) (hk:k<2) (hn:n<4294967296):VK ⟨(112+k:Nat),0,0,-1,0,n,5⟩
 | sys (n:Nat) (hn:n<256):VK ⟨128,0,0,-1,0,n,2⟩
 | getc (d s:Nat) (hd:d<8) (hs:s<4):VK ⟨129,d,s,-1,0,0,2⟩
 | setc (d s:Nat) (hd:d<8) (hs:s<5):VK ⟨130,d,s,-1,0,0,2⟩
theorem sA (n:Nat):(byL (n%256)).toNat=n%256:=by
 have:n%256<256:=Nat.mod_lt _ (by omega);unfold byL;rw[UInt8.toNat_ofNat'];omega
theorem lowB_nat (x:Int):((lowB x).toNat:Int)=x%256:=by
 unfold lowB byL;rw[UInt8.toNat_ofNat'];omega
theorem xQ {x:Int}{n:Nat}(h0:0≤x) (h1:x<n):∃k:Nat,x=k∧k<n:=⟨x.toNat,by omega,by omega⟩
theorem vK_of {i:KI}(hm:i.imm<4294967296) (h:(tW i).isSome=true):VK i:=by
 obtain⟨op,d,s,x,c,n,z⟩:=i;unfold tW at h;dsimp only at h hm
 cases hf:pR op with
 | none=>rw[hf] at h;cases h
 | some p =>
  obtain⟨z0,l⟩:=p;rw[hf] at h;dsimp only at h
  split at h
  ·next hh =>
   obtain⟨h1,h2,h3⟩:=hh;subst h1;unfold oN at h2;simp only[Ab,Af] at h2;obtain⟨⟨⟨⟨d0,d1⟩,⟨s0,s1⟩⟩,⟨x0,x1⟩⟩,⟨c0,c1⟩⟩:=h2;obtain⟨dn,rfl,hd⟩:=xQ (n:=8) d0 (by omega);have hop:0≤op:=by rcases rM hf with h|h|h|h|h|h|h|h|h|h|h<;>omega
   obtain⟨opn,rfl,ho⟩:=xQ (n:=131) hop (by rcases rM hf with h|h|h|h|h|h|h|h|h|h|h<;>omega);obtain⟨sn,rfl,hs⟩:=xQ (n:=8) s0 (by revert s1;split<;>(try split)<;>omega);rcases rM hf with ⟨o1,o2,rfl,rfl⟩|⟨o1,o2,rfl,rfl⟩|⟨o1,o2,rfl,rfl⟩|⟨o1,o2,rfl,rfl⟩|⟨o1,o2,rfl,rfl⟩|⟨o1,o2,rfl,rfl⟩|⟨o1,o2,rfl,rfl⟩|⟨o1,o2,rfl,rfl⟩|⟨o1,o2,rfl,rfl⟩|⟨o1,rfl,rfl⟩|⟨o1,o2,rfl,rfl⟩
   ·rw[show ((1:Nat):Int)=1 from rfl] at h3 ⊢;have:(⟨opn,0,0,-1,0,0,1⟩:KI)=⟨opn,dn,sn,x,c,n,1⟩:=h3;rw[← this];exact .none opn (by omega)
   ·rw[show ((2:Nat):Int)=2 from rfl] at h3 ⊢;have:(⟨opn,(lowB dn).toNat,0,-1,0,0,2⟩:KI)=⟨opn,dn,sn,x,c,n,2⟩:=h3;injection this with _ _ a2 a3 a4 a5 _;rw[← a2,← a3,← a4,← a5];have:=VK.reg (opn-16) dn (by omega) hd
    rwa [show 16+(opn-16)=opn by omega] at this
   ·rw[show ((2:Nat):Int)=2 from rfl] at h3 ⊢;have:(⟨opn,_,_,-1,0,0,2⟩:KI)=⟨opn,dn,sn,x,c,n,2⟩:=h3;injection this with _ _ _ a3 a4 a5 _;rw[← a3,← a4,← a5];have:=VK.regs (opn-32) dn sn (by omega) hd hs
    rwa [show 32+(opn-32)=opn by omega] at this
   ·rw[show ((3:Nat):Int)=3 from rfl] at h3 ⊢;have:(⟨opn,_,0,-1,0,sxL (byL (n%256)).toNat 8,3⟩:KI)=⟨opn,dn,sn,x,c,n,3⟩:=h3;injection this with _ _ a2 a3 a4 a5 _;rw[sA] at a5;rw[← a2,← a3,← a4];have:=VK.short (opn-48) dn n (by omega) hd hm a5
    rwa [show 48+(opn-48)=opn by omega] at this
   ·rw[show ((6:Nat):Int)=6 from rfl] at h3 ⊢;have:(⟨opn,_,0,-1,0,_,6⟩:KI)=⟨opn,dn,sn,x,c,n,6⟩:=h3;injection this with _ _ a2 a3 a4 _ _;rw[← a2,← a3,← a4];have:=VK.imm (opn-64) dn n (by omega) hd hm
    rwa [show 64+(opn-64)=opn by omega] at this
   ·rw[show ((3:Nat):Int)=3 from rfl] at h3 ⊢;have:(⟨opn,_,_,-1,0,sxL (byL (n%256)).toNat 8,3⟩:KI)=⟨opn,dn,sn,x,c,n,3⟩:=h3;injection this with _ _ _ a3 a4 a5 _;rw[sA] at a5;rw[← a3,← a4];have:=VK.mem (opn-80) dn sn n (by omega) hd hs hm a5
    rwa [show 80+(opn-80)=opn by omega] at this
   ·rw[show ((7:Nat):Int)=7 from rfl] at h3 ⊢
    by_cases hx:x<0
    ·have hx1:x=-1:=by omega
     subst hx1;have e:vF ⟨opn,dn,sn,-1,c,n,7⟩ [.pair,.index,.full]=lowB (Int.ofNat (((dn:Int).toNat <<< 4) ||| (sn:Int).toNat))::8::(wS n 4++[]):=rfl;rw[e] at h3;have:(⟨opn,_,_,-1,0,_,7⟩:KI)=⟨opn,dn,sn,-1,c,n,7⟩:=h3;injection this with _ _ _ _ a4 _ _;rw[← a4];have:=VK.idx (opn-88) dn sn n none (by omega) hd hs hm (fun _ h=>nomatch h)
     rwa [show 88+(opn-88)=opn by omega] at this
    obtain⟨xn,rfl,hxn⟩:=xQ (n:=8) (x:=x) (by omega) (by omega);obtain⟨cn,rfl,hcn⟩:=xQ (n:=4) (x:=c) (by omega) (by omega);have:=VK.idx (opn-88) dn sn n (some (xn,cn)) (by omega) hd hs hm (fun p h=>by cases h;exact⟨hxn,hcn⟩)
    rwa [show 88+(opn-88)=opn by omega] at this
   ·rw[show ((2:Nat):Int)=2 from rfl] at h3 ⊢;have:(⟨opn,0,0,-1,0,sxL (byL (n%256)).toNat 8,2⟩:KI)=⟨opn,dn,sn,x,c,n,2⟩:=h3;injection this with _ a1 a2 a3 a4 a5 _;rw[sA] at a5;rw[← a1,← a2,← a3,← a4];have:=VK.cond (opn-96) n (by omega) hm a5
    rwa [show 96+(opn-96)=opn by omega] at this
   ·rw[show ((5:Nat):Int)=5 from rfl] at h3 ⊢;have:(⟨opn,0,0,-1,0,_,5⟩:KI)=⟨opn,dn,sn,x,c,n,5⟩:=h3;injection this with _ a1 a2 a3 a4 _ _;rw[← a1,← a2,← a3,← a4];have:=VK.jump (opn-112) n (by omega) hm
    rwa [show 112+(opn-112)=opn by omega] at this
   ·rw[show ((2:Nat):Int)=2 from rfl] at h3 ⊢;have:(⟨opn,0,0,-1,0,(byL (n%256)).toNat,2⟩:KI)=⟨opn,dn,sn,x,c,n,2⟩:=h3;injection this with _ a1 a2 a3 a4 a5 _;rw[sA] at a5;rw[← a1,← a2,← a3,← a4,o1];exact .sys n (by omega)
   rw[show ((2:Nat):Int)=2 from rfl] at h3 ⊢;have:(⟨opn,_,_,-1,0,0,2⟩:KI)=⟨opn,dn,sn,x,c,n,2⟩:=h3;injection this with _ _ _ a3 a4 a5 _;rw[← a3,← a4,← a5];have ho2:opn=129∨opn=130:=by omega
   rcases ho2 with rfl|rfl;exact .getc dn sn hd (by rw[Ah (by omega)] at s1;omega);exact .setc dn sn hd (by rw[Ag (by omega),Ah (by omega)] at s1;omega)
  ·cases h
end Go.Proofs.YtkaepknpplhgkaaGreatDoor
namespace Go.Proofs.YtkaepknpplhgkaaGreatDoor
open Go.RowKit
theorem vT (x:Int):IntKind.u8.wrap x=(((lowB x).toNat:Nat):Int):=by rw[u8w,lowB_nat]
theorem or4 {d s:Int}(h0:0≤d) (h1:d≤7) (h2:0≤s) (h3:s≤7):bits .or .i64 (IntKind.i64.wrap (d*2 ^ (min (4:Int).toNat IntKind.i64.bits))) s=Int.ofNat ((d.toNat <<< 4) ||| s.toNat):=by
 obtain⟨d,rfl⟩:=Int.eq_ofNat_of_zero_le h0;obtain⟨s,rfl⟩:=Int.eq_ofNat_of_zero_le h2
 have e:(d:Int)*2 ^ (min (4:Int).toNat IntKind.i64.bits)=((d*16:Nat):Int):=by
  rw[show (2:Int) ^ (min (4:Int).toNat IntKind.i64.bits)=16 by decide];omega
 rw[e,i64w_nat (by omega),i64_or_nat _ _ (by omega) (by omega),Int.toNat_natCast,Int.toNat_natCast,Nat.shiftLeft_eq];rfl
theorem rng_all {i:KI}(h:oN i=true):0≤i.d∧i.d≤7∧0≤i.s∧i.s≤7∧-1≤i.index∧i.index≤7∧0≤i.scale∧i.scale≤3:=by
 unfold oN at h;simp only[Ab,Af] at h;obtain⟨⟨⟨⟨d0,d1⟩,⟨s0,s1⟩⟩,⟨x0,x1⟩⟩,⟨c0,c1⟩⟩:=h;have:i.s≤7:=by revert s1;split<;>(try split)<;>omega
 exact⟨d0,d1,s0,this,x0,x1,c0,c1⟩
section
variable (i:KI) (w_0:World)
def tF (i:KI) (l:List Fld) (w:World) (e:Ending) (w':World):Prop:=e=.returned (.string ⟨(vF i l).toArray⟩)∧Ext w w'
theorem none_pt:Calls Tryz.prog 189 #[.agg (kiC i).toArray] w_0 (tF i [] w_0):=by
 unfold tF;refine zN (args:=[.agg (kiC i).toArray]) Tryz.func189 M 3 M (Kh M)<|Z1 0 M<|Z0<|zX<|zZ<|zA .none M (yQ M M) fun b1=>Za M M<|ZX<|Z2r 0 2 M<|Za M M<|ZU M M fun w hw=>⟨rfl,(Kk hw).ext⟩
theorem reg_pt:Calls Tryz.prog 191 #[.agg (kiC i).toArray] w_0 (tF i [.reg] w_0):=by
 unfold tF;refine zN (args:=[.agg (kiC i).toArray]) Tryz.func191 M 8 M (Kh M)<|Z1 0 M<|Z0<|zX<|zZ<|zA .none M (yQ M M) fun b1=>Za M M<|ZX<|zZ<|ZF M (Y35x1 M) ?_;refine Zl 0 M U3 M<|ZF M (Zc M U5 (vT i.d))<|Zs (z:=.int .u8 0) M U53 (fun b6=>?_)
 refine ZF M (sO 0 [lowB i.d] M M Tryz.underlying53 Tryz.underlying5 Tryz.underlying9 M (qX (lowB i.d))) ?_
 refine Za M M<|ZU M M fun w hw=>⟨rfl,(Kk hw).ext⟩
theorem byte_pt (f:Fld) (hf:f=.small∨f=.plain):Calls Tryz.prog 197 #[.agg (kiC i).toArray] w_0 (tF i [f] w_0):=by
 have hp:vF i [f]=[byL (i.imm%256)]:=by rcases hf with rfl|rfl<;>rfl
 have hb:IntKind.u8.wrap (i.imm:Int)=((byL (i.imm%256)).toNat:Int):=by
  rw[u8w,sA];omega
 unfold tF;rw[hp];refine zN (args:=[.agg (kiC i).toArray]) Tryz.func197 M 8 M (Kh M)<|Z1 0 M<|Z0<|zX<|zZ<|zA .none M (yQ M M) fun b1=>Za M M<|ZX<|zZ<|ZF M (Y35x5 M) ?_;refine Zl 0 M U22 M<|ZF M (Zc M U5 hb)<|Zs (z:=.int .u8 0) M U53 (fun b6=>?_)
 refine ZF M (sO 0 [byL (i.imm%256)] M M Tryz.underlying53 Tryz.underlying5 Tryz.underlying9 M (qX (byL (i.imm%256)))) ?_
 refine Za M M<|ZU M M fun w hw=>⟨rfl,(Kk hw).ext⟩
theorem full_pt (hn:i.imm<4294967296):Calls Tryz.prog 199 #[.agg (kiC i).toArray] w_0 (tF i [.full] w_0):=by
 have hp:vF i [.full]=wS i.imm 4:=Al _;unfold tF;rw[hp];refine zN (args:=[.agg (kiC i).toArray]) Tryz.func199 M 6 M (Kh M)<|Z1 0 M<|Z0<|zX<|zZ<|zA .none M (yQ M M) fun b1=>Za M M<|ZX<|zZ<|ZF M (Y35x5 M) ?_;refine Zl 0 M U22 M<|Zu (v:=.string ⟨(wS i.imm 4).toArray⟩) M (fun w hw=>put_any i.imm 4 hn (Ae 4) w)<|Za M M<|ZU M M fun w hw=>⟨rfl,(Kk hw).ext⟩
theorem pair_pt (hr:oN i=true):Calls Tryz.prog 193 #[.agg (kiC i).toArray] w_0 (tF i [.pair] w_0):=by
 obtain⟨d0,d1,s0,s1,_⟩:=rng_all hr;unfold tF;refine zN (args:=[.agg (kiC i).toArray]) Tryz.func193 M 12 M (Kh M)<|Z1 0 M<|Z0<|zX<|zZ<|zA .none M (yQ M M) fun b1=>Za M M<|ZX<|zZ<|ZF M (Y35x1 M) ?_;refine Zl 0 rfl U3 rfl<|ZF rfl (sP rfl rfl (by first|decide|omega) rfl) ?_;refine ZF M (Y35x2 M) ?_;refine Zl 0 M U3 M<|ZF M (yf_or M M (or4 d0 d1 s0 s1))<|ZF M (Zc M U5 (vT _))<|Zs (z:=.int .u8 0) M U53 (fun b10=>?_)
 refine ZF rfl (sO 0 [lowB (Int.ofNat ((i.d.toNat <<< 4) ||| i.s.toNat))] rfl rfl Tryz.underlying53 Tryz.underlying5 Tryz.underlying9 rfl (qX _)) ?_
 refine Za M M<|ZU M M fun w hw=>⟨rfl,(Kk hw).ext⟩
theorem index_pt (hr:oN i=true):Calls Tryz.prog 201 #[.agg (kiC i).toArray] w_0 (tF i [.index] w_0):=by
 obtain⟨_,_,_,_,x0,x1,c0,c1⟩:=rng_all hr;have hp:vF i [.index]=if i.index<0 then [8] else [lowB (Int.ofNat ((i.scale.toNat <<< 4) ||| i.index.toNat))]:=Al _;unfold tF;rw[hp];refine zN (args:=[.agg (kiC i).toArray]) Tryz.func201 M 15 M (Kh M)<|Z1 0 M<|Z0<|zX<|zZ<|zA .none M (yQ M M) fun b1=>Za M M<|ZX<|zX<|zZ<|ZF M (Y35x3 M) ?_;refine Zl 0 M U3 M<|ZF M (yR M M)<|ZT<|zT M (fun h5=>?_) (fun h5=>?_)
 ·replace h5:=Ki h5;refine zX<|Z4r 0 1 2 5 M<|Za M M<|ZT<|zK<|zW<|yY M M fun w hw=>⟨by rw[Ah h5],(Kk hw).ext⟩
 replace h5:=Kj h5;refine zR<|zV<|zX<|Z4r 0 1 2 5 M<|ZF M (Y35x4 M) ?_;refine Zl 0 rfl U3 rfl<|ZF rfl (sP rfl rfl (by first|decide|omega) rfl) ?_;refine ZF M (Y35x3 M) ?_;refine Zl 0 M U3 M<|ZF M (yf_or M M (or4 c0 (by omega) (by omega) x1))<|ZF M (Zc M U5 (vT _))<|Zs (z:=.int .u8 0) M U53 (fun b13=>?_)
 refine ZF rfl (sO 0 [lowB (Int.ofNat ((i.scale.toNat <<< 4) ||| i.index.toNat))] rfl rfl Tryz.underlying53 Tryz.underlying5 Tryz.underlying9 rfl (qX _)) ?_
 refine Za M M<|ZU M M fun w hw=>⟨by rw[Ag h5],(Kk hw).ext⟩
def ptFid:Fld→FuncId
 | .reg=>191
 | .pair=>193
 | .small=>197
 | .plain=>197
 | .full=>199
 | .index=>201
theorem fld_pt (f:Fld) (hr:oN i=true) (hn:i.imm<4294967296):Calls Tryz.prog (ptFid f) #[.agg (kiC i).toArray] w_0 (tF i [f] w_0):=by
 cases f;exact reg_pt i w_0;exact pair_pt i w_0 hr;exact byte_pt i w_0 _ (.inl M);exact byte_pt i w_0 _ (.inr M);exact full_pt i w_0 hn;exact index_pt i w_0 hr
end
end Go.Proofs.YtkaepknpplhgkaaGreatDoor
namespace Go.Proofs.YtkaepknpplhgkaaGreatDoor
open Go.RowKit
section
variable {P:Program}{ops:Array Oper}{Q:Exit→Act→World→Prop}{n:Fr}{m:List (Nat×Value)}{ty:TypeId}{G B:Nat→Prop}{w0 w w':World}{L:List (Nat×Obj)}{R:List Rw}{X:World→Prop}{rest:List Oper}{d:Nat}{pos:String}{af:Array Edge}{gd:Option (Nat×Bool)}
theorem HpG.turn2 (h:HpG G B w0 L R X w) {k1 k2 g1 g2:Nat}{o1 o2 o1' o2':Obj}(hk1:L[k1]? = some (g1,o1)) (hk2:L[k2]? = some (g2,o2)) (hne:g1≠g2) (hK:Keep (fun j=>j=g1∨j=g2) w w') (h1:w'.heap[g1]? = some o1') (h2:w'.heap[g2]? = some o2'):HpG G B w0 ((L.set k1 (g1,o1')).set k2 (g2,o2')) R X w':=by
 have hlt:g1<w.heap.size:=(Kp.1 (h.own _ (Ko hk1))).1;have hu1:({ w with heap:=w.heap.setIfInBounds g1 o1' }:World).heap[g1]? = some o1':=by simp[hlt]
 have hu:∀k,k≠g1→({ w with heap:=w.heap.setIfInBounds g1 o1' }:World).heap[k]? = w.heap[k]? := fun k hk=>by
  simp[Array.getElem?_setIfInBounds_ne (fun e=>hk e.symm)]
 have K1:Keep (fun j=>j=g1) w { w with heap:=w.heap.setIfInBounds g1 o1' }:=⟨rfl,rfl,rfl,by simp,fun k _ hk=>hu k hk⟩
 have K2:Keep (fun j=>j=g2) { w with heap:=w.heap.setIfInBounds g1 o1' } w':=⟨hK.os,hK.tape,hK.output,by have:=hK.size;simpa using this,fun k hk hk2=>by
  by_cases hk1:k=g1
  subst hk1;rw[h1,hu1];rw[hu k hk1]
  exact hK.block k (by simpa using hk) (fun e=>e.elim hk1 hk2)⟩
 have hne':k1≠k2:=fun e=>by subst e;rw[hk1] at hk2;cases hk2;exact hne rfl
 exact (h.turn hk1 K1 hu1).turn (by rw[List.getElem?_set_ne hne'];exact hk2) K2 h2
theorem wl_callV2 {x:Operand}{f:FuncId}{args:List Operand}{ats:Array TypeId}{us vs cs:List Value}{v:Value}{g1 g2:Nat}{o1 o2 o1' o2':Obj}(k1 k2:Nat) (hg:Gd ops m gd) (hd:Nat.blt d n=true) (hf:goes P f=true) (hx:ev m x=some (.func (.func f) us.toArray cs.toArray)) (ha:evl m args=some vs) (hk1:L[k1]? = some (g1,o1)) (hk2:L[k2]? = some (g2,o2)) (hne:g1≠g2)
  (hC:∀w,HpG G B w0 L R X w→Calls P f (us++vs++cs).toArray w fun e w'=>e=.returned v∧Keep (fun j=>j=g1∨j=g2) w w'∧w'.heap[g1]? = some o1'∧w'.heap[g2]? = some o2')
  (h:WL P ops Q rest n ((d,v)::m) (HpG G B w0 ((L.set k1 (g1,o1')).set k2 (g2,o2')) R X)):WL P ops Q (⟨some d,.call { callee:=.value x,args:=args.toArray,argTypes:=ats },ty,pos,af,gd⟩::rest) n m (HpG G B w0 L R X) :=
 xY (ι:=Unit) (val:=fun _=>v) (H':=fun _=>HpG G B w0 ((L.set k1 (g1,o1')).set k2 (g2,o2')) R X) hg hd (pN hf hx ha fun w hw=>(hC w hw).mono fun _ _ ⟨e1,e2,e3,e4⟩=>⟨_,e1,(),rfl,hw.turn2 hk1 hk2 hne e2 e3 e4⟩) fun _=>h
end
theorem Blk.foot {g:Nat}{o:Obj}{w w':World}(h:Blk g o w) (hk:w'.heap[g]? = w.heap[g]?):Blk g o w':=hk.trans h
theorem Blk.lt {g:Nat}{o:Obj}{w:World}(h:Blk g o w):g<w.heap.size:=(Kp.1 h).1
abbrev fnV (f:FuncId):Value:=.func (.func f) #[] #[]
abbrev pfV (f b:Nat):Value:=.func (.func f) #[] #[.pointer (some ⟨b,0,none⟩)]
structure JnV (T U:TypeId) (f:FuncId) (l:List FuncId) (v:Value) (F:Nat→Prop) (w:World):Prop where
 ex:∃bl bf,v=pfV f bl∧F bl∧F bf∧Blk bl (bk U [.slice (some ⟨bf,0,none⟩) l.length l.length]) w∧Blk bf (bk T (l.map fnV)) w
theorem JnV.lies {T U:TypeId}{f:FuncId}{l:List FuncId}{v:Value}:Lies fun F=>JnV T U f l v F:=by
 refine⟨fun {F w w'} hk ⟨bl,bf,h1,h2,h3,h4,h5⟩=>⟨bl,bf,h1,h2,h3,h4.foot (hk _ h2),h5.foot (hk _ h3)⟩,fun {F w} ⟨bl,bf,h1,h2,h3,h4,h5⟩=>⟨bl,bf,h1,⟨h2,h4.lt⟩,⟨h3,h5.lt⟩,h4,h5⟩,fun {F F' w} hF ⟨bl,bf,h1,h2,h3,h4,h5⟩=>⟨bl,bf,h1,hF _ h2,hF _ h3,h4,h5⟩⟩
def TakeV (l:List Fld) (v:Value) (F:Nat→Prop) (w:World):Prop :=
 (l=[]∧v=fnV 188)∨(∃f,l=[f]∧v=fnV (tkFid f))∨JnV 132 252 230 (l.map tkFid) v F w
def PutV (l:List Fld) (v:Value) (F:Nat→Prop) (w:World):Prop :=
 (l=[]∧v=fnV 189)∨(∃f,l=[f]∧v=fnV (ptFid f))∨JnV 133 253 231 (l.map ptFid) v F w
theorem TakeV.lies {l:List Fld}{v:Value}:Lies fun F=>TakeV l v F:=by
 refine⟨fun {F w w'} hk h=>?_,fun {F w} h=>?_,fun {F F' w} hF h=>?_⟩<;>rcases h with h|h|h;exact .inl h;exact .inr (.inl h);exact .inr (.inr (JnV.lies.foot hk h));exact .inl h;exact .inr (.inl h);exact .inr (.inr (JnV.lies.lt h));exact .inl h;exact .inr (.inl h);exact .inr (.inr (JnV.lies.mono hF h))
theorem PutV.lies {l:List Fld}{v:Value}:Lies fun F=>PutV l v F:=by
 refine⟨fun {F w w'} hk h=>?_,fun {F w} h=>?_,fun {F F' w} hF h=>?_⟩<;>rcases h with h|h|h;exact .inl h;exact .inr (.inl h);exact .inr (.inr (JnV.lies.foot hk h));exact .inl h;exact .inr (.inl h);exact .inr (.inr (JnV.lies.lt h));exact .inl h;exact .inr (.inl h);exact .inr (.inr (JnV.lies.mono hF h))
theorem takeF_rest (b:Bs) (i:KI) (f:Fld):(takeF b i f).2=b.drop (ndF f):=by cases f<;>rfl
theorem takeFs_app:∀(l m:List Fld) (b:Bs) (i:KI),vZ b i (l++m)=vZ (b.drop (ndL l)) (vZ b i l) m
 | [],m,b,i=>rfl
 | f::l,m,b,i=>by
  show vZ (takeF b i f).2 (takeF b i f).1 (l++m)=vZ (b.drop (ndF f+ndL l)) (vZ (takeF b i f).2 (takeF b i f).1 l) m;rw[takeFs_app l m,takeF_rest,List.drop_drop]
theorem ndL_app:∀(l m:List Fld),ndL (l++m)=ndL l+ndL m
 | [],m=>by simp[ndL]
 | f::l,m=>by show ndF f+ndL (l++m)=ndF f+ndL l+ndL m;rw[ndL_app l m];omega
theorem putK_app (i:KI) (l m:List Fld):vF i (l++m)=vF i l++vF i m:=by simp[vF]
theorem take_one {α:Type}{l:List α}{k:Nat}{x:α}(h:l[k]? = some x):l.take (k+1)=l.take k++[x]:=by rw[List.take_add_one,h];rfl
theorem tk_goes (f:Fld):goes Tryz.prog (tkFid f)=true:=by cases f<;>kernel_rfl
theorem pt_goes (f:Fld):goes Tryz.prog (ptFid f)=true:=by cases f<;>kernel_rfl
theorem takes_any (l:List Fld) (bl bf:Nat) (ba bs bi p:Nat) (s:Bs) (i:KI) (w_0:World) (h:RdK ba bs bi p s i w_0) (hl:p+ndL l≤s.length) (hn:l.length≤1000) (h1:Blk bl (bk 252 [.slice (some ⟨bf,0,none⟩) l.length l.length]) w_0) (h2:Blk bf (bk 132 (l.map fun f=>fnV (tkFid f))) w_0) :
  Calls Tryz.prog 230 #[nxV ba bs,.pointer (some ⟨bi,0,none⟩),.pointer (some ⟨bl,0,none⟩)] w_0 (tV ba bi p s i l w_0):=by
 have n1:bl≠ba:=obj_ne h1 h.a (bk_ne (by decide));have n2:bl≠bi:=obj_ne h1 h.i (bk_ne (by decide));have n3:bf≠ba:=obj_ne h2 h.a (bk_ne (by decide));have n4:bf≠bi:=obj_ne h2 h.i (bk_ne (by decide));unfold tV;refine zN (args:=[nxV ba bs,.pointer (some ⟨bi,0,none⟩),.pointer (some ⟨bl,0,none⟩)]) Tryz.func230 M 18 M (Kh M)<|Z3 0 1 2 M<|zG (H':=Hp (fun j=>j=ba∨j=bi) w_0 [(ba,bxI p),(bi,kiO i)] [] (fun u=>Blk bs (bxS s) u∧Blk bl (bk 252 [.slice (some ⟨bf,0,none⟩) l.length l.length]) u∧Blk bf (bk 132 (l.map fun f=>fnV (tkFid f))) u)) (fun u hu=>?_) ?_;subst hu;exact Hp.start2 h.a h.i h.ai ⟨fun k=>k=bs∨k=bl∨k=bf,fun k hk=>(by rcases hk with rfl|rfl|rfl;exact⟨(Kp.1 h.b).1,h.ab,h.bi⟩;exact⟨h1.lt,n1,n2⟩;exact⟨h2.lt,n3,n4⟩),fun u hu=>⟨(hu _ (.inl rfl)).trans h.b,(hu _ (.inr (.inl rfl))).trans h1,(hu _ (.inr (.inr rfl))).trans h2⟩⟩;refine zX<|zZ<|ZF M (zL M U252 M (fun w hw=>Blk.cell (HpG.x hw).2.1 M))<|ZF M (yK M U252)<|Zm M M<|ZT<|zJ<|yF (ι:={k:Nat // k≤l.length}) (fun k=>[(0,nxV ba bs),(1,.pointer (some ⟨bi,0,none⟩)),(7,.slice (some ⟨bf,0,none⟩) l.length l.length),(8,.int .i64 l.length),(9,.int .i64 (k.1:Nat))]) (fun k=>Hp (fun j=>j=ba∨j=bi) w_0 [(ba,bxI (p+ndL (l.take k.1))),(bi,kiO (vZ (s.drop p) i (l.take k.1)))] [] (fun u=>Blk bs (bxS s) u∧Blk bl (bk 252 [.slice (some ⟨bf,0,none⟩) l.length l.length]) u∧Blk bf (bk 132 (l.map fun f=>fnV (tkFid f))) u)) (fun k=>l.length-k.1) ⟨0,Ad _⟩ ?_ ?_ (fun k=>?_);exact O5 rfl;exact fun w h=>h;obtain⟨k,hk⟩:=k;dsimp only;refine zX<|zZ<|ZF M (yR M M)<|ZX<|zT M (fun h10=>?_) (fun h10=>?_)
 ·replace h10:=Ki h10;skip;obtain⟨f,hf⟩:∃f,l[k]? = some f:=⟨l[k]'(by omega),Kn _⟩;have ht:=take_one hf
  have hnd:p+ndL (l.take k)+ndF f≤s.length:=by
   have e:ndL l=ndL (l.take (k+1))+ndL (l.drop (k+1)):=by rw[← ndL_app,List.take_append_drop]
   rw[ht,ndL_app] at e;have:ndL [f]=ndF f:=Nat.add_zero _;omega
  refine zR<|zV<|zX<|zJ<|zX<|zZ<|ZF rfl (Zi (es:=1) rfl rfl U252 rfl (by first|omega|simp<;>omega) rfl) ?_;refine ZF M (zL M Tryz.underlying132 M (fun w hw=>Blk.cell (HpG.x hw).2.2 (v:=fnV (tkFid f)) (by rw[List.getElem?_map,Ac,Nat.mul_one,hf];rfl))) ?_;refine Za M M<|ZT<|Z7r 0 1 6 7 8 9 10 M<|Zm M M<|Zm M M<|Zm M M<|wl_callV2 (us:=[]) (vs:=[nxV ba bs,.pointer (some ⟨bi,0,none⟩)]) (cs:=[]) (v:=.tuple #[]) (o1':=bxI (p+ndL (l.take (k+1)))) (o2':=kiO (vZ (s.drop p) i (l.take (k+1)))) 0 1 .none M  (tk_goes f) M M M M h.ai (fun w hw=>(fld_tk ba bs bi (p+ndL (l.take k)) s _ w ⟨HpG.blkL (j:=0) hw rfl,(HpG.x hw).1,HpG.blkL (j:=1) hw rfl,h.l⟩ f hnd).mono fun e w' ⟨e1,e2,e3,e4⟩=>⟨e1,e2,by rw[e3,ht,ndL_app,Nat.add_assoc],by rw[e4,ht,takeFs_app,List.drop_drop]⟩) ?_;refine zS<|zH<|zV<|Z7r 0 1 6 7 8 9 10 M<|ZF M (zF M M (i64_in _ (by omega) (by omega)))<|Zm M M<|zS<|yV (ι:={k:Nat // k≤l.length}) ⟨k+1,by omega⟩ (by show l.length-(k+1)<l.length-k;omega) (O5 M) Jz
 replace h10:=Kj h10;skip;obtain rfl:k=l.length:=by omega
 refine yM<|zP<|zP<|yN<|vJ M fun w hw=>⟨rfl,Kk hw,by rw[HpG.blkL (j:=0) hw rfl,Kz],by rw[HpG.blkL (j:=1) hw rfl,Kz]⟩
theorem puts_any (l:List Fld) (bl bf:Nat) (i:KI) (hr:oN i=true) (hi:i.imm<4294967296) (w_0:World) (hn:l.length≤1000) (h1:Blk bl (bk 253 [.slice (some ⟨bf,0,none⟩) l.length l.length]) w_0) (h2:Blk bf (bk 133 (l.map fun f=>fnV (ptFid f))) w_0) :
  Calls Tryz.prog 231 #[.agg (kiC i).toArray,.pointer (some ⟨bl,0,none⟩)] w_0 (tF i l w_0):=by
 have hlen:∀l,(vF i l).length≤4*l.length:=by
  intro l
  induction l with
  | nil=>exact Ae _
  | cons f l ih =>
   have:(putF i f).length≤4:=by
    cases f
    case full=>exact Nat.le_of_eq (pW _ _)
    case index=>show (if i.index<0 then [8] else [_]).length≤4;split<;>simp
    all_goals (show 1≤4;omega)
   show (putF i f++vF i l).length≤_;rw[Kb,Kc];omega
 unfold tF;refine zN (args:=[.agg (kiC i).toArray,.pointer (some ⟨bl,0,none⟩)]) Tryz.func231 M 20 M (Kh M)<|Z2 0 1 M<|zG (H':=Jy w_0 [] [] (fun u=>Blk bl (bk 253 [.slice (some ⟨bf,0,none⟩) l.length l.length]) u∧Blk bf (bk 133 (l.map fun f=>fnV (ptFid f))) u)) (fun u hu=>?_) ?_;subst hu;exact Hp.start ⟨fun k=>k=bl∨k=bf,fun k hk=>(by rcases hk with rfl|rfl;exact⟨h1.lt,id⟩;exact⟨h2.lt,id⟩),fun u hu=>⟨(hu _ (.inl rfl)).trans h1,(hu _ (.inr rfl)).trans h2⟩⟩;refine zX<|zZ<|zA .none M (yQ M M) fun b2=>Za M M<|ZX<|zZ<|Za M M<|ZX<|zX<|zZ<|ZF M (zL M U253 M (fun w hw=>Blk.cell (HpG.x hw).1 M))<|ZF M (yK M U253)<|Zm M M<|ZT<|zJ<|yF (ι:={k:Nat // k≤l.length}) (fun k=>[(2,Jx b2),(4,.string ⟨(vF i (l.take k.1)).toArray⟩),(7,.slice (some ⟨bf,0,none⟩) l.length l.length),(8,.int .i64 l.length),(9,.int .i64 (k.1:Nat))]) (fun k=>Jy w_0 [(b2,kiO i)] [] (fun u=>Blk bl (bk 253 [.slice (some ⟨bf,0,none⟩) l.length l.length]) u∧Blk bf (bk 133 (l.map fun f=>fnV (ptFid f))) u)) (fun k=>l.length-k.1) ⟨0,Ad _⟩ ?_ ?_ (fun k=>?_);exact O5 rfl;exact fun w h=>h;obtain⟨k,hk⟩:=k;dsimp only;refine zX<|zZ<|ZF M (yR M M)<|ZX<|zT M (fun h10=>?_) (fun h10=>?_)
 ·replace h10:=Ki h10;skip;obtain⟨f,hf⟩:∃f,l[k]? = some f:=⟨l[k]'(by omega),Kn _⟩;have ht:=take_one hf;have hp1:=hlen (l.take k);have hp2:=hlen [f];have hp3:(l.take k).length≤1000:=by rw[Aa];omega
  have hp4:[f].length=1:=rfl;have hpa:vF i (l.take (k+1))=vF i (l.take k)++vF i [f]:=by rw[ht,putK_app]
  refine zR<|zV<|zX<|zJ<|zX<|zZ<|ZF rfl (Zi (es:=1) rfl rfl U253 rfl (by first|omega|simp<;>omega) rfl) ?_;refine ZF M (zL M Tryz.underlying133 M (fun w hw=>Blk.cell (HpG.x hw).2 (v:=fnV (ptFid f)) (by rw[List.getElem?_map,Ac,Nat.mul_one,hf];rfl))) ?_;refine Za M M<|ZT<|Z7r 2 4 6 7 8 9 10 M<|Zm M M<|Zm M M<|ZF M (Zo 0 M U35 M)<|xY (ι:=Unit) (val:=fun _=>.string ⟨(vF i [f]).toArray⟩) (H':=fun _=>Jy w_0 [(b2,kiO i)] [] (fun u=>Blk bl (bk 253 [.slice (some ⟨bf,0,none⟩) l.length l.length]) u∧Blk bf (bk 133 (l.map fun f=>fnV (ptFid f))) u)) .none M  (pN (us:=[]) (vs:=[.agg (kiC i).toArray]) (cs:=[]) (pt_goes f) M M fun w hw=>(fld_pt i w f hr hi).mono fun e w' ⟨e1,e2⟩=>⟨_,e1,(),rfl,HpG.onE hw e2⟩) (fun _=>?_);refine ZF M (yB M M (by omega))<|Za M M<|zS<|zH<|zV<|Z7r 2 4 6 7 8 9 10 M<|ZF M (zF M M (i64_in _ (by omega) (by omega)))<|Zm M M<|zS<|yV (ι:={k:Nat // k≤l.length}) ⟨k+1,by omega⟩ (by show l.length-(k+1)<l.length-k;omega) (.cons M<|.consE M (by rw[hpa])<|.cons M<|.cons M<|.cons M<|.nil) Jz
 replace h10:=Kj h10;skip;obtain rfl:k=l.length:=by omega
 refine yM<|zP<|zP<|yN<|zV<|zX<|zZ<|Zm M M<|Za M M<|ZU M M fun w hw=>⟨by rw[Kz],(Kk hw).ext⟩
theorem wl_fact {P:Program}{ops:Array Oper}{Q:Exit→Act→World→Prop}{n:Fr}{m:List (Nat×Value)}{l:List Oper}{H:World→Prop}{φ:Prop}(hφ:∀w,H w→φ) (h:φ→WL P ops Q l n m H):WL P ops Q l n m H:=fun a w hs hw=>h (hφ w hw) a w hs hw
theorem tK {P:Program}{c:Code}{Q:Exit→Act→World→Prop}{n:Fr}{m:List (Nat×Value)}{H:World→Prop}{φ:Prop}(hφ:∀w,H w→φ) (h:φ→WC P c Q n m H):WC P c Q n m H:=fun a w hs hw=>h (hφ w hw) a w hs hw
def IsFn (P:Program) (v:Value):Prop:=∃f cs,v=.func (.func f) #[] (List.toArray cs)∧goes P f=true
theorem take_fn {l:List Fld}{v:Value}{F:Nat→Prop}{w:World}(hv:TakeV l v F w):IsFn Tryz.prog v:=by
 rcases hv with ⟨_,rfl⟩|⟨f,_,rfl⟩|⟨bl,bf,rfl,_⟩;exact⟨_,[],rfl,by kernel_rfl⟩;exact⟨_,[],rfl,tk_goes f⟩;exact⟨_,[.pointer (some ⟨bl,0,none⟩)],rfl,by kernel_rfl⟩
theorem put_fn {l:List Fld}{v:Value}{F:Nat→Prop}{w:World}(hv:PutV l v F w):IsFn Tryz.prog v:=by
 rcases hv with ⟨_,rfl⟩|⟨f,_,rfl⟩|⟨bl,bf,rfl,_⟩;exact⟨_,[],rfl,by kernel_rfl⟩;exact⟨_,[],rfl,pt_goes f⟩;exact⟨_,[.pointer (some ⟨bl,0,none⟩)],rfl,by kernel_rfl⟩
theorem uH {f g:FuncId}{cs ds:List Value}(h:Value.func (.func f) #[] cs.toArray=.func (.func g) #[] ds.toArray):f=g∧cs=ds:=by
 injection h with h1 _ h3;exact⟨by injection h1,by injection h3⟩
theorem take_call {l:List Fld}{f:FuncId}{cs:List Value}{F:Nat→Prop}{ba bs bi p:Nat}{s:Bs}{i:KI}{w:World}(hv:TakeV l (.func (.func f) #[] cs.toArray) F w) (h:RdK ba bs bi p s i w) (hl:p+ndL l≤s.length) (hn:l.length≤1000):Calls Tryz.prog f ([nxV ba bs,.pointer (some ⟨bi,0,none⟩)]++cs).toArray w (tV ba bi p s i l w):=by
 rcases hv with ⟨rfl,e⟩|⟨g,rfl,e⟩|⟨bl,bf,e,_,_,h4,h5⟩
 ·obtain⟨rfl,rfl⟩:=uH (ds:=[]) e;exact none_tk ba bs bi p s i w h
 ·obtain⟨rfl,rfl⟩:=uH (ds:=[]) e;exact fld_tk ba bs bi p s i w h g (by have:ndL [g]=ndF g:=Nat.add_zero _;omega)
 obtain⟨rfl,rfl⟩:=uH (ds:=[.pointer (some ⟨bl,0,none⟩)]) e;rw[Ak] at h4;rw[List.map_map] at h5;exact takes_any l bl bf ba bs bi p s i w h hl hn h4 h5
theorem put_call {l:List Fld}{f:FuncId}{cs:List Value}{F:Nat→Prop}{i:KI}{w:World}(hv:PutV l (.func (.func f) #[] cs.toArray) F w) (hr:oN i=true) (hi:i.imm<4294967296) (hn:l.length≤1000):Calls Tryz.prog f ([Value.agg (kiC i).toArray]++cs).toArray w (tF i l w):=by
 rcases hv with ⟨rfl,e⟩|⟨g,rfl,e⟩|⟨bl,bf,e,_,_,h4,h5⟩
 ·obtain⟨rfl,rfl⟩:=uH (ds:=[]) e;exact none_pt i w
 ·obtain⟨rfl,rfl⟩:=uH (ds:=[]) e;exact fld_pt i w g hr hi
 obtain⟨rfl,rfl⟩:=uH (ds:=[.pointer (some ⟨bl,0,none⟩)]) e;rw[Ak] at h4;rw[List.map_map] at h5;exact puts_any l bl bf i hr hi w hn h4 h5
end Go.Proofs.YtkaepknpplhgkaaGreatDoor
namespace Go.Proofs.YtkaepknpplhgkaaGreatDoor
open Go.RowKit
section
variable {P:Program}{n:Fr}{m:List (Nat×Value)}{ty:TypeId}
theorem fill_many (size:Nat):∀(vs:List (Nat×Value)) (cl:List (List Value)) (k:Nat) (pre mid:List Value),pre.length=k*size→mid.length=vs.length*size→vs.map (·.1)=(List.range vs.length).map (·+k)→vs.map (·.2.cells)=cl.map (·.toArray)→(∀c∈cl,c.length=size)→Instr.fill (fun i=>some (i*size,size)) (pre++mid).toArray vs=some (pre++cl.flatten).toArray
 | [],cl,k,pre,mid,h1,h2,_,h4,_=>by
  have:mid=[]:=List.eq_nil_of_length_eq_zero (by simpa using h2);subst this
  have:cl=[]:=by cases cl with
   | nil=>rfl
   | cons _ _=>cases h4
  subst this;rfl
 | (i,v)::vs,cl,k,pre,mid,h1,h2,h3,h4,h5=>by
  cases cl with
  | nil=>cases h4
  | cons c cl =>
   rw[Kc,List.range_succ_eq_map,Ai,Ai,List.cons.injEq] at h3;obtain⟨e1,e2⟩:=h3;have hi:i=k:=by simpa using e1
   subst hi;rw[Ai,Ai,List.cons.injEq] at h4;obtain⟨hv,h4⟩:=h4;have hc:=h5 c (Ks ..);rw[Kc,Nat.succ_mul] at h2;have f:=nJ (size:=size) (off:=i*size) (place:=fun i=>some (i*size,size)) (i:=i) (v:=v) (vs:=c) (pre:=pre) (mid:=mid.take size) (post:=mid.drop size) rfl hv hc h1 (by rw[Aa];omega) vs;rw[Kv,List.take_append_drop] at f;rw[f,fill_many size vs cl (i+1) (pre++c) (mid.drop size) (by rw[Kb,Nat.succ_mul];omega) (by rw[Kw];omega) (by rw[e2,List.map_map];apply List.map_congr_left;intro j _;simp;omega) h4 (fun x hx=>h5 x (Ky _ hx))];simp
theorem nf_bsm {t e:TypeId}{parts:List (Nat×Operand)}{vs:List (Nat×Value)}{len size:Nat}{z:Value}(cl:List (List Value)) (hp:evs m parts=some vs) (hl:len=vs.length) (hi:vs.map (·.1)=List.range vs.length) (hc:vs.map (·.2.cells)=cl.map (·.toArray)) (hcl:cl.all (fun c=>Nat.beq c.length size)=true) (ht:P.underlying t=some (.slice e)) (hz:(P.info? e).bind (·.zero)=some z) (hs':(P.info? e).map (·.size)=some size) (h0:Nat.blt 0 (len*size)=true) (h2:Nat.ble (len*size) 16777216=true) :
  NF P (.buildSlice t len parts.toArray) ty n m (bk e cl.flatten) (fun g=>.slice (some ⟨g,0,none⟩) len len):=fun a w d pos af gd hs=>by
 subst hl;have h0':0<vs.length*size:=by simpa [Nat.blt_eq] using h0
 have h2':=Kh h2
 have h3:=run_bs (P:=P) (parts:=vs.toArray) (len:=vs.length) ht hz hs' (by omega) (by omega) (cs:=cl.flatten) (fun mid hm=>by
  have:=fill_many size vs cl 0 [] mid (by simp) (by simpa using hm) (by simpa using hi) hc (fun c hc=>Nat.eq_of_beq_eq_true (List.all_eq_true.1 hcl c hc))
  simpa using this) w
 have e2:=evs_map hs hp;simp only[execOp,List.map_toArray];rw[show parts.map (fun x=>match x with|(i,x)=>(i,a.eval x))=vs from e2];simp[h3]
end
def Bl7 (b:Nat) (o:Obj) (F:Nat→Prop) (w:World):Prop:=F b∧Blk b o w
theorem Bl7.lies {b:Nat}{o:Obj}:Lies (Bl7 b o):=⟨fun {_ _ _} hk ⟨h1,h2⟩=>⟨h1,h2.foot (hk _ h1)⟩,fun {_ _} ⟨h1,h2⟩=>⟨⟨h1,h2.lt⟩,h2⟩,fun {_ _ _} hF ⟨h1,h2⟩=>⟨hF _ h1,h2⟩⟩
theorem takes_mk (A:Option Addr) (l c:Nat) (w_0:World):Calls Tryz.prog 194 #[.slice A l c] w_0 fun e w'=>∃b,True∧e=.returned (pfV 230 b)∧Ext w_0 w'∧Bl7 b (bk 252 [.slice A l c]) (fun k=>w_0.heap.size≤k) w':=by
 refine zN (args:=[.slice A l c]) Tryz.func194 M 4 M (Kh M)<|Z1 0 M<|Z0<|zX<|zZ<|zA .none M (yQ M M) fun b1=>Za M M<|ZX<|zZ<|ZF M (wX M M)<|Za M M<|ZU M M fun w hw=>⟨b1,trivial,rfl,(Kk hw).ext,HpG.mineL (j:=0) hw M id,HpG.blkL (j:=0) hw rfl⟩
theorem puts_mk (A:Option Addr) (l c:Nat) (w_0:World):Calls Tryz.prog 196 #[.slice A l c] w_0 fun e w'=>∃b,True∧e=.returned (pfV 231 b)∧Ext w_0 w'∧Bl7 b (bk 253 [.slice A l c]) (fun k=>w_0.heap.size≤k) w':=by
 refine zN (args:=[.slice A l c]) Tryz.func196 M 4 M (Kh M)<|Z1 0 M<|Z0<|zX<|zZ<|zA .none M (yQ M M) fun b1=>Za M M<|ZX<|zZ<|ZF M (wX M M)<|Za M M<|ZU M M fun w hw=>⟨b1,trivial,rfl,(Kk hw).ext,HpG.mineL (j:=0) hw M id,HpG.blkL (j:=0) hw rfl⟩
def fmC (p:Int×Int×Nat×List Fld) (v:Value×Value):List Value:=[.int .i64 p.1,.int .i64 p.2.1,.int .i64 p.2.2.1,v.1,v.2]
def fmsC:List (Int×Int×Nat×List Fld)→List (Value×Value)→List Value
 | p::l,v::vs=>fmC p v++fmsC l vs
 | _,_=>[]
def FmV (p:Int×Int×Nat×List Fld) (v:Value×Value) (F:Nat→Prop) (w:World):Prop:=TakeV p.2.2.2 v.1 F w∧PutV p.2.2.2 v.2 F w
theorem FmV.lies {p:Int×Int×Nat×List Fld}{v:Value×Value}:Lies (FmV p v):=⟨fun hk h=>⟨TakeV.lies.foot hk h.1,PutV.lies.foot hk h.2⟩,fun h=>⟨TakeV.lies.lt h.1,PutV.lies.lt h.2⟩,fun hF h=>⟨TakeV.lies.mono hF h.1,PutV.lies.mono hF h.2⟩⟩
def FmsV (b:Nat) (vs:List (Value×Value)) (F:Nat→Prop) (w:World):Prop:=Bl7 b (bk 135 (fmsC fmtL vs)) F w∧vs.length=11∧∀(k:Nat) p v,fmtL[k]? = some p→vs[k]? = some v→FmV p v F w
theorem FmsV.lies {b:Nat}{vs:List (Value×Value)}:Lies (FmsV b vs):=⟨fun hk h=>⟨Bl7.lies.foot hk h.1,h.2.1,fun k p v h1 h2=>FmV.lies.foot hk (h.2.2 k p v h1 h2)⟩,fun h=>⟨Bl7.lies.lt h.1,h.2.1,fun k p v h1 h2=>FmV.lies.lt (h.2.2 k p v h1 h2)⟩,fun hF h=>⟨Bl7.lies.mono hF h.1,h.2.1,fun k p v h1 h2=>FmV.lies.mono hF (h.2.2 k p v h1 h2)⟩⟩
theorem jn_tk {l:List Fld}{bl bf:Nat}{F:Nat→Prop}{w:World}(h1:F bl) (h2:F bf) (h3:Blk bl (bk 252 [.slice (some ⟨bf,0,none⟩) l.length l.length]) w) (h4:Blk bf (bk 132 (l.map fun f=>fnV (tkFid f))) w):TakeV l (pfV 230 bl) F w :=
 .inr (.inr ⟨bl,bf,rfl,h1,h2,by rw[Ak];exact h3,by rw[List.map_map];exact h4⟩)
theorem jn_pt {l:List Fld}{bl bf:Nat}{F:Nat→Prop}{w:World}(h1:F bl) (h2:F bf) (h3:Blk bl (bk 253 [.slice (some ⟨bf,0,none⟩) l.length l.length]) w) (h4:Blk bf (bk 133 (l.map fun f=>fnV (ptFid f))) w):PutV l (pfV 231 bl) F w :=
 .inr (.inr ⟨bl,bf,rfl,h1,h2,by rw[Ak];exact h3,by rw[List.map_map];exact h4⟩)
def fmVs (x8 x10 x14 x16 x20 x22 x26 x28:Nat):List (Value×Value):=[(fnV 188,fnV 189),(fnV 190,fnV 191),(fnV 192,fnV 193),(pfV 230 x8,pfV 231 x10),(pfV 230 x14,pfV 231 x16),(pfV 230 x20,pfV 231 x22),(pfV 230 x26,pfV 231 x28),(fnV 195,fnV 197),(fnV 198,fnV 199),(fnV 202,fnV 197),(fnV 192,fnV 193)]
set_option maxHeartbeats 1000000 in
theorem formats_any (w_0:World):Calls Tryz.prog 145 #[] w_0 fun e w'=>∃i:Nat×List (Value×Value),True∧e=.returned (.slice (some ⟨i.1,0,none⟩) 11 11)∧Ext w_0 w'∧FmsV i.1 i.2 (fun k=>w_0.heap.size≤k) w':=by
 refine zN (args:=[]) Tryz.func145 M 40 M (Kh M)<|yJ (.nil)<|Z0<|zX<|zZ<|Za M M<|ZX<|zZ<|ZF M (wM (cells:=#[.int .i64 0,.int .i64 4]) M (by kernel_rfl))<|ZF M (Zb [.int .i64 0,.int .i64 0,.int .i64 0,.nilFunc,.nilFunc] [(0,2),(2,1),(3,1),(4,1)] M)<|ZF M (wM (cells:=#[.int .i64 16,.int .i64 21]) M (by kernel_rfl))<|ZF M (Zb [.int .i64 0,.int .i64 0,.int .i64 0,.nilFunc,.nilFunc] [(0,2),(2,1),(3,1),(4,1)] M)<|ZF M (wM (cells:=#[.int .i64 32,.int .i64 46]) M (by kernel_rfl))<|ZF M (Zb [.int .i64 0,.int .i64 0,.int .i64 0,.nilFunc,.nilFunc] [(0,2),(2,1),(3,1),(4,1)] M)<|ZF M (wM (cells:=#[.int .i64 48,.int .i64 62]) M (by kernel_rfl))<|zA .none M (pU (z:=.nilFunc) M M M M U252 (by kernel_rfl) (by kernel_rfl) M M M) fun b8=>yI (ι:=Nat) (C:=fun _=>True) (val:=fun b=>pfV 230 b) (TT:=fun b=>Bl7 b (bk 252 [.slice (some ⟨b8,0,none⟩) 2 2])) .none M  (by kernel_rfl) M (fun _ h=>h.elim) (fun _=>Bl7.lies) (fun w hw=>takes_mk _ 2 2 w) (fun x8 F8 _ hF8=>?_);refine zA .none M (pU (z:=.nilFunc) M M M M U253 (by kernel_rfl) (by kernel_rfl) M M M) fun b10=>yI (ι:=Nat) (C:=fun _=>True) (val:=fun b=>pfV 231 b) (TT:=fun b=>Bl7 b (bk 253 [.slice (some ⟨b10,0,none⟩) 2 2])) .none M  (by kernel_rfl) M (fun _ h=>h.elim) (fun _=>Bl7.lies) (fun w hw=>puts_mk _ 2 2 w) (fun x10 F10 _ hF10=>?_);refine ZF M (Zb [.int .i64 0,.int .i64 0,.int .i64 0,.nilFunc,.nilFunc] [(0,2),(2,1),(3,1),(4,1)] M)<|ZF M (wM (cells:=#[.int .i64 64,.int .i64 78]) M (by kernel_rfl))<|zA .none M (pU (z:=.nilFunc) M M M M U252 (by kernel_rfl) (by kernel_rfl) M M M) fun b14=>yI (ι:=Nat) (C:=fun _=>True) (val:=fun b=>pfV 230 b) (TT:=fun b=>Bl7 b (bk 252 [.slice (some ⟨b14,0,none⟩) 2 2])) .none M  (by kernel_rfl) M (fun _ h=>h.elim) (fun _=>Bl7.lies) (fun w hw=>takes_mk _ 2 2 w) (fun x14 F14 _ hF14=>?_);refine zA .none M (pU (z:=.nilFunc) M M M M U253 (by kernel_rfl) (by kernel_rfl) M M M) fun b16=>yI (ι:=Nat) (C:=fun _=>True) (val:=fun b=>pfV 231 b) (TT:=fun b=>Bl7 b (bk 253 [.slice (some ⟨b16,0,none⟩) 2 2])) .none M  (by kernel_rfl) M (fun _ h=>h.elim) (fun _=>Bl7.lies) (fun w hw=>puts_mk _ 2 2 w) (fun x16 F16 _ hF16=>?_);refine ZF M (Zb [.int .i64 0,.int .i64 0,.int .i64 0,.nilFunc,.nilFunc] [(0,2),(2,1),(3,1),(4,1)] M)<|ZF M (wM (cells:=#[.int .i64 80,.int .i64 86]) M (by kernel_rfl))<|zA .none M (pU (z:=.nilFunc) M M M M U252 (by kernel_rfl) (by kernel_rfl) M M M) fun b20=>yI (ι:=Nat) (C:=fun _=>True) (val:=fun b=>pfV 230 b) (TT:=fun b=>Bl7 b (bk 252 [.slice (some ⟨b20,0,none⟩) 2 2])) .none M  (by kernel_rfl) M (fun _ h=>h.elim) (fun _=>Bl7.lies) (fun w hw=>takes_mk _ 2 2 w) (fun x20 F20 _ hF20=>?_);refine zA .none M (pU (z:=.nilFunc) M M M M U253 (by kernel_rfl) (by kernel_rfl) M M M) fun b22=>yI (ι:=Nat) (C:=fun _=>True) (val:=fun b=>pfV 231 b) (TT:=fun b=>Bl7 b (bk 253 [.slice (some ⟨b22,0,none⟩) 2 2])) .none M  (by kernel_rfl) M (fun _ h=>h.elim) (fun _=>Bl7.lies) (fun w hw=>puts_mk _ 2 2 w) (fun x22 F22 _ hF22=>?_)
 refine ZF M (Zb [.int .i64 0,.int .i64 0,.int .i64 0,.nilFunc,.nilFunc] [(0,2),(2,1),(3,1),(4,1)] M)<|ZF M (wM (cells:=#[.int .i64 88,.int .i64 94]) M (by kernel_rfl))<|zA .none M (tX (z:=.nilFunc) M M M M U252 (by kernel_rfl) (by kernel_rfl) M M) fun b26=>yI (ι:=Nat) (C:=fun _=>True) (val:=fun b=>pfV 230 b) (TT:=fun b=>Bl7 b (bk 252 [.slice (some ⟨b26,0,none⟩) 3 3])) .none M  (by kernel_rfl) M (fun _ h=>h.elim) (fun _=>Bl7.lies) (fun w hw=>takes_mk _ 3 3 w) (fun x26 F26 _ hF26=>?_);refine zA .none M (tX (z:=.nilFunc) M M M M U253 (by kernel_rfl) (by kernel_rfl) M M) fun b28=>yI (ι:=Nat) (C:=fun _=>True) (val:=fun b=>pfV 231 b) (TT:=fun b=>Bl7 b (bk 253 [.slice (some ⟨b28,0,none⟩) 3 3])) .none M  (by kernel_rfl) M (fun _ h=>h.elim) (fun _=>Bl7.lies) (fun w hw=>puts_mk _ 3 3 w) (fun x28 F28 _ hF28=>?_);refine ZF M (Zb [.int .i64 0,.int .i64 0,.int .i64 0,.nilFunc,.nilFunc] [(0,2),(2,1),(3,1),(4,1)] M)<|ZF M (wM (cells:=#[.int .i64 96,.int .i64 109]) M (by kernel_rfl))<|ZF M (Zb [.int .i64 0,.int .i64 0,.int .i64 0,.nilFunc,.nilFunc] [(0,2),(2,1),(3,1),(4,1)] M)<|ZF M (wM (cells:=#[.int .i64 112,.int .i64 113]) M (by kernel_rfl))<|ZF M (Zb [.int .i64 0,.int .i64 0,.int .i64 0,.nilFunc,.nilFunc] [(0,2),(2,1),(3,1),(4,1)] M)<|ZF M (wM (cells:=#[.int .i64 128,.int .i64 128]) M (by kernel_rfl))<|ZF M (Zb [.int .i64 0,.int .i64 0,.int .i64 0,.nilFunc,.nilFunc] [(0,2),(2,1),(3,1),(4,1)] M)<|ZF M (wM (cells:=#[.int .i64 129,.int .i64 130]) M (by kernel_rfl))<|ZF M (Zb [.int .i64 0,.int .i64 0,.int .i64 0,.nilFunc,.nilFunc] [(0,2),(2,1),(3,1),(4,1)] M)<|zA .none M  (nf_bsm (z:=Ja) (size:=5) (List.zipWith fmC fmtL (fmVs x8 x10 x14 x16 x20 x22 x26 x28)) M M M M M Tryz.underlying204 (by kernel_rfl) (by kernel_rfl) M M) fun b39=>Za M M<|ZU M M (fun w hw=>?_);obtain⟨⟨a28,c28⟩,⟨a26,c26⟩,⟨a22,c22⟩,⟨a20,c20⟩,⟨a16,c16⟩,⟨a14,c14⟩,⟨a10,c10⟩,⟨a8,c8⟩,_⟩:=HpG.x hw;refine⟨(b39,fmVs x8 x10 x14 x16 x20 x22 x26 x28),trivial,rfl,(Kk hw).ext,⟨HpG.mineL (j:=0) hw M id,HpG.blkL (j:=0) hw rfl⟩,rfl,fun k p v h1 h2=>?_⟩;have hk:k<11:=(Kg.1 h1).1;obtain rfl|rfl|rfl|rfl|rfl|rfl|rfl|rfl|rfl|rfl|rfl:k=0∨k=1∨k=2∨k=3∨k=4∨k=5∨k=6∨k=7∨k=8∨k=9∨k=10:=by omega
 ·cases h1;cases h2;exact⟨.inl ⟨rfl,rfl⟩,.inl ⟨rfl,rfl⟩⟩
 ·cases h1;cases h2;exact⟨.inr (.inl ⟨_,rfl,rfl⟩),.inr (.inl ⟨_,rfl,rfl⟩)⟩
 ·cases h1;cases h2;exact⟨.inr (.inl ⟨_,rfl,rfl⟩),.inr (.inl ⟨_,rfl,rfl⟩)⟩
 ·cases h1;cases h2;exact⟨jn_tk (l:=[.reg,.small]) (hF8 _ a8) (HpG.mineL (j:=8) hw M id) c8 (HpG.blkL (j:=8) hw M),jn_pt (l:=[.reg,.small]) (hF10 _ a10) (HpG.mineL (j:=7) hw M id) c10 (HpG.blkL (j:=7) hw M)⟩
 ·cases h1;cases h2;exact⟨jn_tk (l:=[.reg,.full]) (hF14 _ a14) (HpG.mineL (j:=6) hw M id) c14 (HpG.blkL (j:=6) hw M),jn_pt (l:=[.reg,.full]) (hF16 _ a16) (HpG.mineL (j:=5) hw M id) c16 (HpG.blkL (j:=5) hw M)⟩
 ·cases h1;cases h2;exact⟨jn_tk (l:=[.pair,.small]) (hF20 _ a20) (HpG.mineL (j:=4) hw M id) c20 (HpG.blkL (j:=4) hw M),jn_pt (l:=[.pair,.small]) (hF22 _ a22) (HpG.mineL (j:=3) hw M id) c22 (HpG.blkL (j:=3) hw M)⟩
 ·cases h1;cases h2;exact⟨jn_tk (l:=[.pair,.index,.full]) (hF26 _ a26) (HpG.mineL (j:=2) hw M id) c26 (HpG.blkL (j:=2) hw M),jn_pt (l:=[.pair,.index,.full]) (hF28 _ a28) (HpG.mineL (j:=1) hw M id) c28 (HpG.blkL (j:=1) hw M)⟩
 ·cases h1;cases h2;exact⟨.inr (.inl ⟨_,rfl,rfl⟩),.inr (.inl ⟨_,rfl,rfl⟩)⟩
 ·cases h1;cases h2;exact⟨.inr (.inl ⟨_,rfl,rfl⟩),.inr (.inl ⟨_,rfl,rfl⟩)⟩
 ·cases h1;cases h2;exact⟨.inr (.inl ⟨_,rfl,rfl⟩),.inr (.inl ⟨_,rfl,rfl⟩)⟩
 ·cases h1;cases h2;exact⟨.inr (.inl ⟨_,rfl,rfl⟩),.inr (.inl ⟨_,rfl,rfl⟩)⟩
end Go.Proofs.YtkaepknpplhgkaaGreatDoor
namespace Go.Proofs.YtkaepknpplhgkaaGreatDoor
open Go.RowKit
section
variable {P:Program}{Q:Exit→Act→World→Prop}{n:Fr}{m:List (Nat×Value)}
theorem xG {fn:Func}{R:Ending→World→Prop}{p u:Tmp}{t T:TypeId}{g:Nat}{cs:List Value}{v:Value}{d:TypeDesc}{G B:Nat→Prop}{w0:World}{L:List (Nat×Obj)}{Rs:List Rw}{X:World→Prop}(hr:fn.results=#[.cell p t,.tmp u]) (hp:look m p=some (.pointer (some ⟨g,0,none⟩))) (hv:look m u=some v)
  (k:Nat) (hk:L[k]? = some (g,bk T cs)) (ht:P.underlying t=some d) (hd:(match d with|.struct _|.array _ _=>true|_=>false)=true) (hs':(P.info? t).map (·.size)=some cs.length)
  (h:∀w,HpG G B w0 L Rs X w→R (.returned (.tuple #[.agg cs.toArray,v])) w) (hz:n.D=[]:=by rfl):WQ (bodyPost P fn R) .ret n m (HpG G B w0 L Rs X):=fun a w hs hw =>
 bodyPost_ret (v:=.tuple #[.agg cs.toArray,v]) (by
  have h1:=hs.get p _ hp;have h2:=hs.get u _ hv;have hl:=run_loadVar_row (P:=P) w g T t cs.toArray (0,0) d (hw.own _ (Ko hk)) ht hd (by simpa using hs')
  simp[results,hr,h1,h2,asAddr,hl]) (hs.dfr.trans hz) (h w hw)
end
theorem seg2 {a b:Value}{l:List Value}:∀(j:Nat) v,[a,b][j]? = some v→(a::b::l)[0+j]? = some v:=fun j v hj=>by
 match j,hj with
 | 0,h=>exact h
 | 1,h=>exact h
def spC:List (Int×Int)→List Value
 | []=>[]
 | p::l=>.int .i64 p.1::.int .i64 p.2::spC l
theorem spC_at:∀{l:List (Int×Int)}{k:Nat}{p:Int×Int},l[k]? = some p→∀(j:Nat) v,([.int .i64 p.1,.int .i64 p.2]:List Value)[j]? = some v→(spC l)[2*k+j]? = some v
 | [],_,_,h=>by cases h
 | x::l,0,p,h=>by
  cases h;intro j v hj
  match j,hj with
  | 0,h=>exact h
  | 1,h=>exact h
 | x::l,k+1,p,h=>by
  intro j v hj;have:=spC_at (l:=l) (k:=k) (by simpa using h) j v hj;rw[show 2*(k+1)+j=(2*k+j)+1+1 by omega];exact this
def inB (n:Int) (l:List (Int×Int)):Bool:=l.any fun p=>decide (p.1≤n)&&decide (n≤p.2)
theorem inB_drop {n:Int}{l:List (Int×Int)}{k:Nat}{p:Int×Int}(h:l[k]? = some p):inB n (l.drop k)=((decide (p.1≤n)&&decide (n≤p.2))||inB n (l.drop (k+1))):=by
 obtain⟨h1,h2⟩:=Kg.1 h;rw[List.drop_eq_getElem_cons h1,h2];rfl
theorem within_any (n:Int) (l:List (Int×Int)) (hl:l.length≤1000) (b:Nat) (w_0:World) (hb:Blk b (bk 131 (spC l)) w_0):Calls Tryz.prog 146 #[.int .i64 n,.slice (some ⟨b,0,none⟩) l.length l.length] w_0 fun e w'=>e=.returned (.bool (inB n l))∧Ext w_0 w':=by
 refine zN (args:=[.int .i64 n,.slice (some ⟨b,0,none⟩) l.length l.length]) Tryz.func146 M 24 M (Kh M)<|Z2 0 1 M<|zG (H':=Jy w_0 [] [] (Blk b (bk 131 (spC l)))) (fun u hu=>?_) ?_;subst hu;exact Hp.start ⟨fun k=>k=b,fun k hk=>(by subst hk;exact⟨hb.lt,id⟩),fun u hu=>(hu _ M).trans hb⟩;refine zX<|zZ<|Za M M<|ZX<|zX<|zZ<|Zm M M<|ZF M (yK M U231)<|Zm M M<|ZT<|zJ<|yF (ι:={k:Nat // k≤l.length∧inB n l=inB n (l.drop k)}) (fun k=>[(0,.int .i64 n),(7,.slice (some ⟨b,0,none⟩) l.length l.length),(8,.int .i64 l.length),(9,.int .i64 (k.1:Nat))]) (fun _=>Jy w_0 [] [] (Blk b (bk 131 (spC l)))) (fun k=>l.length-k.1) ⟨0,Ad _,rfl⟩ ?_ ?_ (fun k=>?_);exact O4 rfl;exact fun w h=>h;obtain⟨k,hk,hr⟩:=k;dsimp only;refine zX<|zZ<|ZF M (yR M M)<|ZX<|zT M (fun h10=>?_) (fun h10=>?_)
 ·replace h10:=Ki h10;skip;obtain⟨p,hp⟩:∃p,l[k]? = some p:=⟨l[k]'(by omega),Kn _⟩;have hd:=inB_drop (n:=n) hp;refine zR<|zV<|zX<|zJ<|zX<|zZ<|ZF rfl (Zi (es:=2) rfl rfl U231 rfl (by first|omega|simp<;>omega) rfl) ?_;refine ZF M (xL (cs:=[.int .i64 p.1,.int .i64 p.2]) M U131 M (by kernel_rfl) (fun w hw j v hj=>Blk.cell (HpG.x hw) (by rw[← spC_at hp j v hj];congr 1;omega))) ?_;refine Zt (z:=Jb) (cs:=[.int .i64 0,.int .i64 0]) rfl fun b6=>ZR 0 rfl<|ZX<|Z6r 0 6 7 8 9 10 rfl<|Zm rfl rfl<|ZF rfl (Zj (j:=0) (es:=1) rfl rfl U131 rfl (by first|omega|simp<;>omega) rfl) ?_;refine Zl 0 M U3 M<|ZF M (yC M M)<|Zm M M<|zQ 17 M (fun g5=>?_) (fun g5=>?_)
  ·replace g5:=Ki g5;refine Zv rfl<|ZG rfl rfl rfl (Zj (j:=1) (es:=1) rfl rfl U131 rfl (by first|omega|simp<;>omega) rfl) ?_;refine ZG M M M (yU 0 M M M U3 M)<|ZG M M M (xE M M)<|Zh M<|ZT<|zT M (fun h22=>?_) (fun h22=>?_)
   ·replace h22:=Ki h22;have ht:inB n l=true:=by rw[hr,hd,An g5,An h22];rfl
    refine zX<|Z7r 0 6 7 8 9 10 22 M<|Za M M<|ZT<|zK<|zM<|zW<|zW<|zM<|zW<|yY M M fun w hw=>⟨by rw[ht],(Kk hw).ext⟩
   replace h22:=Kj h22;refine zR<|zH<|zV<|Z7r 0 6 7 8 9 10 22 M<|ZF M (zF M M (i64_in _ (by omega) (by omega)))<|Zm M M<|zS<|yV (ι:={k:Nat // k≤l.length∧inB n l=inB n (l.drop k)}) ⟨k+1,by omega,by rw[hr,hd,Ao h22,Bool.and_false,Bool.false_or]⟩ (by show l.length-(k+1)<l.length-k;omega) (O4 M) (fun w h=>Hp.drop h (Km _ _) (.refl _))
  replace g5:=Kj g5;refine ZP M<|ZP M<|ZP M<|ZP M<|Zf M<|ZT<|zD M<|zR<|zH<|zV<|Z7r 0 6 7 8 9 10 22 M<|ZF M (zF M M (i64_in _ (by omega) (by omega)))<|Zm M M<|zS<|yV (ι:={k:Nat // k≤l.length∧inB n l=inB n (l.drop k)}) ⟨k+1,by omega,by rw[hr,hd,Ao g5,Bool.false_and,Bool.false_or]⟩ (by show l.length-(k+1)<l.length-k;omega) (O4 M) (fun w h=>Hp.drop h (Km _ _) (.refl _))
 replace h10:=Kj h10;skip;obtain rfl:k=l.length:=by omega
 refine yM<|zP<|zP<|yN<|zV<|zX<|zZ<|Za M M<|ZU M M fun w hw=>⟨by rw[hr,List.drop_length];rfl,(Kk hw).ext⟩
def fmtP (op:Int):Option (Int×Int×Nat×List Fld):=fmtL.find? fun p=>decide (p.1≤op)&&decide (op≤p.2.1)
theorem fmtF_find (op:Int):∀l,fmtF op l=(l.find? fun p=>decide (p.1≤op)&&decide (op≤p.2.1)).map fun p=>(p.2.2.1,p.2.2.2)
 | []=>rfl
 | (a,b,n,l)::r=>by
  rw[fmtF,List.find?_cons,fmtF_find op r];dsimp only
  by_cases h:a≤op∧op≤b
  rw[Ah h,An h.1,An h.2];rfl;rw[Ag h];have:(decide (a≤op)&&decide (op≤b))=false:=by simpa using h
  rw[this]
theorem fmtK_P (op:Int):pR op=(fmtP op).map fun p=>(p.2.2.1,p.2.2.2):=fmtF_find op fmtL
theorem fmsC_at:∀{l:List (Int×Int×Nat×List Fld)}{vs:List (Value×Value)}{k:Nat}{p:Int×Int×Nat×List Fld}{v:Value×Value},l[k]? = some p→vs[k]? = some v→∀(j:Nat) u,(fmC p v)[j]? = some u→(fmsC l vs)[5*k+j]? = some u
 | [],_,_,_,_,h,_=>by cases h
 | _::_,[],_,_,_,_,h=>by cases h
 | x::l,y::vs,0,p,v,h1,h2=>by
  cases h1;cases h2;intro j u hj;show (fmC x y++fmsC l vs)[5*0+j]? = _;have:=(Kg.1 hj).1;rw[show 5*0+j=j by omega,List.getElem?_append_left this];exact hj
 | x::l,y::vs,k+1,p,v,h1,h2=>by
  intro j u hj;have:=fmsC_at (l:=l) (vs:=vs) (k:=k) (by simpa using h1) (by simpa using h2) j u hj;show (fmC x y++fmsC l vs)[5*(k+1)+j]? = _;have hl:(fmC x y).length=5:=rfl;rw[List.getElem?_append_right (by omega),hl,show 5*(k+1)+j-5=5*k+j by omega];exact this
theorem find_drop {op:Int}{l:List (Int×Int×Nat×List Fld)}{k:Nat}{p:Int×Int×Nat×List Fld}(h:l[k]? = some p):(l.drop k).find? (fun p=>decide (p.1≤op)&&decide (op≤p.2.1))=bif decide (p.1≤op)&&decide (op≤p.2.1) then some p else (l.drop (k+1)).find? fun p=>decide (p.1≤op)&&decide (op≤p.2.1):=by
 obtain⟨h1,h2⟩:=Kg.1 h;rw[List.drop_eq_getElem_cons h1,h2,List.find?_cons];cases decide (p.1≤op)&&decide (op≤p.2.1)<;>rfl
def zFm:List Value:=[.int .i64 0,.int .i64 0,.int .i64 0,.nilFunc,.nilFunc]
def FdPost (op:Int) (w:World) (e:Ending) (w':World):Prop:=Ext w w'∧match fmtP op with
 | some p=>∃v,e=.returned (.tuple #[.agg (fmC p v).toArray,.bool true])∧FmV p v (fun k=>w.heap.size≤k) w'
 | none=>e=.returned (.tuple #[.agg zFm.toArray,.bool false])
theorem find_any (op:Int) (w_0:World):Calls Tryz.prog 56 #[.int .i64 op] w_0 (FdPost op w_0):=by
 unfold FdPost;refine zN (args:=[.int .i64 op]) Tryz.func56 M 20 M (Kh M)<|Z1 0 M<|Z0<|zX<|zZ<|Zt (z:=Ja) (cs:=Jl) M fun b2=>Za M M<|ZX<|zX<|zZ<|yI (ι:=Nat×List (Value×Value)) (C:=fun _=>True) (val:=fun i=>.slice (some ⟨i.1,0,none⟩) 11 11) (TT:=fun i=>FmsV i.1 i.2) .none M  (by kernel_rfl) M (fun _ h=>h.elim) (fun _=>FmsV.lies) (fun w hw=>formats_any w) (fun i F _ hF=>?_);obtain⟨b,vs⟩:=i;refine wl_fact (φ:=vs.length=11) (fun w hw=>(HpG.x hw).1.2.1) (fun hvs=>?_);refine ZF M (yK M Tryz.underlying204)<|Zm M M<|ZT<|zJ<|yF (ι:={k:Nat // k≤11∧fmtP op=(fmtL.drop k).find? fun p=>decide (p.1≤op)&&decide (op≤p.2.1)}) (fun k=>[(0,.int .i64 op),(2,Jx b2),(6,.slice (some ⟨b,0,none⟩) 11 11),(7,.int .i64 11),(8,.int .i64 (k.1:Nat))]) (fun _=>Jy w_0 [(b2,bk 135 zFm)] [] (fun u=>FmsV b vs F u∧True)) (fun k=>11-k.1) ⟨0,Ad _,rfl⟩ ?_ ?_ (fun k=>?_);exact O5 rfl;exact fun w h=>h;obtain⟨k,hk,hr⟩:=k;dsimp only;refine zX<|zZ<|ZF M (yR M M)<|ZX<|zT M (fun h9=>?_) (fun h9=>?_)
 ·replace h9:=Ki h9;skip;obtain⟨p,hp⟩:∃p,fmtL[k]? = some p:=⟨fmtL[k]'(by show k<11;omega),Kn _⟩;obtain⟨v,hv⟩:∃v,vs[k]? = some v:=⟨vs[k]'(by omega),Kn _⟩;have hd:=find_drop (op:=op) hp;refine tK (φ:=IsFn Tryz.prog v.1∧IsFn Tryz.prog v.2) (fun w hw=>⟨take_fn ((HpG.x hw).1.2.2 k p v hp hv).1,put_fn ((HpG.x hw).1.2.2 k p v hp hv).2⟩) (fun hfn=>?_);obtain⟨v1,v2⟩:=v;obtain⟨⟨f1,c1,e1,_⟩,⟨f2,c2,e2,_⟩⟩:=hfn;dsimp only at e1 e2;subst e1;subst e2;refine zR<|zV<|zX<|zJ<|zX<|zZ<|ZF rfl (Zi (es:=5) rfl rfl Tryz.underlying204 rfl (by first|omega|simp<;>omega) rfl) ?_;refine ZF M (xL (cs:=fmC p (.func (.func f1) #[] c1.toArray,.func (.func f2) #[] c2.toArray)) M U135 M (by kernel_rfl) (fun w hw j u hu=>Blk.cell (HpG.x hw).1.1.2 (by rw[← fmsC_at hp hv j u hu];congr 1;omega))) ?_;refine Zt (z:=Ja) (cs:=Jl) M fun b5=>ZR 0 M<|ZX<|Z7r 0 2 5 6 7 8 9 M<|Zm M M<|ZF M (Zy (off:=0) (sz:=1) M U135 M) ?_;refine ZF M (yf_loadRowL 0 (seg:=[.int .i64 p.1,.int .i64 p.2.1]) M M seg2 U131 M (by kernel_rfl))<|Zs (z:=Jb) M U231 fun b15=>Zu (v:=.bool (decide (p.1≤op)&&decide (op≤p.2.1))) M (fun w hw=>(within_any op [(p.1,p.2.1)] (show 1≤1000 by omega) b15 w (HpG.blkL (j:=0) hw M)).mono fun e w' ⟨e1,e2⟩=>⟨by rw[e1];unfold inB;rw[List.any_cons,List.any_nil,Bool.or_false],e2⟩) ?_;refine ZT<|zT M (fun h16=>?_) (fun h16=>?_)
  ·rw[h16,cond_true] at hd;rw[hd] at hr;refine zX<|Z8r 0 2 5 6 7 8 9 16 M<|ZF M (Zo 1 M U135 M)<|ZR 2 M<|Za M M<|ZT<|zK<|zM<|zW<|zW<|zM<|zW<|xG M M M 2 M Tryz.underlying135 M (by kernel_rfl) fun w hw=>⟨(Kk hw).ext,by rw[hr];exact⟨_,rfl,FmV.lies.mono hF ((HpG.x hw).1.2.2 k p _ hp hv)⟩⟩
  skip;rw[h16,cond_false] at hd;rw[hd] at hr;refine zR<|zH<|zV<|Z8r 0 2 5 6 7 8 9 16 M<|ZF M (zF M M (i64_in _ (by omega) (by omega)))<|Zm M M<|zS<|yV (ι:={k:Nat // k≤11∧fmtP op=(fmtL.drop k).find? fun p=>decide (p.1≤op)&&decide (op≤p.2.1)}) ⟨k+1,by omega,hr⟩ (by show 11-(k+1)<11-k;omega) (O5 M) (fun w h=>Hp.drop h (.cons _ (.cons _ (.refl _))) (.refl _))
 replace h9:=Kj h9;skip;obtain rfl:k=11:=by omega
 refine yM<|zP<|zP<|yN<|zV<|zX<|zZ<|ZF M (Zb [.int .i64 0,.int .i64 0,.int .i64 0,.nilFunc,.nilFunc] [(0,2),(2,1),(3,1),(4,1)] M)<|ZR 0 M<|Za M M<|ZT<|zK<|xG M M M 0 M Tryz.underlying135 M (by kernel_rfl) fun w hw=>⟨(Kk hw).ext,by rw[hr];rfl⟩
end Go.Proofs.YtkaepknpplhgkaaGreatDoor
namespace Go.Proofs.YtkaepknpplhgkaaGreatDoor
open Go.RowKit
theorem size_any (c:Nat) (hc:c<256) (w_0:World):Calls Tryz.prog 166 #[.int .u8 c] w_0 fun e w'=>e=.returned (.int .i64 (uD c))∧Ext w_0 w':=by
 have hk:=fmtK_P (c:Int);have hf:=fun w=>find_any (c:Int) w;unfold FdPost at hf;unfold uD
 cases hp:fmtP (c:Int) with
 | none =>
  rw[hp] at hk hf;rw[hk];refine zN (args:=[.int .u8 c]) Tryz.func166 M 13 M (Kh M)<|Z1 0 M<|Z0<|zX<|zZ<|Za M M<|ZX<|zZ<|Zm M M<|ZF M (Zc M U3 (i64_in _ (by omega) (by omega)))<|Zu (v:=.tuple #[.agg zFm.toArray,.bool false]) M (fun w hw=>(hf w).mono fun e w' ⟨h1,h2⟩=>⟨h2,h1⟩) ?_;refine Zm M M<|ZF M (zC M M)<|ZF M (zC M M)<|Zt (z:=Ja) (cs:=Jl) M fun b3=>ZR 0 M<|Za M M<|ZX<|Z3r 0 2 3 M<|ZF M (Y135x2 M) ?_;refine Zl 0 M U3 M<|Za M M<|ZU M M fun w hw=>⟨rfl,(Kk hw).ext⟩
 | some p =>
  rw[hp] at hk hf;rw[hk];refine zN (args:=[.int .u8 c]) Tryz.func166 M 13 M (Kh M)<|Z1 0 M<|Z0<|zX<|zZ<|Za M M<|ZX<|zZ<|Zm M M<|ZF M (Zc M U3 (i64_in _ (by omega) (by omega)))<|yI (ι:=Value×Value) (C:=fun v=>IsFn Tryz.prog v.1∧IsFn Tryz.prog v.2) (val:=fun v=>.tuple #[.agg (fmC p v).toArray,.bool true]) (TT:=fun v=>FmV p v) .none M  (by kernel_rfl) M (fun _ h=>h.elim) (fun _=>FmV.lies) (fun w hw=>(hf w).mono fun e w' ⟨h1,v,h2,h3⟩=>⟨v,⟨take_fn h3.1,put_fn h3.2⟩,h2,h1,h3⟩) (fun v F hfn hF=>?_);obtain⟨v1,v2⟩:=v;obtain⟨⟨f1,c1,e1,_⟩,⟨f2,c2,e2,_⟩⟩:=hfn;dsimp only at e1 e2;subst e1;subst e2;refine Zm M M<|ZF M (zC M M)<|ZF M (zC M M)<|Zt (z:=Ja) (cs:=Jl) M fun b3=>ZR 0 M<|Za M M<|ZX<|Z3r 0 2 3 M<|ZF M (Y135x2 M) ?_;refine Zl 0 M U3 M<|Za M M<|ZU M M fun w hw=>⟨rfl,(Kk hw).ext⟩
theorem ranges_any (i:KI) (w_0:World):Calls Tryz.prog 148 #[.agg (kiC i).toArray] w_0 fun e w'=>e=.returned (.bool (oN i))∧Ext w_0 w':=by
 have one:∀(n a b:Int),inB n [(a,b)]=decide (a≤n∧n≤b):=fun n a b=>by
  unfold inB;rw[List.any_cons,List.any_nil,Bool.or_false,Bool.decide_and]
 have hw1:∀(n a b:Int) (g:Nat) (w:World),Blk g (bk 131 [.int .i64 a,.int .i64 b]) w→Calls Tryz.prog 146 #[.int .i64 n,.slice (some ⟨g,0,none⟩) 1 1] w fun e w'=>e=.returned (.bool (decide (a≤n∧n≤b)))∧Ext w w':=fun n a b g w hb=>by
  have:=within_any n [(a,b)] (show 1≤1000 by omega) g w hb;rw[one] at this;exact this
 unfold oN;refine zN (args:=[.agg (kiC i).toArray]) Tryz.func148 M 37 M (Kh M)<|Z1 0 M<|Z0<|zX<|zZ<|zA .none M (yQ M M) fun b1=>Za M M<|ZX<|zZ<|Za M M<|ZT<|zB (ι:=Unit) (fun _=>[(1,Jx b1),(3,.int .i64 (if i.op=129 then 3 else if i.op=130 then 4 else 7))]) (fun _=>Jy w_0 [(b1,kiO i)] [] (fun _=>True)) ?_ (fun _=>?_)
 ·refine zX<|zZ<|ZF M (Y35x0 M) ?_;refine Zl 0 M U3 M<|ZT<|zJ<|zX<|Z5r 0 1 2 3 5 M<|Ze M<|Za M M<|ZT<|zT M (fun h6=>?_) (fun h6=>?_)
  ·replace h6:=Kq h6;refine Z6r 0 1 2 3 5 6 M<|Za M M<|zS<|zH<|zU (ι:=Unit) () (.cons M<|.consE M (by rw[Ah h6])<|.nil) Jz
  replace h6:=yT h6;refine zX<|Z6r 0 1 2 3 5 6 M<|Ze M<|Za M M<|ZT<|zT M (fun h8=>?_) (fun h8=>?_)
  ·replace h8:=Kq h8;refine Z7r 0 1 2 3 5 6 8 M<|Za M M<|zS<|zH<|zU (ι:=Unit) () (.cons M<|.consE M (by rw[Ag h6,Ah h8])<|.nil) Jz
  replace h8:=yT h8;refine zR<|zH<|zU (ι:=Unit) () (.cons M<|.consE M (by rw[Ag h6,Ag h8])<|.nil) Jz
 generalize (if i.op=129 then (3:Int) else if i.op=130 then 4 else 7)=most;refine zX<|zZ<|ZF M (Y35x1 M) ?_;refine Zl 0 M U3 M<|ZF M (wM (cells:=#[.int .i64 0,.int .i64 7]) M (by kernel_rfl))<|Zs (z:=Jb) M U231 fun b13=>Zu (v:=.bool (decide (0≤i.d∧i.d≤7))) M (fun w hw=>hw1 i.d 0 7 b13 w (HpG.blkL (j:=0) hw M)) ?_;refine Zm M M<|zQ 15 M (fun g6=>?_) (fun g6=>?_)
 ·refine ZG M M M (Y35x2 M) ?_;refine ZG M M M (yU 1 M M M U3 M)<|Zv M<|ZG M M M (wM (cells:=#[.int .i64 0,.int .i64 most]) M (by kernel_rfl))<|zA (.some M M) M (nf_bs1 (z:=Jb) M M U231 (by kernel_rfl) (by kernel_rfl) M M) fun b20=>xW (.some M M) M  (v:=.bool (decide (0≤i.s∧i.s≤most))) (by kernel_rfl) M (fun w hw=>hw1 i.s 0 most b20 w (HpG.blkL (j:=0) hw M)) ?_;refine Zh M<|Zm M M<|zQ 23 M (fun g14=>?_) (fun g14=>?_)
  ·refine ZG M M M (Y35x3 M) ?_;refine ZG M M M (yU 2 M M M U3 M)<|ZG M M M (wM (cells:=#[.int .i64 (-1),.int .i64 7]) M (by kernel_rfl))<|zA (.some M M) M (nf_bs1 (z:=Jb) M M U231 (by kernel_rfl) (by kernel_rfl) M M) fun b27=>xW (.some M M) M  (v:=.bool (decide (-1≤i.index∧i.index≤7))) (by kernel_rfl) M (fun w hw=>hw1 i.index (-1) 7 b27 w (HpG.blkL (j:=0) hw M)) ?_;refine Zh M<|Zm M M<|zQ 30 M (fun g21=>?_) (fun g21=>?_)
   ·refine ZG M M M (Y35x4 M) ?_;refine ZG M M M (yU 3 M M M U3 M)<|ZG M M M (wM (cells:=#[.int .i64 0,.int .i64 3]) M (by kernel_rfl))<|zA (.some M M) M (nf_bs1 (z:=Jb) M M U231 (by kernel_rfl) (by kernel_rfl) M M) fun b34=>xW (.some M M) M  (v:=.bool (decide (0≤i.scale∧i.scale≤3))) (by kernel_rfl) M (fun w hw=>hw1 i.scale 0 3 b34 w (HpG.blkL (j:=0) hw M)) ?_;refine Zh M<|Za M M<|ZU M M fun w hw=>⟨by rw[g6,g14,g21];rfl,(Kk hw).ext⟩
   skip;refine ZP M<|ZP M<|ZP M<|ZP M<|ZP M<|Zf M<|Za M M<|ZU M M fun w hw=>⟨by rw[g6,g14,g21];rfl,(Kk hw).ext⟩
  skip;refine ZP M<|ZP M<|ZP M<|ZP M<|ZP M<|Zf M<|Zm M M<|ZP M<|ZP M<|ZP M<|ZP M<|ZP M<|Zf M<|Za M M<|ZU M M fun w hw=>⟨by rw[g6,g14];rfl,(Kk hw).ext⟩
 skip;refine ZP M<|ZP M<|ZP M<|ZP M<|ZP M<|ZP M<|Zf M<|Zm M M<|ZP M<|ZP M<|ZP M<|ZP M<|ZP M<|Zf M<|Zm M M<|ZP M<|ZP M<|ZP M<|ZP M<|ZP M<|Zf M<|Za M M<|ZU M M fun w hw=>⟨by rw[g6];rfl,(Kk hw).ext⟩
end Go.Proofs.YtkaepknpplhgkaaGreatDoor
namespace Go.Proofs.YtkaepknpplhgkaaGreatDoor
open Go.RowKit
section
variable {P:Program}{ops:Array Oper}{Q:Exit→Act→World→Prop}{J:World→Prop}{σ:List Nat}{n:Fr}{m:List (Nat×Value)}{ty:TypeId}{G B:Nat→Prop}{w0:World}{L:List (Nat×Obj)}{R:List Rw}{X:World→Prop}{d:Nat}{pos:String}{af:Array Edge}{gd:Option (Nat×Bool)}
theorem wd_callVT {x:Operand}{f:FuncId}{args:List Operand}{ats:Array TypeId}{us vs cs:List Value}{v:Value}{g:Nat}{ob ob':Obj}(k:Nat) (hg:Gd ops m gd) (hd:Nat.blt d n=true) (hf:goes P f=true) (hx:ev m x=some (.func (.func f) us.toArray cs.toArray)) (ha:evl m args=some vs) (hk:L[k]? = some (g,ob))
  (hJ:∀w w',HpG G B w0 L R X w→J w→Keep (fun j=>j=g) w w'→J w')
  (hC:∀w,HpG G B w0 L R X w→Calls P f (us++vs++cs).toArray w fun e w'=>e=.returned v∧Keep (fun j=>j=g) w w'∧w'.heap[g]? = some ob')
  (h:WD P ops J Q σ G n ((d,v)::m) (HpG G B w0 (L.set k (g,ob')) R X)):WDo P ops J Q ⟨some d,.call { callee:=.value x,args:=args.toArray,argTypes:=ats },ty,pos,af,gd⟩ σ G n m (HpG G B w0 L R X) :=
 wd_chain (ι:=Unit) (val:=fun _=>v) (H':=fun _=>HpG G B w0 (L.set k (g,ob')) R X) rfl (fun _ _ e=>by cases e) hg hd (fun _=>HpG.stab)
  (fun _ w _ _ _ _ hs hw hj=>(ch_callV hs hf hx ha ((hC w hw).mono fun _ _ ⟨e1,e2,e3⟩=>⟨_,e1,⟨rfl,e2,e3⟩⟩)).mono
   (R:=fun u w'=>u=v∧Keep (fun j=>j=g) w w'∧w'.heap[g]? = some ob') fun u w' ⟨e1,e2,e3⟩ =>
    ⟨e2.mono fun j _ hjg=>by subst hjg;exact hw.inG j (List.mem_append_left _ (List.mem_map.2 ⟨_,Ko hk,rfl⟩)),hJ w w' hw hj e2,(),e1,hw.turn hk e2 e3⟩) fun _=>h
theorem wd_callV0 {x:Operand}{f:FuncId}{args:List Operand}{ats:Array TypeId}{us vs cs:List Value}{v:Value}(hg:Gd ops m gd) (hd:Nat.blt d n=true) (hf:goes P f=true) (hx:ev m x=some (.func (.func f) us.toArray cs.toArray)) (ha:evl m args=some vs)
  (hJ:∀w w',J w→Ext w w'→J w')
  (hC:∀w,HpG G B w0 L R X w→Calls P f (us++vs++cs).toArray w fun e w'=>e=.returned v∧Ext w w')
  (h:WD P ops J Q σ G n ((d,v)::m) (HpG G B w0 L R X)):WDo P ops J Q ⟨some d,.call { callee:=.value x,args:=args.toArray,argTypes:=ats },ty,pos,af,gd⟩ σ G n m (HpG G B w0 L R X) :=
 wd_chain (ι:=Unit) (val:=fun _=>v) (H':=fun _=>HpG G B w0 L R X) rfl (fun _ _ e=>by cases e) hg hd (fun _=>HpG.stab)
  (fun _ w _ _ _ _ hs hw hj=>(ch_callV hs hf hx ha ((hC w hw).mono fun _ _ ⟨e1,e2⟩=>⟨_,e1,⟨rfl,e2⟩⟩)).mono
   (R:=fun u w'=>u=v∧Ext w w') fun u w' ⟨e1,e2⟩=>⟨Keep.of_ext e2,hJ w w' hj e2,(),e1,hw.onE e2⟩) fun _=>h
theorem wl_callV0 {rest:List Oper}{x:Operand}{f:FuncId}{args:List Operand}{ats:Array TypeId}{us vs cs:List Value}{v:Value}(hg:Gd ops m gd) (hd:Nat.blt d n=true) (hf:goes P f=true) (hx:ev m x=some (.func (.func f) us.toArray cs.toArray)) (ha:evl m args=some vs)
  (hC:∀w,HpG G B w0 L R X w→Calls P f (us++vs++cs).toArray w fun e w'=>e=.returned v∧Ext w w')
  (h:WL P ops Q rest n ((d,v)::m) (HpG G B w0 L R X)):WL P ops Q (⟨some d,.call { callee:=.value x,args:=args.toArray,argTypes:=ats },ty,pos,af,gd⟩::rest) n m (HpG G B w0 L R X) :=
 xY (ι:=Unit) (val:=fun _=>v) (H':=fun _=>HpG G B w0 L R X) hg hd (pN hf hx ha fun w hw=>(hC w hw).mono fun _ _ ⟨e1,e2⟩=>⟨_,e1,(),rfl,hw.onE e2⟩) fun _=>h
end
abbrev fcV (f:FuncId) (c:List Value):Value:=.func (.func f) #[] c.toArray
theorem read_any (p:Int×Int×Nat×List Fld) (f1 f2:FuncId) (c1 c2:List Value) (hg1:goes Tryz.prog f1=true) (F:Nat→Prop) (s:Bs) (c:UInt8) (hc:s[0]? = some c) (hn:1+ndL p.2.2.2≤s.length) (hb:s.length≤1000000000) (h3:p.2.2.2.length≤1000) (w_0:World) (hv:TakeV p.2.2.2 (fcV f1 c1) F w_0) :
  Calls Tryz.prog 57 #[.agg (fmC p (fcV f1 c1,fcV f2 c2)).toArray,.string ⟨s.toArray⟩] w_0 fun e w'=>e=.returned (.agg (kiC (vZ (s.drop 1) ⟨c.toNat,0,0,-1,0,0,p.2.2.1⟩ p.2.2.2)).toArray)∧Ext w_0 w':=by
 have hcl:=UInt8.toNat_lt c;refine zN (args:=[.agg (fmC p (fcV f1 c1,fcV f2 c2)).toArray,.string ⟨s.toArray⟩]) Tryz.func57 M 20 M (Kh M)<|Z2 0 1 M<|zG (H':=Jy w_0 [] [] (TakeV p.2.2.2 (fcV f1 c1) F)) (fun u hu=>?_) ?_;subst hu;exact Hp.startT TakeV.lies hv;refine zX<|zZ<|zA .none M (yQ M M) fun b2=>zA .none M (yQ M M) fun b3=>Zt (z:=Jc) (cs:=Jm) M fun b4=>ZX<|zZ<|Zt (z:=.int .i64 0) (cs:=Jj) M fun b5=>ZS 0 M<|ZX<|zZ<|ZF M (wX M M)<|Za M M<|ZX<|Z7 0 1 2 3 4 5 6 M<|uY 7 [0,1,2,3,4,5,6] (Blk b2 (bk 135 (fmC p (fcV f1 c1,fcV f2 c2)))) (by kernel_rfl) (by kernel_rfl) Blk.stab (fun w h=>HpG.blk h (k:=3) M) (fun n0 hn0=>?_);refine Zd M M M (yW M)<|vP M<|wd_callVT (us:=[]) (vs:=[]) (cs:=[Jx b5,Jx b3]) (v:=.int .u8 c.toNat) (ob':=bxI (0+1)) 0 .none M  (by kernel_rfl) M M M (fun w w' hw hj hk=>hj.keep hk (HpG.ne hw (i:=3) (j:=0) M M M)) (fun w hw=>tE s 0 c hc hb b5 b3 w (HpG.blkL (j:=0) hw M) (HpG.blkL (j:=2) hw M) (HpG.ne hw (i:=2) (j:=0) M M M)) ?_;refine Zd M M M (Zc M U3 (i64_in _ (by omega) (by omega)))<|Zd M M M (Y135x2 M) ?_;refine Zd M M M (zL M U3 M (fun w hw=>Blk.cell hw M))<|Zd M M M (Zb [.int .i64 0,.int .i64 0,.int .i64 0,.int .i64 0,.int .i64 0,.int .u32 0,.int .i64 0] [(0,1),(1,1),(2,1),(3,1),(4,1),(5,1),(6,1)] M)<|vP M<|wd_newH ?_ .none M (fun k hk=>Kr hk hn0) (pT (z:=Jc) (cs:=Jm) (by kernel_rfl) M) (fun b7 hb7=>?_);rfl;refine uE ?_;simp only[Kt,Kx];refine ZR 0 M<|ZX<|Z8r 0 1 2 3 4 5 6 7 M<|ZF M (zY (off:=3) (sz:=0) M U135 (by kernel_rfl) M) ?_;refine Zl 4 M Tryz.underlying132 M<|Zm M M<|wl_fact (φ:=b5≠b7) (fun w hw=>HpG.ne hw (i:=1) (j:=0) M M M) (fun h57=>?_);refine wl_callV2 (us:=[]) (vs:=[nxV b5 b3,Jx b7]) (cs:=c1) (v:=.tuple #[]) (o1':=bxI (0+1+ndL p.2.2.2)) (o2':=kiO (vZ (s.drop (0+1)) ⟨c.toNat,0,0,-1,0,0,p.2.2.1⟩ p.2.2.2)) 1 0 .none M  hg1 M M M M h57 (fun w hw=>(take_call (HpG.x hw) (ba:=b5) (bs:=b3) (bi:=b7) (p:=0+1) (s:=s) (i:=⟨c.toNat,0,0,-1,0,0,p.2.2.1⟩) ⟨HpG.blkL (j:=1) hw rfl,HpG.blkL (j:=3) hw rfl,HpG.blkL (j:=0) hw rfl,hb⟩ (by omega) h3).mono fun e w' h=>h) ?_;refine ZX<|Z8r 0 1 2 3 4 5 6 7 M<|ZF M (Zo 0 M U35 M)<|ZR 2 M<|ZT<|zK<|yS M M 2 M U35 M (by kernel_rfl) (fun w hw=>?_)
 exact⟨rfl,(Kk hw).ext⟩
end Go.Proofs.YtkaepknpplhgkaaGreatDoor
