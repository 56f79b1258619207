import Derived.Test.YtkaepknpplhgkaaGreatDoorMaj
import Derived.Test.YtkaepknpplhgkaaGreatDoorMao
set_option maxRecDepth 100000
namespace Go.Proofs.YtkaepknpplhgkaaGreatDoor
open Go.RowKit
section
variable {n:Fr}{m:List (Nat×Value)}{B:Nat→Prop}{w0:World}{L:List (Nat×Obj)}{R:List Rw}{X:World→Prop}
theorem ch_appBs {a:Act}{w:World}{base:Nat}{d:Option Nat}{pos:String}{af:Array Edge}{gd:Option (Nat×Bool)}{x y:Operand}{g0 cap b0:Nat}{l c:Bs}(hs:Sat n m a) (hown:w.ownsRow base 5 1 (.slice (some ⟨g0,0,none⟩) l.length cap) l.length (Lib.byteCells l)) (hb:base≤w.heap.size) (hk:∀j u,(Lib.byteCells c)[j]? = some u→w.cell? ⟨b0,j,none⟩=some u) (h0:0<c.length) (hx:ev m x=some (.slice (some ⟨g0,0,none⟩) l.length cap)) (hy:ev m y=some (.slice (some ⟨b0,0,none⟩) c.length c.length)) (hl:l.length+c.length≤140737488355328) :
  Ch Tryz.prog ⟨d,.call { callee:=.builtin .append,args:=#[x,y],argTypes:=#[53,53] },53,pos,af,gd⟩ a w fun v w'=>∃i:Nat×Nat,v=.slice (some ⟨i.1,0,none⟩) (l++c).length i.2∧w.grownBy w' (some g0)∧w'.ownsRow base 5 1 (.slice (some ⟨i.1,0,none⟩) (l++c).length i.2) (l++c).length (Lib.byteCells (l++c))∧((Value.slice (some ⟨i.1,0,none⟩) (l++c).length i.2).ownBlock=some g0∨∀b,(Value.slice (some ⟨i.1,0,none⟩) (l++c).length i.2).ownBlock=some b→w.heap.size≤b):=by
 have hmap:(Tryz.prog.info? 5).map (fun i=>(i.zero,i.size,i.bytes))=some (some (.int .u8 0),1,1):=by kernel_rfl
 obtain⟨i,hq',hii⟩:=Option.map_eq_some_iff.1 hmap;obtain⟨hz,hs1,hb1⟩:i.zero=some (.int .u8 0)∧i.size=1∧i.bytes=1:=by simpa using hii
 obtain⟨g,cp,w',hr,h2,h3,h4,h5⟩:=run_append_lies (P:=Tryz.prog) (w:=w) 53 53 base 5 i (.int .u8 0) 1 1 Tryz.underlying53 hq' hz hs1 hb1 rfl (Nat.lt_succ_self 0) _ l.length _ hown ⟨b0,0,none⟩ c.length c.length (Lib.byteCells c) (by rw[Nat.mul_one,Lib.byteCells_length]) (fun j' u hu=>by
  rw[Addr.add_mid,Ac];exact hk j' u hu) (fun u hu=>by
  unfold Lib.byteCells at hu;obtain⟨q,_,rfl⟩:=List.mem_map.1 hu
  rfl) h0 (Ap hl (by decide)) (by rw[Nat.mul_one];exact hl) hb _ rfl
 have e8:Lib.byteCells (l++c)=Lib.byteCells l++Lib.byteCells c:=by simp[Lib.byteCells]
 have hln:(l++c).length=l.length+c.length:=by simp
 have hrun:(execOp a.eval ⟨d,.call { callee:=.builtin .append,args:=#[x,y],argTypes:=#[53,53] },53,pos,af,gd⟩).run Tryz.prog w=.ok (.value (.slice (some ⟨g,0,none⟩) (l.length+c.length) cp)) w':=by
  simp[execOp,resolve,invoke,builtin,hs.ev hx,hs.ev hy,hr]
 unfold Ch;rw[hrun,hln,e8]
 exact⟨(g,cp),rfl,h3,h2,h4.elim (fun h4=>.inl h4.symm) fun h4=>.inr fun b' hb'=>by
  have h9:b'=g:=Option.some.inj (show some g=some b' from hb').symm
  rw[h9,h4];exact Ae _⟩
theorem tM {x y:Operand}{g0 cap b0:Nat}{l c:Bs}(j:Nat) (hj:R[j]? = some (rwG g0 cap l)) (hk:∀w,Hp B w0 L R X w→∀j u,(Lib.byteCells c)[j]? = some u→w.cell? ⟨b0,j,none⟩=some u) (h0:0<c.length) (hx:ev m x=some (.slice (some ⟨g0,0,none⟩) l.length cap)) (hy:ev m y=some (.slice (some ⟨b0,0,none⟩) c.length c.length)) (hl:l.length+c.length≤140737488355328) :
  CF Tryz.prog (.call { callee:=.builtin .append,args:=#[x,y],argTypes:=#[53,53] }) 53 n m (Hp B w0 L R X) (fun i:Nat×Nat=>.slice (some ⟨i.1,0,none⟩) (l++c).length i.2) (fun i=>Hp B w0 L (R.set j (rwG i.1 i.2 (l++c))) X):=fun a w d pos af gd hs hw =>
 (ch_appBs hs (HpG.rows hw _ (Ko hj)) (HpG.size hw) (hk w hw) h0 hx hy hl).mono fun v w' ⟨i,e1,e2,e3,e4⟩=>⟨i,e1,Hp.row (r':=rwG i.1 i.2 (l++c)) hw hj e2 e3 e4⟩
end
section
variable {n:Fr}{m:List (Nat×Value)}{G B:Nat→Prop}{w0:World}{L:List (Nat×Obj)}{R:List Rw}{X J:World→Prop}{Q:Exit→Act→World→Prop}{ops:Array Oper}{σ:List Nat}
theorem wd_appBs {d:Nat}{pos:String}{af:Array Edge}{gd:Option (Nat×Bool)}{x y:Operand}{g0 cap b0:Nat}{l c:Bs}(k:Nat) (hk:R[k]? = some (rwG g0 cap l)) (hr:∀w,HpG G B w0 L R X w→∀j u,(Lib.byteCells c)[j]? = some u→w.cell? ⟨b0,j,none⟩=some u) (h0:0<c.length) (hg:Gd ops m gd) (hd:Nat.blt d n=true) (hx:ev m x=some (.slice (some ⟨g0,0,none⟩) l.length cap)) (hy:ev m y=some (.slice (some ⟨b0,0,none⟩) c.length c.length)) (hl:l.length+c.length≤140737488355328)
  (hJ:∀w w',HpG G B w0 L R X w→J w→Keep (fun q=>(rwG g0 cap l).v.ownBlock=some q) w w'→J w')
  (h:∀(i:Nat×Nat) (N:Nat→Prop),WD Tryz.prog ops J Q σ (fun j=>N j∨G j) n ((d,.slice (some ⟨i.1,0,none⟩) (l++c).length i.2)::m) (HpG (fun j=>N j∨G j) B w0 L (R.set k (rwG i.1 i.2 (l++c))) X)) :
  WDo Tryz.prog ops J Q ⟨some d,.call { callee:=.builtin .append,args:=#[x,y],argTypes:=#[53,53] },53,pos,af,gd⟩ σ G n m (HpG G B w0 L R X) :=
 wd_rowC (ι:=Nat×Nat) (r:=rwG g0 cap l) (rr:=fun i=>rwG i.1 i.2 (l++c)) (val:=fun i=>.slice (some ⟨i.1,0,none⟩) (l++c).length i.2) k hk rfl (fun _ _ e=>by cases e) hg hd (fun a w pos af gd hs hw=>ch_appBs hs (HpG.rows hw _ (Ko hk)) (HpG.size hw) (hr w hw) h0 hx hy hl) hJ h
theorem uA {w:World}{j b0:Nat}{c:Bs}(hj:L[j]? = some (b0,bk 5 (Lib.byteCells c))) (hw:HpG G B w0 L R X w):∀i u,(Lib.byteCells c)[i]? = some u→w.cell? ⟨b0,i,none⟩=some u:=fun i u hu=>by
 have:=HpG.cell hw hj hu;exact this
theorem rdf_read {F:Nat→Prop}{w:World}{b0:Nat}{c:Bs}(h:RdF F (some ⟨b0,0,none⟩) (Lib.byteCells c) w):∀i u,(Lib.byteCells c)[i]? = some u→w.cell? ⟨b0,i,none⟩=some u:=fun i u hu =>
 RdF.part h (Kg.1 hu).1 (by rw[Ac]) hu
end
theorem low8 (k:Nat):IntKind.u8.wrap ((k:Nat):Int)=(((byL (k%256)).toNat:Nat):Int):=by
 rw[vT];have h:lowB ((k:Nat):Int)=byL (k%256):=by unfold lowB;congr 1
 rw[h]
theorem putL_four (n:Nat):wS n 4=[byL (n%256),byL (n/256%256),byL (n/256/256%256),byL (n/256/256/256%256)]:=rfl
theorem four_any (imm:Nat) (hi:imm<4294967296) (w_0:World):Calls Tryz.prog 75 #[.int .u32 imm] w_0 fun e w'=>∃g:Nat,True∧e=.returned (.slice (some ⟨g,0,none⟩) 4 4)∧Ext w_0 w'∧RdF (fun k=>w_0.heap.size≤k) (some ⟨g,0,none⟩) (Lib.byteCells (wS imm 4)) w':=by
 have e2:imm/65536=imm/256/256:=by omega
 have e3:imm/16777216=imm/256/256/256:=by omega
 have q:∀k:Nat,k≤imm→IntKind.u32.wrap (k:Int)=(k:Int):=fun k hk=>u32n (by omega) (Ae _);refine zN (args:=[.int .u32 imm]) Tryz.func75 rfl 15 rfl (Kh rfl)<|Z1 0 rfl<|Z0<|zX<|zZ<|Za rfl rfl<|ZX<|zZ<|Zm rfl rfl<|ZF rfl (Zc rfl U5 (low8 imm))<|Zm rfl rfl<|ZF rfl (yf_quo rfl rfl (by first|decide|omega) (q (imm/256) (by omega))) ?_;refine ZF rfl (Zc rfl U5 (low8 (imm/256)))<|Zm rfl rfl<|ZF rfl (yf_quo rfl rfl (by first|decide|omega) (q (imm/65536) (by omega))) ?_;refine ZF M (Zc M U5 (by rw[low8,e2])) ?_;refine Zm rfl rfl<|ZF rfl (yf_quo rfl rfl (by first|decide|omega) (q (imm/16777216) (by omega))) ?_;refine ZF M (Zc M U5 (by rw[low8,e3])) ?_;refine zA .none M (tX (z:=.int .u8 0) M M M M U53 (by kernel_rfl) (by kernel_rfl) M M) fun b14=>Za M M<|ZU M M fun w hw=>⟨_,trivial,rfl,(Kk hw).ext,HpG.rdF (j:=0) hw M (HpG.mineL (j:=0) hw M fun h=>h)⟩
end Go.Proofs.YtkaepknpplhgkaaGreatDoor
namespace Go.Proofs.YtkaepknpplhgkaaGreatDoor
open Go.RowKit
theorem rC {z:Int}(h0:0≤z) (h1:z<1000):IntKind.i64.wrap z=z:=by
 obtain⟨k,rfl⟩:=Int.eq_ofNat_of_zero_le h0;exact i64w_nat (by omega)
def vW (i:KI):UInt8:=lowB (16*i.d+i.s)
def idxB (i:KI):UInt8:=if 0≤i.index then lowB (i.index+16*i.scale) else 8
def rbK (f:Nat) (i:KI):Bs :=
 match f with
 | 2=>[lowB i.op]++[lowB i.d]
 | 3=>[lowB i.op]++[vW i]
 | 11=>[lowB i.op]++[vW i]
 | 12=>[lowB i.op]++[vW i]
 | 4=>[lowB i.op]++[lowB i.d,byL (i.imm%256)]
 | 5=>([lowB i.op]++[lowB i.d])++wS i.imm 4
 | 6=>[lowB i.op]++[vW i,byL (i.imm%256)]
 | 7=>([lowB i.op]++[vW i,idxB i])++wS i.imm 4
 | 8=>[lowB i.op]++[byL (i.imm%256)]
 | 10=>[lowB i.op]++[byL (i.imm%256)]
 | 9=>[lowB i.op]++wS i.imm 4
 | _=>[lowB i.op]
theorem rencode_1 (i:KI) (hi:i.imm<4294967296) (hr:0≤i.d∧i.d≤7∧0≤i.s∧i.s≤7∧-1≤i.index∧i.index≤7∧0≤i.scale∧i.scale≤3) (hv:wW i=true) (hf:fmN i.op=1) (w_0:World):Calls Tryz.prog 31 #[.agg (kiC i).toArray] w_0 fun e w'=>e=.returned (.agg #[.string ⟨(rbK 1 i).toArray⟩,.int .i64 0])∧Ext w_0 w':=by
 obtain⟨d0,d1,s0,s1,x0,x1,c0,c1⟩:=hr;have hfm:=fun w=>vM i.op w;rw[hf] at hfm;have q1:IntKind.i64.wrap (16*i.d)=16*i.d:=rC (by omega) (by omega);have q2:IntKind.i64.wrap (16*i.d+i.s)=16*i.d+i.s:=rC (by omega) (by omega);refine zN (args:=[.agg (kiC i).toArray]) Tryz.func31 M 112 M (Kh M)<|Z1 0 M<|Z0<|zX<|zZ<|zA .none M (yQ M M) fun b1=>Zt (z:=.agg #[.string ⟨#[]⟩,.int .i64 0]) (cs:=Jt) M fun b2=>ZX<|zX<|zZ<|ZF M (Zo 1 M U35 M)<|Zu (v:=.bool true) M (fun w hw=>(vX i hi w).mono fun e w' ⟨h1,h2⟩=>⟨by rw[h1,hv],h2⟩) ?_;refine ZF M (xO M)<|ZT<|zT M (fun h8=>?_) (fun h8=>?_)
 ·cases h8
 skip;refine zR<|zV<|zX<|Z4r 0 1 2 8 M<|ZF M (Y35x0 M) ?_;refine Zl 1 M U3 M<|ZF M (Zc M U5 (vT i.op))<|Zs (z:=.int .u8 0) M U53 fun b13=>Za M M<|ZT<|zB (ι:=Unit) (fun _=>[(1,Jx b1),(2,Jx b2),(3,.slice (some ⟨b13,0,none⟩) ([lowB i.op]:Bs).length 1),(4,.int .u8 (vW i).toNat)]) (fun _=>Jy w_0 [(b2,bk 70 [.string ⟨#[]⟩,.int .i64 0]),(b1,kiO i)] [rwG b13 1 [lowB i.op]] (fun _=>True)) ?_ (fun _=>?_)
 ·refine Z5r 0 1 2 3 8 M<|ZF M (Y35x1 M) ?_;refine Zl 2 M U3 M<|ZF M (vE M M q1)<|ZF M (Y35x2 M) ?_;refine Zl 2 M U3 M<|ZF M (zF M M q2)<|ZF M (Zc M U5 (vT (16*i.d+i.s)))<|Za M M<|zS ?_;exact zU (ι:=Unit) () (O4 M) (fun w h=>Hp.toRow h (HpG.mineL (j:=0) h M fun h=>h) M cp11.2)
 skip;refine zX<|zX<|zZ<|ZF M (Y35x0 M) ?_;refine Zl 1 M U3 M<|Zu (v:=.int .i64 (1:Nat)) M (fun w hw=>hfm w)<|ZT<|zJ<|zX<|Z5r 1 2 3 4 23 M<|Ze M<|Za M M<|ZT<|zD M<|zX<|zX<|Z6r 1 2 3 4 23 24 M<|Ze M<|Za M M<|ZT<|zD M<|zX<|Z7r 1 2 3 4 23 24 32 M<|Ze M<|Za M M<|ZT<|zD M<|Z7r 1 2 3 4 23 24 32 M<|Ze M<|Za M M<|ZT<|zD M<|zX<|Z7r 1 2 3 4 23 24 32 M<|Ze M ?_;refine Za M M<|ZT<|zD M<|zX<|Z8r 1 2 3 4 23 24 32 40 M<|Ze M<|Za M M<|ZT<|zD M<|zX<|Z9r 1 2 3 4 23 24 32 40 51 M<|Ze M<|Za M M<|ZT<|zD M<|zX<|Z10r 1 2 3 4 23 24 32 40 51 63 M<|Ze M<|Za M M<|ZT<|zD M<|zX<|zX<|Z11r 1 2 3 4 23 24 32 40 51 63 72 M<|Ze M<|Za M M<|ZT<|zD M<|Z12r 1 2 3 4 23 24 32 40 51 63 72 93 M<|Ze M<|Za M M ?_;refine ZT<|zD M<|zX<|Z12r 1 2 3 4 23 24 32 40 51 63 72 93 M<|Ze M<|Za M M<|ZT<|zD M<|zR<|zH<|zV<|zX<|Z13r 1 2 3 4 23 24 32 40 51 63 72 93 102 M<|Zm M M ?_
 refine ZF M (wG 0 M M) ?_
 refine ZF M (Zb [.string ⟨#[]⟩,.int .i64 0] [(0,1),(1,1)] M)<|ZR 0 M<|ZT<|zK<|yS M M 0 M Tryz.underlying70 M (by kernel_rfl) fun w hw=>⟨rfl,(Kk hw).ext⟩
theorem rencode_2 (i:KI) (hi:i.imm<4294967296) (hr:0≤i.d∧i.d≤7∧0≤i.s∧i.s≤7∧-1≤i.index∧i.index≤7∧0≤i.scale∧i.scale≤3) (hv:wW i=true) (hf:fmN i.op=2) (w_0:World):Calls Tryz.prog 31 #[.agg (kiC i).toArray] w_0 fun e w'=>e=.returned (.agg #[.string ⟨(rbK 2 i).toArray⟩,.int .i64 0])∧Ext w_0 w':=by
 obtain⟨d0,d1,s0,s1,x0,x1,c0,c1⟩:=hr;have hfm:=fun w=>vM i.op w;rw[hf] at hfm;have q1:IntKind.i64.wrap (16*i.d)=16*i.d:=rC (by omega) (by omega);have q2:IntKind.i64.wrap (16*i.d+i.s)=16*i.d+i.s:=rC (by omega) (by omega);refine zN (args:=[.agg (kiC i).toArray]) Tryz.func31 M 112 M (Kh M)<|Z1 0 M<|Z0<|zX<|zZ<|zA .none M (yQ M M) fun b1=>Zt (z:=.agg #[.string ⟨#[]⟩,.int .i64 0]) (cs:=Jt) M fun b2=>ZX<|zX<|zZ<|ZF M (Zo 1 M U35 M)<|Zu (v:=.bool true) M (fun w hw=>(vX i hi w).mono fun e w' ⟨h1,h2⟩=>⟨by rw[h1,hv],h2⟩) ?_;refine ZF M (xO M)<|ZT<|zT M (fun h8=>?_) (fun h8=>?_)
 ·cases h8
 skip;refine zR<|zV<|zX<|Z4r 0 1 2 8 M<|ZF M (Y35x0 M) ?_;refine Zl 1 M U3 M<|ZF M (Zc M U5 (vT i.op))<|Zs (z:=.int .u8 0) M U53 fun b13=>Za M M<|ZT<|zB (ι:=Unit) (fun _=>[(1,Jx b1),(2,Jx b2),(3,.slice (some ⟨b13,0,none⟩) ([lowB i.op]:Bs).length 1),(4,.int .u8 (vW i).toNat)]) (fun _=>Jy w_0 [(b2,bk 70 [.string ⟨#[]⟩,.int .i64 0]),(b1,kiO i)] [rwG b13 1 [lowB i.op]] (fun _=>True)) ?_ (fun _=>?_)
 ·refine Z5r 0 1 2 3 8 M<|ZF M (Y35x1 M) ?_;refine Zl 2 M U3 M<|ZF M (vE M M q1)<|ZF M (Y35x2 M) ?_;refine Zl 2 M U3 M<|ZF M (zF M M q2)<|ZF M (Zc M U5 (vT (16*i.d+i.s)))<|Za M M<|zS ?_;exact zU (ι:=Unit) () (O4 M) (fun w h=>Hp.toRow h (HpG.mineL (j:=0) h M fun h=>h) M cp11.2)
 skip;refine zX<|zX<|zZ<|ZF M (Y35x0 M) ?_;refine Zl 1 M U3 M<|Zu (v:=.int .i64 (2:Nat)) M (fun w hw=>hfm w)<|ZT<|zJ<|zX<|Z5r 1 2 3 4 23 M<|Ze M<|Za M M<|ZT<|wY M<|Z6r 1 2 3 4 23 24 M<|Zm M M<|ZF M (Y35x1 M) ?_;refine Zl 1 M U3 M<|ZF M (Zc M U5 (vT i.d))<|Zs (z:=.int .u8 0) M U53 fun b30=>xY (ι:=Nat×Nat) (val:=fun q=>.slice (some ⟨q.1,0,none⟩) ([lowB i.op]++[lowB i.d]).length q.2) (H':=fun q=>Jy w_0 [(b30,bk 5 (Lib.byteCells [lowB i.d])),(b2,bk 70 [.string ⟨#[]⟩,.int .i64 0]),(b1,kiO i)] [rwG q.1 q.2 ([lowB i.op]++[lowB i.d])] (fun _=>True)) .none M  (tM (c:=[lowB i.d]) 0 M (fun w hw=>uA (j:=0) M hw) (Nat.succ_le_of_lt (Nat.succ_pos _)) M M (Kh M)) (fun i31=>?_);refine Za M M<|zS<|zH<|zV<|zX<|Z6r 1 2 3 4 23 24 M<|Zm M M ?_
 refine ZF M (wG 0 M M) ?_
 refine ZF M (Zb [.string ⟨#[]⟩,.int .i64 0] [(0,1),(1,1)] M)<|ZR 1 M<|ZT<|zK<|yS M M 1 M Tryz.underlying70 M (by kernel_rfl) fun w hw=>⟨rfl,(Kk hw).ext⟩
theorem rencode_3 (i:KI) (hi:i.imm<4294967296) (hr:0≤i.d∧i.d≤7∧0≤i.s∧i.s≤7∧-1≤i.index∧i.index≤7∧0≤i.scale∧i.scale≤3) (hv:wW i=true) (hf:fmN i.op=3) (w_0:World):Calls Tryz.prog 31 #[.agg (kiC i).toArray] w_0 fun e w'=>e=.returned (.agg #[.string ⟨(rbK 3 i).toArray⟩,.int .i64 0])∧Ext w_0 w':=by
 obtain⟨d0,d1,s0,s1,x0,x1,c0,c1⟩:=hr;have hfm:=fun w=>vM i.op w;rw[hf] at hfm;have q1:IntKind.i64.wrap (16*i.d)=16*i.d:=rC (by omega) (by omega);have q2:IntKind.i64.wrap (16*i.d+i.s)=16*i.d+i.s:=rC (by omega) (by omega);refine zN (args:=[.agg (kiC i).toArray]) Tryz.func31 M 112 M (Kh M)<|Z1 0 M<|Z0<|zX<|zZ<|zA .none M (yQ M M) fun b1=>Zt (z:=.agg #[.string ⟨#[]⟩,.int .i64 0]) (cs:=Jt) M fun b2=>ZX<|zX<|zZ<|ZF M (Zo 1 M U35 M)<|Zu (v:=.bool true) M (fun w hw=>(vX i hi w).mono fun e w' ⟨h1,h2⟩=>⟨by rw[h1,hv],h2⟩) ?_;refine ZF M (xO M)<|ZT<|zT M (fun h8=>?_) (fun h8=>?_)
 ·cases h8
 skip;refine zR<|zV<|zX<|Z4r 0 1 2 8 M<|ZF M (Y35x0 M) ?_;refine Zl 1 M U3 M<|ZF M (Zc M U5 (vT i.op))<|Zs (z:=.int .u8 0) M U53 fun b13=>Za M M<|ZT<|zB (ι:=Unit) (fun _=>[(1,Jx b1),(2,Jx b2),(3,.slice (some ⟨b13,0,none⟩) ([lowB i.op]:Bs).length 1),(4,.int .u8 (vW i).toNat)]) (fun _=>Jy w_0 [(b2,bk 70 [.string ⟨#[]⟩,.int .i64 0]),(b1,kiO i)] [rwG b13 1 [lowB i.op]] (fun _=>True)) ?_ (fun _=>?_)
 ·refine Z5r 0 1 2 3 8 M<|ZF M (Y35x1 M) ?_;refine Zl 2 M U3 M<|ZF M (vE M M q1)<|ZF M (Y35x2 M) ?_;refine Zl 2 M U3 M<|ZF M (zF M M q2)<|ZF M (Zc M U5 (vT (16*i.d+i.s)))<|Za M M<|zS ?_;exact zU (ι:=Unit) () (O4 M) (fun w h=>Hp.toRow h (HpG.mineL (j:=0) h M fun h=>h) M cp11.2)
 skip;refine zX<|zX<|zZ<|ZF M (Y35x0 M) ?_;refine Zl 1 M U3 M<|Zu (v:=.int .i64 (3:Nat)) M (fun w hw=>hfm w)<|ZT<|zJ<|zX<|Z5r 1 2 3 4 23 M<|Ze M<|Za M M<|ZT<|zD M<|zX<|zX<|Z6r 1 2 3 4 23 24 M<|Ze M<|Za M M<|ZT<|wY M<|zR<|zV<|wY M<|Z7r 1 2 3 4 23 24 32 M<|Zm M M<|Zm M M<|Zs (z:=.int .u8 0) M U53 fun b38=>xY (ι:=Nat×Nat) (val:=fun q=>.slice (some ⟨q.1,0,none⟩) ([lowB i.op]++[vW i]).length q.2) (H':=fun q=>Jy w_0 [(b38,bk 5 (Lib.byteCells [vW i])),(b2,bk 70 [.string ⟨#[]⟩,.int .i64 0]),(b1,kiO i)] [rwG q.1 q.2 ([lowB i.op]++[vW i])] (fun _=>True)) .none M  (tM (c:=[vW i]) 0 M (fun w hw=>uA (j:=0) M hw) (Nat.succ_le_of_lt (Nat.succ_pos _)) M M (Kh M)) (fun i39=>?_);refine Za M M<|zS<|zH<|zV<|zX<|Z7r 1 2 3 4 23 24 32 M<|Zm M M ?_
 refine ZF M (wG 0 M M) ?_
 refine ZF M (Zb [.string ⟨#[]⟩,.int .i64 0] [(0,1),(1,1)] M)<|ZR 1 M<|ZT<|zK<|yS M M 1 M Tryz.underlying70 M (by kernel_rfl) fun w hw=>⟨rfl,(Kk hw).ext⟩
theorem rencode_4 (i:KI) (hi:i.imm<4294967296) (hr:0≤i.d∧i.d≤7∧0≤i.s∧i.s≤7∧-1≤i.index∧i.index≤7∧0≤i.scale∧i.scale≤3) (hv:wW i=true) (hf:fmN i.op=4) (w_0:World):Calls Tryz.prog 31 #[.agg (kiC i).toArray] w_0 fun e w'=>e=.returned (.agg #[.string ⟨(rbK 4 i).toArray⟩,.int .i64 0])∧Ext w_0 w':=by
 obtain⟨d0,d1,s0,s1,x0,x1,c0,c1⟩:=hr;have hfm:=fun w=>vM i.op w;rw[hf] at hfm;have q1:IntKind.i64.wrap (16*i.d)=16*i.d:=rC (by omega) (by omega);have q2:IntKind.i64.wrap (16*i.d+i.s)=16*i.d+i.s:=rC (by omega) (by omega);refine zN (args:=[.agg (kiC i).toArray]) Tryz.func31 M 112 M (Kh M)<|Z1 0 M<|Z0<|zX<|zZ<|zA .none M (yQ M M) fun b1=>Zt (z:=.agg #[.string ⟨#[]⟩,.int .i64 0]) (cs:=Jt) M fun b2=>ZX<|zX<|zZ<|ZF M (Zo 1 M U35 M)<|Zu (v:=.bool true) M (fun w hw=>(vX i hi w).mono fun e w' ⟨h1,h2⟩=>⟨by rw[h1,hv],h2⟩) ?_;refine ZF M (xO M)<|ZT<|zT M (fun h8=>?_) (fun h8=>?_)
 ·cases h8
 skip;refine zR<|zV<|zX<|Z4r 0 1 2 8 M<|ZF M (Y35x0 M) ?_;refine Zl 1 M U3 M<|ZF M (Zc M U5 (vT i.op))<|Zs (z:=.int .u8 0) M U53 fun b13=>Za M M<|ZT<|zB (ι:=Unit) (fun _=>[(1,Jx b1),(2,Jx b2),(3,.slice (some ⟨b13,0,none⟩) ([lowB i.op]:Bs).length 1),(4,.int .u8 (vW i).toNat)]) (fun _=>Jy w_0 [(b2,bk 70 [.string ⟨#[]⟩,.int .i64 0]),(b1,kiO i)] [rwG b13 1 [lowB i.op]] (fun _=>True)) ?_ (fun _=>?_)
 ·refine Z5r 0 1 2 3 8 M<|ZF M (Y35x1 M) ?_;refine Zl 2 M U3 M<|ZF M (vE M M q1)<|ZF M (Y35x2 M) ?_;refine Zl 2 M U3 M<|ZF M (zF M M q2)<|ZF M (Zc M U5 (vT (16*i.d+i.s)))<|Za M M<|zS ?_;exact zU (ι:=Unit) () (O4 M) (fun w h=>Hp.toRow h (HpG.mineL (j:=0) h M fun h=>h) M cp11.2)
 skip;refine zX<|zX<|zZ<|ZF M (Y35x0 M) ?_;refine Zl 1 M U3 M<|Zu (v:=.int .i64 (4:Nat)) M (fun w hw=>hfm w)<|ZT<|zJ<|zX<|Z5r 1 2 3 4 23 M<|Ze M<|Za M M<|ZT<|zD M<|zX<|zX<|Z6r 1 2 3 4 23 24 M<|Ze M<|Za M M<|ZT<|zD M<|zX<|Z7r 1 2 3 4 23 24 32 M<|Ze M<|Za M M<|ZT<|zD M<|Z7r 1 2 3 4 23 24 32 M<|Ze M<|Za M M<|ZT<|zD M<|zX<|Z7r 1 2 3 4 23 24 32 M<|Ze M ?_;refine Za M M<|ZT<|wY M<|Z8r 1 2 3 4 23 24 32 40 M<|Zm M M<|ZF M (Y35x1 M) ?_;refine Zl 1 M U3 M<|ZF M (Zc M U5 (vT i.d))<|ZF M (Y35x5 M) ?_;refine Zl 1 M U22 M<|ZF M (Zc M U5 (low8 i.imm))<|zA .none M (pU (z:=.int .u8 0) M M M M U53 (by kernel_rfl) (by kernel_rfl) M M M) fun b49=>xY (ι:=Nat×Nat) (val:=fun q=>.slice (some ⟨q.1,0,none⟩) ([lowB i.op]++[lowB i.d,byL (i.imm%256)]).length q.2) (H':=fun q=>Jy w_0 [(b49,bk 5 (Lib.byteCells [lowB i.d,byL (i.imm%256)])),(b2,bk 70 [.string ⟨#[]⟩,.int .i64 0]),(b1,kiO i)] [rwG q.1 q.2 ([lowB i.op]++[lowB i.d,byL (i.imm%256)])] (fun _=>True)) .none M  (tM (c:=[lowB i.d,byL (i.imm%256)]) 0 M (fun w hw=>uA (j:=0) M hw) (Nat.succ_le_of_lt (Nat.succ_pos _)) M M (Kh M)) (fun i50=>?_);refine Za M M<|zS<|zH<|zV<|zX<|Z8r 1 2 3 4 23 24 32 40 M<|Zm M M ?_
 refine ZF M (wG 0 M M) ?_
 refine ZF M (Zb [.string ⟨#[]⟩,.int .i64 0] [(0,1),(1,1)] M)<|ZR 1 M<|ZT<|zK<|yS M M 1 M Tryz.underlying70 M (by kernel_rfl) fun w hw=>⟨rfl,(Kk hw).ext⟩
theorem rencode_5 (i:KI) (hi:i.imm<4294967296) (hr:0≤i.d∧i.d≤7∧0≤i.s∧i.s≤7∧-1≤i.index∧i.index≤7∧0≤i.scale∧i.scale≤3) (hv:wW i=true) (hf:fmN i.op=5) (w_0:World):Calls Tryz.prog 31 #[.agg (kiC i).toArray] w_0 fun e w'=>e=.returned (.agg #[.string ⟨(rbK 5 i).toArray⟩,.int .i64 0])∧Ext w_0 w':=by
 obtain⟨d0,d1,s0,s1,x0,x1,c0,c1⟩:=hr;have hfm:=fun w=>vM i.op w;rw[hf] at hfm;have q1:IntKind.i64.wrap (16*i.d)=16*i.d:=rC (by omega) (by omega);have q2:IntKind.i64.wrap (16*i.d+i.s)=16*i.d+i.s:=rC (by omega) (by omega);refine zN (args:=[.agg (kiC i).toArray]) Tryz.func31 M 112 M (Kh M)<|Z1 0 M<|Z0<|zX<|zZ<|zA .none M (yQ M M) fun b1=>Zt (z:=.agg #[.string ⟨#[]⟩,.int .i64 0]) (cs:=Jt) M fun b2=>ZX<|zX<|zZ<|ZF M (Zo 1 M U35 M)<|Zu (v:=.bool true) M (fun w hw=>(vX i hi w).mono fun e w' ⟨h1,h2⟩=>⟨by rw[h1,hv],h2⟩) ?_;refine ZF M (xO M)<|ZT<|zT M (fun h8=>?_) (fun h8=>?_)
 ·cases h8
 skip;refine zR<|zV<|zX<|Z4r 0 1 2 8 M<|ZF M (Y35x0 M) ?_;refine Zl 1 M U3 M<|ZF M (Zc M U5 (vT i.op))<|Zs (z:=.int .u8 0) M U53 fun b13=>Za M M<|ZT<|zB (ι:=Unit) (fun _=>[(1,Jx b1),(2,Jx b2),(3,.slice (some ⟨b13,0,none⟩) ([lowB i.op]:Bs).length 1),(4,.int .u8 (vW i).toNat)]) (fun _=>Jy w_0 [(b2,bk 70 [.string ⟨#[]⟩,.int .i64 0]),(b1,kiO i)] [rwG b13 1 [lowB i.op]] (fun _=>True)) ?_ (fun _=>?_)
 ·refine Z5r 0 1 2 3 8 M<|ZF M (Y35x1 M) ?_;refine Zl 2 M U3 M<|ZF M (vE M M q1)<|ZF M (Y35x2 M) ?_;refine Zl 2 M U3 M<|ZF M (zF M M q2)<|ZF M (Zc M U5 (vT (16*i.d+i.s)))<|Za M M<|zS ?_;exact zU (ι:=Unit) () (O4 M) (fun w h=>Hp.toRow h (HpG.mineL (j:=0) h M fun h=>h) M cp11.2)
 skip;refine zX<|zX<|zZ<|ZF M (Y35x0 M) ?_;refine Zl 1 M U3 M<|Zu (v:=.int .i64 (5:Nat)) M (fun w hw=>hfm w)<|ZT<|zJ<|zX<|Z5r 1 2 3 4 23 M<|Ze M<|Za M M<|ZT<|zD M<|zX<|zX<|Z6r 1 2 3 4 23 24 M<|Ze M<|Za M M<|ZT<|zD M<|zX<|Z7r 1 2 3 4 23 24 32 M<|Ze M<|Za M M<|ZT<|zD M<|Z7r 1 2 3 4 23 24 32 M<|Ze M<|Za M M<|ZT<|zD M<|zX<|Z7r 1 2 3 4 23 24 32 M<|Ze M ?_;refine Za M M<|ZT<|zD M<|zX<|Z8r 1 2 3 4 23 24 32 40 M<|Ze M<|Za M M<|ZT<|wY M<|Z9 1 2 3 4 23 24 32 40 51 M<|oD [0,1,2,3,4,5,6,7,8,9,10] (Blk b1 (kiO i)) (by kernel_rfl) (by kernel_rfl) Blk.stab (fun w h=>HpG.blk h (k:=1) M) (fun n0 hn0=>?_);refine Zd M M M (yW M)<|Zd M M M (Y35x1 M) ?_;refine Zd M M M (zL (v:=.int .i64 i.d) M U3 M (fun w hw=>Blk.cell hw M))<|Zd M M M (Zc M U5 (vT i.d))<|vP M<|wd_newH ?_ .none M (fun k hk=>Kr hk hn0) (nf_bs1 (z:=.int .u8 0) M M U53 (by kernel_rfl) (by kernel_rfl) M M) (fun b57 hb57=>?_);rfl;refine vP M<|wd_appBs (l:=[lowB i.op]) (c:=[lowB i.d]) 0 M (fun w hw=>uA (j:=0) M hw) (Nat.succ_le_of_lt (Nat.succ_pos _)) .none M  M M (Kh M) (fun w w' hw hj hK=>blk_row hw (i:=2) (k:=0) M M hj hK) (fun i1 N1=>?_);refine Zd M M M (Y35x5 M) ?_;refine Zd M M M (zL (v:=.int .u32 i.imm) M U22 M (fun w hw=>Blk.cell hw M))<|vP M<|qC (ι:=Nat) (C:=fun _=>True) (val:=fun g=>.slice (some ⟨g,0,none⟩) 4 4) (TT:=fun g F=>RdF F (some ⟨g,0,none⟩) (Lib.byteCells (wS i.imm 4))) .none M  (by kernel_rfl) M (fun _ h=>h.elim) (fun _=>RdF.lies) (fun _ _ h hx=>Blk.onE h hx) (fun w hw=>four_any i.imm hi w) (fun g F _ hF=>?_);refine vP M<|wd_appBs (l:=[lowB i.op]++[lowB i.d]) (c:=wS i.imm 4) 0 M (fun w hw=>rdf_read (HpG.x hw).1) (Nat.succ_le_of_lt (Nat.succ_pos _)) .none M  M M (Kh M) (fun w w' hw hj hK=>blk_row hw (i:=2) (k:=0) M M hj hK) (fun i2 N2=>?_);refine Zd M M M (wD M)<|qQ<|zH<|zV<|zX<|Z9r 1 2 3 4 23 24 32 40 51 M<|Zm M M ?_
 refine ZF M (wG 0 M M) ?_
 refine ZF M (Zb [.string ⟨#[]⟩,.int .i64 0] [(0,1),(1,1)] M)<|ZR 1 M<|ZT<|zK<|yS M M 1 M Tryz.underlying70 M (by kernel_rfl) fun w hw=>⟨rfl,(Kk hw).ext⟩
theorem rencode_6 (i:KI) (hi:i.imm<4294967296) (hr:0≤i.d∧i.d≤7∧0≤i.s∧i.s≤7∧-1≤i.index∧i.index≤7∧0≤i.scale∧i.scale≤3) (hv:wW i=true) (hf:fmN i.op=6) (w_0:World):Calls Tryz.prog 31 #[.agg (kiC i).toArray] w_0 fun e w'=>e=.returned (.agg #[.string ⟨(rbK 6 i).toArray⟩,.int .i64 0])∧Ext w_0 w':=by
 obtain⟨d0,d1,s0,s1,x0,x1,c0,c1⟩:=hr;have hfm:=fun w=>vM i.op w;rw[hf] at hfm;have q1:IntKind.i64.wrap (16*i.d)=16*i.d:=rC (by omega) (by omega);have q2:IntKind.i64.wrap (16*i.d+i.s)=16*i.d+i.s:=rC (by omega) (by omega);refine zN (args:=[.agg (kiC i).toArray]) Tryz.func31 M 112 M (Kh M)<|Z1 0 M<|Z0<|zX<|zZ<|zA .none M (yQ M M) fun b1=>Zt (z:=.agg #[.string ⟨#[]⟩,.int .i64 0]) (cs:=Jt) M fun b2=>ZX<|zX<|zZ<|ZF M (Zo 1 M U35 M)<|Zu (v:=.bool true) M (fun w hw=>(vX i hi w).mono fun e w' ⟨h1,h2⟩=>⟨by rw[h1,hv],h2⟩) ?_;refine ZF M (xO M)<|ZT<|zT M (fun h8=>?_) (fun h8=>?_)
 ·cases h8
 skip;refine zR<|zV<|zX<|Z4r 0 1 2 8 M<|ZF M (Y35x0 M) ?_;refine Zl 1 M U3 M<|ZF M (Zc M U5 (vT i.op))<|Zs (z:=.int .u8 0) M U53 fun b13=>Za M M<|ZT<|zB (ι:=Unit) (fun _=>[(1,Jx b1),(2,Jx b2),(3,.slice (some ⟨b13,0,none⟩) ([lowB i.op]:Bs).length 1),(4,.int .u8 (vW i).toNat)]) (fun _=>Jy w_0 [(b2,bk 70 [.string ⟨#[]⟩,.int .i64 0]),(b1,kiO i)] [rwG b13 1 [lowB i.op]] (fun _=>True)) ?_ (fun _=>?_)
 ·refine Z5r 0 1 2 3 8 M<|ZF M (Y35x1 M) ?_;refine Zl 2 M U3 M<|ZF M (vE M M q1)<|ZF M (Y35x2 M) ?_;refine Zl 2 M U3 M<|ZF M (zF M M q2)<|ZF M (Zc M U5 (vT (16*i.d+i.s)))<|Za M M<|zS ?_;exact zU (ι:=Unit) () (O4 M) (fun w h=>Hp.toRow h (HpG.mineL (j:=0) h M fun h=>h) M cp11.2)
 skip;refine zX<|zX<|zZ<|ZF M (Y35x0 M) ?_;refine Zl 1 M U3 M<|Zu (v:=.int .i64 (6:Nat)) M (fun w hw=>hfm w)<|ZT<|zJ<|zX<|Z5r 1 2 3 4 23 M<|Ze M<|Za M M<|ZT<|zD M<|zX<|zX<|Z6r 1 2 3 4 23 24 M<|Ze M<|Za M M<|ZT<|zD M<|zX<|Z7r 1 2 3 4 23 24 32 M<|Ze M<|Za M M<|ZT<|zD M<|Z7r 1 2 3 4 23 24 32 M<|Ze M<|Za M M<|ZT<|zD M<|zX<|Z7r 1 2 3 4 23 24 32 M<|Ze M ?_;refine Za M M<|ZT<|zD M<|zX<|Z8r 1 2 3 4 23 24 32 40 M<|Ze M<|Za M M<|ZT<|zD M<|zX<|Z9r 1 2 3 4 23 24 32 40 51 M<|Ze M<|Za M M<|ZT<|wY M<|Z10r 1 2 3 4 23 24 32 40 51 63 M<|Zm M M<|Zm M M<|ZF M (Y35x5 M) ?_;refine Zl 1 M U22 M<|ZF M (Zc M U5 (low8 i.imm))<|zA .none M (pU (z:=.int .u8 0) M M M M U53 (by kernel_rfl) (by kernel_rfl) M M M) fun b70=>xY (ι:=Nat×Nat) (val:=fun q=>.slice (some ⟨q.1,0,none⟩) ([lowB i.op]++[vW i,byL (i.imm%256)]).length q.2) (H':=fun q=>Jy w_0 [(b70,bk 5 (Lib.byteCells [vW i,byL (i.imm%256)])),(b2,bk 70 [.string ⟨#[]⟩,.int .i64 0]),(b1,kiO i)] [rwG q.1 q.2 ([lowB i.op]++[vW i,byL (i.imm%256)])] (fun _=>True)) .none M  (tM (c:=[vW i,byL (i.imm%256)]) 0 M (fun w hw=>uA (j:=0) M hw) (Nat.succ_le_of_lt (Nat.succ_pos _)) M M (Kh M)) (fun i71=>?_);refine Za M M<|zS<|zH<|zV<|zX<|Z10r 1 2 3 4 23 24 32 40 51 63 M<|Zm M M ?_
 refine ZF M (wG 0 M M) ?_
 refine ZF M (Zb [.string ⟨#[]⟩,.int .i64 0] [(0,1),(1,1)] M)<|ZR 1 M<|ZT<|zK<|yS M M 1 M Tryz.underlying70 M (by kernel_rfl) fun w hw=>⟨rfl,(Kk hw).ext⟩
theorem rencode_7 (i:KI) (hi:i.imm<4294967296) (hr:0≤i.d∧i.d≤7∧0≤i.s∧i.s≤7∧-1≤i.index∧i.index≤7∧0≤i.scale∧i.scale≤3) (hv:wW i=true) (hf:fmN i.op=7) (w_0:World):Calls Tryz.prog 31 #[.agg (kiC i).toArray] w_0 fun e w'=>e=.returned (.agg #[.string ⟨(rbK 7 i).toArray⟩,.int .i64 0])∧Ext w_0 w':=by
 obtain⟨d0,d1,s0,s1,x0,x1,c0,c1⟩:=hr;have hfm:=fun w=>vM i.op w;rw[hf] at hfm;have q1:IntKind.i64.wrap (16*i.d)=16*i.d:=rC (by omega) (by omega);have q2:IntKind.i64.wrap (16*i.d+i.s)=16*i.d+i.s:=rC (by omega) (by omega);refine zN (args:=[.agg (kiC i).toArray]) Tryz.func31 M 112 M (Kh M)<|Z1 0 M<|Z0<|zX<|zZ<|zA .none M (yQ M M) fun b1=>Zt (z:=.agg #[.string ⟨#[]⟩,.int .i64 0]) (cs:=Jt) M fun b2=>ZX<|zX<|zZ<|ZF M (Zo 1 M U35 M)<|Zu (v:=.bool true) M (fun w hw=>(vX i hi w).mono fun e w' ⟨h1,h2⟩=>⟨by rw[h1,hv],h2⟩) ?_;refine ZF M (xO M)<|ZT<|zT M (fun h8=>?_) (fun h8=>?_)
 ·cases h8
 skip;refine zR<|zV<|zX<|Z4r 0 1 2 8 M<|ZF M (Y35x0 M) ?_;refine Zl 1 M U3 M<|ZF M (Zc M U5 (vT i.op))<|Zs (z:=.int .u8 0) M U53 fun b13=>Za M M<|ZT<|zB (ι:=Unit) (fun _=>[(1,Jx b1),(2,Jx b2),(3,.slice (some ⟨b13,0,none⟩) ([lowB i.op]:Bs).length 1),(4,.int .u8 (vW i).toNat)]) (fun _=>Jy w_0 [(b2,bk 70 [.string ⟨#[]⟩,.int .i64 0]),(b1,kiO i)] [rwG b13 1 [lowB i.op]] (fun _=>True)) ?_ (fun _=>?_)
 ·refine Z5r 0 1 2 3 8 M<|ZF M (Y35x1 M) ?_;refine Zl 2 M U3 M<|ZF M (vE M M q1)<|ZF M (Y35x2 M) ?_;refine Zl 2 M U3 M<|ZF M (zF M M q2)<|ZF M (Zc M U5 (vT (16*i.d+i.s)))<|Za M M<|zS ?_;exact zU (ι:=Unit) () (O4 M) (fun w h=>Hp.toRow h (HpG.mineL (j:=0) h M fun h=>h) M cp11.2)
 skip;refine zX<|zX<|zZ<|ZF M (Y35x0 M) ?_;refine Zl 1 M U3 M<|Zu (v:=.int .i64 (7:Nat)) M (fun w hw=>hfm w)<|ZT<|zJ<|zX<|Z5r 1 2 3 4 23 M<|Ze M<|Za M M<|ZT<|zD M<|zX<|zX<|Z6r 1 2 3 4 23 24 M<|Ze M<|Za M M<|ZT<|zD M<|zX<|Z7r 1 2 3 4 23 24 32 M<|Ze M<|Za M M<|ZT<|zD M<|Z7r 1 2 3 4 23 24 32 M<|Ze M<|Za M M<|ZT<|zD M<|zX<|Z7r 1 2 3 4 23 24 32 M<|Ze M ?_;refine Za M M<|ZT<|zD M<|zX<|Z8r 1 2 3 4 23 24 32 40 M<|Ze M<|Za M M<|ZT<|zD M<|zX<|Z9r 1 2 3 4 23 24 32 40 51 M<|Ze M<|Za M M<|ZT<|zD M<|zX<|Z10r 1 2 3 4 23 24 32 40 51 63 M<|Ze M<|Za M M<|ZT<|wY M<|zX<|Z11r 1 2 3 4 23 24 32 40 51 63 72 M<|Za M M<|ZT<|zB (ι:=Unit) (fun _=>[(1,Jx b1),(2,Jx b2),(3,.slice (some ⟨b13,0,none⟩) ([lowB i.op]:Bs).length 1),(4,.int .u8 (vW i).toNat),(5,.int .u8 (idxB i).toNat)]) (fun _=>Jy w_0 [(b2,bk 70 [.string ⟨#[]⟩,.int .i64 0]),(b1,kiO i)] [rwG b13 1 [lowB i.op]] (fun _=>True)) ?_ (fun _=>?_)
 ·refine zX<|zZ<|ZF M (Y35x3 M) ?_;refine Zl 1 M U3 M<|ZF M (yC M M)<|ZT<|zT M (fun h76=>?_) (fun h76=>?_)
  ·replace h76:=Ki h76;refine Z13r 1 2 3 4 5 23 24 32 40 51 63 72 76 M<|ZF M (Y35x3 M) ?_;refine Zl 1 M U3 M<|ZF M (Y35x4 M) ?_;refine Zl 1 M U3 M<|ZF M (vE M M (rC (z:=16*i.scale) (by omega) (by omega)))<|ZF M (zF M M (rC (z:=i.index+16*i.scale) (by omega) (by omega)))<|ZF M (Zc M U5 (vT (i.index+16*i.scale)))<|Za M M<|zS ?_;exact zU (ι:=Unit) () (.cons M<|.cons M<|.cons M<|.cons M<|.consE M (by unfold idxB;rw[Ah h76])<|.nil) Jz
  replace h76:=Kj h76;refine zR ?_;exact zU (ι:=Unit) () (.cons M<|.cons M<|.cons M<|.cons M<|.consE M (by unfold idxB;rw[Ag h76];rfl)<|.nil) Jz
 skip;refine oD [0,1,2,3,4,5,6,7,8,9] (Blk b1 (kiO i)) (by kernel_rfl) (by kernel_rfl) Blk.stab (fun w h=>HpG.blk h (k:=1) M) (fun n0 hn0=>?_);refine Zd M M M (yW M)<|Zd M M M (yW M)<|Zd M M M (yW M)<|vP M<|wd_newH ?_ .none M (fun k hk=>Kr hk hn0) (pU (z:=.int .u8 0) M M M M U53 (by kernel_rfl) (by kernel_rfl) M M M) (fun b87 hb87=>?_);rfl;refine vP M<|wd_appBs (l:=[lowB i.op]) (c:=[vW i,idxB i]) 0 M (fun w hw=>uA (j:=0) M hw) (Nat.succ_le_of_lt (Nat.succ_pos _)) .none M  M M (Kh M) (fun w w' hw hj hK=>blk_row hw (i:=2) (k:=0) M M hj hK) (fun i1 N1=>?_);refine Zd M M M (Y35x5 M) ?_;refine Zd M M M (zL (v:=.int .u32 i.imm) M U22 M (fun w hw=>Blk.cell hw M))<|vP M<|qC (ι:=Nat) (C:=fun _=>True) (val:=fun g=>.slice (some ⟨g,0,none⟩) 4 4) (TT:=fun g F=>RdF F (some ⟨g,0,none⟩) (Lib.byteCells (wS i.imm 4))) .none M  (by kernel_rfl) M (fun _ h=>h.elim) (fun _=>RdF.lies) (fun _ _ h hx=>Blk.onE h hx) (fun w hw=>four_any i.imm hi w) (fun g F _ hF=>?_);refine vP M<|wd_appBs (l:=[lowB i.op]++[vW i,idxB i]) (c:=wS i.imm 4) 0 M (fun w hw=>rdf_read (HpG.x hw).1) (Nat.succ_le_of_lt (Nat.succ_pos _)) .none M  M M (Kh M) (fun w w' hw hj hK=>blk_row hw (i:=2) (k:=0) M M hj hK) (fun i2 N2=>?_);refine Zd M M M (wD M)<|qQ<|zH<|zV<|zX<|Z5r 1 2 3 4 5 M<|Zm M M ?_
 refine ZF M (wG 0 M M) ?_
 refine ZF M (Zb [.string ⟨#[]⟩,.int .i64 0] [(0,1),(1,1)] M)<|ZR 1 M<|ZT<|zK<|yS M M 1 M Tryz.underlying70 M (by kernel_rfl) fun w hw=>⟨rfl,(Kk hw).ext⟩
theorem rencode_8 (i:KI) (hi:i.imm<4294967296) (hr:0≤i.d∧i.d≤7∧0≤i.s∧i.s≤7∧-1≤i.index∧i.index≤7∧0≤i.scale∧i.scale≤3) (hv:wW i=true) (hf:fmN i.op=8) (w_0:World):Calls Tryz.prog 31 #[.agg (kiC i).toArray] w_0 fun e w'=>e=.returned (.agg #[.string ⟨(rbK 8 i).toArray⟩,.int .i64 0])∧Ext w_0 w':=by
 obtain⟨d0,d1,s0,s1,x0,x1,c0,c1⟩:=hr;have hfm:=fun w=>vM i.op w;rw[hf] at hfm;have q1:IntKind.i64.wrap (16*i.d)=16*i.d:=rC (by omega) (by omega);have q2:IntKind.i64.wrap (16*i.d+i.s)=16*i.d+i.s:=rC (by omega) (by omega);refine zN (args:=[.agg (kiC i).toArray]) Tryz.func31 M 112 M (Kh M)<|Z1 0 M<|Z0<|zX<|zZ<|zA .none M (yQ M M) fun b1=>Zt (z:=.agg #[.string ⟨#[]⟩,.int .i64 0]) (cs:=Jt) M fun b2=>ZX<|zX<|zZ<|ZF M (Zo 1 M U35 M)<|Zu (v:=.bool true) M (fun w hw=>(vX i hi w).mono fun e w' ⟨h1,h2⟩=>⟨by rw[h1,hv],h2⟩) ?_;refine ZF M (xO M)<|ZT<|zT M (fun h8=>?_) (fun h8=>?_)
 ·cases h8
 skip;refine zR<|zV<|zX<|Z4r 0 1 2 8 M<|ZF M (Y35x0 M) ?_;refine Zl 1 M U3 M<|ZF M (Zc M U5 (vT i.op))<|Zs (z:=.int .u8 0) M U53 fun b13=>Za M M<|ZT<|zB (ι:=Unit) (fun _=>[(1,Jx b1),(2,Jx b2),(3,.slice (some ⟨b13,0,none⟩) ([lowB i.op]:Bs).length 1),(4,.int .u8 (vW i).toNat)]) (fun _=>Jy w_0 [(b2,bk 70 [.string ⟨#[]⟩,.int .i64 0]),(b1,kiO i)] [rwG b13 1 [lowB i.op]] (fun _=>True)) ?_ (fun _=>?_)
 ·refine Z5r 0 1 2 3 8 M<|ZF M (Y35x1 M) ?_;refine Zl 2 M U3 M<|ZF M (vE M M q1)<|ZF M (Y35x2 M) ?_;refine Zl 2 M U3 M<|ZF M (zF M M q2)<|ZF M (Zc M U5 (vT (16*i.d+i.s)))<|Za M M<|zS ?_;exact zU (ι:=Unit) () (O4 M) (fun w h=>Hp.toRow h (HpG.mineL (j:=0) h M fun h=>h) M cp11.2)
 skip;refine zX<|zX<|zZ<|ZF M (Y35x0 M) ?_;refine Zl 1 M U3 M<|Zu (v:=.int .i64 (8:Nat)) M (fun w hw=>hfm w)<|ZT<|zJ<|zX<|Z5r 1 2 3 4 23 M<|Ze M<|Za M M<|ZT<|zD M<|zX<|zX<|Z6r 1 2 3 4 23 24 M<|Ze M<|Za M M<|ZT<|zD M<|zX<|Z7r 1 2 3 4 23 24 32 M<|Ze M<|Za M M<|ZT<|zD M<|Z7r 1 2 3 4 23 24 32 M<|Ze M<|Za M M<|ZT<|zD M<|zX<|Z7r 1 2 3 4 23 24 32 M<|Ze M ?_;refine Za M M<|ZT<|zD M<|zX<|Z8r 1 2 3 4 23 24 32 40 M<|Ze M<|Za M M<|ZT<|zD M<|zX<|Z9r 1 2 3 4 23 24 32 40 51 M<|Ze M<|Za M M<|ZT<|zD M<|zX<|Z10r 1 2 3 4 23 24 32 40 51 63 M<|Ze M<|Za M M<|ZT<|zD M<|zX<|zX<|Z11r 1 2 3 4 23 24 32 40 51 63 72 M<|Ze M<|Za M M<|ZT<|wY M<|zR<|zV<|wY M ?_;refine Z12r 1 2 3 4 23 24 32 40 51 63 72 93 M<|Zm M M<|ZF M (Y35x5 M) ?_;refine Zl 1 M U22 M<|ZF M (Zc M U5 (low8 i.imm))<|Zs (z:=.int .u8 0) M U53 fun b100=>xY (ι:=Nat×Nat) (val:=fun q=>.slice (some ⟨q.1,0,none⟩) ([lowB i.op]++[byL (i.imm%256)]).length q.2) (H':=fun q=>Jy w_0 [(b100,bk 5 (Lib.byteCells [byL (i.imm%256)])),(b2,bk 70 [.string ⟨#[]⟩,.int .i64 0]),(b1,kiO i)] [rwG q.1 q.2 ([lowB i.op]++[byL (i.imm%256)])] (fun _=>True)) .none M  (tM (c:=[byL (i.imm%256)]) 0 M (fun w hw=>uA (j:=0) M hw) (Nat.succ_le_of_lt (Nat.succ_pos _)) M M (Kh M)) (fun i101=>?_);refine Za M M<|zS<|zH<|zV<|zX<|Z12r 1 2 3 4 23 24 32 40 51 63 72 93 M<|Zm M M ?_
 refine ZF M (wG 0 M M) ?_
 refine ZF M (Zb [.string ⟨#[]⟩,.int .i64 0] [(0,1),(1,1)] M)<|ZR 1 M<|ZT<|zK<|yS M M 1 M Tryz.underlying70 M (by kernel_rfl) fun w hw=>⟨rfl,(Kk hw).ext⟩
theorem rencode_9 (i:KI) (hi:i.imm<4294967296) (hr:0≤i.d∧i.d≤7∧0≤i.s∧i.s≤7∧-1≤i.index∧i.index≤7∧0≤i.scale∧i.scale≤3) (hv:wW i=true) (hf:fmN i.op=9) (w_0:World):Calls Tryz.prog 31 #[.agg (kiC i).toArray] w_0 fun e w'=>e=.returned (.agg #[.string ⟨(rbK 9 i).toArray⟩,.int .i64 0])∧Ext w_0 w':=by
 obtain⟨d0,d1,s0,s1,x0,x1,c0,c1⟩:=hr;have hfm:=fun w=>vM i.op w;rw[hf] at hfm;have q1:IntKind.i64.wrap (16*i.d)=16*i.d:=rC (by omega) (by omega);have q2:IntKind.i64.wrap (16*i.d+i.s)=16*i.d+i.s:=rC (by omega) (by omega);refine zN (args:=[.agg (kiC i).toArray]) Tryz.func31 M 112 M (Kh M)<|Z1 0 M<|Z0<|zX<|zZ<|zA .none M (yQ M M) fun b1=>Zt (z:=.agg #[.string ⟨#[]⟩,.int .i64 0]) (cs:=Jt) M fun b2=>ZX<|zX<|zZ<|ZF M (Zo 1 M U35 M)<|Zu (v:=.bool true) M (fun w hw=>(vX i hi w).mono fun e w' ⟨h1,h2⟩=>⟨by rw[h1,hv],h2⟩) ?_;refine ZF M (xO M)<|ZT<|zT M (fun h8=>?_) (fun h8=>?_)
 ·cases h8
 skip;refine zR<|zV<|zX<|Z4r 0 1 2 8 M<|ZF M (Y35x0 M) ?_;refine Zl 1 M U3 M<|ZF M (Zc M U5 (vT i.op))<|Zs (z:=.int .u8 0) M U53 fun b13=>Za M M<|ZT<|zB (ι:=Unit) (fun _=>[(1,Jx b1),(2,Jx b2),(3,.slice (some ⟨b13,0,none⟩) ([lowB i.op]:Bs).length 1),(4,.int .u8 (vW i).toNat)]) (fun _=>Jy w_0 [(b2,bk 70 [.string ⟨#[]⟩,.int .i64 0]),(b1,kiO i)] [rwG b13 1 [lowB i.op]] (fun _=>True)) ?_ (fun _=>?_)
 ·refine Z5r 0 1 2 3 8 M<|ZF M (Y35x1 M) ?_;refine Zl 2 M U3 M<|ZF M (vE M M q1)<|ZF M (Y35x2 M) ?_;refine Zl 2 M U3 M<|ZF M (zF M M q2)<|ZF M (Zc M U5 (vT (16*i.d+i.s)))<|Za M M<|zS ?_;exact zU (ι:=Unit) () (O4 M) (fun w h=>Hp.toRow h (HpG.mineL (j:=0) h M fun h=>h) M cp11.2)
 skip;refine zX<|zX<|zZ<|ZF M (Y35x0 M) ?_;refine Zl 1 M U3 M<|Zu (v:=.int .i64 (9:Nat)) M (fun w hw=>hfm w)<|ZT<|zJ<|zX<|Z5r 1 2 3 4 23 M<|Ze M<|Za M M<|ZT<|zD M<|zX<|zX<|Z6r 1 2 3 4 23 24 M<|Ze M<|Za M M<|ZT<|zD M<|zX<|Z7r 1 2 3 4 23 24 32 M<|Ze M<|Za M M<|ZT<|zD M<|Z7r 1 2 3 4 23 24 32 M<|Ze M<|Za M M<|ZT<|zD M<|zX<|Z7r 1 2 3 4 23 24 32 M<|Ze M ?_;refine Za M M<|ZT<|zD M<|zX<|Z8r 1 2 3 4 23 24 32 40 M<|Ze M<|Za M M<|ZT<|zD M<|zX<|Z9r 1 2 3 4 23 24 32 40 51 M<|Ze M<|Za M M<|ZT<|zD M<|zX<|Z10r 1 2 3 4 23 24 32 40 51 63 M<|Ze M<|Za M M<|ZT<|zD M<|zX<|zX<|Z11r 1 2 3 4 23 24 32 40 51 63 72 M<|Ze M<|Za M M<|ZT<|zD M<|Z12r 1 2 3 4 23 24 32 40 51 63 72 93 M<|Ze M<|Za M M ?_;refine ZT<|zD M<|zX<|Z12r 1 2 3 4 23 24 32 40 51 63 72 93 M<|Ze M<|Za M M<|ZT<|wY M<|Z13r 1 2 3 4 23 24 32 40 51 63 72 93 102 M<|Zm M M<|ZF M (Y35x5 M) ?_;refine Zl 1 M U22 M<|yI (ι:=Nat) (C:=fun _=>True) (val:=fun g=>.slice (some ⟨g,0,none⟩) 4 4) (TT:=fun g F=>RdF F (some ⟨g,0,none⟩) (Lib.byteCells (wS i.imm 4))) .none M  (by kernel_rfl) M (fun _ h=>h.elim) (fun _=>RdF.lies) (fun w hw=>four_any i.imm hi w) (fun g F _ hF=>?_);refine xY (ι:=Nat×Nat) (val:=fun q=>.slice (some ⟨q.1,0,none⟩) ([lowB i.op]++wS i.imm 4).length q.2) (H':=fun q=>Jy w_0 [(b2,bk 70 [.string ⟨#[]⟩,.int .i64 0]),(b1,kiO i)] [rwG q.1 q.2 ([lowB i.op]++wS i.imm 4)] (fun u=>RdF F (some ⟨g,0,none⟩) (Lib.byteCells (wS i.imm 4)) u∧True)) .none M  (tM (c:=wS i.imm 4) 0 M (fun w hw=>rdf_read (HpG.x hw).1) (Nat.succ_le_of_lt (Nat.succ_pos _)) M M (Kh M)) (fun i108=>?_);refine Za M M<|zS<|zH<|zV<|zX<|Z13r 1 2 3 4 23 24 32 40 51 63 72 93 102 M<|Zm M M ?_
 refine ZF M (wG 0 M M) ?_
 refine ZF M (Zb [.string ⟨#[]⟩,.int .i64 0] [(0,1),(1,1)] M)<|ZR 0 M<|ZT<|zK<|yS M M 0 M Tryz.underlying70 M (by kernel_rfl) fun w hw=>⟨rfl,(Kk hw).ext⟩
theorem rencode_10 (i:KI) (hi:i.imm<4294967296) (hr:0≤i.d∧i.d≤7∧0≤i.s∧i.s≤7∧-1≤i.index∧i.index≤7∧0≤i.scale∧i.scale≤3) (hv:wW i=true) (hf:fmN i.op=10) (w_0:World):Calls Tryz.prog 31 #[.agg (kiC i).toArray] w_0 fun e w'=>e=.returned (.agg #[.string ⟨(rbK 10 i).toArray⟩,.int .i64 0])∧Ext w_0 w':=by
 obtain⟨d0,d1,s0,s1,x0,x1,c0,c1⟩:=hr;have hfm:=fun w=>vM i.op w;rw[hf] at hfm;have q1:IntKind.i64.wrap (16*i.d)=16*i.d:=rC (by omega) (by omega);have q2:IntKind.i64.wrap (16*i.d+i.s)=16*i.d+i.s:=rC (by omega) (by omega);refine zN (args:=[.agg (kiC i).toArray]) Tryz.func31 M 112 M (Kh M)<|Z1 0 M<|Z0<|zX<|zZ<|zA .none M (yQ M M) fun b1=>Zt (z:=.agg #[.string ⟨#[]⟩,.int .i64 0]) (cs:=Jt) M fun b2=>ZX<|zX<|zZ<|ZF M (Zo 1 M U35 M)<|Zu (v:=.bool true) M (fun w hw=>(vX i hi w).mono fun e w' ⟨h1,h2⟩=>⟨by rw[h1,hv],h2⟩) ?_;refine ZF M (xO M)<|ZT<|zT M (fun h8=>?_) (fun h8=>?_)
 ·cases h8
 skip;refine zR<|zV<|zX<|Z4r 0 1 2 8 M<|ZF M (Y35x0 M) ?_;refine Zl 1 M U3 M<|ZF M (Zc M U5 (vT i.op))<|Zs (z:=.int .u8 0) M U53 fun b13=>Za M M<|ZT<|zB (ι:=Unit) (fun _=>[(1,Jx b1),(2,Jx b2),(3,.slice (some ⟨b13,0,none⟩) ([lowB i.op]:Bs).length 1),(4,.int .u8 (vW i).toNat)]) (fun _=>Jy w_0 [(b2,bk 70 [.string ⟨#[]⟩,.int .i64 0]),(b1,kiO i)] [rwG b13 1 [lowB i.op]] (fun _=>True)) ?_ (fun _=>?_)
 ·refine Z5r 0 1 2 3 8 M<|ZF M (Y35x1 M) ?_;refine Zl 2 M U3 M<|ZF M (vE M M q1)<|ZF M (Y35x2 M) ?_;refine Zl 2 M U3 M<|ZF M (zF M M q2)<|ZF M (Zc M U5 (vT (16*i.d+i.s)))<|Za M M<|zS ?_;exact zU (ι:=Unit) () (O4 M) (fun w h=>Hp.toRow h (HpG.mineL (j:=0) h M fun h=>h) M cp11.2)
 skip;refine zX<|zX<|zZ<|ZF M (Y35x0 M) ?_;refine Zl 1 M U3 M<|Zu (v:=.int .i64 (10:Nat)) M (fun w hw=>hfm w)<|ZT<|zJ<|zX<|Z5r 1 2 3 4 23 M<|Ze M<|Za M M<|ZT<|zD M<|zX<|zX<|Z6r 1 2 3 4 23 24 M<|Ze M<|Za M M<|ZT<|zD M<|zX<|Z7r 1 2 3 4 23 24 32 M<|Ze M<|Za M M<|ZT<|zD M<|Z7r 1 2 3 4 23 24 32 M<|Ze M<|Za M M<|ZT<|zD M<|zX<|Z7r 1 2 3 4 23 24 32 M<|Ze M ?_;refine Za M M<|ZT<|zD M<|zX<|Z8r 1 2 3 4 23 24 32 40 M<|Ze M<|Za M M<|ZT<|zD M<|zX<|Z9r 1 2 3 4 23 24 32 40 51 M<|Ze M<|Za M M<|ZT<|zD M<|zX<|Z10r 1 2 3 4 23 24 32 40 51 63 M<|Ze M<|Za M M<|ZT<|zD M<|zX<|zX<|Z11r 1 2 3 4 23 24 32 40 51 63 72 M<|Ze M<|Za M M<|ZT<|zD M<|Z12r 1 2 3 4 23 24 32 40 51 63 72 93 M<|Ze M<|Za M M ?_;refine ZT<|wY M<|Z12r 1 2 3 4 23 24 32 40 51 63 72 93 M<|Zm M M<|ZF M (Y35x5 M) ?_;refine Zl 1 M U22 M<|ZF M (Zc M U5 (low8 i.imm))<|Zs (z:=.int .u8 0) M U53 fun b100=>xY (ι:=Nat×Nat) (val:=fun q=>.slice (some ⟨q.1,0,none⟩) ([lowB i.op]++[byL (i.imm%256)]).length q.2) (H':=fun q=>Jy w_0 [(b100,bk 5 (Lib.byteCells [byL (i.imm%256)])),(b2,bk 70 [.string ⟨#[]⟩,.int .i64 0]),(b1,kiO i)] [rwG q.1 q.2 ([lowB i.op]++[byL (i.imm%256)])] (fun _=>True)) .none M  (tM (c:=[byL (i.imm%256)]) 0 M (fun w hw=>uA (j:=0) M hw) (Nat.succ_le_of_lt (Nat.succ_pos _)) M M (Kh M)) (fun i101=>?_);refine Za M M<|zS<|zH<|zV<|zX<|Z12r 1 2 3 4 23 24 32 40 51 63 72 93 M<|Zm M M ?_
 refine ZF M (wG 0 M M) ?_
 refine ZF M (Zb [.string ⟨#[]⟩,.int .i64 0] [(0,1),(1,1)] M)<|ZR 1 M<|ZT<|zK<|yS M M 1 M Tryz.underlying70 M (by kernel_rfl) fun w hw=>⟨rfl,(Kk hw).ext⟩
theorem rencode_11 (i:KI) (hi:i.imm<4294967296) (hr:0≤i.d∧i.d≤7∧0≤i.s∧i.s≤7∧-1≤i.index∧i.index≤7∧0≤i.scale∧i.scale≤3) (hv:wW i=true) (hf:fmN i.op=11) (w_0:World):Calls Tryz.prog 31 #[.agg (kiC i).toArray] w_0 fun e w'=>e=.returned (.agg #[.string ⟨(rbK 11 i).toArray⟩,.int .i64 0])∧Ext w_0 w':=by
 obtain⟨d0,d1,s0,s1,x0,x1,c0,c1⟩:=hr;have hfm:=fun w=>vM i.op w;rw[hf] at hfm;have q1:IntKind.i64.wrap (16*i.d)=16*i.d:=rC (by omega) (by omega);have q2:IntKind.i64.wrap (16*i.d+i.s)=16*i.d+i.s:=rC (by omega) (by omega);refine zN (args:=[.agg (kiC i).toArray]) Tryz.func31 M 112 M (Kh M)<|Z1 0 M<|Z0<|zX<|zZ<|zA .none M (yQ M M) fun b1=>Zt (z:=.agg #[.string ⟨#[]⟩,.int .i64 0]) (cs:=Jt) M fun b2=>ZX<|zX<|zZ<|ZF M (Zo 1 M U35 M)<|Zu (v:=.bool true) M (fun w hw=>(vX i hi w).mono fun e w' ⟨h1,h2⟩=>⟨by rw[h1,hv],h2⟩) ?_;refine ZF M (xO M)<|ZT<|zT M (fun h8=>?_) (fun h8=>?_)
 ·cases h8
 skip;refine zR<|zV<|zX<|Z4r 0 1 2 8 M<|ZF M (Y35x0 M) ?_;refine Zl 1 M U3 M<|ZF M (Zc M U5 (vT i.op))<|Zs (z:=.int .u8 0) M U53 fun b13=>Za M M<|ZT<|zB (ι:=Unit) (fun _=>[(1,Jx b1),(2,Jx b2),(3,.slice (some ⟨b13,0,none⟩) ([lowB i.op]:Bs).length 1),(4,.int .u8 (vW i).toNat)]) (fun _=>Jy w_0 [(b2,bk 70 [.string ⟨#[]⟩,.int .i64 0]),(b1,kiO i)] [rwG b13 1 [lowB i.op]] (fun _=>True)) ?_ (fun _=>?_)
 ·refine Z5r 0 1 2 3 8 M<|ZF M (Y35x1 M) ?_;refine Zl 2 M U3 M<|ZF M (vE M M q1)<|ZF M (Y35x2 M) ?_;refine Zl 2 M U3 M<|ZF M (zF M M q2)<|ZF M (Zc M U5 (vT (16*i.d+i.s)))<|Za M M<|zS ?_;exact zU (ι:=Unit) () (O4 M) (fun w h=>Hp.toRow h (HpG.mineL (j:=0) h M fun h=>h) M cp11.2)
 skip;refine zX<|zX<|zZ<|ZF M (Y35x0 M) ?_;refine Zl 1 M U3 M<|Zu (v:=.int .i64 (11:Nat)) M (fun w hw=>hfm w)<|ZT<|zJ<|zX<|Z5r 1 2 3 4 23 M<|Ze M<|Za M M<|ZT<|zD M<|zX<|zX<|Z6r 1 2 3 4 23 24 M<|Ze M<|Za M M<|ZT<|zD M<|zX<|Z7r 1 2 3 4 23 24 32 M<|Ze M<|Za M M<|ZT<|wY M<|zR<|zV<|wY M<|Z7r 1 2 3 4 23 24 32 M<|Zm M M<|Zm M M<|Zs (z:=.int .u8 0) M U53 fun b38=>xY (ι:=Nat×Nat) (val:=fun q=>.slice (some ⟨q.1,0,none⟩) ([lowB i.op]++[vW i]).length q.2) (H':=fun q=>Jy w_0 [(b38,bk 5 (Lib.byteCells [vW i])),(b2,bk 70 [.string ⟨#[]⟩,.int .i64 0]),(b1,kiO i)] [rwG q.1 q.2 ([lowB i.op]++[vW i])] (fun _=>True)) .none M  (tM (c:=[vW i]) 0 M (fun w hw=>uA (j:=0) M hw) (Nat.succ_le_of_lt (Nat.succ_pos _)) M M (Kh M)) (fun i39=>?_);refine Za M M<|zS<|zH<|zV<|zX<|Z7r 1 2 3 4 23 24 32 M<|Zm M M ?_
 refine ZF M (wG 0 M M) ?_
 refine ZF M (Zb [.string ⟨#[]⟩,.int .i64 0] [(0,1),(1,1)] M)<|ZR 1 M<|ZT<|zK<|yS M M 1 M Tryz.underlying70 M (by kernel_rfl) fun w hw=>⟨rfl,(Kk hw).ext⟩
theorem rencode_12 (i:KI) (hi:i.imm<4294967296) (hr:0≤i.d∧i.d≤7∧0≤i.s∧i.s≤7∧-1≤i.index∧i.index≤7∧0≤i.scale∧i.scale≤3) (hv:wW i=true) (hf:fmN i.op=12) (w_0:World):Calls Tryz.prog 31 #[.agg (kiC i).toArray] w_0 fun e w'=>e=.returned (.agg #[.string ⟨(rbK 12 i).toArray⟩,.int .i64 0])∧Ext w_0 w':=by
 obtain⟨d0,d1,s0,s1,x0,x1,c0,c1⟩:=hr;have hfm:=fun w=>vM i.op w;rw[hf] at hfm;have q1:IntKind.i64.wrap (16*i.d)=16*i.d:=rC (by omega) (by omega);have q2:IntKind.i64.wrap (16*i.d+i.s)=16*i.d+i.s:=rC (by omega) (by omega);refine zN (args:=[.agg (kiC i).toArray]) Tryz.func31 M 112 M (Kh M)<|Z1 0 M<|Z0<|zX<|zZ<|zA .none M (yQ M M) fun b1=>Zt (z:=.agg #[.string ⟨#[]⟩,.int .i64 0]) (cs:=Jt) M fun b2=>ZX<|zX<|zZ<|ZF M (Zo 1 M U35 M)<|Zu (v:=.bool true) M (fun w hw=>(vX i hi w).mono fun e w' ⟨h1,h2⟩=>⟨by rw[h1,hv],h2⟩) ?_;refine ZF M (xO M)<|ZT<|zT M (fun h8=>?_) (fun h8=>?_)
 ·cases h8
 skip;refine zR<|zV<|zX<|Z4r 0 1 2 8 M<|ZF M (Y35x0 M) ?_;refine Zl 1 M U3 M<|ZF M (Zc M U5 (vT i.op))<|Zs (z:=.int .u8 0) M U53 fun b13=>Za M M<|ZT<|zB (ι:=Unit) (fun _=>[(1,Jx b1),(2,Jx b2),(3,.slice (some ⟨b13,0,none⟩) ([lowB i.op]:Bs).length 1),(4,.int .u8 (vW i).toNat)]) (fun _=>Jy w_0 [(b2,bk 70 [.string ⟨#[]⟩,.int .i64 0]),(b1,kiO i)] [rwG b13 1 [lowB i.op]] (fun _=>True)) ?_ (fun _=>?_)
 ·refine Z5r 0 1 2 3 8 M<|ZF M (Y35x1 M) ?_;refine Zl 2 M U3 M<|ZF M (vE M M q1)<|ZF M (Y35x2 M) ?_;refine Zl 2 M U3 M<|ZF M (zF M M q2)<|ZF M (Zc M U5 (vT (16*i.d+i.s)))<|Za M M<|zS ?_;exact zU (ι:=Unit) () (O4 M) (fun w h=>Hp.toRow h (HpG.mineL (j:=0) h M fun h=>h) M cp11.2)
 skip;refine zX<|zX<|zZ<|ZF M (Y35x0 M) ?_;refine Zl 1 M U3 M<|Zu (v:=.int .i64 (12:Nat)) M (fun w hw=>hfm w)<|ZT<|zJ<|zX<|Z5r 1 2 3 4 23 M<|Ze M<|Za M M<|ZT<|zD M<|zX<|zX<|Z6r 1 2 3 4 23 24 M<|Ze M<|Za M M<|ZT<|zD M<|zX<|Z7r 1 2 3 4 23 24 32 M<|Ze M<|Za M M<|ZT<|zD M<|Z7r 1 2 3 4 23 24 32 M<|Ze M<|Za M M<|ZT<|wY M<|Z7r 1 2 3 4 23 24 32 M<|Zm M M<|Zm M M ?_;refine Zs (z:=.int .u8 0) M U53 fun b38=>xY (ι:=Nat×Nat) (val:=fun q=>.slice (some ⟨q.1,0,none⟩) ([lowB i.op]++[vW i]).length q.2) (H':=fun q=>Jy w_0 [(b38,bk 5 (Lib.byteCells [vW i])),(b2,bk 70 [.string ⟨#[]⟩,.int .i64 0]),(b1,kiO i)] [rwG q.1 q.2 ([lowB i.op]++[vW i])] (fun _=>True)) .none M  (tM (c:=[vW i]) 0 M (fun w hw=>uA (j:=0) M hw) (Nat.succ_le_of_lt (Nat.succ_pos _)) M M (Kh M)) (fun i39=>?_);refine Za M M<|zS<|zH<|zV<|zX<|Z7r 1 2 3 4 23 24 32 M<|Zm M M ?_
 refine ZF M (wG 0 M M) ?_
 refine ZF M (Zb [.string ⟨#[]⟩,.int .i64 0] [(0,1),(1,1)] M)<|ZR 1 M<|ZT<|zK<|yS M M 1 M Tryz.underlying70 M (by kernel_rfl) fun w hw=>⟨rfl,(Kk hw).ext⟩
end Go.Proofs.YtkaepknpplhgkaaGreatDoor
namespace Go.Proofs.YtkaepknpplhgkaaGreatDoor
open Go.RowKit
theorem pair_eq {d s:Nat}(hs:s<16):lowB (Int.ofNat (((d:Int).toNat <<< 4) ||| (s:Int).toNat))=lowB (16*(d:Int)+(s:Int)):=by
 congr 1;rw[Int.toNat_natCast,Int.toNat_natCast,← Nat.shiftLeft_add_eq_or_of_lt (by omega),Nat.shiftLeft_eq];show ((d*2 ^ 4+s:Nat):Int)=_;omega
theorem l_of {op:Int}{z z':Nat}{l l':List Fld}(h1:pR op=some (z,l)) (h2:pR op=some (z',l')):l=l':=by
 rw[h1] at h2;cases h2;rfl
theorem rbK_enc {i:KI}(h:VK i):tW i=some (rbK (fmN i.op) i):=by
 obtain⟨l,h1,h2⟩:=enc_vk h;rw[h2];obtain⟨f0,f1,f2,f3,f4,f5,f6,f7,f8,f9,f10⟩:=fm_all
 cases h with
 | none k hk =>
  obtain rfl:=l_of h1 (vH f0 hk);rw[wK.1 (by dsimp only;omega)];rfl
 | reg k d hk hd =>
  obtain rfl:=l_of h1 (vH f1 hk);rw[wK.2.1 (by dsimp only;omega)];rfl
 | regs k d s hk hd hs =>
  obtain rfl:=l_of h1 (vH f2 hk);rw[wK.2.2.1 (by dsimp only;omega)];exact congrArg some (congrArg (lowB _::·) (congrArg (·::[]) (pair_eq (by omega))))
 | short k d n hk hd hn hf =>
  obtain rfl:=l_of h1 (vH f3 hk);rw[wK.2.2.2.1 (by dsimp only;omega)];rfl
 | imm k d n hk hd hn =>
  obtain rfl:=l_of h1 (vH f4 hk);rw[wK.2.2.2.2.1 (by dsimp only;omega)];rfl
 | mem k d s n hk hd hs hn hf =>
  obtain rfl:=l_of h1 (vH f5 hk);rw[wK.2.2.2.2.2.1 (by dsimp only;omega)];exact congrArg some (congrArg (lowB _::·) (congrArg (·::[byL (n%256)]) (pair_eq (by omega))))
 | idx k d s n x hk hd hs hn hx =>
  obtain rfl:=l_of h1 (vH f6 hk);rw[wK.2.2.2.2.2.2.1 (by dsimp only;omega)]
  cases x with
  | none=>exact congrArg some (congrArg (lowB _::·) (congrArg (·::8::wS n 4) (pair_eq (by omega))))
  | some p =>
   obtain⟨p1,p2⟩:=p;obtain⟨g1,g2⟩:=hx _ rfl;dsimp only at g1 g2
   have e2:putF ⟨((88+k:Nat):Int),d,s,idxV (some (p1,p2)),scaV (some (p1,p2)),n,7⟩ .index=[idxB ⟨((88+k:Nat):Int),d,s,idxV (some (p1,p2)),scaV (some (p1,p2)),n,7⟩]:=by
    show (if (p1:Int)<0 then [8] else [lowB (Int.ofNat (((p2:Int).toNat <<< 4) ||| (p1:Int).toNat))])=[if 0≤(p1:Int) then lowB ((p1:Int)+16*(p2:Int)) else 8];rw[Ag (by omega),Ah (by omega),pair_eq (by omega),Int.add_comm]
   show some (lowB _::lowB _::(putF _ .index++(wS n 4++[])))=_;rw[e2];exact congrArg some (congrArg (lowB _::·) (congrArg (·::idxB _::wS n 4) (pair_eq (by omega))))
 | cond k n hk hn hf =>
  obtain rfl:=l_of h1 (vH f7 hk);rw[wK.2.2.2.2.2.2.2.1 (by dsimp only;omega)];rfl
 | jump k n hk hn =>
  obtain rfl:=l_of h1 (vH f8 hk);rw[wK.2.2.2.2.2.2.2.2 (by dsimp only;omega)];rfl
 | sys n hn =>
  obtain rfl:=l_of h1 (vH f9 (show 0<1 by decide));rfl
 | getc d s hd hs =>
  obtain rfl:=l_of h1 (vH f10 (show 0<2 by decide));exact congrArg some (congrArg (lowB _::·) (congrArg (·::[]) (pair_eq (by omega))))
 | setc d s hd hs =>
  obtain rfl:=l_of h1 (vH f10 (show 1<2 by decide));exact congrArg some (congrArg (lowB _::·) (congrArg (·::[]) (pair_eq (by omega))))
theorem rencode_no (i:KI) (hi:i.imm<4294967296) (hv:wW i=false) (w_0:World):Calls Tryz.prog 31 #[.agg (kiC i).toArray] w_0 fun e w'=>e=.returned (.agg #[.string ⟨#[]⟩,.int .i64 12])∧Ext w_0 w':=by
 refine zN (args:=[.agg (kiC i).toArray]) Tryz.func31 M 112 M (Kh M)<|Z1 0 M<|Z0<|zX<|zZ<|zA .none M (yQ M M) fun b1=>Zt (z:=.agg #[.string ⟨#[]⟩,.int .i64 0]) (cs:=Jt) M fun b2=>ZX<|zX<|zZ<|ZF M (Zo 1 M U35 M)<|Zu (v:=.bool false) M (fun w hw=>(vX i hi w).mono fun e w' ⟨h1,h2⟩=>⟨by rw[h1,hv],h2⟩) ?_;refine ZF M (xO M)<|ZT<|zT M (fun h8=>?_) (fun h8=>?_)
 ·refine zX<|Z4r 0 1 2 8 M<|ZF M (Zb [.string ⟨#[]⟩,.int .i64 0] [(0,1),(1,1)] M)<|ZR 0 M<|ZT<|zK<|zW<|yS M M 0 M Tryz.underlying70 M (by kernel_rfl) fun w hw=>⟨rfl,(Kk hw).ext⟩
 skip;exact absurd h8 (by decide)
theorem rencode_any (i:KI) (hi:i.imm<4294967296) (w_0:World):Calls Tryz.prog 31 #[.agg (kiC i).toArray] w_0 fun e w'=>e=.returned (.agg #[.string ⟨((tW i).getD []).toArray⟩,.int .i64 (if wW i=true then 0 else 12)])∧Ext w_0 w':=by
 cases hv:wW i with
 | false =>
  have hn:tW i=none:=by
   cases he:tW i with
   | none=>rfl
   | some c=>unfold wW at hv;rw[he] at hv;cases hv
  rw[hn];exact rencode_no i hi hv w_0
 | true =>
  have hvk:VK i:=vK_of hi hv
  obtain⟨cd,hcd⟩:∃c,tW i=some c:=by
   unfold wW at hv;exact Option.isSome_iff_exists.1 hv
  obtain⟨z,l,hfk,_,hrg,_⟩:=encK_rng hcd;have he:=rbK_enc hvk;rw[he]
  have hr:0≤i.d∧i.d≤7∧0≤i.s∧i.s≤7∧-1≤i.index∧i.index≤7∧0≤i.scale∧i.scale≤3:=by
   unfold oN at hrg;simp only[Ab,Af] at hrg;refine⟨hrg.1.1.1.1,hrg.1.1.1.2,hrg.1.1.2.1,?_,hrg.1.2.1,hrg.1.2.2,hrg.2.1,hrg.2.2⟩;have:=hrg.1.1.2.2
   revert this
   repeat' split
   all_goals (intro h;omega)
  have hlt:=fmN_lt i.op;obtain⟨f,hf⟩:∃f,fmN i.op=f:=⟨_,rfl⟩;rw[hf] at hlt ⊢
  match f,hlt with
  | 0,_ =>
   have h0:=vN_validK hi;unfold vN at h0;rw[hf,hv] at h0;cases h0
  | 1,_=>exact rencode_1 i hi hr hv hf w_0
  | 2,_=>exact rencode_2 i hi hr hv hf w_0
  | 3,_=>exact rencode_3 i hi hr hv hf w_0
  | 4,_=>exact rencode_4 i hi hr hv hf w_0
  | 5,_=>exact rencode_5 i hi hr hv hf w_0
  | 6,_=>exact rencode_6 i hi hr hv hf w_0
  | 7,_=>exact rencode_7 i hi hr hv hf w_0
  | 8,_=>exact rencode_8 i hi hr hv hf w_0
  | 9,_=>exact rencode_9 i hi hr hv hf w_0
  | 10,_=>exact rencode_10 i hi hr hv hf w_0
  | 11,_=>exact rencode_11 i hi hr hv hf w_0
  | 12,_=>exact rencode_12 i hi hr hv hf w_0
end Go.Proofs.YtkaepknpplhgkaaGreatDoor
namespace Go.Proofs.YtkaepknpplhgkaaGreatDoor
open Go.RowKit
def mkA:List Nat:=[0,1,2,3,4,96,100,106,109,112,113,128,129,130]
def mkC (k:Nat):List Nat:=[32+k,48+k,64+k]++((if k<6 then [16+k] else [])++(if k<7 then [80+k,88+k] else []))
def mkL:Nat→List Nat
 | 0=>mkA
 | k+1=>mkL k++mkC k
theorem mkL_len:(mkL 15).length=79:=by kernel_rfl
end Go.Proofs.YtkaepknpplhgkaaGreatDoor
namespace Go.Proofs.YtkaepknpplhgkaaGreatDoor
open Go.RowKit
abbrev nI (l:List Nat):List Value:=l.map fun n=>.int .i64 (n:Nat)
def JM (g b1:Nat) (c:List Value) (w:World):Prop:=(∃rest,Blk g (bk 3 (nI (mkL 15)++rest)) w)∧Blk b1 (bk 67 c) w
theorem JM.stab {g b1:Nat}{c:List Value}:tY (JM g b1 c):=fun w o ⟨⟨r,h1⟩,h2⟩=>⟨⟨r,Blk.stab w o h1⟩,Blk.stab w o h2⟩
theorem JM.ext {g b1:Nat}{c:List Value}:∀w w',JM g b1 c w→Ext w w'→JM g b1 c w':=fun _ _ ⟨⟨r,h1⟩,h2⟩ hx=>⟨⟨r,h1.onE hx⟩,h2.onE hx⟩
theorem JM.cell {g b1 n:Nat}{c:List Value}{w:World}(h:JM g b1 c w) (hn:n<79):w.cell? ⟨g,0+((n:Nat):Int).toNat*1,none⟩=some (.int .i64 ((mkL 15).getD n 0:Nat)):=by
 obtain⟨⟨rest,hb⟩,_⟩:=h;have hl:n<(mkL 15).length:=by rw[mkL_len];exact hn
 have:0+((n:Nat):Int).toNat*1=n:=by omega
 rw[this];refine Blk.cell (T:=3) hb ?_;rw[List.getElem?_append_left (by simpa [nI] using hl)];simp[nI,Kn hl]
end Go.Proofs.YtkaepknpplhgkaaGreatDoor
