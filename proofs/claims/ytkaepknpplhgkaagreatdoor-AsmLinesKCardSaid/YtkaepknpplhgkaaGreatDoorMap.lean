import Derived.Test.YtkaepknpplhgkaaGreatDoorMaj
import Derived.Test.YtkaepknpplhgkaaGreatDoorMao
set_option maxRecDepth 100000
namespace Go.Proofs.YtkaepknpplhgkaaGreatDoor
open Go.RowKit
section
variable {n:Fr}{m:List (Nat×Value)}{B:Nat→Prop}{w0:World}{L:List (Nat×Obj)}{R:List Rw}{X:World→Prop}
theorem ch_appBs {a:Act}{w:World}{base:Nat}{d:Option Nat}{pos:String}{af:Array Edge}{gd:Option (Nat×Bool)}{x y:Operand}{g0 cap b0:Nat}{l c:Bs}(hs:Sat n m a) (hown:w.ownsRow base 5 1 (.slice (some ⟨g0,0,none⟩) l.length cap) l.length (Lib.byteCells l)) (hb:base≤w.heap.size) (hk:∀j u,(Lib.byteCells c)[j]? = some u→w.cell? ⟨b0,j,none⟩=some u) (h0:0<c.length) (hx:ev m x=some (.slice (some ⟨g0,0,none⟩) l.length cap)) (hy:ev m y=some (.slice (some ⟨b0,0,none⟩) c.length c.length)) (hl:l.length+c.length≤140737488355328) :
  Ch Tryz.prog ⟨d,.call { callee:=.builtin .append,args:=#[x,y],argTypes:=#[53,53] },53,pos,af,gd⟩ a w fun v w'=>∃i:Nat×Nat,v=.slice (some ⟨i.1,0,none⟩) (l++c).length i.2∧w.grownBy w' (some g0)∧w'.ownsRow base 5 1 (.slice (some ⟨i.1,0,none⟩) (l++c).length i.2) (l++c).length (Lib.byteCells (l++c))∧((Value.slice (some ⟨i.1,0,none⟩) (l++c).length i.2).ownBlock=some g0∨∀b,(Value.slice (some ⟨i.1,0,none⟩) (l++c).length i.2).ownBlock=some b→w.heap.size≤b):=by
 have hmap:(Tryz.prog.info? 5).map (fun i=>(i.zero,i.size,i.bytes))=some (some (.int .u8 0),1,1):=by kernel_rfl
 obtain⟨i,hq',hii⟩:=Option.map_eq_some_iff.1 hmap;obtain⟨hz,hs1,hb1⟩:i.zero=some (.int .u8 0)∧i.size=1∧i.bytes=1:=by simpa using hii
 obtain⟨g,cp,w',hr,h2,h3,h4,h5⟩:=run_append_lies (P:=Tryz.prog) (w:=w) 53 53 base 5 i (.int .u8 0) 1 1 Tryz.underlying53 hq' hz hs1 hb1 rfl (Nat.lt_succ_self 0) _ l.length _ hown ⟨b0,0,none⟩ c.length c.length (Lib.byteCells c) (by rw[Nat.mul_one,Lib.byteCells_length]) (fun j' u hu=>by
  rw[Addr.add_mid,Kq];exact hk j' u hu) (fun u hu=>by
  unfold Lib.byteCells at hu;obtain⟨q,_,rfl⟩:=List.mem_map.1 hu
  rfl) h0 (Ac hl (by decide)) (by rw[Nat.mul_one];exact hl) hb _ rfl
 have e8:Lib.byteCells (l++c)=Lib.byteCells l++Lib.byteCells c:=by simp[Lib.byteCells]
 have hln:(l++c).length=l.length+c.length:=by simp
 have hrun:(execOp a.eval ⟨d,.call { callee:=.builtin .append,args:=#[x,y],argTypes:=#[53,53] },53,pos,af,gd⟩).run Tryz.prog w=.ok (.value (.slice (some ⟨g,0,none⟩) (l.length+c.length) cp)) w':=by
  simp[execOp,resolve,invoke,builtin,hs.ev hx,hs.ev hy,hr]
 unfold Ch;rw[hrun,hln,e8]
 exact⟨(g,cp),rfl,h3,h2,h4.elim (fun h4=>.inl h4.symm) fun h4=>.inr fun b' hb'=>by
  have h9:b'=g:=Option.some.inj (show some g=some b' from hb').symm
  rw[h9,h4];exact Ks _⟩
theorem tE {x y:Operand}{g0 cap b0:Nat}{l c:Bs}(j:Nat) (hj:R[j]? = some (rwG g0 cap l)) (hk:∀w,Hp B w0 L R X w→∀j u,(Lib.byteCells c)[j]? = some u→w.cell? ⟨b0,j,none⟩=some u) (h0:0<c.length) (hx:ev m x=some (.slice (some ⟨g0,0,none⟩) l.length cap)) (hy:ev m y=some (.slice (some ⟨b0,0,none⟩) c.length c.length)) (hl:l.length+c.length≤140737488355328) :
  CF Tryz.prog (.call { callee:=.builtin .append,args:=#[x,y],argTypes:=#[53,53] }) 53 n m (Hp B w0 L R X) (fun i:Nat×Nat=>.slice (some ⟨i.1,0,none⟩) (l++c).length i.2) (fun i=>Hp B w0 L (R.set j (rwG i.1 i.2 (l++c))) X):=fun a w d pos af gd hs hw =>
 (ch_appBs hs (HpG.rows hw _ (Kb hj)) (HpG.size hw) (hk w hw) h0 hx hy hl).mono fun v w' ⟨i,e1,e2,e3,e4⟩=>⟨i,e1,Hp.row (r':=rwG i.1 i.2 (l++c)) hw hj e2 e3 e4⟩
end
section
variable {n:Fr}{m:List (Nat×Value)}{G B:Nat→Prop}{w0:World}{L:List (Nat×Obj)}{R:List Rw}{X J:World→Prop}{Q:Exit→Act→World→Prop}{ops:Array Oper}{σ:List Nat}
theorem wd_appBs {d:Nat}{pos:String}{af:Array Edge}{gd:Option (Nat×Bool)}{x y:Operand}{g0 cap b0:Nat}{l c:Bs}(k:Nat) (hk:R[k]? = some (rwG g0 cap l)) (hr:∀w,HpG G B w0 L R X w→∀j u,(Lib.byteCells c)[j]? = some u→w.cell? ⟨b0,j,none⟩=some u) (h0:0<c.length) (hg:Gd ops m gd) (hd:Nat.blt d n=true) (hx:ev m x=some (.slice (some ⟨g0,0,none⟩) l.length cap)) (hy:ev m y=some (.slice (some ⟨b0,0,none⟩) c.length c.length)) (hl:l.length+c.length≤140737488355328)
  (hJ:∀w w',HpG G B w0 L R X w→J w→Keep (fun q=>(rwG g0 cap l).v.ownBlock=some q) w w'→J w')
  (h:∀(i:Nat×Nat) (N:Nat→Prop),WD Tryz.prog ops J Q σ (fun j=>N j∨G j) n ((d,.slice (some ⟨i.1,0,none⟩) (l++c).length i.2)::m) (HpG (fun j=>N j∨G j) B w0 L (R.set k (rwG i.1 i.2 (l++c))) X)) :
  WDo Tryz.prog ops J Q ⟨some d,.call { callee:=.builtin .append,args:=#[x,y],argTypes:=#[53,53] },53,pos,af,gd⟩ σ G n m (HpG G B w0 L R X) :=
 wd_rowC (ι:=Nat×Nat) (r:=rwG g0 cap l) (rr:=fun i=>rwG i.1 i.2 (l++c)) (val:=fun i=>.slice (some ⟨i.1,0,none⟩) (l++c).length i.2) k hk rfl (fun _ _ e=>by cases e) hg hd (fun a w pos af gd hs hw=>ch_appBs hs (HpG.rows hw _ (Kb hk)) (HpG.size hw) (hr w hw) h0 hx hy hl) hJ h
theorem uC {w:World}{j b0:Nat}{c:Bs}(hj:L[j]? = some (b0,bk 5 (Lib.byteCells c))) (hw:HpG G B w0 L R X w):∀i u,(Lib.byteCells c)[i]? = some u→w.cell? ⟨b0,i,none⟩=some u:=fun i u hu=>by
 have:=HpG.cell hw hj hu;exact this
theorem rdf_read {F:Nat→Prop}{w:World}{b0:Nat}{c:Bs}(h:RdF F (some ⟨b0,0,none⟩) (Lib.byteCells c) w):∀i u,(Lib.byteCells c)[i]? = some u→w.cell? ⟨b0,i,none⟩=some u:=fun i u hu =>
 RdF.part h (Jt.1 hu).1 (by rw[Kq]) hu
end
theorem low8 (k:Nat):IntKind.u8.wrap ((k:Nat):Int)=(((byL (k%256)).toNat:Nat):Int):=by
 rw[wF];have h:lowB ((k:Nat):Int)=byL (k%256):=by unfold lowB;congr 1
 rw[h]
theorem four_any (imm:Nat) (hi:imm<4294967296) (w_0:World):Calls Tryz.prog 75 #[.int .u32 imm] w_0 fun e w'=>∃g:Nat,True∧e=.returned (.slice (some ⟨g,0,none⟩) 4 4)∧Ext w_0 w'∧RdF (fun k=>w_0.heap.size≤k) (some ⟨g,0,none⟩) (Lib.byteCells (wK imm 4)) w':=by
 have e2:imm/65536=imm/256/256:=by omega
 have e3:imm/16777216=imm/256/256/256:=by omega
 have q:∀k:Nat,k≤imm→IntKind.u32.wrap (k:Int)=(k:Int):=fun k hk=>u32n (by omega) (Ks _);refine zO (args:=[.int .u32 imm]) Tryz.func75 M 15 M (Ju M)<|Z1 0 M<|zS (H':=Hp (fun _=>False) w_0 [] [] (fun _=>True)) (fun u hu=>?_) ?_
 ·subst hu;exact Hp.start0
 refine zX<|zY<|Za M M<|ZX<|zY<|Zm M M ?_
 refine ZF M (yV M (by kernel_rfl) Tryz.underlying5 (low8 imm)) ?_
 refine Zm rfl rfl<|ZF rfl (yf_quo rfl rfl (by first|decide|omega) (q (imm/256) (by omega))) ?_
 refine ZF M (yV M (by kernel_rfl) Tryz.underlying5 (low8 (imm/256))) ?_
 refine Zm rfl rfl<|ZF rfl (yf_quo rfl rfl (by first|decide|omega) (q (imm/65536) (by omega))) ?_
 refine ZF M (yV M (by kernel_rfl) Tryz.underlying5 (by rw[low8,e2])) ?_
 refine Zm rfl rfl<|ZF rfl (yf_quo rfl rfl (by first|decide|omega) (q (imm/16777216) (by omega))) ?_
 refine ZF M (yV M (by kernel_rfl) Tryz.underlying5 (by rw[low8,e3])) ?_
 refine zL .none M (tZ (z:=.int .u8 0) M M M M Tryz.underlying53 (by kernel_rfl) (by kernel_rfl) M M) (fun b14=>?_);refine Za M M<|ZT<|zQ<|zP M M (fun w hw=>?_);exact⟨_,trivial,rfl,(Jx hw).ext,HpG.rdF (j:=0) hw M (HpG.mineL (j:=0) hw M fun h=>h)⟩
end Go.Proofs.YtkaepknpplhgkaaGreatDoor
namespace Go.Proofs.YtkaepknpplhgkaaGreatDoor
open Go.RowKit
theorem sI {z:Int}(h0:0≤z) (h1:z<1000):IntKind.i64.wrap z=z:=by
 obtain⟨k,rfl⟩:=Int.eq_ofNat_of_zero_le h0;exact i64w_nat (by omega)
def wJ (i:KI):UInt8:=lowB (16*i.d+i.s)
def idxB (i:KI):UInt8:=if 0≤i.index then lowB (i.index+16*i.scale) else 8
def rbK (f:Nat) (i:KI):Bs :=
 match f with
 | 2=>[lowB i.op]++[lowB i.d]
 | 3=>[lowB i.op]++[wJ i]
 | 11=>[lowB i.op]++[wJ i]
 | 12=>[lowB i.op]++[wJ i]
 | 4=>[lowB i.op]++[lowB i.d,byL (i.imm%256)]
 | 5=>([lowB i.op]++[lowB i.d])++wK i.imm 4
 | 6=>[lowB i.op]++[wJ i,byL (i.imm%256)]
 | 7=>([lowB i.op]++[wJ i,idxB i])++wK i.imm 4
 | 8=>[lowB i.op]++[byL (i.imm%256)]
 | 10=>[lowB i.op]++[byL (i.imm%256)]
 | 9=>[lowB i.op]++wK i.imm 4
 | _=>[lowB i.op]
theorem rencode_1 (i:KI) (hi:i.imm<4294967296) (hr:0≤i.d∧i.d≤7∧0≤i.s∧i.s≤7∧-1≤i.index∧i.index≤7∧0≤i.scale∧i.scale≤3) (hv:xM i=true) (hf:fmN i.op=1) (w_0:World):Calls Tryz.prog 31 #[.agg (kiC i).toArray] w_0 fun e w'=>e=.returned (.agg #[.string ⟨(rbK 1 i).toArray⟩,.int .i64 0])∧Ext w_0 w':=by
 obtain⟨d0,d1,s0,s1,x0,x1,c0,c1⟩:=hr;have hfm:=fun w=>wO i.op w;rw[hf] at hfm;have q1:IntKind.i64.wrap (16*i.d)=16*i.d:=sI (by omega) (by omega);have q2:IntKind.i64.wrap (16*i.d+i.s)=16*i.d+i.s:=sI (by omega) (by omega);refine zO (args:=[.agg (kiC i).toArray]) Tryz.func31 M 112 M (Ju M)<|Z1 0 M<|zS (H':=Hp (fun _=>False) w_0 [] [] (fun _=>True)) (fun u hu=>?_) ?_
 ·subst hu;exact Hp.start0
 refine zX<|zY<|zL .none M (yJ M M) (fun b1=>?_);refine zL .none M (yQ (z:=.agg #[.string ⟨#[]⟩,.int .i64 0]) (cs:=Jo) (by kernel_rfl) M) (fun b2=>?_);refine ZX<|zX<|zY<|ZF M (yX 1 M M Tryz.underlying35 M (by kernel_rfl)) ?_;refine zE .none M  (v:=.bool true) (by kernel_rfl) M (fun w hw=>(wZ i hi w).mono fun e w' ⟨h1,h2⟩=>⟨by rw[h1,hv],h2⟩) ?_;refine ZF M (xH M)<|ZT<|zT M (fun h8=>?_) (fun h8=>?_)
 ·cases h8
 ·refine zI<|zU<|zX<|Z4r 0 1 2 8 M M M M<|ZF M (zZ (off:=0) (sz:=0) M Tryz.underlying35 (by kernel_rfl) M) ?_;refine ZF M (zW 1 M M M Tryz.underlying3 M) ?_
  refine ZF M (yV M (by kernel_rfl) Tryz.underlying5 (wF i.op)) ?_
  refine zL .none M (xV (z:=.int .u8 0) M M Tryz.underlying53 (by kernel_rfl) (by kernel_rfl) M M) (fun b13=>?_);refine Za M M<|ZT<|yM (ι:=Unit) (fun _=>[(1,.pointer (some ⟨b1,0,none⟩)),(2,.pointer (some ⟨b2,0,none⟩)),(3,.slice (some ⟨b13,0,none⟩) ([lowB i.op]:Bs).length 1),(4,.int .u8 (wJ i).toNat)]) (fun _=>Hp (fun _=>False) w_0 [(b2,bk 70 [.string ⟨#[]⟩,.int .i64 0]),(b1,kiO i)] [rwG b13 1 [lowB i.op]] (fun _=>True)) ?_ (fun _=>?_)
  ·refine Z5r 0 1 2 3 8 M M M M M<|ZF M (zZ (off:=1) (sz:=0) M Tryz.underlying35 (by kernel_rfl) M) ?_;refine ZF M (zW 2 M M M Tryz.underlying3 M)<|ZF M (uI M M q1)<|ZF M (zZ (off:=2) (sz:=0) M Tryz.underlying35 (by kernel_rfl) M) ?_;refine ZF M (zW 2 M M M Tryz.underlying3 M)<|ZF M (yN M M q2) ?_
   refine ZF M (yV M (by kernel_rfl) Tryz.underlying5 (wF (16*i.d+i.s))) ?_
   exact Za M M<|zK<|zM (ι:=Unit) () (O4 M M M M) (fun w h=>Hp.toRow h (HpG.mineL (j:=0) h M fun h=>h) M cp11.2)
  ·refine zX<|zX<|zY<|ZF M (zZ (off:=0) (sz:=0) M Tryz.underlying35 (by kernel_rfl) M) ?_;refine ZF M (zW 1 M M M Tryz.underlying3 M)<|zE .none M  (v:=.int .i64 (1:Nat)) (by kernel_rfl) M (fun w hw=>hfm w) ?_;refine ZT<|yW<|zX<|Z5r 1 2 3 4 23 M M M M M<|ZF M (zG M M)<|Za M M<|ZT<|yU M<|zX<|zX<|Z6r 1 2 3 4 23 24 M M M M M M<|ZF M (zG M M)<|Za M M<|ZT<|yU M<|zX<|Z7r 1 2 3 4 23 24 32 M M M M M M M<|ZF M (zG M M)<|Za M M<|ZT<|yU M<|Z7r 1 2 3 4 23 24 32 M M M M M M M<|ZF M (zG M M)<|Za M M<|ZT<|yU M<|zX<|Z7r 1 2 3 4 23 24 32 M M M M M M M<|ZF M (zG M M)<|Za M M<|ZT ?_;refine yU M<|zX<|Z8r 1 2 3 4 23 24 32 40 M M M M M M M M<|ZF M (zG M M)<|Za M M<|ZT<|yU M<|zX<|Z9r 1 2 3 4 23 24 32 40 51 M M M M M M M M M<|ZF M (zG M M)<|Za M M<|ZT<|yU M<|zX<|Z10r 1 2 3 4 23 24 32 40 51 63 M M M M M M M M M M<|ZF M (zG M M)<|Za M M<|ZT<|yU M<|zX<|zX<|Z11r 1 2 3 4 23 24 32 40 51 63 72 M M M M M M M M M M M<|ZF M (zG M M)<|Za M M<|ZT<|yU M<|Z12r 1 2 3 4 23 24 32 40 51 63 72 93 M M M M M M M M M M M M<|ZF M (zG M M)<|Za M M<|ZT<|yU M ?_;refine zX<|Z12r 1 2 3 4 23 24 32 40 51 63 72 93 M M M M M M M M M M M M<|ZF M (zG M M)<|Za M M<|ZT<|yU M<|zI<|yY<|zU<|zX<|Z13r 1 2 3 4 23 24 32 40 51 63 72 93 102 M M M M M M M M M M M M M<|Zm M M ?_
   refine ZF M (wE 0 M M) ?_
   refine ZF M (yP [.string ⟨#[]⟩,.int .i64 0] [(0,1),(1,1)] M (by kernel_rfl) (by kernel_rfl) M) ?_;refine ZR 0 M M M M M (by kernel_rfl) ?_;refine ZT<|zQ<|yD M M 0 M Tryz.underlying70 M (by kernel_rfl) (fun w hw=>?_);exact⟨rfl,(Jx hw).ext⟩
theorem rencode_2 (i:KI) (hi:i.imm<4294967296) (hr:0≤i.d∧i.d≤7∧0≤i.s∧i.s≤7∧-1≤i.index∧i.index≤7∧0≤i.scale∧i.scale≤3) (hv:xM i=true) (hf:fmN i.op=2) (w_0:World):Calls Tryz.prog 31 #[.agg (kiC i).toArray] w_0 fun e w'=>e=.returned (.agg #[.string ⟨(rbK 2 i).toArray⟩,.int .i64 0])∧Ext w_0 w':=by
 obtain⟨d0,d1,s0,s1,x0,x1,c0,c1⟩:=hr;have hfm:=fun w=>wO i.op w;rw[hf] at hfm;have q1:IntKind.i64.wrap (16*i.d)=16*i.d:=sI (by omega) (by omega);have q2:IntKind.i64.wrap (16*i.d+i.s)=16*i.d+i.s:=sI (by omega) (by omega);refine zO (args:=[.agg (kiC i).toArray]) Tryz.func31 M 112 M (Ju M)<|Z1 0 M<|zS (H':=Hp (fun _=>False) w_0 [] [] (fun _=>True)) (fun u hu=>?_) ?_
 ·subst hu;exact Hp.start0
 refine zX<|zY<|zL .none M (yJ M M) (fun b1=>?_);refine zL .none M (yQ (z:=.agg #[.string ⟨#[]⟩,.int .i64 0]) (cs:=Jo) (by kernel_rfl) M) (fun b2=>?_);refine ZX<|zX<|zY<|ZF M (yX 1 M M Tryz.underlying35 M (by kernel_rfl)) ?_;refine zE .none M  (v:=.bool true) (by kernel_rfl) M (fun w hw=>(wZ i hi w).mono fun e w' ⟨h1,h2⟩=>⟨by rw[h1,hv],h2⟩) ?_;refine ZF M (xH M)<|ZT<|zT M (fun h8=>?_) (fun h8=>?_)
 ·cases h8
 ·refine zI<|zU<|zX<|Z4r 0 1 2 8 M M M M<|ZF M (zZ (off:=0) (sz:=0) M Tryz.underlying35 (by kernel_rfl) M) ?_;refine ZF M (zW 1 M M M Tryz.underlying3 M) ?_
  refine ZF M (yV M (by kernel_rfl) Tryz.underlying5 (wF i.op)) ?_
  refine zL .none M (xV (z:=.int .u8 0) M M Tryz.underlying53 (by kernel_rfl) (by kernel_rfl) M M) (fun b13=>?_);refine Za M M<|ZT<|yM (ι:=Unit) (fun _=>[(1,.pointer (some ⟨b1,0,none⟩)),(2,.pointer (some ⟨b2,0,none⟩)),(3,.slice (some ⟨b13,0,none⟩) ([lowB i.op]:Bs).length 1),(4,.int .u8 (wJ i).toNat)]) (fun _=>Hp (fun _=>False) w_0 [(b2,bk 70 [.string ⟨#[]⟩,.int .i64 0]),(b1,kiO i)] [rwG b13 1 [lowB i.op]] (fun _=>True)) ?_ (fun _=>?_)
  ·refine Z5r 0 1 2 3 8 M M M M M<|ZF M (zZ (off:=1) (sz:=0) M Tryz.underlying35 (by kernel_rfl) M) ?_;refine ZF M (zW 2 M M M Tryz.underlying3 M)<|ZF M (uI M M q1)<|ZF M (zZ (off:=2) (sz:=0) M Tryz.underlying35 (by kernel_rfl) M) ?_;refine ZF M (zW 2 M M M Tryz.underlying3 M)<|ZF M (yN M M q2) ?_
   refine ZF M (yV M (by kernel_rfl) Tryz.underlying5 (wF (16*i.d+i.s))) ?_
   exact Za M M<|zK<|zM (ι:=Unit) () (O4 M M M M) (fun w h=>Hp.toRow h (HpG.mineL (j:=0) h M fun h=>h) M cp11.2)
  ·refine zX<|zX<|zY<|ZF M (zZ (off:=0) (sz:=0) M Tryz.underlying35 (by kernel_rfl) M) ?_;refine ZF M (zW 1 M M M Tryz.underlying3 M)<|zE .none M  (v:=.int .i64 (2:Nat)) (by kernel_rfl) M (fun w hw=>hfm w) ?_;refine ZT<|yW<|zX<|Z5r 1 2 3 4 23 M M M M M<|ZF M (zG M M)<|Za M M<|ZT<|wQ M<|Z6r 1 2 3 4 23 24 M M M M M M<|Zm M M<|ZF M (zZ (off:=1) (sz:=0) M Tryz.underlying35 (by kernel_rfl) M) ?_;refine ZF M (zW 1 M M M Tryz.underlying3 M) ?_
   refine ZF M (yV M (by kernel_rfl) Tryz.underlying5 (wF i.d)) ?_
   refine zL .none M (xV (z:=.int .u8 0) M M Tryz.underlying53 (by kernel_rfl) (by kernel_rfl) M M) (fun b30=>?_);refine xZ (ι:=Nat×Nat) (val:=fun q=>.slice (some ⟨q.1,0,none⟩) ([lowB i.op]++[lowB i.d]).length q.2) (H':=fun q=>Hp (fun _=>False) w_0 [(b30,bk 5 (Lib.byteCells [lowB i.d])),(b2,bk 70 [.string ⟨#[]⟩,.int .i64 0]),(b1,kiO i)] [rwG q.1 q.2 ([lowB i.op]++[lowB i.d])] (fun _=>True)) .none M  (tE (c:=[lowB i.d]) 0 M (fun w hw=>uC (j:=0) M hw) (Nat.succ_le_of_lt (Nat.succ_pos _)) M M (Ju M)) (fun i31=>?_);refine Za M M<|zK<|yY<|zU<|zX<|Z6r 1 2 3 4 23 24 M M M M M M<|Zm M M ?_
   refine ZF M (wE 0 M M) ?_
   refine ZF M (yP [.string ⟨#[]⟩,.int .i64 0] [(0,1),(1,1)] M (by kernel_rfl) (by kernel_rfl) M) ?_;refine ZR 1 M M M M M (by kernel_rfl) ?_;refine ZT<|zQ<|yD M M 1 M Tryz.underlying70 M (by kernel_rfl) (fun w hw=>?_);exact⟨rfl,(Jx hw).ext⟩
theorem rencode_3 (i:KI) (hi:i.imm<4294967296) (hr:0≤i.d∧i.d≤7∧0≤i.s∧i.s≤7∧-1≤i.index∧i.index≤7∧0≤i.scale∧i.scale≤3) (hv:xM i=true) (hf:fmN i.op=3) (w_0:World):Calls Tryz.prog 31 #[.agg (kiC i).toArray] w_0 fun e w'=>e=.returned (.agg #[.string ⟨(rbK 3 i).toArray⟩,.int .i64 0])∧Ext w_0 w':=by
 obtain⟨d0,d1,s0,s1,x0,x1,c0,c1⟩:=hr;have hfm:=fun w=>wO i.op w;rw[hf] at hfm;have q1:IntKind.i64.wrap (16*i.d)=16*i.d:=sI (by omega) (by omega);have q2:IntKind.i64.wrap (16*i.d+i.s)=16*i.d+i.s:=sI (by omega) (by omega);refine zO (args:=[.agg (kiC i).toArray]) Tryz.func31 M 112 M (Ju M)<|Z1 0 M<|zS (H':=Hp (fun _=>False) w_0 [] [] (fun _=>True)) (fun u hu=>?_) ?_
 ·subst hu;exact Hp.start0
 refine zX<|zY<|zL .none M (yJ M M) (fun b1=>?_);refine zL .none M (yQ (z:=.agg #[.string ⟨#[]⟩,.int .i64 0]) (cs:=Jo) (by kernel_rfl) M) (fun b2=>?_);refine ZX<|zX<|zY<|ZF M (yX 1 M M Tryz.underlying35 M (by kernel_rfl)) ?_;refine zE .none M  (v:=.bool true) (by kernel_rfl) M (fun w hw=>(wZ i hi w).mono fun e w' ⟨h1,h2⟩=>⟨by rw[h1,hv],h2⟩) ?_;refine ZF M (xH M)<|ZT<|zT M (fun h8=>?_) (fun h8=>?_)
 ·cases h8
 ·refine zI<|zU<|zX<|Z4r 0 1 2 8 M M M M<|ZF M (zZ (off:=0) (sz:=0) M Tryz.underlying35 (by kernel_rfl) M) ?_;refine ZF M (zW 1 M M M Tryz.underlying3 M) ?_
  refine ZF M (yV M (by kernel_rfl) Tryz.underlying5 (wF i.op)) ?_
  refine zL .none M (xV (z:=.int .u8 0) M M Tryz.underlying53 (by kernel_rfl) (by kernel_rfl) M M) (fun b13=>?_);refine Za M M<|ZT<|yM (ι:=Unit) (fun _=>[(1,.pointer (some ⟨b1,0,none⟩)),(2,.pointer (some ⟨b2,0,none⟩)),(3,.slice (some ⟨b13,0,none⟩) ([lowB i.op]:Bs).length 1),(4,.int .u8 (wJ i).toNat)]) (fun _=>Hp (fun _=>False) w_0 [(b2,bk 70 [.string ⟨#[]⟩,.int .i64 0]),(b1,kiO i)] [rwG b13 1 [lowB i.op]] (fun _=>True)) ?_ (fun _=>?_)
  ·refine Z5r 0 1 2 3 8 M M M M M<|ZF M (zZ (off:=1) (sz:=0) M Tryz.underlying35 (by kernel_rfl) M) ?_;refine ZF M (zW 2 M M M Tryz.underlying3 M)<|ZF M (uI M M q1)<|ZF M (zZ (off:=2) (sz:=0) M Tryz.underlying35 (by kernel_rfl) M) ?_;refine ZF M (zW 2 M M M Tryz.underlying3 M)<|ZF M (yN M M q2) ?_
   refine ZF M (yV M (by kernel_rfl) Tryz.underlying5 (wF (16*i.d+i.s))) ?_
   exact Za M M<|zK<|zM (ι:=Unit) () (O4 M M M M) (fun w h=>Hp.toRow h (HpG.mineL (j:=0) h M fun h=>h) M cp11.2)
  ·refine zX<|zX<|zY<|ZF M (zZ (off:=0) (sz:=0) M Tryz.underlying35 (by kernel_rfl) M) ?_;refine ZF M (zW 1 M M M Tryz.underlying3 M)<|zE .none M  (v:=.int .i64 (3:Nat)) (by kernel_rfl) M (fun w hw=>hfm w) ?_;refine ZT<|yW<|zX<|Z5r 1 2 3 4 23 M M M M M<|ZF M (zG M M)<|Za M M<|ZT<|yU M<|zX<|zX<|Z6r 1 2 3 4 23 24 M M M M M M<|ZF M (zG M M)<|Za M M<|ZT<|wQ M<|zI<|zU<|wQ M<|Z7r 1 2 3 4 23 24 32 M M M M M M M<|Zm M M<|Zm M M<|zL .none M (xV (z:=.int .u8 0) M M Tryz.underlying53 (by kernel_rfl) (by kernel_rfl) M M) (fun b38=>?_);refine xZ (ι:=Nat×Nat) (val:=fun q=>.slice (some ⟨q.1,0,none⟩) ([lowB i.op]++[wJ i]).length q.2) (H':=fun q=>Hp (fun _=>False) w_0 [(b38,bk 5 (Lib.byteCells [wJ i])),(b2,bk 70 [.string ⟨#[]⟩,.int .i64 0]),(b1,kiO i)] [rwG q.1 q.2 ([lowB i.op]++[wJ i])] (fun _=>True)) .none M  (tE (c:=[wJ i]) 0 M (fun w hw=>uC (j:=0) M hw) (Nat.succ_le_of_lt (Nat.succ_pos _)) M M (Ju M)) (fun i39=>?_);refine Za M M<|zK<|yY<|zU<|zX<|Z7r 1 2 3 4 23 24 32 M M M M M M M<|Zm M M ?_
   refine ZF M (wE 0 M M) ?_
   refine ZF M (yP [.string ⟨#[]⟩,.int .i64 0] [(0,1),(1,1)] M (by kernel_rfl) (by kernel_rfl) M) ?_;refine ZR 1 M M M M M (by kernel_rfl) ?_;refine ZT<|zQ<|yD M M 1 M Tryz.underlying70 M (by kernel_rfl) (fun w hw=>?_);exact⟨rfl,(Jx hw).ext⟩
theorem rencode_4 (i:KI) (hi:i.imm<4294967296) (hr:0≤i.d∧i.d≤7∧0≤i.s∧i.s≤7∧-1≤i.index∧i.index≤7∧0≤i.scale∧i.scale≤3) (hv:xM i=true) (hf:fmN i.op=4) (w_0:World):Calls Tryz.prog 31 #[.agg (kiC i).toArray] w_0 fun e w'=>e=.returned (.agg #[.string ⟨(rbK 4 i).toArray⟩,.int .i64 0])∧Ext w_0 w':=by
 obtain⟨d0,d1,s0,s1,x0,x1,c0,c1⟩:=hr;have hfm:=fun w=>wO i.op w;rw[hf] at hfm;have q1:IntKind.i64.wrap (16*i.d)=16*i.d:=sI (by omega) (by omega);have q2:IntKind.i64.wrap (16*i.d+i.s)=16*i.d+i.s:=sI (by omega) (by omega);refine zO (args:=[.agg (kiC i).toArray]) Tryz.func31 M 112 M (Ju M)<|Z1 0 M<|zS (H':=Hp (fun _=>False) w_0 [] [] (fun _=>True)) (fun u hu=>?_) ?_
 ·subst hu;exact Hp.start0
 refine zX<|zY<|zL .none M (yJ M M) (fun b1=>?_);refine zL .none M (yQ (z:=.agg #[.string ⟨#[]⟩,.int .i64 0]) (cs:=Jo) (by kernel_rfl) M) (fun b2=>?_);refine ZX<|zX<|zY<|ZF M (yX 1 M M Tryz.underlying35 M (by kernel_rfl)) ?_;refine zE .none M  (v:=.bool true) (by kernel_rfl) M (fun w hw=>(wZ i hi w).mono fun e w' ⟨h1,h2⟩=>⟨by rw[h1,hv],h2⟩) ?_;refine ZF M (xH M)<|ZT<|zT M (fun h8=>?_) (fun h8=>?_)
 ·cases h8
 ·refine zI<|zU<|zX<|Z4r 0 1 2 8 M M M M<|ZF M (zZ (off:=0) (sz:=0) M Tryz.underlying35 (by kernel_rfl) M) ?_;refine ZF M (zW 1 M M M Tryz.underlying3 M) ?_
  refine ZF M (yV M (by kernel_rfl) Tryz.underlying5 (wF i.op)) ?_
  refine zL .none M (xV (z:=.int .u8 0) M M Tryz.underlying53 (by kernel_rfl) (by kernel_rfl) M M) (fun b13=>?_);refine Za M M<|ZT<|yM (ι:=Unit) (fun _=>[(1,.pointer (some ⟨b1,0,none⟩)),(2,.pointer (some ⟨b2,0,none⟩)),(3,.slice (some ⟨b13,0,none⟩) ([lowB i.op]:Bs).length 1),(4,.int .u8 (wJ i).toNat)]) (fun _=>Hp (fun _=>False) w_0 [(b2,bk 70 [.string ⟨#[]⟩,.int .i64 0]),(b1,kiO i)] [rwG b13 1 [lowB i.op]] (fun _=>True)) ?_ (fun _=>?_)
  ·refine Z5r 0 1 2 3 8 M M M M M<|ZF M (zZ (off:=1) (sz:=0) M Tryz.underlying35 (by kernel_rfl) M) ?_;refine ZF M (zW 2 M M M Tryz.underlying3 M)<|ZF M (uI M M q1)<|ZF M (zZ (off:=2) (sz:=0) M Tryz.underlying35 (by kernel_rfl) M) ?_;refine ZF M (zW 2 M M M Tryz.underlying3 M)<|ZF M (yN M M q2) ?_
   refine ZF M (yV M (by kernel_rfl) Tryz.underlying5 (wF (16*i.d+i.s))) ?_
   exact Za M M<|zK<|zM (ι:=Unit) () (O4 M M M M) (fun w h=>Hp.toRow h (HpG.mineL (j:=0) h M fun h=>h) M cp11.2)
  ·refine zX<|zX<|zY<|ZF M (zZ (off:=0) (sz:=0) M Tryz.underlying35 (by kernel_rfl) M) ?_;refine ZF M (zW 1 M M M Tryz.underlying3 M)<|zE .none M  (v:=.int .i64 (4:Nat)) (by kernel_rfl) M (fun w hw=>hfm w) ?_;refine ZT<|yW<|zX<|Z5r 1 2 3 4 23 M M M M M<|ZF M (zG M M)<|Za M M<|ZT<|yU M<|zX<|zX<|Z6r 1 2 3 4 23 24 M M M M M M<|ZF M (zG M M)<|Za M M<|ZT<|yU M<|zX<|Z7r 1 2 3 4 23 24 32 M M M M M M M<|ZF M (zG M M)<|Za M M<|ZT<|yU M<|Z7r 1 2 3 4 23 24 32 M M M M M M M<|ZF M (zG M M)<|Za M M<|ZT<|yU M<|zX<|Z7r 1 2 3 4 23 24 32 M M M M M M M<|ZF M (zG M M)<|Za M M<|ZT ?_;refine wQ M<|Z8r 1 2 3 4 23 24 32 40 M M M M M M M M<|Zm M M<|ZF M (zZ (off:=1) (sz:=0) M Tryz.underlying35 (by kernel_rfl) M) ?_;refine ZF M (zW 1 M M M Tryz.underlying3 M) ?_
   refine ZF M (yV M (by kernel_rfl) Tryz.underlying5 (wF i.d)) ?_
   refine ZF M (zZ (off:=5) (sz:=0) M Tryz.underlying35 (by kernel_rfl) M) ?_;refine ZF M (zW 1 M M M Tryz.underlying22 M) ?_
   refine ZF M (yV M (by kernel_rfl) Tryz.underlying5 (low8 i.imm)) ?_
   refine zL .none M (tG (z:=.int .u8 0) M M M M Tryz.underlying53 (by kernel_rfl) (by kernel_rfl) M M M) (fun b49=>?_);refine xZ (ι:=Nat×Nat) (val:=fun q=>.slice (some ⟨q.1,0,none⟩) ([lowB i.op]++[lowB i.d,byL (i.imm%256)]).length q.2) (H':=fun q=>Hp (fun _=>False) w_0 [(b49,bk 5 (Lib.byteCells [lowB i.d,byL (i.imm%256)])),(b2,bk 70 [.string ⟨#[]⟩,.int .i64 0]),(b1,kiO i)] [rwG q.1 q.2 ([lowB i.op]++[lowB i.d,byL (i.imm%256)])] (fun _=>True)) .none M  (tE (c:=[lowB i.d,byL (i.imm%256)]) 0 M (fun w hw=>uC (j:=0) M hw) (Nat.succ_le_of_lt (Nat.succ_pos _)) M M (Ju M)) (fun i50=>?_);refine Za M M<|zK<|yY<|zU<|zX<|Z8r 1 2 3 4 23 24 32 40 M M M M M M M M<|Zm M M ?_
   refine ZF M (wE 0 M M) ?_
   refine ZF M (yP [.string ⟨#[]⟩,.int .i64 0] [(0,1),(1,1)] M (by kernel_rfl) (by kernel_rfl) M) ?_;refine ZR 1 M M M M M (by kernel_rfl) ?_;refine ZT<|zQ<|yD M M 1 M Tryz.underlying70 M (by kernel_rfl) (fun w hw=>?_);exact⟨rfl,(Jx hw).ext⟩
theorem rencode_5 (i:KI) (hi:i.imm<4294967296) (hr:0≤i.d∧i.d≤7∧0≤i.s∧i.s≤7∧-1≤i.index∧i.index≤7∧0≤i.scale∧i.scale≤3) (hv:xM i=true) (hf:fmN i.op=5) (w_0:World):Calls Tryz.prog 31 #[.agg (kiC i).toArray] w_0 fun e w'=>e=.returned (.agg #[.string ⟨(rbK 5 i).toArray⟩,.int .i64 0])∧Ext w_0 w':=by
 obtain⟨d0,d1,s0,s1,x0,x1,c0,c1⟩:=hr;have hfm:=fun w=>wO i.op w;rw[hf] at hfm;have q1:IntKind.i64.wrap (16*i.d)=16*i.d:=sI (by omega) (by omega);have q2:IntKind.i64.wrap (16*i.d+i.s)=16*i.d+i.s:=sI (by omega) (by omega);refine zO (args:=[.agg (kiC i).toArray]) Tryz.func31 M 112 M (Ju M)<|Z1 0 M<|zS (H':=Hp (fun _=>False) w_0 [] [] (fun _=>True)) (fun u hu=>?_) ?_
 ·subst hu;exact Hp.start0
 refine zX<|zY<|zL .none M (yJ M M) (fun b1=>?_);refine zL .none M (yQ (z:=.agg #[.string ⟨#[]⟩,.int .i64 0]) (cs:=Jo) (by kernel_rfl) M) (fun b2=>?_);refine ZX<|zX<|zY<|ZF M (yX 1 M M Tryz.underlying35 M (by kernel_rfl)) ?_;refine zE .none M  (v:=.bool true) (by kernel_rfl) M (fun w hw=>(wZ i hi w).mono fun e w' ⟨h1,h2⟩=>⟨by rw[h1,hv],h2⟩) ?_;refine ZF M (xH M)<|ZT<|zT M (fun h8=>?_) (fun h8=>?_)
 ·cases h8
 ·refine zI<|zU<|zX<|Z4r 0 1 2 8 M M M M<|ZF M (zZ (off:=0) (sz:=0) M Tryz.underlying35 (by kernel_rfl) M) ?_;refine ZF M (zW 1 M M M Tryz.underlying3 M) ?_
  refine ZF M (yV M (by kernel_rfl) Tryz.underlying5 (wF i.op)) ?_
  refine zL .none M (xV (z:=.int .u8 0) M M Tryz.underlying53 (by kernel_rfl) (by kernel_rfl) M M) (fun b13=>?_);refine Za M M<|ZT<|yM (ι:=Unit) (fun _=>[(1,.pointer (some ⟨b1,0,none⟩)),(2,.pointer (some ⟨b2,0,none⟩)),(3,.slice (some ⟨b13,0,none⟩) ([lowB i.op]:Bs).length 1),(4,.int .u8 (wJ i).toNat)]) (fun _=>Hp (fun _=>False) w_0 [(b2,bk 70 [.string ⟨#[]⟩,.int .i64 0]),(b1,kiO i)] [rwG b13 1 [lowB i.op]] (fun _=>True)) ?_ (fun _=>?_)
  ·refine Z5r 0 1 2 3 8 M M M M M<|ZF M (zZ (off:=1) (sz:=0) M Tryz.underlying35 (by kernel_rfl) M) ?_;refine ZF M (zW 2 M M M Tryz.underlying3 M)<|ZF M (uI M M q1)<|ZF M (zZ (off:=2) (sz:=0) M Tryz.underlying35 (by kernel_rfl) M) ?_;refine ZF M (zW 2 M M M Tryz.underlying3 M)<|ZF M (yN M M q2) ?_
   refine ZF M (yV M (by kernel_rfl) Tryz.underlying5 (wF (16*i.d+i.s))) ?_
   exact Za M M<|zK<|zM (ι:=Unit) () (O4 M M M M) (fun w h=>Hp.toRow h (HpG.mineL (j:=0) h M fun h=>h) M cp11.2)
  ·refine zX<|zX<|zY<|ZF M (zZ (off:=0) (sz:=0) M Tryz.underlying35 (by kernel_rfl) M) ?_;refine ZF M (zW 1 M M M Tryz.underlying3 M)<|zE .none M  (v:=.int .i64 (5:Nat)) (by kernel_rfl) M (fun w hw=>hfm w) ?_;refine ZT<|yW<|zX<|Z5r 1 2 3 4 23 M M M M M<|ZF M (zG M M)<|Za M M<|ZT<|yU M<|zX<|zX<|Z6r 1 2 3 4 23 24 M M M M M M<|ZF M (zG M M)<|Za M M<|ZT<|yU M<|zX<|Z7r 1 2 3 4 23 24 32 M M M M M M M<|ZF M (zG M M)<|Za M M<|ZT<|yU M<|Z7r 1 2 3 4 23 24 32 M M M M M M M<|ZF M (zG M M)<|Za M M<|ZT<|yU M<|zX<|Z7r 1 2 3 4 23 24 32 M M M M M M M<|ZF M (zG M M)<|Za M M<|ZT ?_;refine yU M<|zX<|Z8r 1 2 3 4 23 24 32 40 M M M M M M M M<|ZF M (zG M M)<|Za M M<|ZT<|wQ M<|Z9 1 2 3 4 23 24 32 40 51 M M M M M M M M M<|qE [0,1,2,3,4,5,6,7,8,9,10] (Blk b1 (kiO i)) (by kernel_rfl) (by kernel_rfl) Blk.stab (fun w h=>HpG.blk h (k:=1) M) (fun n0 hn0=>?_);refine Zd M M M (zH M)<|Zd M M M (zZ (off:=1) (sz:=0) M Tryz.underlying35 (by kernel_rfl) M) ?_;refine Zd M M M (zC (v:=.int .i64 i.d) M Tryz.underlying3 M (fun w hw=>Blk.cell hw M)) ?_;refine wG M ?_
   refine sM M .none M (yV M (by kernel_rfl) Tryz.underlying5 (wF i.d)) ?_
   refine wG M<|wd_newH ?_ .none M (fun k hk=>Kf hk hn0) (xV (z:=.int .u8 0) M M Tryz.underlying53 (by kernel_rfl) (by kernel_rfl) M M) (fun b57 hb57=>?_)
   ·rfl
   refine wG M<|wd_appBs (l:=[lowB i.op]) (c:=[lowB i.d]) 0 M (fun w hw=>uC (j:=0) M hw) (Nat.succ_le_of_lt (Nat.succ_pos _)) .none M  M M (Ju M) (fun w w' hw hj hK=>blk_row hw (i:=2) (k:=0) M M hj hK) (fun i1 N1=>?_);refine Zd M M M (zZ (off:=5) (sz:=0) M Tryz.underlying35 (by kernel_rfl) M) ?_;refine Zd M M M (zC (v:=.int .u32 i.imm) M Tryz.underlying22 M (fun w hw=>Blk.cell hw M)) ?_;refine wG M<|wd_callX (ι:=Nat) (C:=fun _=>True) (val:=fun g=>.slice (some ⟨g,0,none⟩) 4 4) (TT:=fun g F=>RdF F (some ⟨g,0,none⟩) (Lib.byteCells (wK i.imm 4))) .none M  (by kernel_rfl) M (fun _ h=>h.elim) (fun _=>RdF.lies) (fun _ _ h hx=>Blk.onE h hx) (fun w hw=>four_any i.imm hi w) (fun g F _ hF=>?_);refine wG M<|wd_appBs (l:=[lowB i.op]++[lowB i.d]) (c:=wK i.imm 4) 0 M (fun w hw=>rdf_read (HpG.x hw).1) (Nat.succ_le_of_lt (Nat.succ_pos _)) .none M  M M (Ju M) (fun w w' hw hj hK=>blk_row hw (i:=2) (k:=0) M M hj hK) (fun i2 N2=>?_);refine Zd M M M (xQ M)<|wd_endH<|yY<|zU<|zX<|Z9r 1 2 3 4 23 24 32 40 51 M M M M M M M M M<|Zm M M ?_
   refine ZF M (wE 0 M M) ?_
   refine ZF M (yP [.string ⟨#[]⟩,.int .i64 0] [(0,1),(1,1)] M (by kernel_rfl) (by kernel_rfl) M) ?_;refine ZR 1 M M M M M (by kernel_rfl) ?_;refine ZT<|zQ<|yD M M 1 M Tryz.underlying70 M (by kernel_rfl) (fun w hw=>?_);exact⟨rfl,(Jx hw).ext⟩
theorem rencode_6 (i:KI) (hi:i.imm<4294967296) (hr:0≤i.d∧i.d≤7∧0≤i.s∧i.s≤7∧-1≤i.index∧i.index≤7∧0≤i.scale∧i.scale≤3) (hv:xM i=true) (hf:fmN i.op=6) (w_0:World):Calls Tryz.prog 31 #[.agg (kiC i).toArray] w_0 fun e w'=>e=.returned (.agg #[.string ⟨(rbK 6 i).toArray⟩,.int .i64 0])∧Ext w_0 w':=by
 obtain⟨d0,d1,s0,s1,x0,x1,c0,c1⟩:=hr;have hfm:=fun w=>wO i.op w;rw[hf] at hfm;have q1:IntKind.i64.wrap (16*i.d)=16*i.d:=sI (by omega) (by omega);have q2:IntKind.i64.wrap (16*i.d+i.s)=16*i.d+i.s:=sI (by omega) (by omega);refine zO (args:=[.agg (kiC i).toArray]) Tryz.func31 M 112 M (Ju M)<|Z1 0 M<|zS (H':=Hp (fun _=>False) w_0 [] [] (fun _=>True)) (fun u hu=>?_) ?_
 ·subst hu;exact Hp.start0
 refine zX<|zY<|zL .none M (yJ M M) (fun b1=>?_);refine zL .none M (yQ (z:=.agg #[.string ⟨#[]⟩,.int .i64 0]) (cs:=Jo) (by kernel_rfl) M) (fun b2=>?_);refine ZX<|zX<|zY<|ZF M (yX 1 M M Tryz.underlying35 M (by kernel_rfl)) ?_;refine zE .none M  (v:=.bool true) (by kernel_rfl) M (fun w hw=>(wZ i hi w).mono fun e w' ⟨h1,h2⟩=>⟨by rw[h1,hv],h2⟩) ?_;refine ZF M (xH M)<|ZT<|zT M (fun h8=>?_) (fun h8=>?_)
 ·cases h8
 ·refine zI<|zU<|zX<|Z4r 0 1 2 8 M M M M<|ZF M (zZ (off:=0) (sz:=0) M Tryz.underlying35 (by kernel_rfl) M) ?_;refine ZF M (zW 1 M M M Tryz.underlying3 M) ?_
  refine ZF M (yV M (by kernel_rfl) Tryz.underlying5 (wF i.op)) ?_
  refine zL .none M (xV (z:=.int .u8 0) M M Tryz.underlying53 (by kernel_rfl) (by kernel_rfl) M M) (fun b13=>?_);refine Za M M<|ZT<|yM (ι:=Unit) (fun _=>[(1,.pointer (some ⟨b1,0,none⟩)),(2,.pointer (some ⟨b2,0,none⟩)),(3,.slice (some ⟨b13,0,none⟩) ([lowB i.op]:Bs).length 1),(4,.int .u8 (wJ i).toNat)]) (fun _=>Hp (fun _=>False) w_0 [(b2,bk 70 [.string ⟨#[]⟩,.int .i64 0]),(b1,kiO i)] [rwG b13 1 [lowB i.op]] (fun _=>True)) ?_ (fun _=>?_)
  ·refine Z5r 0 1 2 3 8 M M M M M<|ZF M (zZ (off:=1) (sz:=0) M Tryz.underlying35 (by kernel_rfl) M) ?_;refine ZF M (zW 2 M M M Tryz.underlying3 M)<|ZF M (uI M M q1)<|ZF M (zZ (off:=2) (sz:=0) M Tryz.underlying35 (by kernel_rfl) M) ?_;refine ZF M (zW 2 M M M Tryz.underlying3 M)<|ZF M (yN M M q2) ?_
   refine ZF M (yV M (by kernel_rfl) Tryz.underlying5 (wF (16*i.d+i.s))) ?_
   exact Za M M<|zK<|zM (ι:=Unit) () (O4 M M M M) (fun w h=>Hp.toRow h (HpG.mineL (j:=0) h M fun h=>h) M cp11.2)
  ·refine zX<|zX<|zY<|ZF M (zZ (off:=0) (sz:=0) M Tryz.underlying35 (by kernel_rfl) M) ?_;refine ZF M (zW 1 M M M Tryz.underlying3 M)<|zE .none M  (v:=.int .i64 (6:Nat)) (by kernel_rfl) M (fun w hw=>hfm w) ?_;refine ZT<|yW<|zX<|Z5r 1 2 3 4 23 M M M M M<|ZF M (zG M M)<|Za M M<|ZT<|yU M<|zX<|zX<|Z6r 1 2 3 4 23 24 M M M M M M<|ZF M (zG M M)<|Za M M<|ZT<|yU M<|zX<|Z7r 1 2 3 4 23 24 32 M M M M M M M<|ZF M (zG M M)<|Za M M<|ZT<|yU M<|Z7r 1 2 3 4 23 24 32 M M M M M M M<|ZF M (zG M M)<|Za M M<|ZT<|yU M<|zX<|Z7r 1 2 3 4 23 24 32 M M M M M M M<|ZF M (zG M M)<|Za M M<|ZT ?_;refine yU M<|zX<|Z8r 1 2 3 4 23 24 32 40 M M M M M M M M<|ZF M (zG M M)<|Za M M<|ZT<|yU M<|zX<|Z9r 1 2 3 4 23 24 32 40 51 M M M M M M M M M<|ZF M (zG M M)<|Za M M<|ZT<|wQ M<|Z10r 1 2 3 4 23 24 32 40 51 63 M M M M M M M M M M<|Zm M M<|Zm M M<|ZF M (zZ (off:=5) (sz:=0) M Tryz.underlying35 (by kernel_rfl) M) ?_;refine ZF M (zW 1 M M M Tryz.underlying22 M) ?_
   refine ZF M (yV M (by kernel_rfl) Tryz.underlying5 (low8 i.imm)) ?_
   refine zL .none M (tG (z:=.int .u8 0) M M M M Tryz.underlying53 (by kernel_rfl) (by kernel_rfl) M M M) (fun b70=>?_);refine xZ (ι:=Nat×Nat) (val:=fun q=>.slice (some ⟨q.1,0,none⟩) ([lowB i.op]++[wJ i,byL (i.imm%256)]).length q.2) (H':=fun q=>Hp (fun _=>False) w_0 [(b70,bk 5 (Lib.byteCells [wJ i,byL (i.imm%256)])),(b2,bk 70 [.string ⟨#[]⟩,.int .i64 0]),(b1,kiO i)] [rwG q.1 q.2 ([lowB i.op]++[wJ i,byL (i.imm%256)])] (fun _=>True)) .none M  (tE (c:=[wJ i,byL (i.imm%256)]) 0 M (fun w hw=>uC (j:=0) M hw) (Nat.succ_le_of_lt (Nat.succ_pos _)) M M (Ju M)) (fun i71=>?_);refine Za M M<|zK<|yY<|zU<|zX<|Z10r 1 2 3 4 23 24 32 40 51 63 M M M M M M M M M M<|Zm M M ?_
   refine ZF M (wE 0 M M) ?_
   refine ZF M (yP [.string ⟨#[]⟩,.int .i64 0] [(0,1),(1,1)] M (by kernel_rfl) (by kernel_rfl) M) ?_;refine ZR 1 M M M M M (by kernel_rfl) ?_;refine ZT<|zQ<|yD M M 1 M Tryz.underlying70 M (by kernel_rfl) (fun w hw=>?_);exact⟨rfl,(Jx hw).ext⟩
theorem rencode_7 (i:KI) (hi:i.imm<4294967296) (hr:0≤i.d∧i.d≤7∧0≤i.s∧i.s≤7∧-1≤i.index∧i.index≤7∧0≤i.scale∧i.scale≤3) (hv:xM i=true) (hf:fmN i.op=7) (w_0:World):Calls Tryz.prog 31 #[.agg (kiC i).toArray] w_0 fun e w'=>e=.returned (.agg #[.string ⟨(rbK 7 i).toArray⟩,.int .i64 0])∧Ext w_0 w':=by
 obtain⟨d0,d1,s0,s1,x0,x1,c0,c1⟩:=hr;have hfm:=fun w=>wO i.op w;rw[hf] at hfm;have q1:IntKind.i64.wrap (16*i.d)=16*i.d:=sI (by omega) (by omega);have q2:IntKind.i64.wrap (16*i.d+i.s)=16*i.d+i.s:=sI (by omega) (by omega);refine zO (args:=[.agg (kiC i).toArray]) Tryz.func31 M 112 M (Ju M)<|Z1 0 M<|zS (H':=Hp (fun _=>False) w_0 [] [] (fun _=>True)) (fun u hu=>?_) ?_
 ·subst hu;exact Hp.start0
 refine zX<|zY<|zL .none M (yJ M M) (fun b1=>?_);refine zL .none M (yQ (z:=.agg #[.string ⟨#[]⟩,.int .i64 0]) (cs:=Jo) (by kernel_rfl) M) (fun b2=>?_);refine ZX<|zX<|zY<|ZF M (yX 1 M M Tryz.underlying35 M (by kernel_rfl)) ?_;refine zE .none M  (v:=.bool true) (by kernel_rfl) M (fun w hw=>(wZ i hi w).mono fun e w' ⟨h1,h2⟩=>⟨by rw[h1,hv],h2⟩) ?_;refine ZF M (xH M)<|ZT<|zT M (fun h8=>?_) (fun h8=>?_)
 ·cases h8
 ·refine zI<|zU<|zX<|Z4r 0 1 2 8 M M M M<|ZF M (zZ (off:=0) (sz:=0) M Tryz.underlying35 (by kernel_rfl) M) ?_;refine ZF M (zW 1 M M M Tryz.underlying3 M) ?_
  refine ZF M (yV M (by kernel_rfl) Tryz.underlying5 (wF i.op)) ?_
  refine zL .none M (xV (z:=.int .u8 0) M M Tryz.underlying53 (by kernel_rfl) (by kernel_rfl) M M) (fun b13=>?_);refine Za M M<|ZT<|yM (ι:=Unit) (fun _=>[(1,.pointer (some ⟨b1,0,none⟩)),(2,.pointer (some ⟨b2,0,none⟩)),(3,.slice (some ⟨b13,0,none⟩) ([lowB i.op]:Bs).length 1),(4,.int .u8 (wJ i).toNat)]) (fun _=>Hp (fun _=>False) w_0 [(b2,bk 70 [.string ⟨#[]⟩,.int .i64 0]),(b1,kiO i)] [rwG b13 1 [lowB i.op]] (fun _=>True)) ?_ (fun _=>?_)
  ·refine Z5r 0 1 2 3 8 M M M M M<|ZF M (zZ (off:=1) (sz:=0) M Tryz.underlying35 (by kernel_rfl) M) ?_;refine ZF M (zW 2 M M M Tryz.underlying3 M)<|ZF M (uI M M q1)<|ZF M (zZ (off:=2) (sz:=0) M Tryz.underlying35 (by kernel_rfl) M) ?_;refine ZF M (zW 2 M M M Tryz.underlying3 M)<|ZF M (yN M M q2) ?_
   refine ZF M (yV M (by kernel_rfl) Tryz.underlying5 (wF (16*i.d+i.s))) ?_
   exact Za M M<|zK<|zM (ι:=Unit) () (O4 M M M M) (fun w h=>Hp.toRow h (HpG.mineL (j:=0) h M fun h=>h) M cp11.2)
  ·refine zX<|zX<|zY<|ZF M (zZ (off:=0) (sz:=0) M Tryz.underlying35 (by kernel_rfl) M) ?_;refine ZF M (zW 1 M M M Tryz.underlying3 M)<|zE .none M  (v:=.int .i64 (7:Nat)) (by kernel_rfl) M (fun w hw=>hfm w) ?_;refine ZT<|yW<|zX<|Z5r 1 2 3 4 23 M M M M M<|ZF M (zG M M)<|Za M M<|ZT<|yU M<|zX<|zX<|Z6r 1 2 3 4 23 24 M M M M M M<|ZF M (zG M M)<|Za M M<|ZT<|yU M<|zX<|Z7r 1 2 3 4 23 24 32 M M M M M M M<|ZF M (zG M M)<|Za M M<|ZT<|yU M<|Z7r 1 2 3 4 23 24 32 M M M M M M M<|ZF M (zG M M)<|Za M M<|ZT<|yU M<|zX<|Z7r 1 2 3 4 23 24 32 M M M M M M M<|ZF M (zG M M)<|Za M M<|ZT ?_;refine yU M<|zX<|Z8r 1 2 3 4 23 24 32 40 M M M M M M M M<|ZF M (zG M M)<|Za M M<|ZT<|yU M<|zX<|Z9r 1 2 3 4 23 24 32 40 51 M M M M M M M M M<|ZF M (zG M M)<|Za M M<|ZT<|yU M<|zX<|Z10r 1 2 3 4 23 24 32 40 51 63 M M M M M M M M M M<|ZF M (zG M M)<|Za M M<|ZT<|wQ M<|zX<|Z11r 1 2 3 4 23 24 32 40 51 63 72 M M M M M M M M M M M<|Za M M<|ZT<|yM (ι:=Unit) (fun _=>[(1,.pointer (some ⟨b1,0,none⟩)),(2,.pointer (some ⟨b2,0,none⟩)),(3,.slice (some ⟨b13,0,none⟩) ([lowB i.op]:Bs).length 1),(4,.int .u8 (wJ i).toNat),(5,.int .u8 (idxB i).toNat)]) (fun _=>Hp (fun _=>False) w_0 [(b2,bk 70 [.string ⟨#[]⟩,.int .i64 0]),(b1,kiO i)] [rwG b13 1 [lowB i.op]] (fun _=>True)) ?_ (fun _=>?_)
   ·refine zX<|zY<|ZF M (zZ (off:=3) (sz:=0) M Tryz.underlying35 (by kernel_rfl) M) ?_;refine ZF M (zW 1 M M M Tryz.underlying3 M)<|ZF M (xD M M)<|ZT<|zT M (fun h76=>?_) (fun h76=>?_)
    ·replace h76:=Jv h76;refine Z13r 1 2 3 4 5 23 24 32 40 51 63 72 76 M M M M M M M M M M M M M<|ZF M (zZ (off:=3) (sz:=0) M Tryz.underlying35 (by kernel_rfl) M) ?_;refine ZF M (zW 1 M M M Tryz.underlying3 M)<|ZF M (zZ (off:=4) (sz:=0) M Tryz.underlying35 (by kernel_rfl) M) ?_;refine ZF M (zW 1 M M M Tryz.underlying3 M)<|ZF M (uI M M (sI (z:=16*i.scale) (by omega) (by omega))) ?_;refine ZF M (yN M M (sI (z:=i.index+16*i.scale) (by omega) (by omega))) ?_
     refine ZF M (yV M (by kernel_rfl) Tryz.underlying5 (wF (i.index+16*i.scale))) ?_
     exact Za M M<|zK<|zM (ι:=Unit) () (.cons M<|.cons M<|.cons M<|.cons M<|.consE M (by unfold idxB;rw[Kv h76])<|.nil) (fun w h=>h)
    ·replace h76:=Jw h76;exact zI<|zM (ι:=Unit) () (.cons M<|.cons M<|.cons M<|.cons M<|.consE M (by unfold idxB;rw[Ku h76];rfl)<|.nil) (fun w h=>h)
   ·refine qE [0,1,2,3,4,5,6,7,8,9] (Blk b1 (kiO i)) (by kernel_rfl) (by kernel_rfl) Blk.stab (fun w h=>HpG.blk h (k:=1) M) (fun n0 hn0=>?_);refine Zd M M M (zH M)<|Zd M M M (zH M)<|Zd M M M (zH M)<|wG M<|wd_newH ?_ .none M (fun k hk=>Kf hk hn0) (tG (z:=.int .u8 0) M M M M Tryz.underlying53 (by kernel_rfl) (by kernel_rfl) M M M) (fun b87 hb87=>?_)
    ·rfl
    refine wG M<|wd_appBs (l:=[lowB i.op]) (c:=[wJ i,idxB i]) 0 M (fun w hw=>uC (j:=0) M hw) (Nat.succ_le_of_lt (Nat.succ_pos _)) .none M  M M (Ju M) (fun w w' hw hj hK=>blk_row hw (i:=2) (k:=0) M M hj hK) (fun i1 N1=>?_);refine Zd M M M (zZ (off:=5) (sz:=0) M Tryz.underlying35 (by kernel_rfl) M) ?_;refine Zd M M M (zC (v:=.int .u32 i.imm) M Tryz.underlying22 M (fun w hw=>Blk.cell hw M)) ?_;refine wG M<|wd_callX (ι:=Nat) (C:=fun _=>True) (val:=fun g=>.slice (some ⟨g,0,none⟩) 4 4) (TT:=fun g F=>RdF F (some ⟨g,0,none⟩) (Lib.byteCells (wK i.imm 4))) .none M  (by kernel_rfl) M (fun _ h=>h.elim) (fun _=>RdF.lies) (fun _ _ h hx=>Blk.onE h hx) (fun w hw=>four_any i.imm hi w) (fun g F _ hF=>?_);refine wG M<|wd_appBs (l:=[lowB i.op]++[wJ i,idxB i]) (c:=wK i.imm 4) 0 M (fun w hw=>rdf_read (HpG.x hw).1) (Nat.succ_le_of_lt (Nat.succ_pos _)) .none M  M M (Ju M) (fun w w' hw hj hK=>blk_row hw (i:=2) (k:=0) M M hj hK) (fun i2 N2=>?_);refine Zd M M M (xQ M)<|wd_endH<|yY<|zU<|zX<|Z5r 1 2 3 4 5 M M M M M<|Zm M M ?_
    refine ZF M (wE 0 M M) ?_
    refine ZF M (yP [.string ⟨#[]⟩,.int .i64 0] [(0,1),(1,1)] M (by kernel_rfl) (by kernel_rfl) M) ?_;refine ZR 1 M M M M M (by kernel_rfl) ?_;refine ZT<|zQ<|yD M M 1 M Tryz.underlying70 M (by kernel_rfl) (fun w hw=>?_);exact⟨rfl,(Jx hw).ext⟩
theorem rencode_8 (i:KI) (hi:i.imm<4294967296) (hr:0≤i.d∧i.d≤7∧0≤i.s∧i.s≤7∧-1≤i.index∧i.index≤7∧0≤i.scale∧i.scale≤3) (hv:xM i=true) (hf:fmN i.op=8) (w_0:World):Calls Tryz.prog 31 #[.agg (kiC i).toArray] w_0 fun e w'=>e=.returned (.agg #[.string ⟨(rbK 8 i).toArray⟩,.int .i64 0])∧Ext w_0 w':=by
 obtain⟨d0,d1,s0,s1,x0,x1,c0,c1⟩:=hr;have hfm:=fun w=>wO i.op w;rw[hf] at hfm;have q1:IntKind.i64.wrap (16*i.d)=16*i.d:=sI (by omega) (by omega);have q2:IntKind.i64.wrap (16*i.d+i.s)=16*i.d+i.s:=sI (by omega) (by omega);refine zO (args:=[.agg (kiC i).toArray]) Tryz.func31 M 112 M (Ju M)<|Z1 0 M<|zS (H':=Hp (fun _=>False) w_0 [] [] (fun _=>True)) (fun u hu=>?_) ?_
 ·subst hu;exact Hp.start0
 refine zX<|zY<|zL .none M (yJ M M) (fun b1=>?_);refine zL .none M (yQ (z:=.agg #[.string ⟨#[]⟩,.int .i64 0]) (cs:=Jo) (by kernel_rfl) M) (fun b2=>?_);refine ZX<|zX<|zY<|ZF M (yX 1 M M Tryz.underlying35 M (by kernel_rfl)) ?_;refine zE .none M  (v:=.bool true) (by kernel_rfl) M (fun w hw=>(wZ i hi w).mono fun e w' ⟨h1,h2⟩=>⟨by rw[h1,hv],h2⟩) ?_;refine ZF M (xH M)<|ZT<|zT M (fun h8=>?_) (fun h8=>?_)
 ·cases h8
 ·refine zI<|zU<|zX<|Z4r 0 1 2 8 M M M M<|ZF M (zZ (off:=0) (sz:=0) M Tryz.underlying35 (by kernel_rfl) M) ?_;refine ZF M (zW 1 M M M Tryz.underlying3 M) ?_
  refine ZF M (yV M (by kernel_rfl) Tryz.underlying5 (wF i.op)) ?_
  refine zL .none M (xV (z:=.int .u8 0) M M Tryz.underlying53 (by kernel_rfl) (by kernel_rfl) M M) (fun b13=>?_);refine Za M M<|ZT<|yM (ι:=Unit) (fun _=>[(1,.pointer (some ⟨b1,0,none⟩)),(2,.pointer (some ⟨b2,0,none⟩)),(3,.slice (some ⟨b13,0,none⟩) ([lowB i.op]:Bs).length 1),(4,.int .u8 (wJ i).toNat)]) (fun _=>Hp (fun _=>False) w_0 [(b2,bk 70 [.string ⟨#[]⟩,.int .i64 0]),(b1,kiO i)] [rwG b13 1 [lowB i.op]] (fun _=>True)) ?_ (fun _=>?_)
  ·refine Z5r 0 1 2 3 8 M M M M M<|ZF M (zZ (off:=1) (sz:=0) M Tryz.underlying35 (by kernel_rfl) M) ?_;refine ZF M (zW 2 M M M Tryz.underlying3 M)<|ZF M (uI M M q1)<|ZF M (zZ (off:=2) (sz:=0) M Tryz.underlying35 (by kernel_rfl) M) ?_;refine ZF M (zW 2 M M M Tryz.underlying3 M)<|ZF M (yN M M q2) ?_
   refine ZF M (yV M (by kernel_rfl) Tryz.underlying5 (wF (16*i.d+i.s))) ?_
   exact Za M M<|zK<|zM (ι:=Unit) () (O4 M M M M) (fun w h=>Hp.toRow h (HpG.mineL (j:=0) h M fun h=>h) M cp11.2)
  ·refine zX<|zX<|zY<|ZF M (zZ (off:=0) (sz:=0) M Tryz.underlying35 (by kernel_rfl) M) ?_;refine ZF M (zW 1 M M M Tryz.underlying3 M)<|zE .none M  (v:=.int .i64 (8:Nat)) (by kernel_rfl) M (fun w hw=>hfm w) ?_;refine ZT<|yW<|zX<|Z5r 1 2 3 4 23 M M M M M<|ZF M (zG M M)<|Za M M<|ZT<|yU M<|zX<|zX<|Z6r 1 2 3 4 23 24 M M M M M M<|ZF M (zG M M)<|Za M M<|ZT<|yU M<|zX<|Z7r 1 2 3 4 23 24 32 M M M M M M M<|ZF M (zG M M)<|Za M M<|ZT<|yU M<|Z7r 1 2 3 4 23 24 32 M M M M M M M<|ZF M (zG M M)<|Za M M<|ZT<|yU M<|zX<|Z7r 1 2 3 4 23 24 32 M M M M M M M<|ZF M (zG M M)<|Za M M<|ZT ?_;refine yU M<|zX<|Z8r 1 2 3 4 23 24 32 40 M M M M M M M M<|ZF M (zG M M)<|Za M M<|ZT<|yU M<|zX<|Z9r 1 2 3 4 23 24 32 40 51 M M M M M M M M M<|ZF M (zG M M)<|Za M M<|ZT<|yU M<|zX<|Z10r 1 2 3 4 23 24 32 40 51 63 M M M M M M M M M M<|ZF M (zG M M)<|Za M M<|ZT<|yU M<|zX<|zX<|Z11r 1 2 3 4 23 24 32 40 51 63 72 M M M M M M M M M M M<|ZF M (zG M M)<|Za M M<|ZT<|wQ M<|zI<|zU<|wQ M<|Z12r 1 2 3 4 23 24 32 40 51 63 72 93 M M M M M M M M M M M M<|Zm M M ?_;refine ZF M (zZ (off:=5) (sz:=0) M Tryz.underlying35 (by kernel_rfl) M) ?_;refine ZF M (zW 1 M M M Tryz.underlying22 M) ?_
   refine ZF M (yV M (by kernel_rfl) Tryz.underlying5 (low8 i.imm)) ?_
   refine zL .none M (xV (z:=.int .u8 0) M M Tryz.underlying53 (by kernel_rfl) (by kernel_rfl) M M) (fun b100=>?_);refine xZ (ι:=Nat×Nat) (val:=fun q=>.slice (some ⟨q.1,0,none⟩) ([lowB i.op]++[byL (i.imm%256)]).length q.2) (H':=fun q=>Hp (fun _=>False) w_0 [(b100,bk 5 (Lib.byteCells [byL (i.imm%256)])),(b2,bk 70 [.string ⟨#[]⟩,.int .i64 0]),(b1,kiO i)] [rwG q.1 q.2 ([lowB i.op]++[byL (i.imm%256)])] (fun _=>True)) .none M  (tE (c:=[byL (i.imm%256)]) 0 M (fun w hw=>uC (j:=0) M hw) (Nat.succ_le_of_lt (Nat.succ_pos _)) M M (Ju M)) (fun i101=>?_);refine Za M M<|zK<|yY<|zU<|zX<|Z12r 1 2 3 4 23 24 32 40 51 63 72 93 M M M M M M M M M M M M<|Zm M M ?_
   refine ZF M (wE 0 M M) ?_
   refine ZF M (yP [.string ⟨#[]⟩,.int .i64 0] [(0,1),(1,1)] M (by kernel_rfl) (by kernel_rfl) M) ?_;refine ZR 1 M M M M M (by kernel_rfl) ?_;refine ZT<|zQ<|yD M M 1 M Tryz.underlying70 M (by kernel_rfl) (fun w hw=>?_);exact⟨rfl,(Jx hw).ext⟩
theorem rencode_9 (i:KI) (hi:i.imm<4294967296) (hr:0≤i.d∧i.d≤7∧0≤i.s∧i.s≤7∧-1≤i.index∧i.index≤7∧0≤i.scale∧i.scale≤3) (hv:xM i=true) (hf:fmN i.op=9) (w_0:World):Calls Tryz.prog 31 #[.agg (kiC i).toArray] w_0 fun e w'=>e=.returned (.agg #[.string ⟨(rbK 9 i).toArray⟩,.int .i64 0])∧Ext w_0 w':=by
 obtain⟨d0,d1,s0,s1,x0,x1,c0,c1⟩:=hr;have hfm:=fun w=>wO i.op w;rw[hf] at hfm;have q1:IntKind.i64.wrap (16*i.d)=16*i.d:=sI (by omega) (by omega);have q2:IntKind.i64.wrap (16*i.d+i.s)=16*i.d+i.s:=sI (by omega) (by omega);refine zO (args:=[.agg (kiC i).toArray]) Tryz.func31 M 112 M (Ju M)<|Z1 0 M<|zS (H':=Hp (fun _=>False) w_0 [] [] (fun _=>True)) (fun u hu=>?_) ?_
 ·subst hu;exact Hp.start0
 refine zX<|zY<|zL .none M (yJ M M) (fun b1=>?_);refine zL .none M (yQ (z:=.agg #[.string ⟨#[]⟩,.int .i64 0]) (cs:=Jo) (by kernel_rfl) M) (fun b2=>?_);refine ZX<|zX<|zY<|ZF M (yX 1 M M Tryz.underlying35 M (by kernel_rfl)) ?_;refine zE .none M  (v:=.bool true) (by kernel_rfl) M (fun w hw=>(wZ i hi w).mono fun e w' ⟨h1,h2⟩=>⟨by rw[h1,hv],h2⟩) ?_;refine ZF M (xH M)<|ZT<|zT M (fun h8=>?_) (fun h8=>?_)
 ·cases h8
 ·refine zI<|zU<|zX<|Z4r 0 1 2 8 M M M M<|ZF M (zZ (off:=0) (sz:=0) M Tryz.underlying35 (by kernel_rfl) M) ?_;refine ZF M (zW 1 M M M Tryz.underlying3 M) ?_
  refine ZF M (yV M (by kernel_rfl) Tryz.underlying5 (wF i.op)) ?_
  refine zL .none M (xV (z:=.int .u8 0) M M Tryz.underlying53 (by kernel_rfl) (by kernel_rfl) M M) (fun b13=>?_);refine Za M M<|ZT<|yM (ι:=Unit) (fun _=>[(1,.pointer (some ⟨b1,0,none⟩)),(2,.pointer (some ⟨b2,0,none⟩)),(3,.slice (some ⟨b13,0,none⟩) ([lowB i.op]:Bs).length 1),(4,.int .u8 (wJ i).toNat)]) (fun _=>Hp (fun _=>False) w_0 [(b2,bk 70 [.string ⟨#[]⟩,.int .i64 0]),(b1,kiO i)] [rwG b13 1 [lowB i.op]] (fun _=>True)) ?_ (fun _=>?_)
  ·refine Z5r 0 1 2 3 8 M M M M M<|ZF M (zZ (off:=1) (sz:=0) M Tryz.underlying35 (by kernel_rfl) M) ?_;refine ZF M (zW 2 M M M Tryz.underlying3 M)<|ZF M (uI M M q1)<|ZF M (zZ (off:=2) (sz:=0) M Tryz.underlying35 (by kernel_rfl) M) ?_;refine ZF M (zW 2 M M M Tryz.underlying3 M)<|ZF M (yN M M q2) ?_
   refine ZF M (yV M (by kernel_rfl) Tryz.underlying5 (wF (16*i.d+i.s))) ?_
   exact Za M M<|zK<|zM (ι:=Unit) () (O4 M M M M) (fun w h=>Hp.toRow h (HpG.mineL (j:=0) h M fun h=>h) M cp11.2)
  ·refine zX<|zX<|zY<|ZF M (zZ (off:=0) (sz:=0) M Tryz.underlying35 (by kernel_rfl) M) ?_;refine ZF M (zW 1 M M M Tryz.underlying3 M)<|zE .none M  (v:=.int .i64 (9:Nat)) (by kernel_rfl) M (fun w hw=>hfm w) ?_;refine ZT<|yW<|zX<|Z5r 1 2 3 4 23 M M M M M<|ZF M (zG M M)<|Za M M<|ZT<|yU M<|zX<|zX<|Z6r 1 2 3 4 23 24 M M M M M M<|ZF M (zG M M)<|Za M M<|ZT<|yU M<|zX<|Z7r 1 2 3 4 23 24 32 M M M M M M M<|ZF M (zG M M)<|Za M M<|ZT<|yU M<|Z7r 1 2 3 4 23 24 32 M M M M M M M<|ZF M (zG M M)<|Za M M<|ZT<|yU M<|zX<|Z7r 1 2 3 4 23 24 32 M M M M M M M<|ZF M (zG M M)<|Za M M<|ZT ?_;refine yU M<|zX<|Z8r 1 2 3 4 23 24 32 40 M M M M M M M M<|ZF M (zG M M)<|Za M M<|ZT<|yU M<|zX<|Z9r 1 2 3 4 23 24 32 40 51 M M M M M M M M M<|ZF M (zG M M)<|Za M M<|ZT<|yU M<|zX<|Z10r 1 2 3 4 23 24 32 40 51 63 M M M M M M M M M M<|ZF M (zG M M)<|Za M M<|ZT<|yU M<|zX<|zX<|Z11r 1 2 3 4 23 24 32 40 51 63 72 M M M M M M M M M M M<|ZF M (zG M M)<|Za M M<|ZT<|yU M<|Z12r 1 2 3 4 23 24 32 40 51 63 72 93 M M M M M M M M M M M M<|ZF M (zG M M)<|Za M M<|ZT<|yU M ?_;refine zX<|Z12r 1 2 3 4 23 24 32 40 51 63 72 93 M M M M M M M M M M M M<|ZF M (zG M M)<|Za M M<|ZT<|wQ M<|Z13r 1 2 3 4 23 24 32 40 51 63 72 93 102 M M M M M M M M M M M M M<|Zm M M<|ZF M (zZ (off:=5) (sz:=0) M Tryz.underlying35 (by kernel_rfl) M) ?_;refine ZF M (zW 1 M M M Tryz.underlying22 M)<|yI (ι:=Nat) (C:=fun _=>True) (val:=fun g=>.slice (some ⟨g,0,none⟩) 4 4) (TT:=fun g F=>RdF F (some ⟨g,0,none⟩) (Lib.byteCells (wK i.imm 4))) .none M  (by kernel_rfl) M (fun _ h=>h.elim) (fun _=>RdF.lies) (fun w hw=>four_any i.imm hi w) (fun g F _ hF=>?_);refine xZ (ι:=Nat×Nat) (val:=fun q=>.slice (some ⟨q.1,0,none⟩) ([lowB i.op]++wK i.imm 4).length q.2) (H':=fun q=>Hp (fun _=>False) w_0 [(b2,bk 70 [.string ⟨#[]⟩,.int .i64 0]),(b1,kiO i)] [rwG q.1 q.2 ([lowB i.op]++wK i.imm 4)] (fun u=>RdF F (some ⟨g,0,none⟩) (Lib.byteCells (wK i.imm 4)) u∧True)) .none M  (tE (c:=wK i.imm 4) 0 M (fun w hw=>rdf_read (HpG.x hw).1) (Nat.succ_le_of_lt (Nat.succ_pos _)) M M (Ju M)) (fun i108=>?_)
   refine Za M M<|zK<|yY<|zU<|zX<|Z13r 1 2 3 4 23 24 32 40 51 63 72 93 102 M M M M M M M M M M M M M<|Zm M M ?_
   refine ZF M (wE 0 M M) ?_
   refine ZF M (yP [.string ⟨#[]⟩,.int .i64 0] [(0,1),(1,1)] M (by kernel_rfl) (by kernel_rfl) M) ?_;refine ZR 0 M M M M M (by kernel_rfl) ?_;refine ZT<|zQ<|yD M M 0 M Tryz.underlying70 M (by kernel_rfl) (fun w hw=>?_);exact⟨rfl,(Jx hw).ext⟩
theorem rencode_10 (i:KI) (hi:i.imm<4294967296) (hr:0≤i.d∧i.d≤7∧0≤i.s∧i.s≤7∧-1≤i.index∧i.index≤7∧0≤i.scale∧i.scale≤3) (hv:xM i=true) (hf:fmN i.op=10) (w_0:World):Calls Tryz.prog 31 #[.agg (kiC i).toArray] w_0 fun e w'=>e=.returned (.agg #[.string ⟨(rbK 10 i).toArray⟩,.int .i64 0])∧Ext w_0 w':=by
 obtain⟨d0,d1,s0,s1,x0,x1,c0,c1⟩:=hr;have hfm:=fun w=>wO i.op w;rw[hf] at hfm;have q1:IntKind.i64.wrap (16*i.d)=16*i.d:=sI (by omega) (by omega);have q2:IntKind.i64.wrap (16*i.d+i.s)=16*i.d+i.s:=sI (by omega) (by omega);refine zO (args:=[.agg (kiC i).toArray]) Tryz.func31 M 112 M (Ju M)<|Z1 0 M<|zS (H':=Hp (fun _=>False) w_0 [] [] (fun _=>True)) (fun u hu=>?_) ?_
 ·subst hu;exact Hp.start0
 refine zX<|zY<|zL .none M (yJ M M) (fun b1=>?_);refine zL .none M (yQ (z:=.agg #[.string ⟨#[]⟩,.int .i64 0]) (cs:=Jo) (by kernel_rfl) M) (fun b2=>?_);refine ZX<|zX<|zY<|ZF M (yX 1 M M Tryz.underlying35 M (by kernel_rfl)) ?_;refine zE .none M  (v:=.bool true) (by kernel_rfl) M (fun w hw=>(wZ i hi w).mono fun e w' ⟨h1,h2⟩=>⟨by rw[h1,hv],h2⟩) ?_;refine ZF M (xH M)<|ZT<|zT M (fun h8=>?_) (fun h8=>?_)
 ·cases h8
 ·refine zI<|zU<|zX<|Z4r 0 1 2 8 M M M M<|ZF M (zZ (off:=0) (sz:=0) M Tryz.underlying35 (by kernel_rfl) M) ?_;refine ZF M (zW 1 M M M Tryz.underlying3 M) ?_
  refine ZF M (yV M (by kernel_rfl) Tryz.underlying5 (wF i.op)) ?_
  refine zL .none M (xV (z:=.int .u8 0) M M Tryz.underlying53 (by kernel_rfl) (by kernel_rfl) M M) (fun b13=>?_);refine Za M M<|ZT<|yM (ι:=Unit) (fun _=>[(1,.pointer (some ⟨b1,0,none⟩)),(2,.pointer (some ⟨b2,0,none⟩)),(3,.slice (some ⟨b13,0,none⟩) ([lowB i.op]:Bs).length 1),(4,.int .u8 (wJ i).toNat)]) (fun _=>Hp (fun _=>False) w_0 [(b2,bk 70 [.string ⟨#[]⟩,.int .i64 0]),(b1,kiO i)] [rwG b13 1 [lowB i.op]] (fun _=>True)) ?_ (fun _=>?_)
  ·refine Z5r 0 1 2 3 8 M M M M M<|ZF M (zZ (off:=1) (sz:=0) M Tryz.underlying35 (by kernel_rfl) M) ?_;refine ZF M (zW 2 M M M Tryz.underlying3 M)<|ZF M (uI M M q1)<|ZF M (zZ (off:=2) (sz:=0) M Tryz.underlying35 (by kernel_rfl) M) ?_;refine ZF M (zW 2 M M M Tryz.underlying3 M)<|ZF M (yN M M q2) ?_
   refine ZF M (yV M (by kernel_rfl) Tryz.underlying5 (wF (16*i.d+i.s))) ?_
   exact Za M M<|zK<|zM (ι:=Unit) () (O4 M M M M) (fun w h=>Hp.toRow h (HpG.mineL (j:=0) h M fun h=>h) M cp11.2)
  ·refine zX<|zX<|zY<|ZF M (zZ (off:=0) (sz:=0) M Tryz.underlying35 (by kernel_rfl) M) ?_;refine ZF M (zW 1 M M M Tryz.underlying3 M)<|zE .none M  (v:=.int .i64 (10:Nat)) (by kernel_rfl) M (fun w hw=>hfm w) ?_;refine ZT<|yW<|zX<|Z5r 1 2 3 4 23 M M M M M<|ZF M (zG M M)<|Za M M<|ZT<|yU M<|zX<|zX<|Z6r 1 2 3 4 23 24 M M M M M M<|ZF M (zG M M)<|Za M M<|ZT<|yU M<|zX<|Z7r 1 2 3 4 23 24 32 M M M M M M M<|ZF M (zG M M)<|Za M M<|ZT<|yU M<|Z7r 1 2 3 4 23 24 32 M M M M M M M<|ZF M (zG M M)<|Za M M<|ZT<|yU M<|zX<|Z7r 1 2 3 4 23 24 32 M M M M M M M<|ZF M (zG M M)<|Za M M<|ZT ?_;refine yU M<|zX<|Z8r 1 2 3 4 23 24 32 40 M M M M M M M M<|ZF M (zG M M)<|Za M M<|ZT<|yU M<|zX<|Z9r 1 2 3 4 23 24 32 40 51 M M M M M M M M M<|ZF M (zG M M)<|Za M M<|ZT<|yU M<|zX<|Z10r 1 2 3 4 23 24 32 40 51 63 M M M M M M M M M M<|ZF M (zG M M)<|Za M M<|ZT<|yU M<|zX<|zX<|Z11r 1 2 3 4 23 24 32 40 51 63 72 M M M M M M M M M M M<|ZF M (zG M M)<|Za M M<|ZT<|yU M<|Z12r 1 2 3 4 23 24 32 40 51 63 72 93 M M M M M M M M M M M M<|ZF M (zG M M)<|Za M M<|ZT<|wQ M ?_;refine Z12r 1 2 3 4 23 24 32 40 51 63 72 93 M M M M M M M M M M M M<|Zm M M<|ZF M (zZ (off:=5) (sz:=0) M Tryz.underlying35 (by kernel_rfl) M) ?_;refine ZF M (zW 1 M M M Tryz.underlying22 M) ?_
   refine ZF M (yV M (by kernel_rfl) Tryz.underlying5 (low8 i.imm)) ?_
   refine zL .none M (xV (z:=.int .u8 0) M M Tryz.underlying53 (by kernel_rfl) (by kernel_rfl) M M) (fun b100=>?_);refine xZ (ι:=Nat×Nat) (val:=fun q=>.slice (some ⟨q.1,0,none⟩) ([lowB i.op]++[byL (i.imm%256)]).length q.2) (H':=fun q=>Hp (fun _=>False) w_0 [(b100,bk 5 (Lib.byteCells [byL (i.imm%256)])),(b2,bk 70 [.string ⟨#[]⟩,.int .i64 0]),(b1,kiO i)] [rwG q.1 q.2 ([lowB i.op]++[byL (i.imm%256)])] (fun _=>True)) .none M  (tE (c:=[byL (i.imm%256)]) 0 M (fun w hw=>uC (j:=0) M hw) (Nat.succ_le_of_lt (Nat.succ_pos _)) M M (Ju M)) (fun i101=>?_);refine Za M M<|zK<|yY<|zU<|zX<|Z12r 1 2 3 4 23 24 32 40 51 63 72 93 M M M M M M M M M M M M<|Zm M M ?_
   refine ZF M (wE 0 M M) ?_
   refine ZF M (yP [.string ⟨#[]⟩,.int .i64 0] [(0,1),(1,1)] M (by kernel_rfl) (by kernel_rfl) M) ?_;refine ZR 1 M M M M M (by kernel_rfl) ?_;refine ZT<|zQ<|yD M M 1 M Tryz.underlying70 M (by kernel_rfl) (fun w hw=>?_);exact⟨rfl,(Jx hw).ext⟩
theorem rencode_11 (i:KI) (hi:i.imm<4294967296) (hr:0≤i.d∧i.d≤7∧0≤i.s∧i.s≤7∧-1≤i.index∧i.index≤7∧0≤i.scale∧i.scale≤3) (hv:xM i=true) (hf:fmN i.op=11) (w_0:World):Calls Tryz.prog 31 #[.agg (kiC i).toArray] w_0 fun e w'=>e=.returned (.agg #[.string ⟨(rbK 11 i).toArray⟩,.int .i64 0])∧Ext w_0 w':=by
 obtain⟨d0,d1,s0,s1,x0,x1,c0,c1⟩:=hr;have hfm:=fun w=>wO i.op w;rw[hf] at hfm;have q1:IntKind.i64.wrap (16*i.d)=16*i.d:=sI (by omega) (by omega);have q2:IntKind.i64.wrap (16*i.d+i.s)=16*i.d+i.s:=sI (by omega) (by omega);refine zO (args:=[.agg (kiC i).toArray]) Tryz.func31 M 112 M (Ju M)<|Z1 0 M<|zS (H':=Hp (fun _=>False) w_0 [] [] (fun _=>True)) (fun u hu=>?_) ?_
 ·subst hu;exact Hp.start0
 refine zX<|zY<|zL .none M (yJ M M) (fun b1=>?_);refine zL .none M (yQ (z:=.agg #[.string ⟨#[]⟩,.int .i64 0]) (cs:=Jo) (by kernel_rfl) M) (fun b2=>?_);refine ZX<|zX<|zY<|ZF M (yX 1 M M Tryz.underlying35 M (by kernel_rfl)) ?_;refine zE .none M  (v:=.bool true) (by kernel_rfl) M (fun w hw=>(wZ i hi w).mono fun e w' ⟨h1,h2⟩=>⟨by rw[h1,hv],h2⟩) ?_;refine ZF M (xH M)<|ZT<|zT M (fun h8=>?_) (fun h8=>?_)
 ·cases h8
 ·refine zI<|zU<|zX<|Z4r 0 1 2 8 M M M M<|ZF M (zZ (off:=0) (sz:=0) M Tryz.underlying35 (by kernel_rfl) M) ?_;refine ZF M (zW 1 M M M Tryz.underlying3 M) ?_
  refine ZF M (yV M (by kernel_rfl) Tryz.underlying5 (wF i.op)) ?_
  refine zL .none M (xV (z:=.int .u8 0) M M Tryz.underlying53 (by kernel_rfl) (by kernel_rfl) M M) (fun b13=>?_);refine Za M M<|ZT<|yM (ι:=Unit) (fun _=>[(1,.pointer (some ⟨b1,0,none⟩)),(2,.pointer (some ⟨b2,0,none⟩)),(3,.slice (some ⟨b13,0,none⟩) ([lowB i.op]:Bs).length 1),(4,.int .u8 (wJ i).toNat)]) (fun _=>Hp (fun _=>False) w_0 [(b2,bk 70 [.string ⟨#[]⟩,.int .i64 0]),(b1,kiO i)] [rwG b13 1 [lowB i.op]] (fun _=>True)) ?_ (fun _=>?_)
  ·refine Z5r 0 1 2 3 8 M M M M M<|ZF M (zZ (off:=1) (sz:=0) M Tryz.underlying35 (by kernel_rfl) M) ?_;refine ZF M (zW 2 M M M Tryz.underlying3 M)<|ZF M (uI M M q1)<|ZF M (zZ (off:=2) (sz:=0) M Tryz.underlying35 (by kernel_rfl) M) ?_;refine ZF M (zW 2 M M M Tryz.underlying3 M)<|ZF M (yN M M q2) ?_
   refine ZF M (yV M (by kernel_rfl) Tryz.underlying5 (wF (16*i.d+i.s))) ?_
   exact Za M M<|zK<|zM (ι:=Unit) () (O4 M M M M) (fun w h=>Hp.toRow h (HpG.mineL (j:=0) h M fun h=>h) M cp11.2)
  ·refine zX<|zX<|zY<|ZF M (zZ (off:=0) (sz:=0) M Tryz.underlying35 (by kernel_rfl) M) ?_;refine ZF M (zW 1 M M M Tryz.underlying3 M)<|zE .none M  (v:=.int .i64 (11:Nat)) (by kernel_rfl) M (fun w hw=>hfm w) ?_;refine ZT<|yW<|zX<|Z5r 1 2 3 4 23 M M M M M<|ZF M (zG M M)<|Za M M<|ZT<|yU M<|zX<|zX<|Z6r 1 2 3 4 23 24 M M M M M M<|ZF M (zG M M)<|Za M M<|ZT<|yU M<|zX<|Z7r 1 2 3 4 23 24 32 M M M M M M M<|ZF M (zG M M)<|Za M M<|ZT<|wQ M<|zI<|zU<|wQ M<|Z7r 1 2 3 4 23 24 32 M M M M M M M<|Zm M M<|Zm M M<|zL .none M (xV (z:=.int .u8 0) M M Tryz.underlying53 (by kernel_rfl) (by kernel_rfl) M M) (fun b38=>?_);refine xZ (ι:=Nat×Nat) (val:=fun q=>.slice (some ⟨q.1,0,none⟩) ([lowB i.op]++[wJ i]).length q.2) (H':=fun q=>Hp (fun _=>False) w_0 [(b38,bk 5 (Lib.byteCells [wJ i])),(b2,bk 70 [.string ⟨#[]⟩,.int .i64 0]),(b1,kiO i)] [rwG q.1 q.2 ([lowB i.op]++[wJ i])] (fun _=>True)) .none M  (tE (c:=[wJ i]) 0 M (fun w hw=>uC (j:=0) M hw) (Nat.succ_le_of_lt (Nat.succ_pos _)) M M (Ju M)) (fun i39=>?_);refine Za M M<|zK<|yY<|zU<|zX<|Z7r 1 2 3 4 23 24 32 M M M M M M M<|Zm M M ?_
   refine ZF M (wE 0 M M) ?_
   refine ZF M (yP [.string ⟨#[]⟩,.int .i64 0] [(0,1),(1,1)] M (by kernel_rfl) (by kernel_rfl) M) ?_;refine ZR 1 M M M M M (by kernel_rfl) ?_;refine ZT<|zQ<|yD M M 1 M Tryz.underlying70 M (by kernel_rfl) (fun w hw=>?_);exact⟨rfl,(Jx hw).ext⟩
theorem rencode_12 (i:KI) (hi:i.imm<4294967296) (hr:0≤i.d∧i.d≤7∧0≤i.s∧i.s≤7∧-1≤i.index∧i.index≤7∧0≤i.scale∧i.scale≤3) (hv:xM i=true) (hf:fmN i.op=12) (w_0:World):Calls Tryz.prog 31 #[.agg (kiC i).toArray] w_0 fun e w'=>e=.returned (.agg #[.string ⟨(rbK 12 i).toArray⟩,.int .i64 0])∧Ext w_0 w':=by
 obtain⟨d0,d1,s0,s1,x0,x1,c0,c1⟩:=hr;have hfm:=fun w=>wO i.op w;rw[hf] at hfm;have q1:IntKind.i64.wrap (16*i.d)=16*i.d:=sI (by omega) (by omega);have q2:IntKind.i64.wrap (16*i.d+i.s)=16*i.d+i.s:=sI (by omega) (by omega);refine zO (args:=[.agg (kiC i).toArray]) Tryz.func31 M 112 M (Ju M)<|Z1 0 M<|zS (H':=Hp (fun _=>False) w_0 [] [] (fun _=>True)) (fun u hu=>?_) ?_
 ·subst hu;exact Hp.start0
 refine zX<|zY<|zL .none M (yJ M M) (fun b1=>?_);refine zL .none M (yQ (z:=.agg #[.string ⟨#[]⟩,.int .i64 0]) (cs:=Jo) (by kernel_rfl) M) (fun b2=>?_);refine ZX<|zX<|zY<|ZF M (yX 1 M M Tryz.underlying35 M (by kernel_rfl)) ?_;refine zE .none M  (v:=.bool true) (by kernel_rfl) M (fun w hw=>(wZ i hi w).mono fun e w' ⟨h1,h2⟩=>⟨by rw[h1,hv],h2⟩) ?_;refine ZF M (xH M)<|ZT<|zT M (fun h8=>?_) (fun h8=>?_)
 ·cases h8
 ·refine zI<|zU<|zX<|Z4r 0 1 2 8 M M M M<|ZF M (zZ (off:=0) (sz:=0) M Tryz.underlying35 (by kernel_rfl) M) ?_;refine ZF M (zW 1 M M M Tryz.underlying3 M) ?_
  refine ZF M (yV M (by kernel_rfl) Tryz.underlying5 (wF i.op)) ?_
  refine zL .none M (xV (z:=.int .u8 0) M M Tryz.underlying53 (by kernel_rfl) (by kernel_rfl) M M) (fun b13=>?_);refine Za M M<|ZT<|yM (ι:=Unit) (fun _=>[(1,.pointer (some ⟨b1,0,none⟩)),(2,.pointer (some ⟨b2,0,none⟩)),(3,.slice (some ⟨b13,0,none⟩) ([lowB i.op]:Bs).length 1),(4,.int .u8 (wJ i).toNat)]) (fun _=>Hp (fun _=>False) w_0 [(b2,bk 70 [.string ⟨#[]⟩,.int .i64 0]),(b1,kiO i)] [rwG b13 1 [lowB i.op]] (fun _=>True)) ?_ (fun _=>?_)
  ·refine Z5r 0 1 2 3 8 M M M M M<|ZF M (zZ (off:=1) (sz:=0) M Tryz.underlying35 (by kernel_rfl) M) ?_;refine ZF M (zW 2 M M M Tryz.underlying3 M)<|ZF M (uI M M q1)<|ZF M (zZ (off:=2) (sz:=0) M Tryz.underlying35 (by kernel_rfl) M) ?_;refine ZF M (zW 2 M M M Tryz.underlying3 M)<|ZF M (yN M M q2) ?_
   refine ZF M (yV M (by kernel_rfl) Tryz.underlying5 (wF (16*i.d+i.s))) ?_
   exact Za M M<|zK<|zM (ι:=Unit) () (O4 M M M M) (fun w h=>Hp.toRow h (HpG.mineL (j:=0) h M fun h=>h) M cp11.2)
  ·refine zX<|zX<|zY<|ZF M (zZ (off:=0) (sz:=0) M Tryz.underlying35 (by kernel_rfl) M) ?_;refine ZF M (zW 1 M M M Tryz.underlying3 M)<|zE .none M  (v:=.int .i64 (12:Nat)) (by kernel_rfl) M (fun w hw=>hfm w) ?_;refine ZT<|yW<|zX<|Z5r 1 2 3 4 23 M M M M M<|ZF M (zG M M)<|Za M M<|ZT<|yU M<|zX<|zX<|Z6r 1 2 3 4 23 24 M M M M M M<|ZF M (zG M M)<|Za M M<|ZT<|yU M<|zX<|Z7r 1 2 3 4 23 24 32 M M M M M M M<|ZF M (zG M M)<|Za M M<|ZT<|yU M<|Z7r 1 2 3 4 23 24 32 M M M M M M M<|ZF M (zG M M)<|Za M M<|ZT<|wQ M<|Z7r 1 2 3 4 23 24 32 M M M M M M M<|Zm M M<|Zm M M<|zL .none M (xV (z:=.int .u8 0) M M Tryz.underlying53 (by kernel_rfl) (by kernel_rfl) M M) (fun b38=>?_);refine xZ (ι:=Nat×Nat) (val:=fun q=>.slice (some ⟨q.1,0,none⟩) ([lowB i.op]++[wJ i]).length q.2) (H':=fun q=>Hp (fun _=>False) w_0 [(b38,bk 5 (Lib.byteCells [wJ i])),(b2,bk 70 [.string ⟨#[]⟩,.int .i64 0]),(b1,kiO i)] [rwG q.1 q.2 ([lowB i.op]++[wJ i])] (fun _=>True)) .none M  (tE (c:=[wJ i]) 0 M (fun w hw=>uC (j:=0) M hw) (Nat.succ_le_of_lt (Nat.succ_pos _)) M M (Ju M)) (fun i39=>?_);refine Za M M<|zK<|yY<|zU<|zX<|Z7r 1 2 3 4 23 24 32 M M M M M M M<|Zm M M ?_
   refine ZF M (wE 0 M M) ?_
   refine ZF M (yP [.string ⟨#[]⟩,.int .i64 0] [(0,1),(1,1)] M (by kernel_rfl) (by kernel_rfl) M) ?_;refine ZR 1 M M M M M (by kernel_rfl) ?_;refine ZT<|zQ<|yD M M 1 M Tryz.underlying70 M (by kernel_rfl) (fun w hw=>?_);exact⟨rfl,(Jx hw).ext⟩
end Go.Proofs.YtkaepknpplhgkaaGreatDoor
namespace Go.Proofs.YtkaepknpplhgkaaGreatDoor
open Go.RowKit
theorem pair_eq {d s:Nat}(hs:s<16):lowB (Int.ofNat (((d:Int).toNat <<< 4) ||| (s:Int).toNat))=lowB (16*(d:Int)+(s:Int)):=by
 congr 1;rw[Int.toNat_natCast,Int.toNat_natCast,← Nat.shiftLeft_add_eq_or_of_lt (by omega),Nat.shiftLeft_eq];show ((d*2 ^ 4+s:Nat):Int)=_;omega
theorem l_of {op:Int}{z z':Nat}{l l':List Fld}(h1:qJ op=some (z,l)) (h2:qJ op=some (z',l')):l=l':=by
 rw[h1] at h2;cases h2;rfl
theorem rbK_enc {i:KI}(h:VK i):uP i=some (rbK (fmN i.op) i):=by
 obtain⟨l,h1,h2⟩:=enc_vk h;rw[h2];obtain⟨f0,f1,f2,f3,f4,f5,f6,f7,f8,f9,f10⟩:=fm_all
 cases h with
 | none k hk =>
  obtain rfl:=l_of h1 (vY f0 hk);rw[vB.1 (by dsimp only;omega)];rfl
 | reg k d hk hd =>
  obtain rfl:=l_of h1 (vY f1 hk);rw[vB.2.1 (by dsimp only;omega)];rfl
 | regs k d s hk hd hs =>
  obtain rfl:=l_of h1 (vY f2 hk);rw[vB.2.2.1 (by dsimp only;omega)];exact congrArg some (congrArg (lowB _::·) (congrArg (·::[]) (pair_eq (by omega))))
 | short k d n hk hd hn hf =>
  obtain rfl:=l_of h1 (vY f3 hk);rw[vB.2.2.2.1 (by dsimp only;omega)];rfl
 | imm k d n hk hd hn =>
  obtain rfl:=l_of h1 (vY f4 hk);rw[vB.2.2.2.2.1 (by dsimp only;omega)];rfl
 | mem k d s n hk hd hs hn hf =>
  obtain rfl:=l_of h1 (vY f5 hk);rw[vB.2.2.2.2.2.1 (by dsimp only;omega)];exact congrArg some (congrArg (lowB _::·) (congrArg (·::[byL (n%256)]) (pair_eq (by omega))))
 | idx k d s n x hk hd hs hn hx =>
  obtain rfl:=l_of h1 (vY f6 hk);rw[vB.2.2.2.2.2.2.1 (by dsimp only;omega)]
  cases x with
  | none=>exact congrArg some (congrArg (lowB _::·) (congrArg (·::8::wK n 4) (pair_eq (by omega))))
  | some p =>
   obtain⟨p1,p2⟩:=p;obtain⟨g1,g2⟩:=hx _ rfl;dsimp only at g1 g2
   have e2:putF ⟨((88+k:Nat):Int),d,s,idxV (some (p1,p2)),scaV (some (p1,p2)),n,7⟩ .index=[idxB ⟨((88+k:Nat):Int),d,s,idxV (some (p1,p2)),scaV (some (p1,p2)),n,7⟩]:=by
    show (if (p1:Int)<0 then [8] else [lowB (Int.ofNat (((p2:Int).toNat <<< 4) ||| (p1:Int).toNat))])=[if 0≤(p1:Int) then lowB ((p1:Int)+16*(p2:Int)) else 8];rw[Ku (by omega),Kv (by omega),pair_eq (by omega),Int.add_comm]
   show some (lowB _::lowB _::(putF _ .index++(wK n 4++[])))=_;rw[e2];exact congrArg some (congrArg (lowB _::·) (congrArg (·::idxB _::wK n 4) (pair_eq (by omega))))
 | cond k n hk hn hf =>
  obtain rfl:=l_of h1 (vY f7 hk);rw[vB.2.2.2.2.2.2.2.1 (by dsimp only;omega)];rfl
 | jump k n hk hn =>
  obtain rfl:=l_of h1 (vY f8 hk);rw[vB.2.2.2.2.2.2.2.2 (by dsimp only;omega)];rfl
 | sys n hn =>
  obtain rfl:=l_of h1 (vY f9 (show 0<1 by decide));rfl
 | getc d s hd hs =>
  obtain rfl:=l_of h1 (vY f10 (show 0<2 by decide));exact congrArg some (congrArg (lowB _::·) (congrArg (·::[]) (pair_eq (by omega))))
 | setc d s hd hs =>
  obtain rfl:=l_of h1 (vY f10 (show 1<2 by decide));exact congrArg some (congrArg (lowB _::·) (congrArg (·::[]) (pair_eq (by omega))))
theorem rencode_no (i:KI) (hi:i.imm<4294967296) (hv:xM i=false) (w_0:World):Calls Tryz.prog 31 #[.agg (kiC i).toArray] w_0 fun e w'=>e=.returned (.agg #[.string ⟨#[]⟩,.int .i64 12])∧Ext w_0 w':=by
 refine zO (args:=[.agg (kiC i).toArray]) Tryz.func31 M 112 M (Ju M)<|Z1 0 M<|zS (H':=Hp (fun _=>False) w_0 [] [] (fun _=>True)) (fun u hu=>?_) ?_
 ·subst hu;exact Hp.start0
 refine zX<|zY<|zL .none M (yJ M M) (fun b1=>?_);refine zL .none M (yQ (z:=.agg #[.string ⟨#[]⟩,.int .i64 0]) (cs:=Jo) (by kernel_rfl) M) (fun b2=>?_);refine ZX<|zX<|zY<|ZF M (yX 1 M M Tryz.underlying35 M (by kernel_rfl)) ?_;refine zE .none M  (v:=.bool false) (by kernel_rfl) M (fun w hw=>(wZ i hi w).mono fun e w' ⟨h1,h2⟩=>⟨by rw[h1,hv],h2⟩) ?_;refine ZF M (xH M)<|ZT<|zT M (fun h8=>?_) (fun h8=>?_)
 ·refine zX<|Z4r 0 1 2 8 M M M M<|ZF M (yP [.string ⟨#[]⟩,.int .i64 0] [(0,1),(1,1)] M (by kernel_rfl) (by kernel_rfl) M) ?_;refine ZR 0 M M M M M (by kernel_rfl) ?_;refine ZT<|zQ<|zJ<|yD M M 0 M Tryz.underlying70 M (by kernel_rfl) (fun w hw=>?_);exact⟨rfl,(Jx hw).ext⟩
 ·exact absurd h8 (by decide)
theorem rencode_any (i:KI) (hi:i.imm<4294967296) (w_0:World):Calls Tryz.prog 31 #[.agg (kiC i).toArray] w_0 fun e w'=>e=.returned (.agg #[.string ⟨((uP i).getD []).toArray⟩,.int .i64 (if xM i=true then 0 else 12)])∧Ext w_0 w':=by
 cases hv:xM i with
 | false =>
  have hn:uP i=none:=by
   cases he:uP i with
   | none=>rfl
   | some c=>unfold xM at hv;rw[he] at hv;cases hv
  rw[hn];exact rencode_no i hi hv w_0
 | true =>
  have hvk:VK i:=vK_of hi hv
  obtain⟨cd,hcd⟩:∃c,uP i=some c:=by
   unfold xM at hv;exact Option.isSome_iff_exists.1 hv
  obtain⟨z,l,hfk,_,hrg,_⟩:=encK_rng hcd;have he:=rbK_enc hvk;rw[he]
  have hr:0≤i.d∧i.d≤7∧0≤i.s∧i.s≤7∧-1≤i.index∧i.index≤7∧0≤i.scale∧i.scale≤3:=by
   unfold qL at hrg;simp only[Kp,Kt] at hrg;refine⟨hrg.1.1.1.1,hrg.1.1.1.2,hrg.1.1.2.1,?_,hrg.1.2.1,hrg.1.2.2,hrg.2.1,hrg.2.2⟩;have:=hrg.1.1.2.2
   revert this
   repeat' split
   all_goals (intro h;omega)
  have hlt:=fmN_lt i.op;obtain⟨f,hf⟩:∃f,fmN i.op=f:=⟨_,rfl⟩;rw[hf] at hlt ⊢
  match f,hlt with
  | 0,_ =>
   have h0:=vN_validK hi;unfold vN at h0;rw[hf,hv] at h0;cases h0
  | 1,_=>exact rencode_1 i hi hr hv hf w_0
  | 2,_=>exact rencode_2 i hi hr hv hf w_0
  | 3,_=>exact rencode_3 i hi hr hv hf w_0
  | 4,_=>exact rencode_4 i hi hr hv hf w_0
  | 5,_=>exact rencode_5 i hi hr hv hf w_0
  | 6,_=>exact rencode_6 i hi hr hv hf w_0
  | 7,_=>exact rencode_7 i hi hr hv hf w_0
  | 8,_=>exact rencode_8 i hi hr hv hf w_0
  | 9,_=>exact rencode_9 i hi hr hv hf w_0
  | 10,_=>exact rencode_10 i hi hr hv hf w_0
  | 11,_=>exact rencode_11 i hi hr hv hf w_0
  | 12,_=>exact rencode_12 i hi hr hv hf w_0
end Go.Proofs.YtkaepknpplhgkaaGreatDoor
namespace Go.Proofs.YtkaepknpplhgkaaGreatDoor
open Go.RowKit
theorem rextend_any (c:Nat) (hc:c<256) (w_0:World):Calls Tryz.prog 59 #[.int .u8 c] w_0 fun e w'=>e=.returned (.int .u32 (sxL c 8:Nat))∧Ext w_0 w':=by
 refine zO (args:=[.int .u8 c]) Tryz.func59 M 10 M (Ju M)<|Z1 0 M<|zS (H':=Hp (fun _=>False) w_0 [] [] (fun _=>True)) (fun u hu=>?_) ?_
 ·subst hu;exact Hp.start0
 refine zX<|zY<|Za M M<|ZX<|zX<|zY<|Zm M M<|ZF M (xD M M)<|ZT<|zT M (fun h4=>?_) (fun h4=>?_)
 ·replace h4:=Jv h4;refine zX<|Z3r 0 2 4 M M M<|Zm M M ?_
  refine ZF M (yV M (by kernel_rfl) Tryz.underlying22 (u32n (show c<4294967296 by omega) (Ks _))) ?_
  refine ZF M (yN M M (show IntKind.u32.wrap ((c:Int)+4294967040)=((c+4294967040:Nat):Int) from u32n (show c+4294967040<4294967296 by omega) (Ks _))) ?_;refine Za M M<|ZT<|zQ<|zJ<|zP M M (fun w hw=>?_);exact⟨by congr 2;unfold sxL;simp only[Nat.reducePow,Nat.reduceSub];split<;>omega,hw.ext0⟩
 ·replace h4:=Jw h4;refine zI<|zU<|zX<|Z3r 0 2 4 M M M<|Zm M M ?_
  refine ZF M (yV M (by kernel_rfl) Tryz.underlying22 (u32n (show c<4294967296 by omega) (Ks _))) ?_
  refine Za M M<|ZT<|zQ<|zP M M (fun w hw=>?_);exact⟨by congr 2;unfold sxL;simp only[Nat.reducePow,Nat.reduceSub];split<;>omega,hw.ext0⟩
def mkA:List Nat:=[0,1,2,3,4,96,100,106,109,112,113,128,129,130]
def mkC (k:Nat):List Nat:=[32+k,48+k,64+k]++((if k<6 then [16+k] else [])++(if k<7 then [80+k,88+k] else []))
def mkL:Nat→List Nat
 | 0=>mkA
 | k+1=>mkL k++mkC k
theorem mkL_len:(mkL 15).length=79:=by kernel_rfl
theorem mkL_fm:∀n,n<79→fmN (((mkL 15).getD n 0:Nat):Int)≠0:=by
 intro n hn;have h:((List.range 79).all fun n=>decide (fmN (((mkL 15).getD n 0:Nat):Int)≠0))=true:=by kernel_rfl
 exact Jv (List.all_eq_true.1 h n (List.mem_range.2 hn))
end Go.Proofs.YtkaepknpplhgkaaGreatDoor
namespace Go.Proofs.YtkaepknpplhgkaaGreatDoor
open Go.RowKit
abbrev nI (l:List Nat):List Value:=l.map fun n=>.int .i64 (n:Nat)
abbrev mkR (g cap k:Nat):Rw:=⟨.slice (some ⟨g,0,none⟩) (mkL k).length cap,3,1,(mkL k).length,nI (mkL k)⟩
theorem mkL_le:∀k,k≤15→(mkL k).length≤79:=by
 intro k hk;have h:((List.range 16).all fun k=>decide ((mkL k).length≤79))=true:=by kernel_rfl
 exact Jv (List.all_eq_true.1 h k (List.mem_range.2 (by omega)))
theorem mk_row {B:Nat→Prop}{w0 w:World}{L L':List (Nat×Obj)}{X:World→Prop}{g cap k n:Nat}{xs:List Value}(h:Hp B w0 L [⟨.slice (some ⟨g,0,none⟩) n cap,3,1,n,xs⟩] X w) (hl:L'.Sublist L) (e2:xs=nI (mkL (k+1))) (e1:n=(mkL (k+1)).length):Hp B w0 L' [mkR g cap (k+1)] X w:=by
 subst e1;subst e2;exact Hp.drop h hl (.refl _)
theorem mkC_1 {k:Nat}(h:k<6):mkC k=[32+k,48+k,64+k]++([16+k]++[80+k,88+k]):=by unfold mkC;rw[Kv h,Kv (by omega)]
theorem mkC_2 {k:Nat}(h:¬k<6) (h':k<7):mkC k=[32+k,48+k,64+k]++([]++[80+k,88+k]):=by unfold mkC;rw[Ku h,Kv h']
theorem mkC_3 {k:Nat}(h:¬k<7):mkC k=[32+k,48+k,64+k]++([]++[]):=by unfold mkC;rw[Ku (by omega),Ku h]
def JM (g b1:Nat) (c:List Value) (w:World):Prop:=(∃rest,Blk g (bk 3 (nI (mkL 15)++rest)) w)∧Blk b1 (bk 67 c) w
theorem JM.stab {g b1:Nat}{c:List Value}:uM (JM g b1 c):=fun w o ⟨⟨r,h1⟩,h2⟩=>⟨⟨r,Blk.stab w o h1⟩,Blk.stab w o h2⟩
theorem JM.ext {g b1:Nat}{c:List Value}:∀w w',JM g b1 c w→Ext w w'→JM g b1 c w':=fun _ _ ⟨⟨r,h1⟩,h2⟩ hx=>⟨⟨r,h1.onE hx⟩,h2.onE hx⟩
theorem JM.cell {g b1 n:Nat}{c:List Value}{w:World}(h:JM g b1 c w) (hn:n<79):w.cell? ⟨g,0+((n:Nat):Int).toNat*1,none⟩=some (.int .i64 ((mkL 15).getD n 0:Nat)):=by
 obtain⟨⟨rest,hb⟩,_⟩:=h;have hl:n<(mkL 15).length:=by rw[mkL_len];exact hn
 have:0+((n:Nat):Int).toNat*1=n:=by omega
 rw[this];refine Blk.cell (T:=3) hb ?_;rw[List.getElem?_append_left (by simpa [nI] using hl)];simp[nI,Ka hl]
theorem and_n (a:Int) (m:Nat) (hm:m<9223372036854775808):∃k:Nat,bits .and .i64 a (m:Nat)=k∧k≤m:=by
 have h:(BitVec.ofInt 64 a &&& BitVec.ofInt 64 ((m:Nat):Int)).toNat≤m:=by
  rw[BitVec.toNat_and];refine Ac Nat.and_le_right ?_;rw[BitVec.toNat_ofInt];omega
 refine⟨(BitVec.ofInt 64 a &&& BitVec.ofInt 64 ((m:Nat):Int)).toNat,?_,h⟩;show IntKind.i64.wrap ((BitVec.ofInt 64 a &&& BitVec.ofInt 64 ((m:Nat):Int)).toNat:Int)=_;exact i64_in _ (by omega) (by omega)
theorem and_255 (n:Nat) (hn:n<4294967296):bits .and .u32 (n:Int) 255=((n%256:Nat):Int):=by
 have e:(BitVec.ofInt 32 (n:Int) &&& BitVec.ofInt 32 255).toNat=n%256:=by
  rw[BitVec.toNat_and,BitVec.toNat_ofInt,BitVec.toNat_ofInt];have h1:((n:Int)%((2 ^ 32:Nat):Int)).toNat=n:=by omega
  have h2:((255:Int)%((2 ^ 32:Nat):Int)).toNat=2 ^ 8-1:=by decide
  rw[h1,h2,Nat.and_two_pow_sub_one_eq_mod]
 show IntKind.u32.wrap ((BitVec.ofInt 32 (n:Int) &&& BitVec.ofInt 32 255).toNat:Int)=_;rw[e];exact rI _ (by omega) (by omega)
theorem rU {c:Nat}(h:c<256):uY (sxL c 8) 8=true∧sxL c 8<4294967296:=by
 unfold uY sxL;simp only[Nat.reducePow,Nat.reduceSub,Bool.or_eq_true,Kt]
 split<;>omega
theorem uV {k:Nat}(h:k<8):regN (k:Int)=true:=Aa (by omega)
theorem xN_7 {x y:Nat}{op d s z:Int}{m:Nat}(hx:x<8) (hy:y≤3):xN 7 ⟨op,d,s,(x:Nat),(y:Nat),m,z⟩=true:=by
 unfold xN;dsimp only;rw[Kv ⟨rfl,by omega⟩,uV hx];exact Aa (by omega)
set_option maxHeartbeats 4000000 in
theorem rmade_f (a b c d e:Int) (n:Nat) (hn:n<79) (hnq:((bits .and .i64 a 65535).tmod 79)=(n:Int)) (o:Nat) (hoe:(mkL 15).getD n 0=o) (f:Nat) (hf:fmN (o:Int)=f) (hf0:f≠0) (hf13:f<13) (w_0:World):Calls Tryz.prog 28 #[.agg #[.int .i64 a,.int .i64 b,.int .i64 c,.int .i64 d,.int .i64 e]] w_0 fun e w'=>(∃i,VK i∧i.imm<4294967296∧e=.returned (.agg (kiC i).toArray))∧Ext w_0 w':=by
 have hl15:(mkL 15).length=79:=mkL_len;have hop:=fmN_op (op:=(o:Nat)) (by rw[hf];exact hf0);have hsz:=fun w=>rsize_any o (by omega) w;rw[hf] at hsz;have hfm:=fun w=>wO ((o:Nat):Int) w;rw[hf] at hfm;obtain⟨kd,hkd,hkd8⟩:=and_n b 7 (by decide);obtain⟨ks,hks,hks8⟩:=and_n c 7 (by decide);obtain⟨k3,hk3,hk34⟩:=and_n c 3 (by decide);obtain⟨nv,hv,hnv⟩:∃n:Nat,IntKind.u32.wrap d=n∧n<4294967296:=⟨(d%4294967296).toNat,by rw[u32w];omega,by omega⟩;obtain⟨kx,hkx,hkx8⟩:=and_n (e.fdiv (2 ^ (min (1:Int).toNat IntKind.i64.bits))) 7 (by decide);obtain⟨ky,hky,hky4⟩:=and_n (e.fdiv (2 ^ (min (4:Int).toNat IntKind.i64.bits))) 3 (by decide);obtain⟨k1,hk1,hk12⟩:=and_n e 1 (by decide);obtain⟨km,hkm,hkm2⟩:=and_n e 65535 (by decide);obtain⟨k4,hk4⟩:∃k,k=km%14:=⟨_,rfl⟩;replace hkd:=fun _:Unit=>hkd;replace hks:=fun _:Unit=>hks;replace hk3:=fun _:Unit=>hk3;replace hkx:=fun _:Unit=>hkx;replace hky:=fun _:Unit=>hky;replace hk1:=fun _:Unit=>hk1;replace hkm:=fun _:Unit=>hkm;replace hv:=fun _:Unit=>hv;replace hnq:=fun _:Unit=>hnq;have hf8:fmN ((96+k4:Nat):Int)=8:=vB.2.2.2.2.2.2.2.1 (by omega);have hfm8:=fun w=>wO ((96+k4:Nat):Int) w;rw[hf8] at hfm8;refine zO (args:=[.agg #[.int .i64 a,.int .i64 b,.int .i64 c,.int .i64 d,.int .i64 e]]) Tryz.func28 M 153 M (Ju M)<|Z1 0 M<|zS (H':=Hp (fun _=>False) w_0 [] [] (fun _=>True)) (fun u hu=>?_) ?_
 ·subst hu;exact Hp.start0
 refine zX<|zY<|zL .none M (yJ M M) (fun b1=>?_);refine zL .none M (yQ (z:=Jc) (cs:=Jj) (by kernel_rfl) M) (fun b2=>?_);refine ZX<|zY<|zL .none M (tZ (z:=.int .i64 0) M M M M Tryz.underlying111 (by kernel_rfl) (by kernel_rfl) M M) (fun b8=>?_);refine Za M M<|ZX<|zX<|Z4r 0 1 2 3 M M M M<|Za M M<|ZT<|yW<|xF (ι:={j:Nat×(Nat×Nat) // j.1≤15}) (fun j=>[(1,.pointer (some ⟨b1,0,none⟩)),(2,.pointer (some ⟨b2,0,none⟩)),(3,.slice (some ⟨j.1.2.1,0,none⟩) (mkL j.1.1).length j.1.2.2),(4,.int .i64 (j.1.1:Nat))]) (fun j=>Hp (fun _=>False) w_0 [(b2,bk 35 (kiC ⟨0,0,0,0,0,0,0⟩)),(b1,bk 67 [.int .i64 a,.int .i64 b,.int .i64 c,.int .i64 d,.int .i64 e])] [mkR j.1.2.1 j.1.2.2 j.1.1] (fun _=>True)) (fun j=>15-j.1.1) ⟨(0,(b8,14)),Kr _⟩ ?_ ?_ (fun j=>?_)
 ·exact .cons M<|.cons M<|.cons M<|.cons M<|.nil
 ·exact fun w h=>Hp.toRow h (HpG.old h (k:=0) M) M (by show 14≤maxLen;unfold maxLen;decide)
 obtain⟨⟨k,g,cap⟩,hk⟩:=j;dsimp only at hk ⊢;have hle:=mkL_le k hk;refine zX<|zX<|zY<|Zm M M<|ZF M (xR M M)<|ZT<|zT M (fun h10=>?_) (fun h10=>?_)
 ·replace h10:=Jv h10;refine zI<|zU<|zX<|yW<|zX<|Z5r 1 2 3 4 10 M M M M M<|Zm M M<|Zm M M<|ZF M (yN M M (i64_in _ (by omega) (by omega))) ?_;refine Zm M M<|ZF M (yN M M (i64_in _ (by omega) (by omega))) ?_;refine Zm M M<|ZF M (yN M M (i64_in _ (by omega) (by omega))) ?_;refine zL .none M (tZ (z:=.int .i64 0) M M M M Tryz.underlying111 (by kernel_rfl) (by kernel_rfl) M M) (fun b20=>?_);refine wl_append (z:=.int .i64 0) (bytes:=8) 0 0 .none M M M M M Tryz.underlying111 (by kernel_rfl) M M M M M (by omega) (by omega) (fun a21 c21=>?_);refine Za M M<|ZX<|zX<|Z5r 1 2 3 4 10 M M M M M<|Zm M M<|ZF M (xR M M)<|ZT<|zT M (fun h23=>?_) (fun h23=>?_)
  ·replace h23:=Jv h23;refine Z6r 1 2 3 4 10 23 M M M M M M<|Zm M M<|Zm M M<|ZF M (yN M M (i64_in _ (by omega) (by omega))) ?_;refine zL .none M (xV (z:=.int .i64 0) M M Tryz.underlying111 (by kernel_rfl) (by kernel_rfl) M M) (fun b27=>?_);refine wl_append (z:=.int .i64 0) (bytes:=8) 0 0 .none M M M M M Tryz.underlying111 (by kernel_rfl) M M M M M (by omega) (by omega) (fun a28 c28=>?_);refine Za M M<|ZX<|Z6r 1 2 3 4 10 23 M M M M M M<|Zm M M<|ZF M (xR M M)<|ZT<|zT M (fun h30=>?_) (fun h30=>?_)
   ·replace h30:=Jv h30;refine Z7r 1 2 3 4 10 23 30 M M M M M M M<|Zm M M<|Zm M M<|ZF M (yN M M (i64_in _ (by omega) (by omega))) ?_;refine Zm M M<|ZF M (yN M M (i64_in _ (by omega) (by omega))) ?_;refine zL .none M (tG (z:=.int .i64 0) M M M M Tryz.underlying111 (by kernel_rfl) (by kernel_rfl) M M M) (fun b36=>?_);refine wl_append (z:=.int .i64 0) (bytes:=8) 0 0 .none M M M M M Tryz.underlying111 (by kernel_rfl) M M M M M (by omega) (by omega) (fun a37 c37=>?_);refine Za M M<|zK<|yY<|zU<|Z7r 1 2 3 4 10 23 30 M M M M M M M<|Zm M M<|ZF M (yN M M (i64_in _ (by omega) (by omega))) ?_;exact Za rfl rfl<|zK<|yE (ι:={j:Nat×(Nat×Nat) // j.1≤15}) ⟨(k+1,(a37,c37)),by omega⟩ (by show 15-(k+1)<15-k;omega) (.cons rfl<|.cons rfl<|.consE rfl (by show Value.slice _ _ _=Value.slice _ (mkL k++mkC k).length _;rw[mkC_1 (by omega)];simp)<|.consE rfl (by simp)<|.nil) (fun w h=>mk_row h (by first|exact .cons _ (.cons _ (.cons _ (.refl _)))|exact .cons _ (.cons _ (.refl _))|exact .cons _ (.refl _)) (by show _=nI (mkL k++mkC k);rw[mkC_1 (by omega)];simp[nI]) (by show _=(mkL k++mkC k).length;rw[mkC_1 (by omega)];simp))
   ·replace h30:=Jw h30;refine zI<|yY<|zU<|Z7r 1 2 3 4 10 23 30 M M M M M M M<|Zm M M<|ZF M (yN M M (i64_in _ (by omega) (by omega))) ?_;exact Za M M<|zK<|False.elim (by omega)
  ·replace h23:=Jw h23;refine zI<|zU<|zX<|Z6r 1 2 3 4 10 23 M M M M M M<|Zm M M<|ZF M (xR M M)<|ZT<|zT M (fun h30=>?_) (fun h30=>?_)
   ·replace h30:=Jv h30;refine Z7r 1 2 3 4 10 23 30 M M M M M M M<|Zm M M<|Zm M M<|ZF M (yN M M (i64_in _ (by omega) (by omega))) ?_;refine Zm M M<|ZF M (yN M M (i64_in _ (by omega) (by omega))) ?_;refine zL .none M (tG (z:=.int .i64 0) M M M M Tryz.underlying111 (by kernel_rfl) (by kernel_rfl) M M M) (fun b36=>?_);refine wl_append (z:=.int .i64 0) (bytes:=8) 0 0 .none M M M M M Tryz.underlying111 (by kernel_rfl) M M M M M (by omega) (by omega) (fun a37 c37=>?_);refine Za M M<|zK<|yY<|zU<|Z7r 1 2 3 4 10 23 30 M M M M M M M<|Zm M M<|ZF M (yN M M (i64_in _ (by omega) (by omega))) ?_;exact Za rfl rfl<|zK<|yE (ι:={j:Nat×(Nat×Nat) // j.1≤15}) ⟨(k+1,(a37,c37)),by omega⟩ (by show 15-(k+1)<15-k;omega) (.cons rfl<|.cons rfl<|.consE rfl (by show Value.slice _ _ _=Value.slice _ (mkL k++mkC k).length _;rw[mkC_2 (by omega) (by omega)];simp)<|.consE rfl (by simp)<|.nil) (fun w h=>mk_row h (by first|exact .cons _ (.cons _ (.cons _ (.refl _)))|exact .cons _ (.cons _ (.refl _))|exact .cons _ (.refl _)) (by show _=nI (mkL k++mkC k);rw[mkC_2 (by omega) (by omega)];simp[nI]) (by show _=(mkL k++mkC k).length;rw[mkC_2 (by omega) (by omega)];simp))
   ·replace h30:=Jw h30;refine zI<|yY<|zU<|Z7r 1 2 3 4 10 23 30 M M M M M M M<|Zm M M<|ZF M (yN M M (i64_in _ (by omega) (by omega))) ?_;exact Za rfl rfl<|zK<|yE (ι:={j:Nat×(Nat×Nat) // j.1≤15}) ⟨(k+1,(a21,c21)),by omega⟩ (by show 15-(k+1)<15-k;omega) (.cons rfl<|.cons rfl<|.consE rfl (by show Value.slice _ _ _=Value.slice _ (mkL k++mkC k).length _;rw[mkC_3 (by omega)];simp)<|.consE rfl (by simp)<|.nil) (fun w h=>mk_row h (by first|exact .cons _ (.cons _ (.cons _ (.refl _)))|exact .cons _ (.cons _ (.refl _))|exact .cons _ (.refl _)) (by show _=nI (mkL k++mkC k);rw[mkC_3 (by omega)];simp[nI]) (by show _=(mkL k++mkC k).length;rw[mkC_3 (by omega)];simp))
 ·replace h10:=Jw h10;skip;obtain rfl:k=15:=by omega
  refine xJ<|yZ<|yZ<|xK<|zU<|yM (ι:=Unit) (fun _=>[(1,.pointer (some ⟨b1,0,none⟩)),(2,.pointer (some ⟨b2,0,none⟩)),(3,.slice (some ⟨g,0,none⟩) (mkL 15).length cap),(5,.int .i64 (n:Nat))]) (fun _=>Hp (fun _=>False) w_0 [(b2,bk 35 (kiC ⟨0,0,0,0,0,0,0⟩)),(b1,bk 67 [.int .i64 a,.int .i64 b,.int .i64 c,.int .i64 d,.int .i64 e])] [mkR g cap 15] (fun _=>True)) ?_ (fun _=>?_)
  ·refine Z5r 1 2 3 4 10 rfl rfl rfl rfl rfl<|ZF rfl (xY (j:=0) (es:=1) rfl rfl Tryz.underlying67 (by kernel_rfl) rfl (by first|decide|omega|(simp;done)|(simp;omega)) rfl) ?_;refine ZF rfl (zW 1 rfl rfl rfl Tryz.underlying3 rfl)<|ZF rfl (tA rfl rfl rfl)<|Zm rfl rfl<|ZF rfl (xP rfl Tryz.underlying111)<|ZF rfl (yf_rem rfl rfl (by first|decide|omega) rfl) ?_;exact Za M M<|zK<|zM (ι:=Unit) () (.cons M<|.cons M<|.cons M<|.consE M (by rw[← hnq ()];rfl)<|.nil) (fun w h=>h)
  ·refine zX<|qF 18 [0,1,2,3,4,5,6,7,8,9,10,11,12,13,14,15,16,17] (JM g b1 [.int .i64 a,.int .i64 b,.int .i64 c,.int .i64 d,.int .i64 e]) (by kernel_rfl) (by kernel_rfl) JM.stab (fun w h=>⟨HpG.rowBlock h (k:=0) rfl,HpG.blk h (k:=1) rfl⟩) (fun n0 hn0=>?_);refine Zd rfl rfl rfl (zH rfl)<|Zd rfl rfl rfl (zH rfl)<|Zd rfl rfl rfl (zB (es:=1) rfl rfl Tryz.underlying111 (by kernel_rfl) rfl (by (first|omega|(rw[hl15];omega))) rfl) ?_;refine Zd M M M (zC (v:=.int .i64 (o:Nat)) M Tryz.underlying3 M (fun w hw=>by rw[← hoe];exact JM.cell hw hn)) ?_;refine Zd rfl rfl rfl (zH rfl)<|Zd rfl rfl rfl (zH rfl)<|Zd rfl rfl rfl (zB (es:=1) rfl rfl Tryz.underlying111 (by kernel_rfl) rfl (by (first|omega|(rw[hl15];omega))) rfl) ?_;refine Zd M M M (zC (v:=.int .i64 (o:Nat)) M Tryz.underlying3 M (fun w hw=>by rw[← hoe];exact JM.cell hw hn)) ?_;refine wG M ?_
   refine sM M .none M (yV M (by kernel_rfl) Tryz.underlying5 (show IntKind.u8.wrap ((o:Nat):Int)=((o:Nat):Int) by rw[u8w];omega)) ?_
   refine wG M<|qV .none M  (v:=.int .i64 (szN f:Nat)) (by kernel_rfl) M JM.ext (fun w hw=>hsz w) ?_;refine Zd rfl rfl rfl (xY (j:=1) (es:=1) rfl rfl Tryz.underlying67 (by kernel_rfl) rfl (by first|decide|omega|(simp;done)|(simp;omega)) rfl) ?_;refine Zd M M M (zC (v:=.int .i64 b) M Tryz.underlying3 M (fun w hw=>Blk.cell hw.2 M)) ?_;refine Zd rfl rfl rfl (tA rfl rfl (hkd ()))<|Zd rfl rfl rfl (xY (j:=2) (es:=1) rfl rfl Tryz.underlying67 (by kernel_rfl) rfl (by first|decide|omega|(simp;done)|(simp;omega)) rfl) ?_;refine Zd M M M (zC (v:=.int .i64 c) M Tryz.underlying3 M (fun w hw=>Blk.cell hw.2 M)) ?_;refine Zd M M M (tA M M (hks ()))<|Zd M M M (yP [.int .i64 0,.int .i64 0,.int .i64 0,.int .i64 0,.int .i64 0,.int .u32 0,.int .i64 0] [(0,1),(1,1),(2,1),(3,1),(4,1),(5,1),(6,1)] M (by kernel_rfl) (by kernel_rfl) M) ?_;refine wG M<|wd_newH ?_ .none M (fun k hk=>Kf hk hn0) (yQ (z:=Jc) (cs:=Jj) (by kernel_rfl) M) (fun b6 hb6=>?_)
   ·rfl
   refine wd_endTH ?_;simp only[Kh,Kl];refine ZR 0 M M M M M (by kernel_rfl) ?_;refine ZX<|Z5 1 2 3 5 6 M M M M M<|zS (H':=Hp (fun _=>False) w_0 [(b6,kiO ⟨o,kd,ks,-1,0,0,(szN f:Nat)⟩),(b2,bk 35 (kiC ⟨0,0,0,0,0,0,0⟩)),(b1,bk 67 [.int .i64 a,.int .i64 b,.int .i64 c,.int .i64 d,.int .i64 e])] [] (fun _=>True)) (fun w h=>Hp.drop h (Jy _) (List.nil_sublist _)) ?_;refine zY<|ZF rfl (xY (j:=3) (es:=1) rfl rfl Tryz.underlying67 (by kernel_rfl) rfl (by first|decide|omega|(simp;done)|(simp;omega)) rfl) ?_;refine ZF M (zW 2 M M M Tryz.underlying3 M) ?_
   refine ZF M (yV M (by kernel_rfl) Tryz.underlying22 (hv ())) ?_
   refine Za M M<|ZX<|zX<|Z6r 1 2 3 5 6 7 M M M M M M<|ZF M (zZ (off:=0) (sz:=0) M Tryz.underlying35 (by kernel_rfl) M) ?_;refine ZF M (zW 0 M M M Tryz.underlying3 M)<|zE .none M  (v:=.int .i64 (f:Nat)) (by kernel_rfl) M (fun w hw=>hfm w) ?_;refine ZT<|yW<|zX<|Z7r 1 2 3 5 6 7 66 M M M M M M M<|ZF M (zG M M)<|Za M M<|ZT<|zT M (fun h67=>?_) (fun h67=>?_)
   ·replace h67:=Ke h67;obtain rfl:f=1:=by omega
    refine zX<|Z8r 1 2 3 5 6 7 66 67 M M M M M M M M<|ZF M (zZ (off:=1) (sz:=0) M Tryz.underlying35 (by kernel_rfl) M) ?_;refine ZS 0 M M M M M (by kernel_rfl) ?_;refine ZT<|Z8r 1 2 3 5 6 7 66 67 M M M M M M M M<|ZF M (zZ (off:=2) (sz:=0) M Tryz.underlying35 (by kernel_rfl) M) ?_;refine ZS 0 M M M M M (by kernel_rfl) ?_;refine zK<|yY<|zU<|zX<|Z8r 1 2 3 5 6 7 66 67 M M M M M M M M<|ZF M (yX 0 M M Tryz.underlying35 M (by kernel_rfl)) ?_;refine ZR 1 M M M M M (by kernel_rfl) ?_;refine ZT<|zQ<|yD M M 1 M Tryz.underlying35 M (by kernel_rfl) (fun w hw=>?_);exact⟨⟨⟨(o:Nat),0,0,-1,0,0,(szN 1:Nat)⟩,qU (show (0:Nat)<4294967296 by decide) (uZ (f:=1) hf (by decide) M M M M M),(show (0:Nat)<4294967296 by decide),rfl⟩,(Jx hw).ext⟩
   ·replace h67:=yO h67;refine zX<|Z8r 1 2 3 5 6 7 66 67 M M M M M M M M<|ZF M (zG M M)<|Za M M<|ZT<|zT M (fun h71=>?_) (fun h71=>?_)
    ·replace h71:=Ke h71;obtain rfl:f=2:=by omega
     refine Z9r 1 2 3 5 6 7 66 67 71 M M M M M M M M M<|ZF M (zZ (off:=2) (sz:=0) M Tryz.underlying35 (by kernel_rfl) M) ?_;refine ZS 0 M M M M M (by kernel_rfl) ?_;refine zK<|yY<|zU<|zX<|Z9r 1 2 3 5 6 7 66 67 71 M M M M M M M M M<|ZF M (yX 0 M M Tryz.underlying35 M (by kernel_rfl)) ?_;refine ZR 1 M M M M M (by kernel_rfl) ?_;refine ZT<|zQ<|yD M M 1 M Tryz.underlying35 M (by kernel_rfl) (fun w hw=>?_);exact⟨⟨⟨(o:Nat),kd,0,-1,0,0,(szN 2:Nat)⟩,qU (show (0:Nat)<4294967296 by decide) (uZ (f:=2) hf (by decide) M (uV (by omega)) M M M),(show (0:Nat)<4294967296 by decide),rfl⟩,(Jx hw).ext⟩
    ·replace h71:=yO h71;refine zX<|Z9r 1 2 3 5 6 7 66 67 71 M M M M M M M M M<|ZF M (zG M M)<|Za M M<|ZT<|zT M (fun h74=>?_) (fun h74=>?_)
     ·replace h74:=Ke h74;obtain rfl:f=4:=by omega
      refine zX<|Z10r 1 2 3 5 6 7 66 67 71 74 M M M M M M M M M M<|ZF M (zZ (off:=2) (sz:=0) M Tryz.underlying35 (by kernel_rfl) M) ?_;refine ZS 0 M M M M M (by kernel_rfl) ?_;refine ZT<|Z10r 1 2 3 5 6 7 66 67 71 74 M M M M M M M M M M<|Zm M M ?_
      refine ZF M (yV M (by kernel_rfl) Tryz.underlying5 (show IntKind.u8.wrap ((nv:Nat):Int)=((nv%256:Nat):Int) by rw[u8w];omega)) ?_
      refine zE .none M  (v:=.int .u32 (sxL (nv%256) 8:Nat)) (by kernel_rfl) M (fun w hw=>rextend_any (nv%256) (by omega) w) ?_;refine ZF M (zZ (off:=5) (sz:=0) M Tryz.underlying35 (by kernel_rfl) M) ?_;refine ZS 0 M M M M M (by kernel_rfl) ?_;refine zK<|yY<|zU<|zX<|Z10r 1 2 3 5 6 7 66 67 71 74 M M M M M M M M M M<|ZF M (yX 0 M M Tryz.underlying35 M (by kernel_rfl)) ?_;refine ZR 1 M M M M M (by kernel_rfl) ?_;refine ZT<|zQ<|yD M M 1 M Tryz.underlying35 M (by kernel_rfl) (fun w hw=>?_);exact⟨⟨⟨(o:Nat),kd,0,-1,0,sxL (nv%256) 8,(szN 4:Nat)⟩,qU (rU (by omega)).2 (uZ (f:=4) hf (by decide) M (uV (by omega)) M M (rU (by omega)).1),(rU (by omega)).2,rfl⟩,(Jx hw).ext⟩
     ·replace h74:=yO h74;refine zX<|Z10r 1 2 3 5 6 7 66 67 71 74 M M M M M M M M M M<|ZF M (zG M M)<|Za M M<|ZT<|zT M (fun h81=>?_) (fun h81=>?_)
      ·replace h81:=Ke h81;obtain rfl:f=5:=by omega
       refine zX<|Z11r 1 2 3 5 6 7 66 67 71 74 81 M M M M M M M M M M M<|ZF M (zZ (off:=2) (sz:=0) M Tryz.underlying35 (by kernel_rfl) M) ?_;refine ZS 0 M M M M M (by kernel_rfl) ?_;refine ZT<|Z11r 1 2 3 5 6 7 66 67 71 74 81 M M M M M M M M M M M<|Zm M M<|ZF M (zZ (off:=5) (sz:=0) M Tryz.underlying35 (by kernel_rfl) M) ?_;refine ZS 0 M M M M M (by kernel_rfl) ?_;refine zK<|yY<|zU<|zX<|Z11r 1 2 3 5 6 7 66 67 71 74 81 M M M M M M M M M M M<|ZF M (yX 0 M M Tryz.underlying35 M (by kernel_rfl)) ?_;refine ZR 1 M M M M M (by kernel_rfl) ?_;refine ZT<|zQ<|yD M M 1 M Tryz.underlying35 M (by kernel_rfl) (fun w hw=>?_);exact⟨⟨⟨(o:Nat),kd,0,-1,0,nv,(szN 5:Nat)⟩,qU hnv (uZ (f:=5) hf (by decide) M (uV (by omega)) M M M),hnv,rfl⟩,(Jx hw).ext⟩
      ·replace h81:=yO h81;refine zX<|Z11r 1 2 3 5 6 7 66 67 71 74 81 M M M M M M M M M M M<|ZF M (zG M M)<|Za M M<|ZT<|zT M (fun h86=>?_) (fun h86=>?_)
       ·replace h86:=Ke h86;obtain rfl:f=6:=by omega
        refine Z12r 1 2 3 5 6 7 66 67 71 74 81 86 M M M M M M M M M M M M<|Zm M M ?_
        refine ZF M (yV M (by kernel_rfl) Tryz.underlying5 (show IntKind.u8.wrap ((nv:Nat):Int)=((nv%256:Nat):Int) by rw[u8w];omega)) ?_
        refine zE .none M  (v:=.int .u32 (sxL (nv%256) 8:Nat)) (by kernel_rfl) M (fun w hw=>rextend_any (nv%256) (by omega) w) ?_;refine ZF M (zZ (off:=5) (sz:=0) M Tryz.underlying35 (by kernel_rfl) M) ?_;refine ZS 0 M M M M M (by kernel_rfl) ?_;refine zK<|yY<|zU<|zX<|Z12r 1 2 3 5 6 7 66 67 71 74 81 86 M M M M M M M M M M M M<|ZF M (yX 0 M M Tryz.underlying35 M (by kernel_rfl)) ?_;refine ZR 1 M M M M M (by kernel_rfl) ?_;refine ZT<|zQ<|yD M M 1 M Tryz.underlying35 M (by kernel_rfl) (fun w hw=>?_);exact⟨⟨⟨(o:Nat),kd,ks,-1,0,sxL (nv%256) 8,(szN 6:Nat)⟩,qU (rU (by omega)).2 (uZ (f:=6) hf (by decide) M (uV (by omega)) (uV (by omega)) M (rU (by omega)).1),(rU (by omega)).2,rfl⟩,(Jx hw).ext⟩
       ·replace h86:=yO h86;refine zX<|Z12r 1 2 3 5 6 7 66 67 71 74 81 86 M M M M M M M M M M M M<|ZF M (zG M M)<|Za M M<|ZT<|zT M (fun h92=>?_) (fun h92=>?_)
        ·replace h92:=Ke h92;obtain rfl:f=7:=by omega
         refine zX<|Z13r 1 2 3 5 6 7 66 67 71 74 81 86 92 M M M M M M M M M M M M M<|Zm M M<|ZF M (zZ (off:=5) (sz:=0) M Tryz.underlying35 (by kernel_rfl) M) ?_;refine ZS 0 M M M M M (by kernel_rfl) ?_;refine ZX<|Z13r 1 2 3 5 6 7 66 67 71 74 81 86 92 rfl rfl rfl rfl rfl rfl rfl rfl rfl rfl rfl rfl rfl<|ZF rfl (xY (j:=4) (es:=1) rfl rfl Tryz.underlying67 (by kernel_rfl) rfl (by first|decide|omega|(simp;done)|(simp;omega)) rfl) ?_;refine ZF M (zW 2 M M M Tryz.underlying3 M)<|ZF M (tA M M (hk1 ()))<|ZF M (zG M M)<|ZT<|zT M (fun h99=>?_) (fun h99=>?_)
         ·replace h99:=Ke h99;refine zX<|Z14r 1 2 3 5 6 7 66 67 71 74 81 86 92 99 rfl rfl rfl rfl rfl rfl rfl rfl rfl rfl rfl rfl rfl rfl<|ZF rfl (xY (j:=4) (es:=1) rfl rfl Tryz.underlying67 (by kernel_rfl) rfl (by first|decide|omega|(simp;done)|(simp;omega)) rfl) ?_;refine ZF rfl (zW 2 rfl rfl rfl Tryz.underlying3 rfl)<|ZF rfl (yf_shr rfl rfl (by first|decide|omega) rfl) ?_;refine ZF M (tA M M (hkx ()))<|ZF M (zZ (off:=3) (sz:=0) M Tryz.underlying35 (by kernel_rfl) M) ?_;refine ZS 0 M M M M M (by kernel_rfl) ?_;refine ZT<|Z14r 1 2 3 5 6 7 66 67 71 74 81 86 92 99 rfl rfl rfl rfl rfl rfl rfl rfl rfl rfl rfl rfl rfl rfl<|ZF rfl (xY (j:=4) (es:=1) rfl rfl Tryz.underlying67 (by kernel_rfl) rfl (by first|decide|omega|(simp;done)|(simp;omega)) rfl) ?_;refine ZF rfl (zW 2 rfl rfl rfl Tryz.underlying3 rfl)<|ZF rfl (yf_shr rfl rfl (by first|decide|omega) rfl) ?_;refine ZF M (tA M M (hky ()))<|ZF M (zZ (off:=4) (sz:=0) M Tryz.underlying35 (by kernel_rfl) M) ?_;refine ZS 0 M M M M M (by kernel_rfl) ?_;refine zK<|yY<|zU<|zX<|Z14r 1 2 3 5 6 7 66 67 71 74 81 86 92 99 M M M M M M M M M M M M M M<|ZF M (yX 0 M M Tryz.underlying35 M (by kernel_rfl)) ?_;refine ZR 1 M M M M M (by kernel_rfl) ?_;refine ZT<|zQ<|yD M M 1 M Tryz.underlying35 M (by kernel_rfl) (fun w hw=>?_);exact⟨⟨⟨(o:Nat),kd,ks,kx,ky,nv,(szN 7:Nat)⟩,qU hnv (uZ (f:=7) hf (by decide) M (uV (by omega)) (uV (by omega)) (xN_7 (by omega) (by omega)) M),hnv,rfl⟩,(Jx hw).ext⟩
         ·replace h99:=yO h99;refine zI<|yY<|zU<|zX<|Z14r 1 2 3 5 6 7 66 67 71 74 81 86 92 99 M M M M M M M M M M M M M M<|ZF M (yX 0 M M Tryz.underlying35 M (by kernel_rfl)) ?_;refine ZR 1 M M M M M (by kernel_rfl) ?_;refine ZT<|zQ<|yD M M 1 M Tryz.underlying35 M (by kernel_rfl) (fun w hw=>?_);exact⟨⟨⟨(o:Nat),kd,ks,-1,0,nv,(szN 7:Nat)⟩,qU hnv (uZ (f:=7) hf (by decide) M (uV (by omega)) (uV (by omega)) M M),hnv,rfl⟩,(Jx hw).ext⟩
        ·replace h92:=yO h92;refine zX<|zX<|Z13r 1 2 3 5 6 7 66 67 71 74 81 86 92 M M M M M M M M M M M M M<|ZF M (zG M M)<|Za M M<|ZT<|zT M (fun hc=>?_) (fun hc=>?_)
         ·replace hc:=Ke hc;refine zI<|zU<|zT M (fun hc=>?_) (fun hc=>?_)
          ·replace hc:=Ke hc;refine zX<|Z14r 1 2 3 5 6 7 66 67 71 74 81 86 92 110 M M M M M M M M M M M M M M<|ZF M (zZ (off:=1) (sz:=0) M Tryz.underlying35 (by kernel_rfl) M) ?_;refine ZS 0 M M M M M (by kernel_rfl) ?_;refine ZX<|Z14r 1 2 3 5 6 7 66 67 71 74 81 86 92 110 M M M M M M M M M M M M M M<|ZF M (zZ (off:=2) (sz:=0) M Tryz.underlying35 (by kernel_rfl) M) ?_;refine ZS 0 M M M M M (by kernel_rfl) ?_;refine ZX<|Z14r 1 2 3 5 6 7 66 67 71 74 81 86 92 110 M M M M M M M M M M M M M M<|Zm M M<|ZF M (zZ (off:=5) (sz:=0) M Tryz.underlying35 (by kernel_rfl) M) ?_;refine ZS 0 M M M M M (by kernel_rfl) ?_;refine ZX<|zX<|Z14r 1 2 3 5 6 7 66 67 71 74 81 86 92 110 M M M M M M M M M M M M M M<|ZF M (zZ (off:=0) (sz:=0) M Tryz.underlying35 (by kernel_rfl) M) ?_;refine ZF M (zW 0 M M M Tryz.underlying3 M)<|zE .none M  (v:=.int .i64 (f:Nat)) (by kernel_rfl) M (fun w hw=>hfm w) ?_;refine ZF M (zG M M)<|ZT<|zT M (fun hc=>?_) (fun hc=>?_)
           ·replace hc:=Ke hc;have hfm9:=hfm8;refine zX<|Z15r 1 2 3 5 6 7 66 67 71 74 81 86 92 110 121 rfl rfl rfl rfl rfl rfl rfl rfl rfl rfl rfl rfl rfl rfl rfl<|ZF rfl (xY (j:=4) (es:=1) rfl rfl Tryz.underlying67 (by kernel_rfl) rfl (by first|decide|omega|(simp;done)|(simp;omega)) rfl) ?_;refine ZF rfl (zW 2 rfl rfl rfl Tryz.underlying3 rfl)<|ZF rfl (tA rfl rfl (hkm ()))<|ZF rfl (yf_rem rfl rfl (by first|decide|omega) (show ((km:Nat):Int).tmod 14=((k4:Nat):Int) by rw[Int.tmod_eq_emod_of_nonneg (Int.natCast_nonneg _)];omega)) ?_;refine ZF M (yN M M (show IntKind.i64.wrap (96+((k4:Nat):Int))=((96+k4:Nat):Int) from i64_in ((96+k4:Nat):Int) (by omega) (by omega))) ?_;refine ZF M (zZ (off:=0) (sz:=0) M Tryz.underlying35 (by kernel_rfl) M) ?_;refine ZS 0 M M M M M (by kernel_rfl) ?_;refine ZT<|Z15r 1 2 3 5 6 7 66 67 71 74 81 86 92 110 121 M M M M M M M M M M M M M M M<|Zm M M ?_
            refine ZF M (yV M (by kernel_rfl) Tryz.underlying5 (show IntKind.u8.wrap ((nv:Nat):Int)=((nv%256:Nat):Int) by rw[u8w];omega)) ?_
            refine zE .none M  (v:=.int .u32 (sxL (nv%256) 8:Nat)) (by kernel_rfl) M (fun w hw=>rextend_any (nv%256) (by omega) w) ?_;refine ZF M (zZ (off:=5) (sz:=0) M Tryz.underlying35 (by kernel_rfl) M) ?_;refine ZS 0 M M M M M (by kernel_rfl) ?_;refine ZX<|Z15r 1 2 3 5 6 7 66 67 71 74 81 86 92 110 121 M M M M M M M M M M M M M M M<|ZF M (zZ (off:=0) (sz:=0) M Tryz.underlying35 (by kernel_rfl) M) ?_;refine ZF M (zW 0 M M M Tryz.underlying3 M)<|zE .none M  (by kernel_rfl) M (fun w hw=>hfm9 w) ?_;refine ZF M (zG M M)<|ZT<|zT M (fun hc=>?_) (fun hc=>?_)
            ·replace hc:=Ke hc;exact False.elim (by omega)
            ·replace hc:=yO hc;refine zI<|yY<|zU<|zX<|Z16r 1 2 3 5 6 7 66 67 71 74 81 86 92 110 121 135 M M M M M M M M M M M M M M M M<|ZF M (yX 0 M M Tryz.underlying35 M (by kernel_rfl)) ?_;refine ZR 1 M M M M M (by kernel_rfl) ?_;refine ZT<|zQ<|yD M M 1 M Tryz.underlying35 M (by kernel_rfl) (fun w hw=>?_);obtain rfl:f=8:=by omega
             exact⟨⟨⟨(96+k4:Nat),0,0,-1,0,sxL (nv%256) 8,(szN 8:Nat)⟩,qU (rU (by omega)).2 (uZ (f:=8) hf8 (by decide) M M M M (rU (by omega)).1),(rU (by omega)).2,rfl⟩,(Jx hw).ext⟩
           ·replace hc:=yO hc;exact False.elim (by omega)
          ·replace hc:=yO hc;exact False.elim (by omega)
         ·replace hc:=yO hc;refine zX<|Z14r 1 2 3 5 6 7 66 67 71 74 81 86 92 110 M M M M M M M M M M M M M M<|ZF M (zG M M)<|Za M M<|ZT<|zT M (fun hc=>?_) (fun hc=>?_)
          ·replace hc:=Ke hc;refine zI<|zU<|zT M (fun hc=>?_) (fun hc=>?_)
           ·replace hc:=Ke hc;refine zX<|Z14r 1 2 3 5 6 7 66 67 71 74 81 86 92 110 M M M M M M M M M M M M M M<|ZF M (zZ (off:=1) (sz:=0) M Tryz.underlying35 (by kernel_rfl) M) ?_;refine ZS 0 M M M M M (by kernel_rfl) ?_;refine ZX<|Z14r 1 2 3 5 6 7 66 67 71 74 81 86 92 110 M M M M M M M M M M M M M M<|ZF M (zZ (off:=2) (sz:=0) M Tryz.underlying35 (by kernel_rfl) M) ?_;refine ZS 0 M M M M M (by kernel_rfl) ?_;refine ZX<|Z14r 1 2 3 5 6 7 66 67 71 74 81 86 92 110 M M M M M M M M M M M M M M<|Zm M M<|ZF M (zZ (off:=5) (sz:=0) M Tryz.underlying35 (by kernel_rfl) M) ?_;refine ZS 0 M M M M M (by kernel_rfl) ?_;refine ZX<|zX<|Z14r 1 2 3 5 6 7 66 67 71 74 81 86 92 110 M M M M M M M M M M M M M M<|ZF M (zZ (off:=0) (sz:=0) M Tryz.underlying35 (by kernel_rfl) M) ?_;refine ZF M (zW 0 M M M Tryz.underlying3 M)<|zE .none M  (v:=.int .i64 (f:Nat)) (by kernel_rfl) M (fun w hw=>hfm w) ?_;refine ZF M (zG M M)<|ZT<|zT M (fun hc=>?_) (fun hc=>?_)
            ·replace hc:=Ke hc;exact False.elim (by omega)
            ·replace hc:=yO hc;have hfm9:=hfm;refine zI<|zU<|zX<|Z15r 1 2 3 5 6 7 66 67 71 74 81 86 92 110 121 M M M M M M M M M M M M M M M<|ZF M (zZ (off:=0) (sz:=0) M Tryz.underlying35 (by kernel_rfl) M) ?_;refine ZF M (zW 0 M M M Tryz.underlying3 M)<|zE .none M  (by kernel_rfl) M (fun w hw=>hfm9 w) ?_;refine ZF M (zG M M)<|ZT<|zT M (fun hc=>?_) (fun hc=>?_)
             ·replace hc:=Ke hc;refine Z16r 1 2 3 5 6 7 66 67 71 74 81 86 92 110 121 135 M M M M M M M M M M M M M M M M<|Zm M M<|ZF M (tA M M (and_255 nv hnv))<|ZF M (zZ (off:=5) (sz:=0) M Tryz.underlying35 (by kernel_rfl) M) ?_;refine ZS 0 M M M M M (by kernel_rfl) ?_;refine zK<|yY<|zU<|zX<|Z16r 1 2 3 5 6 7 66 67 71 74 81 86 92 110 121 135 M M M M M M M M M M M M M M M M<|ZF M (yX 0 M M Tryz.underlying35 M (by kernel_rfl)) ?_;refine ZR 1 M M M M M (by kernel_rfl) ?_;refine ZT<|zQ<|yD M M 1 M Tryz.underlying35 M (by kernel_rfl) (fun w hw=>?_);obtain rfl:f=10:=by omega
              exact⟨⟨⟨(o:Nat),0,0,-1,0,nv%256,(szN 10:Nat)⟩,qU (show nv%256<4294967296 by omega) (uZ (f:=10) hf (by decide) M M M M (Aa (show nv%256<256 by omega))),(show nv%256<4294967296 by omega),rfl⟩,(Jx hw).ext⟩
             ·replace hc:=yO hc;exact False.elim (by omega)
           ·replace hc:=yO hc;exact False.elim (by omega)
          ·replace hc:=yO hc;refine Z14r 1 2 3 5 6 7 66 67 71 74 81 86 92 110 M M M M M M M M M M M M M M<|ZF M (zG M M)<|Za M M<|ZT<|zT M (fun hc=>?_) (fun hc=>?_)
           ·replace hc:=Ke hc;refine zX<|Z14r 1 2 3 5 6 7 66 67 71 74 81 86 92 110 M M M M M M M M M M M M M M<|ZF M (zZ (off:=1) (sz:=0) M Tryz.underlying35 (by kernel_rfl) M) ?_;refine ZS 0 M M M M M (by kernel_rfl) ?_;refine ZX<|Z14r 1 2 3 5 6 7 66 67 71 74 81 86 92 110 M M M M M M M M M M M M M M<|ZF M (zZ (off:=2) (sz:=0) M Tryz.underlying35 (by kernel_rfl) M) ?_;refine ZS 0 M M M M M (by kernel_rfl) ?_;refine ZX<|Z14r 1 2 3 5 6 7 66 67 71 74 81 86 92 110 M M M M M M M M M M M M M M<|Zm M M<|ZF M (zZ (off:=5) (sz:=0) M Tryz.underlying35 (by kernel_rfl) M) ?_;refine ZS 0 M M M M M (by kernel_rfl) ?_;refine ZX<|zX<|Z14r 1 2 3 5 6 7 66 67 71 74 81 86 92 110 M M M M M M M M M M M M M M<|ZF M (zZ (off:=0) (sz:=0) M Tryz.underlying35 (by kernel_rfl) M) ?_;refine ZF M (zW 0 M M M Tryz.underlying3 M)<|zE .none M  (v:=.int .i64 (f:Nat)) (by kernel_rfl) M (fun w hw=>hfm w) ?_;refine ZF M (zG M M)<|ZT<|zT M (fun hc=>?_) (fun hc=>?_)
            ·replace hc:=Ke hc;exact False.elim (by omega)
            ·replace hc:=yO hc;have hfm9:=hfm;refine zI<|zU<|zX<|Z15r 1 2 3 5 6 7 66 67 71 74 81 86 92 110 121 M M M M M M M M M M M M M M M<|ZF M (zZ (off:=0) (sz:=0) M Tryz.underlying35 (by kernel_rfl) M) ?_;refine ZF M (zW 0 M M M Tryz.underlying3 M)<|zE .none M  (by kernel_rfl) M (fun w hw=>hfm9 w) ?_;refine ZF M (zG M M)<|ZT<|zT M (fun hc=>?_) (fun hc=>?_)
             ·replace hc:=Ke hc;exact False.elim (by omega)
             ·replace hc:=yO hc;refine zI<|yY<|zU<|zX<|Z16r 1 2 3 5 6 7 66 67 71 74 81 86 92 110 121 135 M M M M M M M M M M M M M M M M<|ZF M (yX 0 M M Tryz.underlying35 M (by kernel_rfl)) ?_;refine ZR 1 M M M M M (by kernel_rfl) ?_;refine ZT<|zQ<|yD M M 1 M Tryz.underlying35 M (by kernel_rfl) (fun w hw=>?_);obtain rfl:f=9:=by omega
              exact⟨⟨⟨(o:Nat),0,0,-1,0,nv,(szN 9:Nat)⟩,qU hnv (uZ (f:=9) hf (by decide) M M M M M),hnv,rfl⟩,(Jx hw).ext⟩
           ·replace hc:=yO hc;refine zX<|Z14r 1 2 3 5 6 7 66 67 71 74 81 86 92 110 M M M M M M M M M M M M M M<|ZF M (zG M M)<|Za M M<|ZT<|zT M (fun h139=>?_) (fun h139=>?_)
            ·replace h139:=Ke h139;obtain rfl:f=11:=by omega
             refine Z15r 1 2 3 5 6 7 66 67 71 74 81 86 92 110 139 rfl rfl rfl rfl rfl rfl rfl rfl rfl rfl rfl rfl rfl rfl rfl<|ZF rfl (xY (j:=2) (es:=1) rfl rfl Tryz.underlying67 (by kernel_rfl) rfl (by first|decide|omega|(simp;done)|(simp;omega)) rfl) ?_;refine ZF M (zW 2 M M M Tryz.underlying3 M)<|ZF M (tA M M (hk3 ()))<|ZF M (zZ (off:=2) (sz:=0) M Tryz.underlying35 (by kernel_rfl) M) ?_;refine ZS 0 M M M M M (by kernel_rfl) ?_;refine zK<|yY<|zU<|zX<|Z15r 1 2 3 5 6 7 66 67 71 74 81 86 92 110 139 M M M M M M M M M M M M M M M<|ZF M (yX 0 M M Tryz.underlying35 M (by kernel_rfl)) ?_;refine ZR 1 M M M M M (by kernel_rfl) ?_;refine ZT<|zQ<|yD M M 1 M Tryz.underlying35 M (by kernel_rfl) (fun w hw=>?_);exact⟨⟨⟨(o:Nat),kd,k3,-1,0,0,(szN 11:Nat)⟩,qU (show (0:Nat)<4294967296 by decide) (uZ (f:=11) hf (by decide) M (uV (by omega)) (Aa (show 0≤(k3:Int)∧(k3:Int)≤3 by omega)) M M),(show (0:Nat)<4294967296 by decide),rfl⟩,(Jx hw).ext⟩
            ·replace h139:=yO h139;refine zX<|Z15r 1 2 3 5 6 7 66 67 71 74 81 86 92 110 139 M M M M M M M M M M M M M M M<|ZF M (zG M M)<|Za M M<|ZT<|zT M (fun h145=>?_) (fun h145=>?_)
             ·replace h145:=Ke h145;obtain rfl:f=12:=by omega
              refine Z16r 1 2 3 5 6 7 66 67 71 74 81 86 92 110 139 145 rfl rfl rfl rfl rfl rfl rfl rfl rfl rfl rfl rfl rfl rfl rfl rfl<|ZF rfl (xY (j:=2) (es:=1) rfl rfl Tryz.underlying67 (by kernel_rfl) rfl (by first|decide|omega|(simp;done)|(simp;omega)) rfl) ?_;refine ZF rfl (zW 2 rfl rfl rfl Tryz.underlying3 rfl)<|ZF rfl (tA rfl rfl (hks ()))<|ZF rfl (yf_rem rfl rfl (by first|decide|omega) (show ((ks:Nat):Int).tmod 5=((ks%5:Nat):Int) by rw[Int.tmod_eq_emod_of_nonneg (Int.natCast_nonneg _)];omega)) ?_;refine ZF M (zZ (off:=2) (sz:=0) M Tryz.underlying35 (by kernel_rfl) M) ?_;refine ZS 0 M M M M M (by kernel_rfl) ?_;refine zK<|yY<|zU<|zX<|Z16r 1 2 3 5 6 7 66 67 71 74 81 86 92 110 139 145 M M M M M M M M M M M M M M M M<|ZF M (yX 0 M M Tryz.underlying35 M (by kernel_rfl)) ?_;refine ZR 1 M M M M M (by kernel_rfl) ?_;refine ZT<|zQ<|yD M M 1 M Tryz.underlying35 M (by kernel_rfl) (fun w hw=>?_);exact⟨⟨⟨(o:Nat),kd,(ks%5:Nat),-1,0,0,(szN 12:Nat)⟩,qU (show (0:Nat)<4294967296 by decide) (uZ (f:=12) hf (by decide) M (uV (by omega)) (Aa (show 0≤((ks%5:Nat):Int)∧((ks%5:Nat):Int)≤4 by omega)) M M),(show (0:Nat)<4294967296 by decide),rfl⟩,(Jx hw).ext⟩
             ·replace h145:=yO h145;refine zI<|yY<|zU<|zX<|Z16r 1 2 3 5 6 7 66 67 71 74 81 86 92 110 139 145 M M M M M M M M M M M M M M M M<|ZF M (yX 0 M M Tryz.underlying35 M (by kernel_rfl)) ?_;refine ZR 1 M M M M M (by kernel_rfl) ?_;refine ZT<|zQ<|yD M M 1 M Tryz.underlying35 M (by kernel_rfl) (fun w hw=>?_);obtain rfl:f=3:=by omega
              exact⟨⟨⟨(o:Nat),kd,ks,-1,0,0,(szN 3:Nat)⟩,qU (show (0:Nat)<4294967296 by decide) (uZ (f:=3) hf (by decide) M (uV (by omega)) (uV (by omega)) M M),(show (0:Nat)<4294967296 by decide),rfl⟩,(Jx hw).ext⟩
theorem rmade_any (a b c d e:Int) (w_0:World):Calls Tryz.prog 28 #[.agg #[.int .i64 a,.int .i64 b,.int .i64 c,.int .i64 d,.int .i64 e]] w_0 fun e w'=>(∃i,VK i∧i.imm<4294967296∧e=.returned (.agg (kiC i).toArray))∧Ext w_0 w':=by
 obtain⟨k,hk,hk2⟩:=and_n a 65535 (by decide);obtain⟨n,hn⟩:∃n,n=k%79:=⟨_,rfl⟩;have hn79:n<79:=by omega
 have hnq:((bits .and .i64 a 65535).tmod 79)=(n:Int):=by
  rw[show bits .and .i64 a 65535=((k:Nat):Int) from hk,Int.tmod_eq_emod_of_nonneg (Int.natCast_nonneg _)];omega
 exact rmade_f a b c d e n hn79 hnq _ M _ M (mkL_fm n hn79) (fmN_lt _) w_0
end Go.Proofs.YtkaepknpplhgkaaGreatDoor
