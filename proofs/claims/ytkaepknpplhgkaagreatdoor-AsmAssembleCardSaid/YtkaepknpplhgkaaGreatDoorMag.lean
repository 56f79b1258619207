import Derived.Test.YtkaepknpplhgkaaGreatDoorMaf
import Derived.Test.YtkaepknpplhgkaaGreatDoorMaY
import Derived.Lib.AppendIntMem
import Derived.Test.YtkaepknpplhgkaaGreatDoorRows
import Derived.WalkKit
import Derived.ProofKit
import Derived.OpenShut
import Derived.Below
import Derived.ChangeSame
import Derived.WideKeyArgs
import Derived.Lib.SmallJoins
import Derived.Deep.Slices
import Derived.Deep.Fields
import Derived.Lay
import Derived.LaidMore
import Derived.MakeChecks
import Derived.Lib.LaidTab
import Derived.Stop.Joined
import Derived.Stop.LaidErr
import Derived.Shelf.Vars
import Derived.HandedShaped
import Derived.Laws.IdiomArrays
import Derived.ChangeMaps5
import Derived.ChangeArms
set_option maxRecDepth 100000
namespace Go.Proofs.YtkaepknpplhgkaaGreatDoor
open Go.RowKit
def TbN (w:World):Prop:=Lib.TabIs Tryz.prog w "internal/strconv.uint64pow10" .u64 Lib.pow10Tab
theorem TbN.ext {w w':World}(h:TbN w) (hx:Ext w w'):TbN w':=Lib.tabBelow_of_tabIs h w' hx
structure WOk (w:World):Prop where
 mx:MxL w
 sp:AsT w
 tb:TbN w
theorem WOk.ext {w w':World}(h:WOk w) (hx:Ext w w'):WOk w' :=
 ⟨h.mx.foot (Below.block hx _ h.mx.lt),h.sp.foot (Below.block hx _ h.sp.lt),h.tb.ext hx⟩
theorem asm_is {kind:Int}{text c:Bs}{org n e:Nat}(h:oH kind text org=(c,n,e)) (ho:org<4294967296) {w:World}(hw:WOk w):Calls Tryz.prog 17 #[.int .i64 kind,.string ⟨text.toArray⟩,.int .u32 org] w fun x w'=>x=.returned (.tuple #[.string ⟨c.toArray⟩,.int .i64 (n:Nat),.int .i64 (e:Nat)])∧Ext w w' :=
 (assemble_any kind text org ho w hw.mx hw.sp).mono fun x w' ⟨h1,h2⟩=>by rw[h] at h2;exact⟨h2,h1⟩
theorem HpG.ext0 {w0 w:World}{L:List (Nat×Obj)}{R:List Rw}{X:World→Prop}{G:Nat→Prop}(h:HpG G (fun _=>False) w0 L R X w):Ext w0 w:=(Kk h).ext
theorem sn1:oH 1 [97,58,32,97,100,100,32,114,49,44,32,53,10,106,101,113,32,97] 0=([49,1,5,96,251],0,0):=by kernel_rfl
theorem sn2:oH 1 [108,100,46,120,32,114,51,44,32,91,114,55,43,114,50,42,52,43,50,53,54,93] 0=([88,55,34,0,1,0,0],0,0):=by kernel_rfl
theorem sn3:oH 2 [97,100,100,32,114,49,44,32,114,50,44,32,114,51,10] 0=([0,192,72,4],0,0):=by kernel_rfl
theorem sn4:oH 1 [106,109,112,32,98] 0=([],1,14):=by kernel_rfl
theorem sn5:oH 2 [97,100,100,105,32,114,49,44,32,114,48,44,32,50,48,48,48,48,48] 0=([],1,13):=by kernel_rfl
set_option maxHeartbeats 1000000 in
theorem sanity_any (w_0:World) (hw0:WOk w_0):Calls Tryz.prog 15 #[] w_0 fun e w'=>e=.returned (.bool true)∧Ext w_0 w':=by
 refine zN (args:=[]) Tryz.func15 M 93 M (Kh M)<|yJ (.nil)<|Z0<|zX<|zZ<|Za M M<|ZX<|zZ<|xW .none M  (by kernel_rfl) M (fun w hw=>asm_is sn1 (by decide) (hw0.ext hw.ext0))<|Zm M M<|ZF M (zC M M)<|ZF M (zC M M)<|ZF M (zC M M)<|Za M M<|Za M M<|Za M M<|ZX<|Z4r 0 1 2 3 M<|xW .none M  (by kernel_rfl) M (fun w hw=>asm_is sn2 (by decide) (hw0.ext hw.ext0))<|Zm M M<|ZF M (zC M M)<|ZF M (zC M M)<|ZF M (zC M M)<|Za M M<|Za M M<|Za M M<|ZX<|Z7r 0 1 2 3 4 5 6 M<|xW .none M  (by kernel_rfl) M (fun w hw=>asm_is sn3 (by decide) (hw0.ext hw.ext0))<|Zm M M<|ZF M (zC M M) ?_;refine ZF M (zC M M)<|ZF M (zC M M)<|Za M M<|Za M M<|Za M M<|ZX<|Z10r 0 1 2 3 4 5 6 7 8 9 M<|xW .none M  (by kernel_rfl) M (fun w hw=>asm_is sn4 (by decide) (hw0.ext hw.ext0))<|Zm M M<|ZF M (zC M M)<|ZF M (zC M M)<|ZF M (zC M M)<|Za M M<|Za M M<|Za M M<|ZX<|Z12r 0 1 2 3 4 5 6 7 8 9 11 12 M<|xW .none M  (by kernel_rfl) M (fun w hw=>asm_is sn5 (by decide) (hw0.ext hw.ext0))<|Zm M M<|ZF M (zC M M)<|ZF M (zC M M)<|ZF M (zC M M)<|Za M M<|Za M M<|Za M M<|ZX<|Z14r 0 1 2 3 4 5 6 7 8 9 11 12 14 15 M<|Zm M M<|ZF M (yZ M M U9)<|Zm M M<|zQ 44 M (fun hb=>?_) (fun hb=>?_)
 ·refine Zv M<|Zx M<|Zh M<|Zm M M<|zQ 48 M (fun hb=>?_) (fun hb=>?_)
  ·replace hb:=Kq hb;refine Zv M<|Zx M<|Zh M<|Zm M M<|zQ 52 M (fun hb=>?_) (fun hb=>?_)
   ·replace hb:=Kq hb;refine Zv M<|ZG M M M (yZ M M U9)<|Zh M<|Zm M M<|zQ 56 M (fun hb=>?_) (fun hb=>?_)
    ·refine Zv M<|Zx M<|Zh M<|Zm M M<|zQ 60 M (fun hb=>?_) (fun hb=>?_)
     ·replace hb:=Kq hb;refine Zv M<|Zx M<|Zh M<|Za M M<|ZX<|Z15r 0 1 2 3 4 5 6 7 8 9 11 12 14 15 16 M<|Zm M M<|Zm M M<|zQ 65 M (fun hb=>?_) (fun hb=>?_)
      ·replace hb:=Kq hb;refine Zv M<|ZG M M M (yZ M M U9)<|Zh M<|Zm M M<|zQ 69 M (fun hb=>?_) (fun hb=>?_)
       ·refine Zv M<|Zx M<|Zh M<|Zm M M<|zQ 73 M (fun hb=>?_) (fun hb=>?_)
        ·replace hb:=Kq hb;refine Zv M<|Zx M<|Zh M<|Zm M M<|zQ 77 M (fun hb=>?_) (fun hb=>?_)
         ·replace hb:=Kq hb;refine Zv M<|Zx M<|Zh M<|Zm M M<|zQ 81 M (fun hb=>?_) (fun hb=>?_)
          ·replace hb:=Kq hb;refine Zv M<|Zx M<|Zh M<|Zm M M<|zQ 85 M (fun hb=>?_) (fun hb=>?_)
           ·replace hb:=Kq hb;refine Zv M<|Zx M<|Zh M<|Zm M M<|zQ 89 M (fun hb=>?_) (fun hb=>?_)
            ·replace hb:=Kq hb;refine Zv M<|Zx M<|Zh M<|Za M M<|ZU M M fun w hw=>⟨rfl,hw.ext0⟩
            replace hb:=yT hb;exact absurd hb (by decide)
           replace hb:=yT hb;exact absurd hb (by decide)
          replace hb:=yT hb;exact absurd hb (by decide)
         replace hb:=yT hb;exact absurd hb (by decide)
        replace hb:=yT hb;exact absurd hb (by decide)
       skip;exact absurd hb (by decide)
      replace hb:=yT hb;exact absurd hb (by decide)
     replace hb:=yT hb;exact absurd hb (by decide)
    skip;exact absurd hb (by decide)
   replace hb:=yT hb;exact absurd hb (by decide)
  replace hb:=yT hb;exact absurd hb (by decide)
 skip;exact absurd hb (by decide)
def kindL (n:Nat):Int:=if n%2=0 then 1 else 2
theorem kind_any (n:Nat) (w_0:World):Calls Tryz.prog 18 #[.int .u8 n] w_0 fun e w'=>e=.returned (.int .i64 (kindL n))∧Ext w_0 w':=by
 refine zN (args:=[.int .u8 n]) Tryz.func18 rfl 6 rfl (Kh rfl)<|Z1 0 rfl<|Z0<|zX<|zZ<|Za rfl rfl<|ZX<|zX<|zZ<|Zm rfl rfl<|ZF rfl (yf_rem rfl rfl (by first|decide|omega) (show ((n:Int)).tmod 2=((n%2:Nat):Int) by rw[Int.tmod_eq_emod_of_nonneg (by omega)];omega)) ?_;refine Ze M<|ZT<|zT M (fun h5=>?_) (fun h5=>?_)
 ·replace h5:=Kq h5;refine zX<|Z3r 0 2 5 M<|Za M M<|ZT<|zK<|zW<|yY M M fun w hw=>⟨by unfold kindL;rw[Ah (by omega)],hw.ext0⟩
 replace h5:=yT h5;refine zR<|zV<|zX<|Z3r 0 2 5 M<|Za M M<|ZU M M fun w hw=>⟨by unfold kindL;rw[Ag (by omega)],hw.ext0⟩
end Go.Proofs.YtkaepknpplhgkaaGreatDoor
namespace Go.Proofs.YtkaepknpplhgkaaGreatDoor
open Go.Joins Go.ChangeShapes Go.WideShapes Go.ChangeAt Go.RowKit Go.Deep
section
variable {H:Type}{enc:TypeId×Value→H}{P:Program}
theorem post_of_below {f:Func}{s:ChangeSpec}{apart fresh handsOn again:Bool}{W W':World}{args:Array Value}{v:Value}{ds gs:List (DataW H)}{before pa pv:List MemPlace}
  (hW:DataW.Whole enc P f.params.toList s.vars apart W args.toList ds gs before)
  (hres:∀(b:Nat) (sp:Nat→Bool) (hd:Bool),DataW.TrodAll enc P W' b sp hd f.resultTypes.toList (v.resultList f.resultTypes.size) (s.fn H (ds++gs)).results [])
  (hargs:∀sp:Nat→Bool,(∀p∈before,sp p.block=true)→DataW.TrodAll enc P W' 0 sp true f.params.toList args.toList (s.fn H (ds++gs)).args pa)
  (hvars:∀sp:Nat→Bool,(∀p∈before,sp p.block=true)→DataW.TrodVars enc P W' sp s.vars (s.fn H (ds++gs)).vars pv)
  (hps:before=pa++pv) (hb:Below W.heap.size W W')
  (hok:∀(j:Nat) (t:TypeId) (r:Value),f.resultTypes[j]? = some t→(v.resultList f.resultTypes.size)[j]? = some r→Value.okWide P W' .any 0 t r) :
  s.post enc P f apart fresh handsOn again W args v W':=by
 have hlt:∀p∈before,p.block<W.heap.size:=fun p hp=>hW.lt p hp;have hold:∀p∈before,(fun b=>decide (b<W.heap.size)) p.block=true:=fun p hp=>by simpa using hlt p hp
 refine⟨ds,gs,before,[],pa,pv,hW,hres _ _ _,hargs _ hold,hvars _ hold,World.keptBut_mono (fun p hp=>⟨hp,?_⟩) (hb.frame (·∈before)),fun _=>?_⟩
 ·rw[hps,Aq] at hp;exact Or.inr hp
 obtain⟨_,_,_,_,_,hz,hn⟩:=hW;refine⟨hok,_,_,([]++pa)++pv,⟨[]++pa,pv,trodAll_append (hargs _ (fun _ _=>rfl)) (hres _ _ _),hvars _ (fun _ _=>rfl),rfl,?_,?_⟩,?_⟩
 ·intro b off hp;have hin:MemPlace.cell b off∈before:=by rw[hps];simpa using hp
  rw[hb.frozen (hlt _ hin)];exact hz b off hin
 ·intro ha;have:=hn ha;rw[hps] at this
  simpa using this
 intro p hp _;rw[hps]
 simpa using hp
theorem trodAll_below (hl:laidOutB P=true) {W W':World}(hb:Below W.heap.size W W') {sp:Nat→Bool}:∀{ts:List TypeId}{vs:List Value}{ds:List (DataW H)}{ps:List MemPlace},
  (∀t∈ts,P.readableRec t=true∧t<P.types.size)→DataW.TrodAll enc P W 0 (fun _=>true) true ts vs ds ps→(∀x∈ps,x.block<W.heap.size)→(∀x∈ps,sp x.block=true)→DataW.TrodAll enc P W' 0 sp true ts vs ds ps
 | [],vs,ds,ps,_,h,_,_=>by
  obtain⟨rfl,rfl,rfl⟩:=trodAll_nil h;exact trodAll_mk0
 | t::ts,vs,ds,ps,hr,h,hlt,hsp=>by
  obtain⟨v,vs',d,ds',p,q,rfl,rfl,rfl,h1,h2⟩:=trodAll_cons h;have hr1:=hr t (Ks ..)
  exact trodAll_cons_mk (WideElems.Trod_stays hl hr1.1 hr1.2 h1 (fun x hx=>hb.same (hlt x (List.mem_append_left _ hx))) (fun x hx=>hsp x (List.mem_append_left _ hx)))
   (trodAll_below hl hb (fun t ht=>hr t (Ky _ ht)) h2 (fun x hx=>hlt x (List.mem_append_right _ hx)) (fun x hx=>hsp x (List.mem_append_right _ hx)))
end
theorem own:ownKnob Tryz.prog.godebug=none:=by kernel_rfl
theorem laid:laidOutB Tryz.prog=true:=by kernel_rfl
theorem law_end {H:Type}{enc:TypeId×Value→H}{W W':World}{args:Array Value}{ds:List (DataW H)}{before:List MemPlace}{fn:Func}{s:ChangeSpec}{e:Ending}(hv:s.vars=[])
  (h1:(s.fn H (ds++[])).results=[.lit (.bool true)]) (h2:(s.fn H (ds++[])).args=ds) (h3:(s.fn H (ds++[])).vars=[]) (hread:(fn.params.all fun t=>Tryz.prog.readableRec t&&decide (t<Tryz.prog.types.size))=true) (hr:fn.resultTypes=#[4])
  (hW:DataW.Whole enc Tryz.prog fn.params.toList s.vars false W args.toList ds [] before) (h:e=.returned (.bool true)∧Below W.heap.size W W'):∃v,e=.returned v∧s.post enc Tryz.prog fn false true false false W args v W':=by
 obtain⟨rfl,hb⟩:=h;have hlt:=hW.lt;have hW':=hW;obtain⟨p,q,hA,hV,rfl,_,_⟩:=hW;rw[hv] at hV;obtain⟨_,rfl⟩:=trodVars_none hV;simp only[Al] at hlt;rw[Al] at hW'
 have hread':∀t∈fn.params.toList,Tryz.prog.readableRec t=true∧t<Tryz.prog.types.size:=fun t ht=>by
  have:=Array.all_eq_true_iff_forall_mem.1 hread t (by simpa using ht)
  simpa using this
 refine⟨_,rfl,post_of_below (pa:=p) (pv:=[]) hW' (fun b sp hd=>?_) (fun sp hsp=>?_) (fun sp _=>?_) (by simp) hb ?_⟩;rw[h1,hr];exact trodAll_cons_mk (shut_bool Tryz.underlying4 _) trodAll_mk0;rw[h2];exact trodAll_below laid hb hread' hA hlt hsp;rw[h3,hv];unfold DataW.TrodVars;simp;refine ok_one (v:=.bool true) (t:=4) hr M ?_;exact okWide_bool_mk (P:=Tryz.prog) Tryz.underlying4 true
end Go.Proofs.YtkaepknpplhgkaaGreatDoor
namespace Go.Proofs.YtkaepknpplhgkaaGreatDoor
open Go.Joins Go.ChangeShapes Go.WideShapes Go.ChangeAt Go.RowKit Go.Deep
abbrev tabs:List (String×DataW Unit):=Rows.asmErrorsRow.laid
theorem mx_of {W:World}(h:W.ShapedOpen Tryz.prog):MxL W :=
 cell_of_shapedOpen_int (t:=3) (zero:=#[.int .i64 0]) (k:=.i64) h (Ki (by kernel_rfl)) (by kernel_rfl) rfl (by kernel_rfl) (by kernel_rfl) Tryz.underlying3
theorem laid_of {W:World}(h:laidMetH Tryz.prog tabs W) (hs:W.ShapedOpen Tryz.prog):WOk W:=by
 rw[MakeChecks.laidMetH_plain _ _ _ (by kernel_rfl)] at h
 have h2:laidMet Tryz.prog (("internal/strconv.uint64pow10",Lib.tabData .u64 Lib.pow10Tab)::[("unicode/utf8.acceptRanges",Rows.laid_unicode_utf8_acceptRanges),("unicode.White_Space",Rows.laid_unicode_White_Space),("strings.asciiSpace",Rows.laid_strings_asciiSpace),("unicode/utf8.first",Rows.laid_unicode_utf8_first)]) W:=h.tail.tail
 have h5:laidMet Tryz.prog (("strings.asciiSpace",Lib.tabData .u8 Lib.asciiSpaceTab)::[("unicode/utf8.first",Rows.laid_unicode_utf8_first)]) W:=by
  have e:(Lib.tabData .u8 Lib.asciiSpaceTab:DataW Unit)=Rows.laid_strings_asciiSpace:=by kernel_rfl
  rw[e];exact h2.tail.tail.tail
 exact⟨mx_of hs,Lib.tabIs_of_head (g:=asG) (t:=232) asG_is (by kernel_rfl) Tryz.underlying232 Tryz.underlying5 (by kernel_rfl) (by kernel_rfl) h5,
  Lib.tabIs_of_head (g:=3) (t:=278) (by kernel_rfl) (by kernel_rfl) Tryz.underlying278 Tryz.underlying210 (by kernel_rfl) (by kernel_rfl) h2⟩
theorem tabs_met (os:Os) (args:Array Value):laidMetH Tryz.prog tabs ((World.laidAll Tryz.prog os tabs).forCall (fun _ _=>0) ⟨#[],args,[]⟩).memory:=by
 rw[MakeChecks.laidMetH_plain _ _ _ (by kernel_rfl)];exact laidMet_laidAll _ (by kernel_rfl) (by kernel_rfl)
theorem handedS {H:Type}{enc:TypeId×Value→H}{a:Assume}{C:Checked}{os:Os}{f:FuncId}{fn:Func}{s:ChangeSpec}{conds:List PathCond}{apart fresh handsOn again:Bool}{X:World→Array Value→Prop}
  (hX:∀(w w':World) (args:Array Value),w.heap=w'.heap→X w args→X w' args) (own:ownKnob C.prog.godebug=none) (started:os.Started) (noInit:C.prog.inits.idxOf? f=none) (hfn:C.prog.funcs[f]? = some fn)
  (witness:∃(w:World) (tape:Tape) (i:Input),w.os=os∧(w.forCall tape i).Shaped C.prog∧i.vars=[]∧Input.okWide C.prog (w.forCall tape i) .any w.heap.size f i ∧
   ((s.pre enc C.prog fn conds apart (w.forCall tape i).memory i.args∧X (w.forCall tape i).memory i.args)∧sizedMet enc C.prog fn (OpenSpec.ofChange s) apart (w.forCall tape i).memory i.args)∧a.holds C.prog (lone (Frame.enter C.prog f i.args .normal) [] (w.forCall tape i)))
  (contract:∀(W:World) (base:Nat) (args:Array Value) (ds gs:List (DataW H)) (before:List MemPlace),(∀(j:Nat) t v,fn.params[j]? = some t→args[j]? = some v→Value.okWide C.prog W .any base t v) →
   DataW.Whole enc C.prog fn.params.toList s.vars apart W args.toList ds gs before→W.ShapedOpen C.prog→X W args→Calls C.prog f args W fun e W'=>∃v,e=.returned v∧s.post enc C.prog fn apart fresh handsOn again W args v W') :
  ReturnsInHanded a C os f .any (fun w args=>(s.pre enc C.prog fn conds apart w args∧X w args)∧sizedMet enc C.prog fn (OpenSpec.ofChange s) apart w args) (s.post enc C.prog fn apart fresh handsOn again):=by
 refine returnsInHanded_of_calls own started noInit witness fun w tape i _ hsh _ hok hpre _=>?_;have hin:=hok.2.2.2;obtain⟨fn',hfn',_,_,_,_,hval⟩:=hin;cases Option.some.inj (hfn'.symm.trans hfn);obtain⟨⟨⟨ds,gs,before,hw,_⟩,hx⟩,_⟩:=hpre;have hw':=DataW.Whole.of_heap (w':=w.forCall tape i) (by rfl) hw;have hc:=contract (w.forCall tape i) w.heap.size i.args ds gs before hval hw' hsh (hX (w.forCall tape i).memory (w.forCall tape i) _ (by rfl) hx);refine hc.mono ?_
 rintro e W' ⟨v,rfl,hp⟩
 exact ChangeSpec.post_blind hp
end Go.Proofs.YtkaepknpplhgkaaGreatDoor
namespace Go.Proofs.YtkaepknpplhgkaaGreatDoor
open Go.Joins Go.ChangeShapes Go.WideShapes Go.ChangeAt Go.RowKit Go.Deep
theorem wf_u {k:IntKind}{a:Int}(h:(Lit.int k a).wf=true) (h0:k.min=0):0≤a∧a≤k.max:=by
 simpa [Lit.wf,h0] using h
section
variable {H:Type}{enc:TypeId×Value→H}{w:World}{base:Nat}{spare:Nat→Bool}{held:Bool}{r:Reach}{b0:Nat}{v:Value}{d:DataW H}{p:List MemPlace}
theorem open_u8 (hv:Value.okWide Tryz.prog w r b0 5 v) (h:DataW.Trod enc Tryz.prog w base spare held 5 v d p):∃n:Nat,v=.int .u8 n∧n<256:=by
 obtain⟨a,rfl,_,_,hw⟩:=open_int Tryz.underlying5 hv h;have:=wf_u hw rfl;exact⟨a.toNat,by congr 1;omega,by have:IntKind.u8.max=255:=rfl;omega⟩
theorem open_u32 (hv:Value.okWide Tryz.prog w r b0 22 v) (h:DataW.Trod enc Tryz.prog w base spare held 22 v d p):∃n:Nat,v=.int .u32 n∧n<4294967296:=by
 obtain⟨a,rfl,_,_,hw⟩:=open_int Tryz.underlying22 hv h;have:=wf_u hw rfl;exact⟨a.toNat,by congr 1;omega,by have:IntKind.u32.max=4294967295:=rfl;omega⟩
theorem bytes_back (s:ByteArray):(⟨s.data.toList.toArray⟩:ByteArray)=s:=by cases s;simp
theorem open_strA (hv:Value.okWide Tryz.prog w r b0 9 v) (h:DataW.Trod enc Tryz.prog w base spare held 9 v d p):∃s:List UInt8,v=.string ⟨s.toArray⟩∧s.length≤9223372036854775807:=by
 obtain⟨s,rfl,_,_,hs⟩:=Go.ChangeMaps.open_string Tryz.underlying9 hv h;refine⟨s.data.toList,by rw[bytes_back],?_⟩;have:s.data.toList.length=s.size:=by rw[Array.length_toList];rfl
 unfold maxLen at hs;omega
end
end Go.Proofs.YtkaepknpplhgkaaGreatDoor
