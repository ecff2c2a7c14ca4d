/- What the rows' condition gives the walks, and the last step of a law (the seat of chapters 31 and 32). A world that came in. What the rows' condition gives of strconv.ErrRange (the seat of chapter 31). -/
import Derived.Test.YtbkfhacmekbniaaGreatDoorPc00
import Derived.Below
import Derived.ChangeSame
import Derived.OpenShut
import Derived.LaidMore
import Derived.ProofKit
import Derived.Stop.Joined
import Derived.Laws.IdiomArrays
import Derived.Test.YtbkfhacmekbniaaGreatDoorRows
import Derived.Test.YtbkfhacmekbniaaGreatDoorTie
import Derived.Test.YtbkfhacmekbniaaGreatDoorCards
import Derived.Handy
import Derived.Lay
import Derived.SevenTiedAt
import Derived.Stop.LaidErr
import Derived.Carry
import Derived.Test.YtbkfhacmekbniaaGreatDoorPc20
import Derived.Lib.SmallJoins
import Derived.Test.YtbkfhacmekbniaaGreatDoorPc09
set_option maxRecDepth 100000
namespace Go.Proofs.YtbkfhacmekbniaaGreatDoor
open Go.ChangeShapes Go.WideShapes Go.ChangeAt Go.WideMaps Go.WideElems Go.RowKit
theorem zqY {n:Int}(h:(Lit.int .u8 n).wf=true):0≤n∧n≤255:=by
 simp [Lit.wf,IntKind.min,IntKind.max,IntKind.signed,IntKind.bits] at h;omega
section
variable {H : Type} {enc : TypeId × Value → H} {P : Program}
theorem zqZ {f:Func}{s:ChangeSpec}{apart fresh handsOn again:Bool}{W W':World}{args:Array Value}{v:Value}{ds gs:List (DataW H)}{before pa pv:List MemPlace}
  (hW:DataW.Whole enc P f.params.toList s.vars apart W args.toList ds gs before)
  (hres:∀ (b:Nat)(sp:Nat→Bool)(hd:Bool),DataW.TrodAll enc P W' b sp hd f.resultTypes.toList (v.resultList f.resultTypes.size) (s.fn H (ds++gs)).results [])
  (hargs:∀ sp:Nat→Bool,(∀ p∈before,sp p.block=true)→DataW.TrodAll enc P W' 0 sp true f.params.toList args.toList (s.fn H (ds++gs)).args pa)
  (hvars:∀ sp:Nat→Bool,(∀ p∈before,sp p.block=true)→DataW.TrodVars enc P W' sp s.vars (s.fn H (ds++gs)).vars pv)
  (hps:before=pa++pv) (hb:Below W.heap.size W W')
  (hok:∀ (j:Nat)(t:TypeId)(r:Value),f.resultTypes[j]?=some t→(v.resultList f.resultTypes.size)[j]?=some r→Value.okWide P W' .any 0 t r) :
  s.post enc P f apart fresh handsOn again W args v W':=by
 have hlt:∀ p∈before,p.block<W.heap.size:=fun p hp=>hW.lt p hp;have hold:∀ p∈before,(fun b=>decide (b<W.heap.size)) p.block=true:=fun p hp=>by simpa using hlt p hp
 refine ⟨ds,gs,before,[],pa,pv,hW,hres _ _ _,hargs _ hold,hvars _ hold,World.keptBut_mono (fun p hp=>⟨hp,?_⟩) (hb.frame (·∈before)),fun _=>?_⟩
 ·rw [hps,List.mem_append] at hp;exact Or.inr hp
 ·obtain ⟨_,_,_,_,_,hz,hn⟩:=hW;refine ⟨hok,_,_,([]++pa)++pv,⟨[]++pa,pv,trodAll_append (hargs _ (fun _ _=>rfl)) (hres _ _ _),hvars _ (fun _ _=>rfl),rfl,?_,?_⟩,?_⟩
  ·intro b off hp;have hin:MemPlace.cell b off∈before:=(by rw [hps];simpa using hp);rw [hb.frozen (hlt _ hin)];exact hz b off hin
  ·intro ha;have:=hn ha;rw [hps] at this;simpa using this
  ·intro p hp _;rw [hps];simpa using hp
end
theorem zra : ownKnob Tryz.prog.godebug=none:=by kernel_rfl
theorem zrb : (Tryz.prog.globals[2]?).map (·.type)=some 273:=by kernel_rfl
theorem zrc : Tryz.prog.cellsOf 160=1:=by kernel_rfl
theorem zrd : Tryz.prog.cellsOf 273=20:=by kernel_rfl
theorem zre {W : World} (h : laidMetH Tryz.prog [("math/bits.deBruijn32tab", Rows.laid_math_bits_deBruijn32tab), ("math/bits.deBruijn64tab", Rows.laid_math_bits_deBruijn64tab), ("internal/strconv.uint64pow10", Rows.laid_internal_strconv_uint64pow10), ("strconv.ErrRange", Rows.laid_strconv_ErrRange), ("strconv.ErrSyntax", Rows.laid_strconv_ErrSyntax)] W) : Env W := by
 rw [MakeChecks.laidMetH_plain _ _ _ (by kernel_rfl)] at h;exact Lib.tabIs_of_head (k:=.u64) (zs:=Lib.pow10Tab) zaw zrb Tryz.underlying273 Tryz.underlying160 zrc zrd h.tail.tail
def zrf : List (String × DataW Unit) := [("math/bits.deBruijn32tab", Rows.laid_math_bits_deBruijn32tab), ("math/bits.deBruijn64tab", Rows.laid_math_bits_deBruijn64tab), ("internal/strconv.uint64pow10", Rows.laid_internal_strconv_uint64pow10), ("strconv.ErrRange", Rows.laid_strconv_ErrRange), ("strconv.ErrSyntax", Rows.laid_strconv_ErrSyntax)]
theorem zrg (os:Os)(args:Array Value):((World.laidAll Tryz.prog os zrf).forCall (fun _ _=>0) ⟨#[],args,[]⟩).Shaped Tryz.prog:=World.shaped_of_ZipB (by kernel_rfl) (by kernel_rfl)
theorem zrh (os:Os)(args:Array Value):laidMetH Tryz.prog zrf ((World.laidAll Tryz.prog os zrf).forCall (fun _ _=>0) ⟨#[],args,[]⟩).memory:=by
 rw [MakeChecks.laidMetH_plain _ _ _ (by kernel_rfl)];exact laidMet_laidAll _ (by kernel_rfl) (by kernel_rfl)
theorem zri : laidOutB Tryz.prog=true:=by kernel_rfl
section
variable {H : Type} {enc : TypeId × Value → H} {W W' : World} {sp : Nat → Bool}
theorem zrj : ∀ {ts:List TypeId}{vs:List Value}{ds:List (DataW H)}{ps:List MemPlace},(∀ t∈ts,Tryz.prog.readableRec t=true∧t<Tryz.prog.types.size) →
  DataW.TrodAll enc Tryz.prog W 0 (fun _=>true) true ts vs ds ps→(∀ x∈ps,W.sameAt W' x)→(∀ x∈ps,sp x.block=true)→DataW.TrodAll enc Tryz.prog W' 0 sp true ts vs ds ps
 | [],_,_,_,_,h,_,_=>by
  obtain ⟨rfl,rfl,rfl⟩:=trodAll_nil h;exact trodAll_mk0
 | t::ts,vs,ds,ps,hts,h,hs,hp=>by
  obtain ⟨v,vs',d,ds',p,p',rfl,rfl,rfl,h1,h2⟩:=trodAll_cons h;obtain ⟨hr,hw⟩:=hts t (List.mem_cons_self ..);exact trodAll_cons_mk (WideElems.Trod_stays zri hr hw h1 (fun x hx=>hs x (List.mem_append_left _ hx)) (fun x hx=>hp x (List.mem_append_left _ hx)))
   (zrj (fun t ht=>hts t (List.mem_cons_of_mem _ ht)) h2 (fun x hx=>hs x (List.mem_append_right _ hx)) (fun x hx=>hp x (List.mem_append_right _ hx)))
end
theorem zrk {H:Type}{enc:TypeId × Value→H}{f:Func}{s:ChangeSpec}{W W':World}{args:Array Value}{ds:List (DataW H)}{before:List MemPlace}(hv:s.vars=[])(hts:∀ t∈f.params.toList,Tryz.prog.readableRec t=true∧t<Tryz.prog.types.size)
  (hres:f.resultTypes=#[4]) (hfn:s.fn H ds={ results:=[.lit (.bool true)],args:=ds })
  (hW:DataW.Whole enc Tryz.prog f.params.toList s.vars false W args.toList ds [] before) (hb:Below W.heap.size W W'):s.post enc Tryz.prog f false true false false W args (.bool true) W':=by
 have hW':=hW;obtain ⟨p,q,hA0,hV,rfl,_,_⟩:=hW;rw [hv] at hV;obtain ⟨_,rfl⟩:=trodVars_none hV;have hlt:∀ x∈p++[],x.block<W.heap.size:=fun x hx=>hW'.lt x hx;refine zqZ (pa:=p) (pv:=[]) hW' (fun _ _ _=>?_) (fun sp hsp=>?_) (fun _ _=>?_) rfl hb ?_
 ·rw [List.append_nil,hfn,hres];exact trodAll_mk1 (shut_bool Tryz.underlying4 _)
 ·rw [List.append_nil,hfn];exact zrj hts hA0 (fun x hx=>hb.same (hlt x (List.mem_append_left _ hx))) (fun x hx=>hsp x (List.mem_append_left _ hx))
 ·rw [List.append_nil,hfn,hv];rfl
 ·exact ok_one hres rfl (okWide_bool_mk Tryz.underlying4 _)
theorem zrl : Tryz.prog.cellsOf 4=1:=by kernel_rfl
theorem zrm : Tryz.prog.cellsOf 5=1:=by kernel_rfl
theorem zrn : Tryz.prog.cellsOf 22=1:=by kernel_rfl
theorem zro : Tryz.prog.cellsOf 23=3:=by kernel_rfl
theorem zrp : Tryz.prog.cellsOf 24=24:=by kernel_rfl
theorem zrq : Tryz.prog.cellsOf 26=27:=by kernel_rfl
section
variable {H : Type} {enc : TypeId × Value → H} {w : World} {base : Nat} {spare : Nat → Bool} {held : Bool}
theorem zrr {fuel:Nat}{c0 c1 c2:Value}{x:DataW H × List MemPlace}(h:DataW.trod enc Tryz.prog w base spare held fuel 23 [c0,c1,c2]=some x) :
  ∃ z:I3,c0=.int .i8 z.a∧c1=.int .i8 z.b∧c2=.int .i8 z.c∧z.ok:=by
 obtain ⟨y0,y1,y2,n,rfl,h0,h1,h2⟩:=trod_array3 Tryz.underlying23 zrn h;obtain ⟨a,ha,rfl,wa⟩:=DataW.trod_int Tryz.underlying22 h0;obtain ⟨b,hb,rfl,wb⟩:=DataW.trod_int Tryz.underlying22 h1;obtain ⟨c,hc,rfl,wc⟩:=DataW.trod_int Tryz.underlying22 h2;simp only [List.cons.injEq,and_true] at ha hb hc;have ba:=bounds_i8 wa;have bb:=bounds_i8 wb;have bc:=bounds_i8 wc;refine ⟨⟨a,b,c⟩,ha,hb,hc,fun i=>?_⟩;match i with
 | 0=>exact ba
 | 1=>exact bb
 | _+2=>exact bc
theorem zrs {n:Int}(h:(Lit.int .u8 n).wf=true):∃ k:Nat,n=k∧k<256:=by
 have:=zqY h;exact ⟨n.toNat,by omega,by omega⟩
def zrt (z0 z1 z2 z3 z4 z5 z6 z7:I3):Nat→I3
 | 0=>z0
 | 1=>z1
 | 2=>z2
 | 3=>z3
 | 4=>z4
 | 5=>z5
 | 6=>z6
 | 7=>z7
 | _=>⟨0,0,0⟩
theorem zru {r:Reach}{b0:Nat}{v:Value}{d:DataW H}{p:List MemPlace}(hv:Value.okWide Tryz.prog w r b0 26 v)(h:DataW.Trod enc Tryz.prog w base spare held 26 v d p) :
  ∃ a:Wl,v=a.v∧a.Ok:=by
 obtain ⟨cs,rfl,hsz⟩:=okWide_struct Tryz.underlying26 hv;rw [zrq] at hsz;obtain ⟨l⟩:=cs;match l,hsz with
 | [c0,c1,c2,c3,c4,c5,c6,c7,c8,c9,c10,c11,c12,c13,c14,c15,c16,c17,c18,c19,c20,c21,c22,c23,c24,c25,c26],_ =>
  obtain ⟨fuel,hf⟩:=h
  obtain ⟨y0,y1,y2,y3,k,hx,_,h0,h1,h2,h3⟩:=Go.Joins.trod_struct4 Tryz.underlying26 hf
  simp only [Value.cells,zrl,zrm,zrp,List.drop_zero,List.take_succ_cons,List.take_zero,List.drop_succ_cons] at h0 h1 h2 h3
  obtain ⟨b,hb,rfl⟩:=DataW.trod_bool Tryz.underlying4 h0
  obtain ⟨n,hn,rfl,wn⟩:=DataW.trod_int Tryz.underlying5 h1
  obtain ⟨m,hm,rfl,wm⟩:=DataW.trod_int Tryz.underlying5 h2
  simp only [List.cons.injEq,and_true] at hb hn hm
  obtain ⟨n',rfl,n1⟩:=zrs wn
  obtain ⟨m',rfl,m1⟩:=zrs wm
  obtain ⟨xs,j,_,_,_,hxl,hg⟩:=DataW.trod_array Tryz.underlying24 h3
  obtain ⟨q0,hq0⟩:∃ q,xs[0]?=some q:=⟨_,List.getElem?_eq_getElem (by omega)⟩
  have g0:=hg 0 (by omega)
  rw [hq0,zro] at g0
  simp only [Nat.reduceMul,List.drop_zero,List.take_succ_cons,List.take_zero] at g0
  obtain ⟨z0,e0a,e0b,e0c,o0⟩:=zrr g0
  obtain ⟨q1,hq1⟩:∃ q,xs[1]?=some q:=⟨_,List.getElem?_eq_getElem (by omega)⟩
  have g1:=hg 1 (by omega)
  rw [hq1,zro] at g1
  simp only [Nat.reduceMul,List.drop_zero,List.take_succ_cons,List.take_zero,List.drop_succ_cons] at g1
  obtain ⟨z1,e1a,e1b,e1c,o1⟩:=zrr g1
  obtain ⟨q2,hq2⟩:∃ q,xs[2]?=some q:=⟨_,List.getElem?_eq_getElem (by omega)⟩
  have g2:=hg 2 (by omega)
  rw [hq2,zro] at g2
  simp only [Nat.reduceMul,List.drop_zero,List.take_succ_cons,List.take_zero,List.drop_succ_cons] at g2
  obtain ⟨z2,e2a,e2b,e2c,o2⟩:=zrr g2
  obtain ⟨q3,hq3⟩:∃ q,xs[3]?=some q:=⟨_,List.getElem?_eq_getElem (by omega)⟩
  have g3:=hg 3 (by omega)
  rw [hq3,zro] at g3
  simp only [Nat.reduceMul,List.drop_zero,List.take_succ_cons,List.take_zero,List.drop_succ_cons] at g3
  obtain ⟨z3,e3a,e3b,e3c,o3⟩:=zrr g3
  obtain ⟨q4,hq4⟩:∃ q,xs[4]?=some q:=⟨_,List.getElem?_eq_getElem (by omega)⟩
  have g4:=hg 4 (by omega)
  rw [hq4,zro] at g4
  simp only [Nat.reduceMul,List.drop_zero,List.take_succ_cons,List.take_zero,List.drop_succ_cons] at g4
  obtain ⟨z4,e4a,e4b,e4c,o4⟩:=zrr g4
  obtain ⟨q5,hq5⟩:∃ q,xs[5]?=some q:=⟨_,List.getElem?_eq_getElem (by omega)⟩
  have g5:=hg 5 (by omega)
  rw [hq5,zro] at g5
  simp only [Nat.reduceMul,List.drop_zero,List.take_succ_cons,List.take_zero,List.drop_succ_cons] at g5
  obtain ⟨z5,e5a,e5b,e5c,o5⟩:=zrr g5
  obtain ⟨q6,hq6⟩:∃ q,xs[6]?=some q:=⟨_,List.getElem?_eq_getElem (by omega)⟩
  have g6:=hg 6 (by omega)
  rw [hq6,zro] at g6
  simp only [Nat.reduceMul,List.drop_zero,List.take_succ_cons,List.take_zero,List.drop_succ_cons] at g6
  obtain ⟨z6,e6a,e6b,e6c,o6⟩:=zrr g6
  obtain ⟨q7,hq7⟩:∃ q,xs[7]?=some q:=⟨_,List.getElem?_eq_getElem (by omega)⟩
  have g7:=hg 7 (by omega)
  rw [hq7,zro] at g7
  simp only [Nat.reduceMul,List.drop_zero,List.take_succ_cons,List.take_zero,List.drop_succ_cons] at g7
  obtain ⟨z7,e7a,e7b,e7c,o7⟩:=zrr g7
  refine ⟨⟨b,n',m',zrt z0 z1 z2 z3 z4 z5 z6 z7⟩,?_,n1,m1,fun i=>?_⟩
  ·rw [hb,hn,hm,e0a,e0b,e0c,e1a,e1b,e1c,e2a,e2b,e2c,e3a,e3b,e3c,e4a,e4b,e4c,e5a,e5b,e5c,e6a,e6b,e6c,e7a,e7b,e7c]
   rfl
  ·match i with
   | 0=>exact o0
   | 1=>exact o1
   | 2=>exact o2
   | 3=>exact o3
   | 4=>exact o4
   | 5=>exact o5
   | 6=>exact o6
   | 7=>exact o7
   | _+8=>exact fun k=>(match k with | 0=>(by decide:-128≤(0:Int)∧(0:Int)≤127) | 1=>(by decide:-128≤(0:Int)∧(0:Int)≤127) | _+2=>(by decide:-128≤(0:Int)∧(0:Int)≤127):-128≤(⟨0,0,0⟩:I3).at k∧(⟨0,0,0⟩:I3).at k≤127)
end
theorem zrv : (Tryz.prog.globals[1]?).map (·.type)=some 102:=by kernel_rfl
theorem zrw : Tryz.prog.globalNamed "strconv.ErrRange" = some 1 := by kernel_rfl
theorem zrx : "*" ++ "errors.errorString" = "*errors.errorString" := by decide
theorem zry (u : TypeId) (h : Tryz.prog.typeName? 3 u = some "*errors.errorString") : u = 248 :=
 typeName_ptr_named (nm := "errors.errorString") (by rw [zrx]; kernel_rfl) (by kernel_rfl) (by decide) u (by rw [zrx]; exact h)
theorem zrz {W : World} (h : laidMetH Tryz.prog [("math/bits.deBruijn32tab", Rows.laid_math_bits_deBruijn32tab), ("math/bits.deBruijn64tab", Rows.laid_math_bits_deBruijn64tab), ("internal/strconv.uint64pow10", Rows.laid_internal_strconv_uint64pow10), ("strconv.ErrRange", Rows.laid_strconv_ErrRange), ("strconv.ErrSyntax", Rows.laid_strconv_ErrSyntax)] W) : zgm W := by
 rw [MakeChecks.laidMetH_plain _ _ _ (by kernel_rfl)] at h;obtain ⟨a0,s0,hv,_⟩:=laid_sentinel h.tail.tail.tail zrw zrv Tryz.underlying102 zry Tryz.underlying248 Tryz.underlying250 rfl rfl Tryz.underlying9 (by kernel_rfl) (by kernel_rfl);exact ⟨_,_,hv⟩
end Go.Proofs.YtbkfhacmekbniaaGreatDoor
