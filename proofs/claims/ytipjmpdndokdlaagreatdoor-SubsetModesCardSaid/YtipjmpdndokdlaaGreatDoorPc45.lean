/- A world that came in. A pair of bytes that came in; sixteen bits that came in. A draft that came in. What the rows ask of the program as a whole (once a seat). -/
import Derived.Test.YtipjmpdndokdlaaGreatDoorPc44
import Derived.Test.YtipjmpdndokdlaaGreatDoorPc27
import Derived.Lib.SmallJoins
set_option maxRecDepth 100000
namespace Go.Proofs.YtipjmpdndokdlaaGreatDoor
open Go.ChangeShapes Go.WideShapes Go.ChangeAt Go.WideMaps Go.WideElems Go.RowKit
theorem cellsB : Tryz.prog.cellsOf 4=1:=by kernel_rfl
theorem cellsU : Tryz.prog.cellsOf 5=1:=by kernel_rfl
theorem cellsI8 : Tryz.prog.cellsOf 43=1:=by kernel_rfl
theorem cells3 : Tryz.prog.cellsOf 44=3:=by kernel_rfl
theorem cells24 : Tryz.prog.cellsOf 45=24:=by kernel_rfl
theorem cells27w : Tryz.prog.cellsOf 47=27:=by kernel_rfl
section
variable {H : Type} {enc : TypeId × Value → H} {w : World} {base : Nat} {spare : Nat → Bool} {held : Bool}
theorem open_i3 {fuel:Nat}{c0 c1 c2:Value}{x:DataW H × List MemPlace}(h:DataW.trod enc Tryz.prog w base spare held fuel 44 [c0,c1,c2]=some x) :
  ∃ z:I3,c0=.int .i8 z.a∧c1=.int .i8 z.b∧c2=.int .i8 z.c∧z.ok:=by
 obtain ⟨y0,y1,y2,n,rfl,h0,h1,h2⟩:=trod_array3 Tryz.underlying44 cellsI8 h
 obtain ⟨a,ha,rfl,wa⟩:=DataW.trod_int Tryz.underlying43 h0
 obtain ⟨b,hb,rfl,wb⟩:=DataW.trod_int Tryz.underlying43 h1
 obtain ⟨c,hc,rfl,wc⟩:=DataW.trod_int Tryz.underlying43 h2
 simp only [List.cons.injEq,and_true] at ha hb hc
 have ba:=bounds_i8 wa;have bb:=bounds_i8 wb;have bc:=bounds_i8 wc
 refine ⟨⟨a,b,c⟩,ha,hb,hc,fun i=>?_⟩
 match i with
 | 0=>exact ba
 | 1=>exact bb
 | _+2=>exact bc
theorem wf_u8 {n:Int}(h:(Lit.int .u8 n).wf=true):∃ k:Nat,n=k∧k<256:=by
 have:=bounds_u8 h
 exact ⟨n.toNat,by omega,by omega⟩
/-- Eight triples by their index. -/
def xsOf (z0 z1 z2 z3 z4 z5 z6 z7 : I3) : Nat → I3
 | 0=>z0
 | 1=>z1
 | 2=>z2
 | 3=>z3
 | 4=>z4
 | 5=>z5
 | 6=>z6
 | 7=>z7
 | _=>⟨0,0,0⟩
end
end Go.Proofs.YtipjmpdndokdlaaGreatDoor

namespace Go.Proofs.YtipjmpdndokdlaaGreatDoor
open Go.ChangeShapes Go.WideShapes Go.ChangeAt Go.WideMaps Go.WideElems Go.RowKit
theorem wf_u16 {n:Int}(h:(Lit.int .u16 n).wf=true):∃ k:Nat,n=k∧k<65536:=by
 have:=bounds_u16 h
 exact ⟨n.toNat,by omega,by omega⟩
section
variable {H : Type} {enc : TypeId × Value → H} {w : World} {base : Nat} {spare : Nat → Bool} {held : Bool}
end
end Go.Proofs.YtipjmpdndokdlaaGreatDoor

namespace Go.Proofs.YtipjmpdndokdlaaGreatDoor
open Go.ChangeShapes Go.WideShapes Go.ChangeAt Go.WideMaps Go.WideElems Go.RowKit
theorem cellsU16 : Tryz.prog.cellsOf 22=1:=by kernel_rfl
theorem cells31 : Tryz.prog.cellsOf 49=31:=by kernel_rfl
section
variable {H : Type} {enc : TypeId × Value → H} {w : World} {base : Nat} {spare : Nat → Bool} {held : Bool}
theorem trod_struct5 {t:TypeId}{f0 f1 f2 f3 f4:Field}{fuel:Nat}{cs:List Value}{x:DataW H × List MemPlace}(ht:Tryz.prog.underlying t=some (.struct #[f0,f1,f2,f3,f4]))(h:DataW.trod enc Tryz.prog w base spare held fuel t cs=some x) :
  ∃ y0 y1 y2 y3 y4 n,DataW.trod enc Tryz.prog w base spare held n f0.type ((cs.drop f0.offset).take (Tryz.prog.cellsOf f0.type))=some y0∧DataW.trod enc Tryz.prog w base spare held n f1.type ((cs.drop f1.offset).take (Tryz.prog.cellsOf f1.type))=some y1 ∧
   DataW.trod enc Tryz.prog w base spare held n f2.type ((cs.drop f2.offset).take (Tryz.prog.cellsOf f2.type))=some y2∧DataW.trod enc Tryz.prog w base spare held n f3.type ((cs.drop f3.offset).take (Tryz.prog.cellsOf f3.type))=some y3 ∧
   DataW.trod enc Tryz.prog w base spare held n f4.type ((cs.drop f4.offset).take (Tryz.prog.cellsOf f4.type))=some y4:=by
 obtain ⟨xs,n,_,_,_,hlen,hf⟩:=DataW.trod_struct ht h
 match xs,hlen with
 | [y0,y1,y2,y3,y4],_=>exact ⟨y0,y1,y2,y3,y4,n,by simpa using hf 0 f0 rfl,by simpa using hf 1 f1 rfl,by simpa using hf 2 f2 rfl,by simpa using hf 3 f3 rfl,by simpa using hf 4 f4 rfl⟩
theorem open_w27 {fuel:Nat}{c0 c1 c2 c3 c4 c5 c6 c7 c8 c9 c10 c11 c12 c13 c14 c15 c16 c17 c18 c19 c20 c21 c22 c23 c24 c25 c26:Value}{x:DataW H × List MemPlace}(hf:DataW.trod enc Tryz.prog w base spare held fuel 47 [c0,c1,c2,c3,c4,c5,c6,c7,c8,c9,c10,c11,c12,c13,c14,c15,c16,c17,c18,c19,c20,c21,c22,c23,c24,c25,c26]=some x) :
  ∃ a:Wl,(#[c0,c1,c2,c3,c4,c5,c6,c7,c8,c9,c10,c11,c12,c13,c14,c15,c16,c17,c18,c19,c20,c21,c22,c23,c24,c25,c26]:Array Value)=a.cs∧a.Ok:=by
 obtain ⟨y0,y1,y2,y3,k,hx,_,h0,h1,h2,h3⟩:=Go.Joins.trod_struct4 Tryz.underlying47 hf
 simp only [cellsB,cellsU,cells24,List.drop_zero,List.take_succ_cons,List.take_zero,List.drop_succ_cons] at h0 h1 h2 h3
 obtain ⟨b,hb,rfl⟩:=DataW.trod_bool Tryz.underlying4 h0
 obtain ⟨n,hn,rfl,wn⟩:=DataW.trod_int Tryz.underlying5 h1
 obtain ⟨m,hm,rfl,wm⟩:=DataW.trod_int Tryz.underlying5 h2
 simp only [List.cons.injEq,and_true] at hb hn hm
 obtain ⟨n',rfl,n1⟩:=wf_u8 wn
 obtain ⟨m',rfl,m1⟩:=wf_u8 wm
 obtain ⟨xs,j,_,_,_,hxl,hg⟩:=DataW.trod_array Tryz.underlying45 h3
 obtain ⟨q0,hq0⟩:∃ q,xs[0]?=some q:=⟨_,List.getElem?_eq_getElem (by omega)⟩
 have g0:=hg 0 (by omega)
 rw [hq0,cells3] at g0
 simp only [Nat.reduceMul,List.drop_zero,List.take_succ_cons,List.take_zero] at g0
 obtain ⟨z0,e0a,e0b,e0c,o0⟩:=open_i3 g0
 obtain ⟨q1,hq1⟩:∃ q,xs[1]?=some q:=⟨_,List.getElem?_eq_getElem (by omega)⟩
 have g1:=hg 1 (by omega)
 rw [hq1,cells3] at g1
 simp only [Nat.reduceMul,List.drop_zero,List.take_succ_cons,List.take_zero,List.drop_succ_cons] at g1
 obtain ⟨z1,e1a,e1b,e1c,o1⟩:=open_i3 g1
 obtain ⟨q2,hq2⟩:∃ q,xs[2]?=some q:=⟨_,List.getElem?_eq_getElem (by omega)⟩
 have g2:=hg 2 (by omega)
 rw [hq2,cells3] at g2
 simp only [Nat.reduceMul,List.drop_zero,List.take_succ_cons,List.take_zero,List.drop_succ_cons] at g2
 obtain ⟨z2,e2a,e2b,e2c,o2⟩:=open_i3 g2
 obtain ⟨q3,hq3⟩:∃ q,xs[3]?=some q:=⟨_,List.getElem?_eq_getElem (by omega)⟩
 have g3:=hg 3 (by omega)
 rw [hq3,cells3] at g3
 simp only [Nat.reduceMul,List.drop_zero,List.take_succ_cons,List.take_zero,List.drop_succ_cons] at g3
 obtain ⟨z3,e3a,e3b,e3c,o3⟩:=open_i3 g3
 obtain ⟨q4,hq4⟩:∃ q,xs[4]?=some q:=⟨_,List.getElem?_eq_getElem (by omega)⟩
 have g4:=hg 4 (by omega)
 rw [hq4,cells3] at g4
 simp only [Nat.reduceMul,List.drop_zero,List.take_succ_cons,List.take_zero,List.drop_succ_cons] at g4
 obtain ⟨z4,e4a,e4b,e4c,o4⟩:=open_i3 g4
 obtain ⟨q5,hq5⟩:∃ q,xs[5]?=some q:=⟨_,List.getElem?_eq_getElem (by omega)⟩
 have g5:=hg 5 (by omega)
 rw [hq5,cells3] at g5
 simp only [Nat.reduceMul,List.drop_zero,List.take_succ_cons,List.take_zero,List.drop_succ_cons] at g5
 obtain ⟨z5,e5a,e5b,e5c,o5⟩:=open_i3 g5
 obtain ⟨q6,hq6⟩:∃ q,xs[6]?=some q:=⟨_,List.getElem?_eq_getElem (by omega)⟩
 have g6:=hg 6 (by omega)
 rw [hq6,cells3] at g6
 simp only [Nat.reduceMul,List.drop_zero,List.take_succ_cons,List.take_zero,List.drop_succ_cons] at g6
 obtain ⟨z6,e6a,e6b,e6c,o6⟩:=open_i3 g6
 obtain ⟨q7,hq7⟩:∃ q,xs[7]?=some q:=⟨_,List.getElem?_eq_getElem (by omega)⟩
 have g7:=hg 7 (by omega)
 rw [hq7,cells3] at g7
 simp only [Nat.reduceMul,List.drop_zero,List.take_succ_cons,List.take_zero,List.drop_succ_cons] at g7
 obtain ⟨z7,e7a,e7b,e7c,o7⟩:=open_i3 g7
 refine ⟨⟨b,n',m',xsOf z0 z1 z2 z3 z4 z5 z6 z7⟩,?_,n1,m1,fun i=>?_⟩
 ·rw [hb,hn,hm,e0a,e0b,e0c,e1a,e1b,e1c,e2a,e2b,e2c,e3a,e3b,e3c,e4a,e4b,e4c,e5a,e5b,e5c,e6a,e6b,e6c,e7a,e7b,e7c]
  rfl
 ·match i with
  | 0=>exact o0
  | 1=>exact o1
  | 2=>exact o2
  | 3=>exact o3
  | 4=>exact o4
  | 5=>exact o5
  | 6=>exact o6
  | 7=>exact o7
  | _+8=>exact fun k=>(match k with | 0=>(by decide:-128≤(0:Int)∧(0:Int)≤127) | 1=>(by decide:-128≤(0:Int)∧(0:Int)≤127) | _+2=>(by decide:-128≤(0:Int)∧(0:Int)≤127):-128≤(⟨0,0,0⟩:I3).at k∧(⟨0,0,0⟩:I3).at k≤127)
theorem open_draft {r:Reach}{b0:Nat}{v:Value}{d:DataW H}{p:List MemPlace}(hv:Value.okWide Tryz.prog w r b0 49 v)(h:DataW.Trod enc Tryz.prog w base spare held 49 v d p) :
  ∃ a:Dl,v=a.v∧a.Ok:=by
 obtain ⟨cs,rfl,hsz⟩:=okWide_struct Tryz.underlying49 hv
 rw [cells31] at hsz
 obtain ⟨l⟩:=cs
 match l,hsz with
 | [c0,c1,c2,c3,c4,c5,c6,c7,c8,c9,c10,c11,c12,c13,c14,c15,c16,c17,c18,c19,c20,c21,c22,c23,c24,c25,c26,c27,c28,c29,c30],_ =>
  obtain ⟨fuel,hf⟩:=h
  obtain ⟨y0,y1,y2,y3,y4,k,h0,h1,h2,h3,h4⟩:=trod_struct5 Tryz.underlying49 hf
  simp only [Value.cells,cellsB,cellsU,cellsU16,cells27w,List.drop_zero,List.take_succ_cons,List.take_zero,List.drop_succ_cons] at h0 h1 h2 h3 h4
  obtain ⟨a,ha,ok⟩:=open_w27 h0
  obtain ⟨s,hs,_,ws⟩:=DataW.trod_int Tryz.underlying5 h1
  obtain ⟨q,hq,_,wq⟩:=DataW.trod_int Tryz.underlying5 h2
  obtain ⟨m,hm,_,wm⟩:=DataW.trod_int Tryz.underlying22 h3
  obtain ⟨b,hb,_⟩:=DataW.trod_bool Tryz.underlying4 h4
  simp only [List.cons.injEq,and_true] at hs hq hm hb
  obtain ⟨s',rfl,s1⟩:=wf_u8 ws
  obtain ⟨q',rfl,q1⟩:=wf_u8 wq
  obtain ⟨m',rfl,m1⟩:=wf_u16 wm
  refine ⟨⟨a,s',q',m',b⟩,?_,ok,s1,q1,m1⟩
  have h27:=congrArg Array.toList ha
  refine congrArg Value.agg (Array.ext' ?_)
  rw [dl_cs,← h27,hs,hq,hm,hb]
  rfl
end
end Go.Proofs.YtipjmpdndokdlaaGreatDoor

namespace Go.Proofs.YtipjmpdndokdlaaGreatDoor
open Go.ChangeShapes Go.WideShapes Go.ChangeAt Go.WideMaps Go.WideElems Go.RowKit
theorem and_t {a b:Bool}(ha:a=true)(hb:b=true):(a && b)=true:=by rw [ha,hb];rfl
theorem fct_maps : mapsRowed Tryz.prog=true:=by kernel_rfl
theorem fct_stops : (Tryz.prog.stops == [])=true:=by kernel_rfl
theorem fct_knobs : (Tryz.prog.stopKnobs == [])=true:=by kernel_rfl
theorem fct_keys : (Rows.subsetTurnsRow.plainKeys == Tryz.prog.plainKeys)=true:=by kernel_rfl
theorem fct_heard : Tryz.prog.stopsHeard=true:=by kernel_rfl
theorem fct_enter : Tryz.prog.mayEnter=true:=by kernel_rfl
theorem fct_lifts : (Rows.subsetTurnsRow.lifted == Tryz.prog.liftsFinal)=true:=by kernel_rfl
theorem fct_make : (Tryz.prog.make == some Rows.subsetTurnsRow.make)=true:=by kernel_rfl
end Go.Proofs.YtipjmpdndokdlaaGreatDoor
