/- A world that came in. A slice of ints that came in, read. A pair of bytes that came in; sixteen bits that came in. Three ints that came in. -/
import Derived.Test.YtebabancfnmfjaaGreatDoorPq40
import Derived.Test.YtebabancfnmfjaaGreatDoorPq38
import Derived.Lib.SmallJoins
import Derived.Test.YtebabancfnmfjaaGreatDoorPq00
import Derived.ChangeSlices
import Derived.WideShapes
import Derived.ChangeShapes
import Derived.DataReads
set_option maxRecDepth 100000
namespace Go.Proofs.YtebabancfnmfjaaGreatDoor
section
open Go.ChangeShapes Go.WideShapes Go.ChangeAt Go.WideMaps Go.WideElems Go.RowKit
theorem zqV : Tryz.prog.cellsOf 4=1:=by kernel_rfl
theorem zqW : Tryz.prog.cellsOf 5=1:=by kernel_rfl
theorem zqX : Tryz.prog.cellsOf 79=1:=by kernel_rfl
theorem zqY : Tryz.prog.cellsOf 80=3:=by kernel_rfl
theorem zqZ : Tryz.prog.cellsOf 81=24:=by kernel_rfl
theorem zra : Tryz.prog.cellsOf 83=27:=by kernel_rfl
section
variable {H : Type} {enc : TypeId × Value → H} {w : World} {base : Nat} {spare : Nat → Bool} {held : Bool}
theorem zrb {fuel:Nat}{c0 c1 c2:Value}{x:DataW H × List MemPlace}(h:DataW.trod enc Tryz.prog w base spare held fuel 80 [c0,c1,c2]=some x) :
  ∃ z:I3,c0=.int .i8 z.a∧c1=.int .i8 z.b∧c2=.int .i8 z.c∧z.ok:=by
 obtain ⟨y0,y1,y2,n,rfl,h0,h1,h2⟩:=trod_array3 Tryz.underlying80 zqX h;obtain ⟨a,ha,rfl,wa⟩:=DataW.trod_int Tryz.underlying79 h0;obtain ⟨b,hb,rfl,wb⟩:=DataW.trod_int Tryz.underlying79 h1;obtain ⟨c,hc,rfl,wc⟩:=DataW.trod_int Tryz.underlying79 h2;simp only [List.cons.injEq,and_true] at ha hb hc;have ba:=bounds_i8 wa;have bb:=bounds_i8 wb;have bc:=bounds_i8 wc;refine ⟨⟨a,b,c⟩,ha,hb,hc,fun i=>?_⟩;match i with
 | 0=>exact ba
 | 1=>exact bb
 | _+2=>exact bc
theorem zrc {n:Int}(h:(Lit.int .u8 n).wf=true):∃ k:Nat,n=k∧k<256:=by
 have:=zqI h;exact ⟨n.toNat,by omega,by omega⟩
def zrd (z0 z1 z2 z3 z4 z5 z6 z7:I3):Nat→I3
 | 0=>z0
 | 1=>z1
 | 2=>z2
 | 3=>z3
 | 4=>z4
 | 5=>z5
 | 6=>z6
 | 7=>z7
 | _=>⟨0,0,0⟩
theorem zre {r:Reach}{b0:Nat}{v:Value}{d:DataW H}{p:List MemPlace}(hv:Value.okWide Tryz.prog w r b0 83 v)(h:DataW.Trod enc Tryz.prog w base spare held 83 v d p) :
  ∃ a:Wl,v=a.v∧a.Ok:=by
 obtain ⟨cs,rfl,hsz⟩:=okWide_struct Tryz.underlying83 hv;rw [zra] at hsz;obtain ⟨l⟩:=cs;match l,hsz with
 | [c0,c1,c2,c3,c4,c5,c6,c7,c8,c9,c10,c11,c12,c13,c14,c15,c16,c17,c18,c19,c20,c21,c22,c23,c24,c25,c26],_ =>
  obtain ⟨fuel,hf⟩:=h
  obtain ⟨y0,y1,y2,y3,k,hx,_,h0,h1,h2,h3⟩:=Go.Joins.trod_struct4 Tryz.underlying83 hf
  simp only [Value.cells,zqV,zqW,zqZ,List.drop_zero,List.take_succ_cons,List.take_zero,List.drop_succ_cons] at h0 h1 h2 h3
  obtain ⟨b,hb,rfl⟩:=DataW.trod_bool Tryz.underlying4 h0
  obtain ⟨n,hn,rfl,wn⟩:=DataW.trod_int Tryz.underlying5 h1
  obtain ⟨m,hm,rfl,wm⟩:=DataW.trod_int Tryz.underlying5 h2
  simp only [List.cons.injEq,and_true] at hb hn hm
  obtain ⟨n',rfl,n1⟩:=zrc wn
  obtain ⟨m',rfl,m1⟩:=zrc wm
  obtain ⟨xs,j,_,_,_,hxl,hg⟩:=DataW.trod_array Tryz.underlying81 h3
  obtain ⟨q0,hq0⟩:∃ q,xs[0]?=some q:=⟨_,List.getElem?_eq_getElem (by omega)⟩
  have g0:=hg 0 (by omega)
  rw [hq0,zqY] at g0
  simp only [Nat.reduceMul,List.drop_zero,List.take_succ_cons,List.take_zero] at g0
  obtain ⟨z0,e0a,e0b,e0c,o0⟩:=zrb g0
  obtain ⟨q1,hq1⟩:∃ q,xs[1]?=some q:=⟨_,List.getElem?_eq_getElem (by omega)⟩
  have g1:=hg 1 (by omega)
  rw [hq1,zqY] at g1
  simp only [Nat.reduceMul,List.drop_zero,List.take_succ_cons,List.take_zero,List.drop_succ_cons] at g1
  obtain ⟨z1,e1a,e1b,e1c,o1⟩:=zrb g1
  obtain ⟨q2,hq2⟩:∃ q,xs[2]?=some q:=⟨_,List.getElem?_eq_getElem (by omega)⟩
  have g2:=hg 2 (by omega)
  rw [hq2,zqY] at g2
  simp only [Nat.reduceMul,List.drop_zero,List.take_succ_cons,List.take_zero,List.drop_succ_cons] at g2
  obtain ⟨z2,e2a,e2b,e2c,o2⟩:=zrb g2
  obtain ⟨q3,hq3⟩:∃ q,xs[3]?=some q:=⟨_,List.getElem?_eq_getElem (by omega)⟩
  have g3:=hg 3 (by omega)
  rw [hq3,zqY] at g3
  simp only [Nat.reduceMul,List.drop_zero,List.take_succ_cons,List.take_zero,List.drop_succ_cons] at g3
  obtain ⟨z3,e3a,e3b,e3c,o3⟩:=zrb g3
  obtain ⟨q4,hq4⟩:∃ q,xs[4]?=some q:=⟨_,List.getElem?_eq_getElem (by omega)⟩
  have g4:=hg 4 (by omega)
  rw [hq4,zqY] at g4
  simp only [Nat.reduceMul,List.drop_zero,List.take_succ_cons,List.take_zero,List.drop_succ_cons] at g4
  obtain ⟨z4,e4a,e4b,e4c,o4⟩:=zrb g4
  obtain ⟨q5,hq5⟩:∃ q,xs[5]?=some q:=⟨_,List.getElem?_eq_getElem (by omega)⟩
  have g5:=hg 5 (by omega)
  rw [hq5,zqY] at g5
  simp only [Nat.reduceMul,List.drop_zero,List.take_succ_cons,List.take_zero,List.drop_succ_cons] at g5
  obtain ⟨z5,e5a,e5b,e5c,o5⟩:=zrb g5
  obtain ⟨q6,hq6⟩:∃ q,xs[6]?=some q:=⟨_,List.getElem?_eq_getElem (by omega)⟩
  have g6:=hg 6 (by omega)
  rw [hq6,zqY] at g6
  simp only [Nat.reduceMul,List.drop_zero,List.take_succ_cons,List.take_zero,List.drop_succ_cons] at g6
  obtain ⟨z6,e6a,e6b,e6c,o6⟩:=zrb g6
  obtain ⟨q7,hq7⟩:∃ q,xs[7]?=some q:=⟨_,List.getElem?_eq_getElem (by omega)⟩
  have g7:=hg 7 (by omega)
  rw [hq7,zqY] at g7
  simp only [Nat.reduceMul,List.drop_zero,List.take_succ_cons,List.take_zero,List.drop_succ_cons] at g7
  obtain ⟨z7,e7a,e7b,e7c,o7⟩:=zrb g7
  refine ⟨⟨b,n',m',zrd z0 z1 z2 z3 z4 z5 z6 z7⟩,?_,n1,m1,fun i=>?_⟩
  ·rw [hb,hn,hm,e0a,e0b,e0c,e1a,e1b,e1c,e2a,e2b,e2c,e3a,e3b,e3c,e4a,e4b,e4c,e5a,e5b,e5c,e6a,e6b,e6c,e7a,e7b,e7c]
   rfl
  ·match i with
   | 0=>exact o0
   | 1=>exact o1
   | 2=>exact o2
   | 3=>exact o3
   | 4=>exact o4
   | 5=>exact o5
   | 6=>exact o6
   | 7=>exact o7
   | _+8=>exact fun k=>(match k with | 0=>(by decide:-128≤(0:Int)∧(0:Int)≤127) | 1=>(by decide:-128≤(0:Int)∧(0:Int)≤127) | _+2=>(by decide:-128≤(0:Int)∧(0:Int)≤127):-128≤(⟨0,0,0⟩:I3).at k∧(⟨0,0,0⟩:I3).at k≤127)
end
end
section
open Go.ChangeShapes Go.WideShapes Go.RowKit Go.Lib
theorem zrf {H:Type}{enc:TypeId × Value→H}{r:Reach}{b0:Nat}{w:World}{base:Nat}{spare:Nat→Bool}{held:Bool}{t:TypeId}{v:Value}{d:DataW H}{p:List MemPlace}(ht:Tryz.prog.underlying t=some (.slice 3))(hv:Value.okWide Tryz.prog w r b0 t v)(h:DataW.Trod enc Tryz.prog w base spare held t v d p) :
  ∃ xs:List Int,Sl w v (zap xs)∧∀ z∈xs,(Lit.int .i64 z).wf=true:=by
 obtain ⟨a,len,cap,rfl⟩:=okWide_slice ht hv;obtain ⟨fuel,hf⟩:=h;rcases open_ints ht Tryz.underlying3 (by kernel_rfl) hf with ⟨h1,_⟩ | ⟨a',len',cap',zs,h1,_,hl,hm,hz,_,hc,hw⟩
 ·simp only [Value.cells,List.cons.injEq,Value.slice.injEq,and_true] at h1;obtain ⟨rfl,rfl,rfl⟩:=h1;exact ⟨[],.inl ⟨none,0,rfl,Nat.zero_le _,rfl⟩,fun z h=>by cases h⟩
 ·simp only [Value.cells,List.cons.injEq,Value.slice.injEq,and_true] at h1;obtain ⟨rfl,rfl,rfl⟩:=h1;have hzl:len≤zs.length:=by rw [hz];split <;> omega
  refine ⟨zs.take len,?_,fun z h=>hw z (List.mem_of_mem_take h)⟩;rcases Nat.eq_zero_or_pos len with h0 | h0
  ·subst h0;exact .inl ⟨_,cap,rfl,hm,by simp [zap]⟩
  ·have h00:=hc 0 (by omega);obtain ⟨b,off,sp⟩:=a';have hs:=World.cell?_spot h00;have hs':sp=none:=by
    cases sp with
    | none=>rfl
    | some s=>simp [Addr.add] at hs
   subst hs';refine .inr ⟨b,off,cap,?_,?_,hm,fun i u hu=>?_⟩
   ·rw [zar,List.length_take,Nat.min_eq_left hzl]
   ·rw [zar,List.length_take,Nat.min_eq_left hzl];exact hl
   ·have hi:i<(zs.take len).length:=by
     have:=(List.getElem?_eq_some_iff.1 hu).1;rwa [zar] at this
    rw [zav hi] at hu;have hi2:i<len:=(by rw [List.length_take] at hi;omega);have:=hc i (by omega);have e:zas (zs.take len) i=zs.getD i 0:=by
     unfold zas;rw [List.getD_eq_getElem?_getD,List.getElem?_take_of_lt hi2,List.getD_eq_getElem?_getD]
    rw [← e,Option.some.inj hu] at this;rwa [show ((⟨b,off,none⟩:Addr).add i)=⟨b,off+i,none⟩ by unfold Addr.add;split <;> simp_all] at this
end
section
open Go.ChangeShapes Go.WideShapes Go.ChangeAt Go.WideMaps Go.WideElems Go.RowKit
theorem zrg {r:Reach}{w:World}{b0:Nat}{v:Value}{t e:TypeId}{n:Nat}(ht:Tryz.prog.underlying t=some (.array n e))(h:Value.okWide Tryz.prog w r b0 t v):∃ cs,v=.agg cs∧cs.size=Tryz.prog.cellsOf t:=by
 simp only [Value.okWide,ht] at h;obtain ⟨cs,h1,h2,_⟩:=h;exact ⟨cs,h1,h2⟩
theorem zrh : Tryz.prog.cellsOf 84=3:=by kernel_rfl
theorem zri : Tryz.prog.cellsOf 3=1:=by kernel_rfl
section
variable {H : Type} {enc : TypeId × Value → H} {w : World} {base : Nat} {spare : Nat → Bool} {held : Bool}
theorem zrj {r:Reach}{b0:Nat}{v:Value}{d:DataW H}{p:List MemPlace}(hv:Value.okWide Tryz.prog w r b0 84 v)(h:DataW.Trod enc Tryz.prog w base spare held 84 v d p) :
  ∃ x0 x1 x2:Int,v=.agg #[.int .i64 x0,.int .i64 x1,.int .i64 x2]:=by
 obtain ⟨cs,rfl,hsz⟩:=zrg Tryz.underlying84 hv;rw [zrh] at hsz;obtain ⟨l⟩:=cs;match l,hsz with
 | [c0,c1,c2],_ =>
  obtain ⟨fuel,hf⟩:=h
  obtain ⟨xs,j,_,_,_,hxl,hg⟩:=DataW.trod_array Tryz.underlying84 hf
  obtain ⟨q0,hq0⟩:∃ q,xs[0]?=some q:=⟨_,List.getElem?_eq_getElem (by omega)⟩
  have g0:=hg 0 (by omega)
  rw [hq0,zri] at g0
  simp only [Value.cells,Nat.reduceMul,List.drop_zero,List.take_succ_cons,List.take_zero] at g0
  obtain ⟨q1,hq1⟩:∃ q,xs[1]?=some q:=⟨_,List.getElem?_eq_getElem (by omega)⟩
  have g1:=hg 1 (by omega)
  rw [hq1,zri] at g1
  simp only [Value.cells,Nat.reduceMul,List.drop_zero,List.take_succ_cons,List.take_zero,List.drop_succ_cons] at g1
  obtain ⟨q2,hq2⟩:∃ q,xs[2]?=some q:=⟨_,List.getElem?_eq_getElem (by omega)⟩
  have g2:=hg 2 (by omega)
  rw [hq2,zri] at g2
  simp only [Value.cells,Nat.reduceMul,List.drop_zero,List.take_succ_cons,List.take_zero,List.drop_succ_cons] at g2
  obtain ⟨a,ha,_,_⟩:=DataW.trod_int Tryz.underlying3 g0
  obtain ⟨b,hb,_,_⟩:=DataW.trod_int Tryz.underlying3 g1
  obtain ⟨c,hc,_,_⟩:=DataW.trod_int Tryz.underlying3 g2
  simp only [List.cons.injEq,and_true] at ha hb hc
  exact ⟨a,b,c,by rw [ha,hb,hc]⟩
end
end
end Go.Proofs.YtebabancfnmfjaaGreatDoor
