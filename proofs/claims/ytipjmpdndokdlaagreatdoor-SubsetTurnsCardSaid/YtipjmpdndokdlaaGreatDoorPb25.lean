/- Plain: the sizes of a world are sizes that a scale is made of. -/
import Derived.Test.YtipjmpdndokdlaaGreatDoorPb21
namespace Go.Proofs.YtipjmpdndokdlaaGreatDoor
open Go.RowKit Go.Lib
def Pw (p : List Int) : Prop:=p=[2,3] ∨ p=[2,3,5]
theorem Pw.pr {p : List Int} (h : Pw p) : Pr p p.length:=by
 rcases h with rfl | rfl
 ·exact .inl ⟨rfl,rfl⟩
 ·exact .inr ⟨rfl,rfl⟩
/-- A part of the octave. -/
def oc3 (p : List Int) (n : Nat) (i : Int) : List Rat:=if p.length=2 then [(i : Rat) / (n : Rat),0] else [(i : Rat) / (n : Rat),0,0]
theorem oc_two (n : Nat) (i : Int) : oc3 [2,3] n i=[(i : Rat) / (n : Rat),0]:=rfl
theorem oc_three (n : Nat) (i : Int) : oc3 [2,3,5] n i=[(i : Rat) / (n : Rat),0,0]:=rfl
theorem oc_len {p : List Int} (h : Pw p) (n : Nat) (i : Int) : (oc3 p n i).length=p.length:=by rcases h with rfl | rfl <;> rfl
theorem nat_ne {n : Nat} (hn : 0 < n) : (n : Rat) ≠ 0:=fun h => by
 have:=Rat.natCast_inj.1 (show ((n:Nat):Rat)=((0:Nat):Rat) from h)
 omega
theorem oc_zer {p : List Int} (h : Pw p) (n : Nat) : zer p.length=oc3 p n 0:=by
 have e:((0:Int):Rat) / (n:Rat)=0:=by rw [Rat.div_def,show ((0:Int):Rat)=0 from rfl,Rat.zero_mul]
 rcases h with rfl | rfl
 ·rw [oc_two,e];rfl
 ·rw [oc_three,e];rfl
theorem oc3_sub {p : List Int} (h : Pw p) (n : Nat) (i j : Int) : subZ (oc3 p n i) (oc3 p n j)=oc3 p n (i - j):=by
 have e:(i:Rat) / (n:Rat) - (j:Rat) / (n:Rat)=((i:Rat) - (j:Rat)) / (n:Rat):=by grind
 have z:(0:Rat) - 0=0:=by decide +kernel
 rcases h with rfl | rfl
 ·rw [oc_two,oc_two,oc_two,Rat.intCast_sub]
  simp only [subZ,List.zipWith_cons_cons,List.zipWith_nil_left,e,z]
 ·rw [oc_three,oc_three,oc_three,Rat.intCast_sub]
  simp only [subZ,List.zipWith_cons_cons,List.zipWith_nil_left,e,z]
theorem oc_oc {p : List Int} (h : Pw p) {n : Nat} (hn : 0 < n) (i : Int) : Oc n (oc3 p n i):=by
 have e:(i:Rat) / (n:Rat) * (n:Rat)=(i:Rat):=Rat.div_mul_cancel (nat_ne hn)
 rcases h with rfl | rfl
 ·exact ⟨rfl,i,e⟩
 ·exact ⟨rfl,rfl,i,e⟩
theorem oc_sF {p : List Int} (h : Pw p) (n : Nat) (i : Int) : sF p (oc3 p n i)=(i : Rat) / (n : Rat) * ((67108864 : Int) : Rat):=by
 rcases h with rfl | rfl
 ·rw [oc_two];simp only [sF,lgs.1,lgs.2.1];grind
 ·rw [oc_three];simp only [sF,lgs.1,lgs.2.1,lgs.2.2];grind
/-- A world. -/
structure Wl where
 three:Bool
 kind:Nat
 num:Nat
 xs:Nat→I3
namespace Wl
def p (a : Wl) : List Int:=if a.three then [2,3,5] else [2,3]
def n (a : Wl) : Nat:=1 + a.num % 9
def sizes (a : Wl) : List (List Rat):=if a.kind % 3=0 then mulsZ (mulZ (ov (a.p.length - 1)) (mkRat 1 a.n)) 1 a.n else if a.kind % 3=1 then mulsZ (szW a.p.length (a.xs 0)) 0 a.n else (List.range (min a.n 8)).map fun i => szW a.p.length (a.xs i)
structure Ok (a : Wl) : Prop where
 kind:a.kind < 256
 num:a.num < 256
 xs:∀ i,(a.xs i).ok
theorem n9 (a : Wl) : 0 < a.n ∧ a.n ≤ 9:=by unfold n;omega
theorem few (a : Wl) : a.sizes.length ≤ 9:=by
 have:=a.n9
 unfold sizes
 split
 ·rw [mulsZ_len];omega
 ·split
  ·rw [mulsZ_len];omega
  ·rw [List.length_map,List.length_range];omega
end Wl
end Go.Proofs.YtipjmpdndokdlaaGreatDoor
