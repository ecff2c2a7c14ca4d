/- Plain: the sizes of a world are sizes that a scale is made of. Walks: law 31's primes of a world. Walks: law 31's Make. What the laws of worlds begin with: a world in its box. -/
import Derived.Test.YtipjmpdndokdlaaGreatDoorPc26
set_option maxRecDepth 100000
set_option maxHeartbeats 800000
namespace Go.Proofs.YtipjmpdndokdlaaGreatDoor
open Go.RowKit Go.Lib
/-- A size over the first two or three primes, the second number in halves. -/
def sz3 (p : List Int) (A B C : Int) : List Rat:=if p.length=2 then [(A : Rat),(B : Rat) / 2] else [(A : Rat),(B : Rat) / 2,(C : Rat)]
theorem half2 (B:Int):(B:Rat) / 2 * 2=B:=by grind
theorem sz_two (A B C:Int):sz3 [2,3] A B C=[(A:Rat),(B:Rat) / 2]:=rfl
theorem sz_three (A B C:Int):sz3 [2,3,5] A B C=[(A:Rat),(B:Rat) / 2,(C:Rat)]:=rfl
def Pw (p : List Int) : Prop:=p=[2,3]∨p=[2,3,5]
theorem Pw.pr {p:List Int}(h:Pw p):Pr p p.length:=by
 rcases h with rfl | rfl
 ·exact .inl ⟨rfl,rfl⟩
 ·exact .inr ⟨rfl,rfl⟩
theorem sz_len {p:List Int}(h:Pw p)(A B C:Int):(sz3 p A B C).length=p.length:=by rcases h with rfl | rfl <;> rfl
theorem sz_zer {p:List Int}(h:Pw p):zer p.length=sz3 p 0 0 0:=by rcases h with rfl | rfl <;> decide +kernel
theorem sz_sub {p:List Int}(h:Pw p)(A B C A' B' C':Int):subZ (sz3 p A B C) (sz3 p A' B' C')=sz3 p (A - A') (B - B') (C - C'):=by
 rcases h with rfl | rfl
 ·rw [sz_two,sz_two,sz_two,Rat.intCast_sub,Rat.intCast_sub]
  have e:(B:Rat) / 2 - (B':Rat) / 2=((B:Rat) - (B':Rat)) / 2:=by grind
  simp only [subZ,List.zipWith_cons_cons,List.zipWith_nil_left,e]
 ·rw [sz_three,sz_three,sz_three,Rat.intCast_sub,Rat.intCast_sub,Rat.intCast_sub]
  have e:(B:Rat) / 2 - (B':Rat) / 2=((B:Rat) - (B':Rat)) / 2:=by grind
  simp only [subZ,List.zipWith_cons_cons,List.zipWith_nil_left,e]
theorem sz_mul {p:List Int}(h:Pw p)(A B C k:Int):mulZ (sz3 p A B C) (k:Rat)=sz3 p (A * k) (B * k) (C * k):=by
 have e:(B:Rat) / 2 * (k:Rat)=(B:Rat) * (k:Rat) / 2:=by grind
 rcases h with rfl | rfl
 ·rw [sz_two,sz_two,Rat.intCast_mul,Rat.intCast_mul]
  simp only [mulZ,List.map_cons,List.map_nil,e]
 ·rw [sz_three,sz_three,Rat.intCast_mul,Rat.intCast_mul,Rat.intCast_mul]
  simp only [mulZ,List.map_cons,List.map_nil,e]
theorem sz_bx {p:List Int}(h:Pw p){A B C:Int}(h1:-256≤B)(h2:B≤256)(h3:-128≤C)(h4:C≤128):Bx 256 (sz3 p A B C):=by
 rcases h with rfl | rfl
 ·exact ⟨A,B,rfl,half2 B,h1,h2⟩
 ·exact ⟨A,B,C,rfl,half2 B,rfl,h1,h2,by omega,by omega⟩
theorem sz_sF {p:List Int}(h:Pw p){A B C:Int}(hA:-64≤A∧A≤64)(hB:-128≤B∧B≤128)(hC:-64≤C∧C≤64):∃ m:Int,sF p (sz3 p A B C)=(m:Rat)∧-26843545600≤m∧m≤26843545600:=by
 have e:(B:Rat) / 2 * (106365032:Int)=((B * 53182516:Int):Rat):=by
  have e0:((106365032:Int):Rat)=((53182516:Int):Rat) * 2:=by
   rw [show (2:Rat)=((2:Int):Rat) from rfl,← Rat.intCast_mul];rfl
  rw [Rat.intCast_mul,e0]
  grind
 rcases h with rfl | rfl
 ·refine ⟨A * 67108864+B * 53182516,?_,by omega,by omega⟩
  rw [sz_two]
  simp only [sF,lgs.1,lgs.2.1,e]
  rw [Rat.intCast_add,Rat.intCast_mul A]
  grind
 ·refine ⟨A * 67108864+B * 53182516+C * 155821956,?_,by omega,by omega⟩
  rw [sz_three]
  simp only [sF,lgs.1,lgs.2.1,lgs.2.2,e]
  rw [Rat.intCast_add,Rat.intCast_add,Rat.intCast_mul A,Rat.intCast_mul C]
  grind
/-- Sizes in the box. -/
theorem lw_box {p:List Int}(hp:Pw p){l:List (List Rat)}(h:∀ x∈l,∃ A B C:Int,(-64≤A∧A≤64)∧(-128≤B∧B≤128)∧(-64≤C∧C≤64)∧x=sz3 p A B C):Lw p 400 l:=by
 have h2:∀ x∈zer p.length::l,∃ A B C:Int,(-64≤A∧A≤64)∧(-128≤B∧B≤128)∧(-64≤C∧C≤64)∧x=sz3 p A B C:=fun x hx=>by
  rcases List.mem_cons.1 hx with e | e
  ·exact ⟨0,0,0,by omega,by omega,by omega,by rw [e,sz_zer hp]⟩
  ·exact h x e
 refine ⟨hp.pr,fun x hx=>?_,by omega,by omega,fun x hx=>?_,0,fun x hx y hy=>?_⟩
 ·obtain ⟨A,B,C,_,_,_,rfl⟩:=h x hx
  exact sz_len hp ..
 ·obtain ⟨A,B,C,hA,hB,hC,rfl⟩:=h x hx
  obtain ⟨m,e,m0,m1⟩:=sz_sF hp hA hB hC
  rw [e,← Rat.intCast_neg]
  exact ⟨Rat.intCast_le_intCast.2 (by omega),Rat.intCast_le_intCast.2 (by omega)⟩
 ·obtain ⟨A,B,C,hA,hB,hC,rfl⟩:=h2 x hx
  obtain ⟨A',B',C',hA',hB',hC',rfl⟩:=h2 y hy
  rw [sz_sub hp]
  exact .inl ⟨rfl,sz_bx hp (by omega) (by omega) (by omega) (by omega)⟩
/-- A part of the octave. -/
def oc3 (p : List Int) (n : Nat) (i : Int) : List Rat:=if p.length=2 then [(i : Rat) / (n : Rat),0] else [(i : Rat) / (n : Rat),0,0]
theorem oc_two (n:Nat)(i:Int):oc3 [2,3] n i=[(i:Rat) / (n:Rat),0]:=rfl
theorem oc_three (n:Nat)(i:Int):oc3 [2,3,5] n i=[(i:Rat) / (n:Rat),0,0]:=rfl
theorem oc_len {p:List Int}(h:Pw p)(n:Nat)(i:Int):(oc3 p n i).length=p.length:=by rcases h with rfl | rfl <;> rfl
theorem nat_ne {n:Nat}(hn:0<n):(n:Rat) ≠ 0:=fun h=>by
 have:=Rat.natCast_inj.1 (show ((n:Nat):Rat)=((0:Nat):Rat) from h)
 omega
theorem oc_zer {p:List Int}(h:Pw p)(n:Nat):zer p.length=oc3 p n 0:=by
 have e:((0:Int):Rat) / (n:Rat)=0:=by rw [Rat.div_def,show ((0:Int):Rat)=0 from rfl,Rat.zero_mul]
 rcases h with rfl | rfl
 ·rw [oc_two,e];rfl
 ·rw [oc_three,e];rfl
theorem oc3_sub {p:List Int}(h:Pw p)(n:Nat)(i j:Int):subZ (oc3 p n i) (oc3 p n j)=oc3 p n (i - j):=by
 have e:(i:Rat) / (n:Rat) - (j:Rat) / (n:Rat)=((i:Rat) - (j:Rat)) / (n:Rat):=by grind
 have z:(0:Rat) - 0=0:=by decide +kernel
 rcases h with rfl | rfl
 ·rw [oc_two,oc_two,oc_two,Rat.intCast_sub]
  simp only [subZ,List.zipWith_cons_cons,List.zipWith_nil_left,e,z]
 ·rw [oc_three,oc_three,oc_three,Rat.intCast_sub]
  simp only [subZ,List.zipWith_cons_cons,List.zipWith_nil_left,e,z]
theorem oc_oc {p:List Int}(h:Pw p){n:Nat}(hn:0<n)(i:Int):Oc n (oc3 p n i):=by
 have e:(i:Rat) / (n:Rat) * (n:Rat)=(i:Rat):=Rat.div_mul_cancel (nat_ne hn)
 rcases h with rfl | rfl
 ·exact ⟨rfl,i,e⟩
 ·exact ⟨rfl,rfl,i,e⟩
theorem oc_sF {p:List Int}(h:Pw p)(n:Nat)(i:Int):sF p (oc3 p n i)=(i:Rat) / (n:Rat) * ((67108864:Int):Rat):=by
 rcases h with rfl | rfl
 ·rw [oc_two];simp only [sF,lgs.1,lgs.2.1];grind
 ·rw [oc_three];simp only [sF,lgs.1,lgs.2.1,lgs.2.2];grind
theorem oc_mul {p:List Int}(h:Pw p)(n:Nat)(i:Int):mulZ (mulZ (ov (p.length - 1)) (mkRat 1 n)) (i:Rat)=oc3 p n i:=by
 have e:(1:Rat) * mkRat 1 n * (i:Rat)=(i:Rat) / (n:Rat):=by
  rw [Rat.mkRat_eq_div]
  show (1:Rat) * (((1:Int):Rat) / (n:Rat)) * (i:Rat)=_
  rw [show ((1:Int):Rat)=1 from rfl]
  grind
 have z:(0:Rat) * mkRat 1 n * (i:Rat)=0:=by rw [Rat.zero_mul,Rat.zero_mul]
 rcases h with rfl | rfl
 ·rw [oc_two]
  show [(1:Rat) * mkRat 1 n * (i:Rat),(0:Rat) * mkRat 1 n * (i:Rat)]=_
  rw [e,z]
 ·rw [oc_three]
  show [(1:Rat) * mkRat 1 n * (i:Rat),(0:Rat) * mkRat 1 n * (i:Rat),(0:Rat) * mkRat 1 n * (i:Rat)]=_
  rw [e,z]
theorem lw_parts {p:List Int}(hp:Pw p){n:Nat}(hn:0<n)(hn9:n≤9):Lw p 400 (mulsZ (mulZ (ov (p.length - 1)) (mkRat 1 n)) 1 n):=by
 have h:∀ x∈mulsZ (mulZ (ov (p.length - 1)) (mkRat 1 n)) 1 n,∃ i:Int,0≤i∧i≤(n:Int)∧x=oc3 p n i:=fun x hx=>by
  unfold mulsZ at hx
  rw [List.mem_map] at hx
  obtain ⟨i,hi,rfl⟩:=hx
  rw [List.mem_range] at hi
  exact ⟨1+(i:Int),by omega,by omega,oc_mul hp n _⟩
 have h2:∀ x∈zer p.length::mulsZ (mulZ (ov (p.length - 1)) (mkRat 1 n)) 1 n,∃ i:Int,0≤i∧i≤(n:Int)∧x=oc3 p n i:=fun x hx=>by
  rcases List.mem_cons.1 hx with e | e
  ·exact ⟨0,by omega,by omega,by rw [e,oc_zer hp n]⟩
  ·exact h x e
 refine ⟨hp.pr,fun x hx=>?_,by omega,by omega,fun x hx=>?_,n,fun x hx y hy=>?_⟩
 ·obtain ⟨i,_,_,rfl⟩:=h x hx
  exact oc_len hp ..
 ·obtain ⟨i,i0,i1,rfl⟩:=h x hx
  rw [oc_sF hp]
  have hnp:(0:Rat)<(n:Rat):=Rat.intCast_lt_intCast.2 (show (0:Int)<(n:Int) by omega)
  have hq:(n:Rat) * ((i:Rat) / (n:Rat))=(i:Rat):=by rw [Rat.mul_comm];exact Rat.div_mul_cancel (nat_ne hn)
  have q0:(0:Rat)≤(i:Rat) / (n:Rat):=Rat.le_of_mul_le_mul_left (by rw [hq,Rat.mul_zero];exact Rat.intCast_le_intCast.2 i0) hnp
  have q1:(i:Rat) / (n:Rat)≤1:=Rat.le_of_mul_le_mul_left (by rw [hq,Rat.mul_one];exact Rat.intCast_le_intCast.2 i1) hnp
  generalize (i:Rat) / (n:Rat)=q at *
  have e1:((400 * 67108864:Int):Rat)=400 * ((67108864:Int):Rat):=by
   rw [show (400:Rat)=((400:Int):Rat) from rfl,← Rat.intCast_mul]
  have e2:(0:Rat)<((67108864:Int):Rat):=Rat.intCast_lt_intCast.2 (show (0:Int)<67108864 by decide)
  rw [e1]
  generalize ((67108864:Int):Rat)=t at *
  have m0:=Rat.mul_nonneg q0 (Rat.le_of_lt e2)
  have m1:=Rat.mul_le_mul_of_nonneg_right q1 (Rat.le_of_lt e2)
  constructor <;> grind
 ·obtain ⟨i,_,_,rfl⟩:=h2 x hx
  obtain ⟨j,_,_,rfl⟩:=h2 y hy
  rw [oc3_sub hp]
  exact .inr ⟨hn,by omega,oc_oc hp hn _⟩
/-- The size of three numbers, in the box. -/
theorem szW_eq {p:List Int}(hp:Pw p)(x:I3):∃ A B C:Int,(-8≤A∧A≤8)∧(-16≤B∧B≤16)∧(-8≤C∧C≤8)∧szW p.length x=sz3 p A B C:=by
 have ha:=tmod9 x.a
 have hb:=tmod9 x.b
 have hc:=tmod9 x.c
 have e0:spell x 0=((x.a.tmod 9:Int):Rat):=Rat.mkRat_one _
 have e2:spell x 2=((x.c.tmod 9:Int):Rat):=Rat.mkRat_one _
 have e1:spell x 1=(((if x.b<0 then x.b.tmod 9 else x.b.tmod 9 * 2):Int):Rat) / 2:=by
  unfold spell dnm
  rw [show x.at 1=x.b from rfl]
  by_cases h:x.b<0
  ·rw [if_pos ⟨rfl,h⟩,if_pos h,Rat.mkRat_eq_div];rfl
  ·rw [if_neg (fun g=>h g.2),if_neg h,Rat.mkRat_one,Rat.intCast_mul,show ((2:Int):Rat)=2 from rfl]
   grind
 refine ⟨x.a.tmod 9,if x.b<0 then x.b.tmod 9 else x.b.tmod 9 * 2,x.c.tmod 9,by omega,by split <;> omega,by omega,?_⟩
 rcases hp with rfl | rfl
 ·rw [sz_two]
  show [spell x 0,spell x 1]=_
  rw [e0,e1]
 ·rw [sz_three]
  show [spell x 0,spell x 1,spell x 2]=_
  rw [e0,e1,e2]
theorem lw_mults {p:List Int}(hp:Pw p)(x:I3){n:Nat}(hn9:n≤9):Lw p 400 (mulsZ (szW p.length x) 0 n):=by
 obtain ⟨A,B,C,hA,hB,hC,e⟩:=szW_eq hp x
 rw [e]
 refine lw_box hp fun y hy=>?_
 unfold mulsZ at hy
 rw [List.mem_map] at hy
 obtain ⟨i,hi,rfl⟩:=hy
 rw [List.mem_range] at hi
 have hk:0≤(0+(i:Int))∧(0+(i:Int))≤8:=by omega
 generalize 0+(i:Int)=k at *
 have mb:∀ z b:Int,-b≤z→z≤b→0≤b→-(b * 8)≤z * k∧z * k≤b * 8:=fun z b h1 h2 h3=>by
  have a1:z * k≤b * k:=Int.mul_le_mul_of_nonneg_right h2 hk.1
  have a2:b * k≤b * 8:=Int.mul_le_mul_of_nonneg_left hk.2 h3
  have a3:-b * k≤z * k:=Int.mul_le_mul_of_nonneg_right h1 hk.1
  rw [Int.neg_mul] at a3
  omega
 have m1:=mb A 8 hA.1 hA.2 (by omega)
 have m2:=mb B 16 hB.1 hB.2 (by omega)
 have m3:=mb C 8 hC.1 hC.2 (by omega)
 exact ⟨A * k,B * k,C * k,by omega,by omega,by omega,sz_mul hp ..⟩
theorem lw_any {p:List Int}(hp:Pw p)(xs:Nat→I3)(n:Nat):Lw p 400 ((List.range n).map fun i=>szW p.length (xs i)):=by
 refine lw_box hp fun y hy=>?_
 rw [List.mem_map] at hy
 obtain ⟨i,_,rfl⟩:=hy
 obtain ⟨A,B,C,hA,hB,hC,e⟩:=szW_eq hp (xs i)
 exact ⟨A,B,C,by omega,by omega,by omega,e⟩
/-- A world. -/
structure Wl where
 three:Bool
 kind:Nat
 num:Nat
 xs:Nat→I3
namespace Wl
def p (a : Wl) : List Int:=if a.three then [2,3,5] else [2,3]
def n (a : Wl) : Nat:=1+a.num % 9
def sizes (a : Wl) : List (List Rat):=if a.kind % 3=0 then mulsZ (mulZ (ov (a.p.length - 1)) (mkRat 1 a.n)) 1 a.n else if a.kind % 3=1 then mulsZ (szW a.p.length (a.xs 0)) 0 a.n else (List.range (min a.n 8)).map fun i => szW a.p.length (a.xs i)
structure Ok (a : Wl) : Prop where
 kind:a.kind<256
 num:a.num<256
 xs:∀ i,(a.xs i).ok
theorem pw (a:Wl):Pw a.p:=by unfold p;split <;> first | exact .inl rfl | exact .inr rfl
theorem n9 (a:Wl):0<a.n∧a.n≤9:=by unfold n;omega
theorem lw (a:Wl):Lw a.p 400 a.sizes:=by
 unfold sizes
 split
 ·exact lw_parts a.pw a.n9.1 a.n9.2
 ·split
  ·exact lw_mults a.pw _ a.n9.2
  ·exact lw_any a.pw _ _
theorem few (a:Wl):a.sizes.length≤9:=by
 have:=a.n9
 unfold sizes
 split
 ·rw [mulsZ_len];omega
 ·split
  ·rw [mulsZ_len];omega
  ·rw [List.length_map,List.length_range];omega
end Wl
end Go.Proofs.YtipjmpdndokdlaaGreatDoor

namespace Go.Proofs.YtipjmpdndokdlaaGreatDoor
open Go.RowKit Go.Lib Go.Shelf
attribute [local go_sem] Oper.semAt_some
/-- A world as the program holds it. -/
def Wl.cs (a : Wl) : Array Value:=#[.bool a.three,.int .u8 a.kind,.int .u8 a.num,.int .i8 (a.xs 0).a,.int .i8 (a.xs 0).b,.int .i8 (a.xs 0).c,.int .i8 (a.xs 1).a,.int .i8 (a.xs 1).b,.int .i8 (a.xs 1).c,.int .i8 (a.xs 2).a,.int .i8 (a.xs 2).b,.int .i8 (a.xs 2).c,.int .i8 (a.xs 3).a,.int .i8 (a.xs 3).b,.int .i8 (a.xs 3).c,.int .i8 (a.xs 4).a,.int .i8 (a.xs 4).b,.int .i8 (a.xs 4).c,.int .i8 (a.xs 5).a,.int .i8 (a.xs 5).b,.int .i8 (a.xs 5).c,.int .i8 (a.xs 6).a,.int .i8 (a.xs 6).b,.int .i8 (a.xs 6).c,.int .i8 (a.xs 7).a,.int .i8 (a.xs 7).b,.int .i8 (a.xs 7).c]
def Wl.v (a : Wl) : Value:=.agg a.cs
theorem own_lit {w:World}{B:Nat}(T:TypeId)(xs:Array Value)(hB:B≤w.heap.size)(hm:xs.size≤maxLen):(w.alloc (.cells xs T)).ownsRow B T 1 (.slice (some ⟨w.heap.size,0,none⟩) xs.size xs.size) xs.size xs.toList :=
 ⟨by simp,.inr ⟨w.heap.size,xs.size,xs,rfl,hB,World.alloc_heap_new w _,Nat.le_refl _,hm,by simp,by rw [Nat.mul_one,← Array.length_toList,List.take_length]⟩⟩
theorem lPrimes_c (a:Wl)(w:World) :
  Calls Tryz.prog 45 #[a.v] w fun e w'=>∃ u,e=.returned u∧w'.ownsRow w.heap.size 3 1 u a.p.length (i64s a.p)∧Ext w w':=by
 obtain ⟨W1,hW1⟩:∃ W1,W1=w.alloc (.cells a.cs 47):=⟨_,rfl⟩
 have hE:Ext w W1:=by rw [hW1];exact (Ext.refl w).alloc _
 have hc:W1.cell? ⟨w.heap.size,0,none⟩=some (.bool a.three):=by
  unfold World.cell?
  rw [hW1]
  dsimp only
  rw [World.alloc_heap_new w _]
  rfl
 have HE:=hid hE
 unfold Wl.v
 unfold Wl.p
 clear hE
 cases h3:a.three
 ·rw [h3] at hc
  unfold Wl.cs at hW1 ⊢
  rw [h3] at hW1 ⊢
  clear h3
  go_enter Tryz.func45,Tryz.ntmps45
  go_wp2_with fail
  go_ret
  rw [← hW1]
  have hon:=own_lit (w:=W1) (B:=w.heap.size) 3 #[.int .i64 2,.int .i64 3] HE.out.size (by unfold maxLen;simp)
  have hsz:W1.heap.size=w.heap.size+1:=by rw [hW1,World.size_alloc]
  rw [hsz] at hon
  exact ⟨_,rfl,hon,HE.out.alloc _⟩
 ·rw [h3] at hc
  unfold Wl.cs at hW1 ⊢
  rw [h3] at hW1 ⊢
  clear h3
  go_enter Tryz.func45,Tryz.ntmps45
  go_wp2_with fail
  go_ret
  rw [← hW1]
  have hon:=own_lit (w:=W1) (B:=w.heap.size) 3 #[.int .i64 2,.int .i64 3,.int .i64 5] HE.out.size (by unfold maxLen;simp)
  have hsz:W1.heap.size=w.heap.size+1:=by rw [hW1,World.size_alloc]
  rw [hsz] at hon
  exact ⟨_,rfl,hon,HE.out.alloc _⟩
end Go.Proofs.YtipjmpdndokdlaaGreatDoor

namespace Go.Proofs.YtipjmpdndokdlaaGreatDoor
open Go.RowKit Go.Lib Go.Shelf
attribute [local go_sem] Oper.semAt_some
theorem wrap_small {z:Int}(h0:-1000000≤z)(h1:z≤1000000):IntKind.i64.wrap z=z :=
 IntWalk.i64_in _ (by omega)
theorem sn_part {n:Nat}(h0:0<n)(h9:n≤9):Sn (mkRat 1 n):=by
 unfold Sn
 obtain rfl | rfl | rfl | rfl | rfl | rfl | rfl | rfl | rfl:n=1∨n=2∨n=3∨n=4∨n=5∨n=6∨n=7∨n=8∨n=9:=by omega
 all_goals decide +kernel
theorem sn_ov (k:Nat):∀ q∈ov k,Sn q:=by
 intro q hq
 unfold ov at hq
 rcases List.mem_cons.1 hq with e | e
 ·rw [e];unfold Sn;decide +kernel
 ·rw [List.eq_of_mem_replicate e];unfold Sn;decide +kernel
theorem sn_spell (x:I3)(i:Nat):Sn (spell x i):=by
 have h:=tmod9 (x.at i)
 unfold spell
 generalize (x.at i).tmod 9=z at *
 have key:∀ j:Fin 17,Sn (mkRat ((j.val:Int) - 8) 1)∧Sn (mkRat ((j.val:Int) - 8) 2):=by unfold Sn;decide +kernel
 have h2:=key ⟨(z+8).toNat,by omega⟩
 dsimp only at h2
 rw [show (((z+8).toNat:Nat):Int) - 8=z by omega] at h2
 unfold dnm
 split
 ·exact h2.2
 ·exact h2.1
theorem sn_szW (n:Nat)(x:I3):∀ q∈szW n x,Sn q:=by
 intro q hq
 unfold szW at hq
 obtain ⟨i,_,rfl⟩:=List.mem_map.1 hq
 exact sn_spell x i
theorem sn_oc (k n:Nat)(h0:0<n)(h9:n≤9):∀ q∈mulZ (ov k) (mkRat 1 n),Sn q:=by
 intro q hq
 unfold mulZ ov at hq
 rw [List.map_cons,List.map_replicate] at hq
 rcases List.mem_cons.1 hq with e | e
 ·rw [e,Rat.one_mul];exact sn_part h0 h9
 ·rw [List.eq_of_mem_replicate e,Rat.zero_mul];unfold Sn;decide +kernel
/-- A scale that reads, behind a store into the result's box. -/
theorem scv_set {W:World}{b B:Nat}{u v x y vp vn:Value}{p:List Int}{out:List Qw}(hb:BoxT 32 W b u v)(hp:W.ownsRow B 3 1 vp p.length (i64s p))(hn:W.ownsRow B 37 1 vn out.length (qwc out))(hr:∀ r∈out,OwnQ W B r.u r.x):ScV ((W.setCell ⟨b,0,none⟩ x).setCell ⟨b,1,none⟩ y) (.agg #[vp,vn]) p out:=by
 refine ⟨vp,vn,rfl,?_,?_,fun r h=>?_⟩
 ·have:=own_set_apart (BoxT.put0 hb x) (own_set_apart hb hp (by decide) 0 x) (by decide) 1 y
  rw [← i64s_length] at this
  exact sl_own this
 ·have:=own_set_apart (BoxT.put0 hb x) (own_set_apart hb hn (by decide) 0 x) (by decide) 1 y
  rw [← qwc_length] at this
  exact sl_own this
 ·exact OwnQ.rd (own_set_apart (BoxT.put0 hb x) (own_set_apart hb (hr r h) (by decide) 0 x) (by decide) 1 y)
theorem scv_made {W:World}{b B B':Nat}{u v x y vp vn vb:Value}{p:List Int}{o:List Rat}{out:List Qw}(hb:BoxT 32 W b u v)(hp:W.ownsRow B 3 1 vp p.length (i64s p))(hn:W.ownsRow B 37 1 vn out.length (qwc out))(hB:B≤B')(ho:OwnQ W B vb o)(hr:∀ r∈out,(r.u=vb∧r.x=o)∨OwnQ W B' r.u r.x):ScV ((W.setCell ⟨b,0,none⟩ x).setCell ⟨b,1,none⟩ y) (.agg #[vp,vn]) p out :=
 scv_set hb hp hn fun r h=>by
  rcases hr r h with ⟨e1,e2⟩ | e
  ·rw [e1,e2];exact ho
  ·exact e.mono hB
theorem coll_sizes {p:List Int}{l l' N:List (List Rat)}(h:l=l')(hc:Coll p l N):Coll p l' N:=by rw [← h];exact hc
theorem lMake_c (a:Wl)(w:World)(he:Env w)(ha:a.Ok) :
  Calls Tryz.prog 19 #[a.v] w fun e w'=>∃ v out,e=.returned v∧ScV w' v a.p out∧Coll a.p a.sizes (out.map Qw.x)∧Ext w w':=by
 have hpr:=fun W (_:Ext w W)=>lPrimes_c a W
 obtain ⟨W2,hW2⟩:∃ W2,W2=(w.alloc (.cells a.cs 47)).alloc (.cells #[.slice none 0 0,.slice none 0 0] 32):=⟨_,rfl⟩
 have hE:Ext w W2:=by rw [hW2];exact ((Ext.refl w).alloc _).alloc _
 have hb:W2.heap[w.heap.size]?=some (.cells a.cs 47 (0,0)):=by
  rw [hW2]
  exact ((Ext.refl _).alloc _).heap (World.alloc_heap_new w _)
 have b0:BoxT 32 W2 (w.heap.size+1) (.slice none 0 0) (.slice none 0 0):=by
  have:=BoxT.new 32 (w.alloc (.cells a.cs 47)) (.slice none 0 0) (.slice none 0 0)
  rw [World.size_alloc] at this
  rw [hW2]
  exact this
 have hcell:∀ W,Ext W2 W→∀ k,W.cell? ⟨w.heap.size,k,none⟩=a.cs[k]?:=fun W hx k=>by
  unfold World.cell?
  dsimp only
  rw [hx.heap hb]
  rfl
 have hrl:W2.rangeAt w.heap.size 0 a.cs.toList:=fun j v hj=>by
  rw [hcell W2 (Ext.refl _),Nat.zero_add,← Array.getElem?_toList]
  exact hj
 have hun:=Tryz.underlying47
 have hin:(Tryz.prog.info? 47).map (·.size)=some a.cs.toList.length:=by
  rw [Array.length_toList]
  kernel_rfl
 rw [hW2] at hrl
 have hn9:=a.n9
 have hpw:=a.pw
 have HE:=hid hE;have B0:=hid b0;have Hcell:=hid hcell;have Hpr:=hid hpr;have He:=hid he;have Ha:=hid ha;have Hpw:=hid hpw
 clear hE b0 hcell hpr he ha hb hpw
 have hv:a.v=.agg a.cs:=rfl
 have Hv:=hid hv
 rw [hv]
 clear hv
 have hcs2:Wl.cs a=#[.bool a.three,.int .u8 a.kind,.int .u8 a.num,.int .i8 (a.xs 0).a,.int .i8 (a.xs 0).b,.int .i8 (a.xs 0).c,.int .i8 (a.xs 1).a,.int .i8 (a.xs 1).b,.int .i8 (a.xs 1).c,.int .i8 (a.xs 2).a,.int .i8 (a.xs 2).b,.int .i8 (a.xs 2).c,.int .i8 (a.xs 3).a,.int .i8 (a.xs 3).b,.int .i8 (a.xs 3).c,.int .i8 (a.xs 4).a,.int .i8 (a.xs 4).b,.int .i8 (a.xs 4).c,.int .i8 (a.xs 5).a,.int .i8 (a.xs 5).b,.int .i8 (a.xs 5).c,.int .i8 (a.xs 6).a,.int .i8 (a.xs 6).b,.int .i8 (a.xs 6).c,.int .i8 (a.xs 7).a,.int .i8 (a.xs 7).b,.int .i8 (a.xs 7).c]:=rfl
 have Hrl:=hid hrl;have Hun:=hid hun;have Hin:=hid hin
 clear hrl hun hin
 rw [hcs2]
 go_enter Tryz.func19,Tryz.ntmps19
 rw [← hcs2]
 go_wp2_with (refine wpList_load_mid rfl 47 (.tmp 1) rfl w.heap.size 0 rfl a.cs.toList _ Hrl.out Hun.out rfl Hin.out ?_)
 rw [← hcs2,← hW2,← Hv.out]
 have hpw2:=Hpr.out W2 HE.out
 refine hpw2.mono ?_
 rintro e w1 ⟨u1,rfl,hon1,hx1⟩
 clear hcs2 hW2
 obtain ⟨a1,c1,rfl⟩:=own_shape hon1
 have Hon1:=hid hon1
 have Hsl1:=hid (sl_own hon1)
 have Hx1:=hid hx1
 have q1:w1.cell? ⟨w.heap.size,1,none⟩=some (.int .u8 a.kind):=Hcell.out w1 hx1 1
 have q2:w1.cell? ⟨w.heap.size,2,none⟩=some (.int .u8 a.num):=Hcell.out w1 hx1 2
 clear hx1 hon1 hpw2
 have HEw:=hid (HE.out.trans Hx1.out)
 have hpl:=Hpw.out
 have hpl3:0<a.p.length∧a.p.length≤3:=by rcases hpl with e | e <;> rw [e] <;> decide
 have hoc:=fun W (hx:Ext w1 W)=>octave_c (.slice a1 a.p.length c1) a.p W (He.out.ext (HEw.out.trans hx)) (hx.sl Hsl1.out) hpl3.1 (by omega)
 have hco:=fun W vb vl (rs:List Qw)(hx:Ext w1 W)(hb:Rd W vb (ov (a.p.length - 1)))(hl:RdM W vl rs)(hz:rs.map Qw.x=a.sizes)=>lCollect_c (.slice a1 a.p.length c1) vb vl a.p 400 rs W (He.out.ext (HEw.out.trans hx)) (hx.sl Hsl1.out) hb hl (by rw [hz];exact a.lw) (by omega) (by have:=a.few;rw [← hz,List.length_map] at this;exact this)
 have hnn:(1:Int)+(a.num:Int) % 9=((a.n:Nat):Int):=by unfold Wl.n;omega
 have hof:=fun W (hx:Ext w1 W)=>of_c 1 a.n W (He.out.ext (HEw.out.trans hx)) (by decide) hn9.1 (by omega)
 have hti:=fun W va (hx:Ext w1 W)(hr:Rd W va (ov (a.p.length - 1)))=>lTimes_c va (ov (a.p.length - 1)) (mkRat 1 a.n) W (He.out.ext (HEw.out.trans hx)) hr (by rw [ov_len];omega) (sn_ov _) (sn_part hn9.1 hn9.2)
 have hm0:=fun W vg (hx:Ext w1 W)(hr:Rd W vg (mulZ (ov (a.p.length - 1)) (mkRat 1 a.n)))=>lMult_c vg _ 1 a.n W (He.out.ext (HEw.out.trans hx)) hr (by unfold mulZ;rw [List.length_map,ov_len];omega) (sn_oc _ _ hn9.1 hn9.2) (by omega) (by omega)
 rw [show (1:Int)+((a.n:Nat):Int) - 1=((a.n:Nat):Int) by omega] at hm0
 have hm1:=fun W vg (hx:Ext w1 W)(hr:Rd W vg (szW a.p.length (a.xs 0)))=>lMult_c vg _ 0 a.n W (He.out.ext (HEw.out.trans hx)) hr (by rw [szW_len];omega) (sn_szW _ _) (by omega) (by omega)
 rw [show (0:Int)+((a.n:Nat):Int) - 1=((a.n:Nat):Int) - 1 by omega] at hm1
 have hsz:=fun (i:Nat) W (hx:Ext w1 W)=>lSize_c (.slice a1 a.p.length c1) a.p (a.xs i) W (He.out.ext (HEw.out.trans hx)) (hx.sl Hsl1.out) (by omega) (Ha.out.xs i)
 unfold Rv at hof hti
 have Hoc:=hid hoc;have Hco:=hid hco;have Hof:=hid hof;have Hti:=hid hti;have Hm0:=hid hm0;have Hm1:=hid hm1;have Hsz:=hid hsz
 clear hoc hco hof hti hm0 hm1 hsz hpl
 by_cases k0:a.kind % 3=0
 ·have t0:((a.kind:Int) % 3 == 0)=true:=by rw [beq_iff_eq];omega
  have hszs:a.sizes=mulsZ (mulZ (ov (a.p.length - 1)) (mkRat 1 a.n)) 1 a.n:=by unfold Wl.sizes;rw [if_pos k0]
  have Hszs:=hid hszs
  clear hszs k0
  go_wp2_with fail
  refine (Hoc.out w1 (Ext.refl _)).mono ?_
  rintro e wa ⟨ua,rfl,hoa,hxa⟩
  have Hoa:=hid hoa;have Hxa:=hid hxa
  clear hoa hxa
  go_wp2_with fail
  refine (Hoc.out wa Hxa.out).mono ?_
  rintro e wb ⟨ub,rfl,hob,hxb⟩
  have Hob:=hid hob;have Hxb:=hid (Hxa.out.trans hxb);have Hxab:=hid hxb
  clear hob hxb
  go_wp2_with fail
  refine (Hof.out wb Hxb.out).mono ?_
  rintro e wc ⟨rfl,hxc⟩
  have Hxc:=hid (Hxb.out.trans hxc);have Hobc:=hid (hxc.ownQ Hob.out);have Hxac:=hid (Hxab.out.trans hxc)
  clear hxc
  go_wp2_with fail
  refine (Hti.out wc ub Hxc.out Hobc.out.rd).mono ?_
  rintro e wd ⟨ud,rfl,hod,hxd⟩
  have Hod:=hid hod;have Hxd:=hid (Hxc.out.trans hxd);have Hxad:=hid (Hxac.out.trans hxd)
  clear hod hxd
  go_wp2_with fail
  refine (Hm0.out wd ud Hxd.out Hod.out.rd).mono ?_
  rintro e wm ⟨um,rm,rfl,hom,hmm,hxm⟩
  have Hom:=hid hom;have Hxm:=hid (Hxd.out.trans hxm);have Hxam:=hid (Hxad.out.trans hxm);have Hmm:=hid (hmm.trans Hszs.out.symm)
  clear hom hxm hmm
  go_wp2_with fail
  refine (Hco.out wm ua um rm Hxm.out (Hxam.out.ownQ Hoa.out).rd Hom.out.rd Hmm.out).mono ?_
  rintro e wC ⟨vn,out5,rfl,hn5,hr5,hcl5,hx5⟩
  obtain ⟨avn,cvn,rfl⟩:=own_shape hn5
  have hxC:=Hxm.out.trans hx5
  have hbm:w.heap.size≤wm.heap.size:=(HEw.out.trans Hxm.out).size
  have hb5:=B0.out.ext (Hx1.out.trans hxC)
  have r0:=hb5.c0;have r1:=hb5.c1;have z0:=hb5.fz 0;have z1:=hb5.fz 1
  have hK:K0 32 w wC (w.heap.size+1):=⟨HEw.out.trans hxC,_,_,hb5⟩
  have hfin:=hK.fin (by omega) (.slice a1 a.p.length c1) (.slice avn out5.length cvn)
  have hsv:=scv_set (B:=w.heap.size) (x:=.slice a1 a.p.length c1) (y:=.slice avn out5.length cvn) hb5 (own_mono (hxC.own Hon1.out) HE.out.size) (own_mono hn5 hbm) fun r hr=>by
   rcases hr5 r hr with ⟨e1,e2⟩ | e
   ·rw [e1,e2];exact OwnQ.mono ((hx5.ownQ (Hxam.out.ownQ Hoa.out))) HEw.out.size
   ·exact e.mono hbm
  have hcl5':Coll a.p a.sizes (out5.map Qw.x):=by rw [← Hmm.out];exact hcl5
  have Hfin:=hid hfin;have Hsv:=hid hsv;have Hcl5:=hid hcl5'
  clear hfin hsv hcl5 hcl5' hK hb5 hxC hn5 hr5 hx5 hbm
  go_wp2_with fail
  obtain ⟨hb6,hx6⟩:=Hfin.out
  have hd0:=hb6.c0
  have hd1:=hb6.c1
  exact bodyPost_ret (v:=.agg #[.slice a1 a.p.length c1,.slice avn out5.length cvn]) (by simp [results,Tryz.results19,go_sem,hd0,hd1]) rfl ⟨_,out5,rfl,Hsv.out,Hcl5.out,hx6⟩
 ·have t0:((a.kind:Int) % 3 == 0)=false:=by rw [beq_eq_false_iff_ne];omega
  by_cases k1:a.kind % 3=1
  ·have t1:((a.kind:Int) % 3 == 1)=true:=by rw [beq_iff_eq];omega
   have hszs:a.sizes=mulsZ (szW a.p.length (a.xs 0)) 0 a.n:=by unfold Wl.sizes;rw [if_neg k0,if_pos k1]
   have Hszs:=hid hszs
   have hsz0:=fun W (hx:Ext w1 W)=>Hsz.out 0 W hx
   unfold I3.v at hsz0
   have Hsz0:=hid hsz0
   have hwr:IntKind.i64.wrap (((a.n:Nat):Int) - 1)=((a.n:Nat):Int) - 1:=wrap_small (by omega) (by omega)
   have hm1:=Hm1.out
   rw [← hwr] at hm1
   have Hm1:=hid hm1
   clear hszs k0 k1 hsz0 hm1 hwr
   have q3:w1.cell? ⟨w.heap.size,3,none⟩=some (.int .i8 (a.xs 0).a):=Hcell.out w1 Hx1.out 3
   have q4:w1.cell? ⟨w.heap.size,4,none⟩=some (.int .i8 (a.xs 0).b):=Hcell.out w1 Hx1.out 4
   have q5:w1.cell? ⟨w.heap.size,5,none⟩=some (.int .i8 (a.xs 0).c):=Hcell.out w1 Hx1.out 5
   go_wp2_with fail
   have q3:=((Ext.refl w1).drew).cell q3
   have q4:=((Ext.refl w1).drew).cell q4
   have q5:=((Ext.refl w1).drew).cell q5
   have HX:=hid (Ext.refl w1).drew
   go_region_law (first
    | (go_simp;go_at_call 47;refine (Hoc.out _ HX.out).mono ?_;rintro e V ⟨ua,rfl,ho,hx⟩;(try (have HO:=hid (hx.ownQ HO.out)));(try (have HS:=hid (hx.ownQ HS.out)));(try (have HM:=hid (hx.qwM HM.out)));have q3:=hx.cell q3;have q4:=hx.cell q4;have q5:=hx.cell q5;have HX:=hid (HX.out.trans hx);have HO:=hid (OwnQ.mono ho HEw.out.size);clear ho hx)
    | (go_simp;go_at_call 51;refine (Hsz0.out _ HX.out).mono ?_;rintro e V ⟨us,rfl,ho,hx⟩;(try (have HO:=hid (hx.ownQ HO.out)));(try (have HS:=hid (hx.ownQ HS.out)));(try (have HM:=hid (hx.qwM HM.out)));have q3:=hx.cell q3;have q4:=hx.cell q4;have q5:=hx.cell q5;have HX:=hid (HX.out.trans hx);have HS:=hid ho;clear ho hx)
    | (go_simp;go_at_call 48;refine (Hm1.out _ _ HX.out HS.out.rd).mono ?_;rintro e V ⟨um,rm,rfl,ho,hmm,hx⟩;(try (have HO:=hid (hx.ownQ HO.out)));(try (have HS:=hid (hx.ownQ HS.out)));(try (have HM:=hid (hx.qwM HM.out)));have q3:=hx.cell q3;have q4:=hx.cell q4;have q5:=hx.cell q5;have HX:=hid (HX.out.trans hx);have HM:=hid ho;have Hmm:=hid (hmm.trans Hszs.out.symm);clear ho hx hmm)
    | (go_simp;go_at_call 46;refine (Hco.out _ _ _ rm HX.out HO.out.rd HM.out.rd Hmm.out).mono ?_;rintro e wC ⟨vn,out5,rfl,hn5,hr5,hcl5,hx5⟩;obtain ⟨avn,cvn,rfl⟩:=own_shape hn5;have hxC:=HX.out.trans hx5;have hbm:=Nat.le_trans HEw.out.size HX.out.size;have hb5:=B0.out.ext (Hx1.out.trans hxC);have r0:=hb5.c0;have r1:=hb5.c1;have z0:=hb5.fz 0;have z1:=hb5.fz 1;have hK:K0 32 w wC (w.heap.size+1):=⟨HEw.out.trans hxC,_,_,hb5⟩;have Hfin:=hid (hK.fin (Nat.le_succ _) (.slice a1 a.p.length c1) (.slice avn out5.length cvn));have Hsv:=hid (scv_made (x:=.slice a1 a.p.length c1) (y:=.slice avn out5.length cvn) hb5 (own_mono (hxC.own Hon1.out) HE.out.size) (own_mono hn5 hbm) hbm (hx5.ownQ HO.out) hr5);have Hcl5:=hid (coll_sizes Hmm.out hcl5);clear hcl5 hK hb5 hxC hn5 hr5 hx5 hbm))
   all_goals
    go_wp2_with fail
    obtain ⟨hb6,hx6⟩:=Hfin.out
    have hd0:=hb6.c0
    have hd1:=hb6.c1
    exact bodyPost_ret (v:=.agg #[.slice a1 a.p.length c1,.slice avn out5.length cvn]) (by simp [results,Tryz.results19,go_sem,hd0,hd1]) rfl ⟨_,out5,rfl,Hsv.out,Hcl5.out,hx6⟩
  ·have t1:((a.kind:Int) % 3 == 1)=false:=by rw [beq_eq_false_iff_ne];omega
   have hszs:a.sizes=(List.range (min a.n 8)).map fun i=>szW a.p.length (a.xs i):=by unfold Wl.sizes;rw [if_neg k0,if_neg k1]
   obtain ⟨m,hm⟩:∃ m,m=min a.n 8:=⟨_,rfl⟩
   have hm8:m≤8:=by omega
   rw [← hm] at hszs
   have hcx:∀ W,Ext w1 W→∀ k,k<8→W.cell? ⟨w.heap.size,3+k * 3,none⟩=some (.int .i8 (a.xs k).a)∧W.cell? ⟨w.heap.size,3+k * 3+1,none⟩=some (.int .i8 (a.xs k).b)∧W.cell? ⟨w.heap.size,3+k * 3+2,none⟩=some (.int .i8 (a.xs k).c):=fun W hx k hk=>by
    have hxx:=Hx1.out.trans hx
    obtain rfl | rfl | rfl | rfl | rfl | rfl | rfl | rfl:k=0∨k=1∨k=2∨k=3∨k=4∨k=5∨k=6∨k=7:=by omega
    all_goals exact ⟨Hcell.out W hxx _,Hcell.out W hxx _,Hcell.out W hxx _⟩
   have hszk:=fun (k:Nat) W (hx:Ext w1 W)=>Hsz.out k W hx
   unfold I3.v at hszk
   have hmin:min ((a.n:Nat):Int) 8=(m:Int):=by omega
   obtain ⟨j0,hj,hy0,hy1,hy2⟩:=info_parts info_size
   have Hszs:=hid hszs;have Hcx:=hid hcx;have Hszk:=hid hszk;have Hm:=hid hm
   clear hszs k0 k1 hszk hcx hm
   go_wp2_with fail
   go_loopw [5,6,46] (fun v5 v6 v46 wr=>∃ k:Nat,v46=.int .i64 k∧k≤m∧QsR w1 ((List.range k).map fun i=>szW a.p.length (a.xs i)) v5 wr) (fun _ _ v46 _=>m - (intOf v46).toNat)
   case atStart=>exact ⟨0,rfl,Nat.zero_le _,[],QwM.nil _ _ _,rfl,Ext.refl _⟩
   case round =>
    obtain ⟨k,rfl,hk,⟨out,hq,hmq,hE⟩⟩:=hrel
    have hol:out.length=k:=by
     have:=congrArg List.length hmq
     rwa [List.length_map,List.length_map,List.length_range] at this
    obtain ⟨a6,c6,rfl⟩:=own_shape hq.1
    by_cases hkm:k<m
    ·obtain ⟨q0,q1,q2⟩:=Hcx.out wr hE k (by omega)
     have hso:=Hszk.out k wr hE
     have hstep:((List.range (k+1)).map fun i=>szW a.p.length (a.xs i))=((List.range k).map fun i=>szW a.p.length (a.xs i))++[szW a.p.length (a.xs k)]:=by rw [List.range_succ,List.map_append];rfl
     have hwl:=szW_len a.p.length (a.xs k)
     have hqo:=hq.1
     rw [hol] at hqo ⊢
     have hk0:(0:Int)≤(k:Int):=by omega
     have hk1:(k:Int)<(m:Int):=by omega
     have hk8:(k:Int)<8:=by omega
     have hm3:k+1≤maxLen:=by unfold maxLen;omega
     have hm4:(k+1) * 24≤140737488355328:=by omega
     have Hso:=hid hso;have Hstep:=hid hstep;have Hwl:=hid hwl;have Hqo:=hid hqo;have Hq:=hid hq;have Hmq:=hid hmq;have HEr:=hid hE;have Hol:=hid hol
     clear hso hstep hwl hqo hq hmq hE hol
     go_wp2_with fail
     refine Hso.out.mono ?_
     rintro e VA ⟨uA,rfl,hoA,hxA⟩
     have hoA':=hoA
     unfold OwnQ at hoA'
     obtain ⟨au,cu,rfl⟩:=own_shape hoA'
     have hE3:=HEr.out.trans hxA
     have Ho2:=hid (hoA.mono HEr.out.size)
     have Hq3:=hid (hxA.qwM Hq.out)
     have hqo:=hxA.own Hqo.out
     have hbase:=hE3.size
     have HE3:=hid hE3
     generalize (szW a.p.length (a.xs k)).length=ml at *
     clear hoA hoA' hxA hE3 q0 q1 q2
     go_wp2_with (at_builtin;refine wpList_append_own _ rfl _ _ 30 rfl w1.heap.size 37 j0 (.slice none 0 0) 1 24 Tryz.underlying30 hj hy0 hy1 hy2 rfl (by decide) _ _ _ rfl (hqo.alloc _) ⟨VA.heap.size,0,none⟩ 1 1 [.slice au ml cu] rfl rfl (cell_one_new _ _ _) (by simp [Value.oneCell']) hm3 hm4 (by rw [World.size_alloc];omega) ?_;intro v7 V7 hown7 hgrow7 _)
     go_roundw
     case rel=>exact ⟨k+1,by go_num,by omega,by rw [Hstep.out];exact QsR.more HE3.out Hq3.out Hmq.out Ho2.out (by rw [Hol.out];exact hown7) (by rw [Hol.out];exact hgrow7)⟩
     case measure=>simp [intOf];omega
    ·obtain rfl:k=m:=by omega
     have Hmm:=hid (hmq.trans Hszs.out.symm);have Hq:=hid hq;have HEr:=hid hE
     have hoc:=Hoc.out wr hE
     have Hocr:=hid hoc
     clear hq hmq hE hol hoc
     go_wp2_with fail
     refine Hocr.out.mono ?_
     rintro e wm ⟨ua,rfl,hoa,hxa⟩
     have Hoa:=hid (hoa.mono (Nat.le_trans HEw.out.size HEr.out.size));have Hxm:=hid (HEr.out.trans hxa);have Hom:=hid (hxa.qwM Hq.out)
     clear hoa hxa
     go_wp2_with fail
     refine (Hco.out wm ua _ out Hxm.out Hoa.out.rd Hom.out.rd Hmm.out).mono ?_
     rintro e wC ⟨vn,out5,rfl,hn5,hr5,hcl5,hx5⟩
     obtain ⟨avn,cvn,rfl⟩:=own_shape hn5
     have hxC:=Hxm.out.trans hx5
     have hbm:=Nat.le_trans HEw.out.size Hxm.out.size
     have hb5:=B0.out.ext (Hx1.out.trans hxC)
     have r0:=hb5.c0;have r1:=hb5.c1;have z0:=hb5.fz 0;have z1:=hb5.fz 1
     have hK:K0 32 w wC (w.heap.size+1):=⟨HEw.out.trans hxC,_,_,hb5⟩
     have Hfin:=hid (hK.fin (Nat.le_succ _) (.slice a1 a.p.length c1) (.slice avn out5.length cvn))
     have Hsv:=hid (scv_made (x:=.slice a1 a.p.length c1) (y:=.slice avn out5.length cvn) hb5 (own_mono (hxC.own Hon1.out) HE.out.size) (own_mono hn5 hbm) hbm (hx5.ownQ Hoa.out) hr5)
     have Hcl5:=hid (coll_sizes Hmm.out hcl5)
     clear hcl5 hK hb5 hxC hn5 hr5 hx5 hbm
     go_wp2_with fail
     obtain ⟨hb6,hx6⟩:=Hfin.out
     have hd0:=hb6.c0
     have hd1:=hb6.c1
     exact bodyPost_ret (v:=.agg #[.slice a1 a.p.length c1,.slice avn out5.length cvn]) (by simp [results,Tryz.results19,go_sem,hd0,hd1]) rfl ⟨_,out5,rfl,Hsv.out,Hcl5.out,hx6⟩
end Go.Proofs.YtipjmpdndokdlaaGreatDoor

namespace Go.Proofs.YtipjmpdndokdlaaGreatDoor
open Go.RowKit Go.Lib Go.Shelf
theorem wl_info (a:Wl):(Tryz.prog.info? 47).map (·.size)=some a.cs.toList.length:=by
 rw [Array.length_toList]
 kernel_rfl
end Go.Proofs.YtipjmpdndokdlaaGreatDoor
