/- Plain: the sizes of a world are sizes that a scale is made of. -/
import Derived.Test.YtebabancfnmfjaaGreatDoorPq27
namespace Go.Proofs.YtebabancfnmfjaaGreatDoor
open Go.RowKit Go.Lib
def sz3 (p:List Int)(A B C:Int):List Rat:=if p.length=2 then [(A:Rat),(B:Rat) / 2] else [(A:Rat),(B:Rat) / 2,(C:Rat)]
theorem zm2 (B:Int):(B:Rat) / 2 * 2=B:=by grind
theorem zm3 (A B C:Int):sz3 [2,3] A B C=[(A:Rat),(B:Rat) / 2]:=rfl
theorem zm4 (A B C:Int):sz3 [2,3,5] A B C=[(A:Rat),(B:Rat) / 2,(C:Rat)]:=rfl
def Pw (p:List Int):Prop:=p=[2,3]∨p=[2,3,5]
theorem Pw.pr {p:List Int}(h:Pw p):Pr p p.length:=by
 rcases h with rfl | rfl
 ·exact .inl ⟨rfl,rfl⟩
 ·exact .inr ⟨rfl,rfl⟩
theorem zm5 {p:List Int}(h:Pw p)(A B C:Int):(sz3 p A B C).length=p.length:=by rcases h with rfl | rfl <;> rfl
theorem zm6 {p:List Int}(h:Pw p):zer p.length=sz3 p 0 0 0:=by rcases h with rfl | rfl <;> decide +kernel
theorem zm7 {p:List Int}(h:Pw p)(A B C A' B' C':Int):zew (sz3 p A B C) (sz3 p A' B' C')=sz3 p (A - A') (B - B') (C - C'):=by
 rcases h with rfl | rfl
 ·rw [zm3,zm3,zm3,Rat.intCast_sub,Rat.intCast_sub];have e:(B:Rat) / 2 - (B':Rat) / 2=((B:Rat) - (B':Rat)) / 2:=by grind
  simp only [zew,List.zipWith_cons_cons,List.zipWith_nil_left,e]
 ·rw [zm4,zm4,zm4,Rat.intCast_sub,Rat.intCast_sub,Rat.intCast_sub];have e:(B:Rat) / 2 - (B':Rat) / 2=((B:Rat) - (B':Rat)) / 2:=by grind
  simp only [zew,List.zipWith_cons_cons,List.zipWith_nil_left,e]
theorem zm8 {p:List Int}(h:Pw p)(A B C k:Int):zex (sz3 p A B C) (k:Rat)=sz3 p (A * k) (B * k) (C * k):=by
 have e:(B:Rat) / 2 * (k:Rat)=(B:Rat) * (k:Rat) / 2:=by grind
 rcases h with rfl | rfl
 ·rw [zm3,zm3,Rat.intCast_mul,Rat.intCast_mul];simp only [zex,List.map_cons,List.map_nil,e]
 ·rw [zm4,zm4,Rat.intCast_mul,Rat.intCast_mul,Rat.intCast_mul];simp only [zex,List.map_cons,List.map_nil,e]
theorem zm9 {p:List Int}(h:Pw p){A B C:Int}(h1:-256≤B)(h2:B≤256)(h3:-128≤C)(h4:C≤128):Bx 256 (sz3 p A B C):=by
 rcases h with rfl | rfl
 ·exact ⟨A,B,rfl,zm2 B,h1,h2⟩
 ·exact ⟨A,B,C,rfl,zm2 B,rfl,h1,h2,by omega,by omega⟩
theorem zmA {p:List Int}(h:Pw p){A B C:Int}(hA:-64≤A∧A≤64)(hB:-128≤B∧B≤128)(hC:-64≤C∧C≤64):∃ m:Int,sF p (sz3 p A B C)=(m:Rat)∧-26843545600≤m∧m≤26843545600:=by
 have e:(B:Rat) / 2 * (106365032:Int)=((B * 53182516:Int):Rat):=by
  have e0:((106365032:Int):Rat)=((53182516:Int):Rat) * 2:=by
   rw [show (2:Rat)=((2:Int):Rat) from rfl,← Rat.intCast_mul];rfl
  rw [Rat.intCast_mul,e0];grind
 rcases h with rfl | rfl
 ·refine ⟨A * 67108864+B * 53182516,?_,by omega,by omega⟩;rw [zm3];simp only [sF,lgs.1,lgs.2.1,e];rw [Rat.intCast_add,Rat.intCast_mul A];grind
 ·refine ⟨A * 67108864+B * 53182516+C * 155821956,?_,by omega,by omega⟩;rw [zm4];simp only [sF,lgs.1,lgs.2.1,lgs.2.2,e];rw [Rat.intCast_add,Rat.intCast_add,Rat.intCast_mul A,Rat.intCast_mul C];grind
theorem zmB {p:List Int}(hp:Pw p){l:List (List Rat)}(h:∀ x∈l,∃ A B C:Int,(-64≤A∧A≤64)∧(-128≤B∧B≤128)∧(-64≤C∧C≤64)∧x=sz3 p A B C):Lw p 400 l:=by
 have h2:∀ x∈zer p.length::l,∃ A B C:Int,(-64≤A∧A≤64)∧(-128≤B∧B≤128)∧(-64≤C∧C≤64)∧x=sz3 p A B C:=fun x hx=>by
  rcases List.mem_cons.1 hx with e | e
  ·exact ⟨0,0,0,by omega,by omega,by omega,by rw [e,zm6 hp]⟩
  ·exact h x e
 refine ⟨hp.pr,fun x hx=>?_,by omega,by omega,fun x hx=>?_,0,fun x hx y hy=>?_⟩
 ·obtain ⟨A,B,C,_,_,_,rfl⟩:=h x hx;exact zm5 hp ..
 ·obtain ⟨A,B,C,hA,hB,hC,rfl⟩:=h x hx;obtain ⟨m,e,m0,m1⟩:=zmA hp hA hB hC;rw [e,← Rat.intCast_neg];exact ⟨Rat.intCast_le_intCast.2 (by omega),Rat.intCast_le_intCast.2 (by omega)⟩
 ·obtain ⟨A,B,C,hA,hB,hC,rfl⟩:=h2 x hx;obtain ⟨A',B',C',hA',hB',hC',rfl⟩:=h2 y hy;rw [zm7 hp];exact .inl ⟨rfl,zm9 hp (by omega) (by omega) (by omega) (by omega)⟩
def oc3 (p:List Int)(n:Nat)(i:Int):List Rat:=if p.length=2 then [(i:Rat) / (n:Rat),0] else [(i:Rat) / (n:Rat),0,0]
theorem zmC (n:Nat)(i:Int):oc3 [2,3] n i=[(i:Rat) / (n:Rat),0]:=rfl
theorem zmD (n:Nat)(i:Int):oc3 [2,3,5] n i=[(i:Rat) / (n:Rat),0,0]:=rfl
theorem zmE {p:List Int}(h:Pw p)(n:Nat)(i:Int):(oc3 p n i).length=p.length:=by rcases h with rfl | rfl <;> rfl
theorem zmF {n:Nat}(hn:0<n):(n:Rat) ≠ 0:=fun h=>by
 have:=Rat.natCast_inj.1 (show ((n:Nat):Rat)=((0:Nat):Rat) from h);omega
theorem zmG {p:List Int}(h:Pw p)(n:Nat):zer p.length=oc3 p n 0:=by
 have e:((0:Int):Rat) / (n:Rat)=0:=by rw [Rat.div_def,show ((0:Int):Rat)=0 from rfl,Rat.zero_mul]
 rcases h with rfl | rfl
 ·rw [zmC,e];rfl
 ·rw [zmD,e];rfl
theorem zmH {p:List Int}(h:Pw p)(n:Nat)(i j:Int):zew (oc3 p n i) (oc3 p n j)=oc3 p n (i - j):=by
 have e:(i:Rat) / (n:Rat) - (j:Rat) / (n:Rat)=((i:Rat) - (j:Rat)) / (n:Rat):=by grind
 have z:(0:Rat) - 0=0:=by decide +kernel
 rcases h with rfl | rfl
 ·rw [zmC,zmC,zmC,Rat.intCast_sub];simp only [zew,List.zipWith_cons_cons,List.zipWith_nil_left,e,z]
 ·rw [zmD,zmD,zmD,Rat.intCast_sub];simp only [zew,List.zipWith_cons_cons,List.zipWith_nil_left,e,z]
theorem zmI {p:List Int}(h:Pw p){n:Nat}(hn:0<n)(i:Int):Oc n (oc3 p n i):=by
 have e:(i:Rat) / (n:Rat) * (n:Rat)=(i:Rat):=Rat.div_mul_cancel (zmF hn);rcases h with rfl | rfl
 ·exact ⟨rfl,i,e⟩
 ·exact ⟨rfl,rfl,i,e⟩
theorem zmJ {p:List Int}(h:Pw p)(n:Nat)(i:Int):sF p (oc3 p n i)=(i:Rat) / (n:Rat) * ((67108864:Int):Rat):=by
 rcases h with rfl | rfl
 ·rw [zmC];simp only [sF,lgs.1,lgs.2.1];grind
 ·rw [zmD];simp only [sF,lgs.1,lgs.2.1,lgs.2.2];grind
theorem zmK {p:List Int}(h:Pw p)(n:Nat)(i:Int):zex (zex (ov (p.length - 1)) (mkRat 1 n)) (i:Rat)=oc3 p n i:=by
 have e:(1:Rat) * mkRat 1 n * (i:Rat)=(i:Rat) / (n:Rat):=by
  rw [Rat.mkRat_eq_div];show (1:Rat) * (((1:Int):Rat) / (n:Rat)) * (i:Rat)=_;rw [show ((1:Int):Rat)=1 from rfl];grind
 have z:(0:Rat) * mkRat 1 n * (i:Rat)=0:=by rw [Rat.zero_mul,Rat.zero_mul]
 rcases h with rfl | rfl
 ·rw [zmC];show [(1:Rat) * mkRat 1 n * (i:Rat),(0:Rat) * mkRat 1 n * (i:Rat)]=_;rw [e,z]
 ·rw [zmD];show [(1:Rat) * mkRat 1 n * (i:Rat),(0:Rat) * mkRat 1 n * (i:Rat),(0:Rat) * mkRat 1 n * (i:Rat)]=_;rw [e,z]
theorem zmL {p:List Int}(hp:Pw p){n:Nat}(hn:0<n)(hn9:n≤9):Lw p 400 (zkO (zex (ov (p.length - 1)) (mkRat 1 n)) 1 n):=by
 have h:∀ x∈zkO (zex (ov (p.length - 1)) (mkRat 1 n)) 1 n,∃ i:Int,0≤i∧i≤(n:Int)∧x=oc3 p n i:=fun x hx=>by
  unfold zkO at hx;rw [List.mem_map] at hx;obtain ⟨i,hi,rfl⟩:=hx;rw [List.mem_range] at hi;exact ⟨1+(i:Int),by omega,by omega,zmK hp n _⟩
 have h2:∀ x∈zer p.length::zkO (zex (ov (p.length - 1)) (mkRat 1 n)) 1 n,∃ i:Int,0≤i∧i≤(n:Int)∧x=oc3 p n i:=fun x hx=>by
  rcases List.mem_cons.1 hx with e | e
  ·exact ⟨0,by omega,by omega,by rw [e,zmG hp n]⟩
  ·exact h x e
 refine ⟨hp.pr,fun x hx=>?_,by omega,by omega,fun x hx=>?_,n,fun x hx y hy=>?_⟩
 ·obtain ⟨i,_,_,rfl⟩:=h x hx;exact zmE hp ..
 ·obtain ⟨i,i0,i1,rfl⟩:=h x hx;rw [zmJ hp];have hnp:(0:Rat)<(n:Rat):=Rat.intCast_lt_intCast.2 (show (0:Int)<(n:Int) by omega);have hq:(n:Rat) * ((i:Rat) / (n:Rat))=(i:Rat):=by rw [Rat.mul_comm];exact Rat.div_mul_cancel (zmF hn)
  have q0:(0:Rat)≤(i:Rat) / (n:Rat):=Rat.le_of_mul_le_mul_left (by rw [hq,Rat.mul_zero];exact Rat.intCast_le_intCast.2 i0) hnp;have q1:(i:Rat) / (n:Rat)≤1:=Rat.le_of_mul_le_mul_left (by rw [hq,Rat.mul_one];exact Rat.intCast_le_intCast.2 i1) hnp;generalize (i:Rat) / (n:Rat)=q at *;have e1:((400 * 67108864:Int):Rat)=400 * ((67108864:Int):Rat):=by
   rw [show (400:Rat)=((400:Int):Rat) from rfl,← Rat.intCast_mul]
  have e2:(0:Rat)<((67108864:Int):Rat):=Rat.intCast_lt_intCast.2 (show (0:Int)<67108864 by decide);rw [e1];generalize ((67108864:Int):Rat)=t at *;have m0:=Rat.mul_nonneg q0 (Rat.le_of_lt e2);have m1:=Rat.mul_le_mul_of_nonneg_right q1 (Rat.le_of_lt e2);constructor <;> grind
 ·obtain ⟨i,_,_,rfl⟩:=h2 x hx;obtain ⟨j,_,_,rfl⟩:=h2 y hy;rw [zmH hp];exact .inr ⟨hn,by omega,zmI hp hn _⟩
theorem zmM {p:List Int}(hp:Pw p)(x:I3):∃ A B C:Int,(-8≤A∧A≤8)∧(-16≤B∧B≤16)∧(-8≤C∧C≤8)∧szW p.length x=sz3 p A B C:=by
 have ha:=zlo x.a;have hb:=zlo x.b;have hc:=zlo x.c;have e0:zll x 0=((x.a.tmod 9:Int):Rat):=Rat.mkRat_one _;have e2:zll x 2=((x.c.tmod 9:Int):Rat):=Rat.mkRat_one _;have e1:zll x 1=(((if x.b<0 then x.b.tmod 9 else x.b.tmod 9 * 2):Int):Rat) / 2:=by
  unfold zll dnm;rw [show x.at 1=x.b from rfl];by_cases h:x.b<0
  ·rw [if_pos ⟨rfl,h⟩,if_pos h,Rat.mkRat_eq_div];rfl
  ·rw [if_neg (fun g=>h g.2),if_neg h,Rat.mkRat_one,Rat.intCast_mul,show ((2:Int):Rat)=2 from rfl];grind
 refine ⟨x.a.tmod 9,if x.b<0 then x.b.tmod 9 else x.b.tmod 9 * 2,x.c.tmod 9,by omega,by split <;> omega,by omega,?_⟩
 rcases hp with rfl | rfl
 ·rw [zm3];show [zll x 0,zll x 1]=_;rw [e0,e1]
 ·rw [zm4];show [zll x 0,zll x 1,zll x 2]=_;rw [e0,e1,e2]
theorem zmN {p:List Int}(hp:Pw p)(x:I3){n:Nat}(hn9:n≤9):Lw p 400 (zkO (szW p.length x) 0 n):=by
 obtain ⟨A,B,C,hA,hB,hC,e⟩:=zmM hp x;rw [e];refine zmB hp fun y hy=>?_;unfold zkO at hy;rw [List.mem_map] at hy;obtain ⟨i,hi,rfl⟩:=hy;rw [List.mem_range] at hi;have hk:0≤(0+(i:Int))∧(0+(i:Int))≤8:=by omega
 generalize 0+(i:Int)=k at *;have mb:∀ z b:Int,-b≤z→z≤b→0≤b→-(b * 8)≤z * k∧z * k≤b * 8:=fun z b h1 h2 h3=>by
  have a1:z * k≤b * k:=Int.mul_le_mul_of_nonneg_right h2 hk.1;have a2:b * k≤b * 8:=Int.mul_le_mul_of_nonneg_left hk.2 h3;have a3:-b * k≤z * k:=Int.mul_le_mul_of_nonneg_right h1 hk.1;rw [Int.neg_mul] at a3;omega
 have m1:=mb A 8 hA.1 hA.2 (by omega);have m2:=mb B 16 hB.1 hB.2 (by omega);have m3:=mb C 8 hC.1 hC.2 (by omega);exact ⟨A * k,B * k,C * k,by omega,by omega,by omega,zm8 hp ..⟩
theorem zmO {p:List Int}(hp:Pw p)(xs:Nat→I3)(n:Nat):Lw p 400 ((List.range n).map fun i=>szW p.length (xs i)):=by
 refine zmB hp fun y hy=>?_;rw [List.mem_map] at hy;obtain ⟨i,_,rfl⟩:=hy;obtain ⟨A,B,C,hA,hB,hC,e⟩:=zmM hp (xs i);exact ⟨A,B,C,by omega,by omega,by omega,e⟩
structure Wl where
 three:Bool
 kind:Nat
 num:Nat
 xs:Nat→I3
namespace Wl
def p (a:Wl):List Int:=if a.three then [2,3,5] else [2,3]
def n (a:Wl):Nat:=1+a.num % 9
def sizes (a:Wl):List (List Rat):=if a.kind % 3=0 then zkO (zex (ov (a.p.length - 1)) (mkRat 1 a.n)) 1 a.n else if a.kind % 3=1 then zkO (szW a.p.length (a.xs 0)) 0 a.n else (List.range (min a.n 8)).map fun i=>szW a.p.length (a.xs i)
structure Ok (a:Wl):Prop where
 kind:a.kind<256
 num:a.num<256
 xs:∀ i,(a.xs i).ok
theorem pw (a:Wl):Pw a.p:=by unfold p;split <;> first | exact .inl rfl | exact .inr rfl
theorem n9 (a:Wl):0<a.n∧a.n≤9:=by unfold n;omega
theorem lw (a:Wl):Lw a.p 400 a.sizes:=by
 unfold sizes;split
 ·exact zmL a.pw a.n9.1 a.n9.2
 ·split
  ·exact zmN a.pw _ a.n9.2
  ·exact zmO a.pw _ _
theorem few (a:Wl):a.sizes.length≤9:=by
 have:=a.n9;unfold sizes;split
 ·rw [zkQ];omega
 ·split
  ·rw [zkQ];omega
  ·rw [List.length_map,List.length_range];omega
end Wl
end Go.Proofs.YtebabancfnmfjaaGreatDoor
