/- Plain: the twenty-six bits of the logarithms are right, without any great power being reckoned; a product that is less than another one has the lesser form, but for the last bits. (KEEPALL) Plain: no interval of small exponents over the primes of law 12 comes near zero (tables of remainders that the kernel reckons); so the few bits of a size tell which interval is less. (KEEPALL) (Printed by far.py.) -/
import Derived.Test.YtipkdebkdnbieaaGreatDoorPa13
import Derived.Test.YtipkdebkdnbieaaGreatDoorPa08
import Derived.Test.YtipkdebkdnbieaaGreatDoorPa18
set_option maxRecDepth 100000
namespace Go.Proofs.YtipkdebkdnbieaaGreatDoor
open Go.RowKit Go.Lib
def loS (a:Nat × Nat):Nat × Nat:=((a.1 * a.1) / 2 ^ (Nat.log2 (a.1 * a.1) - 63),2 * a.2+(Nat.log2 (a.1 * a.1) - 63))
def loR (a:Nat × Nat):Nat→Nat × Nat
 | 0=>a
 | n+1=>loS (loR a n)
def upS (a:Nat × Nat):Nat × Nat:=((a.1 * a.1+(2 ^ (Nat.log2 (a.1 * a.1) - 63) - 1)) / 2 ^ (Nat.log2 (a.1 * a.1) - 63),2 * a.2+(Nat.log2 (a.1 * a.1) - 63))
def upR (a:Nat × Nat):Nat→Nat × Nat
 | 0=>a
 | n+1=>upS (upR a n)
theorem zqO (p n:Nat):p ^ 2 ^ (n+1)=p ^ 2 ^ n * p ^ 2 ^ n:=by rw [Nat.pow_succ,Nat.mul_two,Nat.pow_add]
theorem zqP (p:Nat):∀ n,(loR (p,0) n).1 * 2 ^ (loR (p,0) n).2≤p ^ 2 ^ n
 | 0=>by simp [loR]
 | n+1=>by
  have ih:=zqP p n;rw [zqO,loR];generalize p ^ 2 ^ n=P at *;generalize loR (p,0) n=a at *;unfold loS;dsimp only;generalize Nat.log2 (a.1 * a.1) - 63=t;rw [Nat.pow_add,Nat.two_mul,Nat.pow_add];have h1:=Nat.div_mul_le_self (a.1 * a.1) (2 ^ t);generalize a.1 * a.1 / 2 ^ t=q at *;have h2:=Nat.mul_le_mul ih ih;generalize 2 ^ a.2=E at *;generalize 2 ^ t=T at *
  calc q * (E * E * T)=q * T * (E * E):=by rw [Nat.mul_comm (E * E) T,Nat.mul_assoc]
   _≤a.1 * a.1 * (E * E):=Nat.mul_le_mul_right _ h1
   _=a.1 * E * (a.1 * E):=Nat.mul_mul_mul_comm _ _ _ _
   _≤P * P:=h2
theorem zqQ (p:Nat):∀ n,p ^ 2 ^ n≤(upR (p,0) n).1 * 2 ^ (upR (p,0) n).2
 | 0=>by simp [upR]
 | n+1=>by
  have ih:=zqQ p n;rw [zqO,upR];generalize p ^ 2 ^ n=P at *;generalize upR (p,0) n=a at *;unfold upS;dsimp only;generalize Nat.log2 (a.1 * a.1) - 63=t;rw [Nat.pow_add,Nat.two_mul,Nat.pow_add];have hT:0<2 ^ t:=Nat.two_pow_pos t;have h2:=Nat.mul_le_mul ih ih;generalize 2 ^ a.2=E at *;generalize 2 ^ t=T at *;have h1:a.1 * a.1≤(a.1 * a.1+(T - 1)) / T * T:=by
   have e:=Nat.div_add_mod (a.1 * a.1+(T - 1)) T;have l:=Nat.mod_lt (a.1 * a.1+(T - 1)) hT;rw [Nat.mul_comm T] at e;omega
  generalize (a.1 * a.1+(T - 1)) / T=q at *
  calc P * P≤a.1 * E * (a.1 * E):=h2
   _=a.1 * a.1 * (E * E):=Nat.mul_mul_mul_comm _ _ _ _
   _≤q * T * (E * E):=Nat.mul_le_mul_right _ h1
   _=q * (E * E * T):=by rw [Nat.mul_comm (E * E) T,Nat.mul_assoc]
def lgK (p n L:Nat):Bool:=Nat.beq (Nat.log2 (loR (p,0) n).1+(loR (p,0) n).2) L && Nat.beq (Nat.log2 (upR (p,0) n).1+(upR (p,0) n).2) L && Nat.blt 0 (loR (p,0) n).1 && Nat.blt 0 (upR (p,0) n).1
theorem zqR {p n L:Nat}(h:lgK p n L=true):2 ^ L≤p ^ 2 ^ n∧p ^ 2 ^ n≤2 ^ (L+1):=by
 have h1:=zqP p n;have h2:=zqQ p n;unfold lgK at h;generalize loR (p,0) n=a at *;generalize upR (p,0) n=b at *;generalize p ^ 2 ^ n=P at *;simp only [Bool.and_eq_true,Nat.blt_eq] at h;obtain ⟨⟨⟨e1,e2⟩,e3⟩,e4⟩:=h;have g1:=Nat.log2_self_le (n:=a.1) (by omega);have g2:=Nat.lt_log2_self (n:=b.1);constructor
 ·rw [← Nat.eq_of_beq_eq_true e1,Nat.pow_add];exact Nat.le_trans (Nat.mul_le_mul_right _ g1) h1
 ·rw [← Nat.eq_of_beq_eq_true e2,show Nat.log2 b.1+b.2+1=(Nat.log2 b.1+1)+b.2 by omega,Nat.pow_add];exact Nat.le_trans h2 (Nat.mul_le_mul_right _ (Nat.le_of_lt g2))
theorem zqS : lgK 3 26 106365032=true∧lgK 5 26 155821956=true∧lgK 7 26 188398399=true∧lgK 11 26 232158526=true∧lgK 13 26 248332305=true:=by decide +kernel
def LgN (p:Nat):Nat:=if p=2 then 67108864 else if p=3 then 106365032 else if p=7 then 188398399 else if p=11 then 232158526 else if p=13 then 248332305 else 155821956
def EpN (p:Nat):Nat:=if p=2 then 0 else 1
def Six (p:Nat):Prop:=p=2∨p=3∨p=5∨p=7∨p=11∨p=13
theorem zqT {p L E K:Nat}(hp:p=2)(h1:L=K)(h2:E=0):2 ^ L≤p ^ K∧p ^ K≤2 ^ (L+E):=by
 subst hp h1 h2;exact ⟨Nat.le_refl _,Nat.le_refl _⟩
theorem zqU {L E P:Nat}(hE:E=1)(h:2 ^ L≤P∧P≤2 ^ (L+1)):2 ^ L≤P∧P≤2 ^ (L+E):=by
 subst hE;exact h
theorem zqV {p:Nat}(h:Six p)(h2:p ≠ 2):lgK p 26 (LgN p)=true∧EpN p=1:=by
 refine ⟨?_,if_neg h2⟩;obtain ⟨h3,h5,h7,h11,h13⟩:=zqS;rcases h with e | e | e | e | e | e
 ·exact absurd e h2
 ·rw [e];exact h3
 ·rw [e];exact h5
 ·rw [e];exact h7
 ·rw [e];exact h11
 ·rw [e];exact h13
theorem zqW {p:Nat}(h:p=2):LgN p=2 ^ 26∧EpN p=0:=by
 rw [h];decide
theorem zqX {p M:Nat}(hM:M=2 ^ 26)(h:Six p):2 ^ LgN p≤p ^ M∧p ^ M≤2 ^ (LgN p+EpN p):=by
 by_cases h2:p=2
 ·obtain ⟨e1,e2⟩:=zqW h2;exact zqT h2 (e1.trans hM.symm) e2
 ·obtain ⟨h1,e⟩:=zqV h h2;have h3:=zqR h1;rw [← hM] at h3;exact zqU e h3
def sN (f:Nat→Nat):Nat→Nat
 | 0=>0
 | k+1=>sN f k+f k
theorem zqY {p:List Int}{a:Nat→Nat}{M:Nat}{L:Nat→Nat}:∀ {k:Nat},(∀ i,i<k→2 ^ L i≤(zas p i).toNat ^ M)→2 ^ sN (fun i=>a i * L i) k≤prN p a k ^ M
 | 0,_=>by
  show 2 ^ 0≤1 ^ M;rw [Nat.one_pow];exact Nat.le_refl _
 | k+1,h=>by
  have ih:=zqY (a:=a) (k:=k) fun i hi=>h i (by omega);show 2 ^ (sN (fun i=>a i * L i) k+a k * L k)≤(prN p a k * (zas p k).toNat ^ a k) ^ M;rw [Nat.pow_add,Nat.mul_pow];refine Nat.mul_le_mul ih ?_;rw [Nat.mul_comm,Nat.pow_mul,← Nat.pow_mul _ (a k) M,Nat.mul_comm (a k) M,Nat.pow_mul];exact Nat.pow_le_pow_left (h k (by omega)) _
theorem zqZ {p:List Int}{a:Nat→Nat}{M:Nat}{L:Nat→Nat}:∀ {k:Nat},(∀ i,i<k→(zas p i).toNat ^ M≤2 ^ L i)→prN p a k ^ M≤2 ^ sN (fun i=>a i * L i) k
 | 0,_=>by
  show 1 ^ M≤2 ^ 0;rw [Nat.one_pow];exact Nat.le_refl _
 | k+1,h=>by
  have ih:=zqZ (a:=a) (k:=k) fun i hi=>h i (by omega);show (prN p a k * (zas p k).toNat ^ a k) ^ M≤2 ^ (sN (fun i=>a i * L i) k+a k * L k);rw [Nat.pow_add,Nat.mul_pow];refine Nat.mul_le_mul ih ?_;rw [Nat.mul_comm (a k) (L k),Nat.pow_mul,← Nat.pow_mul _ (a k) M,Nat.mul_comm (a k) M,Nat.pow_mul];exact Nat.pow_le_pow_left (h k (by omega)) _
theorem zra {p:List Int}{a b:Nat→Nat}{k:Nat}(hp:∀ i,i<k→Six (zas p i).toNat)(h:prN p a k<prN p b k) :
  sN (fun i=>a i * LgN (zas p i).toNat) k<sN (fun i=>b i * (LgN (zas p i).toNat+EpN (zas p i).toNat)) k:=by
 obtain ⟨M,hM⟩:∃ M,M=2 ^ 26:=⟨_,rfl⟩;have h0:M ≠ 0:=by rw [hM];decide
 have h1:=zqY (p:=p) (a:=a) (k:=k) (M:=M) (L:=fun i=>LgN (zas p i).toNat) fun i hi=>(zqX hM (hp i hi)).1;have h2:=zqZ (p:=p) (a:=b) (k:=k) (M:=M) (L:=fun i=>LgN (zas p i).toNat+EpN (zas p i).toNat) fun i hi=>(zqX hM (hp i hi)).2;have h3:=Nat.pow_lt_pow_left h h0;exact (Nat.pow_lt_pow_iff_right (by decide)).1 (Nat.lt_of_le_of_lt h1 (Nat.lt_of_lt_of_le h3 h2))
def rmY (L0 B y:Nat):Bool:=Nat.blt B (y % L0) && Nat.blt (y % L0) (L0 - B)
def rmR (L0 B L3:Nat)(c:Bool):Nat→Nat→Bool
 | 0,_=>true
 | n+1,y=>(rmY L0 B y || (c && Nat.beq n 18)) && rmR L0 B L3 c n (y+L3)
def rmP (L0 B L2 L3:Nat)(c:Bool):Nat→Nat→Bool
 | 0,_=>true
 | n+1,y=>rmR L0 B L3 (c && Nat.beq n 18) 37 y && rmP L0 B L2 L3 c n (y+L2)
def rmQ (L0 B L1 L2 L3:Nat):Nat→Nat→Bool
 | 0,_=>true
 | n+1,y=>rmP L0 B L2 L3 (Nat.beq n 18) 37 y && rmQ L0 B L1 L2 L3 n (y+L1)
def rm0 (L0 L1 L2 L3:Nat):Nat:=L0 * (18 * (L1+L2+L3) / L0+1) - 18 * (L1+L2+L3)
theorem zrb {L0 B L3:Nat}{c:Bool}:∀ {N y:Nat},rmR L0 B L3 c N y=true→∀ i,i<N→rmY L0 B (y+i * L3)=true∨(c=true∧i+19=N)
 | 0,_,_,i,hi=>by omega
 | n+1,y,h,i,hi=>by
  unfold rmR at h;simp only [Bool.and_eq_true,Bool.or_eq_true] at h;obtain ⟨h1,h2⟩:=h
  cases i with
  | zero =>
   rcases h1 with q | ⟨q1,q2⟩
   ·left;rwa [Nat.zero_mul,Nat.add_zero]
   ·right;exact ⟨q1,by have:=Nat.eq_of_beq_eq_true q2;omega⟩
  | succ j =>
   rcases zrb h2 j (by omega) with q | ⟨q1,q2⟩
   ·left;rwa [Nat.succ_mul,Nat.add_comm (j * L3),← Nat.add_assoc]
   ·right;exact ⟨q1,by omega⟩
theorem zrc {L0 B L2 L3:Nat}{c:Bool}:∀ {N y:Nat},rmP L0 B L2 L3 c N y=true→∀ i,i<N→∃ d,rmR L0 B L3 d 37 (y+i * L2)=true∧(d=true→c=true∧i+19=N)
 | 0,_,_,i,hi=>by omega
 | n+1,y,h,i,hi=>by
  unfold rmP at h;simp only [Bool.and_eq_true] at h;obtain ⟨h1,h2⟩:=h
  cases i with
  | zero =>
   refine ⟨_,by rw [Nat.zero_mul,Nat.add_zero];exact h1,fun q=>?_⟩
   simp only [Bool.and_eq_true] at q
   exact ⟨q.1,by have:=Nat.eq_of_beq_eq_true q.2;omega⟩
  | succ j =>
   obtain ⟨d,q1,q2⟩:=zrc h2 j (by omega)
   exact ⟨d,by rwa [Nat.succ_mul,Nat.add_comm (j * L2),← Nat.add_assoc],fun q=>⟨(q2 q).1,by have:=(q2 q).2;omega⟩⟩
theorem zrd {L0 B L1 L2 L3:Nat}:∀ {N y:Nat},rmQ L0 B L1 L2 L3 N y=true→∀ i,i<N→∃ d,rmP L0 B L2 L3 d 37 (y+i * L1)=true∧(d=true→i+19=N)
 | 0,_,_,i,hi=>by omega
 | n+1,y,h,i,hi=>by
  unfold rmQ at h;simp only [Bool.and_eq_true] at h;obtain ⟨h1,h2⟩:=h
  cases i with
  | zero=>exact ⟨_,by rw [Nat.zero_mul,Nat.add_zero];exact h1,fun q=>by have:=Nat.eq_of_beq_eq_true q;omega⟩
  | succ j =>
   obtain ⟨d,q1,q2⟩:=zrd h2 j (by omega)
   exact ⟨d,by rwa [Nat.succ_mul,Nat.add_comm (j * L1),← Nat.add_assoc],fun q=>by have:=q2 q;omega⟩
theorem zre {L0 B L1 L2 L3 y:Nat}(h:rmQ L0 B L1 L2 L3 37 y=true){i j k:Nat}(hi:i<37)(hj:j<37)(hk:k<37):rmY L0 B (y+i * L1+j * L2+k * L3)=true∨(i=18∧j=18∧k=18):=by
 obtain ⟨d,h1,h2⟩:=zrd h i hi;obtain ⟨c,h3,h4⟩:=zrc h1 j hj;rcases zrb h3 k hk with q | ⟨q1,q2⟩
 ·exact .inl q
 ·obtain ⟨g1,g2⟩:=h4 q1;have g3:=h2 g1;exact .inr ⟨by omega,by omega,by omega⟩
theorem zrf {L0 B L1 L2 L3:Nat}(h0:0<L0)(hB:B<L0)(h:rmQ L0 B L1 L2 L3 37 (rm0 L0 L1 L2 L3)=true)(e0 e1 e2 e3:Int)(h1:-18≤e1∧e1≤18)(h2:-18≤e2∧e2≤18)(h3:-18≤e3∧e3≤18)(hn:¬ (e0=0∧e1=0∧e2=0∧e3=0)) :
  (B:Int)<e0 * (L0:Int)+e1 * (L1:Int)+e2 * (L2:Int)+e3 * (L3:Int)∨e0 * (L0:Int)+e1 * (L1:Int)+e2 * (L2:Int)+e3 * (L3:Int) < -(B:Int):=by
 have hm:∀ m:Int,(0≤m→0≤m * (L0:Int))∧(m≤-1→m * (L0:Int)≤-(L0:Int))∧(1≤m→(L0:Int)≤m * (L0:Int)):=fun m=>by
  refine ⟨fun q=>Int.mul_nonneg q (by omega),fun q=>?_,fun q=>?_⟩
  ·have:=Int.mul_le_mul_of_nonneg_right q (show (0:Int)≤(L0:Int) by omega);omega
  ·have:=Int.mul_le_mul_of_nonneg_right q (show (0:Int)≤(L0:Int) by omega);omega
 rcases zre h (i:=(e1+18).toNat) (j:=(e2+18).toNat) (k:=(e3+18).toNat) (by omega) (by omega) (by omega) with q | ⟨g1,g2,g3⟩
 ·unfold rmY at q;simp only [Bool.and_eq_true,Nat.blt_eq] at q;obtain ⟨q1,q2⟩:=q;have hy:((rm0 L0 L1 L2 L3+(e1+18).toNat * L1+(e2+18).toNat * L2+(e3+18).toNat * L3:Nat):Int)=e1 * (L1:Int)+e2 * (L2:Int)+e3 * (L3:Int)+(L0:Int) * ((18 * (L1+L2+L3) / L0+1:Nat):Int):=by
   have hc:rm0 L0 L1 L2 L3+18 * (L1+L2+L3)=L0 * (18 * (L1+L2+L3) / L0+1):=by
    unfold rm0;have e:=Nat.div_add_mod (18 * (L1+L2+L3)) L0;have l:=Nat.mod_lt (18 * (L1+L2+L3)) h0;rw [Nat.mul_add,Nat.mul_one];omega
   have hc2:((rm0 L0 L1 L2 L3:Nat):Int)=(L0:Int) * ((18 * (L1+L2+L3) / L0+1:Nat):Int) - 18 * ((L1:Int)+L2+L3):=by
    have:=congrArg (fun n:Nat=>(n:Int)) hc;simp only [Int.natCast_add,Int.natCast_mul] at this ⊢;omega
   simp only [Int.natCast_add,Int.natCast_mul] at hc2 ⊢;rw [hc2,show (((e1+18).toNat:Nat):Int)=e1+18 by omega,show (((e2+18).toNat:Nat):Int)=e2+18 by omega,show (((e3+18).toNat:Nat):Int)=e3+18 by omega,Int.add_mul,Int.add_mul,Int.add_mul];omega
  generalize rm0 L0 L1 L2 L3+(e1+18).toNat * L1+(e2+18).toNat * L2+(e3+18).toNat * L3=Y at *;generalize ((18 * (L1+L2+L3) / L0+1:Nat):Int)=z at *;have hd:(Y:Int)=((Y % L0:Nat):Int)+((Y / L0:Nat):Int) * (L0:Int):=by
   have e:=Nat.div_add_mod Y L0;have:=congrArg (fun n:Nat=>(n:Int)) e;simp only [Int.natCast_add,Int.natCast_mul] at this;rw [Int.mul_comm];omega
  have hs:e0 * (L0:Int)+e1 * (L1:Int)+e2 * (L2:Int)+e3 * (L3:Int)=((Y % L0:Nat):Int)+(e0+((Y / L0:Nat):Int) - z) * (L0:Int):=by
   rw [Int.sub_mul,Int.add_mul,Int.mul_comm z];omega
  rw [hs];obtain ⟨m1,m2,_⟩:=hm (e0+((Y / L0:Nat):Int) - z);generalize e0+((Y / L0:Nat):Int) - z=m at *;generalize Y % L0=r at *;rcases Int.lt_or_le m 0 with g | g
  ·right;have:=m2 (by omega);omega
  ·left;have:=m1 g;omega
 ·obtain rfl:e1=0:=by omega
  obtain rfl:e2=0:=by omega
  obtain rfl:e3=0:=by omega
  obtain ⟨_,m2,m3⟩:=hm e0;rw [Int.zero_mul,Int.zero_mul,Int.zero_mul];rcases (show e0≤-1∨1≤e0 by omega) with g | g
  ·right;have:=m2 g;omega
  ·left;have:=m3 g;omega
theorem zrg : rmQ 67108864 60 106365032 155821956 188398399 37 (rm0 67108864 106365032 155821956 188398399)=true:=by decide +kernel
theorem zrh : rmQ 67108864 60 106365032 155821956 232158526 37 (rm0 67108864 106365032 155821956 232158526)=true:=by decide +kernel
theorem zri : rmQ 67108864 60 106365032 188398399 248332305 37 (rm0 67108864 106365032 188398399 248332305)=true:=by decide +kernel
theorem zrj : rmQ 106365032 300 155821956 188398399 248332305 37 (rm0 106365032 155821956 188398399 248332305)=true:=by decide +kernel
def zrk (x y:List Int):List Int:=List.zipWith (fun a b=>a - b) x y
theorem zrl {p x y:List Int}(hx:x.length=p.length)(hy:y.length=p.length)(h:zgZ p x y<0):prN p (fun i=>zhz (zas x i)+zh0 (zas y i)) p.length<prN p (fun i=>zhz (zas y i)+zh0 (zas x i)) p.length:=by
 unfold zgZ at h;have h2:=(zhP ((zgy p x * zgz p y:Nat):Int) ((zgy p y * zgz p x:Nat):Int)).1 h;unfold zgy zgz at h2;rw [hx,hy,zh2,zh3,zh2,zh3,zh4,zh4] at h2;omega
theorem zrm (a b:Int):((zhz a+zh0 b:Nat):Int) - ((zhz b+zh0 a:Nat):Int)=a - b∧∀ m:Int,-m≤a∧a≤m→-m≤b∧b≤m→((zhz b+zh0 a:Nat):Int)≤2 * m∧-(2 * m)≤a - b∧a - b≤2 * m∧((a - b).natAbs:Int)≤2 * m:=by
 unfold zhz zh0;refine ⟨by (repeat' split) <;> omega,fun m h1 h2=>⟨by (repeat' split) <;> omega,by omega,by omega,by omega⟩⟩
def zrn (p x y:List Int):Prop:=zeO (p.zip (zrk x y))<0∧zeP (p.zip (zrk x y)) < -zeO (p.zip (zrk x y))
theorem zro (x0 x1 x2 y0 y1 y2:Int)(hx0:-101≤x0∧x0≤101)(hy0:-101≤y0∧y0≤101)(hx1:-9≤x1∧x1≤9)(hx2:-9≤x2∧x2≤9)(hy1:-9≤y1∧y1≤9)(hy2:-9≤y2∧y2≤9)(h:zgZ [2,3,5] [x0,x1,x2] [y0,y1,y2]<0):zrn [2,3,5] [x0,x1,x2] [y0,y1,y2]:=by
 have h1:=zra (p:=[2,3,5]) (k:=3) (fun i hi=>by
  have:∀ i,i<3→Six (zas [2,3,5] i).toNat:=by unfold Six;decide
  exact this i hi) (zrl (p:=[2,3,5]) (x:=[x0,x1,x2]) (y:=[y0,y1,y2]) rfl rfl h)
 obtain ⟨d0,f0⟩:=zrm x0 y0;obtain ⟨j0,k0,l0,m0⟩:=f0 101 hx0 hy0;obtain ⟨d1,f1⟩:=zrm x1 y1;obtain ⟨j1,k1,l1,m1⟩:=f1 9 hx1 hy1;obtain ⟨d2,f2⟩:=zrm x2 y2;obtain ⟨j2,k2,l2,m2⟩:=f2 9 hx2 hy2;have hne:¬ (x0 - y0=0∧x1 - y1=0∧x2 - y2=0):=fun q=>by
  have e:zgZ [2,3,5] [x0,x1,x2] [y0,y1,y2]=0:=by
   obtain rfl:x0=y0:=by omega
   obtain rfl:x1=y1:=by omega
   obtain rfl:x2=y2:=by omega
   have:=zhc [2,3,5] [x0,x1,x2] [x0,x1,x2];omega
  omega
 have h2:=zrf (by decide) (by decide) zrg (x0 - y0) (x1 - y1) (x2 - y2) 0 (by omega) (by omega) (by omega) (fun q=>hne (by omega));simp only [sN,(show zas [x0,x1,x2] 0=x0 from rfl),(show zas [x0,x1,x2] 1=x1 from rfl),(show zas [x0,x1,x2] 2=x2 from rfl),(show zas [y0,y1,y2] 0=y0 from rfl),(show zas [y0,y1,y2] 1=y1 from rfl),(show zas [y0,y1,y2] 2=y2 from rfl),(show LgN (zas [2,3,5] 0).toNat=67108864 by decide +kernel),(show EpN (zas [2,3,5] 0).toNat=0 by decide +kernel),(show LgN (zas [2,3,5] 1).toNat=106365032 by decide +kernel),(show EpN (zas [2,3,5] 1).toNat=1 by decide +kernel),(show LgN (zas [2,3,5] 2).toNat=155821956 by decide +kernel),(show EpN (zas [2,3,5] 2).toNat=1 by decide +kernel)] at h1;have e1:zeO (List.zip [2,3,5] (zrk [x0,x1,x2] [y0,y1,y2]))=(x0 - y0) * 67108864+((x1 - y1) * 106365032+((x2 - y2) * 155821956+(0))):=rfl;have e2:zeP (List.zip [2,3,5] (zrk [x0,x1,x2] [y0,y1,y2]))=0+(((x1 - y1).natAbs:Int)+(((x2 - y2).natAbs:Int)+(0))):=rfl;unfold zrn;rw [e1,e2];clear h e1 e2 hne;generalize ((x0 - y0).natAbs:Int)=n0 at *;generalize x0 - y0=u0 at *;generalize zhz x0+zh0 y0=a0 at *;generalize zhz y0+zh0 x0=b0 at *;generalize ((x1 - y1).natAbs:Int)=n1 at *;generalize x1 - y1=u1 at *;generalize zhz x1+zh0 y1=a1 at *;generalize zhz y1+zh0 x1=b1 at *;generalize ((x2 - y2).natAbs:Int)=n2 at *;generalize x2 - y2=u2 at *;generalize zhz x2+zh0 y2=a2 at *;generalize zhz y2+zh0 x2=b2 at *;clear f0 hx0 hy0 f1 hx1 hy1 f2 hx2 hy2;omega
theorem zrp (x0 x1 x2 x3 y0 y1 y2 y3:Int)(hx0:-101≤x0∧x0≤101)(hy0:-101≤y0∧y0≤101)(hx1:-9≤x1∧x1≤9)(hx2:-9≤x2∧x2≤9)(hx3:-9≤x3∧x3≤9)(hy1:-9≤y1∧y1≤9)(hy2:-9≤y2∧y2≤9)(hy3:-9≤y3∧y3≤9)(h:zgZ [2,3,5,7] [x0,x1,x2,x3] [y0,y1,y2,y3]<0):zrn [2,3,5,7] [x0,x1,x2,x3] [y0,y1,y2,y3]:=by
 have h1:=zra (p:=[2,3,5,7]) (k:=4) (fun i hi=>by
  have:∀ i,i<4→Six (zas [2,3,5,7] i).toNat:=by unfold Six;decide
  exact this i hi) (zrl (p:=[2,3,5,7]) (x:=[x0,x1,x2,x3]) (y:=[y0,y1,y2,y3]) rfl rfl h)
 obtain ⟨d0,f0⟩:=zrm x0 y0;obtain ⟨j0,k0,l0,m0⟩:=f0 101 hx0 hy0;obtain ⟨d1,f1⟩:=zrm x1 y1;obtain ⟨j1,k1,l1,m1⟩:=f1 9 hx1 hy1;obtain ⟨d2,f2⟩:=zrm x2 y2;obtain ⟨j2,k2,l2,m2⟩:=f2 9 hx2 hy2;obtain ⟨d3,f3⟩:=zrm x3 y3;obtain ⟨j3,k3,l3,m3⟩:=f3 9 hx3 hy3;have hne:¬ (x0 - y0=0∧x1 - y1=0∧x2 - y2=0∧x3 - y3=0):=fun q=>by
  have e:zgZ [2,3,5,7] [x0,x1,x2,x3] [y0,y1,y2,y3]=0:=by
   obtain rfl:x0=y0:=by omega
   obtain rfl:x1=y1:=by omega
   obtain rfl:x2=y2:=by omega
   obtain rfl:x3=y3:=by omega
   have:=zhc [2,3,5,7] [x0,x1,x2,x3] [x0,x1,x2,x3];omega
  omega
 have h2:=zrf (by decide) (by decide) zrg (x0 - y0) (x1 - y1) (x2 - y2) (x3 - y3) (by omega) (by omega) (by omega) (fun q=>hne (by omega));simp only [sN,(show zas [x0,x1,x2,x3] 0=x0 from rfl),(show zas [x0,x1,x2,x3] 1=x1 from rfl),(show zas [x0,x1,x2,x3] 2=x2 from rfl),(show zas [x0,x1,x2,x3] 3=x3 from rfl),(show zas [y0,y1,y2,y3] 0=y0 from rfl),(show zas [y0,y1,y2,y3] 1=y1 from rfl),(show zas [y0,y1,y2,y3] 2=y2 from rfl),(show zas [y0,y1,y2,y3] 3=y3 from rfl),(show LgN (zas [2,3,5,7] 0).toNat=67108864 by decide +kernel),(show EpN (zas [2,3,5,7] 0).toNat=0 by decide +kernel),(show LgN (zas [2,3,5,7] 1).toNat=106365032 by decide +kernel),(show EpN (zas [2,3,5,7] 1).toNat=1 by decide +kernel),(show LgN (zas [2,3,5,7] 2).toNat=155821956 by decide +kernel),(show EpN (zas [2,3,5,7] 2).toNat=1 by decide +kernel),(show LgN (zas [2,3,5,7] 3).toNat=188398399 by decide +kernel),(show EpN (zas [2,3,5,7] 3).toNat=1 by decide +kernel)] at h1;have e1:zeO (List.zip [2,3,5,7] (zrk [x0,x1,x2,x3] [y0,y1,y2,y3]))=(x0 - y0) * 67108864+((x1 - y1) * 106365032+((x2 - y2) * 155821956+((x3 - y3) * 188398399+(0)))):=rfl;have e2:zeP (List.zip [2,3,5,7] (zrk [x0,x1,x2,x3] [y0,y1,y2,y3]))=0+(((x1 - y1).natAbs:Int)+(((x2 - y2).natAbs:Int)+(((x3 - y3).natAbs:Int)+(0)))):=rfl;unfold zrn;rw [e1,e2];clear h e1 e2 hne;generalize ((x0 - y0).natAbs:Int)=n0 at *;generalize x0 - y0=u0 at *;generalize zhz x0+zh0 y0=a0 at *;generalize zhz y0+zh0 x0=b0 at *;generalize ((x1 - y1).natAbs:Int)=n1 at *;generalize x1 - y1=u1 at *;generalize zhz x1+zh0 y1=a1 at *;generalize zhz y1+zh0 x1=b1 at *;generalize ((x2 - y2).natAbs:Int)=n2 at *;generalize x2 - y2=u2 at *;generalize zhz x2+zh0 y2=a2 at *;generalize zhz y2+zh0 x2=b2 at *;generalize ((x3 - y3).natAbs:Int)=n3 at *;generalize x3 - y3=u3 at *;generalize zhz x3+zh0 y3=a3 at *;generalize zhz y3+zh0 x3=b3 at *;clear f0 hx0 hy0 f1 hx1 hy1 f2 hx2 hy2 f3 hx3 hy3;omega
theorem zrq (x0 x1 y0 y1:Int)(hx0:-101≤x0∧x0≤101)(hy0:-101≤y0∧y0≤101)(hx1:-9≤x1∧x1≤9)(hy1:-9≤y1∧y1≤9)(h:zgZ [2,3] [x0,x1] [y0,y1]<0):zrn [2,3] [x0,x1] [y0,y1]:=by
 have h1:=zra (p:=[2,3]) (k:=2) (fun i hi=>by
  have:∀ i,i<2→Six (zas [2,3] i).toNat:=by unfold Six;decide
  exact this i hi) (zrl (p:=[2,3]) (x:=[x0,x1]) (y:=[y0,y1]) rfl rfl h)
 obtain ⟨d0,f0⟩:=zrm x0 y0;obtain ⟨j0,k0,l0,m0⟩:=f0 101 hx0 hy0;obtain ⟨d1,f1⟩:=zrm x1 y1;obtain ⟨j1,k1,l1,m1⟩:=f1 9 hx1 hy1;have hne:¬ (x0 - y0=0∧x1 - y1=0):=fun q=>by
  have e:zgZ [2,3] [x0,x1] [y0,y1]=0:=by
   obtain rfl:x0=y0:=by omega
   obtain rfl:x1=y1:=by omega
   have:=zhc [2,3] [x0,x1] [x0,x1];omega
  omega
 have h2:=zrf (by decide) (by decide) zrg (x0 - y0) (x1 - y1) 0 0 (by omega) (by omega) (by omega) (fun q=>hne (by omega));simp only [sN,(show zas [x0,x1] 0=x0 from rfl),(show zas [x0,x1] 1=x1 from rfl),(show zas [y0,y1] 0=y0 from rfl),(show zas [y0,y1] 1=y1 from rfl),(show LgN (zas [2,3] 0).toNat=67108864 by decide +kernel),(show EpN (zas [2,3] 0).toNat=0 by decide +kernel),(show LgN (zas [2,3] 1).toNat=106365032 by decide +kernel),(show EpN (zas [2,3] 1).toNat=1 by decide +kernel)] at h1;have e1:zeO (List.zip [2,3] (zrk [x0,x1] [y0,y1]))=(x0 - y0) * 67108864+((x1 - y1) * 106365032+(0)):=rfl;have e2:zeP (List.zip [2,3] (zrk [x0,x1] [y0,y1]))=0+(((x1 - y1).natAbs:Int)+(0)):=rfl;unfold zrn;rw [e1,e2];clear h e1 e2 hne;generalize ((x0 - y0).natAbs:Int)=n0 at *;generalize x0 - y0=u0 at *;generalize zhz x0+zh0 y0=a0 at *;generalize zhz y0+zh0 x0=b0 at *;generalize ((x1 - y1).natAbs:Int)=n1 at *;generalize x1 - y1=u1 at *;generalize zhz x1+zh0 y1=a1 at *;generalize zhz y1+zh0 x1=b1 at *;clear f0 hx0 hy0 f1 hx1 hy1;omega
theorem zrr (x0 x1 x2 y0 y1 y2:Int)(hx0:-101≤x0∧x0≤101)(hy0:-101≤y0∧y0≤101)(hx1:-9≤x1∧x1≤9)(hx2:-9≤x2∧x2≤9)(hy1:-9≤y1∧y1≤9)(hy2:-9≤y2∧y2≤9)(h:zgZ [2,3,7] [x0,x1,x2] [y0,y1,y2]<0):zrn [2,3,7] [x0,x1,x2] [y0,y1,y2]:=by
 have h1:=zra (p:=[2,3,7]) (k:=3) (fun i hi=>by
  have:∀ i,i<3→Six (zas [2,3,7] i).toNat:=by unfold Six;decide
  exact this i hi) (zrl (p:=[2,3,7]) (x:=[x0,x1,x2]) (y:=[y0,y1,y2]) rfl rfl h)
 obtain ⟨d0,f0⟩:=zrm x0 y0;obtain ⟨j0,k0,l0,m0⟩:=f0 101 hx0 hy0;obtain ⟨d1,f1⟩:=zrm x1 y1;obtain ⟨j1,k1,l1,m1⟩:=f1 9 hx1 hy1;obtain ⟨d2,f2⟩:=zrm x2 y2;obtain ⟨j2,k2,l2,m2⟩:=f2 9 hx2 hy2;have hne:¬ (x0 - y0=0∧x1 - y1=0∧x2 - y2=0):=fun q=>by
  have e:zgZ [2,3,7] [x0,x1,x2] [y0,y1,y2]=0:=by
   obtain rfl:x0=y0:=by omega
   obtain rfl:x1=y1:=by omega
   obtain rfl:x2=y2:=by omega
   have:=zhc [2,3,7] [x0,x1,x2] [x0,x1,x2];omega
  omega
 have h2:=zrf (by decide) (by decide) zrg (x0 - y0) (x1 - y1) 0 (x2 - y2) (by omega) (by omega) (by omega) (fun q=>hne (by omega));simp only [sN,(show zas [x0,x1,x2] 0=x0 from rfl),(show zas [x0,x1,x2] 1=x1 from rfl),(show zas [x0,x1,x2] 2=x2 from rfl),(show zas [y0,y1,y2] 0=y0 from rfl),(show zas [y0,y1,y2] 1=y1 from rfl),(show zas [y0,y1,y2] 2=y2 from rfl),(show LgN (zas [2,3,7] 0).toNat=67108864 by decide +kernel),(show EpN (zas [2,3,7] 0).toNat=0 by decide +kernel),(show LgN (zas [2,3,7] 1).toNat=106365032 by decide +kernel),(show EpN (zas [2,3,7] 1).toNat=1 by decide +kernel),(show LgN (zas [2,3,7] 2).toNat=188398399 by decide +kernel),(show EpN (zas [2,3,7] 2).toNat=1 by decide +kernel)] at h1;have e1:zeO (List.zip [2,3,7] (zrk [x0,x1,x2] [y0,y1,y2]))=(x0 - y0) * 67108864+((x1 - y1) * 106365032+((x2 - y2) * 188398399+(0))):=rfl;have e2:zeP (List.zip [2,3,7] (zrk [x0,x1,x2] [y0,y1,y2]))=0+(((x1 - y1).natAbs:Int)+(((x2 - y2).natAbs:Int)+(0))):=rfl;unfold zrn;rw [e1,e2];clear h e1 e2 hne;generalize ((x0 - y0).natAbs:Int)=n0 at *;generalize x0 - y0=u0 at *;generalize zhz x0+zh0 y0=a0 at *;generalize zhz y0+zh0 x0=b0 at *;generalize ((x1 - y1).natAbs:Int)=n1 at *;generalize x1 - y1=u1 at *;generalize zhz x1+zh0 y1=a1 at *;generalize zhz y1+zh0 x1=b1 at *;generalize ((x2 - y2).natAbs:Int)=n2 at *;generalize x2 - y2=u2 at *;generalize zhz x2+zh0 y2=a2 at *;generalize zhz y2+zh0 x2=b2 at *;clear f0 hx0 hy0 f1 hx1 hy1 f2 hx2 hy2;omega
theorem zrs (x0 x1 x2 y0 y1 y2:Int)(hx0:-101≤x0∧x0≤101)(hy0:-101≤y0∧y0≤101)(hx1:-9≤x1∧x1≤9)(hx2:-9≤x2∧x2≤9)(hy1:-9≤y1∧y1≤9)(hy2:-9≤y2∧y2≤9)(h:zgZ [2,5,7] [x0,x1,x2] [y0,y1,y2]<0):zrn [2,5,7] [x0,x1,x2] [y0,y1,y2]:=by
 have h1:=zra (p:=[2,5,7]) (k:=3) (fun i hi=>by
  have:∀ i,i<3→Six (zas [2,5,7] i).toNat:=by unfold Six;decide
  exact this i hi) (zrl (p:=[2,5,7]) (x:=[x0,x1,x2]) (y:=[y0,y1,y2]) rfl rfl h)
 obtain ⟨d0,f0⟩:=zrm x0 y0;obtain ⟨j0,k0,l0,m0⟩:=f0 101 hx0 hy0;obtain ⟨d1,f1⟩:=zrm x1 y1;obtain ⟨j1,k1,l1,m1⟩:=f1 9 hx1 hy1;obtain ⟨d2,f2⟩:=zrm x2 y2;obtain ⟨j2,k2,l2,m2⟩:=f2 9 hx2 hy2;have hne:¬ (x0 - y0=0∧x1 - y1=0∧x2 - y2=0):=fun q=>by
  have e:zgZ [2,5,7] [x0,x1,x2] [y0,y1,y2]=0:=by
   obtain rfl:x0=y0:=by omega
   obtain rfl:x1=y1:=by omega
   obtain rfl:x2=y2:=by omega
   have:=zhc [2,5,7] [x0,x1,x2] [x0,x1,x2];omega
  omega
 have h2:=zrf (by decide) (by decide) zrg (x0 - y0) 0 (x1 - y1) (x2 - y2) (by omega) (by omega) (by omega) (fun q=>hne (by omega));simp only [sN,(show zas [x0,x1,x2] 0=x0 from rfl),(show zas [x0,x1,x2] 1=x1 from rfl),(show zas [x0,x1,x2] 2=x2 from rfl),(show zas [y0,y1,y2] 0=y0 from rfl),(show zas [y0,y1,y2] 1=y1 from rfl),(show zas [y0,y1,y2] 2=y2 from rfl),(show LgN (zas [2,5,7] 0).toNat=67108864 by decide +kernel),(show EpN (zas [2,5,7] 0).toNat=0 by decide +kernel),(show LgN (zas [2,5,7] 1).toNat=155821956 by decide +kernel),(show EpN (zas [2,5,7] 1).toNat=1 by decide +kernel),(show LgN (zas [2,5,7] 2).toNat=188398399 by decide +kernel),(show EpN (zas [2,5,7] 2).toNat=1 by decide +kernel)] at h1;have e1:zeO (List.zip [2,5,7] (zrk [x0,x1,x2] [y0,y1,y2]))=(x0 - y0) * 67108864+((x1 - y1) * 155821956+((x2 - y2) * 188398399+(0))):=rfl;have e2:zeP (List.zip [2,5,7] (zrk [x0,x1,x2] [y0,y1,y2]))=0+(((x1 - y1).natAbs:Int)+(((x2 - y2).natAbs:Int)+(0))):=rfl;unfold zrn;rw [e1,e2];clear h e1 e2 hne;generalize ((x0 - y0).natAbs:Int)=n0 at *;generalize x0 - y0=u0 at *;generalize zhz x0+zh0 y0=a0 at *;generalize zhz y0+zh0 x0=b0 at *;generalize ((x1 - y1).natAbs:Int)=n1 at *;generalize x1 - y1=u1 at *;generalize zhz x1+zh0 y1=a1 at *;generalize zhz y1+zh0 x1=b1 at *;generalize ((x2 - y2).natAbs:Int)=n2 at *;generalize x2 - y2=u2 at *;generalize zhz x2+zh0 y2=a2 at *;generalize zhz y2+zh0 x2=b2 at *;clear f0 hx0 hy0 f1 hx1 hy1 f2 hx2 hy2;omega
theorem zrt (x0 x1 x2 y0 y1 y2:Int)(hx0:-101≤x0∧x0≤101)(hy0:-101≤y0∧y0≤101)(hx1:-9≤x1∧x1≤9)(hx2:-9≤x2∧x2≤9)(hy1:-9≤y1∧y1≤9)(hy2:-9≤y2∧y2≤9)(h:zgZ [3,5,7] [x0,x1,x2] [y0,y1,y2]<0):zrn [3,5,7] [x0,x1,x2] [y0,y1,y2]:=by
 have h1:=zra (p:=[3,5,7]) (k:=3) (fun i hi=>by
  have:∀ i,i<3→Six (zas [3,5,7] i).toNat:=by unfold Six;decide
  exact this i hi) (zrl (p:=[3,5,7]) (x:=[x0,x1,x2]) (y:=[y0,y1,y2]) rfl rfl h)
 obtain ⟨d0,f0⟩:=zrm x0 y0;obtain ⟨j0,k0,l0,m0⟩:=f0 101 hx0 hy0;obtain ⟨d1,f1⟩:=zrm x1 y1;obtain ⟨j1,k1,l1,m1⟩:=f1 9 hx1 hy1;obtain ⟨d2,f2⟩:=zrm x2 y2;obtain ⟨j2,k2,l2,m2⟩:=f2 9 hx2 hy2;have hne:¬ (x0 - y0=0∧x1 - y1=0∧x2 - y2=0):=fun q=>by
  have e:zgZ [3,5,7] [x0,x1,x2] [y0,y1,y2]=0:=by
   obtain rfl:x0=y0:=by omega
   obtain rfl:x1=y1:=by omega
   obtain rfl:x2=y2:=by omega
   have:=zhc [3,5,7] [x0,x1,x2] [x0,x1,x2];omega
  omega
 have h2:=zrf (by decide) (by decide) zrj (x0 - y0) (x1 - y1) (x2 - y2) 0 (by omega) (by omega) (by omega) (fun q=>hne (by omega));simp only [sN,(show zas [x0,x1,x2] 0=x0 from rfl),(show zas [x0,x1,x2] 1=x1 from rfl),(show zas [x0,x1,x2] 2=x2 from rfl),(show zas [y0,y1,y2] 0=y0 from rfl),(show zas [y0,y1,y2] 1=y1 from rfl),(show zas [y0,y1,y2] 2=y2 from rfl),(show LgN (zas [3,5,7] 0).toNat=106365032 by decide +kernel),(show EpN (zas [3,5,7] 0).toNat=1 by decide +kernel),(show LgN (zas [3,5,7] 1).toNat=155821956 by decide +kernel),(show EpN (zas [3,5,7] 1).toNat=1 by decide +kernel),(show LgN (zas [3,5,7] 2).toNat=188398399 by decide +kernel),(show EpN (zas [3,5,7] 2).toNat=1 by decide +kernel)] at h1;have e1:zeO (List.zip [3,5,7] (zrk [x0,x1,x2] [y0,y1,y2]))=(x0 - y0) * 106365032+((x1 - y1) * 155821956+((x2 - y2) * 188398399+(0))):=rfl;have e2:zeP (List.zip [3,5,7] (zrk [x0,x1,x2] [y0,y1,y2]))=((x0 - y0).natAbs:Int)+(((x1 - y1).natAbs:Int)+(((x2 - y2).natAbs:Int)+(0))):=rfl;unfold zrn;rw [e1,e2];clear h e1 e2 hne;generalize ((x0 - y0).natAbs:Int)=n0 at *;generalize x0 - y0=u0 at *;generalize zhz x0+zh0 y0=a0 at *;generalize zhz y0+zh0 x0=b0 at *;generalize ((x1 - y1).natAbs:Int)=n1 at *;generalize x1 - y1=u1 at *;generalize zhz x1+zh0 y1=a1 at *;generalize zhz y1+zh0 x1=b1 at *;generalize ((x2 - y2).natAbs:Int)=n2 at *;generalize x2 - y2=u2 at *;generalize zhz x2+zh0 y2=a2 at *;generalize zhz y2+zh0 x2=b2 at *;clear f0 hx0 hy0 f1 hx1 hy1 f2 hx2 hy2;omega
theorem zru (x0 x1 x2 x3 y0 y1 y2 y3:Int)(hx0:-101≤x0∧x0≤101)(hy0:-101≤y0∧y0≤101)(hx1:-9≤x1∧x1≤9)(hx2:-9≤x2∧x2≤9)(hx3:-9≤x3∧x3≤9)(hy1:-9≤y1∧y1≤9)(hy2:-9≤y2∧y2≤9)(hy3:-9≤y3∧y3≤9)(h:zgZ [2,3,5,11] [x0,x1,x2,x3] [y0,y1,y2,y3]<0):zrn [2,3,5,11] [x0,x1,x2,x3] [y0,y1,y2,y3]:=by
 have h1:=zra (p:=[2,3,5,11]) (k:=4) (fun i hi=>by
  have:∀ i,i<4→Six (zas [2,3,5,11] i).toNat:=by unfold Six;decide
  exact this i hi) (zrl (p:=[2,3,5,11]) (x:=[x0,x1,x2,x3]) (y:=[y0,y1,y2,y3]) rfl rfl h)
 obtain ⟨d0,f0⟩:=zrm x0 y0;obtain ⟨j0,k0,l0,m0⟩:=f0 101 hx0 hy0;obtain ⟨d1,f1⟩:=zrm x1 y1;obtain ⟨j1,k1,l1,m1⟩:=f1 9 hx1 hy1;obtain ⟨d2,f2⟩:=zrm x2 y2;obtain ⟨j2,k2,l2,m2⟩:=f2 9 hx2 hy2;obtain ⟨d3,f3⟩:=zrm x3 y3;obtain ⟨j3,k3,l3,m3⟩:=f3 9 hx3 hy3;have hne:¬ (x0 - y0=0∧x1 - y1=0∧x2 - y2=0∧x3 - y3=0):=fun q=>by
  have e:zgZ [2,3,5,11] [x0,x1,x2,x3] [y0,y1,y2,y3]=0:=by
   obtain rfl:x0=y0:=by omega
   obtain rfl:x1=y1:=by omega
   obtain rfl:x2=y2:=by omega
   obtain rfl:x3=y3:=by omega
   have:=zhc [2,3,5,11] [x0,x1,x2,x3] [x0,x1,x2,x3];omega
  omega
 have h2:=zrf (by decide) (by decide) zrh (x0 - y0) (x1 - y1) (x2 - y2) (x3 - y3) (by omega) (by omega) (by omega) (fun q=>hne (by omega));simp only [sN,(show zas [x0,x1,x2,x3] 0=x0 from rfl),(show zas [x0,x1,x2,x3] 1=x1 from rfl),(show zas [x0,x1,x2,x3] 2=x2 from rfl),(show zas [x0,x1,x2,x3] 3=x3 from rfl),(show zas [y0,y1,y2,y3] 0=y0 from rfl),(show zas [y0,y1,y2,y3] 1=y1 from rfl),(show zas [y0,y1,y2,y3] 2=y2 from rfl),(show zas [y0,y1,y2,y3] 3=y3 from rfl),(show LgN (zas [2,3,5,11] 0).toNat=67108864 by decide +kernel),(show EpN (zas [2,3,5,11] 0).toNat=0 by decide +kernel),(show LgN (zas [2,3,5,11] 1).toNat=106365032 by decide +kernel),(show EpN (zas [2,3,5,11] 1).toNat=1 by decide +kernel),(show LgN (zas [2,3,5,11] 2).toNat=155821956 by decide +kernel),(show EpN (zas [2,3,5,11] 2).toNat=1 by decide +kernel),(show LgN (zas [2,3,5,11] 3).toNat=232158526 by decide +kernel),(show EpN (zas [2,3,5,11] 3).toNat=1 by decide +kernel)] at h1;have e1:zeO (List.zip [2,3,5,11] (zrk [x0,x1,x2,x3] [y0,y1,y2,y3]))=(x0 - y0) * 67108864+((x1 - y1) * 106365032+((x2 - y2) * 155821956+((x3 - y3) * 232158526+(0)))):=rfl;have e2:zeP (List.zip [2,3,5,11] (zrk [x0,x1,x2,x3] [y0,y1,y2,y3]))=0+(((x1 - y1).natAbs:Int)+(((x2 - y2).natAbs:Int)+(((x3 - y3).natAbs:Int)+(0)))):=rfl;unfold zrn;rw [e1,e2];clear h e1 e2 hne;generalize ((x0 - y0).natAbs:Int)=n0 at *;generalize x0 - y0=u0 at *;generalize zhz x0+zh0 y0=a0 at *;generalize zhz y0+zh0 x0=b0 at *;generalize ((x1 - y1).natAbs:Int)=n1 at *;generalize x1 - y1=u1 at *;generalize zhz x1+zh0 y1=a1 at *;generalize zhz y1+zh0 x1=b1 at *;generalize ((x2 - y2).natAbs:Int)=n2 at *;generalize x2 - y2=u2 at *;generalize zhz x2+zh0 y2=a2 at *;generalize zhz y2+zh0 x2=b2 at *;generalize ((x3 - y3).natAbs:Int)=n3 at *;generalize x3 - y3=u3 at *;generalize zhz x3+zh0 y3=a3 at *;generalize zhz y3+zh0 x3=b3 at *;clear f0 hx0 hy0 f1 hx1 hy1 f2 hx2 hy2 f3 hx3 hy3;omega
theorem zrv (x0 y0:Int)(hx0:-101≤x0∧x0≤101)(hy0:-101≤y0∧y0≤101)  (h:zgZ [2] [x0] [y0]<0):zrn [2] [x0] [y0]:=by
 have h1:=zra (p:=[2]) (k:=1) (fun i hi=>by
  have:∀ i,i<1→Six (zas [2] i).toNat:=by unfold Six;decide
  exact this i hi) (zrl (p:=[2]) (x:=[x0]) (y:=[y0]) rfl rfl h)
 obtain ⟨d0,f0⟩:=zrm x0 y0;obtain ⟨j0,k0,l0,m0⟩:=f0 101 hx0 hy0;have hne:¬ (x0 - y0=0):=fun q=>by
  have e:zgZ [2] [x0] [y0]=0:=by
   obtain rfl:x0=y0:=by omega
   have:=zhc [2] [x0] [x0];omega
  omega
 have h2:=zrf (by decide) (by decide) zrg (x0 - y0) 0 0 0 (by omega) (by omega) (by omega) (fun q=>hne (by omega));simp only [sN,(show zas [x0] 0=x0 from rfl),(show zas [y0] 0=y0 from rfl),(show LgN (zas [2] 0).toNat=67108864 by decide +kernel),(show EpN (zas [2] 0).toNat=0 by decide +kernel)] at h1;have e1:zeO (List.zip [2] (zrk [x0] [y0]))=(x0 - y0) * 67108864+(0):=rfl;have e2:zeP (List.zip [2] (zrk [x0] [y0]))=0+(0):=rfl;unfold zrn;rw [e1,e2];clear h e1 e2 hne;generalize ((x0 - y0).natAbs:Int)=n0 at *;generalize x0 - y0=u0 at *;generalize zhz x0+zh0 y0=a0 at *;generalize zhz y0+zh0 x0=b0 at *;clear f0 hx0 hy0;omega
theorem zrw (x0 x1 x2 x3 y0 y1 y2 y3:Int)(hx0:-101≤x0∧x0≤101)(hy0:-101≤y0∧y0≤101)(hx1:-9≤x1∧x1≤9)(hx2:-9≤x2∧x2≤9)(hx3:-9≤x3∧x3≤9)(hy1:-9≤y1∧y1≤9)(hy2:-9≤y2∧y2≤9)(hy3:-9≤y3∧y3≤9)(h:zgZ [2,3,7,13] [x0,x1,x2,x3] [y0,y1,y2,y3]<0):zrn [2,3,7,13] [x0,x1,x2,x3] [y0,y1,y2,y3]:=by
 have h1:=zra (p:=[2,3,7,13]) (k:=4) (fun i hi=>by
  have:∀ i,i<4→Six (zas [2,3,7,13] i).toNat:=by unfold Six;decide
  exact this i hi) (zrl (p:=[2,3,7,13]) (x:=[x0,x1,x2,x3]) (y:=[y0,y1,y2,y3]) rfl rfl h)
 obtain ⟨d0,f0⟩:=zrm x0 y0;obtain ⟨j0,k0,l0,m0⟩:=f0 101 hx0 hy0;obtain ⟨d1,f1⟩:=zrm x1 y1;obtain ⟨j1,k1,l1,m1⟩:=f1 9 hx1 hy1;obtain ⟨d2,f2⟩:=zrm x2 y2;obtain ⟨j2,k2,l2,m2⟩:=f2 9 hx2 hy2;obtain ⟨d3,f3⟩:=zrm x3 y3;obtain ⟨j3,k3,l3,m3⟩:=f3 9 hx3 hy3;have hne:¬ (x0 - y0=0∧x1 - y1=0∧x2 - y2=0∧x3 - y3=0):=fun q=>by
  have e:zgZ [2,3,7,13] [x0,x1,x2,x3] [y0,y1,y2,y3]=0:=by
   obtain rfl:x0=y0:=by omega
   obtain rfl:x1=y1:=by omega
   obtain rfl:x2=y2:=by omega
   obtain rfl:x3=y3:=by omega
   have:=zhc [2,3,7,13] [x0,x1,x2,x3] [x0,x1,x2,x3];omega
  omega
 have h2:=zrf (by decide) (by decide) zri (x0 - y0) (x1 - y1) (x2 - y2) (x3 - y3) (by omega) (by omega) (by omega) (fun q=>hne (by omega));simp only [sN,(show zas [x0,x1,x2,x3] 0=x0 from rfl),(show zas [x0,x1,x2,x3] 1=x1 from rfl),(show zas [x0,x1,x2,x3] 2=x2 from rfl),(show zas [x0,x1,x2,x3] 3=x3 from rfl),(show zas [y0,y1,y2,y3] 0=y0 from rfl),(show zas [y0,y1,y2,y3] 1=y1 from rfl),(show zas [y0,y1,y2,y3] 2=y2 from rfl),(show zas [y0,y1,y2,y3] 3=y3 from rfl),(show LgN (zas [2,3,7,13] 0).toNat=67108864 by decide +kernel),(show EpN (zas [2,3,7,13] 0).toNat=0 by decide +kernel),(show LgN (zas [2,3,7,13] 1).toNat=106365032 by decide +kernel),(show EpN (zas [2,3,7,13] 1).toNat=1 by decide +kernel),(show LgN (zas [2,3,7,13] 2).toNat=188398399 by decide +kernel),(show EpN (zas [2,3,7,13] 2).toNat=1 by decide +kernel),(show LgN (zas [2,3,7,13] 3).toNat=248332305 by decide +kernel),(show EpN (zas [2,3,7,13] 3).toNat=1 by decide +kernel)] at h1;have e1:zeO (List.zip [2,3,7,13] (zrk [x0,x1,x2,x3] [y0,y1,y2,y3]))=(x0 - y0) * 67108864+((x1 - y1) * 106365032+((x2 - y2) * 188398399+((x3 - y3) * 248332305+(0)))):=rfl;have e2:zeP (List.zip [2,3,7,13] (zrk [x0,x1,x2,x3] [y0,y1,y2,y3]))=0+(((x1 - y1).natAbs:Int)+(((x2 - y2).natAbs:Int)+(((x3 - y3).natAbs:Int)+(0)))):=rfl;unfold zrn;rw [e1,e2];clear h e1 e2 hne;generalize ((x0 - y0).natAbs:Int)=n0 at *;generalize x0 - y0=u0 at *;generalize zhz x0+zh0 y0=a0 at *;generalize zhz y0+zh0 x0=b0 at *;generalize ((x1 - y1).natAbs:Int)=n1 at *;generalize x1 - y1=u1 at *;generalize zhz x1+zh0 y1=a1 at *;generalize zhz y1+zh0 x1=b1 at *;generalize ((x2 - y2).natAbs:Int)=n2 at *;generalize x2 - y2=u2 at *;generalize zhz x2+zh0 y2=a2 at *;generalize zhz y2+zh0 x2=b2 at *;generalize ((x3 - y3).natAbs:Int)=n3 at *;generalize x3 - y3=u3 at *;generalize zhz x3+zh0 y3=a3 at *;generalize zhz y3+zh0 x3=b3 at *;clear f0 hx0 hy0 f1 hx1 hy1 f2 hx2 hy2 f3 hx3 hy3;omega
theorem zrx (x0 x1 x2 x3 y0 y1 y2 y3:Int)(hx0:-101≤x0∧x0≤101)(hy0:-101≤y0∧y0≤101)(hx1:-9≤x1∧x1≤9)(hx2:-9≤x2∧x2≤9)(hx3:-9≤x3∧x3≤9)(hy1:-9≤y1∧y1≤9)(hy2:-9≤y2∧y2≤9)(hy3:-9≤y3∧y3≤9)(h:zgZ [3,5,7,13] [x0,x1,x2,x3] [y0,y1,y2,y3]<0):zrn [3,5,7,13] [x0,x1,x2,x3] [y0,y1,y2,y3]:=by
 have h1:=zra (p:=[3,5,7,13]) (k:=4) (fun i hi=>by
  have:∀ i,i<4→Six (zas [3,5,7,13] i).toNat:=by unfold Six;decide
  exact this i hi) (zrl (p:=[3,5,7,13]) (x:=[x0,x1,x2,x3]) (y:=[y0,y1,y2,y3]) rfl rfl h)
 obtain ⟨d0,f0⟩:=zrm x0 y0;obtain ⟨j0,k0,l0,m0⟩:=f0 101 hx0 hy0;obtain ⟨d1,f1⟩:=zrm x1 y1;obtain ⟨j1,k1,l1,m1⟩:=f1 9 hx1 hy1;obtain ⟨d2,f2⟩:=zrm x2 y2;obtain ⟨j2,k2,l2,m2⟩:=f2 9 hx2 hy2;obtain ⟨d3,f3⟩:=zrm x3 y3;obtain ⟨j3,k3,l3,m3⟩:=f3 9 hx3 hy3;have hne:¬ (x0 - y0=0∧x1 - y1=0∧x2 - y2=0∧x3 - y3=0):=fun q=>by
  have e:zgZ [3,5,7,13] [x0,x1,x2,x3] [y0,y1,y2,y3]=0:=by
   obtain rfl:x0=y0:=by omega
   obtain rfl:x1=y1:=by omega
   obtain rfl:x2=y2:=by omega
   obtain rfl:x3=y3:=by omega
   have:=zhc [3,5,7,13] [x0,x1,x2,x3] [x0,x1,x2,x3];omega
  omega
 have h2:=zrf (by decide) (by decide) zrj (x0 - y0) (x1 - y1) (x2 - y2) (x3 - y3) (by omega) (by omega) (by omega) (fun q=>hne (by omega));simp only [sN,(show zas [x0,x1,x2,x3] 0=x0 from rfl),(show zas [x0,x1,x2,x3] 1=x1 from rfl),(show zas [x0,x1,x2,x3] 2=x2 from rfl),(show zas [x0,x1,x2,x3] 3=x3 from rfl),(show zas [y0,y1,y2,y3] 0=y0 from rfl),(show zas [y0,y1,y2,y3] 1=y1 from rfl),(show zas [y0,y1,y2,y3] 2=y2 from rfl),(show zas [y0,y1,y2,y3] 3=y3 from rfl),(show LgN (zas [3,5,7,13] 0).toNat=106365032 by decide +kernel),(show EpN (zas [3,5,7,13] 0).toNat=1 by decide +kernel),(show LgN (zas [3,5,7,13] 1).toNat=155821956 by decide +kernel),(show EpN (zas [3,5,7,13] 1).toNat=1 by decide +kernel),(show LgN (zas [3,5,7,13] 2).toNat=188398399 by decide +kernel),(show EpN (zas [3,5,7,13] 2).toNat=1 by decide +kernel),(show LgN (zas [3,5,7,13] 3).toNat=248332305 by decide +kernel),(show EpN (zas [3,5,7,13] 3).toNat=1 by decide +kernel)] at h1;have e1:zeO (List.zip [3,5,7,13] (zrk [x0,x1,x2,x3] [y0,y1,y2,y3]))=(x0 - y0) * 106365032+((x1 - y1) * 155821956+((x2 - y2) * 188398399+((x3 - y3) * 248332305+(0)))):=rfl;have e2:zeP (List.zip [3,5,7,13] (zrk [x0,x1,x2,x3] [y0,y1,y2,y3]))=((x0 - y0).natAbs:Int)+(((x1 - y1).natAbs:Int)+(((x2 - y2).natAbs:Int)+(((x3 - y3).natAbs:Int)+(0)))):=rfl;unfold zrn;rw [e1,e2];clear h e1 e2 hne;generalize ((x0 - y0).natAbs:Int)=n0 at *;generalize x0 - y0=u0 at *;generalize zhz x0+zh0 y0=a0 at *;generalize zhz y0+zh0 x0=b0 at *;generalize ((x1 - y1).natAbs:Int)=n1 at *;generalize x1 - y1=u1 at *;generalize zhz x1+zh0 y1=a1 at *;generalize zhz y1+zh0 x1=b1 at *;generalize ((x2 - y2).natAbs:Int)=n2 at *;generalize x2 - y2=u2 at *;generalize zhz x2+zh0 y2=a2 at *;generalize zhz y2+zh0 x2=b2 at *;generalize ((x3 - y3).natAbs:Int)=n3 at *;generalize x3 - y3=u3 at *;generalize zhz x3+zh0 y3=a3 at *;generalize zhz y3+zh0 x3=b3 at *;clear f0 hx0 hy0 f1 hx1 hy1 f2 hx2 hy2 f3 hx3 hy3;omega
end Go.Proofs.YtipkdebkdnbieaaGreatDoor
