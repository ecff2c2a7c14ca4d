/- Plain: one period more of an interval, how great its numbers are, equal values are equal intervals (for the ten lists of primes of law 12). Walk: monzo.Compare at right or wrong intervals. (KEEPALL) Regions that draw their order: a load is taken first although the last operations of the region store into its cell. (XHeldZ's laws once more, the depth 12 in the place of 4; KEEPALL) Walks: monzo.result, sum, Add, Sub at right intervals with a right sum. (KEEPALL) -/
import Derived.Test.YtipkdebkdnbieaaGreatDoorPa12
import Derived.OrdersHeld
import Derived.StillTail
import Derived.Deep.RegionHeld3
import Derived.Test.YtipkdebkdnbieaaGreatDoorPa00
import Derived.Deep.AppendLies
set_option maxRecDepth 100000
set_option maxHeartbeats 2000000
namespace Go.Proofs.YtipkdebkdnbieaaGreatDoor
section
open Go.RowKit Go.Lib
def zhz (z:Int):Nat:=if 0<z then z.natAbs else 0
def zh0 (z:Int):Nat:=if 0<z then 0 else z.natAbs
def zh1 (f:Nat→Nat):Nat→Nat
 | 0=>1
 | k+1=>zh1 f k * f k
def prN (p:List Int)(a:Nat→Nat)(k:Nat):Nat:=zh1 (fun i=>(zas p i).toNat ^ a i) k
theorem zh2 (p x:List Int):∀ k,zgw p x k=prN p (fun i=>zhz (zas x i)) k
 | 0=>rfl
 | k+1=>by
  show (if 0<zas x k then zgw p x k * (zas p k).toNat ^ (zas x k).natAbs else zgw p x k)=prN p (fun i=>zhz (zas x i)) k * (zas p k).toNat ^ zhz (zas x k);rw [← zh2 p x k];unfold zhz;by_cases h:0<zas x k
  ·rw [if_pos h,if_pos h]
  ·rw [if_neg h,if_neg h,Nat.pow_zero,Nat.mul_one]
theorem zh3 (p x:List Int):∀ k,zgx p x k=prN p (fun i=>zh0 (zas x i)) k
 | 0=>rfl
 | k+1=>by
  show (if 0<zas x k then zgx p x k else zgx p x k * (zas p k).toNat ^ (zas x k).natAbs)=prN p (fun i=>zh0 (zas x i)) k * (zas p k).toNat ^ zh0 (zas x k);rw [← zh3 p x k];unfold zh0;by_cases h:0<zas x k
  ·rw [if_pos h,if_pos h,Nat.pow_zero,Nat.mul_one]
  ·rw [if_neg h,if_neg h]
theorem zh4 (p:List Int)(a b:Nat→Nat):∀ k,prN p a k * prN p b k=prN p (fun i=>a i+b i) k
 | 0=>rfl
 | k+1=>by
  have ih:=zh4 p a b k;unfold prN at ih ⊢;unfold zh1;rw [← ih,Nat.pow_add];exact Nat.mul_mul_mul_comm _ _ _ _
theorem zh5 {p:List Int}{a:Nat→Nat}:∀ {k:Nat},(∀ i,i<k→0<zas p i)→0<prN p a k
 | 0,_=>Nat.one_pos
 | k+1,h=>by
  have ih:=zh5 (a:=a) (k:=k) fun i hi=>h i (by omega);unfold prN at ih ⊢;unfold zh1;exact Nat.mul_pos ih (Nat.pow_pos (by have:=h k (by omega);omega))
theorem zh6 {p:List Int}{a b:Nat→Nat}:∀ {k:Nat},(∀ i,i<k→a i=b i)→prN p a k=prN p b k
 | 0,_=>rfl
 | k+1,h=>by
  have ih:=zh6 (p:=p) (a:=a) (b:=b) (k:=k) fun i hi=>h i (by omega);unfold prN at ih ⊢;unfold zh1;rw [ih,h k (by omega)]
theorem zh7 {p:List Int}{a b:Nat→Nat}:∀ {k:Nat},(∀ i,i<k→0<zas p i)→(∀ i,i<k→a i≤b i)→prN p a k≤prN p b k
 | 0,_,_=>Nat.le_refl _
 | k+1,h,h2=>by
  have ih:=zh7 (p:=p) (a:=a) (b:=b) (k:=k) (fun i hi=>h i (by omega)) fun i hi=>h2 i (by omega);unfold prN at ih ⊢;unfold zh1;exact Nat.mul_le_mul ih (Nat.pow_le_pow_right (by have:=h k (by omega);omega) (h2 k (by omega)))
theorem zh8 {p:List Int}{a b:Nat→Nat}:∀ {k:Nat},(∀ i,i<k→2≤(zas p i).toNat)→(∀ i j,i<k→j<i→Nat.Coprime (zas p i).toNat (zas p j).toNat)→prN p a k=prN p b k→∀ i,i<k→a i=b i
 | 0,_,_,_=>fun i hi=>by omega
 | k+1,h2,hc,he=>by
  have hcp:∀ c:Nat→Nat,∀ m,m≤k→Nat.Coprime (zas p k).toNat (prN p c m):=fun c m=>by
   induction m with
   | zero=>intro _;exact Nat.coprime_one_right _
   | succ m ih =>
    intro hm
    have:=ih (by omega)
    unfold prN at this ⊢
    unfold zh1
    exact Nat.Coprime.mul_right this (Nat.Coprime.pow_right _ (hc k m (by omega) (by omega)))
  have key:∀ c d:Nat→Nat,prN p c (k+1)=prN p d (k+1)→¬ c k<d k:=fun c d h hlt=>by
   have e1:prN p c (k+1)=prN p c k * (zas p k).toNat ^ c k:=rfl;have e2:prN p d (k+1)=prN p d k * (zas p k).toNat ^ d k:=rfl;rw [e1,e2,show d k=(d k - c k)+c k by omega,Nat.pow_add,← Nat.mul_assoc] at h;have hp:0<(zas p k).toNat ^ c k:=Nat.pow_pos (by have:=h2 k (by omega);omega);have h3:=Nat.eq_of_mul_eq_mul_right hp h;have hd:(zas p k).toNat ∣ prN p c k:=by
    rw [h3];exact Nat.dvd_trans (Nat.dvd_trans (Nat.dvd_refl _) (by
     rw [show d k - c k=(d k - c k - 1)+1 by omega,Nat.pow_succ];exact Nat.dvd_mul_left _ _)) (Nat.dvd_mul_left _ _)
   have:=Nat.Coprime.eq_one_of_dvd (hcp c k (Nat.le_refl _)) hd;have:=h2 k (by omega);omega
  have hk:a k=b k:=by
   have:=key a b he;have:=key b a he.symm;omega
  have e1:prN p a (k+1)=prN p a k * (zas p k).toNat ^ a k:=rfl;have e2:prN p b (k+1)=prN p b k * (zas p k).toNat ^ b k:=rfl;rw [e1,e2,hk] at he;have hp:0<(zas p k).toNat ^ b k:=Nat.pow_pos (by have:=h2 k (by omega);omega);have ih:=zh8 (p:=p) (a:=a) (b:=b) (k:=k) (fun i hi=>h2 i (by omega)) (fun i j hi hj=>hc i j (by omega) hj) (Nat.eq_of_mul_eq_mul_right hp he);intro i hi;rcases Nat.lt_or_ge i k with g | g
  ·exact ih i g
  ·obtain rfl:i=k:=by omega
   exact hk
structure zh9 (p:List Int):Prop where
 pe:zcw p=0
 len:0<p.length∧p.length≤4
 two:∀ i,i<p.length→2≤(zas p i).toNat
 cop:∀ i j,i<p.length→j<i→Nat.Coprime (zas p i).toNat (zas p j).toNat
 top:prN p (fun i=>if i=0 then 0 else 9) p.length<(zas p 0).toNat ^ 100
theorem zhA (n:Nat):zh9 (zhj (zhr n)):=by
 have h:∀ r,r<10→(let p:=zhj (zhq.getD r []);zcw p=0∧(0<p.length∧p.length≤4)∧(∀ i,i<p.length→2≤(zas p i).toNat)∧(∀ i,i<p.length→∀ j,j<i→Nat.gcd (zas p i).toNat (zas p j).toNat=1)∧prN p (fun i=>if i=0 then 0 else 9) p.length<(zas p 0).toNat ^ 100):=by decide +kernel
 obtain ⟨h1,h2,h3,h4,h5⟩:=h (n % 10) (Nat.mod_lt _ (by decide));exact ⟨h1,h2,h3,fun i j hi hj=>h4 i hi j hj,h5⟩
theorem zh9.pos {p:List Int}(h:zh9 p):∀ i,i<p.length→0<zas p i:=fun i hi=>by have:=h.two i hi;omega
theorem zhB {p x y:List Int}(h:zh9 p)(hx:x.length=p.length)(hy:y.length=p.length)(he:zgZ p x y=0):x=y:=by
 unfold zgZ at he;have he2:zgy p x * zgz p y=zgy p y * zgz p x:=by
  have:=(zhb ((zgy p x * zgz p y:Nat):Int) ((zgy p y * zgz p x:Nat):Int)).1 (by omega);have h2:=zha ((zgy p x * zgz p y:Nat):Int) ((zgy p y * zgz p x:Nat):Int);have:=(zhb ((zgy p y * zgz p x:Nat):Int) ((zgy p x * zgz p y:Nat):Int)).1 (by omega);omega
 unfold zgy zgz at he2;rw [hx,hy,zh2,zh3,zh2,zh3,zh4,zh4] at he2;have hi:=zh8 h.two h.cop he2;apply List.ext_getElem (hx.trans hy.symm);intro i h1 h2;have:=hi i (by omega);have e1:zas x i=x[i]:=by unfold zas;rw [List.getD_eq_getElem?_getD,List.getElem?_eq_getElem h1];rfl
 have e2:zas y i=y[i]:=by unfold zas;rw [List.getD_eq_getElem?_getD,List.getElem?_eq_getElem h2];rfl
 rw [e1,e2] at this;unfold zhz zh0 at this;(repeat' split at this) <;> omega
def bmp (k:Int):List Int→List Int
 | []=>[]
 | a::l=>(a+k)::l
theorem zhC (k:Int)(x:List Int):(bmp k x).length=x.length:=by cases x <;> rfl
theorem zhD (k j:Int)(x:List Int):bmp k (bmp j x)=bmp (j+k) x:=by
 cases x with
 | nil=>rfl
 | cons a l=>show (a+j+k)::l=(a+(j+k))::l;rw [Int.add_assoc]
theorem zhE (x:List Int):bmp 0 x=x:=by
 cases x with
 | nil=>rfl
 | cons a l=>show (a+0)::l=a::l;rw [Int.add_zero]
theorem zhF {x:List Int}(h:0<x.length)(k:Int):zas (bmp k x) 0=zas x 0+k:=by
 cases x with
 | nil=>simp at h
 | cons a l=>rfl
theorem zhG (k:Int)(x:List Int){i:Nat}(h:0<i):zas (bmp k x) i=zas x i:=by
 cases x with
 | nil=>rfl
 | cons a l =>
  obtain ⟨j,rfl⟩:∃ j,i=j+1:=⟨i - 1,by omega⟩
  rfl
theorem zhH {p x:List Int}(hp:0<zas p 0):∀ k,0<k→0<x.length→zgw p (bmp 1 x) k * zgx p x k=(zas p 0).toNat * (zgw p x k * zgx p (bmp 1 x) k)
 | 0,h,_=>by omega
 | 1,_,hx=>by
  unfold zgw zgx;unfold zgw zgx;rw [zhF hx];generalize zas x 0=a;generalize (zas p 0).toNat=q;by_cases h1:0<a
  ·rw [if_pos h1,if_pos h1,if_pos (show 0<a+1 by omega),if_pos (show 0<a+1 by omega),show (a+1).natAbs=a.natAbs+1 by omega,Nat.pow_succ];simp only [Nat.one_mul,Nat.mul_one];exact Nat.mul_comm _ _
  ·by_cases h2:a=0
   ·subst h2;simp
   ·rw [if_neg h1,if_neg h1,if_neg (show ¬ 0<a+1 by omega),if_neg (show ¬ 0<a+1 by omega),show a.natAbs=(a+1).natAbs+1 by omega,Nat.pow_succ];simp only [Nat.one_mul];exact Nat.mul_comm _ _
 | k+2,_,hx=>by
  have ih:=zhH (p:=p) (x:=x) hp (k+1) (by omega) hx;have e1:zgw p (bmp 1 x) (k+2)=if 0<zas x (k+1) then zgw p (bmp 1 x) (k+1) * (zas p (k+1)).toNat ^ (zas x (k+1)).natAbs else zgw p (bmp 1 x) (k+1):=by
   show (if 0<zas (bmp 1 x) (k+1) then _ else _)=_;rw [zhG 1 x (by omega)]
  have e2:zgx p (bmp 1 x) (k+2)=if 0<zas x (k+1) then zgx p (bmp 1 x) (k+1) else zgx p (bmp 1 x) (k+1) * (zas p (k+1)).toNat ^ (zas x (k+1)).natAbs:=by
   show (if 0<zas (bmp 1 x) (k+1) then _ else _)=_;rw [zhG 1 x (by omega)]
  have e3:zgw p x (k+2)=if 0<zas x (k+1) then zgw p x (k+1) * (zas p (k+1)).toNat ^ (zas x (k+1)).natAbs else zgw p x (k+1):=rfl;have e4:zgx p x (k+2)=if 0<zas x (k+1) then zgx p x (k+1) else zgx p x (k+1) * (zas p (k+1)).toNat ^ (zas x (k+1)).natAbs:=rfl;rw [e1,e2,e3,e4];generalize (zas p (k+1)).toNat ^ (zas x (k+1)).natAbs=f;generalize zgw p (bmp 1 x) (k+1)=A at *;generalize zgx p x (k+1)=D at *;generalize zgw p x (k+1)=N at *;generalize zgx p (bmp 1 x) (k+1)=E at *;generalize (zas p 0).toNat=q at *;split
  ·rw [Nat.mul_right_comm A f D,ih,Nat.mul_right_comm N f E,Nat.mul_assoc]
  ·rw [← Nat.mul_assoc A D f,ih,← Nat.mul_assoc N E f,Nat.mul_assoc]
theorem zhI {p x:List Int}(h:zh9 p)(hx:x.length=p.length):zgy p (bmp 1 x) * zgz p x=(zas p 0).toNat * (zgy p x * zgz p (bmp 1 x)):=by
 unfold zgy zgz;rw [zhC,hx];exact zhH (h.pos 0 h.len.1) _ h.len.1 (by rw [hx];exact h.len.1)
theorem zhJ {p x:List Int}(h:zh9 p)(hx:x.length=p.length):0<zgz p x∧0<zgy p x:=by
 unfold zgz zgy;rw [zh3,zh2,hx];exact ⟨zh5 h.pos,zh5 h.pos⟩
def Tl9 (x:List Int):Prop:=∀ i,0<i→(zas x i).natAbs≤9
theorem Tl9.bmp {x:List Int}(h:Tl9 x)(k:Int):Tl9 (bmp k x):=fun i hi=>by rw [zhG k x hi];exact h i hi
theorem zhK {p:List Int}{a:Nat→Nat}{k:Nat}(hp:∀ i,i<k→0<zas p i)(hk:0<k):(zas p 0).toNat ^ a 0≤prN p a k:=by
 induction k with
 | zero=>omega
 | succ k ih =>
  rcases Nat.eq_zero_or_pos k with rfl | hk2
  ·show _≤1 * _
   rw [Nat.one_mul];exact Nat.le_refl _
  ·have:=ih (fun i hi=>hp i (by omega)) hk2
   show _≤prN p a k * (zas p k).toNat ^ a k
   exact Nat.le_trans this (Nat.le_mul_of_pos_right _ (Nat.pow_pos (by have:=hp k (by omega);omega)))
theorem zhL {p x:List Int}(h:zh9 p)(hx:x.length=p.length)(ht:Tl9 x)(h0:100≤zas x 0):zgz p x<zgy p x:=by
 unfold zgz zgy;rw [zh3,zh2,hx];have h1:=zh7 (p:=p) (a:=fun i=>zh0 (zas x i)) (b:=fun i=>if i=0 then 0 else 9) (k:=p.length) h.pos fun i hi=>by
  by_cases e:i=0
  ·subst e;unfold zh0;simp;omega
  ·have:=ht i (by omega);rw [if_neg e];unfold zh0;split <;> omega
 have h2:=zhK (a:=fun i=>zhz (zas x i)) h.pos h.len.1;have h3:(zas p 0).toNat ^ 100≤(zas p 0).toNat ^ zhz (zas x 0):=Nat.pow_le_pow_right (by have:=h.two 0 h.len.1;omega) (by unfold zhz;split <;> omega)
 have:=h.top;omega
theorem zhM {p x:List Int}(h:zh9 p)(hx:x.length=p.length)(ht:Tl9 x)(h0:zas x 0≤-100):zgy p x<zgz p x:=by
 unfold zgz zgy;rw [zh3,zh2,hx];have h1:=zh7 (p:=p) (a:=fun i=>zhz (zas x i)) (b:=fun i=>if i=0 then 0 else 9) (k:=p.length) h.pos fun i hi=>by
  by_cases e:i=0
  ·subst e;unfold zhz;simp;omega
  ·have:=ht i (by omega);rw [if_neg e];unfold zhz;split <;> omega
 have h2:=zhK (a:=fun i=>zh0 (zas x i)) h.pos h.len.1;have h3:(zas p 0).toNat ^ 100≤(zas p 0).toNat ^ zh0 (zas x 0):=Nat.pow_le_pow_right (by have:=h.two 0 h.len.1;omega) (by unfold zh0;split <;> omega)
 have:=h.top;omega
def zhN (n:Nat):List Int:=bmp 1 (zhd n)
theorem zhO {p:List Int}(h:zh9 p):zgy p (zhN p.length)=(zas p 0).toNat∧zgz p (zhN p.length)=1:=by
 have hz:(zhd p.length).length=p.length:=List.length_replicate;have e1:zgy p (zhd p.length)=1:=(zhh p _ _).1;have e2:zgz p (zhd p.length)=1:=(zhh p _ _).2;have hb:=zhI h hz;have hd:zgz p (zhN p.length)=1:=by
  unfold zgz zhN;rw [zhC,hz,zh3];have:prN p (fun i=>zh0 (zas (bmp 1 (zhd p.length)) i)) p.length=prN p (fun _=>0) p.length:=zh6 fun i hi=>by
   by_cases e:i=0
   ·subst e;rw [zhF (by rw [hz];exact hi)];unfold zhd;rw [zhg];rfl
   ·rw [zhG 1 _ (by omega)];unfold zhd;rw [zhg];rfl
  rw [this];have:∀ k,prN p (fun _=>0) k=1:=fun k=>by
   induction k with
   | zero=>rfl
   | succ k ih=>show prN p (fun _=>0) k * _ ^ 0=1;rw [ih];rfl
  exact this _
 rw [e1,e2] at hb;have e3:bmp 1 (zhd p.length)=zhN p.length:=rfl;rw [e3,hd] at hb;exact ⟨by omega,hd⟩
theorem zhP (a b:Int):zbj a b<0 ↔ a<b:=by unfold zbj;(repeat' split) <;> omega
theorem zhQ {p x:List Int}(h:zh9 p)(hx:x.length=p.length)(h1:zgy p x<zgz p x):zgZ p (bmp 1 x) (zhN p.length)<0:=by
 obtain ⟨e1,e2⟩:=zhO h;unfold zgZ;rw [zhP,e1,e2,Nat.mul_one];have hb:=zhI h hx;obtain ⟨d1,_⟩:=zhJ h hx;obtain ⟨d2,_⟩:=zhJ (x:=bmp 1 x) h (by rw [zhC,hx]);have hp:0<(zas p 0).toNat:=by have:=h.two 0 h.len.1;omega
 have h2:zgy p x * zgz p (bmp 1 x)<zgz p x * zgz p (bmp 1 x):=Nat.mul_lt_mul_of_pos_right h1 d2;have h3:(zas p 0).toNat * (zgy p x * zgz p (bmp 1 x))<(zas p 0).toNat * (zgz p x * zgz p (bmp 1 x)):=Nat.mul_lt_mul_of_pos_left h2 hp;rw [← hb,show (zas p 0).toNat * (zgz p x * zgz p (bmp 1 x))=(zas p 0).toNat * zgz p (bmp 1 x) * zgz p x by rw [Nat.mul_assoc,Nat.mul_comm (zgz p x)]] at h3;have:=Nat.lt_of_mul_lt_mul_right h3;omega
theorem zhR {p x:List Int}(h:zh9 p)(hx:x.length=p.length)(h1:¬ zgZ p x (zhN p.length)<0):zgz p (bmp (-1) x)≤zgy p (bmp (-1) x):=by
 apply Classical.byContradiction;intro hn;have h2:=zhQ h (x:=bmp (-1) x) (by rw [zhC,hx]) (by omega);rw [zhD,show (-1:Int)+1=0 from rfl,zhE] at h2;exact h1 h2
def zhS (p x y:List Int):Int:=zgm p [x,y]
theorem zhT {p x y:List Int}(h:zhS p x y=0):zcw p=0∧zgk p.length x=0∧zgk p.length y=0:=by
 unfold zhS zgm at h;by_cases h0:zcw p=0
 ·rw [if_neg (by simpa using h0)] at h;refine ⟨h0,?_⟩;rw [zgl] at h;by_cases h1:zgk p.length x=0
  ·rw [if_neg (by simpa using h1),zgl] at h;refine ⟨h1,?_⟩;by_cases h2:zgk p.length y=0
   ·exact h2
   ·rw [if_pos h2] at h;exact h
  ·rw [if_pos h1] at h;exact absurd h h1
 ·rw [if_pos h0] at h;exact absurd h h0
theorem zhU {p x y:List Int}(h1:zgu p x=0)(h2:zgu p y=0):zhS p x y=0:=by
 obtain ⟨a,b⟩:=zg7 h1;obtain ⟨_,c⟩:=zg7 h2;unfold zhS zgm;rw [if_neg (by simpa using a),zgl,if_neg (by simpa using b),zgl,if_neg (by simpa using c)];rfl
def zhV (p x y:List Int):Int:=if zhS p x y ≠ 0 then 0 else zgZ p x y
theorem zhW (w:World)(vx vy:Value)(x y:List Int)(hx:Sl w vx (zap x))(hy:Sl w vy (zap y)):Mat (w.alloc (.cells #[vx,vy] 33)) (.slice (some ⟨w.heap.size,0,none⟩) 2 2) [x,y]:=by
 have hext:Ext w (w.alloc (.cells #[vx,vy] 33)):=(Ext.refl w).alloc _;refine ⟨[vx,vy],rfl,.inr ⟨w.heap.size,0,2,rfl,Nat.le_refl _,by unfold maxLen;omega,?_⟩,?_⟩
 ·intro i u hu;match i,hu with
  | 0,hu=>simp at hu;subst hu;rw [World.cell?_alloc_new];rfl
  | 1,hu=>simp at hu;subst hu;rw [World.cell?_alloc_new];rfl
  | i+2,hu=>simp at hu
 ·intro i u hu;match i,hu with
  | 0,hu=>simp at hu;subst hu;exact hext.sl hx
  | 1,hu=>simp at hu;subst hu;exact hext.sl hy
  | i+2,hu=>simp at hu
theorem zhX (vp vx vy:Value)(p x y:List Int)(w:World)(he:Env w)(hp:Sl w vp (zap p))(hx:Sl w vx (zap x))(hy:Sl w vy (zap y))(hlp:p.length≤1000000)(hlx:x.length≤1000000)(hly:y.length≤1000000) :
  Calls Tryz.prog 68 #[vp,vx,vy] w fun e w'=>e=.returned (.tuple #[.int .i64 (zhV p x y),.int .i64 (zhS p x y)])∧Ext w w':=by
 have hext:Ext w (w.alloc (.cells #[vx,vy] 33)):=(Ext.refl w).alloc _;have hc:=zgt vp (.slice (some ⟨w.heap.size,0,none⟩) 2 2) p [x,y] _ (hext.sl hp) (zhW w vx vy x y hx hy) hlp (by simp) (fun i=>by match i with | 0=>simpa using hlx | 1=>simpa using hly | i+2=>simp)
 have Hc:=hid hc;clear hc;have Hext:=hid hext;clear hext;have He:=hid he;clear he;have Hp:=hid hp;have Hx:=hid hx;have Hy:=hid hy;obtain ⟨ap,cp,rfl,_,_,_⟩:=hp.parts;obtain ⟨ax,cx,rfl,_,_,_⟩:=hx.parts;obtain ⟨ay,cy,rfl,_,_,_⟩:=hy.parts;simp only [zar] at *;clear hp hx hy;have hae:zgm p [x,y]=zhS p x y:=rfl;rw [hae] at Hc;clear hae;unfold zhV;by_cases h0:zhS p x y=0
 ·rw [if_neg (by simpa using h0),h0];obtain ⟨hp0,hx0,hy0⟩:=zhT h0;have hnx:=zg8 hp0 hx0;have hny:=zg8 hp0 hy0;rw [h0] at Hc;unfold zgZ;have d1:=zg9 hnx;have d2:=zgA hnx;have d3:=zg9 hny;have d4:=zgA hny;have Hnx:=hid hnx;have Hny:=hid hny;have m1:=zbD (zgy p x) (zgz p y);have m2:=zbD (zgy p y) (zgz p x);have HD:=hid (And.intro d1 (And.intro d2 (And.intro d3 (And.intro d4 (And.intro m1 m2)))));clear h0 hp0 hx0 hy0 hnx hny d1 d2 d3 d4 m1 m2;go_enter Tryz.func68,Tryz.ntmps68
  go_wp2_with fail
  refine Hc.out.mono ?_;rintro e w1 ⟨rfl,rfl⟩;go_wp2_with fail
  refine (zg5 _ _ p x _ (He.out.ext Hext.out) (Hext.out.sl Hp.out) (Hext.out.sl Hx.out) Hnx.out).mono ?_;rintro e w2 ⟨rfl,hx2⟩;have Hx2:=hid (Hext.out.trans hx2);clear hx2;go_wp2_with fail
  refine (zg5 _ _ p y w2 (He.out.ext Hx2.out) (Hx2.out.sl Hp.out) (Hx2.out.sl Hy.out) Hny.out).mono ?_;rintro e w3 ⟨rfl,hx3⟩;have Hx3:=hid (Hx2.out.trans hx3);clear hx3;go_wp2_with fail
  refine (zbE (zgy p x) (zgz p y) w3 (He.out.ext Hx3.out) (by have:=HD.out;omega) (by have:=HD.out;omega)).mono ?_;rintro e w4 ⟨rfl,hx4⟩;have Hx4:=hid (Hx3.out.trans hx4);clear hx4;go_wp2_with fail
  refine (zbE (zgy p y) (zgz p x) w4 (He.out.ext Hx4.out) (by have:=HD.out;omega) (by have:=HD.out;omega)).mono ?_;rintro e w5 ⟨rfl,hx5⟩;have Hx5:=hid (Hx4.out.trans hx5);clear hx5;go_wp2_with fail
  refine (zb8 (zgy p x * zgz p y) (zgy p y * zgz p x) w5 (by have:=HD.out;omega) (by have:=HD.out;omega)).mono ?_;rintro e w6 ⟨rfl,rfl⟩;go_wp2
  go_ret2
  exact ⟨rfl,Hx5.out⟩
 ·rw [if_pos h0];have ht:(zhS p x y != 0)=true:=by rw [bne_iff_ne];exact h0
  generalize zhS p x y=r at *;clear h0;go_enter Tryz.func68,Tryz.ntmps68
  go_wp2_with fail
  refine Hc.out.mono ?_;rintro e w1 ⟨rfl,rfl⟩;go_wp2
  go_ret2
  exact ⟨rfl,Hext.out⟩
end
section
section
variable {P : Program} {ops : Array Oper} {Q : Exit → Act → World → Prop} {md : Region.Mode} {S : World → Prop} {z : Nat}
def zhY (P:Program)(md:Region.Mode)(ops:Array Oper)(Q:Exit→Act→World→Prop)(S:World→Prop)(z:Nat):Nat→Array Bool→Act→World→Prop
 | 0,ls,a,w=>Region.ready md ops ls=[]∧Q .normal a w
 | f+1,ls,a,w=>(Region.ready md ops ls=[]→Q .normal a w)∧∀ i∈Region.ready md ops ls,wpOp P ops Q i (fun a' w'=>(i<z→S w')∧zhY P md ops Q S z f (ls.setIfInBounds i true) a' w') a w
theorem zhY.any : ∀ {f:Nat}{ls:Array Bool}{a:Act}{w:World},zhY P md ops Q S z f ls a w→wpAny P md ops Q f ls a w
 | 0,_,_,_,h=>h
 | _+1,_,_,_,h=>⟨h.1,fun i hi=>wpOp_mono (fun _ _ g=>zhY.any g.2) (h.2 i hi)⟩
def wBV (md:Region.Mode)(ops:Array Oper):Nat→Nat→Nat→Bool
 | 0,j,i=>Region.waitsFor md ops j i
 | f+1,j,i=>Region.waitsFor md ops j i || (List.range ops.size).any fun k=>Region.waitsFor md ops j k && wBV md ops f k i
def zBV (md:Region.Mode)(ops:Array Oper)(z i:Nat):Bool:=(List.range ops.size).all fun j=>decide (j<z) || wBV md ops 12 j i
def zhZ (md:Region.Mode)(ops:Array Oper)(ls:Array Bool):Prop:=∀ j oj,ops[j]?=some oj→ls.getD j false=true→∀ e∈oj.after,Region.binds md e=true→ls.getD e.on false=true
def zia (md:Region.Mode)(ops:Array Oper)(ls:Array Bool):Bool:=(List.range ops.size).all fun j=>match ops[j]? with | some oj=>!ls.getD j false || oj.after.all fun e=>!Region.binds md e || ls.getD e.on false | none=>true
theorem zib {ls:Array Bool}(h:zia md ops ls=true):zhZ md ops ls:=fun j oj hj hl e he hb=>by
 have h1:=List.all_eq_true.1 h j (List.mem_range.2 (Array.getElem?_eq_some_iff.1 hj).1);rw [hj] at h1;simp only [hl,Bool.not_true,Bool.false_or] at h1;have h2:=Array.all_eq_true'.1 h1 e he;simpa [hb] using h2
theorem zic {i:Nat}{ls:Array Bool}(h:zhZ md ops ls)(hi:i∈Region.ready md ops ls):zhZ md ops (ls.setIfInBounds i true):=fun j oj hj hl e he hb=>by
 obtain ⟨_,oi,hoi,hall⟩:=mem_ready.1 hi;by_cases q:i=j
 ·subst q;obtain rfl:oj=oi:=Option.some.inj (hj.symm.trans hoi);exact getD_set_true (hall e he hb)
 ·rw [getD_set_ne false q] at hl;exact getD_set_true (h j oj hj hl e he hb)
theorem zid {i:Nat}{ls:Array Bool}(hc:zhZ md ops ls)(hun:ls.getD i true=false):∀ (f j:Nat)(oj:Oper),wBV md ops f j i=true→ops[j]?=some oj→(∀ e∈oj.after,Region.binds md e=true→ls.getD e.on false=true)→False
 | f,j,oj,h,hj,hall=>by
  have one:∀ k,Region.waitsFor md ops j k=true→ls.getD k false=true:=fun k hk=>by
   obtain ⟨o,ho,e,he,hb,hon⟩:=Region.waitsFor_spec hk;obtain rfl:o=oj:=Option.some.inj (ho.symm.trans hj);rw [← hon];exact hall e he hb
  have dir:Region.waitsFor md ops j i=true→False:=fun hk=>by
   have:=one i hk;rw [getD_both hun] at this
   cases this
  match f,h with
  | 0,h=>exact dir h
  | f+1,h =>
   unfold wBV at h
   rw [Bool.or_eq_true] at h
   rcases h with h | h
   ·exact dir h
   ·obtain ⟨k,hk,h2⟩:=List.any_eq_true.1 h
    rw [Bool.and_eq_true] at h2
    obtain ⟨ok,hok⟩:∃ ok,ops[k]?=some ok:=⟨_,Array.getElem?_eq_getElem (List.mem_range.1 hk)⟩
    exact zid hc hun f k ok h2.2 hok (hc k ok hok (one k h2.1))
theorem zie {i j:Nat}{oj:Oper}{ls:Array Bool}(hz:zBV md ops z i=true)(hc:zhZ md ops ls)(hj:ops[j]?=some oj)(hall:∀ e∈oj.after,Region.binds md e=true→ls.getD e.on false=true)(hun:ls.getD i true=false):j<z:=by
 have h1:=List.all_eq_true.1 hz j (List.mem_range.2 (Array.getElem?_eq_some_iff.1 hj).1);rw [Bool.or_eq_true,decide_eq_true_eq] at h1;rcases h1 with h1 | h1
 ·exact h1
 ·exact (zid hc hun 12 j oj h1 hj hall).elim
theorem zif {i:Nat}{oi:Oper}{v:Value}(hi:ops[i]?=some oi)(hs:Region.noSelect ops=true)(hz:zBV md ops z i=true)(hQ:∀ c a w,Q (.panic c) (a.put oi.dst v) w→Q (.panic c) a w) :
  ∀ (f:Nat)(ls:Array Bool)(a:Act)(w:World),(∀ j oj,ops[j]?=some oj→j ≠ i→ls.getD j true=false→(∀ e∈oj.after,Region.binds md e=true→e.on ≠ i)→oi.apart ops oj=true)→zhZ md ops ls →
   i∈Region.ready md ops ls→YieldsIf P ops S oi v a→S w→zhY P md ops Q S z f (ls.setIfInBounds i true) (a.put oi.dst v) w→zhY P md ops Q S z (f+1) ls a w:=by
 have hsel:=Region.noSelect_spec hs;intro f;induction f with
 | zero =>
  intro ls a w _ _ hr hy hS h
  refine ⟨fun e=>absurd hr (by rw [e];exact fun k=>by cases k),fun j hj=>?_⟩
  by_cases e:j=i
  ·rw [e]
   exact hy.wpOp hi hS ⟨fun _=>hS,h⟩
  ·have g:=ready_mono hj e
   rw [h.1] at g
   cases g
 | succ f ih =>
  intro ls a w hap hc hr hy hS h
  refine ⟨fun e=>absurd hr (by rw [e];exact fun k=>by cases k),fun j hj=>?_⟩
  by_cases e:j=i
  ·rw [e]
   exact hy.wpOp hi hS ⟨fun _=>hS,h⟩
  ·obtain ⟨hju,oj,hoj,hall⟩:=mem_ready.1 hj
   have hiu:=(mem_ready.1 hr).1
   have hjz:=zie hz hc hoj hall hiu
   have hno:∀ e∈oj.after,Region.binds md e=true→e.on ≠ i:=fun e he hb k=>by
    have:=hall e he hb;rw [k,getD_both hiu] at this
    cases this
   have h2:=wpOp_putIf hoj (hap j oj hoj e hju hno) (fun cs b=>hsel i oi cs b hi) (fun cs b=>hsel j oj cs b hoj) hQ hy (h.2 j (ready_mono hj e))
   refine wpOp_mono (fun a' w' g=>⟨fun _=>g.2.1 hjz,ih (ls.setIfInBounds j true) a' w' (fun k ok hk hki hku hkn=>?_) (zic hc hj) (ready_mono hr (Ne.symm e)) g.1 (g.2.1 hjz) ?_⟩) h2
   ·refine hap k ok hk hki ?_ hkn
    by_cases q:j=k
    ·rw [← q];exact hju
    ·rw [getD_set_ne true q] at hku;exact hku
   ·rw [Array.setIfInBounds_comm _ _ e]
    exact g.2.2
theorem zig {i:Nat}{oi:Oper}{v:Value}{f:Nat}{ls:Array Bool}{a:Act}{w:World}(hi:ops[i]?=some oi)(hs:Region.noSelect ops=true)(hf:Region.free md ops ls i=true)(hr:(Region.ready md ops ls).contains i=true)(hz:(zBV md ops z i && zia md ops ls)=true)
  (hQ:∀ c a w,Q (.panic c) (a.put oi.dst v) w→Q (.panic c) a w) (hy:YieldsIf P ops S oi v a) (hS:S w) (h:zhY P md ops Q S z f (ls.setIfInBounds i true) (a.put oi.dst v) w):zhY P md ops Q S z (f+1) ls a w :=
 zif hi hs (Bool.and_eq_true _ _ ▸ hz).1 hQ f ls a w (Region.free_spec hi hf) (zib (Bool.and_eq_true _ _ ▸ hz).2) (by simpa using hr) hy hS h
theorem zih {i:Nat}{o:Oper}{f:Nat}{ls:Array Bool}{a:Act}{w:World}(hr:Region.ready md ops ls=[i])(ho:ops[i]?=some o)
  (h:∀ K:Act→World→Prop,Shut (∀ a w,S w→(S w→zhY P md ops Q S z f (ls.setIfInBounds i true) a w)→K a w)→if Region.wanted o (yielded ops a.tmps)=true then Oper.wp P o a w K Q else K (a.put o.dst undef) w):zhY P md ops Q S z (f+1) ls a w:=by
 refine ⟨fun e=>(by rw [hr] at e;cases e),fun j hj=>?_⟩;rw [hr,List.mem_singleton] at hj;subst hj;exact wpOp_step ho fun K hK=>h K fun a w hS g=>hK a w ⟨fun _=>hS,g hS⟩
theorem zii {i:Nat}{o:Oper}{f:Nat}{ls:Array Bool}{a:Act}{w:World}(hr:Region.ready md ops ls=[i])(hz:z≤i)(ho:ops[i]?=some o)
  (h:∀ K:Act→World→Prop,Shut (∀ a w,zhY P md ops Q S z f (ls.setIfInBounds i true) a w→K a w)→if Region.wanted o (yielded ops a.tmps)=true then Oper.wp P o a w K Q else K (a.put o.dst undef) w):zhY P md ops Q S z (f+1) ls a w:=by
 refine ⟨fun e=>(by rw [hr] at e;cases e),fun j hj=>?_⟩;rw [hr,List.mem_singleton] at hj;subst hj;exact wpOp_step ho fun K hK=>h K fun a w g=>hK a w ⟨fun k=>absurd k (by omega),g⟩
theorem zij {f:Nat}{ls:Array Bool}{a:Act}{w:World}(hr:Region.ready md ops ls=[])(h:Q .normal a w):zhY P md ops Q S z f ls a w:=by
 cases f with
 | zero=>exact ⟨hr,h⟩
 | succ f=>exact ⟨fun _=>h,fun i hi=>by rw [hr] at hi;cases hi⟩
theorem zik {id:Nat}{a:Act}{w:World}(z:Nat)(S:World→Prop)(hm:P.follows .mixedOrders=true)(hS:S w.drew)(h:S w.drew→zhY P .any ops Q S z ops.size (Array.replicate ops.size false) a w.drew):(Code.region id ops true).wp P Q a w :=
 wp_region_any hm (zhY.any (h hS))
end
end
section
open Go.RowKit Go.Lib Go.Shelf
theorem zil (w:World)(vx:Value)(x:List Int)(hx:Sl w vx (zap x)):Mat (w.alloc (.cells #[vx] 33)) (.slice (some ⟨w.heap.size,0,none⟩) 1 1) [x]:=by
 have hext:Ext w (w.alloc (.cells #[vx] 33)):=(Ext.refl w).alloc _;refine ⟨[vx],rfl,.inr ⟨w.heap.size,0,1,rfl,Nat.le_refl _,by unfold maxLen;omega,?_⟩,?_⟩
 ·intro i u hu;match i,hu with
  | 0,hu=>simp at hu;subst hu;rw [World.cell?_alloc_new];rfl
  | i+1,hu=>simp at hu
 ·intro i u hu;match i,hu with
  | 0,hu=>simp at hu;subst hu;exact hext.sl hx
  | i+1,hu=>simp at hu
theorem zim (vp vx:Value)(p x:List Int)(w:World)(hp:Sl w vp (zap p))(hx:Sl w vx (zap x))(hlp:p.length≤1000000)(hlx:x.length≤1000000)(h0:zgu p x=0) :
  Calls Tryz.prog 189 #[vp,vx] w fun e w'=>e=.returned (.tuple #[vx,.int .i64 0])∧Ext w w':=by
 have hext:Ext w (w.alloc (.cells #[vx] 33)):=(Ext.refl w).alloc _;have hc:=zgt vp (.slice (some ⟨w.heap.size,0,none⟩) 1 1) p [x] _ (hext.sl hp) (zil w vx x hx) hlp (by simp) (fun i=>by match i with | 0=>simpa using hlx | i+1=>simp)
 have he:zgm p [x]=0:=h0;rw [he] at hc;have Hc:=hid hc;clear hc he h0;have Hext:=hid hext;clear hext;obtain ⟨ap,cp,rfl,_,_,_⟩:=hp.parts;obtain ⟨ax,cx,rfl,_,_,_⟩:=hx.parts;clear hp hx;go_enter Tryz.func189,Tryz.ntmps189
 go_wp2_with fail
 refine Hc.out.mono ?_;rintro e w1 ⟨rfl,rfl⟩;go_wp2
 go_ret2
 exact ⟨rfl,Hext.out⟩
theorem zin {x:List Int}{j:Nat}(h:j<x.length):zap (x.take (j+1))=zap (x.take j)++[.int .i64 (zas x j)]:=by
 unfold zap zas;rw [List.take_succ_eq_append_getElem h,List.map_append,List.getD_eq_getElem?_getD,List.getElem?_eq_getElem h];rfl
theorem zio (vp vx vy:Value)(p x y:List Int)(k:Int)(w:World)(hp:Sl w vp (zap p))(hx:Sl w vx (zap x))(hy:Sl w vy (zap y))(hxe:zgu p x=0)(hye:zgu p y=0)(hk:k=1∨k=-1)(hse:zgu p (zgN x k y)=0) :
  Calls Tryz.prog 144 #[vp,vx,vy,.int .i64 k] w fun e w'=>∃ v,e=.returned (.tuple #[v,.int .i64 0])∧zc2 w' w.heap.size v (zgN x k y)∧Ext w w':=by
 obtain ⟨i0,hi,hz0,hz1,hz2⟩:=info_parts zc1;obtain ⟨hpe,hre⟩:=zg7 hxe;obtain ⟨hxl,hxb⟩:=zg6 hre;obtain ⟨hyl,hyb⟩:=zg6 (zg7 hye).2;obtain ⟨hp0,hp6,_⟩:=zc0 hpe;have hext:Ext w (w.alloc (.cells #[vx,vy] 33)):=(Ext.refl w).alloc _;have hc:=zgt vp (.slice (some ⟨w.heap.size,0,none⟩) 2 2) p [x,y] _ (hext.sl hp) (zhW w vx vy x y hx hy) (by omega) (by simp) (fun i=>by match i with | 0=>simp;omega | 1=>simp;omega | i+2=>simp)
 have he0:zgm p [x,y]=0:=zhU hxe hye;rw [he0] at hc;have hpl:=zgQ (k:=k) (show x.length=y.length by omega);have hrs:=fun v W (hE:Ext w W)(hv:Sl W v (zap (zgN x k y)))=>zim vp v p (zgN x k y) W (hE.sl hp) hv (by omega) (by omega) hse;have hat:=fun j (hj:j<x.length)=>zgR (k:=k) (show x.length=y.length by omega) hj;have hsn:=fun j (hj:j<x.length)=>zin (x:=zgN x k y) (j:=j) (by rw [hpl];exact hj);obtain ⟨ap,cp,rfl,_,_,_⟩:=hp.parts;obtain ⟨ax,cx,rfl,_,_,hcx⟩:=hx.parts;obtain ⟨ay,cy,rfl,_,_,hcy⟩:=hy.parts;simp only [zar] at *;have hyx:y.length=x.length:=by omega
 have hx9:x.length≤1000:=by omega
 rw [hyx] at hc hext ⊢;have Hc:=hid hc;have Hext:=hid hext;have Hpl:=hid hpl;have Hrs:=hid hrs;have Hat:=hid hat;have Hsn:=hid hsn;have Hcx:=hid hcx;have Hcy:=hid hcy;have Hxb:=hid hxb;have Hyb:=hid hyb;have Hyx:=hid hyx;clear hc hext hpl hrs hat hsn hcx hcy hxb hyb hyx;clear hp hx hy hxe hye hse hpe hre hxl hyl hp0 hp6 he0;go_enter Tryz.func144,Tryz.ntmps144
 go_wp2_with fail
 refine Hc.out.mono ?_;rintro e w1 ⟨rfl,rfl⟩;go_wp2_with fail
 generalize w.alloc (.cells #[.slice ax x.length cx,.slice ay x.length cy] 33)=w1 at *;go_loopw [11,23] (fun v11 v23 wr=>∃ j:Nat,v23=.int .i64 j∧j≤x.length∧Hid (wr.ownsRow w.heap.size 3 1 v11 j (zap ((zgN x k y).take j)))∧Hid (Ext w wr)) (fun _ v23 _=>x.length - (zal v23).toNat)
 case atStart=>exact ⟨0,rfl,Nat.zero_le _,hid (World.ownsRow_nil _ _ _ 1),Hext⟩
 case round =>
  obtain ⟨j,rfl,hj,HO,HE⟩:=hrel;obtain ⟨a11,c11,e11⟩:=zc3 HO.out;subst e11;by_cases hjn:j<x.length
  ·obtain ⟨bx1,ox,rfl,hcx0⟩:=Hcx.out j _ (zau hjn);obtain ⟨by1,oy,rfl,hcy0⟩:=Hcy.out j _ (zau (by rw [Hyx.out];exact hjn));have hc1:=HE.out.cell hcx0;have hc2:=HE.out.cell hcy0;obtain ⟨b1,b2⟩:=Hxb.out j hjn;obtain ⟨b3,b4⟩:=Hyb.out j (by rw [Hyx.out];exact hjn);have hs:=Hsn.out j hjn;rw [Hat.out j hjn] at hs;have hj0:(0:Int)≤(j:Int):=(by omega);have hj1:(j:Int)<(x.length:Int):=(by omega);have hk1:-1000≤k * zas y j:=by rcases hk with rfl | rfl <;> omega
   have hk2:k * zas y j≤1000:=by rcases hk with rfl | rfl <;> omega
   have Hs:=hid hs;clear hs;generalize zas x j=zx at *;generalize zas y j=zy at *;have hm3:j+1≤maxLen:=(by unfold maxLen;omega);have hm4:(j+1) * 8≤140737488355328:=(by omega);have hbase:=HE.out.size;have hkz:IntKind.i64.wrap (k * zy)=k * zy:=(by rw [IntKind.wrap_i64];omega);have hzz:IntKind.i64.wrap (zx+k * zy)=zx+k * zy:=(by rw [IntKind.wrap_i64];omega);go_wp2_with fail
   refine zik 15 (fun w'=>Ext w w'∧w'.cell? ⟨bx1,ox+j,none⟩=some (.int .i64 zx)∧w'.cell? ⟨by1,oy+j,none⟩=some (.int .i64 zy)) (by kernel_rfl) (⟨HE.out.drew,HE.out.drew.cell hcx0,HE.out.drew.cell hcy0⟩) (fun hHeld=>?_);refine zig (i:=0) (v:=?v0) rfl (by kernel_rfl) (by kernel_rfl) (by kernel_rfl) (by kernel_rfl) (fun _ _ _ h=>h) (Or.inl ⟨by rfl,?y0⟩) hHeld ?r0
   case y0=>(intro w hSw;(try dsimp only at hSw);go_simp;try with_reducible rfl)
   case r0 =>
   refine zig (i:=1) (v:=?v1) rfl (by kernel_rfl) (by kernel_rfl) (by kernel_rfl) (by kernel_rfl) (fun _ _ _ h=>h) (Or.inl ⟨by rfl,?y1⟩) hHeld ?r1
   case y1=>(intro w hSw;(try dsimp only at hSw);go_simp;try with_reducible rfl)
   case r1 =>
   refine zig (i:=2) (v:=?v2) rfl (by kernel_rfl) (by kernel_rfl) (by kernel_rfl) (by kernel_rfl) (fun _ _ _ h=>h) (Or.inl ⟨by rfl,?y2⟩) hHeld ?r2
   case y2=>(intro w hSw;(try dsimp only at hSw);go_simp;try with_reducible rfl)
   case r2 =>
   refine zig (i:=3) (v:=?v3) rfl (by kernel_rfl) (by kernel_rfl) (by kernel_rfl) (by kernel_rfl) (fun _ _ _ h=>h) (Or.inl ⟨by rfl,?y3⟩) hHeld ?r3
   case y3=>(intro w hSw;(try dsimp only at hSw);go_simp;try with_reducible rfl)
   case r3 =>
   refine zig (i:=4) (v:=?v4) rfl (by kernel_rfl) (by kernel_rfl) (by kernel_rfl) (by kernel_rfl) (fun _ _ _ h=>h) (Or.inl ⟨by rfl,?y4⟩) hHeld ?r4
   case y4=>(intro w hSw;(try dsimp only at hSw);go_simp;try with_reducible rfl)
   case r4 =>
   refine zig (i:=5) (v:=?v5) rfl (by kernel_rfl) (by kernel_rfl) (by kernel_rfl) (by kernel_rfl) (fun _ _ _ h=>h) (Or.inl ⟨by rfl,?y5⟩) hHeld ?r5
   case y5=>(intro w hSw;(try dsimp only at hSw);go_simp;try with_reducible rfl)
   case r5 =>
   refine zig (i:=6) (v:=?v6) rfl (by kernel_rfl) (by kernel_rfl) (by kernel_rfl) (by kernel_rfl) (fun _ _ _ h=>h) (Or.inl ⟨by rfl,?y6⟩) hHeld ?r6
   case y6=>(intro w hSw;(try dsimp only at hSw);go_simp;try with_reducible rfl)
   case r6 =>
   refine zig (i:=7) (v:=?v7) rfl (by kernel_rfl) (by kernel_rfl) (by kernel_rfl) (by kernel_rfl) (fun _ _ _ h=>h) (Or.inl ⟨by rfl,?y7⟩) hHeld ?r7
   case y7=>(intro w hSw;(try dsimp only at hSw);go_simp;try with_reducible rfl)
   case r7 =>
   refine zig (i:=8) (v:=?v8) rfl (by kernel_rfl) (by kernel_rfl) (by kernel_rfl) (by kernel_rfl) (fun _ _ _ h=>h) (Or.inl ⟨by rfl,?y8⟩) hHeld ?r8
   case y8=>(intro w hSw;(try dsimp only at hSw);go_simp;try with_reducible rfl)
   case r8 =>
   refine zig (i:=9) (v:=?v9) rfl (by kernel_rfl) (by kernel_rfl) (by kernel_rfl) (by kernel_rfl) (fun _ _ _ h=>h) (Or.inl ⟨by rfl,?y9⟩) hHeld ?r9
   case y9=>(intro w hSw;(try dsimp only at hSw);go_simp;try with_reducible rfl)
   case r9 =>
   refine zig (i:=10) (v:=?v10) rfl (by kernel_rfl) (by kernel_rfl) (by kernel_rfl) (by kernel_rfl) (fun _ _ _ h=>h) (Or.inl ⟨by rfl,?y10⟩) hHeld ?r10
   case y10=>(intro w hSw;(try dsimp only at hSw);go_simp;try with_reducible rfl)
   case r10 =>
   refine zig (i:=11) (v:=?v11) rfl (by kernel_rfl) (by kernel_rfl) (by kernel_rfl) (by kernel_rfl) (fun _ _ _ h=>h) (Or.inl ⟨by rfl,?y11⟩) hHeld ?r11
   case y11=>(intro w hSw;(try dsimp only at hSw);go_simp;try with_reducible rfl)
   case r11 =>
   refine zih (i:=12) (by kernel_rfl) rfl (fun K hK=>?_);go_simp
   have hE5:Ext w (wr.alloc (.cells #[.int .i64 (zx+k * zy)] 3)).drew:=(HE.out.alloc _).drew;have ho5:=(HO.out.alloc (.cells #[.int .i64 (zx+k * zy)] 3)).drew;refine hK.out _ _ (⟨hE5,hE5.cell hcx0,hE5.cell hcy0⟩) (fun hHeld=>?_);clear hK K;refine zih (i:=13) (by kernel_rfl) rfl (fun K hK=>?_);refine step_append_lies _ rfl (.tmp 26) (.tmp 38) 33 rfl w.heap.size 3 i0 (.int .i64 0) 1 8 Tryz.underlying33 hi hz0 hz1 hz2 rfl (by decide) (.slice a11 j c11) j (zap ((zgN x k y).take j)) (by rfl) ho5 ⟨wr.heap.size,0,none⟩ 1 1 [.int .i64 (zx+k * zy)] (by rfl) rfl (fun q u hu=>(Ext.refl _).drew.cell (cell_one_new wr _ _ q u hu)) (by simp [Value.oneCell']) (by decide) hm3 hm4 hE5.size _ rfl ?_;intro g1 c1 V1 hown2 hgrow2 hat2 hlt2;have HX:=hid (hE5.grown hgrow2 fun q hq=>(World.ownsRow.lt ho5 q hq).1);clear hat2 hlt2 hgrow2 hE5 ho5;refine hK.out _ _ (⟨HX.out,HX.out.cell hcx0,HX.out.cell hcy0⟩) (fun hHeld=>?_);clear hK K;refine zig (i:=14) (v:=?v14) rfl (by kernel_rfl) (by kernel_rfl) (by kernel_rfl) (by kernel_rfl) (fun _ _ _ h=>h) (Or.inl ⟨by rfl,?y14⟩) hHeld ?r14
   case y14=>(intro w hSw;(try dsimp only at hSw);go_simp;try with_reducible rfl)
   case r14 =>
   refine zij (by kernel_rfl) ?_;have Hs7:=hid (show V1.ownsRow w.heap.size 3 1 (.slice (some ⟨g1,0,none⟩) (j+1) c1) (j+1) (zap ((zgN x k y).take (j+1))) by rw [Hs.out];exact hown2);have HE7:=HX;clear hown2 hc1 hc2 hm3 hm4 hbase hcx0 hcy0;go_wp2_with fail
   go_roundw
   case rel=>exact ⟨j+1,by go_num,hjn,Hs7,HE7⟩
   case measure=>simp [zal];omega
  ·have hjl:j=x.length:=(by omega);have hnj:¬ (j:Int)<(x.length:Int):=(by omega);have hO:=HO.out;rw [hjl,List.take_of_length_le (by rw [Hpl.out];exact Nat.le_refl _)] at hO;have hO9:zc2 wr w.heap.size (.slice a11 x.length c11) (zgN x k y):=by
    unfold zc2;rw [Hpl.out];exact hO
   have hr9:=Hrs.out (.slice a11 x.length c11) wr HE.out hO9.sl;have HO9:=hid hO9;have Hr9:=hid hr9;clear hO9 hr9;subst hjl;clear hO;go_wp2_with fail
   refine Hr9.out.mono ?_;rintro e w9 ⟨rfl,hx9⟩;have HO10:=hid (hx9.ownI HO9.out);have HE10:=hid (HE.out.trans hx9);clear hx9;go_wp2
   go_ret2
   exact ⟨_,rfl,HO10.out,HE10.out⟩
theorem zip (vp vx vy:Value)(p x y:List Int)(w:World)(hp:Sl w vp (zap p))(hx:Sl w vx (zap x))(hy:Sl w vy (zap y))(hxe:zgu p x=0)(hye:zgu p y=0)(hse:zgu p (zgN x 1 y)=0) :
  Calls Tryz.prog 102 #[vp,vx,vy] w fun e w'=>∃ v,e=.returned (.tuple #[v,.int .i64 0])∧zc2 w' w.heap.size v (zgN x 1 y)∧Ext w w':=by
 have hs:=zio vp vx vy p x y 1 w hp hx hy hxe hye (.inl rfl) hse;obtain ⟨ap,cp,rfl,_,_,_⟩:=hp.parts;obtain ⟨ax,cx,rfl,_,_,_⟩:=hx.parts;obtain ⟨ay,cy,rfl,_,_,_⟩:=hy.parts;have Hs:=hid hs;clear hs;clear hp hx hy hxe hye hse;go_enter Tryz.func102,Tryz.ntmps102
 go_wp2_with fail
 refine Hs.out.mono ?_;rintro e w9 ⟨v,rfl,ho,hx9⟩;have Ho:=hid ho;have Hx9:=hid hx9;obtain ⟨av,cv,ev⟩:=zc3 ho;subst ev;clear ho hx9;go_wp2
 go_ret2
 exact ⟨_,rfl,Ho.out,Hx9.out⟩
theorem ziq (vp vx vy:Value)(p x y:List Int)(w:World)(hp:Sl w vp (zap p))(hx:Sl w vx (zap x))(hy:Sl w vy (zap y))(hxe:zgu p x=0)(hye:zgu p y=0)(hse:zgu p (zgN x (-1) y)=0) :
  Calls Tryz.prog 103 #[vp,vx,vy] w fun e w'=>∃ v,e=.returned (.tuple #[v,.int .i64 0])∧zc2 w' w.heap.size v (zgN x (-1) y)∧Ext w w':=by
 have hs:=zio vp vx vy p x y (-1) w hp hx hy hxe hye (.inr rfl) hse;obtain ⟨ap,cp,rfl,_,_,_⟩:=hp.parts;obtain ⟨ax,cx,rfl,_,_,_⟩:=hx.parts;obtain ⟨ay,cy,rfl,_,_,_⟩:=hy.parts;have Hs:=hid hs;clear hs;clear hp hx hy hxe hye hse;go_enter Tryz.func103,Tryz.ntmps103
 go_wp2_with fail
 refine Hs.out.mono ?_;rintro e w9 ⟨v,rfl,ho,hx9⟩;have Ho:=hid ho;have Hx9:=hid hx9;obtain ⟨av,cv,ev⟩:=zc3 ho;subst ev;clear ho hx9;go_wp2
 go_ret2
 exact ⟨_,rfl,Ho.out,Hx9.out⟩
end
end Go.Proofs.YtipkdebkdnbieaaGreatDoor
