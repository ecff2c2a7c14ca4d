/- Plain: one period more of an interval, how great its numbers are, equal values are equal intervals (for the ten lists of primes of law 12). Walk: monzo.Compare at right or wrong intervals. (KEEPALL) Walk: epimorphism.plus: a row and a multiple of another one. (KEEPALL) Regions that draw their order: a load is taken first although the last operations of the region store into its cell. (XHeldZ's laws once more, the depth 12 in the place of 4; KEEPALL) -/
import Derived.Test.YtipkdebkdnbieaaGreatDoorPe12
import Derived.RegionTactic
import Derived.OrdersHeld
import Derived.StillTail
import Derived.Deep.RegionHeld3
import Derived.Test.YtipkdebkdnbieaaGreatDoorPe00
set_option maxRecDepth 100000
set_option maxHeartbeats 2000000
namespace Go.Proofs.YtipkdebkdnbieaaGreatDoor
section
open Go.RowKit Go.Lib
def zhi (z:Int):Nat:=if 0<z then z.natAbs else 0
def zhj (z:Int):Nat:=if 0<z then 0 else z.natAbs
def zhk (f:Nat→Nat):Nat→Nat
 | 0=>1
 | k+1=>zhk f k * f k
def prN (p:List Int)(a:Nat→Nat)(k:Nat):Nat:=zhk (fun i=>(zas p i).toNat ^ a i) k
theorem zhl (p x:List Int):∀ k,zgt p x k=prN p (fun i=>zhi (zas x i)) k
 | 0=>rfl
 | k+1=>by
  show (if 0<zas x k then zgt p x k * (zas p k).toNat ^ (zas x k).natAbs else zgt p x k)=prN p (fun i=>zhi (zas x i)) k * (zas p k).toNat ^ zhi (zas x k);rw [← zhl p x k];unfold zhi;by_cases h:0<zas x k
  ·rw [if_pos h,if_pos h]
  ·rw [if_neg h,if_neg h,Nat.pow_zero,Nat.mul_one]
theorem zhm (p x:List Int):∀ k,zgu p x k=prN p (fun i=>zhj (zas x i)) k
 | 0=>rfl
 | k+1=>by
  show (if 0<zas x k then zgu p x k else zgu p x k * (zas p k).toNat ^ (zas x k).natAbs)=prN p (fun i=>zhj (zas x i)) k * (zas p k).toNat ^ zhj (zas x k);rw [← zhm p x k];unfold zhj;by_cases h:0<zas x k
  ·rw [if_pos h,if_pos h,Nat.pow_zero,Nat.mul_one]
  ·rw [if_neg h,if_neg h]
theorem zhn (p:List Int)(a b:Nat→Nat):∀ k,prN p a k * prN p b k=prN p (fun i=>a i+b i) k
 | 0=>rfl
 | k+1=>by
  have ih:=zhn p a b k;unfold prN at ih ⊢;unfold zhk;rw [← ih,Nat.pow_add];exact Nat.mul_mul_mul_comm _ _ _ _
theorem zho {p:List Int}{a:Nat→Nat}:∀ {k:Nat},(∀ i,i<k→0<zas p i)→0<prN p a k
 | 0,_=>Nat.one_pos
 | k+1,h=>by
  have ih:=zho (a:=a) (k:=k) fun i hi=>h i (by omega);unfold prN at ih ⊢;unfold zhk;exact Nat.mul_pos ih (Nat.pow_pos (by have:=h k (by omega);omega))
theorem zhp {p:List Int}{a b:Nat→Nat}:∀ {k:Nat},(∀ i,i<k→a i=b i)→prN p a k=prN p b k
 | 0,_=>rfl
 | k+1,h=>by
  have ih:=zhp (p:=p) (a:=a) (b:=b) (k:=k) fun i hi=>h i (by omega);unfold prN at ih ⊢;unfold zhk;rw [ih,h k (by omega)]
theorem zhq {p:List Int}{a b:Nat→Nat}:∀ {k:Nat},(∀ i,i<k→0<zas p i)→(∀ i,i<k→a i≤b i)→prN p a k≤prN p b k
 | 0,_,_=>Nat.le_refl _
 | k+1,h,h2=>by
  have ih:=zhq (p:=p) (a:=a) (b:=b) (k:=k) (fun i hi=>h i (by omega)) fun i hi=>h2 i (by omega);unfold prN at ih ⊢;unfold zhk;exact Nat.mul_le_mul ih (Nat.pow_le_pow_right (by have:=h k (by omega);omega) (h2 k (by omega)))
theorem zhr {p:List Int}{a b:Nat→Nat}:∀ {k:Nat},(∀ i,i<k→2≤(zas p i).toNat)→(∀ i j,i<k→j<i→Nat.Coprime (zas p i).toNat (zas p j).toNat)→prN p a k=prN p b k→∀ i,i<k→a i=b i
 | 0,_,_,_=>fun i hi=>by omega
 | k+1,h2,hc,he=>by
  have hcp:∀ c:Nat→Nat,∀ m,m≤k→Nat.Coprime (zas p k).toNat (prN p c m):=fun c m=>by
   induction m with
   | zero=>intro _;exact Nat.coprime_one_right _
   | succ m ih =>
    intro hm
    have:=ih (by omega)
    unfold prN at this ⊢
    unfold zhk
    exact Nat.Coprime.mul_right this (Nat.Coprime.pow_right _ (hc k m (by omega) (by omega)))
  have key:∀ c d:Nat→Nat,prN p c (k+1)=prN p d (k+1)→¬ c k<d k:=fun c d h hlt=>by
   have e1:prN p c (k+1)=prN p c k * (zas p k).toNat ^ c k:=rfl;have e2:prN p d (k+1)=prN p d k * (zas p k).toNat ^ d k:=rfl;rw [e1,e2,show d k=(d k - c k)+c k by omega,Nat.pow_add,← Nat.mul_assoc] at h;have hp:0<(zas p k).toNat ^ c k:=Nat.pow_pos (by have:=h2 k (by omega);omega);have h3:=Nat.eq_of_mul_eq_mul_right hp h;have hd:(zas p k).toNat ∣ prN p c k:=by
    rw [h3];exact Nat.dvd_trans (Nat.dvd_trans (Nat.dvd_refl _) (by
     rw [show d k - c k=(d k - c k - 1)+1 by omega,Nat.pow_succ];exact Nat.dvd_mul_left _ _)) (Nat.dvd_mul_left _ _)
   have:=Nat.Coprime.eq_one_of_dvd (hcp c k (Nat.le_refl _)) hd;have:=h2 k (by omega);omega
  have hk:a k=b k:=by
   have:=key a b he;have:=key b a he.symm;omega
  have e1:prN p a (k+1)=prN p a k * (zas p k).toNat ^ a k:=rfl;have e2:prN p b (k+1)=prN p b k * (zas p k).toNat ^ b k:=rfl;rw [e1,e2,hk] at he;have hp:0<(zas p k).toNat ^ b k:=Nat.pow_pos (by have:=h2 k (by omega);omega);have ih:=zhr (p:=p) (a:=a) (b:=b) (k:=k) (fun i hi=>h2 i (by omega)) (fun i j hi hj=>hc i j (by omega) hj) (Nat.eq_of_mul_eq_mul_right hp he);intro i hi;rcases Nat.lt_or_ge i k with g | g
  ·exact ih i g
  ·obtain rfl:i=k:=by omega
   exact hk
structure zhs (p:List Int):Prop where
 pe:zcw p=0
 len:0<p.length∧p.length≤4
 two:∀ i,i<p.length→2≤(zas p i).toNat
 cop:∀ i j,i<p.length→j<i→Nat.Coprime (zas p i).toNat (zas p j).toNat
 top:prN p (fun i=>if i=0 then 0 else 9) p.length<(zas p 0).toNat ^ 100
theorem zht (n:Nat):zhs (zgS (zha n)):=by
 have h:∀ r,r<10→(let p:=zgS (zgZ.getD r []);zcw p=0∧(0<p.length∧p.length≤4)∧(∀ i,i<p.length→2≤(zas p i).toNat)∧(∀ i,i<p.length→∀ j,j<i→Nat.gcd (zas p i).toNat (zas p j).toNat=1)∧prN p (fun i=>if i=0 then 0 else 9) p.length<(zas p 0).toNat ^ 100):=by decide +kernel
 obtain ⟨h1,h2,h3,h4,h5⟩:=h (n % 10) (Nat.mod_lt _ (by decide));exact ⟨h1,h2,h3,fun i j hi hj=>h4 i hi j hj,h5⟩
theorem zhs.pos {p:List Int}(h:zhs p):∀ i,i<p.length→0<zas p i:=fun i hi=>by have:=h.two i hi;omega
theorem zhu {p x y:List Int}(h:zhs p)(hx:x.length=p.length)(hy:y.length=p.length)(he:zgI p x y=0):x=y:=by
 unfold zgI at he;have he2:zgv p x * zgw p y=zgv p y * zgw p x:=by
  have:=(zgK ((zgv p x * zgw p y:Nat):Int) ((zgv p y * zgw p x:Nat):Int)).1 (by omega);have h2:=zgJ ((zgv p x * zgw p y:Nat):Int) ((zgv p y * zgw p x:Nat):Int);have:=(zgK ((zgv p y * zgw p x:Nat):Int) ((zgv p x * zgw p y:Nat):Int)).1 (by omega);omega
 unfold zgv zgw at he2;rw [hx,hy,zhl,zhm,zhl,zhm,zhn,zhn] at he2;have hi:=zhr h.two h.cop he2;apply List.ext_getElem (hx.trans hy.symm);intro i h1 h2;have:=hi i (by omega);have e1:zas x i=x[i]:=by unfold zas;rw [List.getD_eq_getElem?_getD,List.getElem?_eq_getElem h1];rfl
 have e2:zas y i=y[i]:=by unfold zas;rw [List.getD_eq_getElem?_getD,List.getElem?_eq_getElem h2];rfl
 rw [e1,e2] at this;unfold zhi zhj at this;(repeat' split at this) <;> omega
def bmp (k:Int):List Int→List Int
 | []=>[]
 | a::l=>(a+k)::l
theorem zhv (k:Int)(x:List Int):(bmp k x).length=x.length:=by cases x <;> rfl
theorem zhw (k j:Int)(x:List Int):bmp k (bmp j x)=bmp (j+k) x:=by
 cases x with
 | nil=>rfl
 | cons a l=>show (a+j+k)::l=(a+(j+k))::l;rw [Int.add_assoc]
theorem zhx (x:List Int):bmp 0 x=x:=by
 cases x with
 | nil=>rfl
 | cons a l=>show (a+0)::l=a::l;rw [Int.add_zero]
theorem zhy {x:List Int}(h:0<x.length)(k:Int):zas (bmp k x) 0=zas x 0+k:=by
 cases x with
 | nil=>simp at h
 | cons a l=>rfl
theorem zhz (k:Int)(x:List Int){i:Nat}(h:0<i):zas (bmp k x) i=zas x i:=by
 cases x with
 | nil=>rfl
 | cons a l =>
  obtain ⟨j,rfl⟩:∃ j,i=j+1:=⟨i - 1,by omega⟩
  rfl
theorem zh0 {p x:List Int}(hp:0<zas p 0):∀ k,0<k→0<x.length→zgt p (bmp 1 x) k * zgu p x k=(zas p 0).toNat * (zgt p x k * zgu p (bmp 1 x) k)
 | 0,h,_=>by omega
 | 1,_,hx=>by
  unfold zgt zgu;unfold zgt zgu;rw [zhy hx];generalize zas x 0=a;generalize (zas p 0).toNat=q;by_cases h1:0<a
  ·rw [if_pos h1,if_pos h1,if_pos (show 0<a+1 by omega),if_pos (show 0<a+1 by omega),show (a+1).natAbs=a.natAbs+1 by omega,Nat.pow_succ];simp only [Nat.one_mul,Nat.mul_one];exact Nat.mul_comm _ _
  ·by_cases h2:a=0
   ·subst h2;simp
   ·rw [if_neg h1,if_neg h1,if_neg (show ¬ 0<a+1 by omega),if_neg (show ¬ 0<a+1 by omega),show a.natAbs=(a+1).natAbs+1 by omega,Nat.pow_succ];simp only [Nat.one_mul];exact Nat.mul_comm _ _
 | k+2,_,hx=>by
  have ih:=zh0 (p:=p) (x:=x) hp (k+1) (by omega) hx;have e1:zgt p (bmp 1 x) (k+2)=if 0<zas x (k+1) then zgt p (bmp 1 x) (k+1) * (zas p (k+1)).toNat ^ (zas x (k+1)).natAbs else zgt p (bmp 1 x) (k+1):=by
   show (if 0<zas (bmp 1 x) (k+1) then _ else _)=_;rw [zhz 1 x (by omega)]
  have e2:zgu p (bmp 1 x) (k+2)=if 0<zas x (k+1) then zgu p (bmp 1 x) (k+1) else zgu p (bmp 1 x) (k+1) * (zas p (k+1)).toNat ^ (zas x (k+1)).natAbs:=by
   show (if 0<zas (bmp 1 x) (k+1) then _ else _)=_;rw [zhz 1 x (by omega)]
  have e3:zgt p x (k+2)=if 0<zas x (k+1) then zgt p x (k+1) * (zas p (k+1)).toNat ^ (zas x (k+1)).natAbs else zgt p x (k+1):=rfl;have e4:zgu p x (k+2)=if 0<zas x (k+1) then zgu p x (k+1) else zgu p x (k+1) * (zas p (k+1)).toNat ^ (zas x (k+1)).natAbs:=rfl;rw [e1,e2,e3,e4];generalize (zas p (k+1)).toNat ^ (zas x (k+1)).natAbs=f;generalize zgt p (bmp 1 x) (k+1)=A at *;generalize zgu p x (k+1)=D at *;generalize zgt p x (k+1)=N at *;generalize zgu p (bmp 1 x) (k+1)=E at *;generalize (zas p 0).toNat=q at *;split
  ·rw [Nat.mul_right_comm A f D,ih,Nat.mul_right_comm N f E,Nat.mul_assoc]
  ·rw [← Nat.mul_assoc A D f,ih,← Nat.mul_assoc N E f,Nat.mul_assoc]
theorem zh1 {p x:List Int}(h:zhs p)(hx:x.length=p.length):zgv p (bmp 1 x) * zgw p x=(zas p 0).toNat * (zgv p x * zgw p (bmp 1 x)):=by
 unfold zgv zgw;rw [zhv,hx];exact zh0 (h.pos 0 h.len.1) _ h.len.1 (by rw [hx];exact h.len.1)
theorem zh2 {p x:List Int}(h:zhs p)(hx:x.length=p.length):0<zgw p x∧0<zgv p x:=by
 unfold zgw zgv;rw [zhm,zhl,hx];exact ⟨zho h.pos,zho h.pos⟩
def Tl9 (x:List Int):Prop:=∀ i,0<i→(zas x i).natAbs≤9
theorem Tl9.bmp {x:List Int}(h:Tl9 x)(k:Int):Tl9 (bmp k x):=fun i hi=>by rw [zhz k x hi];exact h i hi
theorem zh3 {p:List Int}{a:Nat→Nat}{k:Nat}(hp:∀ i,i<k→0<zas p i)(hk:0<k):(zas p 0).toNat ^ a 0≤prN p a k:=by
 induction k with
 | zero=>omega
 | succ k ih =>
  rcases Nat.eq_zero_or_pos k with rfl | hk2
  ·show _≤1 * _
   rw [Nat.one_mul];exact Nat.le_refl _
  ·have:=ih (fun i hi=>hp i (by omega)) hk2
   show _≤prN p a k * (zas p k).toNat ^ a k
   exact Nat.le_trans this (Nat.le_mul_of_pos_right _ (Nat.pow_pos (by have:=hp k (by omega);omega)))
theorem zh4 {p x:List Int}(h:zhs p)(hx:x.length=p.length)(ht:Tl9 x)(h0:100≤zas x 0):zgw p x<zgv p x:=by
 unfold zgw zgv;rw [zhm,zhl,hx];have h1:=zhq (p:=p) (a:=fun i=>zhj (zas x i)) (b:=fun i=>if i=0 then 0 else 9) (k:=p.length) h.pos fun i hi=>by
  by_cases e:i=0
  ·subst e;unfold zhj;simp;omega
  ·have:=ht i (by omega);rw [if_neg e];unfold zhj;split <;> omega
 have h2:=zh3 (a:=fun i=>zhi (zas x i)) h.pos h.len.1;have h3:(zas p 0).toNat ^ 100≤(zas p 0).toNat ^ zhi (zas x 0):=Nat.pow_le_pow_right (by have:=h.two 0 h.len.1;omega) (by unfold zhi;split <;> omega)
 have:=h.top;omega
theorem zh5 {p x:List Int}(h:zhs p)(hx:x.length=p.length)(ht:Tl9 x)(h0:zas x 0≤-100):zgv p x<zgw p x:=by
 unfold zgw zgv;rw [zhm,zhl,hx];have h1:=zhq (p:=p) (a:=fun i=>zhi (zas x i)) (b:=fun i=>if i=0 then 0 else 9) (k:=p.length) h.pos fun i hi=>by
  by_cases e:i=0
  ·subst e;unfold zhi;simp;omega
  ·have:=ht i (by omega);rw [if_neg e];unfold zhi;split <;> omega
 have h2:=zh3 (a:=fun i=>zhj (zas x i)) h.pos h.len.1;have h3:(zas p 0).toNat ^ 100≤(zas p 0).toNat ^ zhj (zas x 0):=Nat.pow_le_pow_right (by have:=h.two 0 h.len.1;omega) (by unfold zhj;split <;> omega)
 have:=h.top;omega
def zh6 (n:Nat):List Int:=bmp 1 (zgM n)
theorem zh7 {p:List Int}(h:zhs p):zgv p (zh6 p.length)=(zas p 0).toNat∧zgw p (zh6 p.length)=1:=by
 have hz:(zgM p.length).length=p.length:=List.length_replicate;have e1:zgv p (zgM p.length)=1:=(zgQ p _ _).1;have e2:zgw p (zgM p.length)=1:=(zgQ p _ _).2;have hb:=zh1 h hz;have hd:zgw p (zh6 p.length)=1:=by
  unfold zgw zh6;rw [zhv,hz,zhm];have:prN p (fun i=>zhj (zas (bmp 1 (zgM p.length)) i)) p.length=prN p (fun _=>0) p.length:=zhp fun i hi=>by
   by_cases e:i=0
   ·subst e;rw [zhy (by rw [hz];exact hi)];unfold zgM;rw [zgP];rfl
   ·rw [zhz 1 _ (by omega)];unfold zgM;rw [zgP];rfl
  rw [this];have:∀ k,prN p (fun _=>0) k=1:=fun k=>by
   induction k with
   | zero=>rfl
   | succ k ih=>show prN p (fun _=>0) k * _ ^ 0=1;rw [ih];rfl
  exact this _
 rw [e1,e2] at hb;have e3:bmp 1 (zgM p.length)=zh6 p.length:=rfl;rw [e3,hd] at hb;exact ⟨by omega,hd⟩
theorem zh8 (a b:Int):zbj a b<0 ↔ a<b:=by unfold zbj;(repeat' split) <;> omega
theorem zh9 {p x:List Int}(h:zhs p)(hx:x.length=p.length)(h1:zgv p x<zgw p x):zgI p (bmp 1 x) (zh6 p.length)<0:=by
 obtain ⟨e1,e2⟩:=zh7 h;unfold zgI;rw [zh8,e1,e2,Nat.mul_one];have hb:=zh1 h hx;obtain ⟨d1,_⟩:=zh2 h hx;obtain ⟨d2,_⟩:=zh2 (x:=bmp 1 x) h (by rw [zhv,hx]);have hp:0<(zas p 0).toNat:=by have:=h.two 0 h.len.1;omega
 have h2:zgv p x * zgw p (bmp 1 x)<zgw p x * zgw p (bmp 1 x):=Nat.mul_lt_mul_of_pos_right h1 d2;have h3:(zas p 0).toNat * (zgv p x * zgw p (bmp 1 x))<(zas p 0).toNat * (zgw p x * zgw p (bmp 1 x)):=Nat.mul_lt_mul_of_pos_left h2 hp;rw [← hb,show (zas p 0).toNat * (zgw p x * zgw p (bmp 1 x))=(zas p 0).toNat * zgw p (bmp 1 x) * zgw p x by rw [Nat.mul_assoc,Nat.mul_comm (zgw p x)]] at h3;have:=Nat.lt_of_mul_lt_mul_right h3;omega
theorem zhA {p x:List Int}(h:zhs p)(hx:x.length=p.length)(h1:¬ zgI p x (zh6 p.length)<0):zgw p (bmp (-1) x)≤zgv p (bmp (-1) x):=by
 apply Classical.byContradiction;intro hn;have h2:=zh9 h (x:=bmp (-1) x) (by rw [zhv,hx]) (by omega);rw [zhw,show (-1:Int)+1=0 from rfl,zhx] at h2;exact h1 h2
def zhB (p x y:List Int):Int:=zgj p [x,y]
theorem zhC {p x y:List Int}(h:zhB p x y=0):zcw p=0∧zgh p.length x=0∧zgh p.length y=0:=by
 unfold zhB zgj at h;by_cases h0:zcw p=0
 ·rw [if_neg (by simpa using h0)] at h;refine ⟨h0,?_⟩;rw [zgi] at h;by_cases h1:zgh p.length x=0
  ·rw [if_neg (by simpa using h1),zgi] at h;refine ⟨h1,?_⟩;by_cases h2:zgh p.length y=0
   ·exact h2
   ·rw [if_pos h2] at h;exact h
  ·rw [if_pos h1] at h;exact absurd h h1
 ·rw [if_pos h0] at h;exact absurd h h0
theorem zhD {p x y:List Int}(h1:zgr p x=0)(h2:zgr p y=0):zhB p x y=0:=by
 obtain ⟨a,b⟩:=zg4 h1;obtain ⟨_,c⟩:=zg4 h2;unfold zhB zgj;rw [if_neg (by simpa using a),zgi,if_neg (by simpa using b),zgi,if_neg (by simpa using c)];rfl
def zhE (p x y:List Int):Int:=if zhB p x y ≠ 0 then 0 else zgI p x y
theorem zhF (w:World)(vx vy:Value)(x y:List Int)(hx:Sl w vx (zap x))(hy:Sl w vy (zap y)):Mat (w.alloc (.cells #[vx,vy] 33)) (.slice (some ⟨w.heap.size,0,none⟩) 2 2) [x,y]:=by
 have hext:Ext w (w.alloc (.cells #[vx,vy] 33)):=(Ext.refl w).alloc _;refine ⟨[vx,vy],rfl,.inr ⟨w.heap.size,0,2,rfl,Nat.le_refl _,by unfold maxLen;omega,?_⟩,?_⟩
 ·intro i u hu;match i,hu with
  | 0,hu=>simp at hu;subst hu;rw [World.cell?_alloc_new];rfl
  | 1,hu=>simp at hu;subst hu;rw [World.cell?_alloc_new];rfl
  | i+2,hu=>simp at hu
 ·intro i u hu;match i,hu with
  | 0,hu=>simp at hu;subst hu;exact hext.sl hx
  | 1,hu=>simp at hu;subst hu;exact hext.sl hy
  | i+2,hu=>simp at hu
theorem zhG (vp vx vy:Value)(p x y:List Int)(w:World)(he:Env w)(hp:Sl w vp (zap p))(hx:Sl w vx (zap x))(hy:Sl w vy (zap y))(hlp:p.length≤1000000)(hlx:x.length≤1000000)(hly:y.length≤1000000) :
  Calls Tryz.prog 68 #[vp,vx,vy] w fun e w'=>e=.returned (.tuple #[.int .i64 (zhE p x y),.int .i64 (zhB p x y)])∧Ext w w':=by
 have hext:Ext w (w.alloc (.cells #[vx,vy] 33)):=(Ext.refl w).alloc _;have hc:=zgq vp (.slice (some ⟨w.heap.size,0,none⟩) 2 2) p [x,y] _ (hext.sl hp) (zhF w vx vy x y hx hy) hlp (by simp) (fun i=>by match i with | 0=>simpa using hlx | 1=>simpa using hly | i+2=>simp)
 have Hc:=hid hc;clear hc;have Hext:=hid hext;clear hext;have He:=hid he;clear he;have Hp:=hid hp;have Hx:=hid hx;have Hy:=hid hy;obtain ⟨ap,cp,rfl,_,_,_⟩:=hp.parts;obtain ⟨ax,cx,rfl,_,_,_⟩:=hx.parts;obtain ⟨ay,cy,rfl,_,_,_⟩:=hy.parts;simp only [zar] at *;clear hp hx hy;have hae:zgj p [x,y]=zhB p x y:=rfl;rw [hae] at Hc;clear hae;unfold zhE;by_cases h0:zhB p x y=0
 ·rw [if_neg (by simpa using h0),h0];obtain ⟨hp0,hx0,hy0⟩:=zhC h0;have hnx:=zg5 hp0 hx0;have hny:=zg5 hp0 hy0;rw [h0] at Hc;unfold zgI;have d1:=zg6 hnx;have d2:=zg7 hnx;have d3:=zg6 hny;have d4:=zg7 hny;have Hnx:=hid hnx;have Hny:=hid hny;have m1:=zbD (zgv p x) (zgw p y);have m2:=zbD (zgv p y) (zgw p x);have HD:=hid (And.intro d1 (And.intro d2 (And.intro d3 (And.intro d4 (And.intro m1 m2)))));clear h0 hp0 hx0 hy0 hnx hny d1 d2 d3 d4 m1 m2;go_enter Tryz.func68,Tryz.ntmps68
  go_wp2_with fail
  refine Hc.out.mono ?_;rintro e w1 ⟨rfl,rfl⟩;go_wp2_with fail
  refine (zg2 _ _ p x _ (He.out.ext Hext.out) (Hext.out.sl Hp.out) (Hext.out.sl Hx.out) Hnx.out).mono ?_;rintro e w2 ⟨rfl,hx2⟩;have Hx2:=hid (Hext.out.trans hx2);clear hx2;go_wp2_with fail
  refine (zg2 _ _ p y w2 (He.out.ext Hx2.out) (Hx2.out.sl Hp.out) (Hx2.out.sl Hy.out) Hny.out).mono ?_;rintro e w3 ⟨rfl,hx3⟩;have Hx3:=hid (Hx2.out.trans hx3);clear hx3;go_wp2_with fail
  refine (zbE (zgv p x) (zgw p y) w3 (He.out.ext Hx3.out) (by have:=HD.out;omega) (by have:=HD.out;omega)).mono ?_;rintro e w4 ⟨rfl,hx4⟩;have Hx4:=hid (Hx3.out.trans hx4);clear hx4;go_wp2_with fail
  refine (zbE (zgv p y) (zgw p x) w4 (He.out.ext Hx4.out) (by have:=HD.out;omega) (by have:=HD.out;omega)).mono ?_;rintro e w5 ⟨rfl,hx5⟩;have Hx5:=hid (Hx4.out.trans hx5);clear hx5;go_wp2_with fail
  refine (zb8 (zgv p x * zgw p y) (zgv p y * zgw p x) w5 (by have:=HD.out;omega) (by have:=HD.out;omega)).mono ?_;rintro e w6 ⟨rfl,rfl⟩;go_wp2
  go_ret2
  exact ⟨rfl,Hx5.out⟩
 ·rw [if_pos h0];have ht:(zhB p x y != 0)=true:=by rw [bne_iff_ne];exact h0
  generalize zhB p x y=r at *;clear h0;go_enter Tryz.func68,Tryz.ntmps68
  go_wp2_with fail
  refine Hc.out.mono ?_;rintro e w1 ⟨rfl,rfl⟩;go_wp2
  go_ret2
  exact ⟨rfl,Hext.out⟩
theorem zhH {w:World}{B g cap:Nat}{o:List Int}(h:zc2 w B (.slice (some ⟨g,0,none⟩) o.length cap) o)(j:Nat)(x:Int) :
  zc2 (w.setCell ⟨g,j,none⟩ (.int .i64 x)) B (.slice (some ⟨g,0,none⟩) o.length cap) (o.set j x):=by
 have:=(World.ownsRow.stored h j (.int .i64 x)).1;unfold zc2;rw [List.length_set];rwa [show (zap o).set j (.int .i64 x)=zap (o.set j x) by simp [zap,List.map_set]] at this
theorem zhI {w:World}{B g cap:Nat}{o:List Int}(h:zc2 w B (.slice (some ⟨g,0,none⟩) o.length cap) o)(j:Nat)(hj:j<o.length) :
  w.cell? ⟨g,j,none⟩=some (.int .i64 (zas o j)):=by
 rw [World.ownsRow.cellAt h j (by omega),zau hj]
def zhJ (x:List Int)(k:Int)(y:List Int):List Int:=List.zipWith (fun a b=>a+k * b) x y
def zhK (x:List Int)(k:Int)(y:List Int):Option (List Int):=if (zhJ x k y).any far=true then none else some (zhJ x k y)
def zhL (x:List Int)(k:Int)(y:List Int)(j:Nat):List Int:=(zhJ x k y).take j++List.replicate (x.length - j) 0
section
variable {x y : List Int} {k : Int} {j : Nat}
theorem zhM (h:x.length=y.length):(zhJ x k y).length=x.length:=by unfold zhJ;rw [List.length_zipWith,← h,Nat.min_self]
theorem zhN (h:x.length=y.length)(hj:j<x.length):zas (zhJ x k y) j=zas x j+k * zas y j:=by
 unfold zhJ zas;rw [List.getD_eq_getElem?_getD,List.getElem?_zipWith,List.getElem?_eq_getElem hj,List.getElem?_eq_getElem (by omega),List.getD_eq_getElem?_getD,List.getElem?_eq_getElem hj,List.getD_eq_getElem?_getD,List.getElem?_eq_getElem (by omega)];rfl
theorem zhO (h:x.length=y.length)(hj:j≤x.length):(zhL x k y j).length=x.length:=by
 unfold zhL;rw [List.length_append,List.length_take,List.length_replicate,zhM h];omega
theorem zhP : zhL x k y 0=List.replicate x.length 0:=by simp [zhL]
theorem zhQ (h:x.length=y.length):zhL x k y x.length=zhJ x k y:=by
 unfold zhL;rw [List.take_of_length_le (by rw [zhM h];exact Nat.le_refl _),Nat.sub_self];simp
theorem zhR (h:x.length=y.length)(hj:j<x.length):(zhL x k y j).set j (zas x j+k * zas y j)=zhL x k y (j+1):=by
 have hl:=zhM (k:=k) h;rw [← zhN (k:=k) h hj];apply List.ext_getElem?;intro i;rw [List.getElem?_set,zhO h (by omega)];unfold zhL;by_cases e:j=i
 ·subst e;rw [if_pos rfl,if_pos hj,List.getElem?_append_left (by rw [List.length_take];omega),List.getElem?_take_of_lt (by omega)];unfold zas;rw [List.getD_eq_getElem?_getD,List.getElem?_eq_getElem (by omega)];rfl
 ·rw [if_neg e];by_cases g:i<j
  ·rw [List.getElem?_append_left (by rw [List.length_take];omega),List.getElem?_append_left (by rw [List.length_take];omega),List.getElem?_take_of_lt g,List.getElem?_take_of_lt (by omega)]
  ·rw [List.getElem?_append_right (by rw [List.length_take];omega),List.getElem?_append_right (by rw [List.length_take];omega),List.getElem?_replicate,List.getElem?_replicate,List.length_take,List.length_take];congr 1;simp only [eq_iff_iff];omega
theorem zhS (h:x.length=y.length)(hj:j<x.length):zas (zhL x k y (j+1)) j=zas x j+k * zas y j:=by
 rw [← zhR h hj];unfold zas;rw [List.getD_eq_getElem?_getD,List.getElem?_set_self (by rw [zhO h (by omega)];exact hj)];rfl
end
def zhT (B:Nat):Option (List Int)→Ending→World→Prop
 | some o,e,w'=>∃ v,e=.returned (.tuple #[v,.bool true])∧zc2 w' B v o
 | none,e,_=>e=.returned (.tuple #[.slice none 0 0,.bool false])
theorem zhU (vx vy:Value)(x y:List Int)(k:Int)(w:World)(hx:Sl w vx (zap x))(hy:Sl w vy (zap y))(hl:x.length=y.length)(hn:x.length≤1000)(bx:∀ i,i<x.length→-1000000≤zas x i∧zas x i≤1000000)(bp:∀ i,i<x.length→-1000000000000000≤k * zas y i∧k * zas y i≤1000000000000000) :
  Calls Tryz.prog 46 #[vx,.int .i64 k,vy] w fun e w'=>zhT w.heap.size (zhK x k y) e w'∧Ext w w':=by
 obtain ⟨i0,hi,hz0,hz1,hz2⟩:=info_parts zc1;obtain ⟨ax,cx,rfl,_,_,hcx⟩:=hx.parts;obtain ⟨ay,cy,rfl,_,_,hcy⟩:=hy.parts;rw [zar] at hx hy ⊢;rw [zar,← hl];have hst:=fun j (hj:j<x.length)=>zhR (k:=k) hl hj;have hat:=fun j (hj:j<x.length)=>zhS (k:=k) hl hj;have hto:=fun j (hj:j≤x.length)=>zhO (k:=k) hl hj;have hfu:=zhQ (k:=k) hl;have hpl:=zhM (k:=k) hl;have hpa:=fun j (hj:j<x.length)=>zhN (k:=k) hl hj;have hyl:y.length=x.length:=hl.symm;have Hcx:=hid hcx;have Hcy:=hid hcy;have Hst:=hid hst;have Hat:=hid hat;have Hto:=hid hto;have Hfu:=hid hfu;have Hpl:=hid hpl;have Hpa:=hid hpa;have Bx:=hid bx;have Bp:=hid bp;have Hyl:=hid hyl;clear hcx hcy hst hat hto hfu hpl hpa bx bp hyl;clear hx hy hl;go_enter Tryz.func46,Tryz.ntmps46
 go_wp2_with (at_make;refine wpList_make_full _ rfl _ _ 33 rfl w.heap.size 3 i0 (.int .i64 0) 1 Tryz.underlying33 hi hz0 hz1 _ _ _ _ x.length rfl rfl rfl rfl (by rw [hz2];omega) (by unfold maxLen;omega) (Nat.le_refl _) ?_;intro w1 hown hgrow)
 have hE1:Ext w w1:=(Ext.refl _).grown hgrow (by simp);have hown1:zc2 w1 w.heap.size (.slice (some ⟨w.heap.size,0,none⟩) x.length x.length) (zhL x k y 0):=by
  rw [zhP];unfold zc2;rw [List.length_replicate];have e:zap (List.replicate x.length 0)=(madeCells #[Value.int .i64 0] (x.length * 1)).toList:=by
   rw [Nat.mul_one,toList_madeCells_one];simp [zap]
  rw [e];exact hown
 have HE1:=hid hE1;have Hown1:=hid hown1;clear hE1 hown1;clear hown hgrow;go_wp2_with fail
 go_loopw [15] (fun v15 wr=>∃ j:Nat,v15=.int .i64 j∧j≤x.length∧Hid (zc2 wr w.heap.size (.slice (some ⟨w.heap.size,0,none⟩) x.length x.length) (zhL x k y j))∧Hid (∀ i,i<j→far (zas (zhJ x k y) i)=false)∧Hid (Ext w wr)) (fun v15 _=>x.length - (zal v15).toNat)
 case atStart=>exact ⟨0,rfl,Nat.zero_le _,Hown1,hid (fun i hi=>by omega),HE1⟩
 case round =>
  clear Hown1;obtain ⟨j,rfl,hj,HO,HN,HE⟩:=hrel;by_cases hjn:j<x.length
  ·obtain ⟨bx1,ox,rfl,hcx0⟩:=Hcx.out j _ (zau hjn);obtain ⟨by1,oy,rfl,hcy0⟩:=Hcy.out j _ (zau (by rw [Hyl.out];exact hjn));have hc1:=HE.out.cell hcx0;have hc2:=HE.out.cell hcy0;have hO:zc2 wr w.heap.size (.slice (some ⟨w.heap.size,0,none⟩) (zhL x k y j).length x.length) (zhL x k y j):=(by rw [Hto.out j hj];exact HO.out);have hc3:=zhI hO j (by rw [Hto.out j hj];exact hjn);have hfz:wr.frozen? ⟨w.heap.size,j,none⟩=false:=World.ownsRow.frozenAt hO j;have hset:=zhH hO j (zas x j+k * zas y j);rw [Hst.out j hjn,Hto.out j hj] at hset;have hs9:=hset;rw [← Hto.out (j+1) hjn] at hs9;have hc9:=zhI hs9 j (by rw [Hto.out (j+1) hjn];exact hjn);rw [Hat.out j hjn] at hc9;have hEz:Ext w (wr.setCell ⟨w.heap.size,j,none⟩ (.int .i64 (zas x j+k * zas y j))):=HE.out.setCell (Nat.le_refl _) _;obtain ⟨b1,b2⟩:=Bx.out j hjn;obtain ⟨b3,b4⟩:=Bp.out j hjn;have hfa:=Hpa.out j hjn;have hj0:(0:Int)≤(j:Int):=(by omega);have hj1:(j:Int)<(x.length:Int):=(by omega);have Hset:=hid hset;have HEz:=hid hEz;have Hfa:=hid hfa;have Hc9:=hid hc9;clear hset hEz hfa hc9;clear hO hs9 hcx0 hcy0;generalize zas x j=zx at *;generalize zas y j=zy at *;go_wp2_with fail
   go_region
   have h9:=((Ext.refl _).drew).cell Hc9.out;have hS:=((Ext.refl _).drew).ownI Hset.out;have hE9:=HEz.out.drew;have HS:=hid hS;have HE9:=hid hE9;clear hS hE9;generalize hzz:zx+k * zy=z at *;have h3:(1000<z)∨(¬ 1000<z∧z < -1000)∨(¬ 1000<z∧¬ z < -1000):=(by omega);clear hc1 hc2 hc3 hfz hzz b1 b2 b3 b4;rcases h3 with g | ⟨g,g2⟩ | ⟨g,g2⟩
   ·have hd:decide (z > 1000)=true:=decide_eq_true g;have hnone:zhK x k y=none:=by
     unfold zhK;rw [if_pos (zgn (k:=j) (by rw [Hpl.out];exact hjn) (by rw [Hfa.out];exact zgk g))]
    have Hnone:=hid hnone;clear hnone;go_wp2
    go_ret2
    exact ⟨by rw [Hnone.out] <;> rfl,HE9.out⟩
   ·have hd:decide (z > 1000)=false:=decide_eq_false g;have hd2:decide (z < -1000)=true:=decide_eq_true g2;have hnone:zhK x k y=none:=by
     unfold zhK;rw [if_pos (zgn (k:=j) (by rw [Hpl.out];exact hjn) (by rw [Hfa.out];exact zgl g2))]
    have Hnone:=hid hnone;clear hnone;go_wp2
    go_ret2
    exact ⟨by rw [Hnone.out] <;> rfl,HE9.out⟩
   ·have hd:decide (z > 1000)=false:=decide_eq_false g;have hd2:decide (z < -1000)=false:=decide_eq_false g2;have hnf:=zgm g g2;have Hnf:=hid hnf;clear hnf;go_wp2
    go_roundw
    case rel =>
     refine ⟨j+1,by go_num,hjn,HS,hid (fun i hi=>?_),HE9⟩;rcases Nat.lt_or_ge i j with q | q
     ·exact HN.out i q
     ·obtain rfl:i=j:=by omega
      rw [Hfa.out];exact Hnf.out
    case measure=>simp [zal];omega
  ·have hjl:j=x.length:=(by omega);have hnj:¬ (j:Int)<(x.length:Int):=(by omega);have hO:=HO.out;rw [hjl,Hfu.out] at hO;have hsome:zhK x k y=some (zhJ x k y):=by
    unfold zhK;rw [if_neg];rw [zgo (fun i hi=>HN.out i (by rw [Hpl.out] at hi;omega))];exact Bool.false_ne_true
   have hO9:zc2 wr w.heap.size (.slice (some ⟨w.heap.size,0,none⟩) x.length x.length) (zhJ x k y):=hO;have HO9:=hid hO9;have Hsome:=hid hsome;clear hO9 hsome;clear hO hjl;go_wp2
   go_ret2
   exact ⟨by rw [Hsome.out];exact ⟨_,rfl,HO9.out⟩,HE.out⟩
end
section
section
variable {P : Program} {ops : Array Oper} {Q : Exit → Act → World → Prop} {md : Region.Mode} {S : World → Prop} {z : Nat}
def zhV (P:Program)(md:Region.Mode)(ops:Array Oper)(Q:Exit→Act→World→Prop)(S:World→Prop)(z:Nat):Nat→Array Bool→Act→World→Prop
 | 0,ls,a,w=>Region.ready md ops ls=[]∧Q .normal a w
 | f+1,ls,a,w=>(Region.ready md ops ls=[]→Q .normal a w)∧∀ i∈Region.ready md ops ls,wpOp P ops Q i (fun a' w'=>(i<z→S w')∧zhV P md ops Q S z f (ls.setIfInBounds i true) a' w') a w
theorem zhV.any : ∀ {f:Nat}{ls:Array Bool}{a:Act}{w:World},zhV P md ops Q S z f ls a w→wpAny P md ops Q f ls a w
 | 0,_,_,_,h=>h
 | _+1,_,_,_,h=>⟨h.1,fun i hi=>wpOp_mono (fun _ _ g=>zhV.any g.2) (h.2 i hi)⟩
def wBV (md:Region.Mode)(ops:Array Oper):Nat→Nat→Nat→Bool
 | 0,j,i=>Region.waitsFor md ops j i
 | f+1,j,i=>Region.waitsFor md ops j i || (List.range ops.size).any fun k=>Region.waitsFor md ops j k && wBV md ops f k i
def zBV (md:Region.Mode)(ops:Array Oper)(z i:Nat):Bool:=(List.range ops.size).all fun j=>decide (j<z) || wBV md ops 12 j i
def zhW (md:Region.Mode)(ops:Array Oper)(ls:Array Bool):Prop:=∀ j oj,ops[j]?=some oj→ls.getD j false=true→∀ e∈oj.after,Region.binds md e=true→ls.getD e.on false=true
def zhX (md:Region.Mode)(ops:Array Oper)(ls:Array Bool):Bool:=(List.range ops.size).all fun j=>match ops[j]? with | some oj=>!ls.getD j false || oj.after.all fun e=>!Region.binds md e || ls.getD e.on false | none=>true
theorem zhY {ls:Array Bool}(h:zhX md ops ls=true):zhW md ops ls:=fun j oj hj hl e he hb=>by
 have h1:=List.all_eq_true.1 h j (List.mem_range.2 (Array.getElem?_eq_some_iff.1 hj).1);rw [hj] at h1;simp only [hl,Bool.not_true,Bool.false_or] at h1;have h2:=Array.all_eq_true'.1 h1 e he;simpa [hb] using h2
theorem zhZ {i:Nat}{ls:Array Bool}(h:zhW md ops ls)(hi:i∈Region.ready md ops ls):zhW md ops (ls.setIfInBounds i true):=fun j oj hj hl e he hb=>by
 obtain ⟨_,oi,hoi,hall⟩:=mem_ready.1 hi;by_cases q:i=j
 ·subst q;obtain rfl:oj=oi:=Option.some.inj (hj.symm.trans hoi);exact getD_set_true (hall e he hb)
 ·rw [getD_set_ne false q] at hl;exact getD_set_true (h j oj hj hl e he hb)
theorem zia {i:Nat}{ls:Array Bool}(hc:zhW md ops ls)(hun:ls.getD i true=false):∀ (f j:Nat)(oj:Oper),wBV md ops f j i=true→ops[j]?=some oj→(∀ e∈oj.after,Region.binds md e=true→ls.getD e.on false=true)→False
 | f,j,oj,h,hj,hall=>by
  have one:∀ k,Region.waitsFor md ops j k=true→ls.getD k false=true:=fun k hk=>by
   obtain ⟨o,ho,e,he,hb,hon⟩:=Region.waitsFor_spec hk;obtain rfl:o=oj:=Option.some.inj (ho.symm.trans hj);rw [← hon];exact hall e he hb
  have dir:Region.waitsFor md ops j i=true→False:=fun hk=>by
   have:=one i hk;rw [getD_both hun] at this
   cases this
  match f,h with
  | 0,h=>exact dir h
  | f+1,h =>
   unfold wBV at h
   rw [Bool.or_eq_true] at h
   rcases h with h | h
   ·exact dir h
   ·obtain ⟨k,hk,h2⟩:=List.any_eq_true.1 h
    rw [Bool.and_eq_true] at h2
    obtain ⟨ok,hok⟩:∃ ok,ops[k]?=some ok:=⟨_,Array.getElem?_eq_getElem (List.mem_range.1 hk)⟩
    exact zia hc hun f k ok h2.2 hok (hc k ok hok (one k h2.1))
theorem zib {i j:Nat}{oj:Oper}{ls:Array Bool}(hz:zBV md ops z i=true)(hc:zhW md ops ls)(hj:ops[j]?=some oj)(hall:∀ e∈oj.after,Region.binds md e=true→ls.getD e.on false=true)(hun:ls.getD i true=false):j<z:=by
 have h1:=List.all_eq_true.1 hz j (List.mem_range.2 (Array.getElem?_eq_some_iff.1 hj).1);rw [Bool.or_eq_true,decide_eq_true_eq] at h1;rcases h1 with h1 | h1
 ·exact h1
 ·exact (zia hc hun 12 j oj h1 hj hall).elim
theorem zic {i:Nat}{oi:Oper}{v:Value}(hi:ops[i]?=some oi)(hs:Region.noSelect ops=true)(hz:zBV md ops z i=true)(hQ:∀ c a w,Q (.panic c) (a.put oi.dst v) w→Q (.panic c) a w) :
  ∀ (f:Nat)(ls:Array Bool)(a:Act)(w:World),(∀ j oj,ops[j]?=some oj→j ≠ i→ls.getD j true=false→(∀ e∈oj.after,Region.binds md e=true→e.on ≠ i)→oi.apart ops oj=true)→zhW md ops ls →
   i∈Region.ready md ops ls→YieldsIf P ops S oi v a→S w→zhV P md ops Q S z f (ls.setIfInBounds i true) (a.put oi.dst v) w→zhV P md ops Q S z (f+1) ls a w:=by
 have hsel:=Region.noSelect_spec hs;intro f;induction f with
 | zero =>
  intro ls a w _ _ hr hy hS h
  refine ⟨fun e=>absurd hr (by rw [e];exact fun k=>by cases k),fun j hj=>?_⟩
  by_cases e:j=i
  ·rw [e]
   exact hy.wpOp hi hS ⟨fun _=>hS,h⟩
  ·have g:=ready_mono hj e
   rw [h.1] at g
   cases g
 | succ f ih =>
  intro ls a w hap hc hr hy hS h
  refine ⟨fun e=>absurd hr (by rw [e];exact fun k=>by cases k),fun j hj=>?_⟩
  by_cases e:j=i
  ·rw [e]
   exact hy.wpOp hi hS ⟨fun _=>hS,h⟩
  ·obtain ⟨hju,oj,hoj,hall⟩:=mem_ready.1 hj
   have hiu:=(mem_ready.1 hr).1
   have hjz:=zib hz hc hoj hall hiu
   have hno:∀ e∈oj.after,Region.binds md e=true→e.on ≠ i:=fun e he hb k=>by
    have:=hall e he hb;rw [k,getD_both hiu] at this
    cases this
   have h2:=wpOp_putIf hoj (hap j oj hoj e hju hno) (fun cs b=>hsel i oi cs b hi) (fun cs b=>hsel j oj cs b hoj) hQ hy (h.2 j (ready_mono hj e))
   refine wpOp_mono (fun a' w' g=>⟨fun _=>g.2.1 hjz,ih (ls.setIfInBounds j true) a' w' (fun k ok hk hki hku hkn=>?_) (zhZ hc hj) (ready_mono hr (Ne.symm e)) g.1 (g.2.1 hjz) ?_⟩) h2
   ·refine hap k ok hk hki ?_ hkn
    by_cases q:j=k
    ·rw [← q];exact hju
    ·rw [getD_set_ne true q] at hku;exact hku
   ·rw [Array.setIfInBounds_comm _ _ e]
    exact g.2.2
theorem zid {i:Nat}{oi:Oper}{v:Value}{f:Nat}{ls:Array Bool}{a:Act}{w:World}(hi:ops[i]?=some oi)(hs:Region.noSelect ops=true)(hf:Region.free md ops ls i=true)(hr:(Region.ready md ops ls).contains i=true)(hz:(zBV md ops z i && zhX md ops ls)=true)
  (hQ:∀ c a w,Q (.panic c) (a.put oi.dst v) w→Q (.panic c) a w) (hy:YieldsIf P ops S oi v a) (hS:S w) (h:zhV P md ops Q S z f (ls.setIfInBounds i true) (a.put oi.dst v) w):zhV P md ops Q S z (f+1) ls a w :=
 zic hi hs (Bool.and_eq_true _ _ ▸ hz).1 hQ f ls a w (Region.free_spec hi hf) (zhY (Bool.and_eq_true _ _ ▸ hz).2) (by simpa using hr) hy hS h
theorem zie {i:Nat}{o:Oper}{f:Nat}{ls:Array Bool}{a:Act}{w:World}(hr:Region.ready md ops ls=[i])(ho:ops[i]?=some o)
  (h:∀ K:Act→World→Prop,Shut (∀ a w,S w→(S w→zhV P md ops Q S z f (ls.setIfInBounds i true) a w)→K a w)→if Region.wanted o (yielded ops a.tmps)=true then Oper.wp P o a w K Q else K (a.put o.dst undef) w):zhV P md ops Q S z (f+1) ls a w:=by
 refine ⟨fun e=>(by rw [hr] at e;cases e),fun j hj=>?_⟩;rw [hr,List.mem_singleton] at hj;subst hj;exact wpOp_step ho fun K hK=>h K fun a w hS g=>hK a w ⟨fun _=>hS,g hS⟩
theorem zif {i:Nat}{o:Oper}{f:Nat}{ls:Array Bool}{a:Act}{w:World}(hr:Region.ready md ops ls=[i])(hz:z≤i)(ho:ops[i]?=some o)
  (h:∀ K:Act→World→Prop,Shut (∀ a w,zhV P md ops Q S z f (ls.setIfInBounds i true) a w→K a w)→if Region.wanted o (yielded ops a.tmps)=true then Oper.wp P o a w K Q else K (a.put o.dst undef) w):zhV P md ops Q S z (f+1) ls a w:=by
 refine ⟨fun e=>(by rw [hr] at e;cases e),fun j hj=>?_⟩;rw [hr,List.mem_singleton] at hj;subst hj;exact wpOp_step ho fun K hK=>h K fun a w g=>hK a w ⟨fun k=>absurd k (by omega),g⟩
theorem zig {f:Nat}{ls:Array Bool}{a:Act}{w:World}(hr:Region.ready md ops ls=[])(h:Q .normal a w):zhV P md ops Q S z f ls a w:=by
 cases f with
 | zero=>exact ⟨hr,h⟩
 | succ f=>exact ⟨fun _=>h,fun i hi=>by rw [hr] at hi;cases hi⟩
theorem zih {id:Nat}{a:Act}{w:World}(z:Nat)(S:World→Prop)(hm:P.follows .mixedOrders=true)(hS:S w.drew)(h:S w.drew→zhV P .any ops Q S z ops.size (Array.replicate ops.size false) a w.drew):(Code.region id ops true).wp P Q a w :=
 wp_region_any hm (zhV.any (h hS))
end
end
end Go.Proofs.YtipkdebkdnbieaaGreatDoor
