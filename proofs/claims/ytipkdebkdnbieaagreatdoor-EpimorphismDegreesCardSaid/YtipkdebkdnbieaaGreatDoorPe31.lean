/- Plain: table.Rank of small rows answers. (KEEPALL) Plain: what integer multiples of rows make; echelon rows. (KEEPALL) (plconv.py out of wip/pl.) -/
import Derived.Test.YtipkdebkdnbieaaGreatDoorPe24
import Derived.Test.YtipkdebkdnbieaaGreatDoorPe26
import Derived.Test.YtipkdebkdnbieaaGreatDoorPe21
import Derived.Test.YtipkdebkdnbieaaGreatDoorPe22
namespace Go.Proofs.YtipkdebkdnbieaaGreatDoor
open Go.RowKit Go.Lib
theorem zp9 {n k:Nat}(h:nDigits n≤k):n<10 ^ k:=by
 exact Nat.lt_of_lt_of_le (lt_pow_nDigits n) (Nat.pow_le_pow_right (by omega) h)
theorem zpA {q:Rat}(h:Ft 999 q):okQ q=true:=by
 unfold okQ zi0;have hk:999≤ziz:=by unfold ziz;omega
 rw [Bool.and_eq_true,decide_eq_true_eq,decide_eq_true_eq];exact ⟨zp9 (Nat.le_trans h.1 hk),zp9 (Nat.le_trans h.2 hk)⟩
def zpB (k:Nat)(m:List (List Rat)):Prop:=∀ r∈m,∀ q∈r,Ft k q
theorem zpC {m:List (List Rat)}(h:zpB 999 m):okM m=true:=by
 unfold okM;rw [List.all_eq_true];intro r hr;rw [List.all_eq_true];exact fun q hq=>zpA (h r hr q hq)
theorem zpB.mono {k l:Nat}{m:List (List Rat)}(h:zpB k m)(hk:k≤l):zpB l m:=fun r hr q hq=>(h r hr q hq).mono hk
theorem zpD {k:Nat}(hk:1≤k):Ft k (0:Rat):=Ft.mono ⟨Dec.nDigits_le (by omega) (by decide),Dec.nDigits_le (by omega) (by decide)⟩ hk
theorem zpE {k:Nat}(hk:1≤k){r:List Rat}(h:∀ q∈r,Ft k q)(c:Nat):Ft k (r.getD c 0):=by
 rw [List.getD_eq_getElem?_getD]
 cases e:r[c]? with
 | none=>exact zpD hk
 | some q=>exact h q (List.mem_of_getElem? e)
theorem zpF {k:Nat}{m:List (List Rat)}(h:zpB k m)(i:Nat):∀ q∈m.getD i [],Ft k q:=fun q hq=>by
 rw [List.getD_eq_getElem?_getD] at hq
 cases e:m[i]? with
 | none=>rw [e] at hq;cases hq
 | some r=>rw [e] at hq;exact h r (List.mem_of_getElem? e) q hq
def zpG : Nat→Nat→Nat→Prop
 | 0,_,_=>True
 | j+1,k,d=>1≤k∧1≤d∧k≤999∧d≤999∧zpG j (4 * k+1) (d+k)
theorem zpH {k:Nat}{m:List (List Rat)}{i j:Nat}(h:zpB k m):zpB k (swp m i j):=fun r hr=>h r (zn9 hr)
theorem zpI {c k d:Nat}{s:RdS}(hk:1≤k∧k≤999)(hd:1≤d∧d≤999)(hm:zpB k s.m)(hdet:Ft d s.det) :
  ∃ s',zi8 c s=some s'∧zpB (4 * k+1) s'.m∧Ft (d+k) s'.det:=by
 unfold zi8;rw [if_pos ⟨zpC (hm.mono hk.2),zpA (hdet.mono hd.2)⟩];by_cases ha:s.ld.length+zi4 c (s.m.drop s.ld.length)=s.m.length
 ·simp only [ha,if_true];exact ⟨_,rfl,hm.mono (by omega),zpD (by omega)⟩
 ·simp only [ha,if_false];generalize hm1:swp s.m s.ld.length (s.ld.length+zi4 c (s.m.drop s.ld.length))=m1;have h1:zpB k m1:=by rw [← hm1];exact zpH hm
  have hf:Ft k ((m1.getD s.ld.length []).getD c 0):=zpE hk.1 (zpF h1 _) c;refine ⟨_,rfl,?_,?_⟩
  ·have hdv:∀ q∈zi5 ((m1.getD s.ld.length []).getD c 0) (m1.getD s.ld.length []),Ft (k+k) q:=fun q hq=>by
    unfold zi5 at hq;obtain ⟨a,ha,rfl⟩:=List.mem_map.1 hq;by_cases h0:(m1.getD s.ld.length []).getD c 0=0
    ·rw [h0,show a / (0:Rat)=0 by rw [Rat.div_def,Rat.inv_zero,Rat.mul_zero]];exact zpD (by omega)
    ·exact znw (zpF h1 _ a ha) hf h0
   have hm2:zpB (k+k) (m1.set s.ld.length (zi5 ((m1.getD s.ld.length []).getD c 0) (m1.getD s.ld.length []))):=fun r hr=>by
    rcases List.mem_or_eq_of_mem_set hr with e | e
    ·exact fun q hq=>(h1 r e q hq).mono (by omega)
    ·rw [e];exact hdv
   intro r hr q hq;unfold zi7 at hr;obtain ⟨i,hi⟩:=List.mem_iff_getElem?.1 hr;rw [List.getElem?_mapIdx] at hi
   cases hg:(m1.set s.ld.length (zi5 ((m1.getD s.ld.length []).getD c 0) (m1.getD s.ld.length [])))[i]? with
   | none=>rw [hg] at hi;cases hi
   | some t =>
    rw [hg] at hi
    simp only [Option.map_some,Option.some.injEq] at hi
    by_cases e:i<s.m.length∧i ≠ s.ld.length
    ·rw [if_pos e] at hi
     subst hi
     have ht:∀ q∈t,Ft k q:=by
      rw [List.getElem?_set_ne (fun q=>e.2 q.symm)] at hg;exact h1 t (List.mem_of_getElem? hg)
     unfold zi6 at hq
     obtain ⟨j,hj⟩:=List.mem_iff_getElem?.1 hq
     rw [List.getElem?_zipWith] at hj
     cases h2:t[j]? with
     | none=>rw [h2] at hj;simp at hj
     | some a =>
      cases h3:((m1.set s.ld.length (zi5 ((m1.getD s.ld.length []).getD c 0) (m1.getD s.ld.length []))).getD s.ld.length [])[j]? with
      | none=>rw [h2,h3] at hj;simp at hj
      | some b =>
       rw [h2,h3] at hj
       obtain rfl:=Option.some.inj hj
       have hb:=zpF hm2 s.ld.length b (List.mem_of_getElem? h3)
       have ha:=ht a (List.mem_of_getElem? h2)
       have hg:=zpE hk.1 ht c
       have:=ziq ha (zip hg hb).neg
       rw [← Rat.sub_eq_add_neg] at this
       exact this.mono (by omega)
    ·rw [if_neg e] at hi
     subst hi
     exact (hm2 t (List.mem_of_getElem? hg) q hq).mono (by omega)
  ·show Ft (d+k) ((if _ then s.det else -s.det) * _);refine zip ?_ hf;split
   ·exact hdet
   ·exact hdet.neg
theorem zpJ : ∀ (cs:List Nat)(s:RdS)(k d:Nat),zpG cs.length k d→zpB k s.m→Ft d s.det→∃ s',zi9 cs s=some s'
 | [],s,_,_,_,_,_=>⟨s,rfl⟩
 | c::cs,s,k,d,hr,hm,hd=>by
  obtain ⟨r1,r2,r3,r4,r5⟩:=hr;obtain ⟨s',h1,h2,h3⟩:=zpI (c:=c) ⟨r1,r3⟩ ⟨r2,r4⟩ hm hd;obtain ⟨s9,h9⟩:=zpJ cs s' _ _ r5 h2 h3;exact ⟨s9,by rw [zi9,h1];exact h9⟩
theorem zpK : Ft 1 (1:Rat):=⟨Dec.nDigits_le (by omega) (by decide),Dec.nDigits_le (by omega) (by decide)⟩
theorem zpL {n:Nat}{m:List (List Int)}(hn:n≤4)(hg:(m.getD 0 []).length=n)(hb:∀ r∈m,∀ z∈r,-200≤z∧z≤200):∃ r,ziB m=some r:=by
 have hroom:zpG n 3 1:=by
  obtain rfl | rfl | rfl | rfl | rfl:n=0∨n=1∨n=2∨n=3∨n=4:=by omega
  all_goals repeat first | exact trivial | refine ⟨by omega,by omega,by omega,by omega,?_⟩
 obtain ⟨s,hs⟩:=zpJ (List.range n) ⟨m.map ziA,[],1⟩ 3 1 (by rw [List.length_range];exact hroom) (fun r hr q hq=>by
  obtain ⟨y,hy,rfl⟩:=List.mem_map.1 hr;unfold ziA at hq;obtain ⟨z,hz,rfl⟩:=List.mem_map.1 hq;have:=hb y hy z hz;refine ⟨?_,?_⟩
  ·rw [Rat.num_intCast];exact Dec.nDigits_le (by omega) (by omega)
  ·rw [Rat.den_intCast];exact Dec.nDigits_le (by omega) (by omega)) zpK
 exact ⟨s.ld.length,by unfold ziB;rw [hg,hs];rfl⟩
def Cmb : List (List Int)→(Nat→Int)→Prop
 | [],z=>∀ i,z i=0
 | r::g,z=>∃ a:Int,Cmb g fun i=>z i - a * zas r i
theorem Cmb.eq {g:List (List Int)}{z y:Nat→Int}(h:Cmb g z)(e:∀ i,z i=y i):Cmb g y:=by
 have:z=y:=funext e;rwa [← this]
theorem Cmb.zero : ∀ (g:List (List Int)),Cmb g fun _=>0
 | []=>fun _=>rfl
 | r::g=>⟨0,(Cmb.zero g).eq fun i=>by simp⟩
theorem Cmb.add : ∀ {g:List (List Int)}{z y:Nat→Int},Cmb g z→Cmb g y→Cmb g fun i=>z i+y i
 | [],z,y,h1,h2=>fun i=>by show z i+y i=0;rw [h1 i,h2 i];rfl
 | r::g,z,y,⟨a,h1⟩,⟨b,h2⟩=>⟨a+b,(Cmb.add h1 h2).eq fun i=>by show z i - a * zas r i+(y i - b * zas r i)=z i+y i - (a+b) * zas r i;rw [Int.add_mul];omega⟩
theorem Cmb.mul (k:Int):∀ {g:List (List Int)}{z:Nat→Int},Cmb g z→Cmb g fun i=>k * z i
 | [],z,h1=>fun i=>by show k * z i=0;rw [h1 i,Int.mul_zero]
 | r::g,z,⟨a,h1⟩=>⟨k * a,(Cmb.mul k h1).eq fun i=>by show k * (z i - a * zas r i)=k * z i - k * a * zas r i;rw [Int.mul_sub,Int.mul_assoc]⟩
theorem Cmb.mem : ∀ {g:List (List Int)}{r:List Int},r∈g→Cmb g (zas r)
 | s::g,r,h=>by
  rcases List.mem_cons.1 h with e | e
  ·subst e;exact ⟨1,(Cmb.zero g).eq fun i=>by omega⟩
  ·exact ⟨0,(Cmb.mem e).eq fun i=>by omega⟩
theorem Cmb.trans {f:List (List Int)}:∀ {g:List (List Int)}{z:Nat→Int},(∀ r∈g,Cmb f (zas r))→Cmb g z→Cmb f z
 | [],z,_,h=>(Cmb.zero f).eq fun i=>(h i).symm
 | r::g,z,hg,⟨a,h⟩=>((Cmb.trans (fun s hs=>hg s (List.mem_cons_of_mem _ hs)) h).add ((hg r List.mem_cons_self).mul a)).eq fun i=>by omega
theorem Cmb.sub {f g:List (List Int)}{z:Nat→Int}(h:∀ r∈g,r∈f∨∀ i,zas r i=0)(hz:Cmb g z):Cmb f z :=
 Cmb.trans (fun r hr=>by
  rcases h r hr with e | e
  ·exact Cmb.mem e
  ·exact (Cmb.zero f).eq fun i=>(e i).symm) hz
theorem zpM {l o:List Int}{q:Int}(h:l.length=o.length)(i:Nat):zas (ziC l o q) i=zas l i - q * zas o i:=by
 unfold zas ziC;rw [List.getD_eq_getElem?_getD,List.getD_eq_getElem?_getD,List.getD_eq_getElem?_getD,List.getElem?_zipWith];by_cases hi:i<l.length
 ·rw [List.getElem?_eq_getElem hi,List.getElem?_eq_getElem (by omega)];rfl
 ·rw [List.getElem?_eq_none (by omega),List.getElem?_eq_none (by omega)];simp
theorem zpN (l:List Int)(i:Nat):zas (ziD l) i=-zas l i:=by
 unfold zas ziD;rw [List.getD_eq_getElem?_getD,List.getD_eq_getElem?_getD,List.getElem?_map]
 cases l[i]? <;> simp
/-! The operations on a grid keep what its rows make. -/
theorem zpO {g:List (List Int)}{t k:Nat}(ht:t<g.length)(hk:k<g.length)(i:Nat):(swp g t k)[i]?=g[zln t k i]?:=by
 rw [zix (List.getElem?_eq_getElem ht) (List.getElem?_eq_getElem hk),zlp (List.getElem?_eq_getElem ht) (List.getElem?_eq_getElem hk)]
theorem zpP {g:List (List Int)}{t k:Nat}(ht:t<g.length)(hk:k<g.length){r:List Int}:r∈swp g t k ↔ r∈g:=by
 constructor
 ·intro h;obtain ⟨i,hi⟩:=List.mem_iff_getElem?.1 h;rw [zpO ht hk] at hi;exact List.mem_of_getElem? hi
 ·intro h;obtain ⟨i,hi⟩:=List.mem_iff_getElem?.1 h;refine List.mem_of_getElem? (i:=zln t k i) ?_;rw [zpO ht hk];have:zln t k (zln t k i)=i:=by
   unfold zln;repeat' split
   all_goals omega
  rw [this];exact hi
theorem Cmb.swp {g:List (List Int)}{t k:Nat}(ht:t<g.length)(hk:k<g.length){z:Nat→Int}(h:Cmb g z):Cmb (swp g t k) z :=
 Cmb.trans (fun _ hr=>Cmb.mem ((zpP ht hk).2 hr)) h
theorem zpQ {g:List (List Int)}{t c i:Nat}:(ziG g t c)[i]?=if i=t∧at2 g t c<0 then (g[i]?).map ziD else g[i]?:=by
 unfold ziG;by_cases h:at2 g t c<0
 ·rw [if_pos h,List.getElem?_set];by_cases e:t=i
  ·subst e;rw [if_pos rfl,List.getD_eq_getElem?_getD];by_cases hl:t<g.length
   ·rw [if_pos hl,List.getElem?_eq_getElem hl,if_pos (And.intro rfl h)];rfl
   ·rw [if_neg hl,List.getElem?_eq_none (by omega),if_pos (And.intro rfl h)];rfl
  ·rw [if_neg e,if_neg (fun q=>e q.1.symm)]
 ·rw [if_neg h,if_neg (fun q=>h q.2)]
theorem Cmb.sgn {g:List (List Int)}{t c:Nat}{z:Nat→Int}(h:Cmb g z):Cmb (ziG g t c) z :=
 Cmb.trans (fun r hr=>by
  obtain ⟨i,hi⟩:=List.mem_iff_getElem?.1 hr;have:=zpQ (g:=g) (t:=t) (c:=c) (i:=i);rw [hi] at this;by_cases e:i=t∧at2 g t c<0
  ·rw [if_pos e,Option.map_some] at this;exact ((Cmb.mem (List.mem_of_getElem? this)).mul (-1)).eq fun j=>by rw [zpN];omega
  ·rw [if_neg e] at this;exact Cmb.mem (List.mem_of_getElem? this)) h
theorem Cmb.pas {g:List (List Int)}{n t c lo hi:Nat}(hrec:zlG g n)(ht:t<g.length)(hne:¬ (lo≤t∧t<hi)){z:Nat→Int}(h:Cmb g z):Cmb (ziF g t c lo hi) z :=
 Cmb.trans (fun r hr=>by
  obtain ⟨i,hi'⟩:=List.mem_iff_getElem?.1 hr;have h1:=zl7 g t c lo hi i;rw [hi',Option.map_some] at h1;have h2:=zl7 g t c lo hi t;rw [List.getElem?_eq_getElem ht,Option.map_some,if_neg hne] at h2;have hs:g.getD t []=g[t]:=by rw [List.getD_eq_getElem?_getD,List.getElem?_eq_getElem ht];rfl
  by_cases e:lo≤i∧i<hi
  ·rw [if_pos e] at h1;have hlen:r.length=(g.getD t []).length:=(by rw [hs,hrec r hr,hrec _ (List.getElem_mem ht)]);refine ((Cmb.mem (List.mem_of_getElem? h1)).add ((Cmb.mem (List.mem_of_getElem? h2)).mul (fdv (r.getD c 0) (at2 g t c)))).eq fun j=>?_;rw [zpM hlen,hs];omega
  ·rw [if_neg e] at h1;exact Cmb.mem (List.mem_of_getElem? h1)) h
/-! Echelon rows. -/
theorem zpR : ∀ {l:List Int}{c:Nat},(∀ j,j<c→zas l j=0)→zas l c ≠ 0→ziM l=c
 | [],c,_,h=>absurd (by unfold zas;rfl) h
 | z::l,c,h,hc=>by
  have e:ziM (z::l)=if z=0 then ziM l+1 else 0:=rfl;rw [e]
  cases c with
  | zero =>
   have:z ≠ 0:=hc
   rw [if_neg this]
  | succ c =>
   have:z=0:=h 0 (by omega)
   rw [if_pos this,zpR (c:=c) (fun j hj=>h (j+1) (by omega)) hc]
theorem zpS : ∀ {l:List Int}{j:Nat},j<ziM l→zas l j=0
 | [],j,_=>by unfold zas;rfl
 | z::l,j,h=>by
  have e:ziM (z::l)=if z=0 then ziM l+1 else 0:=rfl;rw [e] at h;by_cases hz:z=0
  ·rw [if_pos hz] at h
   cases j with
   | zero=>exact hz
   | succ j=>exact zpS (l:=l) (j:=j) (by omega)
  ·rw [if_neg hz] at h;omega
def Ech : Nat→List (List Int)→Prop
 | _,[]=>True
 | b,r::f=>b≤ziM r∧0<zas r (ziM r)∧Ech (ziM r+1) f
theorem Ech.low : ∀ {f:List (List Int)}{b:Nat}{z:Nat→Int},Ech b f→Cmb f z→∀ i,i<b→z i=0
 | [],_,z,_,h,i,_=>h i
 | r::f,b,z,⟨h1,h2,h3⟩,⟨a,h⟩,i,hi=>by
  have:=Ech.low h3 h i (by omega);rw [zpS (by omega)] at this;omega
theorem Ech.lead : ∀ {f:List (List Int)}{b:Nat}{z:Nat→Int},Ech b f→Cmb f z→(∃ i,z i ≠ 0)→∃ r∈f,(∀ i,i<ziM r→z i=0)∧z (ziM r) ≠ 0∧zas r (ziM r) ∣ z (ziM r)
 | [],_,z,_,h,⟨i,hi⟩=>absurd (h i) hi
 | r::f,b,z,⟨h1,h2,h3⟩,⟨a,h⟩,hz=>by
  by_cases ha:a=0
  ·subst ha;have h':Cmb f z:=h.eq fun i=>by omega
   obtain ⟨s,hs,q⟩:=Ech.lead h3 h' hz;exact ⟨s,List.mem_cons_of_mem _ hs,q⟩
  ·have hlow:=Ech.low h3 h;have hc:=hlow (ziM r) (by omega);refine ⟨r,List.mem_cons_self,fun i hi=>?_,?_,?_⟩
   ·have:=hlow i (by omega);rw [zpS hi] at this;omega
   ·intro e;rw [e] at hc;have:a * zas r (ziM r)=0:=(by omega);rcases Int.mul_eq_zero.1 this with q | q <;> omega
   ·exact ⟨a,by rw [Int.mul_comm];omega⟩
theorem Ech.mono {f:List (List Int)}{b b':Nat}(h:Ech b f)(hb:b'≤b):Ech b' f:=by
 cases f with
 | nil=>trivial
 | cons r f=>exact ⟨by have:=h.1;omega,h.2⟩
/-! What is true of all rows. -/
def zpT (f:Nat→Int):Nat→Int
 | 0=>0
 | n+1=>zpT f n+f n
theorem zpU {f g:Nat→Int}:∀ {n:Nat},(∀ j,j<n→f j=g j)→zpT f n=zpT g n
 | 0,_=>rfl
 | n+1,h=>by unfold zpT;rw [zpU (n:=n) fun j hj=>h j (by omega),h n (by omega)]
theorem zpV (f g:Nat→Int):∀ n,zpT (fun j=>f j+g j) n=zpT f n+zpT g n
 | 0=>rfl
 | n+1=>by unfold zpT;rw [zpV f g n];omega
theorem zpW (k:Int)(f:Nat→Int):∀ n,zpT (fun j=>k * f j) n=k * zpT f n
 | 0=>by unfold zpT;omega
 | n+1=>by unfold zpT;rw [zpW k f n,Int.mul_add]
theorem zpX {f:Nat→Int}:∀ {n:Nat},(∀ j,j<n→f j=0)→zpT f n=0
 | 0,_=>rfl
 | n+1,h=>by unfold zpT;rw [zpX (n:=n) fun j hj=>h j (by omega),h n (by omega)];rfl
def Lin (A:Nat→Nat→Int)(m n:Nat)(l:Nat→Int):Prop:=∀ i,i<m→l i=zpT (fun j=>l (m+j) * A j i) n
theorem Lin.take {A:Nat→Nat→Int}{m n:Nat}{l o:Nat→Int}{q:Int}(h1:Lin A m n l)(h2:Lin A m n o):Lin A m n fun i=>l i - q * o i:=fun i hi=>by
 show l i - q * o i=_;rw [h1 i hi,h2 i hi,← zpW];show _=zpT (fun j=>(l (m+j) - q * o (m+j)) * A j i) n;have:zpT (fun j=>l (m+j) * A j i) n=zpT (fun j=>(l (m+j) - q * o (m+j)) * A j i) n+zpT (fun j=>q * (o (m+j) * A j i)) n:=by
  rw [← zpV];exact zpU fun j _=>by rw [Int.sub_mul,Int.mul_assoc];omega
 omega
theorem Lin.neg {A:Nat→Nat→Int}{m n:Nat}{l:Nat→Int}(h1:Lin A m n l):Lin A m n fun i=>-l i:=fun i hi=>by
 show -l i=_;rw [h1 i hi,← Int.neg_one_mul,← zpW];exact zpU fun j _=>by rw [Int.neg_mul,Int.neg_mul,Int.one_mul]
end Go.Proofs.YtipkdebkdnbieaaGreatDoor
