/- Plain: smith.Solve of a small matrix answers, if the reduced solution is not great. (KEEPALL) (plconv.py out of wip/pl.) Plain: a reduced solution in four small unknowns is not great. (KEEPALL) (plconv.py out of wip/pl.) -/
import Derived.Test.YtipkdebkdnbieaaGreatDoorPe32
namespace Go.Proofs.YtipkdebkdnbieaaGreatDoor
open Go.RowKit Go.Lib
/-! The form as a list of rows. -/
theorem zqC : ∀ {f:List (List Int)}{b:Nat},(∀ i,i<f.length→b≤ziM (f.getD i [])∧0<zas (f.getD i []) (ziM (f.getD i [])))→(∀ i j,i<j→j<f.length→ziM (f.getD i [])<ziM (f.getD j []))→Ech b f
 | [],_,_,_=>trivial
 | r::f,b,h1,h2=>by
  have h0:=h1 0 (by simp);refine ⟨h0.1,h0.2,zqC (fun i hi=>?_) fun i j hij hj=>?_⟩
  ·have:=h1 (i+1) (by simp;omega);have hlt:=h2 0 (i+1) (by omega) (by simp;omega);exact ⟨hlt,this.2⟩
  ·exact h2 (i+1) (j+1) (by omega) (by simp;omega)
theorem zqD {g:List (List Int)}{t i:Nat}(h:i<t):(g.take t).getD i []=g.getD i []:=by
 rw [List.getD_eq_getElem?_getD,List.getD_eq_getElem?_getD,List.getElem?_take_of_lt h]
section
variable {A : Nat → Nat → Int} {m n top c cols : Nat} {g0 g : List (List Int)}
theorem zqi.ech (h:zqi A m n g0 g top c):Ech 0 (g.take top):=by
 have hl:(g.take top).length=top:=by rw [List.length_take,h.len];have:=h.tn;omega
 refine zqC (fun i hi=>?_) fun i j hij hj=>?_
 ·rw [zqD (by omega)];exact ⟨Nat.zero_le _,(h.piv i (by omega)).2⟩
 ·rw [zqD (by omega),zqD (by omega)];exact h.inc i j hij (by omega)
theorem zqi.all (h:zqi A m n g0 g top c)(he:c=m+n∨top=n){z:Nat→Int}(hz:Cmb g0 z):Cmb (g.take top) z:=by
 refine Cmb.sub (fun r hr=>?_) (h.cmb z hz);obtain ⟨i,hi⟩:=List.mem_iff_getElem?.1 hr;have hil:=(List.getElem?_eq_some_iff.1 hi).1;rcases Nat.lt_or_ge i top with q | q
 ·exact .inl (List.mem_of_getElem? (i:=i) (by rw [List.getElem?_take_of_lt q];exact hi))
 ·right;intro j;have hlen:=h.rcz r hr;rw [h.len] at hil;rcases Nat.lt_or_ge j (m+n) with q2 | q2
  ·have:=h.low i q j (by omega);rw [at2,List.getD_eq_getElem?_getD (l:=g),hi] at this;exact this
  ·unfold zas;rw [List.getD_eq_getElem?_getD,List.getElem?_eq_none (by omega)];rfl
end
/-! The matrix with units at its right. -/
theorem Cmb.sum {g:List (List Int)}{row:Nat→Nat→Int}(u:Nat→Int):∀ {n:Nat},(∀ j,j<n→Cmb g (row j))→Cmb g fun i=>zpT (fun j=>u j * row j i) n
 | 0,_=>Cmb.zero g
 | n+1,h=>((Cmb.sum u (n:=n) fun j hj=>h j (by omega)).add ((h n (by omega)).mul (u n))).eq fun _=>rfl
theorem zqE (n:Nat):(ziK n).length=n:=by unfold ziK;simp
theorem zqF {n j:Nat}(hj:j<n):(ziK n).getD j []=(List.replicate n (0:Int)).set j 1:=by
 unfold ziK;rw [List.getD_eq_getElem?_getD,List.getElem?_map,List.getElem?_range hj];rfl
theorem zqG {n j:Nat}(hj:j<n)(k:Nat):zas ((ziK n).getD j []) k=if k=j then 1 else 0:=by
 rw [zqF hj];unfold zas;rw [List.getD_eq_getElem?_getD,List.getElem?_set];by_cases e:j=k
 ·subst e;rw [if_pos rfl,List.length_replicate,if_pos hj,if_pos rfl];rfl
 ·rw [if_neg e,if_neg (fun q=>e q.symm),List.getElem?_replicate];split <;> rfl
theorem zqH {f:Nat→Int}{k:Nat}:∀ {n:Nat},k<n→(∀ j,j<n→j ≠ k→f j=0)→zpT f n=f k
 | 0,h,_=>by omega
 | n+1,h,h0=>by
  unfold zpT;by_cases e:k=n
  ·subst e;rw [zpX (n:=k) fun j hj=>h0 j (by omega) (by omega)];omega
  ·rw [zqH (n:=n) (by omega) fun j hj hne=>h0 j (by omega) hne,h0 n (by omega) (fun q=>e q.symm)];omega
def wid (t:List (List Int)):List (List Int):=List.zipWith (fun r u=>r++u) t (ziK t.length)
section
variable {t : List (List Int)} {m n : Nat}
theorem zqI (ht:t.length=n):(wid t).length=n:=by unfold wid;rw [List.length_zipWith,zqE,ht];omega
theorem zqJ (ht:t.length=n){j:Nat}(hj:j<n):(wid t).getD j []=t.getD j []++(ziK n).getD j []:=by
 unfold wid;rw [List.getD_eq_getElem?_getD,List.getElem?_zipWith,ht,List.getElem?_eq_getElem (by omega),List.getElem?_eq_getElem (by rw [zqE];exact hj),List.getD_eq_getElem?_getD,List.getD_eq_getElem?_getD,List.getElem?_eq_getElem (by omega),List.getElem?_eq_getElem (by rw [zqE];exact hj)];rfl
theorem zqK (ht:t.length=n)(hr:∀ r∈t,r.length=m){j:Nat}(hj:j<n)(i:Nat):at2 (wid t) j i=if i<m then at2 t j i else if i - m=j then 1 else 0:=by
 have hl:(t.getD j []).length=m:=zqe hr (by omega);show zas ((wid t).getD j []) i=_;rw [zqJ ht hj];by_cases e:i<m
 ·rw [if_pos e];show (t.getD j []++(ziK n).getD j []).getD i 0=(t.getD j []).getD i 0;rw [List.getD_eq_getElem?_getD,List.getElem?_append_left (by omega),← List.getD_eq_getElem?_getD]
 ·rw [if_neg e,← zqG hj];show (t.getD j []++(ziK n).getD j []).getD i 0=((ziK n).getD j []).getD (i - m) 0;rw [List.getD_eq_getElem?_getD,List.getElem?_append_right (by omega),hl,← List.getD_eq_getElem?_getD]
theorem zqL (ht:t.length=n){r:List Int}(h:r∈wid t):∃ j,j<n∧r=(wid t).getD j []:=by
 obtain ⟨j,hj⟩:=List.mem_iff_getElem?.1 h;have:=(List.getElem?_eq_some_iff.1 hj).1;rw [zqI ht] at this;exact ⟨j,this,by rw [List.getD_eq_getElem?_getD,hj];rfl⟩
theorem zqM (ht:t.length=n)(hr:∀ r∈t,r.length=m):zlG (wid t) (m+n):=fun r h=>by
 obtain ⟨j,hj,rfl⟩:=zqL ht h;rw [zqJ ht hj,List.length_append,zqe hr (by omega),zqF hj];simp
theorem zqN (ht:t.length=n)(hr:∀ r∈t,r.length=m):zqi (at2 t) m n (wid t) (wid t) 0 0:=by
 refine ⟨zqI ht,zqM ht hr,fun r h=>?_,fun z h=>h,fun i hi=>by omega,fun i j hi hj=>by omega,fun i hi j hj=>by omega,Nat.zero_le _⟩;obtain ⟨j,hj,rfl⟩:=zqL ht h;intro i hi;have e1:zas ((wid t).getD j []) i=at2 t j i:=by
  have:=zqK ht hr hj i;rw [if_pos hi] at this;exact this
 rw [e1,zqH (k:=j) hj fun k hk hne=>?_]
 ·have:=zqK ht hr hj (m+j);rw [if_neg (by omega),if_pos (by omega)] at this;rw [show zas ((wid t).getD j []) (m+j)=1 from this,Int.one_mul]
 ·have:=zqK ht hr hj (m+k);rw [if_neg (by omega),if_neg (by omega)] at this;rw [show zas ((wid t).getD j []) (m+k)=0 from this,Int.zero_mul]
theorem zqO (ht:t.length=n)(hr:∀ r∈t,r.length=m)(hb:∀ j i,(at2 t j i).natAbs≤200):Up (wid t) 0 200:=fun i _ j=>by
 rcases Nat.lt_or_ge i n with q | q
 ·rw [zqK ht hr q];have:=hb i j;split
  ·exact this
  ·split <;> decide
 ·rw [zql (by rw [zqI ht];exact q)];decide
theorem zqP (ht:t.length=n)(hr:∀ r∈t,r.length=m)(u:Nat→Int)(hu:∀ j,n≤j→u j=0):Cmb (wid t) fun i=>if i<m then zpT (fun j=>u j * at2 t j i) n else u (i - m):=by
 refine (Cmb.sum (g:=wid t) (row:=fun j=>zas ((wid t).getD j [])) u (n:=n) fun j hj=>Cmb.mem ?_).eq fun i=>?_
 ·rw [List.getD_eq_getElem?_getD,List.getElem?_eq_getElem (by rw [zqI ht];exact hj)];exact List.getElem_mem _
 ·have h1:∀ j,j<n→zas ((wid t).getD j []) i=if i<m then at2 t j i else if i - m=j then 1 else 0:=fun j hj=>zqK ht hr hj i;by_cases e:i<m
  ·rw [if_pos e];exact zpU fun j hj=>by rw [h1 j hj,if_pos e]
  ·rw [if_neg e];rcases Nat.lt_or_ge (i - m) n with q | q
   ·rw [zqH (k:=i - m) q fun j hj hne=>by rw [h1 j hj,if_neg e,if_neg (fun q=>hne q.symm),Int.mul_zero],h1 _ q,if_neg e,if_pos rfl,Int.mul_one]
   ·rw [hu _ q];exact zpX fun j hj=>by rw [h1 j hj,if_neg e,if_neg (by omega),Int.mul_zero]
end
structure Frm (t:List (List Int))(m n:Nat)(f:List (List Int)):Prop where
 ech:Ech 0 f
 all:∀ u:Nat→Int,(∀ j,n≤j→u j=0)→Cmb f fun i=>if i<m then zpT (fun j=>u j * at2 t j i) n else u (i - m)
 lin:∀ r∈f,Lin (at2 t) m n (zas r)
 len:∀ r∈f,r.length=m+n
 few:f.length≤n
 bd:∀ r∈f,∀ i,(zas r i).natAbs≤abZ 4
theorem zqQ {t:List (List Int)}{m n:Nat}(hn:n≤4)(hm:m≤90)(ht:t.length=n)(hr:∀ r∈t,r.length=m)(hb:∀ j i,(at2 t j i).natAbs≤200) :
  ∃ gF tF,ziI 100 (List.zipWith (fun r u=>r++u) t (ziK n)) 0 0 (m+n)=some (gF,tF)∧Frm t m n (gF.take tF):=by
 obtain ⟨gF,tF,cF,h1,h2,h3,h4,h5⟩:=zqB (cols:=m+n) hn 100 (wid t) 0 0 (zqN ht hr) (by omega) (by omega) (fun i hi=>by omega) (zqO ht hr hb);have hw:List.zipWith (fun r u=>r++u) t (ziK n)=wid t:=by unfold wid;rw [ht]
 rw [hw];refine ⟨gF,tF,h1,h2.ech,fun u hu=>h2.all (by omega) (zqP ht hr u hu),fun r hr=>h2.lin r (List.mem_of_mem_take hr),fun r hr=>h2.rcz r (List.mem_of_mem_take hr),?_,fun r hr i=>?_⟩
 ·rw [List.length_take];have:=h2.tn;omega
 ·obtain ⟨k,hk⟩:=List.mem_iff_getElem?.1 hr;have hkl:=(List.getElem?_eq_some_iff.1 hk).1;rw [List.length_take] at hkl;have hkt:k<tF:=by omega
  rw [List.getElem?_take_of_lt hkt] at hk;have:=h4 k hkt i;rw [at2,List.getD_eq_getElem?_getD (l:=gF),hk] at this;have h6:=(zqA (j:=tF) (k:=4) (by have:=h2.tn;omega) (Nat.le_refl _)).2;exact Nat.le_trans this h6
/-! A row less the rows of a form. -/
theorem zqR {l r:List Int}(hl:l.length=r.length)(h:ziM r<l.length):(ziO l r).length=l.length∧∀ i,zas (ziO l r) i=zas l i - fdv (zas l (ziM r)) (zas r (ziM r)) * zas r i:=by
 have e:ziO l r=ziC l r (fdv (zas l (ziM r)) (zas r (ziM r))):=by unfold ziO;rw [if_pos h];rfl
 rw [e];exact ⟨zlH _ (by omega),fun i=>zpM hl i⟩
theorem zqS {r:List Int}(h:0<zas r (ziM r)):ziM r<r.length:=by
 refine Decidable.byContradiction fun q=>?_;unfold zas at h;rw [List.getD_eq_getElem?_getD,List.getElem?_eq_none (by omega)] at h;simp at h
theorem zqT {l:List Int}{L:Nat}(h:∀ i,(zas l i).natAbs≤L)(hL:L<zi2):l.all okZ=true:=by
 rw [List.all_eq_true];intro z hz;obtain ⟨i,hi⟩:=List.mem_iff_getElem?.1 hz;have:=h i;unfold zas at this;rw [List.getD_eq_getElem?_getD,hi,Option.getD_some] at this;unfold okZ;rw [decide_eq_true_eq];omega
theorem zqU (a:Int){b:Int}(hb:b ≠ 0):(fdv a b).natAbs≤a.natAbs:=zlE hb
theorem zqV {R:Nat}(hR:R<zi2):∀ {f:List (List Int)}{l:List Int}{L b:Nat},Ech b f→(∀ r∈f,r.length=l.length)→(∀ r∈f,∀ i,(zas r i).natAbs≤R)→(∀ i,(zas l i).natAbs≤L)→L * (R+1) ^ f.length<zi2 →
  ∃ lF,ziP f l=some lF∧lF.length=l.length∧(∀ i,(zas lF i).natAbs≤L * (R+1) ^ f.length)∧(∀ P:(Nat→Int)→Prop,P (zas l)→(∀ z,P z→∀ r∈f,∀ q:Int,P fun i=>z i - q * zas r i)→P (zas lF)) ∧
   (∀ i,i<b→zas lF i=zas l i)∧∀ r∈f,0≤zas lF (ziM r)∧zas lF (ziM r)<zas r (ziM r)
 | [],l,L,b,_,_,_,hl,_=>⟨l,rfl,rfl,fun i=>by simpa using hl i,fun _ h _=>h,fun _ _=>rfl,fun r h=>by cases h⟩
 | r::f,l,L,b,he,h1,h2,hl,hlim=>by
  have hr1:=h1 r List.mem_cons_self;have hr2:=h2 r List.mem_cons_self;have hp:=he.2.1;have hlt:ziM r<l.length:=by rw [← hr1];exact zqS hp
  obtain ⟨e1,e2⟩:=zqR hr1.symm hlt;have hpow:L * (R+1) * (R+1) ^ f.length=L * (R+1) ^ (r::f).length:=by rw [List.length_cons,Nat.pow_succ];grind
  have hone:1≤(R+1) ^ f.length:=Nat.pow_pos (by omega);have hL:L * (R+1)<zi2:=by
   have:L * (R+1) * 1≤L * (R+1) * (R+1) ^ f.length:=Nat.mul_le_mul_left _ hone;omega
  have hLL:L≤L * (R+1):=by
   have:L * 1≤L * (R+1):=Nat.mul_le_mul_left _ (by omega);omega
  have hq:=zqU (zas l (ziM r)) (b:=zas r (ziM r)) (by omega);have hbd:∀ i,(zas (ziO l r) i).natAbs≤L * (R+1):=fun i=>by
   rw [e2];have b1:=hl i;have b2:=hl (ziM r);have b3:=hr2 i;have b4:(fdv (zas l (ziM r)) (zas r (ziM r)) * zas r i).natAbs≤L * R:=by
    rw [Int.natAbs_mul];exact Nat.mul_le_mul (by omega) b3
   have e:L * (R+1)=L * R+L:=Nat.mul_succ L R;omega
  obtain ⟨lF,k1,k2,k3,k4,k5,k6⟩:=zqV hR (f:=f) (l:=ziO l r) he.2.2 (fun s hs=>by rw [e1];exact h1 s (List.mem_cons_of_mem _ hs)) (fun s hs=>h2 s (List.mem_cons_of_mem _ hs)) hbd (by rw [hpow];exact hlim);have hred:ziP (r::f) l=ziP f (ziO l r):=by
   rw [ziP,if_pos ⟨zqT hl (by omega),zqT hr2 hR⟩]
  refine ⟨lF,by rw [hred];exact k1,by rw [k2,e1],fun i=>by rw [← hpow];exact k3 i,fun P hP hs=>?_,fun i hi=>?_,fun s hs=>?_⟩
  ·refine k4 P ?_ fun z hz s hs' q=>hs z hz s (List.mem_cons_of_mem _ hs') q;have:=hs _ hP r List.mem_cons_self (fdv (zas l (ziM r)) (zas r (ziM r)));rw [show zas (ziO l r)=fun i=>zas l i - fdv (zas l (ziM r)) (zas r (ziM r)) * zas r i from funext e2];exact this
  ·rw [k5 i (by have:=he.1;omega),e2,zpS (l:=r) (j:=i) (by have:=he.1;omega),Int.mul_zero,Int.sub_zero]
  ·rcases List.mem_cons.1 hs with e | e
   ·subst e;rw [k5 _ (by omega),e2,zqo];exact zec hp
   ·exact k6 s e
theorem zqW (p:List Int→Bool):∀ {f:List (List Int)}{b:Nat},Ech b f→Ech b (f.filter p)
 | [],_,_=>trivial
 | r::f,b,h=>by
  by_cases e:p r=true
  ·rw [List.filter_cons_of_pos e];exact ⟨h.1,h.2.1,zqW p h.2.2⟩
  ·rw [List.filter_cons_of_neg e];exact (zqW p h.2.2).mono (by have:=h.1;omega)
theorem zqX (l:List Int)(c i:Nat):zas (l.drop c) i=zas l (c+i):=by
 unfold zas;rw [List.getD_eq_getElem?_getD,List.getElem?_drop,List.getD_eq_getElem?_getD]
theorem zqY {r:List Int}{c:Nat}(h:c≤ziM r)(hp:0<zas r (ziM r)):ziM (r.drop c)=ziM r - c∧zas (r.drop c) (ziM r - c)=zas r (ziM r):=by
 have e:zas (r.drop c) (ziM r - c)=zas r (ziM r):=by rw [zqX,show c+(ziM r - c)=ziM r by omega]
 exact ⟨zpR (fun j hj=>by rw [zqX];exact zpS (by omega)) (by rw [e];omega),e⟩
theorem zqZ {c:Nat}:∀ {f:List (List Int)}{b:Nat},c≤b→Ech b f→Ech (b - c) (f.map fun l=>l.drop c)
 | [],_,_,_=>trivial
 | r::f,b,hb,h=>by
  obtain ⟨e1,e2⟩:=zqY (c:=c) (r:=r) (by have:=h.1;omega) h.2.1;refine ⟨by rw [e1];have:=h.1;omega,by rw [e1,e2];exact h.2.1,?_⟩;rw [e1,show ziM r - c+1=ziM r+1 - c by have:=h.1;omega];exact zqZ (by have:=h.1;omega) h.2.2
theorem zra {c:Nat}:∀ {f:List (List Int)}{b:Nat},Ech b f→(∀ r∈f,c≤ziM r)→∃ b',c≤b'∧Ech b' f
 | [],_,_,_=>⟨c,Nat.le_refl _,trivial⟩
 | r::_,_,h,hr=>⟨ziM r,hr r List.mem_cons_self,Nat.le_refl _,h.2⟩
theorem zrb : 100 * (abZ 4+1) ^ 8<zi2∧abZ 4<zi2:=by decide +kernel
theorem zrc {R L k:Nat}(hk:k≤4):L * (R+1) ^ k≤L * (R+1) ^ 4:=Nat.mul_le_mul_left _ (Nat.pow_le_pow_right (by omega) hk)
def zrd (t:List (List Int))(b:List Int)(m n:Nat)(x:Nat→Int):Prop:=(∀ j,n≤j→x j=0)∧∀ i,i<m→zpT (fun j=>x j * at2 t j i) n=zas b i
def zre (t:List (List Int))(m n:Nat)(x:Nat→Int):Prop:=∀ u:Nat→Int,(∀ j,n≤j→u j=0)→(∀ i,i<m→zpT (fun j=>u j * at2 t j i) n=0)→∀ c,(∀ j,j<c→u j=0)→u c ≠ 0→0≤x c∧x c<((u c).natAbs:Int)
theorem zrf {t:List (List Int)}{b:List Int}{m n:Nat}(hn0:0<n)(hn:n≤4)(hm:m≤90)(ht:t.length=n)(hr:∀ r∈t,r.length=m)(hb:∀ j i,(at2 t j i).natAbs≤200)(hbl:b.length=m)(hbb:∀ i,(zas b i).natAbs≤100)
  (hD:∀ x,zrd t b m n x→zre t m n x→∀ j,(x j).natAbs≤1000000000) :
  ∃ S,ziQ t b=some S∧∀ x,S=some x→x.length=n∧zrd t b m n (zas x)∧zre t m n (zas x):=by
 obtain ⟨gF,tF,hout,hF⟩:=zqQ hn hm ht hr hb;obtain ⟨f,hf⟩:∃ f,gF.take tF=f:=⟨_,rfl⟩;rw [hf] at hF;have hg0:(t.getD 0 []).length=m:=zqe hr (by omega);have hwz:ziL t=some f:=by
  unfold ziL ziJ;rw [hg0,ht,hout,Option.map_some,← hf]
 have hlim:=zrb;have h1100:100 * (abZ 4+1) ^ 4<zi2∧100 * (abZ 4+1) ^ 4 * (abZ 4+1) ^ 4<zi2:=by
  have e:100 * (abZ 4+1) ^ 4 * (abZ 4+1) ^ 4=100 * (abZ 4+1) ^ 8:=by rw [Nat.mul_assoc,← Nat.pow_add]
  have h1:1≤(abZ 4+1) ^ 4:=Nat.pow_pos (by omega);have h2:100 * (abZ 4+1) ^ 4 * 1≤100 * (abZ 4+1) ^ 4 * (abZ 4+1) ^ 4:=Nat.mul_le_mul_left _ h1;omega
 obtain ⟨l0,hl0⟩:∃ l0,b++List.replicate n 0=l0:=⟨_,rfl⟩;have hl0l:l0.length=m+n:=by rw [← hl0,List.length_append,List.length_replicate,hbl]
 have hl0a:∀ i,zas l0 i=if i<m then zas b i else 0:=fun i=>by
  rw [← hl0];unfold zas;by_cases e:i<m
  ·rw [if_pos e,List.getD_eq_getElem?_getD,List.getElem?_append_left (by omega),← List.getD_eq_getElem?_getD]
  ·rw [if_neg e,List.getD_eq_getElem?_getD,List.getElem?_append_right (by omega),List.getElem?_replicate];split <;> rfl
 obtain ⟨fu,hfu⟩:∃ fu,(f.filter fun l=>decide (ziM l<m))=fu:=⟨_,rfl⟩;have hfum:∀ r∈fu,r∈f:=fun r hr=>by rw [← hfu] at hr;exact (List.mem_filter.1 hr).1
 have hful:fu.length≤4:=by rw [← hfu];have:=List.length_filter_le (fun l=>decide (ziM l<m)) f;have:=hF.few;omega
 have hfue:Ech 0 fu:=by rw [← hfu];exact zqW _ hF.ech
 obtain ⟨lF,k1,k2,k3,k4,k5,k6⟩:=zqV (R:=abZ 4) hlim.2 (f:=fu) (l:=l0) (L:=100) hfue (fun r hr=>by rw [hF.len r (hfum r hr),hl0l]) (fun r hr i=>hF.bd r (hfum r hr) i) (fun i=>by
  rw [hl0a];split
  ·exact hbb i
  ·decide) (Nat.lt_of_le_of_lt (zrc hful) h1100.1)
 have hlin:∀ i,i<m→zas lF i=zas b i+zpT (fun j=>zas lF (m+j) * at2 t j i) n :=
  k4 (fun z=>∀ i,i<m→z i=zas b i+zpT (fun j=>z (m+j) * at2 t j i) n) (fun i hi=>by
   rw [hl0a,if_pos hi,zpX fun j _=>by rw [hl0a,if_neg (by omega),Int.zero_mul]];omega) (fun z hz r hr q i hi=>by
   have h1:=hz i hi;have h2:=hF.lin r (hfum r hr) i hi;have h3:zpT (fun j=>z (m+j) * at2 t j i) n=zpT (fun j=>(z (m+j) - q * zas r (m+j)) * at2 t j i) n+q * zpT (fun j=>zas r (m+j) * at2 t j i) n:=by
    rw [← zpW,← zpV];exact zpU fun j _=>by rw [Int.sub_mul,Int.mul_assoc];omega
   show z i - q * zas r i=zas b i+zpT (fun j=>(z (m+j) - q * zas r (m+j)) * at2 t j i) n;rw [h2];omega)
 have hsol1:ziM lF<m→ziQ t b=some none:=fun q=>by
  unfold ziQ;rw [hwz];simp only [hg0,ht,hl0,hfu,k1];rw [if_pos q]
 have hsol2:¬ ziM lF<m→∀ x,ziP (ziN f m) (ziD (lF.drop m))=some x→x.all (fun z=>decide (z.natAbs≤1000000000))=true→ziQ t b=some (some x):=fun q x e1 e2=>by
  unfold ziQ;rw [hwz];simp only [hg0,ht,hl0,hfu,k1];rw [if_neg q,e1];simp only;rw [if_pos e2]
 by_cases hlt:ziM lF<m
 ·exact ⟨none,hsol1 hlt,fun x e=>by cases e⟩
 ·obtain ⟨x0,hx0⟩:∃ x0,ziD (lF.drop m)=x0:=⟨_,rfl⟩;have hx0l:x0.length=n:=by rw [← hx0,zlI,List.length_drop,k2,hl0l];omega
  have hx0a:∀ j,zas x0 j=-zas lF (m+j):=fun j=>by rw [← hx0,zpN,zqX]
  obtain ⟨fk,hfk⟩:∃ fk,(f.filter fun l=>decide (m≤ziM l))=fk:=⟨_,rfl⟩;have hker:ziN f m=fk.map fun l=>l.drop m:=by unfold ziN;rw [hfk]
  have hfkm:∀ r∈fk,r∈f∧m≤ziM r:=fun r hr=>by rw [← hfk] at hr;have:=List.mem_filter.1 hr;exact ⟨this.1,of_decide_eq_true this.2⟩
  have hfkl:fk.length≤4:=by rw [← hfk];have:=List.length_filter_le (fun l=>decide (m≤ziM l)) f;have:=hF.few;omega
  have hfke:Ech 0 fk:=by rw [← hfk];exact zqW _ hF.ech
  obtain ⟨b',hb',hE'⟩:=zra hfke fun r hr=>(hfkm r hr).2;have hKe:=zqZ hb' hE';have hKm:∀ u∈ziN f m,∃ r∈fk,u=r.drop m:=fun u hu=>by
   rw [hker] at hu;obtain ⟨r,h1,h2⟩:=List.mem_map.1 hu;exact ⟨r,h1,h2.symm⟩
  have hKz:∀ r∈fk,∀ i,i<m→zpT (fun j=>zas (r.drop m) j * at2 t j i) n=0:=fun r hr i hi=>by
   have h1:=hF.lin r (hfkm r hr).1 i hi;rw [zpS (by have:=(hfkm r hr).2;omega)] at h1;rw [show (fun j=>zas (r.drop m) j * at2 t j i)=fun j=>zas r (m+j) * at2 t j i from funext fun j=>by rw [zqX]];exact h1.symm
  obtain ⟨xF,j1,j2,j3,j4,j5,j6⟩:=zqV (R:=abZ 4) hlim.2 (f:=ziN f m) (l:=x0) (L:=100 * (abZ 4+1) ^ 4) (by rw [hker];exact hKe) (fun u hu=>by
    obtain ⟨r,h1,rfl⟩:=hKm u hu;rw [List.length_drop,hF.len r (hfkm r h1).1,hx0l];omega) (fun u hu i=>by
    obtain ⟨r,h1,rfl⟩:=hKm u hu;rw [zqX];exact hF.bd r (hfkm r h1).1 _) (fun i=>by
    rw [hx0a,Int.natAbs_neg];exact Nat.le_trans (k3 _) (zrc hful)) (by
    have:(ziN f m).length≤4:=(by rw [hker,List.length_map];exact hfkl);exact Nat.lt_of_le_of_lt (zrc this) h1100.2)
  have hSX:zrd t b m n (zas xF):=by
   refine ⟨fun j hj=>?_,j4 (fun z=>∀ i,i<m→zpT (fun j=>z j * at2 t j i) n=zas b i) (fun i hi=>?_) fun z hz u hu q i hi=>?_⟩
   ·unfold zas;rw [List.getD_eq_getElem?_getD,List.getElem?_eq_none (by omega)];rfl
   ·have h1:=hlin i hi;rw [zpS (by omega)] at h1;have h2:zpT (fun j=>zas x0 j * at2 t j i) n=-1 * zpT (fun j=>zas lF (m+j) * at2 t j i) n:=by
     rw [← zpW];exact zpU fun j _=>by rw [hx0a,Int.neg_mul,Int.neg_one_mul]
    omega
   ·obtain ⟨r,h1,rfl⟩:=hKm u hu;have h2:=hKz r h1 i hi;have h3:=hz i hi;have h4:zpT (fun j=>z j * at2 t j i) n=zpT (fun j=>(z j - q * zas (r.drop m) j) * at2 t j i) n+q * zpT (fun j=>zas (r.drop m) j * at2 t j i) n:=by
     rw [← zpW,← zpV];exact zpU fun j _=>by rw [Int.sub_mul,Int.mul_assoc];omega
    show zpT (fun j=>(z j - q * zas (r.drop m) j) * at2 t j i) n=zas b i;rw [h2] at h4;omega
  have hRX:zre t m n (zas xF):=fun u hu0 huk c huc hc=>by
   have hall:=hF.all u hu0;obtain ⟨z,hZ⟩:∃ z:Nat→Int,z=fun i=>if i<m then zpT (fun j=>u j * at2 t j i) n else u (i - m):=⟨_,rfl⟩;rw [← hZ] at hall;have hz:∀ i,i<m→z i=0:=fun i hi=>by
    rw [hZ];show (if i<m then _ else _)=(0:Int);rw [if_pos hi];exact huk i hi
   have hzr:∀ i,m≤i→z i=u (i - m):=fun i hi=>by
    rw [hZ];show (if i<m then _ else _)=_;rw [if_neg (by omega)]
   have hzc:z (m+c)=u c:=(by rw [hzr _ (by omega),show m+c - m=c by omega]);clear hZ;obtain ⟨r,hr1,hr2,hr3,hr4⟩:=hF.ech.lead hall ⟨m+c,by rw [hzc];exact hc⟩;have hlead:ziM r=m+c:=by
    rcases Nat.lt_trichotomy (ziM r) (m+c) with q | q | q
    ·refine absurd ?_ hr3;rcases Nat.lt_or_ge (ziM r) m with q2 | q2
     ·exact hz _ q2
     ·rw [hzr _ q2];exact huc _ (by omega)
    ·exact q
    ·have:=hr2 (m+c) q;rw [hzc] at this;exact absurd this hc
   have hrk:r∈fk:=(by rw [← hfk];exact List.mem_filter.2 ⟨hr1,decide_eq_true (by omega)⟩);have hpos:0<zas r (ziM r):=by
    have:∀ {f:List (List Int)}{b:Nat},Ech b f→∀ r∈f,0<zas r (ziM r):=fun {f}=>by
     induction f with
     | nil=>intro b _ r h;cases h
     | cons s f ih =>
      intro b h r hr
      rcases List.mem_cons.1 hr with e | e
      ·rw [e];exact h.2.1
      ·exact ih h.2.2 r e
    exact this hF.ech r hr1
   obtain ⟨e1,e2⟩:=zqY (c:=m) (by omega) hpos;have h6:=j6 (r.drop m) (by rw [hker];exact List.mem_map.2 ⟨r,hrk,rfl⟩);rw [e1,e2,show ziM r - m=c by omega] at h6;refine ⟨h6.1,?_⟩;rw [hlead,hzc] at hr4;rw [hlead] at h6 hpos;have:zas r (m+c)≤((u c).natAbs:Int):=by
    have h7:zas r (m+c) ∣ ((u c).natAbs:Int):=Int.dvd_natAbs.2 hr4;exact Int.le_of_dvd (by omega) h7
   omega
  have hbd:=hD _ hSX hRX;refine ⟨some xF,?_,fun x e=>by
   obtain rfl:=Option.some.inj e;exact ⟨by rw [j2,hx0l],hSX,hRX⟩⟩
  refine hsol2 hlt xF (by rw [hx0];exact j1) ?_;rw [List.all_eq_true];intro z hz;obtain ⟨i,hi⟩:=List.mem_iff_getElem?.1 hz;have:=hbd i;unfold zas at this;rw [List.getD_eq_getElem?_getD,hi,Option.getD_some] at this;rw [decide_eq_true_eq];exact this
def d3 (p1 q1 s1 p2 q2 s2 p3 q3 s3:Int):Int:=p1 * (q2 * s3 - s2 * q3) - q1 * (p2 * s3 - s2 * p3)+s1 * (p2 * q3 - q2 * p3)
theorem zrg {a b:Int}{A B:Nat}(h1:a.natAbs≤A)(h2:b.natAbs≤B):(a * b).natAbs≤A * B:=by
 rw [Int.natAbs_mul];exact Nat.mul_le_mul h1 h2
theorem zrh {a b c d:Int}{A B C D:Nat}(h1:a.natAbs≤A)(h2:b.natAbs≤B)(h3:c.natAbs≤C)(h4:d.natAbs≤D):(a * d - b * c).natAbs≤A * D+B * C:=by
 have:=zrg h1 h4;have:=zrg h2 h3;omega
theorem zri {x D N:Int}{K:Nat}(h:x * D=N)(hD:D ≠ 0)(hN:N.natAbs≤K):x.natAbs≤K:=by
 rw [← h,Int.natAbs_mul] at hN;have:x.natAbs * 1≤x.natAbs * D.natAbs:=Nat.mul_le_mul_left _ (by omega);omega
theorem zrj {x u:Int}{K:Nat}(h:0≤x∧x<(u.natAbs:Int))(hu:u.natAbs≤K):x.natAbs≤K:=by omega
theorem zrk {f1 g1 h1 f2 g2 h2 f3 g3 h3 c1 c2 c3 x y z:Int}(e1:x * f1+y * g1+z * h1=c1)(e2:x * f2+y * g2+z * h2=c2)(e3:x * f3+y * g3+z * h3=c3) :
  x * d3 f1 g1 h1 f2 g2 h2 f3 g3 h3=c1 * (g2 * h3 - h2 * g3) - c2 * (g1 * h3 - h1 * g3)+c3 * (g1 * h2 - h1 * g2) ∧
  y * d3 f1 g1 h1 f2 g2 h2 f3 g3 h3=-(c1 * (f2 * h3 - h2 * f3) - c2 * (f1 * h3 - h1 * f3)+c3 * (f1 * h2 - h1 * f2)) ∧
  z * d3 f1 g1 h1 f2 g2 h2 f3 g3 h3=c1 * (f2 * g3 - g2 * f3) - c2 * (f1 * g3 - g1 * f3)+c3 * (f1 * g2 - g1 * f2):=by
 unfold d3;subst e1 e2 e3;refine ⟨by grind,by grind,by grind⟩
theorem zrl {c1 c2 c3 m1 m2 m3:Int}{C M:Nat}(h1:c1.natAbs≤C)(h2:c2.natAbs≤C)(h3:c3.natAbs≤C)(k1:m1.natAbs≤M)(k2:m2.natAbs≤M)(k3:m3.natAbs≤M):(c1 * m1 - c2 * m2+c3 * m3).natAbs≤3 * (C * M):=by
 have:=zrg h1 k1;have:=zrg h2 k2;have:=zrg h3 k3;omega
theorem zrm {p1 q1 s1 p2 q2 s2 p3 q3 s3:Int}{A B:Nat}(h1:p1.natAbs≤A)(h2:p2.natAbs≤A)(h3:p3.natAbs≤A)(k1:q1.natAbs≤B)(k2:q2.natAbs≤B)(k3:q3.natAbs≤B)(l1:s1.natAbs≤B)(l2:s2.natAbs≤B)(l3:s3.natAbs≤B):(d3 p1 q1 s1 p2 q2 s2 p3 q3 s3).natAbs≤A * (B * B+B * B)+B * (A * B+B * A)+B * (A * B+B * A):=by
 unfold d3;have:=zrg h1 (zrh k2 l2 k3 l3);have:=zrg k1 (zrh h2 l2 h3 l3);have:=zrg l1 (zrh h2 k2 h3 k3);omega
def d4 (a1 p1 q1 s1 a2 p2 q2 s2 a3 p3 q3 s3 a4 p4 q4 s4:Int):Int :=
 a1 * d3 p2 q2 s2 p3 q3 s3 p4 q4 s4 - a2 * d3 p1 q1 s1 p3 q3 s3 p4 q4 s4+a3 * d3 p1 q1 s1 p2 q2 s2 p4 q4 s4 - a4 * d3 p1 q1 s1 p2 q2 s2 p3 q3 s3
theorem zrn {a1 p1 q1 s1 a2 p2 q2 s2 a3 p3 q3 s3 a4 p4 q4 s4 b1 b2 b3 b4 x y z w:Int}(e1:x * a1+y * p1+z * q1+w * s1=b1)(e2:x * a2+y * p2+z * q2+w * s2=b2)(e3:x * a3+y * p3+z * q3+w * s3=b3)(e4:x * a4+y * p4+z * q4+w * s4=b4) :
  x * d4 a1 p1 q1 s1 a2 p2 q2 s2 a3 p3 q3 s3 a4 p4 q4 s4=b1 * d3 p2 q2 s2 p3 q3 s3 p4 q4 s4 - b2 * d3 p1 q1 s1 p3 q3 s3 p4 q4 s4+b3 * d3 p1 q1 s1 p2 q2 s2 p4 q4 s4 - b4 * d3 p1 q1 s1 p2 q2 s2 p3 q3 s3:=by
 unfold d4 d3;subst e1 e2 e3 e4;grind
theorem zro (a1 p1 q1 s1 a2 p2 q2 s2 a3 p3 q3 s3 a4 p4 q4 s4:Int):d4 p1 a1 q1 s1 p2 a2 q2 s2 p3 a3 q3 s3 p4 a4 q4 s4=-d4 a1 p1 q1 s1 a2 p2 q2 s2 a3 p3 q3 s3 a4 p4 q4 s4∧d4 q1 a1 p1 s1 q2 a2 p2 s2 q3 a3 p3 s3 q4 a4 p4 s4=d4 a1 p1 q1 s1 a2 p2 q2 s2 a3 p3 q3 s3 a4 p4 q4 s4∧d4 s1 a1 p1 q1 s2 a2 p2 q2 s3 a3 p3 q3 s4 a4 p4 q4=-d4 a1 p1 q1 s1 a2 p2 q2 s2 a3 p3 q3 s3 a4 p4 q4 s4:=by
 unfold d4 d3;refine ⟨by grind,by grind,by grind⟩
theorem zrp {c1 c2 c3 c4 m1 m2 m3 m4:Int}{C M:Nat}(h1:c1.natAbs≤C)(h2:c2.natAbs≤C)(h3:c3.natAbs≤C)(h4:c4.natAbs≤C)(k1:m1.natAbs≤M)(k2:m2.natAbs≤M)(k3:m3.natAbs≤M)(k4:m4.natAbs≤M):(c1 * m1 - c2 * m2+c3 * m3 - c4 * m4).natAbs≤4 * (C * M):=by
 have:=zrg h1 k1;have:=zrg h2 k2;have:=zrg h3 k3;have:=zrg h4 k4;omega
theorem zrq {m:Nat}{a f g c:Nat→Int}{x y z:Int}{i k:Nat}(hi:i<m)(hk:k<m)(ha:∀ r,r<m→(a r).natAbs≤200)(hf:∀ r,r<m→(f r).natAbs≤9)(hg:∀ r,r<m→(g r).natAbs≤9)(hc:∀ r,r<m→(c r).natAbs≤1467)
  (he:∀ r,r<m→x * a r+y * f r+z * g r=c r) (hM:f i * g k - g i * f k ≠ 0)
  (hred:(∀ r,r<m→(f i * g k - g i * f k) * a r+(-(a i * g k - g i * a k)) * f r+(a i * f k - f i * a k) * g r=0)→0≤x∧x<((f i * g k - g i * f k).natAbs:Int)) :
  x.natAbs≤1000000000∧y.natAbs≤1000000000∧z.natAbs≤1000000000:=by
 have hM2:(f i * g k - g i * f k).natAbs≤162:=zrh (hf i hi) (hg i hi) (hf k hk) (hg k hk);by_cases hex:∃ r,r<m∧d3 (a i) (f i) (g i) (a k) (f k) (g k) (a r) (f r) (g r) ≠ 0
 ·obtain ⟨r,hr,hD⟩:=hex;obtain ⟨e1,e2,e3⟩:=zrk (he i hi) (he k hk) (he r hr);have m1:∀ s t,s<m→t<m→(f s * g t - g s * f t).natAbs≤162:=fun s t hs ht=>zrh (hf s hs) (hg s hs) (hf t ht) (hg t ht);have m2:∀ s t,s<m→t<m→(a s * g t - g s * a t).natAbs≤3600:=fun s t hs ht=>zrh (ha s hs) (hg s hs) (ha t ht) (hg t ht);have m3:∀ s t,s<m→t<m→(a s * f t - f s * a t).natAbs≤3600:=fun s t hs ht=>zrh (ha s hs) (hf s hs) (ha t ht) (hf t ht);have n1:=zrl (hc i hi) (hc k hk) (hc r hr) (m1 k r hk hr) (m1 i r hi hr) (m1 i k hi hk);have n2:=zrl (hc i hi) (hc k hk) (hc r hr) (m2 k r hk hr) (m2 i r hi hr) (m2 i k hi hk);have n3:=zrl (hc i hi) (hc k hk) (hc r hr) (m3 k r hk hr) (m3 i r hi hr) (m3 i k hi hk);rw [← Int.natAbs_neg] at n2;exact ⟨zri e1 hD (by omega),zri e2 hD (by omega),zri e3 hD (by omega)⟩
 ·have hx:=hred fun r hr=>by
   have h0:d3 (a i) (f i) (g i) (a k) (f k) (g k) (a r) (f r) (g r)=0:=Decidable.byContradiction fun q=>hex ⟨r,hr,q⟩;unfold d3 at h0;grind
  have hxb:=zrj hx hM2;have q1:=he i hi;have q2:=he k hk;have b1:(c i - x * a i).natAbs≤33867:=by
   have:=zrg hxb (ha i hi);have:=hc i hi;omega
  have b2:(c k - x * a k).natAbs≤33867:=by
   have:=zrg hxb (ha k hk);have:=hc k hk;omega
  have ey:y * (f i * g k - g i * f k)=(c i - x * a i) * g k - g i * (c k - x * a k):=by rw [← q1,← q2];grind
  have ez:z * (f i * g k - g i * f k)=f i * (c k - x * a k) - (c i - x * a i) * f k:=by rw [← q1,← q2];grind
  have n1:=zrh b1 (hg i hi) b2 (hg k hk);have n2:=zrh (hf i hi) b1 (hf k hk) b2;exact ⟨by omega,zri ey hM (by omega),zri ez hM (by omega)⟩
theorem zrr {m:Nat}{a f c:Nat→Int}{x y:Int}{i:Nat}(hi:i<m)(ha:∀ r,r<m→(a r).natAbs≤200)(hf:∀ r,r<m→(f r).natAbs≤9)(hc:∀ r,r<m→(c r).natAbs≤1467)
  (he:∀ r,r<m→x * a r+y * f r=c r) (hM:f i ≠ 0) (hred:(∀ r,r<m→f i * a r+(-a i) * f r=0)→0≤x∧x<((f i).natAbs:Int)) :
  x.natAbs≤1000000000∧y.natAbs≤1000000000:=by
 have hfi:=hf i hi;have hci:=hc i hi;have hai:=ha i hi;have hx:x.natAbs≤26406:=by
  by_cases hex:∃ r,r<m∧a i * f r - f i * a r ≠ 0
  ·obtain ⟨r,hr,hD⟩:=hex;have e:x * (a i * f r - f i * a r)=c i * f r - f i * c r:=(by rw [← he i hi,← he r hr];grind);exact zri e hD (zrh hci hfi (hc r hr) (hf r hr))
  ·have:=hred fun r hr=>by
    have h0:a i * f r - f i * a r=0:=Decidable.byContradiction fun q=>hex ⟨r,hr,q⟩;grind
   omega
 have e:y * f i=c i - x * a i:=by have:=he i hi;omega
 have:=zrg hx hai;exact ⟨by omega,zri e hM (by omega)⟩
theorem zrs {m:Nat}{a p q s b:Nat→Int}{x y z w:Int}(ha:∀ r,r<m→(a r).natAbs≤200)(hp:∀ r,r<m→(p r).natAbs≤9)(hq:∀ r,r<m→(q r).natAbs≤9)(hs:∀ r,r<m→(s r).natAbs≤9)(hb:∀ r,r<m→(b r).natAbs≤9)
  (he:∀ r,r<m→x * a r+y * p r+z * q r+w * s r=b r)
  (h0:∀ u0 u1 u2 u3:Int,(∀ r,r<m→u0 * a r+u1 * p r+u2 * q r+u3 * s r=0)→u0 ≠ 0→0≤x∧x<(u0.natAbs:Int))
  (h1:∀ u1 u2 u3:Int,(∀ r,r<m→u1 * p r+u2 * q r+u3 * s r=0)→u1 ≠ 0→0≤y∧y<(u1.natAbs:Int))
  (h2:∀ u2 u3:Int,(∀ r,r<m→u2 * q r+u3 * s r=0)→u2 ≠ 0→0≤z∧z<(u2.natAbs:Int))
  (h3:∀ u3:Int,(∀ r,r<m→u3 * s r=0)→u3 ≠ 0→0≤w∧w<(u3.natAbs:Int)) :
  x.natAbs≤1000000000∧y.natAbs≤1000000000∧z.natAbs≤1000000000∧w.natAbs≤1000000000:=by
 have mm:∀ {f g:Nat→Int}(i k:Nat),(∀ r,r<m→(f r).natAbs≤9)→(∀ r,r<m→(g r).natAbs≤9)→i<m→k<m→(f i * g k - g i * f k).natAbs≤162:=fun i k hf hg hi hk=>zrh (hf i hi) (hg i hi) (hf k hk) (hg k hk);by_cases c1:∃ i k l r,i<m∧k<m∧l<m∧r<m∧d4 (a i) (p i) (q i) (s i) (a k) (p k) (q k) (s k) (a l) (p l) (q l) (s l) (a r) (p r) (q r) (s r) ≠ 0
 ·obtain ⟨i,k,l,r,hi,hk,hl,hr,hD⟩:=c1;have b0:∀ {f g h:Nat→Int}(i k l:Nat),(∀ r,r<m→(f r).natAbs≤200)→(∀ r,r<m→(g r).natAbs≤9)→(∀ r,r<m→(h r).natAbs≤9)→i<m→k<m→l<m→(d3 (f i) (g i) (h i) (f k) (g k) (h k) (f l) (g l) (h l)).natAbs≤97200:=fun i k l hf hg hh hi hk hl=>zrm (hf i hi) (hf k hk) (hf l hl) (hg i hi) (hg k hk) (hg l hl) (hh i hi) (hh k hk) (hh l hl);have hp':∀ r,r<m→(p r).natAbs≤200:=fun r hr=>by have:=hp r hr;omega
  obtain ⟨sw1,sw2,sw3⟩:=zro (a i) (p i) (q i) (s i) (a k) (p k) (q k) (s k) (a l) (p l) (q l) (s l) (a r) (p r) (q r) (s r);have key:∀ {f0 f1 f2 f3:Nat→Int}{x y z w:Int},(∀ r,r<m→x * f0 r+y * f1 r+z * f2 r+w * f3 r=b r)→(∀ r,r<m→(f1 r).natAbs≤200)→(∀ r,r<m→(f2 r).natAbs≤9)→(∀ r,r<m→(f3 r).natAbs≤9)→d4 (f0 i) (f1 i) (f2 i) (f3 i) (f0 k) (f1 k) (f2 k) (f3 k) (f0 l) (f1 l) (f2 l) (f3 l) (f0 r) (f1 r) (f2 r) (f3 r) ≠ 0→x.natAbs≤1000000000:=fun {f0 f1 f2 f3 x y z w} he g1 g2 g3 hD=>by
   have e:=zrn (he i hi) (he k hk) (he l hl) (he r hr);have n:=zrp (hb i hi) (hb k hk) (hb l hl) (hb r hr) (b0 k l r g1 g2 g3 hk hl hr) (b0 i l r g1 g2 g3 hi hl hr) (b0 i k r g1 g2 g3 hi hk hr) (b0 i k l g1 g2 g3 hi hk hl);exact zri e hD (by omega)
  exact ⟨key he hp' hq hs hD,key (f0:=p) (f1:=a) (f2:=q) (f3:=s) (y:=x) (z:=z) (w:=w) (fun r hr=>by have:=he r hr;omega) ha hq hs (by rw [sw1];omega),key (f0:=q) (f1:=a) (f2:=p) (f3:=s) (y:=x) (z:=y) (w:=w) (fun r hr=>by have:=he r hr;omega) ha hp hs (by rw [sw2];exact hD),key (f0:=s) (f1:=a) (f2:=p) (f3:=q) (y:=x) (z:=y) (w:=z) (fun r hr=>by have:=he r hr;omega) ha hp hq (by rw [sw3];omega)⟩
 have z4:∀ i k l r,i<m→k<m→l<m→r<m→d4 (a i) (p i) (q i) (s i) (a k) (p k) (q k) (s k) (a l) (p l) (q l) (s l) (a r) (p r) (q r) (s r)=0:=fun i k l r hi hk hl hr=>Decidable.byContradiction fun h=>c1 ⟨i,k,l,r,hi,hk,hl,hr,h⟩;by_cases c2:∃ i k l,i<m∧k<m∧l<m∧d3 (p i) (q i) (s i) (p k) (q k) (s k) (p l) (q l) (s l) ≠ 0
 ·obtain ⟨i,k,l,hi,hk,hl,hD⟩:=c2;have hx:=h0 (d3 (p i) (q i) (s i) (p k) (q k) (s k) (p l) (q l) (s l)) (-d3 (a i) (q i) (s i) (a k) (q k) (s k) (a l) (q l) (s l)) (d3 (a i) (p i) (s i) (a k) (p k) (s k) (a l) (p l) (s l)) (-d3 (a i) (p i) (q i) (a k) (p k) (q k) (a l) (p l) (q l)) (fun r hr=>by
   have:=z4 i k l r hi hk hl hr;unfold d4 d3 at this;unfold d3;grind) hD
  have hDb:=zrm (A:=9) (B:=9) (hp i hi) (hp k hk) (hp l hl) (hq i hi) (hq k hk) (hq l hl) (hs i hi) (hs k hk) (hs l hl);have hxb:x.natAbs≤4374:=zrj hx (by omega);have hcb:∀ r,r<m→(b r - x * a r).natAbs≤874809:=fun r hr=>by
   have:=zrg hxb (ha r hr);have:=hb r hr;omega
  have hce:∀ r,r<m→y * p r+z * q r+w * s r=b r - x * a r:=fun r hr=>by have:=he r hr;omega
  obtain ⟨e1,e2,e3⟩:=zrk (hce i hi) (hce k hk) (hce l hl);have n1:=zrl (hcb i hi) (hcb k hk) (hcb l hl) (mm k l hq hs hk hl) (mm i l hq hs hi hl) (mm i k hq hs hi hk);have n2:=zrl (hcb i hi) (hcb k hk) (hcb l hl) (mm k l hp hs hk hl) (mm i l hp hs hi hl) (mm i k hp hs hi hk);have n3:=zrl (hcb i hi) (hcb k hk) (hcb l hl) (mm k l hp hq hk hl) (mm i l hp hq hi hl) (mm i k hp hq hi hk);rw [← Int.natAbs_neg] at n2;exact ⟨by omega,zri e1 hD (by omega),zri e2 hD (by omega),zri e3 hD (by omega)⟩
 have z3:∀ i k l,i<m→k<m→l<m→d3 (p i) (q i) (s i) (p k) (q k) (s k) (p l) (q l) (s l)=0:=fun i k l hi hk hl=>Decidable.byContradiction fun h=>c2 ⟨i,k,l,hi,hk,hl,h⟩;by_cases c3:∃ i k,i<m∧k<m∧(q i * s k - s i * q k ≠ 0∨p i * s k - s i * p k ≠ 0∨p i * q k - q i * p k ≠ 0)
 ·obtain ⟨i,k,hi,hk,hD⟩:=c3;have hker:∀ r,r<m→(q i * s k - s i * q k) * p r+(-(p i * s k - s i * p k)) * q r+(p i * q k - q i * p k) * s r=0:=fun r hr=>by
   have:=z3 i k r hi hk hr;unfold d3 at this;grind
  by_cases v1:q i * s k - s i * q k ≠ 0
  ·have hy:=zrj (h1 _ _ _ hker v1) (mm i k hq hs hi hk);obtain ⟨r1,r2,r3⟩:=zrq (f:=q) (g:=s) (c:=fun r=>b r - y * p r) (x:=x) (y:=z) (z:=w) hi hk ha hq hs (fun r hr=>by
    have:=zrg hy (hp r hr);have:=hb r hr;show (b r - y * p r).natAbs≤1467;omega) (fun r hr=>by have:=he r hr;show _=b r - y * p r;omega) v1 fun h=>h0 _ 0 (-(a i * s k - s i * a k)) (a i * q k - q i * a k) (fun r hr=>by have:=h r hr;omega) v1
   exact ⟨r1,by omega,r2,r3⟩
  ·have v1':q i * s k - s i * q k=0:=(by omega);by_cases v2:p i * s k - s i * p k ≠ 0
   ·have hz:=zrj (h2 _ _ (fun r hr=>by have:=hker r hr;rw [v1',Int.zero_mul,Int.zero_add] at this;exact this) (by omega:-(p i * s k - s i * p k) ≠ 0)) (by rw [Int.natAbs_neg];exact mm i k hp hs hi hk);obtain ⟨r1,r2,r3⟩:=zrq (f:=p) (g:=s) (c:=fun r=>b r - z * q r) (x:=x) (y:=y) (z:=w) hi hk ha hp hs (fun r hr=>by
     have:=zrg hz (hq r hr);have:=hb r hr;show (b r - z * q r).natAbs≤1467;omega) (fun r hr=>by have:=he r hr;show _=b r - z * q r;omega) v2 fun h=>h0 _ (-(a i * s k - s i * a k)) 0 (a i * p k - p i * a k) (fun r hr=>by have:=h r hr;omega) v2
    exact ⟨r1,r2,by omega,r3⟩
   ·have v2':p i * s k - s i * p k=0:=(by omega);have v3:p i * q k - q i * p k ≠ 0:=(by omega);have hw:=zrj (h3 _ (fun r hr=>by have:=hker r hr;rw [v1',v2',Int.zero_mul,Int.neg_zero,Int.zero_mul,Int.zero_add,Int.zero_add] at this;exact this) v3) (mm i k hp hq hi hk);obtain ⟨r1,r2,r3⟩:=zrq (f:=p) (g:=q) (c:=fun r=>b r - w * s r) (x:=x) (y:=y) (z:=z) hi hk ha hp hq (fun r hr=>by
     have:=zrg hw (hs r hr);have:=hb r hr;show (b r - w * s r).natAbs≤1467;omega) (fun r hr=>by have:=he r hr;show _=b r - w * s r;omega) v3 fun h=>h0 _ (-(a i * q k - q i * a k)) (a i * p k - p i * a k) 0 (fun r hr=>by have:=h r hr;omega) v3
    exact ⟨r1,r2,r3,by omega⟩
 have z2:∀ i k,i<m→k<m→q i * s k - s i * q k=0∧p i * s k - s i * p k=0∧p i * q k - q i * p k=0:=fun i k hi hk=>by
  refine ⟨Decidable.byContradiction fun h=>c3 ⟨i,k,hi,hk,.inl h⟩,Decidable.byContradiction fun h=>c3 ⟨i,k,hi,hk,.inr (.inl h)⟩,Decidable.byContradiction fun h=>c3 ⟨i,k,hi,hk,.inr (.inr h)⟩⟩
 by_cases c4:∃ i,i<m∧s i ≠ 0
 ·obtain ⟨i,hi,hD⟩:=c4;have hsi:=hs i hi;have hy:=h1 (s i) 0 (-p i) (fun r hr=>by have:=(z2 i r hi hr).2.1;grind) hD;have hz:=h2 (s i) (-q i) (fun r hr=>by have:=(z2 i r hi hr).1;grind) hD;obtain ⟨r1,r2⟩:=zrr (f:=s) (c:=fun r=>b r - y * p r - z * q r) (x:=x) (y:=w) hi ha hs (fun r hr=>by
   have:=zrg (zrj hy hsi) (hp r hr);have:=zrg (zrj hz hsi) (hq r hr);have:=hb r hr;show (b r - y * p r - z * q r).natAbs≤1467;omega) (fun r hr=>by have:=he r hr;show _=b r - y * p r - z * q r;omega) hD fun h=>h0 (s i) 0 0 (-a i) (fun r hr=>by have:=h r hr;omega) hD
  exact ⟨r1,by omega,by omega,r2⟩
 have zs:∀ r,r<m→s r=0:=fun r hr=>Decidable.byContradiction fun h=>c4 ⟨r,hr,h⟩;have hw:=h3 1 (fun r hr=>by rw [zs r hr];rfl) (by decide);have hw0:w=0:=by omega
 by_cases c5:∃ i,i<m∧q i ≠ 0
 ·obtain ⟨i,hi,hD⟩:=c5;have hqi:=hq i hi;have hy:=h1 (q i) (-p i) 0 (fun r hr=>by have:=(z2 i r hi hr).2.2;grind) hD;obtain ⟨r1,r2⟩:=zrr (f:=q) (c:=fun r=>b r - y * p r) (x:=x) (y:=z) hi ha hq (fun r hr=>by
   have:=zrg (zrj hy hqi) (hp r hr);have:=hb r hr;show (b r - y * p r).natAbs≤1467;omega) (fun r hr=>by have:=he r hr;rw [zs r hr] at this;show _=b r - y * p r;omega) hD fun h=>h0 (q i) 0 (-a i) 0 (fun r hr=>by have:=h r hr;omega) hD
  exact ⟨r1,by omega,r2,by omega⟩
 have zq:∀ r,r<m→q r=0:=fun r hr=>Decidable.byContradiction fun h=>c5 ⟨r,hr,h⟩;have hz:=h2 1 0 (fun r hr=>by rw [zq r hr];omega) (by decide);have hz0:z=0:=by omega
 by_cases c6:∃ i,i<m∧p i ≠ 0
 ·obtain ⟨i,hi,hD⟩:=c6;obtain ⟨r1,r2⟩:=zrr (f:=p) (c:=b) (x:=x) (y:=y) hi ha hp (fun r hr=>by have:=hb r hr;omega) (fun r hr=>by have:=he r hr;rw [zs r hr,zq r hr] at this;omega) hD fun h=>h0 (p i) (-a i) 0 0 (fun r hr=>by have:=h r hr;omega) hD;exact ⟨r1,r2,by omega,by omega⟩
 have zp:∀ r,r<m→p r=0:=fun r hr=>Decidable.byContradiction fun h=>c6 ⟨r,hr,h⟩;have hy:=h1 1 0 0 (fun r hr=>by rw [zp r hr];omega) (by decide);have hy0:y=0:=by omega
 have hx:x.natAbs≤9:=by
  by_cases c7:∃ i,i<m∧a i ≠ 0
  ·obtain ⟨i,hi,hD⟩:=c7;exact zri (N:=b i) (by have:=he i hi;rw [zp i hi,zq i hi,zs i hi] at this;omega) hD (hb i hi)
  ·have:=h0 1 0 0 0 (fun r hr=>by
    have:a r=0:=Decidable.byContradiction fun h=>c7 ⟨r,hr,h⟩;rw [this];omega) (by decide)
   omega
 exact ⟨by omega,by omega,by omega,by omega⟩
end Go.Proofs.YtipkdebkdnbieaaGreatDoor
