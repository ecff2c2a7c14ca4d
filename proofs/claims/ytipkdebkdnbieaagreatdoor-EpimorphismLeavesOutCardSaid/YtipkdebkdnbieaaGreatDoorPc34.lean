/- Plain: epimorphism.Val of a small set answers. (KEEPALL) Walks: val.Check, dot, checkBoth, Steps. (KEEPALL) Walks: epimorphism.Wrong and Numbers over a planned set; law 37's fits. (KEEPALL) Plain: the notes of a set beyond the period. (KEEPALL) Plain: a set without one of its notes; the first note is not zero. (KEEPALL) An append of a slice, nil or not, to a row that the call owns, as one step of a region that draws. -/
import Derived.Test.YtipkdebkdnbieaaGreatDoorPc31
import Derived.Test.YtipkdebkdnbieaaGreatDoorPc33
import Derived.Test.YtipkdebkdnbieaaGreatDoorPc27
import Derived.Test.YtipkdebkdnbieaaGreatDoorPc30
import Derived.Test.YtipkdebkdnbieaaGreatDoorPc18
import Derived.Test.YtipkdebkdnbieaaGreatDoorPc13
import Derived.Test.YtipkdebkdnbieaaGreatDoorPc20
import Derived.RangeFuncNested
import Derived.RangeFuncBound
import Derived.RangeFuncCalls
import Derived.RangeFuncLeaves
import Derived.RangeFuncBox
import Derived.RangeFuncWrites
import Derived.Shelf.Abstract
import Derived.OwnWalkIn
import Derived.TacticsInMore
import Derived.LoopNIn
import Derived.LoopIn
import Derived.Maps.AppendAt
import Derived.Test.YtipkdebkdnbieaaGreatDoorShelfA
import Derived.Test.YtipkdebkdnbieaaGreatDoorPc02
import Derived.Laws.OwnMore
import Derived.Deep.RegionLaw
import Derived.Deep.AppendLies
set_option maxRecDepth 100000
set_option maxHeartbeats 2000000
namespace Go.Proofs.YtipkdebkdnbieaaGreatDoor
open Go.RowKit Go.Lib
/-! The rank of one row. -/
theorem zrv : ∀ (cs:List Nat)(s s':RdS),s.m.length=1→s.ld.length=1→zi9 cs s=some s'→s'.ld.length=1
 | [],s,s',_,h2,h=>by
  rw [zi9] at h;obtain rfl:=Option.some.inj h;exact h2
 | c::cs,s,s',h1,h2,h=>by
  rw [zi9] at h
  cases hs:zi8 c s with
  | none=>rw [hs] at h;cases h
  | some t =>
   rw [hs] at h
   have ht:t.m=s.m∧t.ld=s.ld:=by
    unfold zi8 at hs;by_cases hok:okM s.m=true∧okQ s.det=true
    ·rw [if_pos hok] at hs;have ha:s.ld.length+zi4 c (s.m.drop s.ld.length)=s.m.length:=by
      rw [h1,h2,List.drop_of_length_le (by omega)];rfl
     simp only [ha,if_true] at hs;obtain rfl:=Option.some.inj hs;exact ⟨rfl,rfl⟩
    ·rw [if_neg hok] at hs;cases hs
   exact zrv cs t s' (by rw [ht.1];exact h1) (by rw [ht.2];exact h2) h
theorem zrw : ∀ (cs:List Nat)(s s':RdS)(row:List Rat),s.m=[row]→s.ld=[]→(∃ c∈cs,row.getD c 0 ≠ 0)→zi9 cs s=some s'→s'.ld.length=1
 | [],_,_,_,_,_,⟨_,hc,_⟩,_=>by cases hc
 | c::cs,s,s',row,h1,h2,hex,h=>by
  rw [zi9] at h
  cases hs:zi8 c s with
  | none=>rw [hs] at h;cases h
  | some t =>
   rw [hs] at h
   unfold zi8 at hs
   by_cases hok:okM s.m=true∧okQ s.det=true
   ·rw [if_pos hok] at hs
    rw [h1,h2] at hs
    by_cases h0:row.getD c 0=0
    ·have ha:([]:List Nat).length+zi4 c ([row].drop ([]:List Nat).length)=[row].length:=by
      show 0+(if row.getD c 0=0 then 0+1 else 0)=1;rw [if_pos h0]
     simp only [ha,if_true] at hs
     obtain rfl:=Option.some.inj hs
     refine zrw cs _ s' row rfl rfl ?_ h
     obtain ⟨d,hd,hdz⟩:=hex
     rcases List.mem_cons.1 hd with e | e
     ·rw [e] at hdz;exact absurd h0 hdz
     ·exact ⟨d,e,hdz⟩
    ·have ha:zi4 c (List.drop 0 [row])=0:=by
      show (if row.getD c 0=0 then 0+1 else 0)=0;rw [if_neg h0]
     simp only [ha,List.length_cons,List.length_nil,Nat.zero_add,Nat.zero_ne_one,if_false] at hs
     obtain rfl:=Option.some.inj hs
     refine zrv cs _ s' ?_ rfl h
     show (zi7 _ _ _ _).length=1
     unfold zi7
     rw [List.length_mapIdx,List.length_set,ziy]
     rfl
   ·rw [if_neg hok] at hs;cases hs
theorem zrx {x:List Int}{r:Nat}(h:ziB [x]=some r)(hx:∃ j,zas x j ≠ 0):r=1:=by
 unfold ziB at h
 cases hr:zi9 (List.range (([x]:List (List Int)).getD 0 []).length) ⟨[x].map ziA,[],1⟩ with
 | none=>rw [hr] at h;cases h
 | some s =>
  rw [hr] at h
  obtain rfl:=Option.some.inj h
  obtain ⟨j,hj⟩:=hx
  have hjl:j<x.length:=Decidable.byContradiction fun q=>hj (by unfold zas;rw [List.getD_eq_getElem?_getD,List.getElem?_eq_none (by omega)];rfl)
  refine zrw _ _ s (ziA x) rfl rfl ⟨j,List.mem_range.2 hjl,fun e=>hj ?_⟩ hr
  unfold ziA at e
  rw [List.getD_eq_getElem?_getD,List.getElem?_map,List.getElem?_eq_getElem hjl] at e
  unfold zas
  rw [List.getD_eq_getElem?_getD,List.getElem?_eq_getElem hjl]
  simp only [Option.map_some,Option.getD_some] at e ⊢
  exact_mod_cast e
/-! The independent notes. -/
def zry (n:Nat)(l:List (List Int)):Prop:=∀ x∈l,x.length=n∧∀ z∈x,-200≤z∧z≤200
theorem zrz {n:Nat}(hn:n≤4):∀ (l:List (List Int))(i:Nat)(m:List (List Int))(a:List Int),zry n l→zry n m→a.length=m.length→(∀ z∈a,0≤z∧z≤((i:Nat):Int)) →
  ∃ mF aF,ziR l i m a=some (mF,aF)∧zry n mF∧(∀ x∈mF,x∈m∨x∈l)∧aF.length=mF.length∧m.length≤mF.length∧∀ z∈aF,0≤z∧z≤((i+l.length:Nat):Int)
 | [],i,m,a,_,hm,hl,hb=>⟨m,a,rfl,hm,fun x hx=>.inl hx,hl,Nat.le_refl _,by simpa using hb⟩
 | x::l,i,m,a,hl,hm,hal,hb=>by
  have hx:=hl x List.mem_cons_self;have hl':zry n l:=fun y hy=>hl y (List.mem_cons_of_mem _ hy);have hmx:zry n (m++[x]):=fun y hy=>by
   rcases List.mem_append.1 hy with e | e
   ·exact hm y e
   ·rw [List.mem_singleton.1 e];exact hx
  obtain ⟨r,hr⟩:=zpN (m:=m++[x]) hn (by
   cases m with
   | nil=>exact hx.1
   | cons y m=>exact (hm y List.mem_cons_self).1) fun y hy=>(hmx y hy).2
  have e:(i+(x::l).length:Nat)=i+1+l.length:=by rw [List.length_cons];omega
  by_cases hrl:r=(m++[x]).length
  ·obtain ⟨mF,aF,h1,h2,h3,h4,h5,h6⟩:=zrz hn l (i+1) (m++[x]) (a++[((i+1:Nat):Int)]) hl' hmx (by rw [List.length_append,List.length_append,hal];rfl) (fun z hz=>by
    rcases List.mem_append.1 hz with q | q
    ·have:=hb z q;omega
    ·rw [List.mem_singleton.1 q];omega)
   refine ⟨mF,aF,by rw [ziR,hr];dsimp only;rw [if_pos hrl];exact h1,h2,fun y hy=>?_,h4,by rw [List.length_append] at h5;simp only [List.length_singleton] at h5;omega,fun z hz=>by rw [e];exact h6 z hz⟩;rcases h3 y hy with q | q
   ·rcases List.mem_append.1 q with q | q
    ·exact .inl q
    ·rw [List.mem_singleton.1 q];exact .inr List.mem_cons_self
   ·exact .inr (List.mem_cons_of_mem _ q)
  ·obtain ⟨mF,aF,h1,h2,h3,h4,h5,h6⟩:=zrz hn l (i+1) m a hl' hm hal (fun z hz=>by have:=hb z hz;omega);refine ⟨mF,aF,by rw [ziR,hr];dsimp only;rw [if_neg hrl];exact h1,h2,fun y hy=>?_,h4,h5,fun z hz=>by rw [e];exact h6 z hz⟩;rcases h3 y hy with q | q
   ·exact .inl q
   ·exact .inr (List.mem_cons_of_mem _ q)
/-! The solution is not great. -/
theorem zr0 {f:Nat→Int}{n:Nat}(hn:n≤4)(h:∀ j,n≤j→f j=0):zpV f n=f 0+f 1+f 2+f 3:=by
 obtain rfl | rfl | rfl | rfl | rfl:n=0∨n=1∨n=2∨n=3∨n=4:=by omega
 ·have:=h 0 (by omega);have:=h 1 (by omega);have:=h 2 (by omega);have:=h 3 (by omega);show (0:Int)=_;omega
 ·have:=h 1 (by omega);have:=h 2 (by omega);have:=h 3 (by omega);show 0+f 0=_;omega
 ·have:=h 2 (by omega);have:=h 3 (by omega);show 0+f 0+f 1=_;omega
 ·have:=h 3 (by omega);show 0+f 0+f 1+f 2=_;omega
 ·show 0+f 0+f 1+f 2+f 3=_;omega
theorem zr1 {t:List (List Int)}{b:List Int}{m n:Nat}{x:Nat→Int}(hn:n≤4)(ht:t.length=n)(h0:∀ i,i<m→(at2 t 0 i).natAbs≤200)(h9:∀ j i,0<j→i<m→(at2 t j i).natAbs≤9)(hb:∀ i,i<m→(zas b i).natAbs≤9)(hs:zrf t b m n x)(hr:zrg t m n x):∀ j,(x j).natAbs≤1000000000:=by
 have hz:∀ j i,n≤j→at2 t j i=0:=fun j i hj=>zqn (by omega) i;have hsum:∀ (u:Nat→Int) i,zpV (fun j=>(if j<n then u j else 0) * at2 t j i) n=u 0 * at2 t 0 i+u 1 * at2 t 1 i+u 2 * at2 t 2 i+u 3 * at2 t 3 i:=fun u i=>by
  have e:∀ j,(if j<n then u j else 0) * at2 t j i=u j * at2 t j i:=fun j=>by
   by_cases q:j<n
   ·rw [if_pos q]
   ·rw [if_neg q,hz j i (by omega),Int.mul_zero,Int.mul_zero]
  rw [zr0 hn fun j hj=>by rw [hz j i hj,Int.mul_zero],e,e,e,e]
 have hred:∀ (u:Nat→Int),(∀ i,i<m→u 0 * at2 t 0 i+u 1 * at2 t 1 i+u 2 * at2 t 2 i+u 3 * at2 t 3 i=0)→∀ c,(∀ j,j<c→u j=0)→u c ≠ 0→0≤x c∧x c<((u c).natAbs:Int):=fun u hu c hlow hc=>by
  by_cases q:c<n
  ·have:=hr (fun j=>if j<n then u j else 0) (fun j hj=>by show (if j<n then _ else _)=(0:Int);rw [if_neg (by omega)]) (fun i hi=>by rw [hsum];exact hu i hi) c (fun j hj=>by
    show (if j<n then _ else _)=(0:Int);rw [if_pos (by omega)];exact hlow j hj) (by show (if c<n then _ else _) ≠ (0:Int);rw [if_pos q];exact hc)
   simp only [if_pos q] at this;exact this
  ·rw [hs.1 c (by omega)];omega
 let U:Int→Int→Int→Int→Nat→Int:=fun a b c d j=>if j=0 then a else if j=1 then b else if j=2 then c else if j=3 then d else 0;have hb4:=zru (m:=m) (a:=at2 t 0) (p:=at2 t 1) (q:=at2 t 2) (s:=at2 t 3) (b:=zas b) (x:=x 0) (y:=x 1) (z:=x 2) (w:=x 3) h0 (fun r hr=>h9 1 r (by omega) hr) (fun r hr=>h9 2 r (by omega) hr) (fun r hr=>h9 3 r (by omega) hr) hb
  (fun r hr=>by
   have:=hs.2 r hr;rw [zr0 hn fun j hj=>by rw [hs.1 j hj,Int.zero_mul]] at this;exact this)
  (fun u0 u1 u2 u3 hu h0=>hred (U u0 u1 u2 u3) hu 0 (fun j hj=>by omega) h0)
  (fun u1 u2 u3 hu h1=>hred (U 0 u1 u2 u3) (fun i hi=>by have:=hu i hi;show 0 * at2 t 0 i+u1 * at2 t 1 i+u2 * at2 t 2 i+u3 * at2 t 3 i=0;omega) 1 (fun j hj=>by have e:j=0:=(by omega);rw [e];rfl) h1)
  (fun u2 u3 hu h2=>hred (U 0 0 u2 u3) (fun i hi=>by have:=hu i hi;show 0 * at2 t 0 i+0 * at2 t 1 i+u2 * at2 t 2 i+u3 * at2 t 3 i=0;omega) 2 (fun j hj=>by
   rcases (show j=0∨j=1 by omega) with rfl | rfl <;> rfl) h2)
  (fun u3 hu h3=>hred (U 0 0 0 u3) (fun i hi=>by have:=hu i hi;show 0 * at2 t 0 i+0 * at2 t 1 i+0 * at2 t 2 i+u3 * at2 t 3 i=0;omega) 3 (fun j hj=>by
   rcases (show j=0∨j=1∨j=2 by omega) with rfl | rfl | rfl <;> rfl) h3)
 intro j;rcases (show j=0∨j=1∨j=2∨j=3∨n≤j by omega) with rfl | rfl | rfl | rfl | q
 ·exact hb4.1
 ·exact hb4.2.1
 ·exact hb4.2.2.1
 ·exact hb4.2.2.2
 ·rw [hs.1 j q];decide
theorem zr2 {l:List (List Int)}{i:Nat}(h:i<l.length):l.getD i []∈l:=by
 rw [List.getD_eq_getElem?_getD,List.getElem?_eq_getElem h];exact List.getElem_mem _
theorem zr3 {m:List (List Int)}{n i j:Nat}(hn:(m.getD 0 []).length=n)(hj:j<n)(hi:i<m.length):at2 (ziS m) j i=at2 m i j:=by
 unfold at2 ziS;rw [List.getD_eq_getElem?_getD (l:=List.map _ _),List.getElem?_map,hn,List.getElem?_range hj,Option.map_some,Option.getD_some,List.getD_eq_getElem?_getD,List.getElem?_map,List.getElem?_eq_getElem hi,Option.map_some,Option.getD_some,List.getD_eq_getElem?_getD (l:=m),List.getElem?_eq_getElem hi,Option.getD_some]
theorem zr4 {p:List Int}{l:List (List Int)}(hb:zp4 p l)(hp:0<p.length∧p.length≤4)(hl0:0<l.length)(hl9:l.length≤9)(hnz:∃ j,zas (l.getD 0 []) j ≠ 0) :
  ∃ R,ziV l=some R∧(∀ mF aF,ziR l 0 [] []=some (mF,aF)→0<mF.length)∧∀ v,R=some v→v.length=p.length∧ziU v l=0∧∀ j,(zas v j).natAbs≤1000000000:=by
 obtain ⟨n,hn⟩:∃ n,p.length=n:=⟨_,rfl⟩;rw [hn] at hp ⊢;have hS:zry n l:=fun x hx=>⟨by rw [(hb x hx).1,hn],fun z hz=>by
  obtain ⟨i,hi⟩:=List.mem_iff_getElem?.1 hz;have:=(hb x hx).2.1 i;unfold zas at this;rwa [List.getD_eq_getElem?_getD,hi] at this⟩
 obtain ⟨mF,aF,h1,h2,h3,h4,h5,h6⟩:=zrz hp.2 l 0 [] [] hS (fun x hx=>by cases hx) rfl (fun z hz=>by cases hz);have hpos:0<mF.length:=by
  cases l with
  | nil=>simp at hl0
  | cons x l =>
   obtain ⟨r,hr,e1,e2⟩:=znG h1
   have hr1:r=1:=zrx (x:=x) hr hnz
   obtain ⟨mG,aG,g1,g2,g3,g4,g5,g6⟩:=zrz hp.2 l (0+1) ([]++[x]) ([]++[((0+1:Nat):Int)]) (fun y hy=>hS y (List.mem_cons_of_mem _ hy)) (fun y hy=>by
    rw [List.nil_append] at hy;rw [List.mem_singleton.1 hy];exact hS x List.mem_cons_self) rfl (fun z hz=>by
    rw [List.nil_append] at hz;rw [List.mem_singleton.1 hz];decide)
   have:=e1 hr1
   rw [g1] at this
   obtain ⟨rfl,rfl⟩:=Prod.mk.inj (Option.some.inj this)
   have:([]++[x]:List (List Int)).length=1:=rfl
   omega
 have hind:∀ mG aG,ziR l 0 [] []=some (mG,aG)→0<mG.length:=fun mG aG hG=>by
  rw [h1] at hG;obtain ⟨rfl,rfl⟩:=Prod.mk.inj (Option.some.inj hG);exact hpos
 have hml:∀ x∈mF,x∈l:=fun x hx=>by
  rcases h3 x hx with q | q
  ·cases q
  ·exact q
 have hg0:(mF.getD 0 []).length=n:=(h2 _ (zr2 hpos)).1;obtain ⟨t1,t2,t3⟩:=zo0 hg0;have hfew:mF.length≤90:=by
  -- no more independent rows than notes
  have:∀ (l:List (List Int))(i:Nat)(m:List (List Int))(a:List Int)(mF:List (List Int))(aF:List Int),ziR l i m a=some (mF,aF)→mF.length≤m.length+l.length:=fun l=>by
   induction l with
   | nil =>
    intro i m a mF aF h
    rw [ziR] at h
    obtain ⟨rfl,rfl⟩:=Prod.mk.inj (Option.some.inj h)
    simp
   | cons x l ih =>
    intro i m a mF aF h
    obtain ⟨r,_,e1,e2⟩:=znG h
    by_cases q:r=(m++[x]).length
    ·have:=ih _ _ _ _ _ (e1 q)
     rw [List.length_append] at this
     simp only [List.length_singleton] at this
     rw [List.length_cons]
     omega
    ·have:=ih _ _ _ _ _ (e2 q)
     rw [List.length_cons]
     omega
  have:=this _ _ _ _ _ _ h1
  simp only [List.length_nil] at this
  omega
 have hat:∀ j i,j<n→i<mF.length→at2 (ziS mF) j i=zas (mF.getD i []) j:=fun j i hj hi=>zr3 hg0 hj hi
 have hrow:∀ i,i<mF.length→∀ j,-200≤zas (mF.getD i []) j∧zas (mF.getD i []) j≤200:=fun i hi j=>(hb _ (hml _ (zr2 hi))).2.1 j
 have hout:∀ j i,mF.length≤i→at2 (ziS mF) j i=0:=fun j i hi=>by
  by_cases q:j<n
  ·show zas ((ziS mF).getD j []) i=0;have:((ziS mF).getD j []).length=mF.length:=t2 _ (zr2 (by omega));unfold zas;rw [List.getD_eq_getElem?_getD,List.getElem?_eq_none (by omega)];rfl
  ·exact zqn (by omega) i
 have hbd:∀ j i,(at2 (ziS mF) j i).natAbs≤200:=fun j i=>by
  by_cases q:i<mF.length
  ·by_cases q2:j<n
   ·rw [hat j i q2 q];have:=hrow i q j;omega
   ·rw [zqn (by omega)];decide
  ·rw [hout j i (by omega)];decide
 have hb9:∀ i,(zas aF i).natAbs≤9:=fun i=>by
  unfold zas;rw [List.getD_eq_getElem?_getD]
  cases e:aF[i]? with
  | none=>decide
  | some z =>
   have:=h6 z (List.mem_of_getElem? e)
   rw [Nat.zero_add] at this
   simp only [Option.getD_some]
   omega
 obtain ⟨S,s1,s2⟩:=zrh (t:=ziS mF) (b:=aF) (m:=mF.length) (n:=n) hp.1 hp.2 hfew t1 t2 hbd h4 (fun i=>by have:=hb9 i;omega) fun x hx hr =>
  zr1 hp.2 t1 (fun i hi=>hbd 0 i) (fun j i hj hi=>by
   by_cases q:j<n
   ·rw [hat j i q hi];exact (hb _ (hml _ (zr2 hi))).2.2.1 j hj
   ·rw [zqn (by omega)];decide) (fun i _=>hb9 i) hx hr
 cases S with
 | none=>exact ⟨none,by unfold ziV;rw [h1];dsimp only;rw [s1],hind,fun v e=>by cases e⟩
 | some x =>
  by_cases hw:0<ziU x l
  ·exact ⟨none,by unfold ziV;rw [h1];dsimp only;rw [s1];dsimp only;rw [if_pos hw],hind,fun v e=>by cases e⟩
  ·refine ⟨some x,by unfold ziV;rw [h1];dsimp only;rw [s1];dsimp only;rw [if_neg hw],hind,fun v e=>?_⟩
   obtain rfl:=Option.some.inj e
   obtain ⟨k1,k2,k3⟩:=s2 x rfl
   refine ⟨k1,by omega,?_⟩
   exact zr1 hp.2 t1 (fun i hi=>hbd 0 i) (fun j i hj hi=>by
    by_cases q:j<n
    ·rw [hat j i q hi];exact (hb _ (hml _ (zr2 hi))).2.2.1 j hj
    ·rw [zqn (by omega)];decide) (fun i _=>hb9 i) k2 k3
theorem zr5 (x:List Int):zgF x=0∨zgF x=4:=by
 unfold zgF;by_cases h:64<x.length∨x.any (fun n=>!zgA n)=true
 ·rw [if_pos h];exact .inr rfl
 ·rw [if_neg h];exact .inl rfl
theorem zr6 {x:List Int}(h:zgF x=0):x.length≤64∧∀ i,-1000000000≤zas x i∧zas x i≤1000000000:=by
 unfold zgF at h;by_cases h1:64<x.length∨x.any (fun n=>!zgA n)=true
 ·rw [if_pos h1] at h;cases h
 ·refine ⟨by omega,fun i=>?_⟩;unfold zas;rw [List.getD_eq_getElem?_getD]
  cases hx:x[i]? with
  | none=>simp
  | some z =>
   rcases Decidable.em (-1000000000≤z∧z≤1000000000) with q | q
   ·exact q
   ·exfalso
    refine h1 (.inr (List.any_eq_true.2 ⟨z,List.mem_of_getElem? hx,?_⟩))
    unfold zgA
    rw [decide_eq_false q]
    rfl
def zr7 (n:Nat)(v:List Int):Int:=if zgF v ≠ 0 then zgF v else if v.length ≠ n then 5 else 0
theorem zr8 {n:Nat}{v:List Int}(h:zr7 n v=0):v.length=n∧zgF v=0:=by
 unfold zr7 at h;by_cases h1:zgF v ≠ 0
 ·rw [if_pos h1] at h;exact absurd h h1
 ·rw [if_neg h1] at h;by_cases h2:v.length ≠ n
  ·rw [if_pos h2] at h;cases h
  ·exact ⟨Decidable.not_not.1 h2,Decidable.not_not.1 h1⟩
theorem zr9 (vp vv:Value)(p v:List Int)(n m:Nat)(w:World)(hp:Sl w vp (zap p))(hv:Sl w vv (zap v))(hpe:zcw p=0)(hpn:p.length=n)(hvm:v.length=m)(hn:n≤1000)(hm:m≤1000) :
  Calls Tryz.prog 38 #[vp,vv] w fun e w'=>e=.returned (.int .i64 (zr7 n v))∧Ext w w':=by
 have h1:=zcx vp p w hp (by omega);have h2:=zgH vv v w hv (by omega);obtain ⟨ap,cp,rfl,_,_,_⟩:=hp.parts;obtain ⟨av,cv,rfl,_,_,_⟩:=hv.parts;unfold zr7;simp only [zar,hpn,hvm,hpe] at h1 h2 ⊢;clear hp hv;rcases zr5 v with hr | hr
 ·rw [hr] at h2 ⊢;rw [if_neg (by decide)];have H1:=hid h1;have H2:=hid h2;clear h1 h2;by_cases hmn:m=n
  ·subst hmn;rw [if_neg (by simp)];go_enter Tryz.func38,Tryz.ntmps38
   go_wp2_with fail
   refine H1.out.mono ?_;rintro e w1 ⟨rfl,rfl⟩;go_wp2_with fail
   refine H2.out.mono ?_;rintro e w2 ⟨rfl,hx2⟩;have Hx2:=hid hx2;clear hx2;go_wp2
   go_ret
   exact ⟨rfl,Hx2.out⟩
  ·rw [if_pos hmn];have hbn:((m:Int) != (n:Int))=true:=by
    rw [bne_iff_ne];omega
   go_enter Tryz.func38,Tryz.ntmps38
   go_wp2_with fail
   refine H1.out.mono ?_;rintro e w1 ⟨rfl,rfl⟩;go_wp2_with fail
   refine H2.out.mono ?_;rintro e w2 ⟨rfl,hx2⟩;have Hx2:=hid hx2;clear hx2;go_wp2
   go_ret
   exact ⟨rfl,Hx2.out⟩
 ·rw [hr] at h2 ⊢;rw [if_pos (by decide)];have H1:=hid h1;have H2:=hid h2;clear h1 h2;go_enter Tryz.func38,Tryz.ntmps38
  go_wp2_with fail
  refine H1.out.mono ?_;rintro e w1 ⟨rfl,rfl⟩;go_wp2_with fail
  refine H2.out.mono ?_;rintro e w2 ⟨rfl,hx2⟩;have Hx2:=hid hx2;clear hx2;go_wp2
  go_ret
  exact ⟨rfl,Hx2.out⟩
def wrF (n:Nat)(v:List Int)(l:List (List Int)):Nat:=if zr7 n v ≠ 0 then 0 else ziU v l
theorem zrA {v x:List Int}(hv:zgF v=0)(hx:∀ i,-200≤zas x i∧zas x i≤200)(i:Nat):-1000000000000≤zas v i * zas x i∧zas v i * zas x i≤1000000000000:=by
 have e1:=(zr6 hv).2 i;have e2:=hx i;generalize zas x i=y at *;generalize zas v i=z at *;have h1:(z * y).natAbs≤1000000000 * 200:=by rw [Int.natAbs_mul];exact Nat.mul_le_mul (by omega) (by omega)
 generalize z * y=t at *;omega
theorem zrB (vp vl vv:Value)(p v:List Int)(l:List (List Int))(n m:Nat)(w:World)(he:Env w)(hp:Sl w vp (zap p))(hl:Mat w vl l)(hv:Sl w vv (zap v))(hpe:zcw p=0)(hpn:p.length=n)(hvm:v.length=m)(hn:n≤4)(hm:m≤1000)(hep:zgO p l=0)(hll:l.length≤9)(hrb:zp4 p l) :
  Calls Tryz.prog 11 #[.agg #[vp,vl],vv] w fun e w'=>e=.returned (.tuple #[.int .i64 (wrF n v l),.bool (decide (0<wrF n v l)),.int .i64 (zr7 n v)])∧Ext w w':=by
 have hrow:∀ i,(l.getD i []).length≤1000:=fun i=>by
  rw [List.getD_eq_getElem?_getD]
  cases h:l[i]? with
  | none=>simp
  | some x =>
   have:=(hrb x (List.mem_of_getElem? h)).1
   simp only [Option.getD_some]
   omega
 have hck:=fun W (hE:Ext w W)=>zkj vp vl p l W (he.ext hE) (hE.sl hp) (hE.mat hl) (by omega) (by omega) hrow;have hvc:=fun W (hE:Ext w W)=>zr9 vp vv p v n m W (hE.sl hp) (hE.sl hv) hpe hpn hvm (by omega) hm;have hwr:zr7 n v=0→∀ W,Ext w W→(∀ V,Ext W V→V.cell? ⟨w.heap.size+1,0,none⟩=some vv)→Calls Tryz.prog 35 #[.agg #[vp,vl],.func (.func 39) #[] #[.pointer (some ⟨w.heap.size+1,0,none⟩)]] W fun e w'=>e=.returned (.int .i64 (ziU v l))∧Ext W w':=fun hv0 W hE hc =>
  zof 39 #[.pointer (some ⟨w.heap.size+1,0,none⟩)] vp vl v l W (hE.mat hl) (by omega) zoj fun V hV i u hi hu=>by
   have hri:l.getD i []∈l:=by
    rw [List.getD_eq_getElem?_getD,List.getElem?_eq_getElem hi];exact List.getElem_mem _
   obtain ⟨hvn,hvr⟩:=zr8 hv0;have hx:=zoi (w.heap.size+1) vv u v (l.getD i []) ((i:Int)+1) V (hc V hV) ((hE.trans hV).sl hv) hu (by rw [(hrb _ hri).1];omega) (hrow i) (fun j _=>zrA hvr (hrb _ hri).2.1 j);have hcast:((i:Int)+1)=((i+1:Nat):Int):=(by omega);rw [hcast] at hx ⊢;exact hx
 obtain ⟨ap,cp,rfl,_,_,_⟩:=hp.parts;obtain ⟨av,cv,rfl,_,_,_⟩:=hv.parts;obtain ⟨vs,hvl,hvs,_⟩:=hl;obtain ⟨am,cm,rfl,_,_,_⟩:=hvs.parts;simp only [zar,hvl,hpn,hvm,hep] at hck hvc hwr ⊢;have hX0:Ext w ((w.alloc (.cells #[.slice ap n cp,.slice am l.length cm] 31)).alloc (.cells #[.slice av m cv] 33)):=((Ext.refl w).alloc _).alloc _;have hbA:zok 31 ((w.alloc (.cells #[.slice ap n cp,.slice am l.length cm] 31)).alloc (.cells #[.slice av m cv] 33)) w.heap.size (.slice ap n cp) (.slice am l.length cm):=zok.ext ((Ext.refl _).alloc _) (zok.new 31 w (.slice ap n cp) (.slice am l.length cm));have hoA:=One.new 33 (w.alloc (.cells #[.slice ap n cp,.slice am l.length cm] 31)) (.slice av m cv);rw [World.size_alloc] at hoA;have c0:=hbA.c0;have c1:=hbA.c1;have k0:=hoA.cell;unfold wrF;have HX0:=hid hX0;have HbA:=hid hbA;have HoA:=hid hoA;have Hck:=hid hck;have Hvc:=hid hvc;have Hwr:=hid hwr;clear hX0 hbA hoA hck hvc hwr;clear hp hv hvs he hep hrb hrow;by_cases hv0:zr7 n v=0
 ·simp only [hv0,ne_eq,not_true_eq_false,if_false];have hwr:=Hwr.out hv0;have hvc:=Hvc.out;rw [hv0] at hvc;have Hwr:=hid hwr;have Hvc:=hid hvc;clear hwr hvc;generalize ziU v l=q at *;go_enter Tryz.func11,Tryz.ntmps11
  go_wp2_with fail
  refine (Hck.out _ HX0.out).mono ?_;rintro e w1 ⟨rfl,hx1⟩;have c2:=(zok.ext hx1 HbA.out).c0;have c3:=(zok.ext hx1 HbA.out).c1;have k1:=(HoA.out.ext hx1).cell;have h2:=Hvc.out w1 (HX0.out.trans hx1);have Hx1:=hid hx1;have H2:=hid h2;clear hx1 h2;clear c0 c1 k0;go_wp2_with fail
  refine H2.out.mono ?_;rintro e w2 ⟨rfl,hx2⟩;have hx12:=Hx1.out.trans hx2;have c0:=(zok.ext hx12 HbA.out).c0;have c1:=(zok.ext hx12 HbA.out).c1;have k0:=(HoA.out.ext hx12).cell;have h3:=Hwr.out w2 (HX0.out.trans hx12) fun V hV=>(HoA.out.ext (hx12.trans hV)).cell;have hX2:=HX0.out.trans hx12;have H3:=hid h3;have HX2:=hid hX2;clear h3 hX2;clear c2 c3 k1 hx2 hx12;go_wp2_with fail
  refine H3.out.mono ?_;rintro e w3 ⟨rfl,hx3⟩;have hX3:=HX2.out.trans hx3;have HX3:=hid hX3;clear hX3;clear hx3;go_wp2_with fail
  go_ret3
  exact ⟨rfl,HX3.out⟩
 ·simp only [ne_eq,hv0,not_false_eq_true,if_true];generalize zr7 n v=z at *;have hz:(z != 0)=true:=by rw [bne_iff_ne];exact hv0
  go_enter Tryz.func11,Tryz.ntmps11
  go_wp2_with fail
  refine (Hck.out _ HX0.out).mono ?_;rintro e w1 ⟨rfl,hx1⟩;have c2:=(zok.ext hx1 HbA.out).c0;have c3:=(zok.ext hx1 HbA.out).c1;have k1:=(HoA.out.ext hx1).cell;have h2:=Hvc.out w1 (HX0.out.trans hx1);have Hx1:=hid hx1;have H2:=hid h2;clear hx1 h2;clear c0 c1 k0;go_wp2_with fail
  refine H2.out.mono ?_;rintro e w2 ⟨rfl,hx2⟩;have hX3:=HX0.out.trans (Hx1.out.trans hx2);have HX3:=hid hX3;clear hX3;clear hx2 c2 c3 k1;go_wp2_with fail
  go_ret3
  exact ⟨rfl,HX3.out⟩
theorem zrC (vp vl vv:Value)(p v:List Int)(l:List (List Int))(n m:Nat)(w:World)(he:Env w)(hp:Sl w vp (zap p))(hl:Mat w vl l)(hv:Sl w vv (zap v))(hpe:zcw p=0)(hpn:p.length=n)(hvm:v.length=m)(hn:n≤4)(hm:m≤1000)(hep:zgO p l=0)(hll:l.length≤9)(hrb:zp4 p l) :
  Calls Tryz.prog 10 #[.agg #[vp,vl],vv] w fun e w'=>e=.returned (.tuple #[.bool (decide (zr7 n v=0) && !decide (0<wrF n v l)),.int .i64 (zr7 n v)])∧Ext w w':=by
 have hwr:=fun W (hE:Ext w W)=>zrB vp vl vv p v l n m W (he.ext hE) (hE.sl hp) (hE.mat hl) (hE.sl hv) hpe hpn hvm hn hm hep hll hrb;obtain ⟨ap,cp,rfl,_,_,_⟩:=hp.parts;obtain ⟨av,cv,rfl,_,_,_⟩:=hv.parts;obtain ⟨vs,hvl,hvs,_⟩:=hl;obtain ⟨am,cm,rfl,_,_,_⟩:=hvs.parts;simp only [zar,hvl,hpn,hvm] at hwr ⊢;have hX0:Ext w (w.alloc (.cells #[.slice ap n cp,.slice am l.length cm] 31)):=(Ext.refl w).alloc _;have hbA:=zok.new 31 w (.slice ap n cp) (.slice am l.length cm);have c0:=hbA.c0;have c1:=hbA.c1;have hwr0:=hwr _ hX0;generalize wrF n v l=q at *;generalize zr7 n v=z at *;have HX0:=hid hX0;have Hwr0:=hid hwr0;clear hX0 hwr0;clear hp hv hvs he hep hrb hwr hbA;by_cases hz:z=0
 ·subst hz
  cases hq:decide (0<q)
  all_goals
   rw [hq] at Hwr0;go_enter Tryz.func10,Tryz.ntmps10
   go_wp2_with fail
   refine Hwr0.out.mono ?_;rintro e w1 ⟨rfl,hx1⟩;have Hx1:=hid hx1;clear hx1;go_wp2_with fail
   go_ret2
   exact ⟨rfl,HX0.out.trans Hx1.out⟩
 ·have hz1:(z == 0)=false:=beq_eq_false_iff_ne.2 hz;have hz2:decide (z=0)=false:=decide_eq_false hz;rw [hz2];generalize decide (0<q)=b at *;go_enter Tryz.func10,Tryz.ntmps10
  go_wp2_with fail
  refine Hwr0.out.mono ?_;rintro e w1 ⟨rfl,hx1⟩;have Hx1:=hid hx1;clear hx1;go_wp2_with fail
  go_ret2
  exact ⟨rfl,HX0.out.trans Hx1.out⟩
theorem zrD (n o m cm:Nat)(M:Bool)(am:Option Addr)(w:World) :
  Calls Tryz.prog 7 #[.agg #[.int .u8 n,.slice am m cm,.bool M,.int .u8 o]] w fun e w'=>e=.returned (.bool (decide (m≤8)))∧Ext w w':=by
 have hp0:=World.alloc_heap_new w (.cells #[.int .u8 n,.slice am m cm,.bool M,.int .u8 o] 24);have hX0:=(Ext.refl w).alloc (.cells #[.int .u8 n,.slice am m cm,.bool M,.int .u8 o] 24);have hpl:(w.alloc (.cells #[.int .u8 n,.slice am m cm,.bool M,.int .u8 o] 24)).cell? ⟨w.heap.size,1,none⟩=some (.slice am m cm):=by
  unfold World.cell?;dsimp only;rw [hp0];rfl
 have hd:decide (m≤8)=decide ((m:Int)≤8):=decide_eq_decide.2 (by omega);rw [hd];clear hp0 hd;have HX0:=hid hX0;clear hX0;go_enter Tryz.func7,Tryz.ntmps7
 go_wp2_with fail
 go_ret
 exact ⟨rfl,HX0.out⟩
def zrE (n:Nat)(l:List (List Int))(q:Int)(r:Nat):List Int:=zhJ (if r=0 then zgM n else l.getD (r - 1) []) q (l.getD (l.length - 1) [])
def ntI (n:Nat)(l:List (List Int))(i:Nat):List Int:=if i=0 then zgM n else if i≤l.length then l.getD (i - 1) [] else zhJ (l.getD (i - l.length - 1) []) 1 (l.getD (l.length - 1) [])
structure zrF (n:Nat)(l:List (List Int)):Prop where
 ne:0<l.length
 few:l.length≤9
 len:∀ x∈l,x.length=n
 bd:∀ x∈l,∀ i,-200≤zas x i∧zas x i≤200
 one:∀ i,0≤zas (l.getD (l.length - 1) []) i∧zas (l.getD (l.length - 1) []) i≤1
section
variable {n : Nat} {l : List (List Int)}
theorem zrF.mem (_:zrF n l){i:Nat}(hi:i<l.length):l.getD i []∈l:=by
 rw [List.getD_eq_getElem?_getD,List.getElem?_eq_getElem hi];exact List.getElem_mem _
theorem zrF.row (h:zrF n l){i:Nat}(hi:i<l.length):(l.getD i []).length=n∧∀ j,-200≤zas (l.getD i []) j∧zas (l.getD i []) j≤200:=⟨h.len _ (h.mem hi),h.bd _ (h.mem hi)⟩
theorem zrF.last (h:zrF n l):(l.getD (l.length - 1) []).length=n∧∀ j,-200≤zas (l.getD (l.length - 1) []) j∧zas (l.getD (l.length - 1) []) j≤200:=h.row (by have:=h.ne;omega)
theorem zrG (n:Nat):(zgM n).length=n:=List.length_replicate
theorem zrF.low (h:zrF n l){r:Nat}(hr:r<l.length):(if r=0 then zgM n else l.getD (r - 1) []).length=n∧∀ j,-200≤zas (if r=0 then zgM n else l.getD (r - 1) []) j∧zas (if r=0 then zgM n else l.getD (r - 1) []) j≤200:=by
 by_cases h0:r=0
 ·rw [if_pos h0];exact ⟨zrG n,fun j=>by rw [zkl];decide⟩
 ·rw [if_neg h0];exact h.row (by omega)
theorem zrF.nat (h:zrF n l){q:Int}{r:Nat}(hr:r<l.length){j:Nat}(hj:j<n):zas (zrE n l q r) j=zas (if r=0 then zgM n else l.getD (r - 1) []) j+q * zas (l.getD (l.length - 1) []) j:=by
 unfold zrE;exact zhN (by rw [(h.low hr).1,h.last.1]) (by rw [(h.low hr).1];exact hj)
theorem zrH {x y:List Int}(hl:x.length=y.length)(h:∀ j,j<x.length→zas x j=zas y j):x=y:=by
 apply List.ext_getElem hl;intro i h1 h2;have:=h i h1;unfold zas at this;rw [List.getD_eq_getElem?_getD,List.getElem?_eq_getElem h1,List.getD_eq_getElem?_getD,List.getElem?_eq_getElem h2] at this;exact this
theorem zrI {x y:List Int}(h:x.length=y.length):zhJ x 0 y=x:=zrH (zhM h) fun j hj=>by
 rw [zhM h] at hj;rw [zhN h hj,Int.zero_mul,Int.add_zero]
theorem zrJ {y:List Int}{k:Int}{j:Nat}(hj:j<y.length):zas (zhJ (zgM y.length) k y) j=k * zas y j:=by
 rw [zhN (zrG _) (by rw [zrG];exact hj),zkl,Int.zero_add]
theorem zrF.two (h:zrF n l){i:Nat}(hi:i<2 * l.length):zrE n l ((i / l.length:Nat):Int) (i % l.length)=ntI n l i:=by
 have hn:=h.ne;have hl:=h.last.1;unfold ntI;by_cases h1:i<l.length
 ·rw [Nat.div_eq_of_lt h1,Nat.mod_eq_of_lt h1];unfold zrE;rw [show ((0:Nat):Int)=0 from rfl,zrI (by rw [(h.low h1).1,hl])];by_cases h0:i=0
  ·rw [if_pos h0,if_pos h0]
  ·rw [if_neg h0,if_neg h0,if_pos (by omega)]
 ·have hd:i / l.length=1:=by rw [Nat.div_eq_iff (by omega)];omega
  have hm:i % l.length=i - l.length:=by
   have:=Nat.div_add_mod i l.length;rw [hd] at this;omega
  rw [hd,hm,if_neg (by omega)];unfold zrE;by_cases h2:i=l.length
  ·rw [if_pos (by omega),if_pos (by omega)];have e:i - 1=l.length - 1:=(by omega);rw [e];generalize l.getD (l.length - 1) []=y at *;subst hl;exact zrH (zhM (zrG _) |>.trans (zrG _)) fun j hj=>by
    rw [zhM (zrG _),zrG] at hj;rw [zrJ hj];show 1 * zas y j=zas y j;omega
  ·rw [if_neg (by omega),if_neg (by omega)];rfl
end
theorem zrK {p x y:List Int}:zgI p x y<0 ↔ zgv p x * zgw p y<zgv p y * zgw p x:=by
 unfold zgI;generalize zgv p x * zgw p y=a;generalize zgv p y * zgw p x=b;unfold zbj;(repeat' split) <;> omega
theorem zrL {p x y z:List Int}(h1:zgI p x y<0)(h2:zgI p y z<0)(h0:0<zgw p x)(h9:0<zgw p z):zgI p x z<0:=by
 rw [zrK] at h1 h2 ⊢;have a1:=Nat.mul_lt_mul_of_pos_right h1 h9;have a2:=Nat.mul_lt_mul_of_pos_right h2 h0;have e1:zgv p x * zgw p y * zgw p z=zgv p x * zgw p z * zgw p y:=by grind
 have e2:zgv p y * zgw p x * zgw p z=zgv p y * zgw p z * zgw p x:=by grind
 have e3:zgv p z * zgw p y * zgw p x=zgv p z * zgw p x * zgw p y:=by grind
 exact Nat.lt_of_mul_lt_mul_right (a:=zgw p y) (by omega)
theorem zrM (p x:List Int):zgI p x x=0:=by have:=zgL p x x;omega
theorem zrN {p b x:List Int}{l:List (List Int)}(h1:zgr p x=0)(h2:zgI p b x<0)(h3:zgN p x l=0):zgN p b (x::l)=0:=by
 rw [zgN,if_neg (by simpa using h1),if_neg (by omega)];exact h3
def zrO (l:List (List Int))(k:Nat):List (List Int):=l.take k++l.drop (k+1)
theorem zrP {l:List (List Int)}{k:Nat}(h:k<l.length):(zrO l k).length=l.length - 1:=by
 unfold zrO;rw [List.length_append,List.length_take,List.length_drop];omega
theorem zrQ {l:List (List Int)}{k:Nat}:∀ x∈zrO l k,x∈l:=fun x hx=>by
 unfold zrO at hx;rcases List.mem_append.1 hx with q | q
 ·exact List.mem_of_mem_take q
 ·exact List.mem_of_mem_drop q
theorem zrR {l:List (List Int)}{k i:Nat}(h:i<k)(hk:k<l.length):(zrO l k).getD i []=l.getD i []:=by
 unfold zrO;rw [List.getD_eq_getElem?_getD,List.getElem?_append_left (by rw [List.length_take];omega),List.getElem?_take_of_lt h,List.getD_eq_getElem?_getD]
theorem zrS {l:List (List Int)}{k:Nat}(hk:k<l.length):(zrO l k).getD k []=l.getD (k+1) []:=by
 unfold zrO;have e:(l.take k).length=k:=by rw [List.length_take];omega
 rw [List.getD_eq_getElem?_getD,List.getElem?_append_right (by omega),e,Nat.sub_self,List.getElem?_drop,List.getD_eq_getElem?_getD]
theorem zrT {p:List Int}:∀ {l:List (List Int)}{b:List Int}{k:Nat},k+1<l.length→0<zgw p b→(∀ x∈l,0<zgw p x)→zgN p b l=0→zgN p b (zrO l k)=0
 | [],_,_,h,_,_,_=>by simp at h
 | [_],_,_,h,_,_,_=>by simp at h
 | x::y::l,b,0,_,hb,hl,h=>by
  obtain ⟨_,h2,h3⟩:=zp8 h;obtain ⟨h4,h5,h6⟩:=zp8 h3;exact zrN (l:=l) h4 (zrL h2 h5 hb (hl y (by simp))) h6
 | x::y::l,b,k+1,hk,hb,hl,h=>by
  obtain ⟨h1,h2,h3⟩:=zp8 h;have ih:=zrT (l:=y::l) (b:=x) (k:=k) (by simpa using hk) (hl x (by simp)) (fun z hz=>hl z (List.mem_cons_of_mem _ hz)) h3;exact zrN (l:=zrO (y::l) k) h1 h2 ih
theorem zrU {p:List Int}{l:List (List Int)}{k:Nat}(hp:zhs p)(h:zgO p l=0)(hk:k+1<l.length):zgO p (zrO l k)=0:=by
 obtain ⟨h1,h2,h3,h4⟩:=zow h;have hd:∀ x∈l,0<zgw p x:=fun x hx=>(zh2 hp (zg3 (zg4 (h4 x hx)).2).1).1;have hz:0<zgw p (zgM p.length):=(zh2 hp (by unfold zgM;simp)).1;have hf:zgN p (zgM p.length) l=0:=by
  unfold zgO at h;rw [if_neg (by simpa using h1),if_neg (by omega),if_neg (by omega)] at h;exact h
 have hl:=zrP (l:=l) (k:=k) (by omega);unfold zgO;rw [if_neg (by simpa using h1),if_neg (by omega),if_neg (by omega)];exact zrT hk hz hd hf
theorem zrV {v:List Int}{l:List (List Int)}(h:ziU v l=0):∀ i,i<l.length→ziT v (l.getD i [])=((i+1:Nat):Int):=fun i hi=>by
 unfold ziU at h
 cases hf:(List.range l.length).find? (fun i=>ziT v (l.getD i []) != ((i+1:Nat):Int)) with
 | some q=>rw [hf] at h;simp at h
 | none =>
  have:=List.find?_eq_none.1 hf i (List.mem_range.2 hi)
  simpa using this
theorem zrW {v:List Int}{l:List (List Int)}{k:Nat}(h:ziU v l=0)(hk:k+1<l.length):ziU v (zrO l k)=k+1:=by
 have hz:=zrV h;refine zod (by rw [zrP (by omega)];omega) (fun i hi=>?_) ?_
 ·rw [zrR hi (by omega),hz i (by omega)];simp
 ·rw [zrS (by omega),hz (k+1) hk];have:((k+1+1:Nat):Int) ≠ ((k+1:Nat):Int):=by omega
  simpa using this
theorem zrX {p:List Int}{l:List (List Int)}(h:zgO p l=0)(hl:0<l.length):∃ j,zas (l.getD 0 []) j ≠ 0:=by
 refine Classical.byContradiction fun hno=>?_;have h0:=zpA h 0 hl;rw [if_pos rfl] at h0;obtain ⟨_,_,_,h4⟩:=zow h;have hlen:=(zg3 (zg4 (h4 _ (zr2 hl))).2).1;have e:l.getD 0 []=zgM p.length:=by
  refine zrH (by rw [hlen];unfold zgM;simp) fun j _=>?_;rw [zkl];exact Classical.byContradiction fun q=>hno ⟨j,q⟩
 rw [e,zrM] at h0;omega
theorem zrY {v:List Int}{n:Nat}(hl:v.length=n)(hn:n≤4)(h:∀ j,(zas v j).natAbs≤1000000000):zr7 n v=0:=by
 unfold zr7;have hr:zgF v=0:=zo1 (by omega) fun z hz=>by
  obtain ⟨i,hi⟩:=List.mem_iff_getElem?.1 hz;have:=h i;unfold zas at this;rw [List.getD_eq_getElem?_getD,hi,Option.getD_some] at this;omega
 rw [if_neg (by simpa using hr),if_neg (by simpa using hl)]
theorem zrZ {P:Program}(w:World){ops:Array Oper}{o:Oper}{a:Act}{K:Act→World→Prop}{Q:Exit→Act→World→Prop}{E:Prop}(hgd:o.guard=none)(s x:Operand)(t:TypeId)
  (ho:o.op=.call { callee:=.builtin .append,args:=#[s,x],argTypes:=#[t,t] })
  (base:Nat) (e:TypeId) (i:TypeInfo) (z:Value) (size bytes:Nat) (ht:P.underlying t=some (.slice e)) (hi:P.info? e=some i) (hz:i.zero=some z)
  (hsize:i.size=size) (hby:i.bytes=bytes) (hzs:z.cells.size=size) (hsz:0<size)
  (v:Value) (n:Nat) (xs:List Value) (hs:a.eval s=v) (hown:w.ownsRow base e size v n xs)
  (ao:Option Addr) (m c:Nat) (news:List Value) (hx:a.eval x=.slice ao m c) (hnone:ao=none→m=0∧c=0) (hl:news.length=m * size) (hnews:∀ ad,ao=some ad→∀ j u,news[j]?=some u→w.cell? (ad.add j)=some u) (h1:∀ u∈news,u.oneCell'=true)
  (h63:n+m≤maxLen) (hbytes:(n+m) * bytes≤140737488355328) (hbase:base≤w.heap.size)
  (h:∀ v' w',w'.ownsRow base e size v' (n+m) (xs++news)→w.grownBy w' v.ownBlock→K (a.put o.dst v') w') :
  if Region.wanted o (yielded ops a.tmps)=true then Oper.wp P o a w K Q else E:=by
 have hw:Region.wanted o (yielded ops a.tmps)=true:=by simp [Region.wanted,hgd]
 rw [if_pos hw]
 cases ao with
 | none =>
  obtain ⟨rfl,rfl⟩:=hnone rfl
  obtain rfl:news=[]:=List.eq_nil_of_length_eq_zero (by simpa using hl)
  have hr:=run_append_owned_none (P:=P) (w:=w) base t o.type e i size ht hi v n xs hown
  unfold Oper.wp
  simp [execOp,ho,resolve,invoke,builtin,hs,hx,hr,Result.andThen]
  exact h v w (by rw [List.append_nil];exact hown) ⟨rfl,rfl,rfl,Nat.le_refl _,fun _ _ _=>rfl⟩
 | some ad =>
  obtain ⟨v',w',hr,h2,h3,_⟩:=run_append_own (P:=P) w base t o.type e i z size bytes ht hi hz hsize hby hzs hsz v n xs hown ad m c news hl (hnews ad rfl) h1 h63 hbytes hbase
  unfold Oper.wp
  simp [execOp,ho,resolve,invoke,builtin,hs,hx,hr,Result.andThen]
  exact h v' w' h2 h3
end Go.Proofs.YtipkdebkdnbieaaGreatDoor
