/- Plain: epimorphism.Val of a small set answers. (KEEPALL) Walks: val.Check, dot, checkBoth, Steps. (KEEPALL) Walks: epimorphism.Wrong and Numbers over a planned set; law 37's fits. (KEEPALL) Plain: the notes of a set beyond the period. (KEEPALL) Plain: a set without one of its notes; the first note is not zero. (KEEPALL) Walk: the law EpimorphismLeavesOut. (KEEPALL) -/
import Derived.Test.YtipkdebkdnbieaaGreatDoorPe31
import Derived.Test.YtipkdebkdnbieaaGreatDoorPe33
import Derived.Test.YtipkdebkdnbieaaGreatDoorPe27
import Derived.Test.YtipkdebkdnbieaaGreatDoorPe30
import Derived.Test.YtipkdebkdnbieaaGreatDoorPe18
import Derived.Test.YtipkdebkdnbieaaGreatDoorPe13
import Derived.Test.YtipkdebkdnbieaaGreatDoorPe20
import Derived.RangeFuncNested
import Derived.RangeFuncBound
import Derived.RangeFuncCalls
import Derived.RangeFuncLeaves
import Derived.RangeFuncBox
import Derived.RangeFuncWrites
import Derived.Shelf.Abstract
import Derived.OwnWalkIn
import Derived.TacticsInMore
import Derived.LoopNIn
import Derived.LoopIn
import Derived.Maps.AppendAt
import Derived.Test.YtipkdebkdnbieaaGreatDoorShelfA
import Derived.Test.YtipkdebkdnbieaaGreatDoorPe02
import Derived.Laws.OwnMore
import Derived.Deep.RegionLaw
import Derived.Deep.AppendLies
set_option maxRecDepth 100000
set_option maxHeartbeats 2000000
namespace Go.Proofs.YtipkdebkdnbieaaGreatDoor
section
open Go.RowKit Go.Lib
/-! The rank of one row. -/
theorem zrt : ∀ (cs:List Nat)(s s':RdS),s.m.length=1→s.ld.length=1→zi9 cs s=some s'→s'.ld.length=1
 | [],s,s',_,h2,h=>by
  rw [zi9] at h;obtain rfl:=Option.some.inj h;exact h2
 | c::cs,s,s',h1,h2,h=>by
  rw [zi9] at h
  cases hs:zi8 c s with
  | none=>rw [hs] at h;cases h
  | some t =>
   rw [hs] at h
   have ht:t.m=s.m∧t.ld=s.ld:=by
    unfold zi8 at hs;by_cases hok:okM s.m=true∧okQ s.det=true
    ·rw [if_pos hok] at hs;have ha:s.ld.length+zi4 c (s.m.drop s.ld.length)=s.m.length:=by
      rw [h1,h2,List.drop_of_length_le (by omega)];rfl
     simp only [ha,if_true] at hs;obtain rfl:=Option.some.inj hs;exact ⟨rfl,rfl⟩
    ·rw [if_neg hok] at hs;cases hs
   exact zrt cs t s' (by rw [ht.1];exact h1) (by rw [ht.2];exact h2) h
theorem zru : ∀ (cs:List Nat)(s s':RdS)(row:List Rat),s.m=[row]→s.ld=[]→(∃ c∈cs,row.getD c 0 ≠ 0)→zi9 cs s=some s'→s'.ld.length=1
 | [],_,_,_,_,_,⟨_,hc,_⟩,_=>by cases hc
 | c::cs,s,s',row,h1,h2,hex,h=>by
  rw [zi9] at h
  cases hs:zi8 c s with
  | none=>rw [hs] at h;cases h
  | some t =>
   rw [hs] at h
   unfold zi8 at hs
   by_cases hok:okM s.m=true∧okQ s.det=true
   ·rw [if_pos hok] at hs
    rw [h1,h2] at hs
    by_cases h0:row.getD c 0=0
    ·have ha:([]:List Nat).length+zi4 c ([row].drop ([]:List Nat).length)=[row].length:=by
      show 0+(if row.getD c 0=0 then 0+1 else 0)=1;rw [if_pos h0]
     simp only [ha,if_true] at hs
     obtain rfl:=Option.some.inj hs
     refine zru cs _ s' row rfl rfl ?_ h
     obtain ⟨d,hd,hdz⟩:=hex
     rcases List.mem_cons.1 hd with e | e
     ·rw [e] at hdz;exact absurd h0 hdz
     ·exact ⟨d,e,hdz⟩
    ·have ha:zi4 c (List.drop 0 [row])=0:=by
      show (if row.getD c 0=0 then 0+1 else 0)=0;rw [if_neg h0]
     simp only [ha,List.length_cons,List.length_nil,Nat.zero_add,Nat.zero_ne_one,if_false] at hs
     obtain rfl:=Option.some.inj hs
     refine zrt cs _ s' ?_ rfl h
     show (zi7 _ _ _ _).length=1
     unfold zi7
     rw [List.length_mapIdx,List.length_set,ziy]
     rfl
   ·rw [if_neg hok] at hs;cases hs
theorem zrv {x:List Int}{r:Nat}(h:ziB [x]=some r)(hx:∃ j,zas x j ≠ 0):r=1:=by
 unfold ziB at h
 cases hr:zi9 (List.range (([x]:List (List Int)).getD 0 []).length) ⟨[x].map ziA,[],1⟩ with
 | none=>rw [hr] at h;cases h
 | some s =>
  rw [hr] at h
  obtain rfl:=Option.some.inj h
  obtain ⟨j,hj⟩:=hx
  have hjl:j<x.length:=Decidable.byContradiction fun q=>hj (by unfold zas;rw [List.getD_eq_getElem?_getD,List.getElem?_eq_none (by omega)];rfl)
  refine zru _ _ s (ziA x) rfl rfl ⟨j,List.mem_range.2 hjl,fun e=>hj ?_⟩ hr
  unfold ziA at e
  rw [List.getD_eq_getElem?_getD,List.getElem?_map,List.getElem?_eq_getElem hjl] at e
  unfold zas
  rw [List.getD_eq_getElem?_getD,List.getElem?_eq_getElem hjl]
  simp only [Option.map_some,Option.getD_some] at e ⊢
  exact_mod_cast e
/-! The independent notes. -/
def zrw (n:Nat)(l:List (List Int)):Prop:=∀ x∈l,x.length=n∧∀ z∈x,-200≤z∧z≤200
theorem zrx {n:Nat}(hn:n≤4):∀ (l:List (List Int))(i:Nat)(m:List (List Int))(a:List Int),zrw n l→zrw n m→a.length=m.length→(∀ z∈a,0≤z∧z≤((i:Nat):Int)) →
  ∃ mF aF,ziR l i m a=some (mF,aF)∧zrw n mF∧(∀ x∈mF,x∈m∨x∈l)∧aF.length=mF.length∧m.length≤mF.length∧∀ z∈aF,0≤z∧z≤((i+l.length:Nat):Int)
 | [],i,m,a,_,hm,hl,hb=>⟨m,a,rfl,hm,fun x hx=>.inl hx,hl,Nat.le_refl _,by simpa using hb⟩
 | x::l,i,m,a,hl,hm,hal,hb=>by
  have hx:=hl x List.mem_cons_self;have hl':zrw n l:=fun y hy=>hl y (List.mem_cons_of_mem _ hy);have hmx:zrw n (m++[x]):=fun y hy=>by
   rcases List.mem_append.1 hy with e | e
   ·exact hm y e
   ·rw [List.mem_singleton.1 e];exact hx
  obtain ⟨r,hr⟩:=zpL (m:=m++[x]) hn (by
   cases m with
   | nil=>exact hx.1
   | cons y m=>exact (hm y List.mem_cons_self).1) fun y hy=>(hmx y hy).2
  have e:(i+(x::l).length:Nat)=i+1+l.length:=by rw [List.length_cons];omega
  by_cases hrl:r=(m++[x]).length
  ·obtain ⟨mF,aF,h1,h2,h3,h4,h5,h6⟩:=zrx hn l (i+1) (m++[x]) (a++[((i+1:Nat):Int)]) hl' hmx (by rw [List.length_append,List.length_append,hal];rfl) (fun z hz=>by
    rcases List.mem_append.1 hz with q | q
    ·have:=hb z q;omega
    ·rw [List.mem_singleton.1 q];omega)
   refine ⟨mF,aF,by rw [ziR,hr];dsimp only;rw [if_pos hrl];exact h1,h2,fun y hy=>?_,h4,by rw [List.length_append] at h5;simp only [List.length_singleton] at h5;omega,fun z hz=>by rw [e];exact h6 z hz⟩;rcases h3 y hy with q | q
   ·rcases List.mem_append.1 q with q | q
    ·exact .inl q
    ·rw [List.mem_singleton.1 q];exact .inr List.mem_cons_self
   ·exact .inr (List.mem_cons_of_mem _ q)
  ·obtain ⟨mF,aF,h1,h2,h3,h4,h5,h6⟩:=zrx hn l (i+1) m a hl' hm hal (fun z hz=>by have:=hb z hz;omega);refine ⟨mF,aF,by rw [ziR,hr];dsimp only;rw [if_neg hrl];exact h1,h2,fun y hy=>?_,h4,h5,fun z hz=>by rw [e];exact h6 z hz⟩;rcases h3 y hy with q | q
   ·exact .inl q
   ·exact .inr (List.mem_cons_of_mem _ q)
/-! The solution is not great. -/
theorem zry {f:Nat→Int}{n:Nat}(hn:n≤4)(h:∀ j,n≤j→f j=0):zpT f n=f 0+f 1+f 2+f 3:=by
 obtain rfl | rfl | rfl | rfl | rfl:n=0∨n=1∨n=2∨n=3∨n=4:=by omega
 ·have:=h 0 (by omega);have:=h 1 (by omega);have:=h 2 (by omega);have:=h 3 (by omega);show (0:Int)=_;omega
 ·have:=h 1 (by omega);have:=h 2 (by omega);have:=h 3 (by omega);show 0+f 0=_;omega
 ·have:=h 2 (by omega);have:=h 3 (by omega);show 0+f 0+f 1=_;omega
 ·have:=h 3 (by omega);show 0+f 0+f 1+f 2=_;omega
 ·show 0+f 0+f 1+f 2+f 3=_;omega
theorem zrz {t:List (List Int)}{b:List Int}{m n:Nat}{x:Nat→Int}(hn:n≤4)(ht:t.length=n)(h0:∀ i,i<m→(at2 t 0 i).natAbs≤200)(h9:∀ j i,0<j→i<m→(at2 t j i).natAbs≤9)(hb:∀ i,i<m→(zas b i).natAbs≤9)(hs:zrd t b m n x)(hr:zre t m n x):∀ j,(x j).natAbs≤1000000000:=by
 have hz:∀ j i,n≤j→at2 t j i=0:=fun j i hj=>zql (by omega) i;have hsum:∀ (u:Nat→Int) i,zpT (fun j=>(if j<n then u j else 0) * at2 t j i) n=u 0 * at2 t 0 i+u 1 * at2 t 1 i+u 2 * at2 t 2 i+u 3 * at2 t 3 i:=fun u i=>by
  have e:∀ j,(if j<n then u j else 0) * at2 t j i=u j * at2 t j i:=fun j=>by
   by_cases q:j<n
   ·rw [if_pos q]
   ·rw [if_neg q,hz j i (by omega),Int.mul_zero,Int.mul_zero]
  rw [zry hn fun j hj=>by rw [hz j i hj,Int.mul_zero],e,e,e,e]
 have hred:∀ (u:Nat→Int),(∀ i,i<m→u 0 * at2 t 0 i+u 1 * at2 t 1 i+u 2 * at2 t 2 i+u 3 * at2 t 3 i=0)→∀ c,(∀ j,j<c→u j=0)→u c ≠ 0→0≤x c∧x c<((u c).natAbs:Int):=fun u hu c hlow hc=>by
  by_cases q:c<n
  ·have:=hr (fun j=>if j<n then u j else 0) (fun j hj=>by show (if j<n then _ else _)=(0:Int);rw [if_neg (by omega)]) (fun i hi=>by rw [hsum];exact hu i hi) c (fun j hj=>by
    show (if j<n then _ else _)=(0:Int);rw [if_pos (by omega)];exact hlow j hj) (by show (if c<n then _ else _) ≠ (0:Int);rw [if_pos q];exact hc)
   simp only [if_pos q] at this;exact this
  ·rw [hs.1 c (by omega)];omega
 let U:Int→Int→Int→Int→Nat→Int:=fun a b c d j=>if j=0 then a else if j=1 then b else if j=2 then c else if j=3 then d else 0;have hb4:=zrs (m:=m) (a:=at2 t 0) (p:=at2 t 1) (q:=at2 t 2) (s:=at2 t 3) (b:=zas b) (x:=x 0) (y:=x 1) (z:=x 2) (w:=x 3) h0 (fun r hr=>h9 1 r (by omega) hr) (fun r hr=>h9 2 r (by omega) hr) (fun r hr=>h9 3 r (by omega) hr) hb
  (fun r hr=>by
   have:=hs.2 r hr;rw [zry hn fun j hj=>by rw [hs.1 j hj,Int.zero_mul]] at this;exact this)
  (fun u0 u1 u2 u3 hu h0=>hred (U u0 u1 u2 u3) hu 0 (fun j hj=>by omega) h0)
  (fun u1 u2 u3 hu h1=>hred (U 0 u1 u2 u3) (fun i hi=>by have:=hu i hi;show 0 * at2 t 0 i+u1 * at2 t 1 i+u2 * at2 t 2 i+u3 * at2 t 3 i=0;omega) 1 (fun j hj=>by have e:j=0:=(by omega);rw [e];rfl) h1)
  (fun u2 u3 hu h2=>hred (U 0 0 u2 u3) (fun i hi=>by have:=hu i hi;show 0 * at2 t 0 i+0 * at2 t 1 i+u2 * at2 t 2 i+u3 * at2 t 3 i=0;omega) 2 (fun j hj=>by
   rcases (show j=0∨j=1 by omega) with rfl | rfl <;> rfl) h2)
  (fun u3 hu h3=>hred (U 0 0 0 u3) (fun i hi=>by have:=hu i hi;show 0 * at2 t 0 i+0 * at2 t 1 i+0 * at2 t 2 i+u3 * at2 t 3 i=0;omega) 3 (fun j hj=>by
   rcases (show j=0∨j=1∨j=2 by omega) with rfl | rfl | rfl <;> rfl) h3)
 intro j;rcases (show j=0∨j=1∨j=2∨j=3∨n≤j by omega) with rfl | rfl | rfl | rfl | q
 ·exact hb4.1
 ·exact hb4.2.1
 ·exact hb4.2.2.1
 ·exact hb4.2.2.2
 ·rw [hs.1 j q];decide
theorem zr0 {l:List (List Int)}{i:Nat}(h:i<l.length):l.getD i []∈l:=by
 rw [List.getD_eq_getElem?_getD,List.getElem?_eq_getElem h];exact List.getElem_mem _
theorem zr1 {m:List (List Int)}{n i j:Nat}(hn:(m.getD 0 []).length=n)(hj:j<n)(hi:i<m.length):at2 (ziS m) j i=at2 m i j:=by
 unfold at2 ziS;rw [List.getD_eq_getElem?_getD (l:=List.map _ _),List.getElem?_map,hn,List.getElem?_range hj,Option.map_some,Option.getD_some,List.getD_eq_getElem?_getD,List.getElem?_map,List.getElem?_eq_getElem hi,Option.map_some,Option.getD_some,List.getD_eq_getElem?_getD (l:=m),List.getElem?_eq_getElem hi,Option.getD_some]
theorem zr2 {p:List Int}{l:List (List Int)}(hb:zp2 p l)(hp:0<p.length∧p.length≤4)(hl0:0<l.length)(hl9:l.length≤9)(hnz:∃ j,zas (l.getD 0 []) j ≠ 0) :
  ∃ R,ziV l=some R∧(∀ mF aF,ziR l 0 [] []=some (mF,aF)→0<mF.length)∧∀ v,R=some v→v.length=p.length∧ziU v l=0∧∀ j,(zas v j).natAbs≤1000000000:=by
 obtain ⟨n,hn⟩:∃ n,p.length=n:=⟨_,rfl⟩;rw [hn] at hp ⊢;have hS:zrw n l:=fun x hx=>⟨by rw [(hb x hx).1,hn],fun z hz=>by
  obtain ⟨i,hi⟩:=List.mem_iff_getElem?.1 hz;have:=(hb x hx).2.1 i;unfold zas at this;rwa [List.getD_eq_getElem?_getD,hi] at this⟩
 obtain ⟨mF,aF,h1,h2,h3,h4,h5,h6⟩:=zrx hp.2 l 0 [] [] hS (fun x hx=>by cases hx) rfl (fun z hz=>by cases hz);have hpos:0<mF.length:=by
  cases l with
  | nil=>simp at hl0
  | cons x l =>
   obtain ⟨r,hr,e1,e2⟩:=znG h1
   have hr1:r=1:=zrv (x:=x) hr hnz
   obtain ⟨mG,aG,g1,g2,g3,g4,g5,g6⟩:=zrx hp.2 l (0+1) ([]++[x]) ([]++[((0+1:Nat):Int)]) (fun y hy=>hS y (List.mem_cons_of_mem _ hy)) (fun y hy=>by
    rw [List.nil_append] at hy;rw [List.mem_singleton.1 hy];exact hS x List.mem_cons_self) rfl (fun z hz=>by
    rw [List.nil_append] at hz;rw [List.mem_singleton.1 hz];decide)
   have:=e1 hr1
   rw [g1] at this
   obtain ⟨rfl,rfl⟩:=Prod.mk.inj (Option.some.inj this)
   have:([]++[x]:List (List Int)).length=1:=rfl
   omega
 have hind:∀ mG aG,ziR l 0 [] []=some (mG,aG)→0<mG.length:=fun mG aG hG=>by
  rw [h1] at hG;obtain ⟨rfl,rfl⟩:=Prod.mk.inj (Option.some.inj hG);exact hpos
 have hml:∀ x∈mF,x∈l:=fun x hx=>by
  rcases h3 x hx with q | q
  ·cases q
  ·exact q
 have hg0:(mF.getD 0 []).length=n:=(h2 _ (zr0 hpos)).1;obtain ⟨t1,t2,t3⟩:=zoy hg0;have hfew:mF.length≤90:=by
  -- no more independent rows than notes
  have:∀ (l:List (List Int))(i:Nat)(m:List (List Int))(a:List Int)(mF:List (List Int))(aF:List Int),ziR l i m a=some (mF,aF)→mF.length≤m.length+l.length:=fun l=>by
   induction l with
   | nil =>
    intro i m a mF aF h
    rw [ziR] at h
    obtain ⟨rfl,rfl⟩:=Prod.mk.inj (Option.some.inj h)
    simp
   | cons x l ih =>
    intro i m a mF aF h
    obtain ⟨r,_,e1,e2⟩:=znG h
    by_cases q:r=(m++[x]).length
    ·have:=ih _ _ _ _ _ (e1 q)
     rw [List.length_append] at this
     simp only [List.length_singleton] at this
     rw [List.length_cons]
     omega
    ·have:=ih _ _ _ _ _ (e2 q)
     rw [List.length_cons]
     omega
  have:=this _ _ _ _ _ _ h1
  simp only [List.length_nil] at this
  omega
 have hat:∀ j i,j<n→i<mF.length→at2 (ziS mF) j i=zas (mF.getD i []) j:=fun j i hj hi=>zr1 hg0 hj hi
 have hrow:∀ i,i<mF.length→∀ j,-200≤zas (mF.getD i []) j∧zas (mF.getD i []) j≤200:=fun i hi j=>(hb _ (hml _ (zr0 hi))).2.1 j
 have hout:∀ j i,mF.length≤i→at2 (ziS mF) j i=0:=fun j i hi=>by
  by_cases q:j<n
  ·show zas ((ziS mF).getD j []) i=0;have:((ziS mF).getD j []).length=mF.length:=t2 _ (zr0 (by omega));unfold zas;rw [List.getD_eq_getElem?_getD,List.getElem?_eq_none (by omega)];rfl
  ·exact zql (by omega) i
 have hbd:∀ j i,(at2 (ziS mF) j i).natAbs≤200:=fun j i=>by
  by_cases q:i<mF.length
  ·by_cases q2:j<n
   ·rw [hat j i q2 q];have:=hrow i q j;omega
   ·rw [zql (by omega)];decide
  ·rw [hout j i (by omega)];decide
 have hb9:∀ i,(zas aF i).natAbs≤9:=fun i=>by
  unfold zas;rw [List.getD_eq_getElem?_getD]
  cases e:aF[i]? with
  | none=>decide
  | some z =>
   have:=h6 z (List.mem_of_getElem? e)
   rw [Nat.zero_add] at this
   simp only [Option.getD_some]
   omega
 obtain ⟨S,s1,s2⟩:=zrf (t:=ziS mF) (b:=aF) (m:=mF.length) (n:=n) hp.1 hp.2 hfew t1 t2 hbd h4 (fun i=>by have:=hb9 i;omega) fun x hx hr =>
  zrz hp.2 t1 (fun i hi=>hbd 0 i) (fun j i hj hi=>by
   by_cases q:j<n
   ·rw [hat j i q hi];exact (hb _ (hml _ (zr0 hi))).2.2.1 j hj
   ·rw [zql (by omega)];decide) (fun i _=>hb9 i) hx hr
 cases S with
 | none=>exact ⟨none,by unfold ziV;rw [h1];dsimp only;rw [s1],hind,fun v e=>by cases e⟩
 | some x =>
  by_cases hw:0<ziU x l
  ·exact ⟨none,by unfold ziV;rw [h1];dsimp only;rw [s1];dsimp only;rw [if_pos hw],hind,fun v e=>by cases e⟩
  ·refine ⟨some x,by unfold ziV;rw [h1];dsimp only;rw [s1];dsimp only;rw [if_neg hw],hind,fun v e=>?_⟩
   obtain rfl:=Option.some.inj e
   obtain ⟨k1,k2,k3⟩:=s2 x rfl
   refine ⟨k1,by omega,?_⟩
   exact zrz hp.2 t1 (fun i hi=>hbd 0 i) (fun j i hj hi=>by
    by_cases q:j<n
    ·rw [hat j i q hi];exact (hb _ (hml _ (zr0 hi))).2.2.1 j hj
    ·rw [zql (by omega)];decide) (fun i _=>hb9 i) k2 k3
theorem zr3 (x:List Int):zgF x=0∨zgF x=4:=by
 unfold zgF;by_cases h:64<x.length∨x.any (fun n=>!zgA n)=true
 ·rw [if_pos h];exact .inr rfl
 ·rw [if_neg h];exact .inl rfl
def zr4 (n:Nat)(v:List Int):Int:=if zgF v ≠ 0 then zgF v else if v.length ≠ n then 5 else 0
theorem zr5 {n:Nat}{v:List Int}(h:zr4 n v=0):v.length=n∧zgF v=0:=by
 unfold zr4 at h;by_cases h1:zgF v ≠ 0
 ·rw [if_pos h1] at h;exact absurd h h1
 ·rw [if_neg h1] at h;by_cases h2:v.length ≠ n
  ·rw [if_pos h2] at h;cases h
  ·exact ⟨Decidable.not_not.1 h2,Decidable.not_not.1 h1⟩
theorem zr6 (vp vv:Value)(p v:List Int)(n m:Nat)(w:World)(hp:Sl w vp (zap p))(hv:Sl w vv (zap v))(hpe:zcw p=0)(hpn:p.length=n)(hvm:v.length=m)(hn:n≤1000)(hm:m≤1000) :
  Calls Tryz.prog 38 #[vp,vv] w fun e w'=>e=.returned (.int .i64 (zr4 n v))∧Ext w w':=by
 have h1:=zcx vp p w hp (by omega);have h2:=zgH vv v w hv (by omega);obtain ⟨ap,cp,rfl,_,_,_⟩:=hp.parts;obtain ⟨av,cv,rfl,_,_,_⟩:=hv.parts;unfold zr4;simp only [zar,hpn,hvm,hpe] at h1 h2 ⊢;clear hp hv;rcases zr3 v with hr | hr
 ·rw [hr] at h2 ⊢;rw [if_neg (by decide)];have H1:=hid h1;have H2:=hid h2;clear h1 h2;by_cases hmn:m=n
  ·subst hmn;rw [if_neg (by simp)];go_enter Tryz.func38,Tryz.ntmps38
   go_wp2_with fail
   refine H1.out.mono ?_;rintro e w1 ⟨rfl,rfl⟩;go_wp2_with fail
   refine H2.out.mono ?_;rintro e w2 ⟨rfl,hx2⟩;have Hx2:=hid hx2;clear hx2;go_wp2
   go_ret
   exact ⟨rfl,Hx2.out⟩
  ·rw [if_pos hmn];have hbn:((m:Int) != (n:Int))=true:=by
    rw [bne_iff_ne];omega
   go_enter Tryz.func38,Tryz.ntmps38
   go_wp2_with fail
   refine H1.out.mono ?_;rintro e w1 ⟨rfl,rfl⟩;go_wp2_with fail
   refine H2.out.mono ?_;rintro e w2 ⟨rfl,hx2⟩;have Hx2:=hid hx2;clear hx2;go_wp2
   go_ret
   exact ⟨rfl,Hx2.out⟩
 ·rw [hr] at h2 ⊢;rw [if_pos (by decide)];have H1:=hid h1;have H2:=hid h2;clear h1 h2;go_enter Tryz.func38,Tryz.ntmps38
  go_wp2_with fail
  refine H1.out.mono ?_;rintro e w1 ⟨rfl,rfl⟩;go_wp2_with fail
  refine H2.out.mono ?_;rintro e w2 ⟨rfl,hx2⟩;have Hx2:=hid hx2;clear hx2;go_wp2
  go_ret
  exact ⟨rfl,Hx2.out⟩
theorem zr7 (vv vx:Value)(v x:List Int)(w:World)(hv:Sl w vv (zap v))(hx:Sl w vx (zap x))(hl:x.length=v.length)(hn:x.length≤1000)(hb:∀ i,i<x.length→-1000000000000≤zas v i * zas x i∧zas v i * zas x i≤1000000000000) :
  Calls Tryz.prog 42 #[vv,vx] w fun e w'=>e=.returned (.int .i64 (ziT v x))∧w=w':=by
 obtain ⟨av,cv,rfl,_,_,hcv⟩:=hv.parts;obtain ⟨ax,cx,rfl,_,_,hcx⟩:=hx.parts;rw [zar,zar,← zoa hl];have hbd:=fun j (hj:j≤x.length)=>zob hb hj;have hsu:=fun j=>(show znY v x (j+1)=znY v x j+zas v j * zas x j from rfl);have hvl:v.length=x.length:=hl.symm;have Hcv:=hid hcv;have Hcx:=hid hcx;have Hbd:=hid hbd;have Hsu:=hid hsu;have Hb:=hid hb;have Hvl:=hid hvl;clear hcv hcx hbd hsu hb hvl;clear hv hx hl;go_enter Tryz.func42,Tryz.ntmps42
 go_wp2_with fail
 go_loop [5,10] (fun v5 v10=>∃ j:Nat,v10=.int .i64 j∧j≤x.length∧v5=.int .i64 (znY v x j)) (fun _ v10=>x.length - (zal v10).toNat)
 case atStart=>exact ⟨0,rfl,Nat.zero_le _,rfl⟩
 case round =>
  obtain ⟨j,rfl,hj,rfl⟩:=hrel;by_cases hjn:j<x.length
  ·obtain ⟨b1,o1,rfl,hc1⟩:=Hcx.out j _ (zau hjn);obtain ⟨b2,o2,rfl,hc2⟩:=Hcv.out j _ (zau (by rw [Hvl.out];exact hjn));have h1:=Hbd.out j hj;have h2:=Hb.out j hjn;rw [Int.mul_comm] at h2;have h3:=Hsu.out j;have hlz:(x.length:Int)≤1000:=(by omega);have hjz:(j:Int) * 1000000000000≤1000000000000000:=(by omega);obtain ⟨h4,h5⟩:=h1;obtain ⟨h6,h7⟩:=h2;have h8:-1000000000000000≤znY v x j:=(by omega);have h9:znY v x j≤1000000000000000:=(by omega);have hj0:(0:Int)≤(j:Int):=(by omega);have hj1:(j:Int)<(x.length:Int):=(by omega);have hj2:(j:Int)<(v.length:Int):=(by have:=Hvl.out;omega);have H3:=hid h3;clear h3;clear h4 h5 hjz hlz;generalize znY v x j=s at *;generalize zas v j=zv at *;generalize zas x j=zx at *;go_wp2_with fail
   go_round
   case rel=>exact ⟨j+1,by go_num,hjn,by rw [H3.out,Int.mul_comm zv zx]⟩
   case measure=>simp [zal];omega
  ·have hjl:j=x.length:=(by omega);have hnj:¬ (j:Int)<(x.length:Int):=(by omega);subst hjl;go_wp2
   go_ret
   exact ⟨rfl,rfl⟩
theorem zr8 (vp vv vx:Value)(p v x:List Int)(n:Nat)(w:World)(hp:Sl w vp (zap p))(hv:Sl w vv (zap v))(hx:Sl w vx (zap x))(hpe:zcw p=0)(hpn:p.length=n)(hn:n≤1000)(hve:zr4 n v=0)(hxe:zgr p x=0)(hxn:x.length=n) :
  Calls Tryz.prog 41 #[vp,vv,vx] w fun e w'=>e=.returned (.int .i64 0)∧Ext w w':=by
 have hvn:=(zr5 hve).1;have h1:=zr6 vp vv p v n n w hp hv hpe hpn hvn hn hn;have h2:=fun W (hE:Ext w W)=>zgs vp vx p x W (hE.sl hp) (hE.sl hx) (by omega) (by omega);obtain ⟨ap,cp,rfl,_,_,_⟩:=hp.parts;obtain ⟨av,cv,rfl,_,_,_⟩:=hv.parts;obtain ⟨ax,cx,rfl,_,_,_⟩:=hx.parts;simp only [zar,hpn,hvn,hxn,hve,hxe] at h1 h2 ⊢;have H1:=hid h1;have H2:=hid h2;clear h1 h2;clear hp hv hx;go_enter Tryz.func41,Tryz.ntmps41
 go_wp2_with fail
 refine H1.out.mono ?_;rintro e w1 ⟨rfl,hx1⟩;have h3:=H2.out w1 hx1;have H3:=hid h3;have Hx1:=hid hx1;clear h3 hx1;go_wp2_with fail
 refine H3.out.mono ?_;rintro e w2 ⟨rfl,hx2⟩;have Hx2:=hid hx2;clear hx2;go_wp2
 go_ret
 exact ⟨rfl,Hx1.out.trans Hx2.out⟩
def stE (v x:List Int):Int:=if 1000000000<ziT v x∨ziT v x < -1000000000 then 4 else 0
def stN (v x:List Int):Int:=if 1000000000<ziT v x∨ziT v x < -1000000000 then 0 else ziT v x
theorem zr9 (vp vv vx:Value)(p v x:List Int)(n:Nat)(w:World)(hp:Sl w vp (zap p))(hv:Sl w vv (zap v))(hx:Sl w vx (zap x))(hpe:zcw p=0)(hpn:p.length=n)(hn:n≤1000)(hve:zr4 n v=0)(hxe:zgr p x=0)(hxn:x.length=n)(hb:∀ i,i<x.length→-1000000000000≤zas v i * zas x i∧zas v i * zas x i≤1000000000000) :
  Calls Tryz.prog 15 #[vp,vv,vx] w fun e w'=>e=.returned (.tuple #[.int .i64 (stN v x),.int .i64 (stE v x)])∧Ext w w':=by
 have hvn:=(zr5 hve).1;have h1:=zr8 vp vv vx p v x n w hp hv hx hpe hpn hn hve hxe hxn;have h2:=fun W (hE:Ext w W)=>zr7 vv vx v x W (hE.sl hv) (hE.sl hx) (by omega) (by omega) hb;have hs:=zob hb (Nat.le_refl _);rw [zoa (by omega)] at hs;obtain ⟨ap,cp,rfl,_,_,_⟩:=hp.parts;obtain ⟨av,cv,rfl,_,_,_⟩:=hv.parts;obtain ⟨ax,cx,rfl,_,_,_⟩:=hx.parts;simp only [zar,hpn,hvn,hxn] at h1 h2 hs ⊢;unfold stN stE;generalize ziT v x=s at *;have H1:=hid h1;have H2:=hid h2;clear h1 h2;clear hp hv hx hb;by_cases hq:1000000000<s
 ·rw [if_pos (.inl hq),if_pos (.inl hq)];have hd:decide (s > 1000000000)=true:=decide_eq_true hq;go_enter Tryz.func15,Tryz.ntmps15
  go_wp2_with fail
  refine H1.out.mono ?_;rintro e w1 ⟨rfl,hx1⟩;have h3:=H2.out w1 hx1;have H3:=hid h3;have Hx1:=hid hx1;clear h3 hx1;go_wp2_with fail
  refine H3.out.mono ?_;rintro e w2 ⟨rfl,rfl⟩;go_wp2
  go_ret2
  exact ⟨rfl,Hx1.out⟩
 ·have hd:decide (s > 1000000000)=false:=decide_eq_false hq;by_cases hr:s < -1000000000
  ·rw [if_pos (.inr hr),if_pos (.inr hr)];have hd2:decide (s < -1000000000)=true:=decide_eq_true hr;go_enter Tryz.func15,Tryz.ntmps15
   go_wp2_with fail
   refine H1.out.mono ?_;rintro e w1 ⟨rfl,hx1⟩;have h3:=H2.out w1 hx1;have H3:=hid h3;have Hx1:=hid hx1;clear h3 hx1;go_wp2_with fail
   refine H3.out.mono ?_;rintro e w2 ⟨rfl,rfl⟩;go_wp2
   go_ret2
   exact ⟨rfl,Hx1.out⟩
  ·rw [if_neg (by omega),if_neg (by omega)];have hd2:decide (s < -1000000000)=false:=decide_eq_false hr;go_enter Tryz.func15,Tryz.ntmps15
   go_wp2_with fail
   refine H1.out.mono ?_;rintro e w1 ⟨rfl,hx1⟩;have h3:=H2.out w1 hx1;have H3:=hid h3;have Hx1:=hid hx1;clear h3 hx1;go_wp2_with fail
   refine H3.out.mono ?_;rintro e w2 ⟨rfl,rfl⟩;go_wp2
   go_ret2
   exact ⟨rfl,Hx1.out⟩
theorem zrA (n o m cm:Nat)(M:Bool)(am:Option Addr)(w:World) :
  Calls Tryz.prog 7 #[.agg #[.int .u8 n,.slice am m cm,.bool M,.int .u8 o]] w fun e w'=>e=.returned (.bool (decide (m≤8)))∧Ext w w':=by
 have hp0:=World.alloc_heap_new w (.cells #[.int .u8 n,.slice am m cm,.bool M,.int .u8 o] 24);have hX0:=(Ext.refl w).alloc (.cells #[.int .u8 n,.slice am m cm,.bool M,.int .u8 o] 24);have hpl:(w.alloc (.cells #[.int .u8 n,.slice am m cm,.bool M,.int .u8 o] 24)).cell? ⟨w.heap.size,1,none⟩=some (.slice am m cm):=by
  unfold World.cell?;dsimp only;rw [hp0];rfl
 have hd:decide (m≤8)=decide ((m:Int)≤8):=decide_eq_decide.2 (by omega);rw [hd];clear hp0 hd;have HX0:=hid hX0;clear hX0;go_enter Tryz.func7,Tryz.ntmps7
 go_wp2_with fail
 go_ret
 exact ⟨rfl,HX0.out⟩
def zrB (n:Nat)(l:List (List Int))(q:Int)(r:Nat):List Int:=zhJ (if r=0 then zgM n else l.getD (r - 1) []) q (l.getD (l.length - 1) [])
def ntI (n:Nat)(l:List (List Int))(i:Nat):List Int:=if i=0 then zgM n else if i≤l.length then l.getD (i - 1) [] else zhJ (l.getD (i - l.length - 1) []) 1 (l.getD (l.length - 1) [])
structure zrC (n:Nat)(l:List (List Int)):Prop where
 ne:0<l.length
 few:l.length≤9
 len:∀ x∈l,x.length=n
 bd:∀ x∈l,∀ i,-200≤zas x i∧zas x i≤200
 one:∀ i,0≤zas (l.getD (l.length - 1) []) i∧zas (l.getD (l.length - 1) []) i≤1
section
variable {n : Nat} {l : List (List Int)}
theorem zrC.mem (_:zrC n l){i:Nat}(hi:i<l.length):l.getD i []∈l:=by
 rw [List.getD_eq_getElem?_getD,List.getElem?_eq_getElem hi];exact List.getElem_mem _
theorem zrC.row (h:zrC n l){i:Nat}(hi:i<l.length):(l.getD i []).length=n∧∀ j,-200≤zas (l.getD i []) j∧zas (l.getD i []) j≤200:=⟨h.len _ (h.mem hi),h.bd _ (h.mem hi)⟩
theorem zrC.last (h:zrC n l):(l.getD (l.length - 1) []).length=n∧∀ j,-200≤zas (l.getD (l.length - 1) []) j∧zas (l.getD (l.length - 1) []) j≤200:=h.row (by have:=h.ne;omega)
theorem zrD (n:Nat):(zgM n).length=n:=List.length_replicate
theorem zrC.low (h:zrC n l){r:Nat}(hr:r<l.length):(if r=0 then zgM n else l.getD (r - 1) []).length=n∧∀ j,-200≤zas (if r=0 then zgM n else l.getD (r - 1) []) j∧zas (if r=0 then zgM n else l.getD (r - 1) []) j≤200:=by
 by_cases h0:r=0
 ·rw [if_pos h0];exact ⟨zrD n,fun j=>by rw [zkl];decide⟩
 ·rw [if_neg h0];exact h.row (by omega)
theorem zrC.nat (h:zrC n l){q:Int}{r:Nat}(hr:r<l.length){j:Nat}(hj:j<n):zas (zrB n l q r) j=zas (if r=0 then zgM n else l.getD (r - 1) []) j+q * zas (l.getD (l.length - 1) []) j:=by
 unfold zrB;exact zhN (by rw [(h.low hr).1,h.last.1]) (by rw [(h.low hr).1];exact hj)
theorem zrE {x y:List Int}(hl:x.length=y.length)(h:∀ j,j<x.length→zas x j=zas y j):x=y:=by
 apply List.ext_getElem hl;intro i h1 h2;have:=h i h1;unfold zas at this;rw [List.getD_eq_getElem?_getD,List.getElem?_eq_getElem h1,List.getD_eq_getElem?_getD,List.getElem?_eq_getElem h2] at this;exact this
theorem zrF {x y:List Int}(h:x.length=y.length):zhJ x 0 y=x:=zrE (zhM h) fun j hj=>by
 rw [zhM h] at hj;rw [zhN h hj,Int.zero_mul,Int.add_zero]
theorem zrG {y:List Int}{k:Int}{j:Nat}(hj:j<y.length):zas (zhJ (zgM y.length) k y) j=k * zas y j:=by
 rw [zhN (zrD _) (by rw [zrD];exact hj),zkl,Int.zero_add]
theorem zrC.two (h:zrC n l){i:Nat}(hi:i<2 * l.length):zrB n l ((i / l.length:Nat):Int) (i % l.length)=ntI n l i:=by
 have hn:=h.ne;have hl:=h.last.1;unfold ntI;by_cases h1:i<l.length
 ·rw [Nat.div_eq_of_lt h1,Nat.mod_eq_of_lt h1];unfold zrB;rw [show ((0:Nat):Int)=0 from rfl,zrF (by rw [(h.low h1).1,hl])];by_cases h0:i=0
  ·rw [if_pos h0,if_pos h0]
  ·rw [if_neg h0,if_neg h0,if_pos (by omega)]
 ·have hd:i / l.length=1:=by rw [Nat.div_eq_iff (by omega)];omega
  have hm:i % l.length=i - l.length:=by
   have:=Nat.div_add_mod i l.length;rw [hd] at this;omega
  rw [hd,hm,if_neg (by omega)];unfold zrB;by_cases h2:i=l.length
  ·rw [if_pos (by omega),if_pos (by omega)];have e:i - 1=l.length - 1:=(by omega);rw [e];generalize l.getD (l.length - 1) []=y at *;subst hl;exact zrE (zhM (zrD _) |>.trans (zrD _)) fun j hj=>by
    rw [zhM (zrD _),zrD] at hj;rw [zrG hj];show 1 * zas y j=zas y j;omega
  ·rw [if_neg (by omega),if_neg (by omega)];rfl
end
theorem zrH (p x:List Int):zgI p x x=0:=by have:=zgL p x x;omega
theorem zrI {p:List Int}{l:List (List Int)}(h:zgO p l=0)(hl:0<l.length):∃ j,zas (l.getD 0 []) j ≠ 0:=by
 refine Classical.byContradiction fun hno=>?_;have h0:=zp8 h 0 hl;rw [if_pos rfl] at h0;obtain ⟨_,_,_,h4⟩:=zou h;have hlen:=(zg3 (zg4 (h4 _ (zr0 hl))).2).1;have e:l.getD 0 []=zgM p.length:=by
  refine zrE (by rw [hlen];unfold zgM;simp) fun j _=>?_;rw [zkl];exact Classical.byContradiction fun q=>hno ⟨j,q⟩
 rw [e,zrH] at h0;omega
theorem zrJ {v:List Int}{n:Nat}(hl:v.length=n)(hn:n≤4)(h:∀ j,(zas v j).natAbs≤1000000000):zr4 n v=0:=by
 unfold zr4;have hr:zgF v=0:=zoz (by omega) fun z hz=>by
  obtain ⟨i,hi⟩:=List.mem_iff_getElem?.1 hz;have:=h i;unfold zas at this;rw [List.getD_eq_getElem?_getD,hi,Option.getD_some] at this;omega
 rw [if_neg (by simpa using hr),if_neg (by simpa using hl)]
end
section
open Go.RowKit Go.Lib Go.Shelf
theorem zrK (vp vl:Value)(p:List Int)(l:List (List Int))(w:World)(he:Env w)(hp:Sl w vp (zap p))(hl:Mat w vl l)(hpk:zhs p)(hep:zgO p l=0)(hrb:zp2 p l)(hl9:l.length≤9) :
  ∃ R:Option (List Int),(∀ v,R=some v→v.length=p.length∧ziU v l=0∧∀ j,(zas v j).natAbs≤1000000000)∧∀ W,Ext w W→Calls Tryz.prog 9 #[.agg #[vp,vl]] W fun e w'=>∃ a n c,e=.returned (.tuple #[.slice a n c,.bool R.isSome,.int .i64 0])∧(∀ x,R=some x→n=p.length∧Sl w' (.slice a n c) (zap x))∧Ext W w':=by
 have hl0:0<l.length:=by
  have:=(zou hep).2.1;omega
 obtain ⟨R,h1,h2,h3⟩:=zr2 hrb hpk.len hl0 hl9 (zrI hep hl0);have hpl:=hpk.len;refine ⟨R,h3,fun W hE=>(zo1 vp vl p l R W (he.ext hE) (hE.sl hp) (hE.mat hl) hep (by omega) h1 h2).mono ?_⟩;rintro e w' ⟨⟨v,rfl,k1,k2⟩,hx⟩
 cases R with
 | none =>
  obtain rfl:=k1 rfl
  exact ⟨none,0,0,rfl,fun x e=>(by cases e),hx⟩
 | some x =>
  obtain ⟨hs,hn⟩:=k2 x rfl
  obtain ⟨a,c,rfl,_,_,_⟩:=hs.parts
  exact ⟨a,_,c,rfl,fun y e=>by obtain rfl:=Option.some.inj e;exact ⟨by rw [zar];exact hn,hs⟩,hx⟩
section
variable {P : Program} {ops : Array Oper} {Q : Exit → Act → World → Prop} {md : Region.Mode} {S : World → Prop} {z : Nat}
end
def LvC (w5:World)(vp:Value)(m:List (List Int))(v10:Value)(wx:World):Prop:=∃ b a k c,v10=.pointer (some ⟨b,0,none⟩)∧zoi 31 wx b vp (.slice a k c)∧Mat wx (.slice a k c) m∧Ext w5 wx
theorem LvC.new {w5 V:World}{vp:Value}{m:List (List Int)}{a:Option Addr}{k c:Nat}(hE:Ext w5 V)(hM:∀ W,Ext V W→Mat W (.slice a k c) m):LvC w5 vp m (.pointer (some ⟨V.heap.size,0,none⟩)) (V.alloc (.cells #[vp,.slice a k c] 31)) :=
 ⟨V.heap.size,a,k,c,rfl,zoi.new _ _ _ _,hM _ ((Ext.refl V).alloc _),hE.alloc _⟩
theorem LvC.put {w5 V:World}{vp x y:Value}{m:List (List Int)}{us:List Value}{a:Option Addr}{b k c:Nat}(hE:Ext w5 V)(hb:zoi 31 V b x y)(h5:w5.heap.size≤b)(hown:V.ownsRow w5.heap.size 33 1 (.slice a k c) k us)(hM:∀ W,Ext w5 W→W.ownsRow w5.heap.size 33 1 (.slice a k c) k us→Mat W (.slice a k c) m):LvC w5 vp m (.pointer (some ⟨b,0,none⟩)) ((V.setCell ⟨b,0,none⟩ vp).setCell ⟨b,1,none⟩ (.slice a k c)):=by
 have hE2:=(hE.setCell (p:=⟨b,0,none⟩) h5 vp).setCell (p:=⟨b,1,none⟩) h5 (.slice a k c);have h1:=zf8 hb hown zoB 0 vp;have h2:=zf8 (hb.put0 vp) h1 zoB 1 (.slice a k c);exact ⟨b,a,k,c,rfl,hb.put vp _,hM _ hE2 h2,hE2⟩
end
end Go.Proofs.YtipkdebkdnbieaaGreatDoor
