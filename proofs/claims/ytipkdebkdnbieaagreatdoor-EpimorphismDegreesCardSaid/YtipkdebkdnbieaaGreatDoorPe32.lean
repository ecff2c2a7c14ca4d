/- Plain: the Hermite form of a small grid always answers, and what it keeps. (KEEPALL) (plconv.py out of wip/pl.) -/
import Derived.Test.YtipkdebkdnbieaaGreatDoorPe31
namespace Go.Proofs.YtipkdebkdnbieaaGreatDoor
open Go.RowKit Go.Lib
theorem zpY {g:List (List Int)}{c top:Nat}:∀ {m:Nat}{b:Bool},ziE g c top m=(none,b)→∀ i,top≤i→i<top+m→at2 g i c=0
 | 0,_,_,i,h1,h2=>by omega
 | m+1,b,h,i,h1,h2=>by
  rw [zlO] at h;by_cases h0:at2 g (top+m) c=0
  ·rw [if_pos h0] at h;by_cases e:i=top+m
   ·rw [e];exact h0
   ·exact zpY h i h1 (by omega)
  ·rw [if_neg h0] at h
   cases hs:ziE g c top m with
   | mk o b2=>rw [hs] at h;cases o <;> simp at h
theorem zpZ {g:List (List Int)}{c top:Nat}:∀ {m k:Nat}{b:Bool},ziE g c top m=(some k,b)→(∀ i,top≤i→i<top+m→at2 g i c ≠ 0→(at2 g k c).natAbs≤(at2 g i c).natAbs∧(b=false→i=k))∧(b=true→∃ i,i ≠ k∧top≤i∧i<top+m∧at2 g i c ≠ 0)
 | 0,k,b,h=>by cases h
 | m+1,k,b,h=>by
  rw [zlO] at h;by_cases h0:at2 g (top+m) c=0
  ·rw [if_pos h0] at h;obtain ⟨h1,h2⟩:=zpZ h;refine ⟨fun i q1 q2 q3=>h1 i q1 (by
    have:i ≠ top+m:=fun e=>q3 (by rw [e];exact h0);omega) q3,fun hb=>?_⟩
   obtain ⟨i,q1,q2,q3,q4⟩:=h2 hb;exact ⟨i,q1,q2,by omega,q4⟩
  ·rw [if_neg h0] at h
   cases hs:ziE g c top m with
   | mk o b2 =>
    rw [hs] at h
    cases o with
    | none =>
     simp only [Prod.mk.injEq,Option.some.injEq] at h
     obtain ⟨rfl,rfl⟩:=h
     have hn:=zpY hs
     have hb:=zlQ hs
     refine ⟨fun i q1 q2 q3=>?_,fun e=>by rw [hb] at e;cases e⟩
     have:i=top+m:=by
      rcases Nat.lt_or_ge i (top+m) with q | q
      ·exact absurd (hn i q1 q) q3
      ·omega
     subst this
     exact ⟨Nat.le_refl _,fun _=>rfl⟩
    | some j =>
     obtain ⟨h1,h2⟩:=zpZ hs
     have hj:=zlP hs
     simp only [Prod.mk.injEq,Option.some.injEq] at h
     obtain ⟨e1,rfl⟩:=h
     by_cases hlt:(at2 g (top+m) c).natAbs<(at2 g j c).natAbs
     ·rw [if_pos hlt] at e1
      subst e1
      refine ⟨fun i q1 q2 q3=>⟨?_,fun e=>by cases e⟩,fun _=>⟨j,by omega,hj.1,by omega,hj.2.2⟩⟩
      rcases Nat.lt_or_ge i (top+m) with q | q
      ·have:=(h1 i q1 q q3).1;omega
      ·obtain rfl:i=top+m:=by omega
       exact Nat.le_refl _
     ·rw [if_neg hlt] at e1
      subst e1
      refine ⟨fun i q1 q2 q3=>⟨?_,fun e=>by cases e⟩,fun _=>⟨top+m,by omega,by omega,by omega,h0⟩⟩
      rcases Nat.lt_or_ge i (top+m) with q | q
      ·exact (h1 i q1 q q3).1
      ·obtain rfl:i=top+m:=by omega
       omega
/-! Rows behind an operation. -/
theorem zqa {α:Type}{l m:List α}{i j:Nat}{d:α}(h:l[i]?=m[j]?):l.getD i d=m.getD j d:=by rw [List.getD_eq_getElem?_getD,List.getD_eq_getElem?_getD,h]
theorem zqb {g:List (List Int)}{t k:Nat}(ht:t<g.length)(hk:k<g.length)(i:Nat):(swp g t k).getD i []=g.getD (zln t k i) []:=zqa (zpO ht hk i)
theorem zqc (g:List (List Int))(t c i:Nat):(ziG g t c).getD i []=if i=t∧at2 g t c<0 then ziD (g.getD i []) else g.getD i []:=by
 rw [List.getD_eq_getElem?_getD,zpQ];by_cases e:i=t∧at2 g t c<0
 ·rw [if_pos e,if_pos e,List.getD_eq_getElem?_getD]
  cases g[i]? <;> rfl
 ·rw [if_neg e,if_neg e,List.getD_eq_getElem?_getD]
theorem zqd (g:List (List Int))(t c lo hi i:Nat):(ziF g t c lo hi).getD i []=if lo≤i∧i<hi then ziC (g.getD i []) (g.getD t []) (fdv (at2 g i c) (at2 g t c)) else g.getD i []:=by
 rw [List.getD_eq_getElem?_getD,zl7];by_cases hl:i<g.length
 ·have e:g.getD i []=g[i]:=by rw [List.getD_eq_getElem?_getD,List.getElem?_eq_getElem hl];rfl
  have e2:at2 g i c=(g[i]).getD c 0:=by unfold at2;rw [e]
  rw [List.getElem?_eq_getElem hl,e,e2];rfl
 ·rw [List.getElem?_eq_none (by omega),List.getD_eq_getElem?_getD (l:=g) (i:=i),List.getElem?_eq_none (by omega)];have:ziC [] (g.getD t []) (fdv (at2 g i c) (at2 g t c))=[]:=rfl;simp only [Option.map_none,Option.getD_none,this,ite_self]
theorem zqe {g:List (List Int)}{n i:Nat}(h:zlG g n)(hi:i<g.length):(g.getD i []).length=n:=by
 rw [List.getD_eq_getElem?_getD,List.getElem?_eq_getElem hi];exact h _ (List.getElem_mem hi)
theorem zqf {g:List (List Int)}{n t c lo hi i:Nat}(h:zlG g n)(ht:t<g.length)(hi':i<g.length)(j:Nat):at2 (ziF g t c lo hi) i j=if lo≤i∧i<hi then at2 g i j - fdv (at2 g i c) (at2 g t c) * at2 g t j else at2 g i j:=by
 show zas ((ziF g t c lo hi).getD i []) j=_;rw [zqd];by_cases e:lo≤i∧i<hi
 ·rw [if_pos e,if_pos e,zpM (by rw [zqe h hi',zqe h ht])];rfl
 ·rw [if_neg e,if_neg e];rfl
theorem zqg (g:List (List Int))(t c i j:Nat):at2 (ziG g t c) i j=if i=t∧at2 g t c<0 then -at2 g i j else at2 g i j:=by
 show zas ((ziG g t c).getD i []) j=_;rw [zqc];by_cases e:i=t∧at2 g t c<0
 ·rw [if_pos e,if_pos e,zpN];rfl
 ·rw [if_neg e,if_neg e];rfl
theorem zqh {g:List (List Int)}{t k:Nat}(ht:t<g.length)(hk:k<g.length)(i j:Nat):at2 (swp g t k) i j=at2 g (zln t k i) j:=by
 show zas ((swp g t k).getD i []) j=_;rw [zqb ht hk];rfl
/-! What the form keeps. -/
structure zqi (A:Nat→Nat→Int)(m n:Nat)(g0 g:List (List Int))(top c:Nat):Prop where
 len:g.length=n
 rcz:zlG g (m+n)
 lin:∀ r∈g,Lin A m n (zas r)
 cmb:∀ z,Cmb g0 z→Cmb g z
 piv:∀ i,i<top→ziM (g.getD i [])<c∧0<at2 g i (ziM (g.getD i []))
 inc:∀ i j,i<j→j<top→ziM (g.getD i [])<ziM (g.getD j [])
 low:∀ i,top≤i→∀ j,j<c→at2 g i j=0
 tn:top≤n
section
variable {A : Nat → Nat → Int} {m n top c : Nat} {g0 g : List (List Int)}
theorem zqi.mem (h:zqi A m n g0 g top c){i:Nat}(hi:i<n):g.getD i []∈g:=by
 rw [List.getD_eq_getElem?_getD,List.getElem?_eq_getElem (by rw [h.len];exact hi)];exact List.getElem_mem _
theorem zqj {t k i:Nat}(h:i<t)(hk:t≤k):zln t k i=i:=by
 unfold zln;repeat' split
 all_goals omega
theorem zqk {t k i:Nat}(h:t≤i)(hk:t≤k):t≤zln t k i:=by
 unfold zln;repeat' split
 all_goals omega
theorem zqi.swp (h:zqi A m n g0 g top c){k:Nat}(h1:top≤k)(h2:k<n):zqi A m n g0 (swp g top k) top c:=by
 have ht:top<g.length:=by rw [h.len];omega
 have hk:k<g.length:=by rw [h.len];exact h2
 have hr:∀ i,i<top→(Go.Proofs.YtipkdebkdnbieaaGreatDoor.swp g top k).getD i []=g.getD i []:=fun i hi=>by rw [zqb ht hk,zqj hi h1]
 refine ⟨by rw [ziy,h.len],h.rcz.swp,fun r hr=>h.lin r ((zpP ht hk).1 hr),fun z hz=>(h.cmb z hz).swp ht hk,fun i hi=>?_,fun i j hij hj=>?_,fun i hi j hj=>?_,h.tn⟩
 ·rw [hr i hi];have:=h.piv i hi;refine ⟨this.1,?_⟩;rw [zqh ht hk,zqj hi h1];exact this.2
 ·rw [hr i (by omega),hr j hj];exact h.inc i j hij hj
 ·rw [zqh ht hk];exact h.low _ (zqk hi h1) j hj
theorem zql {g:List (List Int)}{i:Nat}(h:g.length≤i)(j:Nat):at2 g i j=0:=by
 unfold at2;rw [List.getD_eq_getElem?_getD (l:=g),List.getElem?_eq_none h];rfl
theorem zqm {g:List (List Int)}{t c lo hi:Nat}{r:List Int}(ht:t<g.length)(hr:r∈ziF g t c lo hi):r∈g∨∃ s∈g,∃ u∈g,∃ q,r=ziC s u q:=by
 obtain ⟨i,hi'⟩:=List.mem_iff_getElem?.1 hr;rw [zl7] at hi'
 cases hg:g[i]? with
 | none=>rw [hg] at hi';cases hi'
 | some s =>
  rw [hg] at hi'
  obtain rfl:=Option.some.inj hi'
  split
  ·right
   refine ⟨s,List.mem_of_getElem? hg,g.getD t [],?_,_,rfl⟩
   rw [List.getD_eq_getElem?_getD,List.getElem?_eq_getElem ht]
   exact List.getElem_mem _
  ·left
   exact List.mem_of_getElem? hg
theorem zqi.linPas (h:zqi A m n g0 g top c){t c' lo hi:Nat}(ht:t<n):∀ r∈ziF g t c' lo hi,Lin A m n (zas r):=fun r hr=>by
 rcases zqm (by rw [h.len];exact ht) hr with q | ⟨s,hs,u,hu,q,e⟩
 ·exact h.lin r q
 ·subst e;have e:zas (ziC s u q)=fun i=>zas s i - q * zas u i:=funext fun i=>zpM (by rw [h.rcz s hs,h.rcz u hu]) i;rw [e];exact (h.lin s hs).take (h.lin u hu)
theorem zqi.pas (h:zqi A m n g0 g top c)(ht:top<n):zqi A m n g0 (ziF g top c (top+1) n) top c:=by
 have htl:top<g.length:=by rw [h.len];exact ht
 have hr:∀ i,i≤top→(ziF g top c (top+1) n).getD i []=g.getD i []:=fun i hi=>by rw [zqd,if_neg (by omega)]
 refine ⟨by rw [zl8,h.len],h.rcz.pas htl,h.linPas ht,fun z hz=>(h.cmb z hz).pas h.rcz htl (by omega),fun i hi=>?_,fun i j hij hj=>?_,fun i hi j hj=>?_,h.tn⟩
 ·rw [hr i (by omega)];have:=h.piv i hi;refine ⟨this.1,?_⟩;rw [zqf h.rcz htl (by omega),if_neg (by omega)];exact this.2
 ·rw [hr i (by omega),hr j (by omega)];exact h.inc i j hij hj
 ·rcases Nat.lt_or_ge i n with q | q
  ·rw [zqf h.rcz htl (by rw [h.len];exact q),h.low i hi j hj,h.low top (Nat.le_refl _) j hj];split <;> omega
  ·exact zql (by rw [zl8,h.len];exact q) j
theorem zqi.fin (h:zqi A m n g0 g top c)(ht:top<n)(hp:at2 g top c ≠ 0)(hz:∀ i,top<i→at2 g i c=0):zqi A m n g0 (ziH g top c) (top+1) (c+1):=by
 have htl:top<g.length:=by rw [h.len];exact ht
 have hsl:(ziG g top c).length=n:=by rw [zlJ,h.len]
 have hsr:zlG (ziG g top c) (m+n):=h.rcz.sgn htl;have hs:∀ i,i ≠ top→(ziG g top c).getD i []=g.getD i []:=fun i hi=>by rw [zqc,if_neg (fun e=>hi e.1)]
 have hsa:∀ i j,i ≠ top→at2 (ziG g top c) i j=at2 g i j:=fun i j hi=>by rw [zqg,if_neg (fun e=>hi e.1)]
 have hst:∀ j,at2 (ziG g top c) top j=if at2 g top c<0 then -at2 g top j else at2 g top j:=fun j=>by
  rw [zqg];by_cases e:at2 g top c<0
  ·rw [if_pos ⟨rfl,e⟩,if_pos e]
  ·rw [if_neg (fun q=>e q.2),if_neg e]
 have hpp:0<at2 (ziG g top c) top c:=by rw [hst];split <;> omega
 have htlow:∀ j,j<c→at2 (ziG g top c) top j=0:=fun j hj=>by rw [hst,h.low top (Nat.le_refl _) j hj];split <;> omega
 have hslin:∀ r∈ziG g top c,Lin A m n (zas r):=fun r hr=>by
  obtain ⟨i,hi⟩:=List.mem_iff_getElem?.1 hr;have:=zpQ (g:=g) (t:=top) (c:=c) (i:=i);rw [hi] at this;by_cases e:i=top∧at2 g top c<0
  ·rw [if_pos e] at this
   cases hg:g[i]? with
   | none=>rw [hg] at this;cases this
   | some s =>
    rw [hg] at this
    obtain rfl:=Option.some.inj this
    have e2:zas (ziD s)=fun i=>-zas s i:=funext fun i=>zpN s i
    rw [e2]
    exact (h.lin s (List.mem_of_getElem? hg)).neg
  ·rw [if_neg e] at this;exact h.lin r (List.mem_of_getElem? this.symm)
 have hfa:∀ i,i<n→∀ j,at2 (ziH g top c) i j=if i<top then at2 g i j - fdv (at2 g i c) (at2 (ziG g top c) top c) * at2 (ziG g top c) top j else at2 (ziG g top c) i j:=fun i hi j=>by
  unfold ziH;rw [zqf hsr (by rw [hsl];exact ht) (by rw [hsl];exact hi)];by_cases e:i<top
  ·rw [if_pos ⟨Nat.zero_le _,e⟩,if_pos e,hsa i j (by omega),hsa i c (by omega)]
  ·rw [if_neg (fun q=>e q.2),if_neg e]
 have hlead:∀ i,i<top→ziM ((ziH g top c).getD i [])=ziM (g.getD i [])∧0<at2 (ziH g top c) i (ziM (g.getD i [])):=fun i hi=>by
  have hq:=h.piv i hi;have h1:∀ j,j<c→at2 (ziH g top c) i j=at2 g i j:=fun j hj=>by rw [hfa i (by omega),if_pos hi,htlow j hj];omega
  have h2:at2 (ziH g top c) i (ziM (g.getD i []))=at2 g i (ziM (g.getD i [])):=h1 _ hq.1;refine ⟨zpR (fun j hj=>?_) ?_,by rw [h2];exact hq.2⟩
  ·have:at2 (ziH g top c) i j=0:=(by rw [h1 j (by omega)];exact zpS hj);exact this
  ·have:at2 (ziH g top c) i (ziM (g.getD i [])) ≠ 0:=(by rw [h2];omega);exact this
 have hltop:ziM ((ziH g top c).getD top [])=c∧0<at2 (ziH g top c) top c:=by
  have h1:∀ j,at2 (ziH g top c) top j=at2 (ziG g top c) top j:=fun j=>by rw [hfa top ht,if_neg (by omega)]
  refine ⟨zpR (fun j hj=>?_) ?_,by rw [h1];exact hpp⟩
  ·have:at2 (ziH g top c) top j=0:=(by rw [h1];exact htlow j hj);exact this
  ·have:at2 (ziH g top c) top c ≠ 0:=(by rw [h1];omega);exact this
 have hsI:zqi A m n g0 (ziG g top c) top c:=by
  refine ⟨hsl,hsr,hslin,fun z hz=>(h.cmb z hz).sgn,fun i hi=>?_,fun i j hij hj=>?_,fun i hi j hj=>?_,h.tn⟩
  ·rw [hs i (by omega),hsa i _ (by omega)];exact h.piv i hi
  ·rw [hs i (by omega),hs j (by omega)];exact h.inc i j hij hj
  ·by_cases e:i=top
   ·subst e;exact htlow j hj
   ·rw [hsa i j e];exact h.low i hi j hj
 refine ⟨by unfold ziH;rw [zl8,hsl],hsr.pas (by rw [hsl];exact ht),hsI.linPas ht,fun z hz=>(hsI.cmb z hz).pas hsr (by rw [hsl];exact ht) (by omega),fun i hi=>?_,fun i j hij hj=>?_,fun i hi j hj=>?_,ht⟩
 ·by_cases e:i=top
  ·subst e;rw [hltop.1];exact ⟨by omega,hltop.2⟩
  ·obtain ⟨q1,q2⟩:=hlead i (by omega);rw [q1];exact ⟨by have:=(h.piv i (by omega)).1;omega,q2⟩
 ·have hi:i<top:=by omega
  rw [(hlead i hi).1];by_cases e:j=top
  ·subst e;rw [hltop.1];exact (h.piv i hi).1
  ·rw [(hlead j (by omega)).1];exact h.inc i j hij (by omega)
 ·rcases Nat.lt_or_ge i n with q | q
  ·rw [hfa i q,if_neg (by omega),hsa i j (by omega)];by_cases e:j=c
   ·subst e;exact hz i (by omega)
   ·exact h.low i (by omega) j (by omega)
  ·exact zql (by unfold ziH;rw [zl8,hsl];exact q) j
end
/-! Bounds. -/
def Lo (g:List (List Int))(top B:Nat):Prop:=∀ i,i<top→∀ j,(at2 g i j).natAbs≤B
def Up (g:List (List Int))(top N:Nat):Prop:=∀ i,top≤i→∀ j,(at2 g i j).natAbs≤N
theorem zqn {g:List (List Int)}{top B N:Nat}(h1:Lo g top B)(h2:Up g top N)(hB:B<zi2)(hN:N<zi2):okG g=true:=by
 unfold okG;rw [List.all_eq_true];intro r hr;rw [List.all_eq_true];intro z hz;obtain ⟨i,hi⟩:=List.mem_iff_getElem?.1 hr;obtain ⟨j,hj⟩:=List.mem_iff_getElem?.1 hz;have e:at2 g i j=z:=by
  unfold at2;rw [List.getD_eq_getElem?_getD (l:=g),hi,Option.getD_some,List.getD_eq_getElem?_getD,hj,Option.getD_some]
 unfold okZ;rw [decide_eq_true_eq,← e];rcases Nat.lt_or_ge i top with q | q
 ·exact Nat.lt_of_le_of_lt (h1 i q j) hB
 ·exact Nat.lt_of_le_of_lt (h2 i q j) hN
theorem zqo (x p:Int):x - fdv x p * p=fmd x p:=by
 have:=zeb (a:=x) (b:=p);rw [Int.mul_comm] at this;omega
theorem zqp {x p:Int}(h:p ≠ 0):(fmd x p).natAbs<p.natAbs:=by
 rcases Int.lt_or_gt_of_ne h with q | q
 ·have:=zed (a:=x) q;omega
 ·have:=zec (a:=x) q;omega
theorem zqq {x p:Int}{M:Nat}(hp:p ≠ 0)(hx:x.natAbs≤M):(fdv x p).natAbs≤M / p.natAbs+1:=by
 have h1:=zqp (x:=x) hp;have h2:=zqo x p;have h3:(fdv x p * p).natAbs≤M+p.natAbs:=by omega
 rw [Int.natAbs_mul] at h3;have hpos:0<p.natAbs:=by omega
 rw [← Nat.add_div_right M hpos];exact (Nat.le_div_iff_mul_le hpos).2 h3
theorem zqr {x p:Int}{M:Nat}(hp:p ≠ 0)(hs:(0≤x∧0<p)∨(x≤0∧p<0))(hx:x.natAbs≤M):(fdv x p).natAbs≤M / p.natAbs∧(fmd x p).natAbs=x.natAbs % p.natAbs:=by
 obtain ⟨a,ha⟩:∃ a,x.natAbs=a:=⟨_,rfl⟩;obtain ⟨b,hb⟩:∃ b,p.natAbs=b:=⟨_,rfl⟩;have key:(fdv x p).natAbs=a / b∧(fmd x p).natAbs=a % b:=by
  rcases hs with ⟨h1,h2⟩ | ⟨h1,h2⟩
  ·obtain rfl:x=(a:Int):=by omega
   obtain rfl:p=(b:Int):=by omega
   unfold fdv fmd;rw [if_pos h2,if_pos h2];exact ⟨by rw [← Int.natCast_ediv,Int.natAbs_natCast],by rw [← Int.natCast_emod,Int.natAbs_natCast]⟩
  ·obtain rfl:x=-(a:Int):=by omega
   obtain rfl:p=-(b:Int):=by omega
   unfold fdv fmd;rw [if_neg (by omega),if_neg (by omega),Int.neg_neg,Int.neg_neg];exact ⟨by rw [← Int.natCast_ediv,Int.natAbs_natCast],by rw [← Int.natCast_emod,Int.natAbs_neg,Int.natAbs_natCast]⟩
 rw [key.1,key.2,ha,hb];exact ⟨Nat.div_le_div_right (by omega),rfl⟩
theorem zqs {x a:Nat}(ha:0<a)(h:a≤x):2 * (x % a)≤x:=by
 have h1:=Nat.mod_lt x ha;have h2:x % a≤x - a:=by
  rw [Nat.mod_eq_sub_mod h];exact Nat.mod_le _ _
 omega
theorem zqt {N M a a' Q C:Nat}(hQ:Q * a≤M)(haM:a≤M)(h2:2 * a'≤M)(hC:2 * (N * (M * (M * a)))≤C):2 * ((N+Q * N) * (a * (a * a')))≤C:=by
 have e1:(N+Q * N) * a=N * a+N * (Q * a):=by grind
 have h3:N * a≤N * M:=Nat.mul_le_mul_left _ haM;have h4:N * (Q * a)≤N * M:=Nat.mul_le_mul_left _ hQ;have h5:(N+Q * N) * a≤2 * (N * M):=by omega
 have h6:((N+Q * N) * a) * (a * a')≤(2 * (N * M)) * (a * a'):=Nat.mul_le_mul_right _ h5;have h7:(N * (M * a)) * (2 * a')≤(N * (M * a)) * M:=Nat.mul_le_mul_left _ h2;have e2:(N+Q * N) * (a * (a * a'))=((N+Q * N) * a) * (a * a'):=by grind
 have e3:(2 * (N * M)) * (a * a')=(N * (M * a)) * (2 * a'):=by grind
 have e4:(N * (M * a)) * M=N * (M * (M * a)):=by grind
 omega
theorem zqu {N M a Q C:Nat}(hQ:Q * a≤M)(ha:1≤a)(haM:a≤M)(hC:2 * (N * (M * (M * a)))≤C):N+Q * N≤C:=by
 have hQ2:Q≤M:=by
  have:Q * 1≤Q * a:=Nat.mul_le_mul_left _ ha;omega
 have h1:Q * N≤M * N:=Nat.mul_le_mul_right _ hQ2;have h2:1 * N≤M * N:=Nat.mul_le_mul_right _ (by omega);have h3:M * N * 1≤M * N * (M * a):=Nat.mul_le_mul_left _ (by have:=Nat.mul_le_mul (show 1≤M by omega) ha;omega);have e:N * (M * (M * a))=M * N * (M * a):=by grind
 omega
theorem zqv {t k i n:Nat}(ht:t<n)(hk:k<n)(hi:i<n):zln t k i<n:=by
 unfold zln;repeat' split
 all_goals omega
section
variable {A : Nat → Nat → Int} {m n top c : Nat} {g0 g : List (List Int)}
theorem zqw (h:zqi A m n g0 g top c){k B N Q:Nat}(ht:top<n)(h1:top≤k)(h2:k<n)(hlo:Lo g top B)(hup:Up g top N)(hq:∀ i,top≤i→i<n→(fdv (at2 g i c) (at2 g k c)).natAbs≤Q) :
  zqi A m n g0 (ziF (swp g top k) top c (top+1) n) top c∧Lo (ziF (swp g top k) top c (top+1) n) top B∧Up (ziF (swp g top k) top c (top+1) n) top (N+Q * N)∧at2 (ziF (swp g top k) top c (top+1) n) top c=at2 g k c ∧
   ∀ i,top<i→i<n→∃ s,top≤s∧s<n∧at2 (ziF (swp g top k) top c (top+1) n) i c=fmd (at2 g s c) (at2 g k c):=by
 have hs:=h.swp h1 h2;have htl:top<g.length:=by rw [h.len];omega
 have hkl:k<g.length:=by rw [h.len];exact h2
 have hsl:(swp g top k).length=n:=hs.len;have hst:∀ j,at2 (swp g top k) top j=at2 g k j:=fun j=>by rw [zqh htl hkl];unfold zln;split <;> simp_all
 have hpa:∀ i,i<n→∀ j,at2 (ziF (swp g top k) top c (top+1) n) i j=if top+1≤i∧i<n then at2 (swp g top k) i j - fdv (at2 (swp g top k) i c) (at2 (swp g top k) top c) * at2 (swp g top k) top j else at2 (swp g top k) i j:=fun i hi j=>zqf hs.rcz (by rw [hsl];exact ht) (by rw [hsl];exact hi) j;have hsw:∀ i,top≤i→i<n→top≤zln top k i∧zln top k i<n:=fun i q1 q2=>⟨zqk q1 h1,zqv ht h2 q2⟩;refine ⟨hs.pas ht,fun i hi j=>?_,fun i hi j=>?_,?_,fun i q1 q2=>?_⟩
 ·rw [hpa i (by omega),if_neg (by omega),zqh htl hkl,zqj hi h1];exact hlo i hi j
 ·rcases Nat.lt_or_ge i n with q | q
  ·rw [hpa i q];have hi1:=hsw i hi q;have b1:(at2 (swp g top k) i j).natAbs≤N:=(by rw [zqh htl hkl];exact hup _ hi1.1 j);by_cases e:top+1≤i∧i<n
   ·rw [if_pos e,hst,hst];have b2:(at2 g k j).natAbs≤N:=hup k h1 j;have b3:(fdv (at2 (swp g top k) i c) (at2 g k c)).natAbs≤Q:=(by rw [zqh htl hkl];exact hq _ hi1.1 hi1.2);have b4:(fdv (at2 (swp g top k) i c) (at2 g k c) * at2 g k j).natAbs≤Q * N:=(by rw [Int.natAbs_mul];exact Nat.mul_le_mul b3 b2);omega
   ·rw [if_neg e];omega
  ·rw [zql (by rw [zl8,hsl];exact q)];exact Nat.zero_le _
 ·rw [hpa top ht,if_neg (by omega),hst]
 ·have hi1:=hsw i (by omega) q2;refine ⟨zln top k i,hi1.1,hi1.2,?_⟩;rw [hpa i q2,if_pos (by omega),hst,zqo,zqh htl hkl]
theorem zqx (h:zqi A m n g0 g top c){k B N:Nat}(ht:top<n)(h1:top≤k)(h2:k<n)(hp:at2 g k c ≠ 0)(hlo:Lo g top B)(hup:Up g top N)(honly:∀ i,top≤i→i<n→at2 g i c ≠ 0→i=k) :
  zqi A m n g0 (swp g top k) top c∧Lo (swp g top k) top B∧Up (swp g top k) top N∧at2 (swp g top k) top c ≠ 0∧∀ i,top<i→at2 (swp g top k) i c=0:=by
 have hs:=h.swp h1 h2;have htl:top<g.length:=by rw [h.len];omega
 have hkl:k<g.length:=by rw [h.len];exact h2
 refine ⟨hs,fun i hi j=>?_,fun i hi j=>?_,?_,fun i hi=>?_⟩
 ·rw [zqh htl hkl,zqj hi h1];exact hlo i hi j
 ·rw [zqh htl hkl];exact hup _ (zqk hi h1) j
 ·rw [zqh htl hkl];have:zln top k top=k:=by unfold zln;split <;> simp_all
  rw [this];exact hp
 ·rw [zqh htl hkl];rcases Nat.lt_or_ge (zln top k i) n with q | q
  ·refine Decidable.byContradiction fun hne=>?_;have:=honly _ (zqk (by omega) h1) q hne;unfold zln at this;repeat' split at this
   all_goals omega
  ·exact zql (by rw [h.len];exact q) c
theorem zqy {g:List (List Int)}{top c t B N:Nat}(h1:Lo g t B)(h2:Up g t N):Lo (ziG g top c) t B∧Up (ziG g top c) t N :=
 ⟨fun i hi j=>by rw [zqg];have:=h1 i hi j;split <;> omega,fun i hi j=>by rw [zqg];have:=h2 i hi j;split <;> omega⟩
theorem zqz {g:List (List Int)}{f top c k:Nat}(hs:ziE g c top (g.length - top)=(some k,false))(h1:okG g=true)(h2:okG (swp g top k)=true)(h3:okG (ziG (swp g top k) top c)=true):inZ (f+1) g top c=some (ziH (swp g top k) top c,top+1):=by
 unfold inZ;rw [if_pos h1,hs];simp only;rw [if_pos ⟨h2,h3⟩];rfl
theorem zq0 {g:List (List Int)}{f top c k:Nat}(hs:ziE g c top (g.length - top)=(some k,true))(h1:okG g=true)(h2:okG (swp g top k)=true)(h3:okG (ziG (swp g top k) top c)=true):inZ (f+1) g top c=inZ f (ziF (swp g top k) top c (top+1) g.length) top c:=by
 rw [inZ,if_pos h1,hs];simp only;rw [if_pos ⟨h2,h3⟩];rfl
theorem zq1 {g:List (List Int)}{f top c:Nat}{b:Bool}(hs:ziE g c top (g.length - top)=(none,b))(h1:okG g=true):inZ (f+1) g top c=some (g,top):=by
 unfold inZ;rw [if_pos h1,hs]
def zq2 (A:Nat→Nat→Int)(m n:Nat)(g0:List (List Int))(top c B C f:Nat)(g:List (List Int)):Prop :=
 ∃ g1,inZ f g top c=some (ziH g1 top c,top+1)∧zqi A m n g0 g1 top c∧Lo g1 top B∧Up g1 top C∧at2 g1 top c ≠ 0∧∀ i,top<i→at2 g1 i c=0
theorem Up.mono {g:List (List Int)}{t N C:Nat}(h:Up g t N)(hC:N≤C):Up g t C:=fun i hi j=>Nat.le_trans (h i hi j) hC
theorem zq3 (h:zqi A m n g0 g top c){k B N:Nat}(h1:top≤k)(h2:k<n)(ht:top<n)(hlo:Lo g top B)(hup:Up g top N)(hB:B<zi2)(hN:N<zi2):okG (swp g top k)=true∧okG (ziG (swp g top k) top c)=true:=by
 have htl:top<g.length:=by rw [h.len];omega
 have hkl:k<g.length:=by rw [h.len];exact h2
 have l1:Lo (swp g top k) top B:=fun i hi j=>by rw [zqh htl hkl,zqj hi h1];exact hlo i hi j
 have l2:Up (swp g top k) top N:=fun i hi j=>by rw [zqh htl hkl];exact hup _ (zqk hi h1) j
 have l3:=zqy (top:=top) (c:=c) l1 l2;exact ⟨zqn l1 l2 hB hN,zqn l3.1 l3.2 hB hN⟩
theorem zq4 {B C:Nat}(ht:top<n)(hB:B<zi2)(hC:C<zi2):∀ (f:Nat)(g:List (List Int))(N M:Nat),zqi A m n g0 g top c→Lo g top B→Up g top N→N≤C→(∀ i,top≤i→(at2 g i c).natAbs≤M) →
  ((∀ i,top≤i→0≤at2 g i c)∨(∀ i,top≤i→at2 g i c≤0))→(∃ i,top≤i∧at2 g i c ≠ 0)→1≤f→(∀ k,ziE g c top (n - top)=(some k,true)→(at2 g k c).natAbs<f∧2 * (N * (M * (M * (at2 g k c).natAbs)))≤C)→zq2 A m n g0 top c B C f g
 | 0,_,_,_,_,_,_,_,_,_,_,h1,_=>by omega
 | f+1,g,N,M,h,hlo,hup,hNC,hM,hsg,hex,_,hsc=>by
  have hok:=zqn hlo hup hB (Nat.lt_of_le_of_lt hNC hC);obtain ⟨o,b,hs⟩:∃ o b,ziE g c top (n - top)=(o,b):=⟨_,_,rfl⟩;have hs':ziE g c top (g.length - top)=(o,b):=by rw [h.len];exact hs
  cases o with
  | none =>
   obtain ⟨i,q1,q2⟩:=hex
   rcases Nat.lt_or_ge i n with q | q
   ·exact absurd (zpY hs i q1 (by omega)) q2
   ·exact absurd (zql (by rw [h.len];exact q) c) q2
  | some k =>
   obtain ⟨k1,k2,k3⟩:=zlP hs
   have hkn:k<n:=by omega
   obtain ⟨m1,m2⟩:=zpZ hs
   have hok2:=zq3 h k1 hkn ht hlo hup hB (Nat.lt_of_le_of_lt hNC hC)
   cases b with
   | false =>
    obtain ⟨p1,p2,p3,p4,p5⟩:=zqx h ht k1 hkn k3 hlo hup fun i q1 q2 q3=>(m1 i q1 (by omega) q3).2 rfl
    exact ⟨swp g top k,zqz hs' hok hok2.1 hok2.2,p1,p2,p3.mono hNC,p4,p5⟩
   | true =>
    obtain ⟨hf,hpot⟩:=hsc k hs
    have hsgn:∀ i,top≤i→(0≤at2 g i c∧0<at2 g k c)∨(at2 g i c≤0∧at2 g k c<0):=fun i hi=>by
     rcases hsg with q | q
     ·have:=q k k1;have:=q i hi;omega
     ·have:=q k k1;have:=q i hi;omega
    obtain ⟨a,ha⟩:∃ a,(at2 g k c).natAbs=a:=⟨_,rfl⟩
    have ha1:1≤a:=by omega
    have haM:a≤M:=by rw [← ha];exact hM k k1
    have hQa:M / a * a≤M:=Nat.div_mul_le_self M a
    obtain ⟨g1,g2,g3,g4,g5⟩:=zqw h (Q:=M / a) ht k1 hkn hlo hup fun i q1 q2=>by rw [← ha];exact (zqr k3 (hsgn i q1) (hM i q1)).1
    rw [ha] at hpot hf
    have hnew:∀ i,top<i→i<n→∃ s,top≤s∧s<n∧at2 (ziF (swp g top k) top c (top+1) n) i c=fmd (at2 g s c) (at2 g k c):=g5
    have hbig:∀ i,top≤i→(at2 (ziF (swp g top k) top c (top+1) n) i c).natAbs≤a:=fun i hi=>by
     by_cases e:i=top
     ·rw [e,g4,ha];exact Nat.le_refl _
     ·rcases Nat.lt_or_ge i n with q | q
      ·obtain ⟨s,_,_,e2⟩:=hnew i (by omega) q;rw [e2];have:=zqp (x:=at2 g s c) k3;omega
      ·rw [zql (by rw [g1.len];exact q)];exact Nat.zero_le _
    have hres:=zq4 ht hB hC f (ziF (swp g top k) top c (top+1) n) (N+M / a * N) a g1 g2 g3 (zqu hQa ha1 haM hpot) hbig (by
     rcases Int.lt_or_gt_of_ne k3 with q | q
     ·right;intro i hi;by_cases e:i=top
      ·rw [e,g4];omega
      ·rcases Nat.lt_or_ge i n with q' | q'
       ·obtain ⟨s,_,_,e2⟩:=hnew i (by omega) q';rw [e2];exact (zed q).2
       ·rw [zql (by rw [g1.len];exact q')];omega
     ·left;intro i hi;by_cases e:i=top
      ·rw [e,g4];omega
      ·rcases Nat.lt_or_ge i n with q' | q'
       ·obtain ⟨s,_,_,e2⟩:=hnew i (by omega) q';rw [e2];exact (zec q).1
       ·rw [zql (by rw [g1.len];exact q')];omega) ⟨top,Nat.le_refl _,by rw [g4];exact k3⟩ (by omega) (fun k' hk'=>by
     obtain ⟨n1,n2⟩:=zpZ hk';obtain ⟨k1',k2',k3'⟩:=zlP hk';obtain ⟨i,i1,i2,i3,i4⟩:=n2 rfl;obtain ⟨s,s1,s2,s3,s4⟩:∃ s,top<s∧s<n∧at2 (ziF (swp g top k) top c (top+1) n) s c ≠ 0∧(at2 (ziF (swp g top k) top c (top+1) n) k' c).natAbs≤(at2 (ziF (swp g top k) top c (top+1) n) s c).natAbs:=by
      by_cases e:k'=top
      ·exact ⟨i,by omega,by omega,i4,(n1 i i2 i3 i4).1⟩
      ·exact ⟨k',by omega,by omega,k3',Nat.le_refl _⟩
     obtain ⟨t,t1,t2,t3⟩:=hnew s s1 s2;have hmod:=(zqr k3 (hsgn t t1) (hM t t1)).2;rw [t3] at s3 s4;rw [ha] at hmod;have hx0:at2 g t c ≠ 0:=fun e=>by
      rw [e,Int.natAbs_zero,Nat.zero_mod] at hmod;exact s3 (by rw [e];omega)
     have hxa:a≤(at2 g t c).natAbs:=(by rw [← ha];exact (m1 t t1 (by omega) hx0).1);have h2:=zqs (by omega) hxa;have hlt:=Nat.mod_lt (at2 g t c).natAbs (show 0<a by omega);have hMt:=hM t t1;exact ⟨by omega,zqt hQa haM (by omega) hpot⟩)
    obtain ⟨gE,r1,r2⟩:=hres
    exact ⟨gE,by rw [zq0 hs' hok hok2.1 hok2.2,h.len];exact r1,r2⟩
end
theorem zq5 : 1≤zi2:=by unfold zi2;exact Nat.pow_pos (by omega)
theorem zq6 : ∃ f,zi3=f+1∧zi2<f:=by
 have:=zq5;refine ⟨10 * zi2 - 1,?_,by omega⟩;unfold zi3;omega
section
variable {A : Nat → Nat → Int} {m n top c : Nat} {g0 g : List (List Int)}
theorem zq7 {B N C:Nat}(ht:top<n)(h:zqi A m n g0 g top c)(hlo:Lo g top B)(hup:Up g top N)(hN1:1≤N)(hCe:C=6 * (N * (N * (N * N))))(hB:B<zi2)(hC:C<zi2) :
  (inZ zi3 g top c=some (g,top)∧∀ i,top≤i→at2 g i c=0)∨zq2 A m n g0 top c B C zi3 g:=by
 obtain ⟨f,hf,hfl⟩:=zq6;rw [hf];have hN4:N≤N * (N * (N * N)):=by
  have h1:1≤N * (N * N):=Nat.mul_le_mul hN1 (Nat.mul_le_mul hN1 hN1);have:=Nat.mul_le_mul_left N h1;omega
 have hNC:N≤C:=by omega
 have hok:=zqn hlo hup hB (Nat.lt_of_le_of_lt hNC hC);obtain ⟨o,b,hs⟩:∃ o b,ziE g c top (n - top)=(o,b):=⟨_,_,rfl⟩;have hs':ziE g c top (g.length - top)=(o,b):=by rw [h.len];exact hs
 cases o with
 | none =>
  left
  refine ⟨zq1 hs' hok,fun i hi=>?_⟩
  rcases Nat.lt_or_ge i n with q | q
  ·exact zpY hs i hi (by omega)
  ·exact zql (by rw [h.len];exact q) c
 | some k =>
  right
  obtain ⟨k1,k2,k3⟩:=zlP hs
  have hkn:k<n:=by omega
  obtain ⟨m1,m2⟩:=zpZ hs
  have hok2:=zq3 h k1 hkn ht hlo hup hB (Nat.lt_of_le_of_lt hNC hC)
  cases b with
  | false =>
   obtain ⟨p1,p2,p3,p4,p5⟩:=zqx h ht k1 hkn k3 hlo hup fun i q1 q2 q3=>(m1 i q1 (by omega) q3).2 rfl
   exact ⟨swp g top k,zqz hs' hok hok2.1 hok2.2,p1,p2,p3.mono hNC,p4,p5⟩
  | true =>
   obtain ⟨a,ha⟩:∃ a,(at2 g k c).natAbs=a:=⟨_,rfl⟩
   have ha1:1≤a:=by omega
   have haN:a≤N:=by rw [← ha];exact hup k k1 c
   have hQa:(N / a+1) * a≤2 * N:=by
    have:=Nat.div_mul_le_self N a;rw [Nat.add_mul];omega
   obtain ⟨g1,g2,g3,g4,g5⟩:=zqw h (Q:=N / a+1) ht k1 hkn hlo hup fun i q1 q2=>by rw [← ha];exact zqq k3 (hup i q1 c)
   generalize N / a+1=Q at *
   have hN1a:(N+Q * N) * a≤3 * (N * N):=by
    have e1:(N+Q * N) * a=N * a+N * (Q * a):=(by grind);have h3:N * a≤N * N:=Nat.mul_le_mul_left _ haN;have h4:N * (Q * a)≤N * (2 * N):=Nat.mul_le_mul_left _ hQa;have e2:N * (2 * N)=2 * (N * N):=(by grind);omega
   have hpot:∀ x,x≤a→2 * ((N+Q * N) * (a * (a * x)))≤C:=fun x hx=>by
    have e1:(N+Q * N) * (a * (a * x))=((N+Q * N) * a) * (a * x):=(by grind);have h1:((N+Q * N) * a) * (a * x)≤(3 * (N * N)) * (N * N):=Nat.mul_le_mul hN1a (Nat.mul_le_mul haN (by omega));have e2:(3 * (N * N)) * (N * N)=3 * (N * (N * (N * N))):=(by grind);omega
   have hN1C:N+Q * N≤C:=by
    have h1:(N+Q * N) * 1≤(N+Q * N) * a:=Nat.mul_le_mul_left _ ha1;have h2:N * N≤N * (N * (N * N)):=Nat.mul_le_mul_left _ (by have:=Nat.mul_le_mul_left N (Nat.mul_le_mul hN1 hN1);omega);omega
   have hres:=zq4 ht hB hC f (ziF (swp g top k) top c (top+1) n) (N+Q * N) a g1 g2 g3 hN1C (fun i hi=>by
    by_cases e:i=top
    ·rw [e,g4,ha];exact Nat.le_refl _
    ·rcases Nat.lt_or_ge i n with q | q
     ·obtain ⟨s,_,_,e2⟩:=g5 i (by omega) q;rw [e2];have:=zqp (x:=at2 g s c) k3;omega
     ·rw [zql (by rw [g1.len];exact q)];exact Nat.zero_le _) (by
    rcases Int.lt_or_gt_of_ne k3 with q | q
    ·right;intro i hi;by_cases e:i=top
     ·rw [e,g4];omega
     ·rcases Nat.lt_or_ge i n with q' | q'
      ·obtain ⟨s,_,_,e2⟩:=g5 i (by omega) q';rw [e2];exact (zed q).2
      ·rw [zql (by rw [g1.len];exact q')];omega
    ·left;intro i hi;by_cases e:i=top
     ·rw [e,g4];omega
     ·rcases Nat.lt_or_ge i n with q' | q'
      ·obtain ⟨s,_,_,e2⟩:=g5 i (by omega) q';rw [e2];exact (zec q).1
      ·rw [zql (by rw [g1.len];exact q')];omega) ⟨top,Nat.le_refl _,by rw [g4];exact k3⟩ (by omega) (fun k' hk'=>by
    obtain ⟨n1,n2⟩:=zpZ hk';obtain ⟨k1',k2',k3'⟩:=zlP hk';have hle:(at2 (ziF (swp g top k) top c (top+1) n) k' c).natAbs≤a:=by
     have:=(n1 top (Nat.le_refl _) (by omega) (by rw [g4];exact k3)).1;rw [g4,ha] at this;exact this
    exact ⟨by omega,hpot _ hle⟩)
   obtain ⟨gE,r1,r2⟩:=hres
   exact ⟨gE,by rw [zq0 hs' hok hok2.1 hok2.2,h.len];exact r1,r2⟩
theorem zq8 {B C:Nat}(h:zqi A m n g0 g top c)(ht:top<n)(hp:at2 g top c ≠ 0)(hlo:Lo g top B)(hup:Up g top C):Lo (ziH g top c) (top+1) ((B+1) * (C+1))∧Up (ziH g top c) (top+1) C:=by
 have htl:top<g.length:=by rw [h.len];omega
 have hsl:(ziG g top c).length=n:=by rw [zlJ,h.len]
 have hsr:zlG (ziG g top c) (m+n):=h.rcz.sgn htl;have hs:=zqy (top:=top) (c:=c) hlo hup;have hpp:at2 (ziG g top c) top c ≠ 0:=by
  rw [zqg];split <;> omega
 have e1:(B+1) * (C+1)=B * C+B+C+1:=by grind
 have hfa:∀ i,i<n→∀ j,at2 (ziH g top c) i j=if 0≤i∧i<top then at2 (ziG g top c) i j - fdv (at2 (ziG g top c) i c) (at2 (ziG g top c) top c) * at2 (ziG g top c) top j else at2 (ziG g top c) i j:=fun i hi j=>by
  unfold ziH;exact zqf hsr (by rw [hsl];exact ht) (by rw [hsl];exact hi) j
 refine ⟨fun i hi j=>?_,fun i hi j=>?_⟩
 ·rw [hfa i (by omega),e1];by_cases e:i<top
  ·rw [if_pos ⟨Nat.zero_le _,e⟩];have b1:=hs.1 i e j;have b2:=hs.1 i e c;have b3:=hs.2 top (Nat.le_refl _) j;have b4:=zlE (a:=at2 (ziG g top c) i c) hpp;have b5:(fdv (at2 (ziG g top c) i c) (at2 (ziG g top c) top c) * at2 (ziG g top c) top j).natAbs≤B * C:=by
    rw [Int.natAbs_mul];exact Nat.mul_le_mul (by omega) b3
   omega
  ·rw [if_neg (fun q=>e q.2)];have:=hs.2 i (by omega) j;omega
 ·rcases Nat.lt_or_ge i n with q | q
  ·rw [hfa i q,if_neg (by omega)];exact hs.2 i (by omega) j
  ·rw [zql (by unfold ziH;rw [zl8,hsl];exact q)];exact Nat.zero_le _
end
def nbZ : Nat→Nat
 | 0=>200
 | k+1=>6 * (nbZ k * (nbZ k * (nbZ k * nbZ k)))
def abZ : Nat→Nat
 | 0=>0
 | k+1=>(abZ k+1) * (nbZ (k+1)+1)
theorem zq9 : ∀ k,k≤4→nbZ k<zi2∧abZ k<zi2∧1≤nbZ k:=by decide +kernel
theorem zqA {j k:Nat}(h:j≤k)(hk:k≤4):nbZ j≤nbZ k∧abZ j≤abZ k:=by
 have:∀ k,k≤4→∀ j,j≤k→nbZ j≤nbZ k∧abZ j≤abZ k:=by decide +kernel
 exact this k hk j h
theorem zqB {A:Nat→Nat→Int}{m n cols:Nat}{g0:List (List Int)}(hn:n≤4):∀ (f:Nat)(g:List (List Int))(top c:Nat),zqi A m n g0 g top c→c≤cols→cols<c+f→Lo g top (abZ top)→Up g top (nbZ top) →
  ∃ gF tF cF,ziI f g top c cols=some (gF,tF)∧zqi A m n g0 gF tF cF∧(cF=cols∨(tF=n∧cF≤cols))∧Lo gF tF (abZ tF)∧Up gF tF (nbZ tF)
 | 0,_,_,c,_,h1,h2,_,_=>by omega
 | f+1,g,top,c,h,h1,h2,hlo,hup=>by
  by_cases hc:c<cols∧top<g.length
  ·have ht:top<n:=(by rw [← h.len];exact hc.2);have b1:=zq9 top (by omega);have b2:=zq9 (top+1) (by omega);have hout:∀ g' t',inZ zi3 g top c=some (g',t')→ziI (f+1) g top c cols=ziI f g' t' (c+1) cols:=fun g' t' e=>by rw [ziI,if_pos hc,e]
   rcases zq7 ht h hlo hup b1.2.2 rfl b1.2.1 b2.1 with ⟨e,hz⟩ | ⟨g1,e,i1,i2,i3,i4,i5⟩
   ·have hI:zqi A m n g0 g top (c+1):=⟨h.len,h.rcz,h.lin,h.cmb,fun i hi=>⟨by have:=(h.piv i hi).1;omega,(h.piv i hi).2⟩,h.inc,fun i hi j hj=>by
     by_cases ej:j=c
     ·rw [ej];exact hz i hi
     ·exact h.low i hi j (by omega),h.tn⟩
    obtain ⟨gF,tF,cF,r1,r2⟩:=zqB (cols:=cols) hn f g top (c+1) hI (by omega) (by omega) hlo hup;exact ⟨gF,tF,cF,by rw [hout _ _ e];exact r1,r2⟩
   ·obtain ⟨q1,q2⟩:=zq8 i1 ht i4 i2 i3;obtain ⟨gF,tF,cF,r1,r2⟩:=zqB (cols:=cols) hn f (ziH g1 top c) (top+1) (c+1) (i1.fin ht i4 i5) (by omega) (by omega) q1 q2;exact ⟨gF,tF,cF,by rw [hout _ _ e];exact r1,r2⟩
  ·refine ⟨g,top,c,by rw [ziI,if_neg hc],h,?_,hlo,hup⟩;have:=h.len;have:=h.tn;omega
end Go.Proofs.YtipkdebkdnbieaaGreatDoor
