/- Plain: sizes over 2.3 and 2.3.5 by a linear form of twenty-six bits; in the box no form comes near zero. Walks: prime's IsPrime and Check; general words on rows that a call made. Sizes in memory: slices of fractions (two cells an element), slices of sizes. -/
import Derived.Test.YtbkfhacmekbniaaGreatDoorPc01
import Derived.Maps.AppendAt
import Derived.RangeFuncRecord
import Derived.Test.YtbkfhacmekbniaaGreatDoorPc06
set_option maxHeartbeats 400000
namespace Go.Proofs.YtbkfhacmekbniaaGreatDoor
section
def lg (p:Int):Int:=if p=2 then 67108864 else if p=3 then 106365032 else 155821956
def loP (p f:Int):Int:=if p=2 then f * lg p else min (f * lg p) (f * (lg p+1))
def hiP (p f:Int):Int:=if p=2 then f * lg p else max (f * lg p) (f * (lg p+1))
def lowT : List (Int × Int)→Int | []=>0 | e::l=>loP e.1 e.2+lowT l
def higT : List (Int × Int)→Int | []=>0 | e::l=>hiP e.1 e.2+higT l
def zep : List (Int × Int)→Int | []=>0 | e::l=>e.2 * lg e.1+zep l
def zeq : List (Int × Int)→Int | []=>0 | e::l=>(if e.1=2 then 0 else (e.2.natAbs:Int))+zeq l
theorem zes (a b:List (Int × Int)):lowT (a++b)=lowT a+lowT b:=by
 induction a with
 | nil=>simp [lowT]
 | cons e a ih=>simp only [List.cons_append,lowT,ih];omega
theorem zet (a b:List (Int × Int)):higT (a++b)=higT a+higT b:=by
 induction a with
 | nil=>simp [higT]
 | cons e a ih=>simp only [List.cons_append,higT,ih];omega
theorem zeu (p f:Int):f * lg p - (if p=2 then 0 else (f.natAbs:Int))≤loP p f∧loP p f≤f * lg p∧f * lg p≤hiP p f∧hiP p f≤f * lg p+(if p=2 then 0 else (f.natAbs:Int)):=by
 unfold loP hiP;by_cases h:p=2
 ·simp [h]
 ·rw [if_neg h,if_neg h,if_neg h];have:f * (lg p+1)=f * lg p+f:=by rw [Int.mul_add,Int.mul_one]
  rw [this];omega
theorem zev (l:List (Int × Int)):zep l - zeq l≤lowT l∧lowT l≤zep l∧zep l≤higT l∧higT l≤zep l+zeq l:=by
 induction l with
 | nil=>simp [zep,zeq,lowT,higT]
 | cons e l ih =>
  have:=zeu e.1 e.2
  simp only [zep,zeq,lowT,higT]
  omega
def dn (x:List Rat):Nat:=x.foldl (fun d r=>Nat.lcm d r.den) 1
def fcd (d:Nat)(x:List Rat):List Int:=x.map fun r=>r.num * ((d / r.den:Nat):Int)
def tms (p:List Int)(d:Nat)(x:List Rat):List (Int × Int):=(p.zip (fcd d x)).filter fun e=>e.2 != 0
theorem zew (l:List (Int × Int)):lowT (l.filter fun e=>e.2 != 0)=lowT l∧higT (l.filter fun e=>e.2 != 0)=higT l∧zep (l.filter fun e=>e.2 != 0)=zep l∧zeq (l.filter fun e=>e.2 != 0)=zeq l:=by
 induction l with
 | nil=>simp
 | cons e l ih =>
  rw [List.filter_cons]
  by_cases h:e.2=0
  ·rw [if_neg (by simp [h])]
   simp only [lowT,higT,zep,zeq,h,ih,loP,hiP]
   simp
  ·rw [if_pos (by simp [h])]
   simp only [lowT,higT,zep,zeq,ih,and_self]
def sF : List Int→List Rat→Rat
 | p::ps,r::x=>r * (lg p:Rat)+sF ps x
 | _,_=>0
theorem zex {r:Rat}{d:Nat}(h:r.den ∣ d):((r.num * ((d / r.den:Nat):Int):Int):Rat)=(d:Rat) * r:=by
 obtain ⟨k,rfl⟩:=h;have h0:0<r.den:=r.den_pos;rw [Nat.mul_div_cancel_left _ h0];have e:r=(r.num:Rat) / (r.den:Rat):=by
  have:=Rat.mkRat_eq_div r.num r.den;rw [Rat.mkRat_self] at this;exact this
 have e2:r * (r.den:Rat)=(r.num:Rat):=by
  have h3:(r.den:Rat) ≠ 0:=by
   intro h;have:=Rat.natCast_inj.1 (show ((r.den:Nat):Rat)=((0:Nat):Rat) from h);omega
  have:=Rat.div_mul_cancel (a:=(r.num:Rat)) h3;rw [← e] at this;exact this
 rw [Rat.intCast_mul,← e2,Rat.natCast_mul];show r * (r.den:Rat) * (((k:Nat):Int):Rat)=_;rw [Rat.intCast_natCast];grind
theorem zey (d:Nat):∀ (p:List Int)(x:List Rat),(∀ r∈x,r.den ∣ d)→((zep (p.zip (fcd d x)):Int):Rat)=(d:Rat) * sF p x
 | [],x,_=>by simp [fcd,zep,sF]
 | _::_,[],_=>by simp [fcd,zep,sF]
 | p::ps,r::x,h=>by
  have ih:=zey d ps x fun s hs=>h s (List.mem_cons_of_mem _ hs);have e:=zex (h r (List.mem_cons_self ..));simp only [fcd] at ih;simp only [fcd,List.map_cons,List.zip_cons_cons,zep,sF];rw [Rat.intCast_add,ih,Rat.intCast_mul,e];grind
theorem zez (x:List Rat):∀ r∈x,r.den ∣ dn x:=by
 have key:∀ (l:List Rat)(d:Nat),d ∣ l.foldl (fun d r=>Nat.lcm d r.den) d∧∀ r∈l,r.den ∣ l.foldl (fun d r=>Nat.lcm d r.den) d:=by
  intro l;induction l with
  | nil=>intro d;exact ⟨Nat.dvd_refl _,fun r h=>by cases h⟩
  | cons s l ih =>
   intro d
   have:=ih (Nat.lcm d s.den)
   simp only [List.foldl_cons]
   refine ⟨Nat.dvd_trans (Nat.dvd_lcm_left ..) this.1,fun r hr=>?_⟩
   rcases List.mem_cons.1 hr with rfl | hr
   ·exact Nat.dvd_trans (Nat.dvd_lcm_right ..) this.1
   ·exact this.2 r hr
 exact (key x 1).2
theorem ze0 (x:List Rat):0<dn x:=by
 have key:∀ (l:List Rat)(d:Nat),0<d→0<l.foldl (fun d r=>Nat.lcm d r.den) d:=by
  intro l;induction l with
  | nil=>intro d h;exact h
  | cons s l ih=>intro d h;exact ih _ (Nat.lcm_pos h s.den_pos)
 exact key x 1 (by omega)
def ze1 (x y:List Rat):List Rat:=List.zipWith (·+·) x y
def ze2 (x y:List Rat):List Rat:=List.zipWith (· - ·) x y
def ze3 (x:List Rat)(k:Rat):List Rat:=x.map (· * k)
theorem ze4 : ∀ (p:List Int)(x y:List Rat),x.length=y.length→sF p (ze2 x y)=sF p x - sF p y
 | [],x,y,_=>by simp only [sF];grind
 | _::_,[],[],_=>by simp only [sF,ze2,List.zipWith_nil_left];grind
 | p::ps,a::x,b::y,h=>by
  have ih:=ze4 ps x y (by simpa using h);simp only [ze2] at ih;simp only [ze2,List.zipWith_cons_cons,sF,ih];grind
def ze5 (u v:Nat):Bool :=
 let t:=(u * 106365032+v * 311643912+123212800) % 134217728
 let th:=(u - 256)+(256 - u)+2 * ((v - 128)+(128 - v))
 (Nat.blt th t && Nat.blt (t+th) 134217728) || (Nat.beq u 256 && Nat.beq v 128)
def ck1 (u n:Nat):Bool:=Nat.rec (motive:=fun _=>Bool) true (fun v ih=>cond (ze5 u v) ih false) n
def ck2 (n:Nat):Bool:=Nat.rec (motive:=fun _=>Bool) true (fun u ih=>cond (ck1 u 257) ih false) n
theorem ze6 : ck2 513=true:=by decide +kernel
theorem ze7 (u n:Nat)(h:ck1 u n=true):∀ v,v<n→ze5 u v=true:=by
 induction n with
 | zero=>intro v hv;omega
 | succ n ih =>
  have e:ck1 u (n+1)=cond (ze5 u n) (ck1 u n) false:=rfl
  rw [e] at h
  intro v hv
  cases hc:ze5 u n with
  | false=>rw [hc] at h;cases h
  | true =>
   rw [hc] at h
   rcases Nat.lt_or_ge v n with g | g
   ·exact ih h v g
   ·rw [show v=n by omega];exact hc
theorem ze8 (m n:Nat)(hm:257=m)(h:ck2 n=true):∀ u,u<n→ck1 u m=true:=by
 induction n with
 | zero=>intro u hu;omega
 | succ n ih =>
  have e:ck2 (n+1)=cond (ck1 n 257) (ck2 n) false:=rfl
  rw [e,hm] at h
  intro u hu
  cases hc:ck1 n m with
  | false=>rw [hc] at h;cases h
  | true =>
   rw [hc] at h
   rcases Nat.lt_or_ge u n with g | g
   ·exact ih h u g
   ·rw [show u=n by omega];exact hc
theorem ze9 {w q t th:Int}(hw:w=134217728 * q+t)(h1:th<t)(h2:t+th<134217728):th<w.natAbs:=by
 by_cases h:q<0 <;> omega
theorem zeA (A B c:Int)(h1:-256≤B)(h2:B≤256)(h3:-128≤c)(h4:c≤128)(hn:B ≠ 0∨c ≠ 0) :
  (B.natAbs:Int)+2 * (c.natAbs:Int)<(A * 134217728+B * 106365032+c * 311643912).natAbs:=by
 obtain ⟨m,hm⟩:∃ m:Nat,257=m:=⟨_,rfl⟩;obtain ⟨n,hn2⟩:∃ n:Nat,513=n:=⟨_,rfl⟩;have hce:=ze6;rw [hn2] at hce;obtain ⟨u,hu⟩:∃ u:Nat,(u:Int)=B+256:=⟨(B+256).toNat,by omega⟩;obtain ⟨v,hv⟩:∃ v:Nat,(v:Int)=c+128:=⟨(c+128).toNat,by omega⟩;have hc:=ze7 _ _ (ze8 m n hm hce u (by omega)) v (by omega);unfold ze5 at hc;simp only [Bool.or_eq_true,Bool.and_eq_true,Nat.blt_eq] at hc;rcases hc with ⟨h5,h6⟩ | ⟨h5,h6⟩
 ·refine ze9 (q:=A - 501+((u * 106365032+v * 311643912+123212800) / 134217728:Nat)) (t:=((u * 106365032+v * 311643912+123212800) % 134217728:Nat)) ?_ ?_ ?_
  ·omega
  ·omega
  ·omega
 ·have:=Nat.eq_of_beq_eq_true h5;have:=Nat.eq_of_beq_eq_true h6;omega
def zeB (l:List (Int × Int)):Int:=if l=[] then 0 else if 0≤lowT l then 1 else -1
def zeC (l:List (Int × Int)):Prop:=l=[]∨zeq l<(zep l).natAbs
theorem zeC.cases {l:List (Int × Int)}(h:zeC l):l=[]∨(0<lowT l∧0<zep l)∨(lowT l<0∧higT l<0∧zep l<0):=by
 rcases h with h | h
 ·exact .inl h
 ·have:=zev l;by_cases g:0<zep l
  ·exact .inr (.inl ⟨by omega,g⟩)
  ·exact .inr (.inr ⟨by omega,by omega,by omega⟩)
def sgQ (r:Rat):Int:=if r<0 then -1 else if 0<r then 1 else 0
theorem zeD {x:List Rat}:(0:Rat)<(dn x:Rat):=Rat.natCast_pos.2 (ze0 x)
theorem zeE {p:List Int}{x:List Rat}(h:zeC (tms p (dn x) x))(h0:tms p (dn x) x=[]→sF p x=0):zeB (tms p (dn x) x)=sgQ (sF p x):=by
 have e1:=zey (dn x) p x (zez x);have e2:=(zew (p.zip (fcd (dn x) x))).2.2.1;have hp:=zeD (x:=x);unfold zeB sgQ;rcases h.cases with h1 | ⟨h1,h2⟩ | ⟨h1,h3,h2⟩
 ·rw [if_pos h1,h0 h1];decide
 ·rw [if_neg (by intro e;rw [e] at h2;simp [zep] at h2),if_pos (by omega)];have h4:(0:Rat)<((zep (tms p (dn x) x):Int):Rat):=Rat.intCast_pos.2 h2;unfold tms at h4;rw [e2,e1] at h4;have h5:0<sF p x:=by
   have:=Rat.mul_pos_iff_of_pos_left (b:=sF p x) hp;exact this.1 h4
  rw [if_neg (by grind),if_pos h5]
 ·rw [if_neg (by intro e;rw [e] at h2;simp [zep] at h2),if_neg (by omega)];have h4:((zep (tms p (dn x) x):Int):Rat)<0:=Rat.intCast_neg_iff.2 h2;unfold tms at h4;rw [e2,e1] at h4;have h5:sF p x<0:=by
   have:=Rat.mul_neg_iff_of_pos_left (b:=sF p x) hp;exact this.1 h4
  rw [if_pos h5]
def Bx (k:Int):List Rat→Prop
 | [a,b]=>∃ A B:Int,a=A∧b * 2=B∧-k≤B∧B≤k
 | [a,b,c]=>∃ A B C:Int,a=A∧b * 2=B∧c=C∧-k≤B∧B≤k∧-k≤2 * C∧2 * C≤k
 | _=>False
def Oc (n:Nat):List Rat→Prop
 | [a,b]=>b=0∧∃ A:Int,a * (n:Rat)=A
 | [a,b,c]=>b=0∧c=0∧∃ A:Int,a * (n:Rat)=A
 | _=>False
theorem zeF {a:Rat}{A:Int}(h:a=A):a.num=A∧a.den=1:=by subst h;exact ⟨rfl,rfl⟩
theorem zeG {b:Rat}{B:Int}(h:b * 2=B):(b.den=1∧b.num * 2=B)∨(b.den=2∧b.num=B):=by
 have h1:b.num * 2=B * b.den:=by
  have e2:b * (b.den:Rat)=(b.num:Rat):=by
   have h3:(b.den:Rat) ≠ 0:=by
    intro h;have:=Rat.natCast_inj.1 (show ((b.den:Nat):Rat)=((0:Nat):Rat) from h);have:=b.den_pos;omega
   have e:b=(b.num:Rat) / (b.den:Rat):=by
    have:=Rat.mkRat_eq_div b.num b.den;rw [Rat.mkRat_self] at this;exact this
   have:=Rat.div_mul_cancel (a:=(b.num:Rat)) h3;rw [← e] at this;exact this
  have:((b.num * 2:Int):Rat)=((B * (b.den:Int):Int):Rat):=by
   rw [Rat.intCast_mul,Rat.intCast_mul,← h,← e2,Rat.intCast_natCast];show b * (b.den:Rat) * 2=_;grind
  exact Rat.intCast_inj.1 this
 have hd:(b.den:Nat) ∣ 2:=by
  have hc:Nat.Coprime b.den b.num.natAbs:=b.reduced.symm;have:b.den ∣ b.num.natAbs * 2:=by
   have h2:=congrArg Int.natAbs h1;rw [Int.natAbs_mul,Int.natAbs_mul,Int.natAbs_natCast] at h2;exact ⟨B.natAbs,by rw [show (2:Int).natAbs=2 from rfl] at h2;rw [h2,Nat.mul_comm]⟩
  exact hc.dvd_of_dvd_mul_left this
 have hl:=Nat.le_of_dvd (by omega) hd;have hp:=b.den_pos;rcases (by omega:b.den=1∨b.den=2) with e | e
 ·left;exact ⟨e,by rw [e] at h1;omega⟩
 ·right;exact ⟨e,by rw [e] at h1;omega⟩
theorem zeH {m e A B c:Int}(hm:m * 2=A * 134217728+B * 106365032+c * 311643912)(hn:B ≠ 0∨c ≠ 0)(h1:-256≤B)(h2:B≤256)(h3:-128≤c)(h4:c≤128)(he:e * 2≤B.natAbs+2 * c.natAbs):e<m.natAbs:=by
 have hf:=zeA A B c h1 h2 h3 h4 hn;generalize A * 134217728+B * 106365032+c * 311643912=v at *;omega
theorem zeI {m e A B c:Int}(hm:m=A * 134217728+B * 106365032+c * 311643912)(hn:B ≠ 0∨c ≠ 0)(h1:-256≤B)(h2:B≤256)(h3:-128≤c)(h4:c≤128)(he:e≤B.natAbs+2 * c.natAbs):e<m.natAbs:=by
 have hf:=zeA A B c h1 h2 h3 h4 hn;generalize A * 134217728+B * 106365032+c * 311643912=v at *;omega
theorem zeJ (f g:Int):zeq [(2,f),(3,g)]=g.natAbs∧zep [(2,f),(3,g)]=f * 67108864+g * 106365032:=by
 simp [zeq,zep,lg]
theorem zeK (f g h:Int):zeq [(2,f),(3,g),(5,h)]=(g.natAbs:Int)+h.natAbs∧zep [(2,f),(3,g),(5,h)]=f * 67108864+g * 106365032+h * 155821956:=by
 simp [zeq,zep,lg];omega
def Pr (p:List Int)(n:Nat):Prop:=(p=[2,3]∧n=2)∨(p=[2,3,5]∧n=3)
theorem lgs : lg 2=67108864∧lg 3=106365032∧lg 5=155821956:=by decide
theorem zeL {p:List Int}{x:List Rat}{d:Nat}(h:zeC (p.zip (fcd d x))∨∀ e∈p.zip (fcd d x),e.2=0):zeC (tms p d x):=by
 obtain ⟨_,_,h3,h4⟩:=zew (p.zip (fcd d x));rcases h with h | h
 ·rcases h with h | h
  ·left;unfold tms;rw [h];rfl
  ·right;unfold tms;rw [h3,h4];exact h
 ·left;unfold tms;rw [List.filter_eq_nil_iff];intro e he;simp [h e he]
theorem zeM (A:Int):zeC [(2,A),(3,0)]∨∀ e∈[((2:Int),A),(3,0)],e.2=0:=by
 by_cases hA:A=0
 ·right;intro e he;simp at he;rcases he with rfl | rfl <;> simp [hA]
 ·left;right;rw [(zeJ _ _).1,(zeJ _ _).2];omega
theorem zeN (A:Int):zeC [(2,A),(3,0),(5,0)]∨∀ e∈[((2:Int),A),(3,0),(5,0)],e.2=0:=by
 by_cases hA:A=0
 ·right;intro e he;simp at he;rcases he with rfl | rfl | rfl <;> simp [hA]
 ·left;right;rw [(zeK _ _ _).1,(zeK _ _ _).2];omega
theorem zeO {p:List Int}{x:List Rat}(hp:Pr p x.length)(h:Bx 256 x):zeC (tms p (dn x) x):=by
 apply zeL;rcases hp with ⟨rfl,hl⟩ | ⟨rfl,hl⟩
 ·match x,hl,h with
  | [a,b],_,⟨A,B,ha,hb,h1,h2⟩ =>
   obtain ⟨ha1,ha2⟩:=zeF ha
   rcases zeG hb with ⟨hb1,hb2⟩ | ⟨hb1,hb2⟩
   ·have e:[(2:Int),3].zip (fcd (dn [a,b]) [a,b])=[(2,A),(3,b.num)]:=by
     simp [dn,fcd,ha1,ha2,hb1]
    rw [e]
    by_cases hB:B=0
    ·rw [show b.num=0 by omega];exact zeM A
    ·left;right
     rw [(zeJ _ _).1,(zeJ _ _).2]
     exact zeH (A:=A) (B:=B) (c:=0) (by omega) (.inl hB) h1 h2 (by omega) (by omega) (by omega)
   ·have e:[(2:Int),3].zip (fcd (dn [a,b]) [a,b])=[(2,A * 2),(3,B)]:=by
     simp [dn,fcd,ha1,ha2,hb1,hb2,Nat.lcm]
    rw [e]
    by_cases hB:B=0
    ·rw [hB];exact zeM _
    ·left;right
     rw [(zeJ _ _).1,(zeJ _ _).2]
     exact zeI (A:=A) (B:=B) (c:=0) (by omega) (.inl hB) h1 h2 (by omega) (by omega) (by omega)
 ·match x,hl,h with
  | [a,b,c],_,⟨A,B,C,ha,hb,hc,h1,h2,h3,h4⟩ =>
   obtain ⟨ha1,ha2⟩:=zeF ha
   obtain ⟨hc1,hc2⟩:=zeF hc
   rcases zeG hb with ⟨hb1,hb2⟩ | ⟨hb1,hb2⟩
   ·have e:[(2:Int),3,5].zip (fcd (dn [a,b,c]) [a,b,c])=[(2,A),(3,b.num),(5,C)]:=by
     simp [dn,fcd,ha1,ha2,hb1,hc1,hc2]
    rw [e]
    by_cases hB:B=0∧C=0
    ·rw [show b.num=0 by omega,hB.2];exact zeN _
    ·left;right
     rw [(zeK _ _ _).1,(zeK _ _ _).2]
     exact zeH (A:=A) (B:=B) (c:=C) (by omega) (by omega) h1 h2 (by omega) (by omega) (by omega)
   ·have e:[(2:Int),3,5].zip (fcd (dn [a,b,c]) [a,b,c])=[(2,A * 2),(3,B),(5,C * 2)]:=by
     simp [dn,fcd,ha1,ha2,hb1,hb2,hc1,hc2,Nat.lcm]
    rw [e]
    by_cases hB:B=0∧C=0
    ·rw [hB.1,hB.2];exact zeN _
    ·left;right
     rw [(zeK _ _ _).1,(zeK _ _ _).2]
     exact zeI (A:=A) (B:=B) (c:=C) (by omega) (by omega) h1 h2 (by omega) (by omega) (by omega)
theorem zeP {p:List Int}{x:List Rat}{n:Nat}(hp:Pr p x.length)(h:Oc n x):zeC (tms p (dn x) x):=by
 apply zeL;rcases hp with ⟨rfl,hl⟩ | ⟨rfl,hl⟩
 ·match x,hl,h with
  | [a,b],_,⟨hb,A,ha⟩ =>
   have e:[(2:Int),3].zip (fcd (dn [a,b]) [a,b])=[(2,a.num * ((dn [a,b] / a.den:Nat):Int)),(3,0)]:=by simp [fcd,hb]
   rw [e]
   exact zeM _
 ·match x,hl,h with
  | [a,b,c],_,⟨hb,hc,A,ha⟩ =>
   have e:[(2:Int),3,5].zip (fcd (dn [a,b,c]) [a,b,c])=[(2,a.num * ((dn [a,b,c] / a.den:Nat):Int)),(3,0),(5,0)]:=by simp [fcd,hb,hc]
   rw [e]
   exact zeN _
theorem zeQ {p:List Int}{x:List Rat}(hp:Pr p x.length)(h:tms p (dn x) x=[]):∀ r∈x,r=0:=by
 unfold tms at h;rw [List.filter_eq_nil_iff] at h;have key:∀ i (hi:i<x.length)(hi2:i<p.length),x[i]=0:=by
  intro i hi hi2;have hz:(p.zip (fcd (dn x) x))[i]?=some (p[i],x[i].num * ((dn x / x[i].den:Nat):Int)):=by
   rw [List.getElem?_zip_eq_some];exact ⟨by simp [hi2],by simp [fcd,hi]⟩
  have h2:=h _ (List.mem_of_getElem? hz);simp only [bne_iff_ne,ne_eq,Decidable.not_not] at h2;have hd:=zez x x[i] (List.getElem_mem hi);have h3:0<dn x / x[i].den:=Nat.div_pos (Nat.le_of_dvd (ze0 x) hd) x[i].den_pos;have h4:x[i].num=0:=by
   rcases Int.mul_eq_zero.1 h2 with g | g
   ·exact g
   ·omega
  exact Rat.num_eq_zero.1 h4
 intro r hr;obtain ⟨i,hi,rfl⟩:=List.getElem_of_mem hr;exact key i hi (by rcases hp with ⟨rfl,e⟩ | ⟨rfl,e⟩ <;> simp <;> omega)
theorem zeR : ∀ (p:List Int)(x:List Rat),(∀ r∈x,r=0)→sF p x=0
 | [],x,_=>by simp [sF]
 | _::_,[],_=>by simp [sF]
 | p::ps,r::x,h=>by
  rw [sF,zeR ps x fun s hs=>h s (List.mem_cons_of_mem _ hs),h r (List.mem_cons_self ..)];grind
def zeS (x:List Rat):Prop:=Bx 256 x∨∃ n,Oc n x
theorem zeT {p:List Int}{x:List Rat}(hp:Pr p x.length)(h:zeS x):zeC (tms p (dn x) x):=by
 rcases h with h | ⟨n,h⟩
 ·exact zeO hp h
 ·exact zeP hp h
theorem zeU {p:List Int}{x:List Rat}(hp:Pr p x.length)(h:zeS x):zeB (tms p (dn x) x)=sgQ (sF p x) :=
 zeE (zeT hp h) fun e=>zeR p x (zeQ hp e)
theorem zeV {p:List Int}{x:List Rat}(hp:Pr p x.length)(h:zeS x)(h0:sF p x=0):∀ r∈x,r=0:=by
 refine zeQ hp ?_;rcases zeT hp h with g | g
 ·exact g
 ·have e1:=zey (dn x) p x (zez x);have e2:=(zew (p.zip (fcd (dn x) x))).2.2.1;rw [h0] at e1;have e3:zep (p.zip (fcd (dn x) x))=0:=by
   have:((zep (p.zip (fcd (dn x) x)):Int):Rat)=((0:Int):Rat):=(by rw [e1];grind);exact Rat.intCast_inj.1 this
  have:=zev (tms p (dn x) x);unfold tms at g this;rw [e2,e3] at g;rw [e2,e3] at this;simp at g;omega
theorem zeW : ∀ {x y:List Rat},x.length=y.length→(∀ r∈ze2 x y,r=0)→x=y
 | [],[],_,_=>rfl
 | a::x,b::y,h,h0=>by
  have e1:=h0 (a - b) (by simp [ze2]);have e2:=zeW (x:=x) (y:=y) (by simpa using h) fun r hr=>h0 r (by simp only [ze2] at hr;simp only [ze2,List.zipWith_cons_cons,List.mem_cons];exact .inr hr);rw [e2,show a=b by grind]
theorem zeX {p:List Int}{x y:List Rat}(hp:Pr p x.length)(hl:x.length=y.length)(h:zeS (ze2 x y))(h0:sF p x=sF p y):x=y:=by
 refine zeW hl (zeV (p:=p) (by rwa [ze2,List.length_zipWith,← hl,Nat.min_self]) h ?_);rw [ze4 p x y hl,h0];grind
end
section
open Go.RowKit Go.Lib
def zeY (n:Int):Bool:=decide (2≤n∧n≤97) && (List.range 10).all fun d=>decide (d<2) || decide (n<(d * d:Nat)) || decide (n % (d:Int) ≠ 0)
theorem zeZ {n:Int}(h:¬ (2≤n∧n≤97)):zeY n=false:=by
 unfold zeY;rw [decide_eq_false h];rfl
theorem zfa {n:Int}{d:Nat}(h2:2≤d)(h3:(d * d:Nat)≤n)(h4:d<10)(h:n % (d:Int)=0):zeY n=false:=by
 unfold zeY;rw [Bool.and_eq_false_iff];refine .inr ?_;rw [List.all_eq_false];refine ⟨d,List.mem_range.2 h4,?_⟩;rw [decide_eq_false (p:=d<2) (by omega),decide_eq_false (p:=n<(d * d:Nat)) (by omega),decide_eq_false (p:=n % (d:Int) ≠ 0) (by simpa using h)];simp
theorem zfb {n:Int}{d:Nat}(h:2≤n∧n≤97)(h3:n<(d * d:Nat))(hd:∀ e:Nat,2≤e→e<d→n % (e:Int) ≠ 0):zeY n=true:=by
 unfold zeY;rw [decide_eq_true h,Bool.true_and,List.all_eq_true];intro e _;by_cases h1:e<2
 ·rw [decide_eq_true h1];simp
 ·by_cases h2:e<d
  ·rw [decide_eq_true (p:=n % (e:Int) ≠ 0) (hd e (by omega) h2)];simp
  ·have:d * d≤e * e:=Nat.mul_le_mul (by omega) (by omega);rw [decide_eq_true (p:=n<(e * e:Nat)) (by omega)];simp
theorem zfc (n:Int)(w:World) :
  Calls Tryz.prog 87 #[.int .i64 n] w fun e w'=>e=.returned (.bool (zeY n))∧w=w':=by
 by_cases h:2≤n∧n≤97
 ·obtain ⟨hA,hB⟩:=h;go_enter Tryz.func87,Tryz.ntmps87
  go_wp2
  go_loop [3] (fun v=>∃ d:Nat,v=.int .i64 d∧2≤d∧d≤10∧∀ e:Nat,2≤e→e<d→n % (e:Int) ≠ 0) (fun v=>10 - (zag v).toNat)
  case atStart=>exact ⟨2,rfl,by omega,by omega,fun e h1 h2=>by omega⟩
  case round =>
   obtain ⟨d,rfl,h2,h10,hd⟩:=hrel;have Hd:=hid hd;clear hd;have hdd:(d:Int) * d≤100:=(by rw [← Int.natCast_mul];have:=Nat.mul_le_mul h10 h10;omega);have hdd0:0≤(d:Int) * d:=(by rw [← Int.natCast_mul];omega);by_cases hle:(d:Int) * d≤n
   ·have h9:d≤9:=by
     refine Nat.le_of_not_lt fun hh=>?_;have:=Nat.mul_le_mul (show 10≤d by omega) (show 10≤d by omega);rw [← Int.natCast_mul] at hle;omega
    by_cases hz:n % (d:Int)=0
    ·have ht:(n % (d:Int) == 0)=true:=beq_iff_eq.2 hz;have hp:=zfa h2 (by rw [← Int.natCast_mul] at hle;omega) (by omega) hz;have Hp:=hid hp;clear hp hz;go_wp2
     go_ret
     exact ⟨by rw [Hp.out];rfl,rfl⟩
    ·have ht:(n % (d:Int) == 0)=false:=beq_eq_false_iff_ne.2 hz;have Hz:=hid hz;clear hz;go_wp2
     go_round
     case rel=>exact ⟨d+1,by go_num,by omega,by omega,fun e h3 h4=>by
      rcases Nat.lt_or_ge e d with g | g
      ·exact Hd.out e h3 g
      ·rw [show e=d by omega];exact Hz.out⟩
     case measure=>simp [zag];omega
   ·have hp:=zfb ⟨hA,hB⟩ (d:=d) (by rw [Int.natCast_mul];omega) Hd.out;have Hp:=hid hp;clear hp;go_wp2
    go_ret
    exact ⟨by rw [Hp.out];rfl,rfl⟩
 ·rw [zeZ h];rcases (by omega:n<2∨(2≤n∧97<n)) with g | ⟨g1,g2⟩
  ·clear h;go_enter Tryz.func87,Tryz.ntmps87
   go_wp2
   go_ret
   exact ⟨rfl,rfl⟩
  ·clear h;go_enter Tryz.func87,Tryz.ntmps87
   go_wp2
   go_ret
   exact ⟨rfl,rfl⟩
def zfd (p:List Int)(k:Nat):Nat→Int
 | 0=>0
 | f+1=>if !zeY (zan p k) then 25 else if 0<k∧zan p k≤zan p (k - 1) then 6 else zfd p (k+1) f
def zfe (p:List Int):Int:=if p.length=0 then 13 else if 6<p.length then 4 else zfd p 0 p.length
theorem zff (v:Value)(p:List Int)(w:World)(hv:Sl w v (zak p))(hl:p.length≤1000000) :
  Calls Tryz.prog 57 #[v] w fun e w'=>e=.returned (.int .i64 (zfe p))∧w=w':=by
 obtain ⟨a,cap,rfl,_,_,hc⟩:=hv.parts;rw [zam];have Hc:=hid hc;clear hc;unfold zfe;by_cases h0:p.length=0
 ·rw [if_pos h0];have ht:((p.length:Int) == 0)=true:=by rw [h0];rfl
  clear h0;go_enter Tryz.func57,Tryz.ntmps57
  go_wp2
  go_ret
  exact ⟨rfl,rfl⟩
 ·rw [if_neg h0];have ht:((p.length:Int) == 0)=false:=beq_eq_false_iff_ne.2 (by omega);by_cases h6:6<p.length
  ·rw [if_pos h6];clear h0;go_enter Tryz.func57,Tryz.ntmps57
   go_wp2
   go_ret
   exact ⟨rfl,rfl⟩
  ·rw [if_neg h6];clear h0;obtain ⟨r,hr⟩:∃ r,r=zfd p 0 p.length:=⟨_,rfl⟩;rw [← hr];have Hr:=hid hr;clear hr;go_enter Tryz.func57,Tryz.ntmps57
   go_wp2
   go_loop [15] (fun i=>∃ k:Nat,i=.int .i64 k∧k≤p.length∧r=zfd p k (p.length - k)) (fun i=>p.length - (zag i).toNat)
   case atStart=>exact ⟨0,rfl,Nat.zero_le _,Hr.out⟩
   case round =>
    obtain ⟨k,rfl,hk,hr⟩:=hrel;by_cases hlt:k<p.length
    ·obtain ⟨b,off,rfl,hcell⟩:=Hc.out k _ (zap hlt);have hf:p.length - k=(p.length - (k+1))+1:=(by omega);rw [hf,zfd] at hr;have hip:=zfc (zan p k) w;have Hip:=hid hip;clear hip hf;by_cases hpr:zeY (zan p k)=true
     ·rw [hpr] at Hip hr;rw [if_neg (by simp)] at hr;by_cases hk0:0<k
      ·obtain ⟨b2,off2,e2,hcell2⟩:=Hc.out (k - 1) _ (zap (show k - 1<p.length by omega));simp only [Option.some.injEq,Addr.mk.injEq,and_true] at e2;obtain ⟨rfl,rfl⟩:=e2;by_cases hle:zan p k≤zan p (k - 1)
       ·rw [if_pos ⟨hk0,hle⟩] at hr;have Hr2:=hid hr;clear hr hpr;generalize zan p k=x at *;generalize zan p (k - 1)=y at *;go_wp2_with fail
        refine Hip.out.mono ?_;rintro e w1 ⟨rfl,rfl⟩;go_wp2
        go_ret
        exact ⟨zbb Hr2.out.symm,rfl⟩
       ·rw [if_neg (fun hh=>hle hh.2)] at hr;have Hr2:=hid hr;clear hr hpr;generalize zan p k=x at *;generalize zan p (k - 1)=y at *;go_wp2_with fail
        refine Hip.out.mono ?_;rintro e w1 ⟨rfl,rfl⟩;go_wp2
        go_round
        case rel=>exact ⟨k+1,by go_num,by omega,Hr2.out⟩
        case measure=>simp [zag];omega
      ·rw [if_neg (fun hh=>hk0 hh.1)] at hr;have Hr2:=hid hr;clear hr hpr;generalize zan p k=x at *;go_wp2_with fail
       refine Hip.out.mono ?_;rintro e w1 ⟨rfl,rfl⟩;go_wp2
       go_round
       case rel=>exact ⟨k+1,by go_num,by omega,Hr2.out⟩
       case measure=>simp [zag];omega
     ·have hpf:zeY (zan p k)=false:=(by simpa using hpr);rw [hpf] at Hip hr;rw [if_pos (by simp)] at hr;have Hr2:=hid hr;clear hr hpr hpf;generalize zan p k=x at *;go_wp2_with fail
      refine Hip.out.mono ?_;rintro e w1 ⟨rfl,rfl⟩;go_wp2
      go_ret
      exact ⟨zbb Hr2.out.symm,rfl⟩
    ·have hr0:r=0:=(by rw [hr,show p.length - k=0 by omega,zfd]);have Hr2:=hid hr0;clear hr hr0;go_wp2
     go_ret
     exact ⟨zbb Hr2.out.symm,rfl⟩
theorem zfg (p:List Int):∀ (f k:Nat),zfd p k f=0→∀ i,k≤i→i<k+f→zeY (zan p i)=true
 | 0,k,_,i,h1,h2=>by omega
 | f+1,k,h,i,h1,h2=>by
  rw [zfd] at h;by_cases hp:zeY (zan p k)=true
  ·rw [if_neg (by rw [hp];simp)] at h;by_cases hk:0<k∧zan p k≤zan p (k - 1)
   ·rw [if_pos hk] at h;omega
   ·rw [if_neg hk] at h;rcases Nat.eq_or_lt_of_le h1 with e | e
    ·rw [← e];exact hp
    ·exact zfg p f (k+1) h i e (by omega)
  ·rw [if_pos (by simpa using hp)] at h;omega
theorem zfh {n:Int}(h:zeY n=true):2≤n∧n≤97:=by
 unfold zeY at h;rw [Bool.and_eq_true] at h;simpa using h.1
theorem zfi {p:List Int}(h:zfe p=0):0<p.length∧p.length≤6∧∀ i,i<p.length→2≤zan p i∧zan p i≤97:=by
 unfold zfe at h;by_cases h0:p.length=0
 ·rw [if_pos h0] at h;omega
 ·rw [if_neg h0] at h;by_cases h6:6<p.length
  ·rw [if_pos h6] at h;omega
  ·rw [if_neg h6] at h;exact ⟨by omega,by omega,fun i hi=>zfh (zfg p _ 0 h i (by omega) (by omega))⟩
theorem zfj : (Tryz.prog.info? 3).map (fun i=>(i.zero,i.size,i.bytes))=some (some (.int .i64 0),1,8):=by kernel_rfl
def zfk (w:World)(B:Nat)(v:Value)(l:List Int):Prop:=w.ownsRow B 3 1 v l.length (zak l)
theorem zfk.sl {w:World}{B:Nat}{v:Value}{l:List Int}(ho:zfk w B v l):Sl w v (zak l):=zai ho
theorem zfl {w:World}{B:Nat}{v:Value}{E s k:Nat}{xs:List Value}(h:w.ownsRow B E s v k xs):∃ a cap,v=.slice a k cap:=by
 rcases h.2 with ⟨rfl,rfl⟩ | ⟨g,cap,cur,rfl,_⟩ <;> exact ⟨_,_,rfl⟩
def Qu (w w':World):Prop:=∃ q,w'=w.drewN q
theorem Qu.refl (w:World):Qu w w:=⟨0,rfl⟩
theorem Qu.drewN {a w:World}(h:Qu a w)(n:Nat):Qu a (w.drewN n):=by
 obtain ⟨q,rfl⟩:=h;exact ⟨q+n,World.drewN_drewN ..⟩
theorem Qu.ext {w w':World}(h:Qu w w'):Ext w w':=by
 obtain ⟨q,rfl⟩:=h;exact (Ext.refl w).drewN q
theorem Qu.trans {a b c:World}(h:Qu a b)(k:Qu b c):Qu a c:=by
 obtain ⟨q,rfl⟩:=k;exact h.drewN q
theorem zfm {w:World}{B B' E E' s s' n n':Nat}{v u:Value}{xs ys:List Value}(h:w.ownsRow B E s v n xs)(k:w.ownsRow B' E' s' u n' ys)(hE:E ≠ E'):v.ownBlock=none∨v.ownBlock ≠ u.ownBlock:=by
 rcases h.2 with ⟨rfl,_⟩ | ⟨g,cap,cur,rfl,_,hg,_⟩
 ·exact .inl rfl
 ·rcases k.2 with ⟨rfl,_⟩ | ⟨g',cap',cur',rfl,_,hg',_⟩
  ·exact .inr (by simp [Value.ownBlock])
  ·refine .inr fun e=>?_;obtain rfl:g=g':=by simpa [Value.ownBlock] using e
   rw [hg] at hg';simp at hg';exact hE hg'.2
theorem zfn {w:World}{b k:Nat}{us:List Value}{t:TypeId}{u:Value}(h:w.heap[b]?=some (.cells us.toArray t (0,0)))(hu:us[k]?=some u):w.cell? ⟨b,k,none⟩=some u:=by
 unfold World.cell?;dsimp only;rw [h];simpa using hu
theorem zfo (a:World)(row:Option Nat):a.grownBy a row:=⟨rfl,rfl,rfl,Nat.le_refl _,fun _ _ _=>rfl⟩
theorem zfp {a w:World}{g:Nat}(h:a.grownBy w (some g)){p:Addr}(hp:p.block=g)(u:Value):a.grownBy (w.setCell p u) (some g) :=
 ⟨h.os,h.tape,h.output,by simpa [World.setCell] using h.size,fun i hi hne=>(Below.heap_setCell w p u i (by
  rintro rfl;exact hne (by rw [hp]))).trans (h.block i hi hne)⟩
theorem zfq {a w w':World}{row:Option Nat}(h:a.grownBy w row)(hx:Ext w w'):a.grownBy w' row :=
 ⟨hx.os.trans h.os,hx.tape.trans h.tape,hx.output.trans h.output,Nat.le_trans h.size hx.size,fun i hi hne=>(hx.block i (Nat.lt_of_lt_of_le hi h.size)).trans (h.block i hi hne)⟩
def rcs (x:List Rat):List Value:=x.flatMap rc
theorem zfr (r:Rat)(x:List Rat):rcs (r::x)=.string (I r.num)::.string (I (r.den:Int))::rcs x:=rfl
theorem zfs (x y:List Rat):rcs (x++y)=rcs x++rcs y:=by simp [rcs]
theorem zft (x:List Rat)(r:Rat):rcs (x++[r])=rcs x++[.string (I r.num),.string (I (r.den:Int))]:=by rw [zfs];rfl
theorem zfu (x:List Rat):(rcs x).length=2 * x.length:=by
 induction x with
 | nil=>rfl
 | cons r x ih=>rw [zfr,List.length_cons,List.length_cons,List.length_cons,ih];omega
theorem zfv {x:List Rat}{i:Nat}{r:Rat}(h:x[i]?=some r):(rcs x)[i * 2]?=some (.string (I r.num))∧(rcs x)[i * 2+1]?=some (.string (I (r.den:Int))):=by
 induction x generalizing i with
 | nil=>cases h
 | cons s x ih =>
  rw [zfr]
  cases i with
  | zero=>simp at h;subst h;exact ⟨rfl,rfl⟩
  | succ i =>
   have:=ih (i:=i) (by simpa using h)
   rw [show (i+1) * 2=i * 2+1+1 by omega]
   simpa using this
def Rd (w:World)(v:Value)(x:List Rat):Prop :=
 (∃ a cap,v=.slice a 0 cap∧cap≤maxLen∧x=[]) ∨
 ∃ b off cap,v=.slice (some ⟨b,off,none⟩) x.length cap∧x.length≤cap∧cap≤maxLen∧∀ i r,x[i]?=some r→w.cell? ⟨b,off+i * 2,none⟩=some (.string (I r.num))∧w.cell? ⟨b,off+i * 2+1,none⟩=some (.string (I (r.den:Int)))
theorem Ext.rd {w w':World}(h:Ext w w'){v:Value}{x:List Rat}(hs:Rd w v x):Rd w' v x:=by
 rcases hs with hn | ⟨b,off,cap,hv,h1,h2,hc⟩
 ·exact .inl hn
 ·exact .inr ⟨b,off,cap,hv,h1,h2,fun i r hr=>⟨h.cell (hc i r hr).1,h.cell (hc i r hr).2⟩⟩
theorem Rd.parts {w:World}{v:Value}{x:List Rat}(h:Rd w v x) :
  ∃ a cap,v=.slice a x.length cap∧cap≤maxLen∧x.length≤cap∧∀ i r,x[i]?=some r→∃ b off,a=some ⟨b,off,none⟩∧w.cell? ⟨b,off+i * 2,none⟩=some (.string (I r.num))∧w.cell? ⟨b,off+i * 2+1,none⟩=some (.string (I (r.den:Int))):=by
 rcases h with ⟨a,cap,rfl,hm,rfl⟩ | ⟨b,off,cap,hv,h1,h2,hc⟩
 ·exact ⟨a,cap,rfl,hm,by simp,fun i u hu=>by simp at hu⟩
 ·exact ⟨_,cap,hv,h2,h1,fun i r hr=>⟨b,off,rfl,hc i r hr⟩⟩
def zfw (w:World)(B:Nat)(v:Value)(x:List Rat):Prop:=w.ownsRow B 60 2 v x.length (rcs x)
theorem Ext.ownQ {w w':World}(h:Ext w w'){B:Nat}{v:Value}{x:List Rat}(ho:zfw w B v x):zfw w' B v x:=h.own ho
theorem zfw.mono {w:World}{B B':Nat}{v:Value}{x:List Rat}(ho:zfw w B v x)(hB:B'≤B):zfw w B' v x:=zah ho hB
theorem zfw.rd {w:World}{B:Nat}{v:Value}{x:List Rat}(ho:zfw w B v x):Rd w v x:=by
 rcases ho.2 with ⟨hv,hn⟩ | ⟨g,cap,cur,hv,hb,hg,h1,h2,h3,h4⟩
 ·exact .inl ⟨none,0,by rw [hv],Nat.zero_le _,List.eq_nil_of_length_eq_zero hn⟩
 ·have key:∀ j u,(rcs x)[j]?=some u→w.cell? ⟨g,j,none⟩=some u:=fun j u hu=>by
   have:=ho.cells (g:=g) (by rw [hv];rfl) j u hu;rwa [show ((⟨g,0,none⟩:Addr).add j)=⟨g,j,none⟩ by unfold Addr.add;split <;> simp_all] at this
  refine .inr ⟨g,0,cap,hv,by omega,h2,fun i r hr=>?_⟩;have:=zfv hr;exact ⟨by rw [Nat.zero_add];exact key _ _ this.1,by rw [Nat.zero_add];exact key _ _ this.2⟩
theorem zfx : (Tryz.prog.info? 60).map (fun i=>(i.zero,i.size,i.bytes))=some (some (.agg #[.string ByteArray.empty,.string ByteArray.empty]),2,32):=by kernel_rfl
theorem zfy : (Tryz.prog.info? 32).map (fun i=>(i.zero,i.size,i.bytes))=some (some (.slice none 0 0),1,24):=by kernel_rfl
structure Qw where
 x:List Rat
 u:Value
 hu:u.oneCell'=true
def qwc (rs:List Qw):List Value:=rs.map Qw.u
theorem zfz (rs:List Qw):(qwc rs).length=rs.length:=by simp [qwc]
def RdM (w:World)(v:Value)(rs:List Qw):Prop:=Sl w v (qwc rs)∧∀ r∈rs,Rd w r.u r.x
theorem Ext.rdM {w w':World}(h:Ext w w'){v:Value}{rs:List Qw}(k:RdM w v rs):RdM w' v rs:=⟨h.sl k.1,fun r hr=>h.rd (k.2 r hr)⟩
def QwM (w:World)(b B:Nat)(v:Value)(rs:List Qw):Prop:=w.ownsRow B 32 1 v rs.length (qwc rs)∧∀ r∈rs,zfw w b r.u r.x
theorem Ext.qwM {w w':World}(h:Ext w w'){b B:Nat}{v:Value}{rs:List Qw}(k:QwM w b B v rs):QwM w' b B v rs:=⟨h.own k.1,fun r hr=>h.ownQ (k.2 r hr)⟩
theorem QwM.rd {w:World}{b B:Nat}{v:Value}{rs:List Qw}(k:QwM w b B v rs):RdM w v rs:=⟨zai k.1,fun r hr=>(k.2 r hr).rd⟩
theorem QwM.mono {w:World}{b b' B B':Nat}{v:Value}{rs:List Qw}(k:QwM w b B v rs)(hb:b'≤b)(hB:B'≤B):QwM w b' B' v rs:=⟨zah k.1 hB,fun r hr=>(k.2 r hr).mono hb⟩
theorem zf0 {w:World}{v:Value}{x:List Rat}(h:Rd w v x):v.oneCell'=true:=by
 rcases h with ⟨a,cap,rfl,_⟩ | ⟨b,off,cap,rfl,_⟩ <;> simp [Value.oneCell']
end
end Go.Proofs.YtbkfhacmekbniaaGreatDoor
