/- Plain: sizes over 2.3 and 2.3.5 by a linear form of twenty-six bits; in the box no form comes near zero. Sizes in memory: slices of fractions (two cells an element), slices of sizes. -/
import Derived.Test.YtipjmpdndokdlaaGreatDoorPc08
import Derived.Test.YtipjmpdndokdlaaGreatDoorPc07
namespace Go.Proofs.YtipjmpdndokdlaaGreatDoor
/-- Twenty-six bits of the logarithms of 2, 3 and 5. -/
def lg (p : Int) : Int:=if p=2 then 67108864 else if p=3 then 106365032 else 155821956
def loP (p f : Int) : Int:=if p=2 then f * lg p else min (f * lg p) (f * (lg p+1))
def hiP (p f : Int) : Int:=if p=2 then f * lg p else max (f * lg p) (f * (lg p+1))
def lowT : List (Int × Int) → Int | [] => 0 | e::l => loP e.1 e.2+lowT l
def higT : List (Int × Int) → Int | [] => 0 | e::l => hiP e.1 e.2+higT l
def mainT : List (Int × Int) → Int | [] => 0 | e::l => e.2 * lg e.1+mainT l
def errT : List (Int × Int) → Int | [] => 0 | e::l => (if e.1=2 then 0 else (e.2.natAbs : Int))+errT l
theorem lowT_app (a b:List (Int × Int)):lowT (a++b)=lowT a+lowT b:=by
 induction a with
 | nil=>simp [lowT]
 | cons e a ih=>simp only [List.cons_append,lowT,ih];omega
theorem higT_app (a b:List (Int × Int)):higT (a++b)=higT a+higT b:=by
 induction a with
 | nil=>simp [higT]
 | cons e a ih=>simp only [List.cons_append,higT,ih];omega
theorem lo_bd (p f:Int):f * lg p - (if p=2 then 0 else (f.natAbs:Int))≤loP p f∧loP p f≤f * lg p∧f * lg p≤hiP p f∧hiP p f≤f * lg p+(if p=2 then 0 else (f.natAbs:Int)):=by
 unfold loP hiP
 by_cases h:p=2
 ·simp [h]
 ·rw [if_neg h,if_neg h,if_neg h]
  have:f * (lg p+1)=f * lg p+f:=by rw [Int.mul_add,Int.mul_one]
  rw [this]
  omega
theorem low_bd (l:List (Int × Int)):mainT l - errT l≤lowT l∧lowT l≤mainT l∧mainT l≤higT l∧higT l≤mainT l+errT l:=by
 induction l with
 | nil=>simp [mainT,errT,lowT,higT]
 | cons e l ih =>
  have:=lo_bd e.1 e.2
  simp only [mainT,errT,lowT,higT]
  omega
/-- The common denominator, and the numerators over it. -/
def dn (x : List Rat) : Nat:=x.foldl (fun d r => Nat.lcm d r.den) 1
def fcd (d : Nat) (x : List Rat) : List Int:=x.map fun r => r.num * ((d / r.den : Nat) : Int)
def tms (p : List Int) (d : Nat) (x : List Rat) : List (Int × Int):=(p.zip (fcd d x)).filter fun e => e.2 != 0
theorem drop0 (l:List (Int × Int)):lowT (l.filter fun e=>e.2 != 0)=lowT l∧higT (l.filter fun e=>e.2 != 0)=higT l∧mainT (l.filter fun e=>e.2 != 0)=mainT l∧errT (l.filter fun e=>e.2 != 0)=errT l:=by
 induction l with
 | nil=>simp
 | cons e l ih =>
  rw [List.filter_cons]
  by_cases h:e.2=0
  ·rw [if_neg (by simp [h])]
   simp only [lowT,higT,mainT,errT,h,ih,loP,hiP]
   simp
  ·rw [if_pos (by simp [h])]
   simp only [lowT,higT,mainT,errT,ih,and_self]
/-- The linear form that stands for a size. -/
def sF : List Int → List Rat → Rat
 | p::ps,r::x=>r * (lg p:Rat)+sF ps x
 | _,_=>0
theorem num_of_dvd {r:Rat}{d:Nat}(h:r.den ∣ d):((r.num * ((d / r.den:Nat):Int):Int):Rat)=(d:Rat) * r:=by
 obtain ⟨k,rfl⟩:=h
 have h0:0<r.den:=r.den_pos
 rw [Nat.mul_div_cancel_left _ h0]
 have e:r=(r.num:Rat) / (r.den:Rat):=by
  have:=Rat.mkRat_eq_div r.num r.den
  rw [Rat.mkRat_self] at this
  exact this
 have e2:r * (r.den:Rat)=(r.num:Rat):=by
  have h3:(r.den:Rat) ≠ 0:=by
   intro h
   have:=Rat.natCast_inj.1 (show ((r.den:Nat):Rat)=((0:Nat):Rat) from h)
   omega
  have:=Rat.div_mul_cancel (a:=(r.num:Rat)) h3
  rw [← e] at this
  exact this
 rw [Rat.intCast_mul,← e2,Rat.natCast_mul]
 show r * (r.den:Rat) * (((k:Nat):Int):Rat)=_
 rw [Rat.intCast_natCast]
 grind
theorem main_sF (d:Nat):∀ (p:List Int)(x:List Rat),(∀ r∈x,r.den ∣ d)→((mainT (p.zip (fcd d x)):Int):Rat)=(d:Rat) * sF p x
 | [],x,_=>by simp [fcd,mainT,sF]
 | _::_,[],_=>by simp [fcd,mainT,sF]
 | p::ps,r::x,h=>by
  have ih:=main_sF d ps x fun s hs=>h s (List.mem_cons_of_mem _ hs)
  have e:=num_of_dvd (h r (List.mem_cons_self ..))
  simp only [fcd] at ih
  simp only [fcd,List.map_cons,List.zip_cons_cons,mainT,sF]
  rw [Rat.intCast_add,ih,Rat.intCast_mul,e]
  grind
theorem dn_dvd (x:List Rat):∀ r∈x,r.den ∣ dn x:=by
 have key:∀ (l:List Rat)(d:Nat),d ∣ l.foldl (fun d r=>Nat.lcm d r.den) d∧∀ r∈l,r.den ∣ l.foldl (fun d r=>Nat.lcm d r.den) d:=by
  intro l
  induction l with
  | nil=>intro d;exact ⟨Nat.dvd_refl _,fun r h=>by cases h⟩
  | cons s l ih =>
   intro d
   have:=ih (Nat.lcm d s.den)
   simp only [List.foldl_cons]
   refine ⟨Nat.dvd_trans (Nat.dvd_lcm_left ..) this.1,fun r hr=>?_⟩
   rcases List.mem_cons.1 hr with rfl | hr
   ·exact Nat.dvd_trans (Nat.dvd_lcm_right ..) this.1
   ·exact this.2 r hr
 exact (key x 1).2
theorem dn_pos (x:List Rat):0<dn x:=by
 have key:∀ (l:List Rat)(d:Nat),0<d→0<l.foldl (fun d r=>Nat.lcm d r.den) d:=by
  intro l
  induction l with
  | nil=>intro d h;exact h
  | cons s l ih=>intro d h;exact ih _ (Nat.lcm_pos h s.den_pos)
 exact key x 1 (by omega)
def addZ (x y : List Rat) : List Rat:=List.zipWith (·+·) x y
def subZ (x y : List Rat) : List Rat:=List.zipWith (· - ·) x y
def mulZ (x : List Rat) (k : Rat) : List Rat:=x.map (· * k)
theorem sF_sub : ∀ (p:List Int)(x y:List Rat),x.length=y.length→sF p (subZ x y)=sF p x - sF p y
 | [],x,y,_=>by simp only [sF];grind
 | _::_,[],[],_=>by simp only [sF,subZ,List.zipWith_nil_left];grind
 | p::ps,a::x,b::y,h=>by
  have ih:=sF_sub ps x y (by simpa using h)
  simp only [subZ] at ih
  simp only [subZ,List.zipWith_cons_cons,sF,ih]
  grind
def tcert (u v : Nat) : Bool :=
 let t:=(u * 106365032+v * 311643912+123212800) % 134217728
 let th:=(u - 256)+(256 - u)+2 * ((v - 128)+(128 - v))
 (Nat.blt th t && Nat.blt (t+th) 134217728) || (Nat.beq u 256 && Nat.beq v 128)
def ck1 (u n : Nat) : Bool:=Nat.rec (motive:=fun _ => Bool) true (fun v ih => cond (tcert u v) ih false) n
def ck2 (n : Nat) : Bool:=Nat.rec (motive:=fun _ => Bool) true (fun u ih => cond (ck1 u 257) ih false) n
theorem cert : ck2 513=true:=by decide +kernel
theorem ck1_all (u n:Nat)(h:ck1 u n=true):∀ v,v<n→tcert u v=true:=by
 induction n with
 | zero=>intro v hv;omega
 | succ n ih =>
  have e:ck1 u (n+1)=cond (tcert u n) (ck1 u n) false:=rfl
  rw [e] at h
  intro v hv
  cases hc:tcert u n with
  | false=>rw [hc] at h;cases h
  | true =>
   rw [hc] at h
   rcases Nat.lt_or_ge v n with g | g
   ·exact ih h v g
   ·rw [show v=n by omega];exact hc
theorem ck2_all (m n:Nat)(hm:257=m)(h:ck2 n=true):∀ u,u<n→ck1 u m=true:=by
 induction n with
 | zero=>intro u hu;omega
 | succ n ih =>
  have e:ck2 (n+1)=cond (ck1 n 257) (ck2 n) false:=rfl
  rw [e,hm] at h
  intro u hu
  cases hc:ck1 n m with
  | false=>rw [hc] at h;cases h
  | true =>
   rw [hc] at h
   rcases Nat.lt_or_ge u n with g | g
   ·exact ih h u g
   ·rw [show u=n by omega];exact hc
theorem far_of {w q t th:Int}(hw:w=134217728 * q+t)(h1:th<t)(h2:t+th<134217728):th<w.natAbs:=by
 by_cases h:q<0 <;> omega
/-- Within the box no form comes near zero. -/
theorem box_far (A B c:Int)(h1:-256≤B)(h2:B≤256)(h3:-128≤c)(h4:c≤128)(hn:B ≠ 0∨c ≠ 0) :
  (B.natAbs:Int)+2 * (c.natAbs:Int)<(A * 134217728+B * 106365032+c * 311643912).natAbs:=by
 obtain ⟨m,hm⟩:∃ m:Nat,257=m:=⟨_,rfl⟩
 obtain ⟨n,hn2⟩:∃ n:Nat,513=n:=⟨_,rfl⟩
 have hce:=cert
 rw [hn2] at hce
 obtain ⟨u,hu⟩:∃ u:Nat,(u:Int)=B+256:=⟨(B+256).toNat,by omega⟩
 obtain ⟨v,hv⟩:∃ v:Nat,(v:Int)=c+128:=⟨(c+128).toNat,by omega⟩
 have hc:=ck1_all _ _ (ck2_all m n hm hce u (by omega)) v (by omega)
 unfold tcert at hc
 simp only [Bool.or_eq_true,Bool.and_eq_true,Nat.blt_eq] at hc
 rcases hc with ⟨h5,h6⟩ | ⟨h5,h6⟩
 ·refine far_of (q:=A - 501+((u * 106365032+v * 311643912+123212800) / 134217728:Nat)) (t:=((u * 106365032+v * 311643912+123212800) % 134217728:Nat)) ?_ ?_ ?_
  ·omega
  ·omega
  ·omega
 ·have:=Nat.eq_of_beq_eq_true h5
  have:=Nat.eq_of_beq_eq_true h6
  omega
/-- The sign as the program finds it. -/
def sgnT (l : List (Int × Int)) : Int:=if l=[] then 0 else if 0≤lowT l then 1 else -1
/-- A few bits decide. -/
def Fair (l : List (Int × Int)) : Prop:=l=[]∨errT l<(mainT l).natAbs
theorem Fair.cases {l:List (Int × Int)}(h:Fair l):l=[]∨(0<lowT l∧0<mainT l)∨(lowT l<0∧higT l<0∧mainT l<0):=by
 rcases h with h | h
 ·exact .inl h
 ·have:=low_bd l
  by_cases g:0<mainT l
  ·exact .inr (.inl ⟨by omega,g⟩)
  ·exact .inr (.inr ⟨by omega,by omega,by omega⟩)
def sgQ (r : Rat) : Int:=if r<0 then -1 else if 0<r then 1 else 0
theorem pos_den {x:List Rat}:(0:Rat)<(dn x:Rat):=Rat.natCast_pos.2 (dn_pos x)
theorem sgn_eq {p:List Int}{x:List Rat}(h:Fair (tms p (dn x) x))(h0:tms p (dn x) x=[]→sF p x=0):sgnT (tms p (dn x) x)=sgQ (sF p x):=by
 have e1:=main_sF (dn x) p x (dn_dvd x)
 have e2:=(drop0 (p.zip (fcd (dn x) x))).2.2.1
 have hp:=pos_den (x:=x)
 unfold sgnT sgQ
 rcases h.cases with h1 | ⟨h1,h2⟩ | ⟨h1,h3,h2⟩
 ·rw [if_pos h1,h0 h1];decide
 ·rw [if_neg (by intro e;rw [e] at h2;simp [mainT] at h2),if_pos (by omega)]
  have h4:(0:Rat)<((mainT (tms p (dn x) x):Int):Rat):=Rat.intCast_pos.2 h2
  unfold tms at h4
  rw [e2,e1] at h4
  have h5:0<sF p x:=by
   have:=Rat.mul_pos_iff_of_pos_left (b:=sF p x) hp
   exact this.1 h4
  rw [if_neg (by grind),if_pos h5]
 ·rw [if_neg (by intro e;rw [e] at h2;simp [mainT] at h2),if_neg (by omega)]
  have h4:((mainT (tms p (dn x) x):Int):Rat)<0:=Rat.intCast_neg_iff.2 h2
  unfold tms at h4
  rw [e2,e1] at h4
  have h5:sF p x<0:=by
   have:=Rat.mul_neg_iff_of_pos_left (b:=sF p x) hp
   exact this.1 h4
  rw [if_pos h5]
/-- A size over 2.3 or 2.3.5 in the box, in half units. -/
def Bx (k : Int) : List Rat → Prop
 | [a,b]=>∃ A B:Int,a=A∧b * 2=B∧-k≤B∧B≤k
 | [a,b,c]=>∃ A B C:Int,a=A∧b * 2=B∧c=C∧-k≤B∧B≤k∧-k≤2 * C∧2 * C≤k
 | _=>False
/-- A part of the octave. -/
def Oc (n : Nat) : List Rat → Prop
 | [a,b]=>b=0∧∃ A:Int,a * (n:Rat)=A
 | [a,b,c]=>b=0∧c=0∧∃ A:Int,a * (n:Rat)=A
 | _=>False
theorem int_den {a:Rat}{A:Int}(h:a=A):a.num=A∧a.den=1:=by subst h;exact ⟨rfl,rfl⟩
theorem half_den {b:Rat}{B:Int}(h:b * 2=B):(b.den=1∧b.num * 2=B)∨(b.den=2∧b.num=B):=by
 have h1:b.num * 2=B * b.den:=by
  have e2:b * (b.den:Rat)=(b.num:Rat):=by
   have h3:(b.den:Rat) ≠ 0:=by
    intro h
    have:=Rat.natCast_inj.1 (show ((b.den:Nat):Rat)=((0:Nat):Rat) from h)
    have:=b.den_pos
    omega
   have e:b=(b.num:Rat) / (b.den:Rat):=by
    have:=Rat.mkRat_eq_div b.num b.den
    rw [Rat.mkRat_self] at this
    exact this
   have:=Rat.div_mul_cancel (a:=(b.num:Rat)) h3
   rw [← e] at this
   exact this
  have:((b.num * 2:Int):Rat)=((B * (b.den:Int):Int):Rat):=by
   rw [Rat.intCast_mul,Rat.intCast_mul,← h,← e2,Rat.intCast_natCast]
   show b * (b.den:Rat) * 2=_
   grind
  exact Rat.intCast_inj.1 this
 have hd:(b.den:Nat) ∣ 2:=by
  have hc:Nat.Coprime b.den b.num.natAbs:=b.reduced.symm
  have:b.den ∣ b.num.natAbs * 2:=by
   have h2:=congrArg Int.natAbs h1
   rw [Int.natAbs_mul,Int.natAbs_mul,Int.natAbs_natCast] at h2
   exact ⟨B.natAbs,by rw [show (2:Int).natAbs=2 from rfl] at h2;rw [h2,Nat.mul_comm]⟩
  exact hc.dvd_of_dvd_mul_left this
 have hl:=Nat.le_of_dvd (by omega) hd
 have hp:=b.den_pos
 rcases (by omega:b.den=1∨b.den=2) with e | e
 ·left;exact ⟨e,by rw [e] at h1;omega⟩
 ·right;exact ⟨e,by rw [e] at h1;omega⟩
theorem fair1 {m e A B c:Int}(hm:m * 2=A * 134217728+B * 106365032+c * 311643912)(hn:B ≠ 0∨c ≠ 0)(h1:-256≤B)(h2:B≤256)(h3:-128≤c)(h4:c≤128)(he:e * 2≤B.natAbs+2 * c.natAbs):e<m.natAbs:=by
 have hf:=box_far A B c h1 h2 h3 h4 hn
 generalize A * 134217728+B * 106365032+c * 311643912=v at *
 omega
theorem fair2 {m e A B c:Int}(hm:m=A * 134217728+B * 106365032+c * 311643912)(hn:B ≠ 0∨c ≠ 0)(h1:-256≤B)(h2:B≤256)(h3:-128≤c)(h4:c≤128)(he:e≤B.natAbs+2 * c.natAbs):e<m.natAbs:=by
 have hf:=box_far A B c h1 h2 h3 h4 hn
 generalize A * 134217728+B * 106365032+c * 311643912=v at *
 omega
theorem two_err (f g:Int):errT [(2,f),(3,g)]=g.natAbs∧mainT [(2,f),(3,g)]=f * 67108864+g * 106365032:=by
 simp [errT,mainT,lg]
theorem three_err (f g h:Int):errT [(2,f),(3,g),(5,h)]=(g.natAbs:Int)+h.natAbs∧mainT [(2,f),(3,g),(5,h)]=f * 67108864+g * 106365032+h * 155821956:=by
 simp [errT,mainT,lg];omega
def Pr (p : List Int) (n : Nat) : Prop:=(p=[2,3] ∧ n=2)∨(p=[2,3,5] ∧ n=3)
theorem lgs : lg 2=67108864∧lg 3=106365032∧lg 5=155821956:=by decide
theorem fair_tms {p:List Int}{x:List Rat}{d:Nat}(h:Fair (p.zip (fcd d x))∨∀ e∈p.zip (fcd d x),e.2=0):Fair (tms p d x):=by
 obtain ⟨_,_,h3,h4⟩:=drop0 (p.zip (fcd d x))
 rcases h with h | h
 ·rcases h with h | h
  ·left;unfold tms;rw [h];rfl
  ·right;unfold tms;rw [h3,h4];exact h
 ·left
  unfold tms
  rw [List.filter_eq_nil_iff]
  intro e he
  simp [h e he]
theorem oct_fair2 (A:Int):Fair [(2,A),(3,0)]∨∀ e∈[((2:Int),A),(3,0)],e.2=0:=by
 by_cases hA:A=0
 ·right;intro e he;simp at he;rcases he with rfl | rfl <;> simp [hA]
 ·left;right;rw [(two_err _ _).1,(two_err _ _).2];omega
theorem oct_fair3 (A:Int):Fair [(2,A),(3,0),(5,0)]∨∀ e∈[((2:Int),A),(3,0),(5,0)],e.2=0:=by
 by_cases hA:A=0
 ·right;intro e he;simp at he;rcases he with rfl | rfl | rfl <;> simp [hA]
 ·left;right;rw [(three_err _ _ _).1,(three_err _ _ _).2];omega
theorem bx_fair {p:List Int}{x:List Rat}(hp:Pr p x.length)(h:Bx 256 x):Fair (tms p (dn x) x):=by
 apply fair_tms
 rcases hp with ⟨rfl,hl⟩ | ⟨rfl,hl⟩
 ·match x,hl,h with
  | [a,b],_,⟨A,B,ha,hb,h1,h2⟩ =>
   obtain ⟨ha1,ha2⟩:=int_den ha
   rcases half_den hb with ⟨hb1,hb2⟩ | ⟨hb1,hb2⟩
   ·have e:[(2:Int),3].zip (fcd (dn [a,b]) [a,b])=[(2,A),(3,b.num)]:=by
     simp [dn,fcd,ha1,ha2,hb1]
    rw [e]
    by_cases hB:B=0
    ·rw [show b.num=0 by omega];exact oct_fair2 A
    ·left;right
     rw [(two_err _ _).1,(two_err _ _).2]
     exact fair1 (A:=A) (B:=B) (c:=0) (by omega) (.inl hB) h1 h2 (by omega) (by omega) (by omega)
   ·have e:[(2:Int),3].zip (fcd (dn [a,b]) [a,b])=[(2,A * 2),(3,B)]:=by
     simp [dn,fcd,ha1,ha2,hb1,hb2,Nat.lcm]
    rw [e]
    by_cases hB:B=0
    ·rw [hB];exact oct_fair2 _
    ·left;right
     rw [(two_err _ _).1,(two_err _ _).2]
     exact fair2 (A:=A) (B:=B) (c:=0) (by omega) (.inl hB) h1 h2 (by omega) (by omega) (by omega)
 ·match x,hl,h with
  | [a,b,c],_,⟨A,B,C,ha,hb,hc,h1,h2,h3,h4⟩ =>
   obtain ⟨ha1,ha2⟩:=int_den ha
   obtain ⟨hc1,hc2⟩:=int_den hc
   rcases half_den hb with ⟨hb1,hb2⟩ | ⟨hb1,hb2⟩
   ·have e:[(2:Int),3,5].zip (fcd (dn [a,b,c]) [a,b,c])=[(2,A),(3,b.num),(5,C)]:=by
     simp [dn,fcd,ha1,ha2,hb1,hc1,hc2]
    rw [e]
    by_cases hB:B=0∧C=0
    ·rw [show b.num=0 by omega,hB.2];exact oct_fair3 _
    ·left;right
     rw [(three_err _ _ _).1,(three_err _ _ _).2]
     exact fair1 (A:=A) (B:=B) (c:=C) (by omega) (by omega) h1 h2 (by omega) (by omega) (by omega)
   ·have e:[(2:Int),3,5].zip (fcd (dn [a,b,c]) [a,b,c])=[(2,A * 2),(3,B),(5,C * 2)]:=by
     simp [dn,fcd,ha1,ha2,hb1,hb2,hc1,hc2,Nat.lcm]
    rw [e]
    by_cases hB:B=0∧C=0
    ·rw [hB.1,hB.2];exact oct_fair3 _
    ·left;right
     rw [(three_err _ _ _).1,(three_err _ _ _).2]
     exact fair2 (A:=A) (B:=B) (c:=C) (by omega) (by omega) h1 h2 (by omega) (by omega) (by omega)
theorem oc_fair {p:List Int}{x:List Rat}{n:Nat}(hp:Pr p x.length)(h:Oc n x):Fair (tms p (dn x) x):=by
 apply fair_tms
 rcases hp with ⟨rfl,hl⟩ | ⟨rfl,hl⟩
 ·match x,hl,h with
  | [a,b],_,⟨hb,A,ha⟩ =>
   have e:[(2:Int),3].zip (fcd (dn [a,b]) [a,b])=[(2,a.num * ((dn [a,b] / a.den:Nat):Int)),(3,0)]:=by simp [fcd,hb]
   rw [e]
   exact oct_fair2 _
 ·match x,hl,h with
  | [a,b,c],_,⟨hb,hc,A,ha⟩ =>
   have e:[(2:Int),3,5].zip (fcd (dn [a,b,c]) [a,b,c])=[(2,a.num * ((dn [a,b,c] / a.den:Nat):Int)),(3,0),(5,0)]:=by simp [fcd,hb,hc]
   rw [e]
   exact oct_fair3 _
theorem tms_zero {p:List Int}{x:List Rat}(hp:Pr p x.length)(h:tms p (dn x) x=[]):∀ r∈x,r=0:=by
 unfold tms at h
 rw [List.filter_eq_nil_iff] at h
 have key:∀ i (hi:i<x.length)(hi2:i<p.length),x[i]=0:=by
  intro i hi hi2
  have hz:(p.zip (fcd (dn x) x))[i]?=some (p[i],x[i].num * ((dn x / x[i].den:Nat):Int)):=by
   rw [List.getElem?_zip_eq_some]
   exact ⟨by simp [hi2],by simp [fcd,hi]⟩
  have h2:=h _ (List.mem_of_getElem? hz)
  simp only [bne_iff_ne,ne_eq,Decidable.not_not] at h2
  have hd:=dn_dvd x x[i] (List.getElem_mem hi)
  have h3:0<dn x / x[i].den:=Nat.div_pos (Nat.le_of_dvd (dn_pos x) hd) x[i].den_pos
  have h4:x[i].num=0:=by
   rcases Int.mul_eq_zero.1 h2 with g | g
   ·exact g
   ·omega
  exact Rat.num_eq_zero.1 h4
 intro r hr
 obtain ⟨i,hi,rfl⟩:=List.getElem_of_mem hr
 exact key i hi (by rcases hp with ⟨rfl,e⟩ | ⟨rfl,e⟩ <;> simp <;> omega)
theorem sF_zero : ∀ (p:List Int)(x:List Rat),(∀ r∈x,r=0)→sF p x=0
 | [],x,_=>by simp [sF]
 | _::_,[],_=>by simp [sF]
 | p::ps,r::x,h=>by
  rw [sF,sF_zero ps x fun s hs=>h s (List.mem_cons_of_mem _ hs),h r (List.mem_cons_self ..)]
  grind
/-- What stands in the box, or is a part of the octave. -/
def Nice1 (x : List Rat) : Prop:=Bx 256 x∨∃ n,Oc n x
theorem nice_fair {p:List Int}{x:List Rat}(hp:Pr p x.length)(h:Nice1 x):Fair (tms p (dn x) x):=by
 rcases h with h | ⟨n,h⟩
 ·exact bx_fair hp h
 ·exact oc_fair hp h
theorem nice_sgn {p:List Int}{x:List Rat}(hp:Pr p x.length)(h:Nice1 x):sgnT (tms p (dn x) x)=sgQ (sF p x) :=
 sgn_eq (nice_fair hp h) fun e=>sF_zero p x (tms_zero hp e)
theorem nice_zero {p:List Int}{x:List Rat}(hp:Pr p x.length)(h:Nice1 x)(h0:sF p x=0):∀ r∈x,r=0:=by
 refine tms_zero hp ?_
 rcases nice_fair hp h with g | g
 ·exact g
 ·have e1:=main_sF (dn x) p x (dn_dvd x)
  have e2:=(drop0 (p.zip (fcd (dn x) x))).2.2.1
  rw [h0] at e1
  have e3:mainT (p.zip (fcd (dn x) x))=0:=by
   have:((mainT (p.zip (fcd (dn x) x)):Int):Rat)=((0:Int):Rat):=by rw [e1];grind
   exact Rat.intCast_inj.1 this
  have:=low_bd (tms p (dn x) x)
  unfold tms at g this
  rw [e2,e3] at g
  rw [e2,e3] at this
  simp at g
  omega
theorem subZ_zero : ∀ {x y:List Rat},x.length=y.length→(∀ r∈subZ x y,r=0)→x=y
 | [],[],_,_=>rfl
 | a::x,b::y,h,h0=>by
  have e1:=h0 (a - b) (by simp [subZ])
  have e2:=subZ_zero (x:=x) (y:=y) (by simpa using h) fun r hr=>h0 r (by simp only [subZ] at hr;simp only [subZ,List.zipWith_cons_cons,List.mem_cons];exact .inr hr)
  rw [e2,show a=b by grind]
theorem nice_inj {p:List Int}{x y:List Rat}(hp:Pr p x.length)(hl:x.length=y.length)(h:Nice1 (subZ x y))(h0:sF p x=sF p y):x=y:=by
 refine subZ_zero hl (nice_zero (p:=p) (by rwa [subZ,List.length_zipWith,← hl,Nat.min_self]) h ?_)
 rw [sF_sub p x y hl,h0]
 grind
/-- Differences in the box. -/
theorem bx_sub {k l:Int}{x y:List Rat}(hx:Bx k x)(hy:Bx l y)(hl:x.length=y.length):Bx (k+l) (subZ x y):=by
 match x,y,hx,hy,hl with
 | [a,b],[a',b'],⟨A,B,h1,h2,h3,h4⟩,⟨A',B',g1,g2,g3,g4⟩,_ =>
  exact ⟨A - A',B - B',by rw [Rat.intCast_sub,← h1,← g1],by rw [Rat.intCast_sub,← h2,← g2];grind,by omega,by omega⟩
 | [a,b,c],[a',b',c'],⟨A,B,C,h1,h2,h5,h3,h4,h6,h7⟩,⟨A',B',C',g1,g2,g5,g3,g4,g6,g7⟩,_ =>
  exact ⟨A - A',B - B',C - C',by rw [Rat.intCast_sub,← h1,← g1],by rw [Rat.intCast_sub,← h2,← g2];grind,by rw [Rat.intCast_sub,← h5,← g5],by omega,by omega,by omega,by omega⟩
theorem bx_mono {k l:Int}{x:List Rat}(h:Bx k x)(hk:k≤l):Bx l x:=by
 match x,h with
 | [a,b],⟨A,B,h1,h2,h3,h4⟩=>exact ⟨A,B,h1,h2,by omega,by omega⟩
 | [a,b,c],⟨A,B,C,h1,h2,h5,h3,h4,h6,h7⟩=>exact ⟨A,B,C,h1,h2,h5,by omega,by omega,by omega,by omega⟩
theorem oc_sub {n:Nat}{x y:List Rat}(hx:Oc n x)(hy:Oc n y)(hl:x.length=y.length):Oc n (subZ x y):=by
 match x,y,hx,hy,hl with
 | [a,b],[a',b'],⟨h1,A,h2⟩,⟨g1,A',g2⟩,_=>exact ⟨by grind,A - A',by rw [Rat.intCast_sub,← h2,← g2];grind⟩
 | [a,b,c],[a',b',c'],⟨h1,h3,A,h2⟩,⟨g1,g3,A',g2⟩,_=>exact ⟨by grind,by grind,A - A',by rw [Rat.intCast_sub,← h2,← g2];grind⟩
end Go.Proofs.YtipjmpdndokdlaaGreatDoor

namespace Go.Proofs.YtipjmpdndokdlaaGreatDoor
open Go.RowKit Go.Lib
def rcs (x : List Rat) : List Value:=x.flatMap rc
theorem rcs_cons (r:Rat)(x:List Rat):rcs (r::x)=.string (I r.num)::.string (I (r.den:Int))::rcs x:=rfl
theorem rcs_app (x y:List Rat):rcs (x++y)=rcs x++rcs y:=by simp [rcs]
theorem rcs_snoc (x:List Rat)(r:Rat):rcs (x++[r])=rcs x++[.string (I r.num),.string (I (r.den:Int))]:=by rw [rcs_app];rfl
theorem rcs_length (x:List Rat):(rcs x).length=2 * x.length:=by
 induction x with
 | nil=>rfl
 | cons r x ih=>rw [rcs_cons,List.length_cons,List.length_cons,List.length_cons,ih];omega
theorem rcs_at {x:List Rat}{i:Nat}{r:Rat}(h:x[i]?=some r):(rcs x)[i * 2]?=some (.string (I r.num))∧(rcs x)[i * 2+1]?=some (.string (I (r.den:Int))):=by
 induction x generalizing i with
 | nil=>cases h
 | cons s x ih =>
  rw [rcs_cons]
  cases i with
  | zero=>simp at h;subst h;exact ⟨rfl,rfl⟩
  | succ i =>
   have:=ih (i:=i) (by simpa using h)
   rw [show (i+1) * 2=i * 2+1+1 by omega]
   simpa using this
/-- A slice of fractions reads as a list of them. -/
def Rd (w : World) (v : Value) (x : List Rat) : Prop :=
 (∃ a cap,v=.slice a 0 cap∧cap≤maxLen∧x=[]) ∨
 ∃ b off cap,v=.slice (some ⟨b,off,none⟩) x.length cap∧x.length≤cap∧cap≤maxLen∧∀ i r,x[i]?=some r→w.cell? ⟨b,off+i * 2,none⟩=some (.string (I r.num))∧w.cell? ⟨b,off+i * 2+1,none⟩=some (.string (I (r.den:Int)))
theorem Ext.rd {w w':World}(h:Ext w w'){v:Value}{x:List Rat}(hs:Rd w v x):Rd w' v x:=by
 rcases hs with hn | ⟨b,off,cap,hv,h1,h2,hc⟩
 ·exact .inl hn
 ·exact .inr ⟨b,off,cap,hv,h1,h2,fun i r hr=>⟨h.cell (hc i r hr).1,h.cell (hc i r hr).2⟩⟩
theorem Rd.parts {w:World}{v:Value}{x:List Rat}(h:Rd w v x) :
  ∃ a cap,v=.slice a x.length cap∧cap≤maxLen∧x.length≤cap∧∀ i r,x[i]?=some r→∃ b off,a=some ⟨b,off,none⟩∧w.cell? ⟨b,off+i * 2,none⟩=some (.string (I r.num))∧w.cell? ⟨b,off+i * 2+1,none⟩=some (.string (I (r.den:Int))):=by
 rcases h with ⟨a,cap,rfl,hm,rfl⟩ | ⟨b,off,cap,hv,h1,h2,hc⟩
 ·exact ⟨a,cap,rfl,hm,by simp,fun i u hu=>by simp at hu⟩
 ·exact ⟨_,cap,hv,h2,h1,fun i r hr=>⟨b,off,rfl,hc i r hr⟩⟩
/-- A slice of fractions that a call made. -/
def OwnQ (w : World) (B : Nat) (v : Value) (x : List Rat) : Prop:=w.ownsRow B 27 2 v x.length (rcs x)
theorem Ext.ownQ {w w':World}(h:Ext w w'){B:Nat}{v:Value}{x:List Rat}(ho:OwnQ w B v x):OwnQ w' B v x:=h.own ho
theorem OwnQ.mono {w:World}{B B':Nat}{v:Value}{x:List Rat}(ho:OwnQ w B v x)(hB:B'≤B):OwnQ w B' v x:=own_mono ho hB
theorem OwnQ.rd {w:World}{B:Nat}{v:Value}{x:List Rat}(ho:OwnQ w B v x):Rd w v x:=by
 rcases ho.2 with ⟨hv,hn⟩ | ⟨g,cap,cur,hv,hb,hg,h1,h2,h3,h4⟩
 ·exact .inl ⟨none,0,by rw [hv],Nat.zero_le _,List.eq_nil_of_length_eq_zero hn⟩
 ·have key:∀ j u,(rcs x)[j]?=some u→w.cell? ⟨g,j,none⟩=some u:=fun j u hu=>by
   have:=ho.cells (g:=g) (by rw [hv];rfl) j u hu
   rwa [show ((⟨g,0,none⟩:Addr).add j)=⟨g,j,none⟩ by unfold Addr.add;split <;> simp_all] at this
  refine .inr ⟨g,0,cap,hv,by omega,h2,fun i r hr=>?_⟩
  have:=rcs_at hr
  exact ⟨by rw [Nat.zero_add];exact key _ _ this.1,by rw [Nat.zero_add];exact key _ _ this.2⟩
theorem info_rat : (Tryz.prog.info? 27).map (fun i=>(i.zero,i.size,i.bytes))=some (some (.agg #[.string ByteArray.empty,.string ByteArray.empty]),2,32):=by kernel_rfl
theorem info_size : (Tryz.prog.info? 37).map (fun i=>(i.zero,i.size,i.bytes))=some (some (.slice none 0 0),1,24):=by kernel_rfl
/-- A size with the slice that holds it. -/
structure Qw where
 x:List Rat
 u:Value
 hu:u.oneCell'=true
def qwc (rs : List Qw) : List Value:=rs.map Qw.u
theorem qwc_length (rs:List Qw):(qwc rs).length=rs.length:=by simp [qwc]
/-- A list of sizes that reads. -/
def RdM (w : World) (v : Value) (rs : List Qw) : Prop:=Sl w v (qwc rs) ∧ ∀ r∈rs,Rd w r.u r.x
theorem Ext.rdM {w w':World}(h:Ext w w'){v:Value}{rs:List Qw}(k:RdM w v rs):RdM w' v rs:=⟨h.sl k.1,fun r hr=>h.rd (k.2 r hr)⟩
/-- A list of sizes that a call made. -/
def QwM (w : World) (b B : Nat) (v : Value) (rs : List Qw) : Prop:=w.ownsRow B 37 1 v rs.length (qwc rs) ∧ ∀ r∈rs,OwnQ w b r.u r.x
theorem Ext.qwM {w w':World}(h:Ext w w'){b B:Nat}{v:Value}{rs:List Qw}(k:QwM w b B v rs):QwM w' b B v rs:=⟨h.own k.1,fun r hr=>h.ownQ (k.2 r hr)⟩
theorem QwM.rd {w:World}{b B:Nat}{v:Value}{rs:List Qw}(k:QwM w b B v rs):RdM w v rs:=⟨sl_own k.1,fun r hr=>(k.2 r hr).rd⟩
theorem QwM.mono {w:World}{b b' B B':Nat}{v:Value}{rs:List Qw}(k:QwM w b B v rs)(hb:b'≤b)(hB:B'≤B):QwM w b' B' v rs:=⟨own_mono k.1 hB,fun r hr=>(k.2 r hr).mono hb⟩
theorem rd_one {w:World}{v:Value}{x:List Rat}(h:Rd w v x):v.oneCell'=true:=by
 rcases h with ⟨a,cap,rfl,_⟩ | ⟨b,off,cap,rfl,_⟩ <;> simp [Value.oneCell']
end Go.Proofs.YtipjmpdndokdlaaGreatDoor
