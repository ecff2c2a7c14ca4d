/- Plain: right scales over 2.3 and 2.3.5, told by the differences of their notes; notes, modes, subsets. -/
import Derived.Test.YtebabancfnmfjaaGreatDoorPm15
namespace Go.Proofs.YtebabancfnmfjaaGreatDoor
def Nic (n:Nat)(x:List Rat):Prop:=(n=0∧Bx 256 x)∨(0<n∧n≤60∧Oc n x)
theorem Nic.nice {n:Nat}{x:List Rat}(h:Nic n x):zeN x:=by
 rcases h with ⟨_,h⟩ | ⟨_,_,h⟩
 ·exact .inl h
 ·exact .inr ⟨n,h⟩
theorem zi3 (b:Rat):(b.den:Rat) ≠ 0:=by
 intro h;have:=Rat.natCast_inj.1 (show ((b.den:Nat):Rat)=((0:Nat):Rat) from h);have:=b.den_pos;omega
theorem zi4 (b:Rat):b * (b.den:Rat)=(b.num:Rat):=by
 have e:b=(b.num:Rat) / (b.den:Rat):=by
  have:=Rat.mkRat_eq_div b.num b.den;rw [Rat.mkRat_self] at this;exact this
 have:=Rat.div_mul_cancel (a:=(b.num:Rat)) (zi3 b);rw [← e] at this;exact this
theorem zi5 {a:Rat}{n:Nat}{A:Int}(hn:0<n)(h:a * (n:Rat)=A):a.den≤n∧a.num.natAbs≤A.natAbs:=by
 have h1:a.num * (n:Int)=A * a.den:=by
  have:((a.num * (n:Int):Int):Rat)=((A * (a.den:Int):Int):Rat):=by
   rw [Rat.intCast_mul,Rat.intCast_mul,← h,← zi4 a,Rat.intCast_natCast,Rat.intCast_natCast];grind
  exact Rat.intCast_inj.1 this
 have hd:a.den ∣ n:=by
  have hc:Nat.Coprime a.den a.num.natAbs:=a.reduced.symm;have:a.den ∣ a.num.natAbs * n:=by
   have h2:=congrArg Int.natAbs h1;rw [Int.natAbs_mul,Int.natAbs_mul,Int.natAbs_natCast,Int.natAbs_natCast] at h2;exact ⟨A.natAbs,by rw [h2,Nat.mul_comm]⟩
  exact hc.dvd_of_dvd_mul_left this
 have hl:=Nat.le_of_dvd hn hd;refine ⟨hl,?_⟩;have h2:=congrArg Int.natAbs h1;rw [Int.natAbs_mul,Int.natAbs_mul,Int.natAbs_natCast,Int.natAbs_natCast] at h2;have h3:a.num.natAbs * n≤A.natAbs * n:=by rw [h2];exact Nat.mul_le_mul_left _ hl
 exact Nat.le_of_mul_le_mul_right h3 hn
theorem zi6 {x:Rat}{A B:Int}(h1:x=A)(h2:x≤(B:Rat)):A≤B:=by rw [h1] at h2;exact Rat.intCast_le_intCast.1 h2
theorem zi7 {x:Rat}{A B:Int}(h1:x=A)(h2:(B:Rat)≤x):B≤A:=by rw [h1] at h2;exact Rat.intCast_le_intCast.1 h2
theorem zi8 {p:List Int}{a:Rat}{tl:List Rat}{c:Int}(hp:Pr p (a::tl).length)(hb:Bx 256 (a::tl))(h1:-((c * 67108864:Int):Rat)≤sF p (a::tl))(h2:sF p (a::tl)≤((c * 67108864:Int):Rat)):-(2 * c+1100)≤2 * a.num∧2 * a.num≤2 * c+1100:=by
 rcases hp with ⟨rfl,hl⟩ | ⟨rfl,hl⟩
 ·match tl,hl,hb with
  | [b],_,⟨A,B,ha,hb,g1,g2⟩ =>
   have e:sF [2,3] [a,b] * 2=((A * 134217728+B * 106365032:Int):Rat):=by
    rw [Rat.intCast_add,Rat.intCast_mul,Rat.intCast_mul,← ha,← hb];simp only [sF,lgs.1,lgs.2.1];show (a * ((67108864:Int):Rat)+(b * ((106365032:Int):Rat)+0)) * 2=a * ((134217728:Int):Rat)+b * 2 * ((106365032:Int):Rat);rw [show ((134217728:Int):Rat)=((67108864:Int):Rat) * 2 from Rat.intCast_mul 67108864 2];grind
   have k1:A * 134217728+B * 106365032≤2 * (c * 67108864):=zi6 e (by rw [Rat.intCast_mul 2 _];show _≤2 * _;grind)
   have k2:-(2 * (c * 67108864))≤A * 134217728+B * 106365032:=zi7 e (by rw [Rat.intCast_neg,Rat.intCast_mul 2 _];show -(2 * _)≤_;grind)
   obtain ⟨ha1,_⟩:=zeA ha
   rw [ha1]
   omega
 ·match tl,hl,hb with
  | [b,d],_,⟨A,B,C,ha,hb,hc,g1,g2,g3,g4⟩ =>
   have e:sF [2,3,5] [a,b,d] * 2=((A * 134217728+B * 106365032+C * 311643912:Int):Rat):=by
    rw [Rat.intCast_add,Rat.intCast_add,Rat.intCast_mul,Rat.intCast_mul,Rat.intCast_mul,← ha,← hb,← hc];simp only [sF,lgs.1,lgs.2.1,lgs.2.2];show (a * ((67108864:Int):Rat)+(b * ((106365032:Int):Rat)+(d * ((155821956:Int):Rat)+0))) * 2=a * ((134217728:Int):Rat)+b * 2 * ((106365032:Int):Rat)+d * ((311643912:Int):Rat);rw [show ((134217728:Int):Rat)=((67108864:Int):Rat) * 2 from Rat.intCast_mul 67108864 2,show ((311643912:Int):Rat)=((155821956:Int):Rat) * 2 from Rat.intCast_mul 155821956 2];grind
   have k1:A * 134217728+B * 106365032+C * 311643912≤2 * (c * 67108864):=zi6 e (by rw [Rat.intCast_mul 2 _];show _≤2 * _;grind)
   have k2:-(2 * (c * 67108864))≤A * 134217728+B * 106365032+C * 311643912:=zi7 e (by rw [Rat.intCast_neg,Rat.intCast_mul 2 _];show -(2 * _)≤_;grind)
   obtain ⟨ha1,_⟩:=zeA ha
   rw [ha1]
   omega
theorem zi9 {a:Rat}{n:Nat}{A c:Int}{s:Rat}(hn:0<n)(hn9:n≤60)(ha:a * (n:Rat)=A)(hs:s=a * ((67108864:Int):Rat))(h1:-((c * 67108864:Int):Rat)≤s)(h2:s≤((c * 67108864:Int):Rat)):a.num.natAbs≤60 * c.natAbs∧a.den≤60:=by
 have hpd:=zi5 hn ha;have e:s * (n:Rat)=((A * 67108864:Int):Rat):=by rw [hs,Rat.intCast_mul,← ha];grind
 have hnp:(0:Rat)≤(n:Rat):=Rat.le_of_lt (Rat.natCast_pos.2 hn);have k1:A * 67108864≤c * 67108864 * n:=zi6 e (by
  rw [Rat.intCast_mul,Rat.intCast_natCast];exact Rat.mul_le_mul_of_nonneg_right h2 hnp)
 have k2:-(c * 67108864) * n≤A * 67108864:=zi7 e (by
  rw [Rat.intCast_mul,Rat.intCast_natCast,Rat.intCast_neg];exact Rat.mul_le_mul_of_nonneg_right h1 hnp)
 have k3:A.natAbs≤c.natAbs * n:=by
  have e1:c * 67108864 * (n:Int)=(c * n) * 67108864:=by grind
  have e2:-(c * 67108864) * (n:Int)=-((c * n) * 67108864):=by grind
  rw [e1] at k1;rw [e2] at k2;have e3:(c * (n:Int)).natAbs=c.natAbs * n:=by rw [Int.natAbs_mul,Int.natAbs_natCast]
  generalize c * (n:Int)=t at *;omega
 have k4:c.natAbs * n≤c.natAbs * 60:=Nat.mul_le_mul_left _ hn9;omega
theorem ziA {n:Nat}{p:List Int}{x:List Rat}{c:Int}(hp:Pr p x.length)(h:Nic n x)(hc:0≤c)(hc2:c≤100000)(h1:-((c * 67108864:Int):Rat)≤sF p x)(h2:sF p x≤((c * 67108864:Int):Rat)):zh3 p x:=by
 rcases h with ⟨_,hb⟩ | ⟨hn,hn9,ho⟩
 ·obtain ⟨a,tl,rfl⟩:∃ a tl,x=a::tl:=by
   rcases hp with ⟨_,hl⟩ | ⟨_,hl⟩ <;> (cases x with | nil=>cases hl | cons a tl=>exact ⟨a,tl,rfl⟩)
  have hA:=zi8 hp hb h1 h2;exact (zim (m:=1000000) hp hb (by omega) (by omega) (fun a' ha'=>by cases ha';omega)).quick hp (by omega) hb
 ·have hf:=zeK hp ho;rcases hp with ⟨rfl,hl⟩ | ⟨rfl,hl⟩
  ·match x,hl,ho with
   | [a,b],_,⟨hb,A,ha⟩ =>
    subst hb
    have hbd:=zi9 (s:=sF [2,3] [a,0]) hn hn9 ha (by simp only [sF,lgs.1];grind) h1 h2
    refine ⟨?_,?_,hf⟩
    ·intro r hr
     simp only [List.mem_cons,List.not_mem_nil,or_false] at hr
     rcases hr with rfl | rfl
     ·exact zik (by omega) (by omega)
     ·exact zgY.mono (by omega)
    ·intro e he
     have e1:[(2:Int),3].zip (fcd (dn [a,0]) [a,0])=[(2,a.num),(3,0)]:=by
      have hd:(a.den:Int) / (a.den:Int)=1:=Int.ediv_self (by have:=a.den_pos;omega);simp [dn,fcd,Nat.lcm,hd]
     have:=zil he
     rw [e1] at this
     simp only [List.mem_cons,List.not_mem_nil,or_false] at this
     rcases this with rfl | rfl
     ·exact ⟨.inl rfl,by dsimp only;omega,by dsimp only;omega⟩
     ·exact ⟨.inr (.inl rfl),by dsimp only;omega,by dsimp only;omega⟩
  ·match x,hl,ho with
   | [a,b,d],_,⟨hb,hd,A,ha⟩ =>
    subst hb
    subst hd
    have hbd:=zi9 (s:=sF [2,3,5] [a,0,0]) hn hn9 ha (by simp only [sF,lgs.1];grind) h1 h2
    refine ⟨?_,?_,hf⟩
    ·intro r hr
     simp only [List.mem_cons,List.not_mem_nil,or_false] at hr
     rcases hr with rfl | rfl | rfl
     ·exact zik (by omega) (by omega)
     ·exact zgY.mono (by omega)
     ·exact zgY.mono (by omega)
    ·intro e he
     have e1:[(2:Int),3,5].zip (fcd (dn [a,0,0]) [a,0,0])=[(2,a.num),(3,0),(5,0)]:=by
      have hd:(a.den:Int) / (a.den:Int)=1:=Int.ediv_self (by have:=a.den_pos;omega);simp [dn,fcd,Nat.lcm,hd]
     have:=zil he
     rw [e1] at this
     simp only [List.mem_cons,List.not_mem_nil,or_false] at this
     rcases this with rfl | rfl | rfl
     ·exact ⟨.inl rfl,by dsimp only;omega,by dsimp only;omega⟩
     ·exact ⟨.inr (.inl rfl),by dsimp only;omega,by dsimp only;omega⟩
     ·exact ⟨.inr (.inr rfl),by dsimp only;omega,by dsimp only;omega⟩
end Go.Proofs.YtebabancfnmfjaaGreatDoor
