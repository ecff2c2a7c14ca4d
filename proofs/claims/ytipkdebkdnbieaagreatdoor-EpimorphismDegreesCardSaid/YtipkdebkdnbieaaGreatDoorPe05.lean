/- Plain: fractions as rational numbers; their numerals. -/
import Derived.Test.YtipkdebkdnbieaaGreatDoorPe04
namespace Go.Proofs.YtipkdebkdnbieaaGreatDoor
open Go.RowKit Go.Lib
theorem zdD (a b:Int):Nat.gcd b.natAbs (a.tmod b).natAbs=Nat.gcd a.natAbs b.natAbs:=by
 rw [Int.natAbs_tmod,Nat.gcd_comm a.natAbs b.natAbs,Nat.gcd_rec b.natAbs a.natAbs,Nat.gcd_comm]
theorem zdE (a b:Int)(h:b ≠ 0):(a.tmod b).natAbs<b.natAbs:=by
 rw [Int.natAbs_tmod];exact Nat.mod_lt _ (by omega)
theorem zdF (n:Int)(d:Nat)(h:d ≠ 0):(mkRat n d).num=n.tdiv ((Nat.gcd n.natAbs d:Nat):Int):=by
 rw [Rat.num_mkRat,if_neg h,Nat.gcd_comm d];rw [Int.tdiv_eq_ediv_of_dvd];rw [← Int.dvd_natAbs,Int.ofNat_dvd];exact Nat.gcd_dvd_left ..
theorem zdG (n:Int)(d:Nat)(h:d ≠ 0):(((mkRat n d).den:Nat):Int)=(d:Int).tdiv ((Nat.gcd n.natAbs d:Nat):Int):=by
 rw [Rat.den_mkRat,if_neg h,Nat.gcd_comm d];rw [Int.tdiv_eq_ediv_of_dvd (by rw [Int.ofNat_dvd];exact Nat.gcd_dvd_right ..)];simp
theorem zdH {r:Rat}(h:r.den=1):r=(r.num:Rat):=Rat.ext rfl h
theorem zdI {a b:Rat}(ha:a.den=1)(hb:b.den=1):(a+b).num=a.num+b.num∧(a+b).den=1:=by
 rw [zdH ha,zdH hb,← Rat.intCast_add];exact ⟨rfl,rfl⟩
def Rv (r:Rat):Value:=.agg #[.string (I r.num),.string (I (r.den:Int))]
def rc (r:Rat):List Value:=[.string (I r.num),.string (I (r.den:Int))]
theorem zdJ {a b:Rat}(h:Rv a=Rv b):a=b:=by
 unfold Rv at h;injection h with h;have h2:([.string (I a.num),.string (I (a.den:Int))]:List Value)=[.string (I b.num),.string (I (b.den:Int))]:=by
  have:=congrArg Array.toList h;simpa using this
 simp only [List.cons.injEq,Value.string.injEq,and_true] at h2;exact Rat.ext (zbz h2.1) (by have:=zbz h2.2;omega)
def Ft (k:Nat)(r:Rat):Prop:=nDigits r.num.natAbs≤k∧nDigits r.den≤k
theorem Ft.mono {k l:Nat}{r:Rat}(h:Ft k r)(hk:k≤l):Ft l r:=⟨Nat.le_trans h.1 hk,Nat.le_trans h.2 hk⟩
theorem Ft.num {k:Nat}{r:Rat}(h:Ft k r)(hk:k≤400000):Fit r.num:=by unfold Fit;have:=h.1;omega
theorem Ft.den {k:Nat}{r:Rat}(h:Ft k r)(hk:k≤400000):Fit (r.den:Int):=by unfold Fit;have:=h.2;rw [Int.natAbs_natCast];omega
end Go.Proofs.YtipkdebkdnbieaaGreatDoor
