/- Plain: between which whole numbers a size lies at many bits; its sign and its floor. Walks: powers of 2 to 4000; the binary digits of the logarithms of 3 and 5; size.log. A region that draws, within a round of a loop over a function, at the wide fence: by the walk that holds a statement. -/
import Derived.Test.YtbkfhacmekbniaaGreatDoorPc21
import Derived.Test.YtbkfhacmekbniaaGreatDoorPc07
import Derived.Test.YtbkfhacmekbniaaGreatDoorPc04
import Derived.Test.YtbkfhacmekbniaaGreatDoorPc10
import Derived.Test.YtbkfhacmekbniaaGreatDoorPc00
import Derived.Deep.RegionHeld3
import Derived.Test.YtbkfhacmekbniaaGreatDoorPc08
set_option maxRecDepth 100000
set_option maxHeartbeats 2000000
namespace Go.Proofs.YtbkfhacmekbniaaGreatDoor
section
def loN (n:Nat)(p f:Int):Int:=if p=2 then f * ((2 ^ n:Nat):Int) else if f<0 then f * ((LG p n:Int)+1) else f * (LG p n:Int)
def hiN (n:Nat)(p f:Int):Int:=if p=2 then f * ((2 ^ n:Nat):Int) else if f<0 then f * (LG p n:Int) else f * ((LG p n:Int)+1)
def zlC (n:Nat):List (Int × Int)→Int | []=>0 | e::l=>loN n e.1 e.2+zlC n l
def zlD (n:Nat):List (Int × Int)→Int | []=>0 | e::l=>hiN n e.1 e.2+zlD n l
def zlE : List (Int × Int)→Int | []=>0 | e::l=>e.2 * (LG e.1 2048:Int)+zlE l
theorem zlF (n:Nat)(a b:List (Int × Int)):zlC n (a++b)=zlC n a+zlC n b:=by
 induction a with
 | nil=>simp [zlC]
 | cons e a ih=>simp only [List.cons_append,zlC,ih];omega
theorem zlG (n:Nat)(a b:List (Int × Int)):zlD n (a++b)=zlD n a+zlD n b:=by
 induction a with
 | nil=>simp [zlD]
 | cons e a ih=>simp only [List.cons_append,zlD,ih];omega
def zlH (p:Int):Prop:=p=2∨p=3∨p=5
theorem zlI {n:Nat}(h:Lad n):n≤2048:=by rcases h with rfl | rfl | rfl | rfl | rfl | rfl <;> omega
theorem zlJ {n:Nat}(h:n≤2048):2 ^ n * 2 ^ (2048 - n)=2 ^ 2048:=by rw [← Nat.pow_add,show n+(2048 - n)=2048 by omega]
theorem zlK {p:Int}{n:Nat}(h:n≤2048):LG p n * 2 ^ (2048 - n)≤LG p 2048∧LG p 2048≤(LG p n+1) * 2 ^ (2048 - n):=by
 unfold LG;by_cases hp:p=2
 ·rw [if_pos hp,if_pos hp,zlJ h];refine ⟨Nat.le_refl _,?_⟩;rw [Nat.add_mul,zlJ h];omega
 ·rw [if_neg hp,if_neg hp,show 2048 - 2048=0 from rfl,Nat.pow_zero,Nat.div_one];generalize (if p=3 then L3 else L5)=L;have hpos:0<2 ^ (2048 - n):=Nat.pow_pos (by omega);generalize 2 ^ (2048 - n)=d at *;refine ⟨Nat.div_mul_le_self _ _,?_⟩;have:=Nat.lt_div_mul_add hpos (a:=L);rw [Nat.add_mul];omega
theorem zlL {f a b:Int}(h:a≤b):(0≤f→f * a≤f * b)∧(f<0→f * b≤f * a) :=
 ⟨fun hf=>Int.mul_le_mul_of_nonneg_left h hf,fun hf=>Int.mul_le_mul_of_nonpos_left (by omega) h⟩
theorem zlM {f lo hi a s M:Int}(h1:a * s≤M)(h2:M≤(a+1) * s)(e1:lo=if f<0 then f * (a+1) else f * a)(e2:hi=if f<0 then f * a else f * (a+1)):lo * s≤f * M∧f * M≤hi * s:=by
 by_cases hf:f<0
 ·rw [if_pos hf] at e1 e2;subst e1 e2;rw [Int.mul_assoc,Int.mul_assoc];exact ⟨(zlL h2).2 hf,(zlL h1).2 hf⟩
 ·rw [if_neg hf] at e1 e2;subst e1 e2;rw [Int.mul_assoc,Int.mul_assoc];exact ⟨(zlL h1).1 (by omega),(zlL h2).1 (by omega)⟩
theorem zlN {n:Nat}(hn:n≤2048)(l:List (Int × Int)):zlC n l * ((2 ^ (2048 - n):Nat):Int)≤zlE l∧zlE l≤zlD n l * ((2 ^ (2048 - n):Nat):Int):=by
 induction l with
 | nil=>simp [zlC,zlD,zlE]
 | cons e l ih =>
  have key:loN n e.1 e.2 * ((2 ^ (2048 - n):Nat):Int)≤e.2 * (LG e.1 2048:Int)∧e.2 * (LG e.1 2048:Int)≤hiN n e.1 e.2 * ((2 ^ (2048 - n):Nat):Int):=by
   by_cases hp:e.1=2
   ·have e1:(LG e.1 2048:Int)=((2 ^ n:Nat):Int) * ((2 ^ (2048 - n):Nat):Int):=by
     rw [← Int.natCast_mul,zlJ hn];unfold LG;rw [if_pos hp]
    unfold loN hiN;rw [if_pos hp,if_pos hp,e1,← Int.mul_assoc];exact ⟨Int.le_refl _,Int.le_refl _⟩
   ·have hs:=zlK (p:=e.1) hn;refine zlM (a:=(LG e.1 n:Int)) ?_ ?_ ?_ ?_
    ·rw [← Int.natCast_mul];exact Int.ofNat_le.2 hs.1
    ·have:=Int.ofNat_le.2 hs.2;rw [Int.natCast_mul,Int.natCast_add] at this;exact this
    ·unfold loN;rw [if_neg hp]
    ·unfold hiN;rw [if_neg hp]
  simp only [zlC,zlD,zlE,Int.add_mul]
  omega
def S22 : Nat:=2 ^ 2022
theorem zlO : (0:Int)<(S22:Int):=by decide +kernel
theorem zlP {p:Int}(hp:zlH p):(lg p:Int) * (S22:Int)≤(LG p 2048:Int)∧(LG p 2048:Int)≤(lg p+1) * (S22:Int):=by
 rcases hp with rfl | rfl | rfl <;> decide +kernel
theorem zlQ : (LG 2 2048:Int)=lg 2 * (S22:Int):=by decide +kernel
theorem zlR {l:List (Int × Int)}(hl:∀ e∈l,zlH e.1):lowT l * (S22:Int)≤zlE l∧zlE l≤higT l * (S22:Int):=by
 induction l with
 | nil=>simp [lowT,higT,zlE]
 | cons e l ih =>
  have ih:=ih fun x hx=>hl x (List.mem_cons_of_mem _ hx)
  have key:loP e.1 e.2 * (S22:Int)≤e.2 * (LG e.1 2048:Int)∧e.2 * (LG e.1 2048:Int)≤hiP e.1 e.2 * (S22:Int):=by
   by_cases hp:e.1=2
   ·unfold loP hiP;rw [if_pos hp,if_pos hp,hp,zlQ,← Int.mul_assoc];exact ⟨Int.le_refl _,Int.le_refl _⟩
   ·have hs:=zlP (hl e (List.mem_cons_self ..));have e0:e.2 * (lg e.1+1)=e.2 * lg e.1+e.2:=(by rw [Int.mul_add,Int.mul_one]);refine zlM (a:=lg e.1) hs.1 hs.2 ?_ ?_
    ·unfold loP;rw [if_neg hp];split <;> omega
    ·unfold hiP;rw [if_neg hp];split <;> omega
  simp only [lowT,higT,zlE,Int.add_mul]
  generalize (S22:Int)=s at *
  omega
theorem zlS {lo hi s M K D q:Int}(hs:0<s)(hD:0<D)(h1:lo * s≤M)(h2:M≤hi * s)(hK:K=D * s)(g1:lo / D=q)(g2:hi / D=q):M / K=q:=by
 have e1:=Int.mul_ediv_add_emod lo D;have e2:=Int.emod_nonneg lo (show D ≠ 0 by omega);have e3:=Int.mul_ediv_add_emod hi D;have e4:=Int.emod_lt_of_pos hi hD;rw [g1] at e1;rw [g2] at e3;have hKp:0<K:=by rw [hK];exact Int.mul_pos hD hs
 have a1:D * q≤lo:=by omega
 have a2:hi+1≤D * q+D:=by omega
 have b1:=Int.mul_le_mul_of_nonneg_right a1 (show 0≤s by omega);have b2:=Int.mul_le_mul_of_nonneg_right a2 (show 0≤s by omega);have c1:D * q * s=K * q:=by rw [hK];grind
 have c2:(D * q+D) * s=K * q+K:=by rw [hK];grind
 rw [c1] at b1;rw [c2,Int.add_mul] at b2;have e5:M=(M - K * q)+K * q:=by omega
 rw [e5,Int.add_mul_ediv_left _ _ (by omega),Int.ediv_eq_zero_of_lt (by omega) (by omega)];omega
theorem zlT {n:Nat}(l:List (Int × Int)):zlD n l - zlC n l≤zeq l∧zlC n l≤zlD n l:=by
 induction l with
 | nil=>simp [zlC,zlD,zeq]
 | cons e l ih =>
  have e0:e.2 * ((LG e.1 n:Int)+1)=e.2 * (LG e.1 n:Int)+e.2:=by rw [Int.mul_add,Int.mul_one]
  have key:hiN n e.1 e.2 - loN n e.1 e.2≤(if e.1=2 then 0 else (e.2.natAbs:Int))∧loN n e.1 e.2≤hiN n e.1 e.2:=by
   unfold loN hiN;rw [e0];generalize e.2 * (LG e.1 n:Int)=q;generalize e.2 * ((2 ^ n:Nat):Int)=r;split
   ·omega
   ·split <;> omega
  simp only [zlC,zlD,zeq]
  omega
theorem zlU {p:List Int}{a:Rat}{tl:List Rat}(hp:Pr p (a::tl).length)(d:Nat):∃ B C:Int,zlE (p.zip (fcd d (a::tl)))=a.num * ((d / a.den:Nat):Int) * KK+B * (L3:Int)+C * (L5:Int)∧zeq (p.zip (fcd d (a::tl)))=(B.natAbs:Int)+(C.natAbs:Int) ∧
  (∀ h:Nat,(∀ r∈tl,(r.num * ((d / r.den:Nat):Int)).natAbs≤h)→B.natAbs≤h∧C.natAbs≤h)∧(0<d→(∀ r∈tl,r.den ∣ d)→B=0→C=0→∀ r∈tl,r=0):=by
 have l2:(LG 2 2048:Int)=KK:=by decide +kernel
 have l3:LG 3 2048=L3:=by decide +kernel
 have l5:LG 5 2048=L5:=by decide +kernel
 have hz:∀ r:Rat,0<d→r.den ∣ d→r.num * ((d / r.den:Nat):Int)=0→r=0:=fun r h0 hd h=>by
  have h3:0<d / r.den:=Nat.div_pos (Nat.le_of_dvd h0 hd) r.den_pos;rcases Int.mul_eq_zero.1 h with g | g
  ·exact Rat.num_eq_zero.1 g
  ·omega
 rcases hp with ⟨rfl,h⟩ | ⟨rfl,h⟩
 ·match tl,h with
  | [b],_ =>
   refine ⟨b.num * ((d / b.den:Nat):Int),0,?_,?_,fun m h=>⟨h b (List.mem_singleton.2 rfl),by simp⟩,fun h0 hd hB _ r hr=>?_⟩
   ·simp only [fcd,List.map_cons,List.map_nil,List.zip_cons_cons,List.zip_nil_left,zlE,l2,l3]
    omega
   ·simp only [fcd,List.map_cons,List.map_nil,List.zip_cons_cons,List.zip_nil_left,zeq]
    simp
   ·rw [List.mem_singleton] at hr;subst hr
    exact hz _ h0 (hd _ (List.mem_singleton.2 rfl)) hB
 ·match tl,h with
  | [b,c],_ =>
   refine ⟨b.num * ((d / b.den:Nat):Int),c.num * ((d / c.den:Nat):Int),?_,?_,fun m h=>⟨h b (by simp),h c (by simp)⟩,fun h0 hd hB hC r hr=>?_⟩
   ·simp only [fcd,List.map_cons,List.map_nil,List.zip_cons_cons,List.zip_nil_left,zlE,l2,l3,l5]
    omega
   ·simp only [fcd,List.map_cons,List.map_nil,List.zip_cons_cons,List.zip_nil_left,zeq]
    simp
   ·simp only [List.mem_cons,List.not_mem_nil,or_false] at hr
    rcases hr with rfl | rfl
    ·exact hz _ h0 (hd _ (by simp)) hB
    ·exact hz _ h0 (hd _ (by simp)) hC
theorem zlV (n:Nat)(l:List (Int × Int)):zlC n (l.filter fun e=>e.2 != 0)=zlC n l∧zlD n (l.filter fun e=>e.2 != 0)=zlD n l∧zlE (l.filter fun e=>e.2 != 0)=zlE l:=by
 induction l with
 | nil=>simp
 | cons e l ih =>
  rw [List.filter_cons]
  by_cases h:e.2=0
  ·rw [if_neg (by simp [h])]
   simp only [zlC,zlD,zlE,h,ih,loN,hiN]
   simp
  ·rw [if_pos (by simp [h])]
   simp only [zlC,zlD,zlE,ih,and_self]
def flN (p:List Int)(x:List Rat):Int:=zlE (tms p (dn x) x) / (KK * ((dn x:Nat):Int))
theorem zlW {M E D lo hi:Int}(hD:0<D)(h1:M - E≤lo)(h2:lo≤M)(h3:M≤hi)(h4:hi≤M+E)(_:0≤E)(hf:∀ m:Int,E<(M - m * D).natAbs) :
  lo / D=M / D∧hi / D=M / D:=by
 have e1:=Int.mul_ediv_add_emod M D;have e2:=Int.emod_nonneg M (show D ≠ 0 by omega);have e3:=Int.emod_lt_of_pos M hD;have f1:=hf (M / D);have f2:=hf (M / D+1);generalize hq:M / D=q at *;generalize M % D=r at *;have g1:M - q * D=r:=by rw [Int.mul_comm q D];omega
 have g2:M - (q+1) * D=r - D:=by rw [Int.add_mul,Int.one_mul,Int.mul_comm q D];omega
 rw [g1] at f1;rw [g2] at f2;constructor
 ·have:lo=(r - (M - lo))+D * q:=by omega
  rw [this,Int.add_mul_ediv_left _ _ (by omega),Int.ediv_eq_zero_of_lt (by omega) (by omega)];omega
 ·have:hi=(r+(hi - M))+D * q:=by omega
  rw [this,Int.add_mul_ediv_left _ _ (by omega),Int.ediv_eq_zero_of_lt (by omega) (by omega)];omega
def FwN (x:List Rat):Prop:=∀ r∈x,(r.num * ((dn x / r.den:Nat):Int)).natAbs≤HH
theorem zlX {p:List Int}{a:Rat}{tl:List Rat}(hp:Pr p (a::tl).length)(hw:FwN (a::tl))(hne:¬ ∀ r∈tl,r=0) :
  zlC 2048 (tms p (dn (a::tl)) (a::tl)) / (KK * ((dn (a::tl):Nat):Int))=zlD 2048 (tms p (dn (a::tl)) (a::tl)) / (KK * ((dn (a::tl):Nat):Int)):=by
 obtain ⟨B,C,hM,hE,hbd,hz⟩:=zlU hp (dn (a::tl));have hBC:=hbd HH fun r hr=>hw r (List.mem_cons_of_mem _ hr);have hd:=ze0 (a::tl);have hK:0<KK:=by decide +kernel
 have hend:=zlN (n:=2048) (Nat.le_refl _) (tms p (dn (a::tl)) (a::tl));have herr:=zlT (n:=2048) (tms p (dn (a::tl)) (a::tl));rw [show ((2 ^ (2048 - 2048):Nat):Int)=1 by decide,Int.mul_one,Int.mul_one] at hend;have e1:zlE (tms p (dn (a::tl)) (a::tl))=zlE (p.zip (fcd (dn (a::tl)) (a::tl))):=(zlV 0 _).2.2;have e2:zeq (tms p (dn (a::tl)) (a::tl))=zeq (p.zip (fcd (dn (a::tl)) (a::tl))):=(zew _).2.2.2;rw [e1,hM] at hend;rw [e2,hE] at herr;have hDp:0<KK * ((dn (a::tl):Nat):Int):=Int.mul_pos hK (by omega);have hfar:∀ m:Int,(2 * HH:Nat)<(a.num * ((dn (a::tl) / a.den:Nat):Int) * KK+B * (L3:Int)+C * (L5:Int) - m * (KK * ((dn (a::tl):Nat):Int))).natAbs:=fun m=>by
  rcases Nat.lt_or_ge (2 * HH) (a.num * ((dn (a::tl) / a.den:Nat):Int) * KK+B * (L3:Int)+C * (L5:Int) - m * (KK * ((dn (a::tl):Nat):Int))).natAbs with g | g
  ·exact g
  ·exfalso;have e:a.num * ((dn (a::tl) / a.den:Nat):Int) * KK+B * (L3:Int)+C * (L5:Int) - m * (KK * ((dn (a::tl):Nat):Int))=(a.num * ((dn (a::tl) / a.den:Nat):Int) - m * ((dn (a::tl):Nat):Int)) * KK+B * (L3:Int)+C * (L5:Int):=(by grind);rw [e] at g;have:=zlB hBC.1 hBC.2 g;exact hne (hz hd (fun r hr=>zez _ r (List.mem_cons_of_mem _ hr)) this.2.1 this.2.2)
 generalize a.num * ((dn (a::tl) / a.den:Nat):Int) * KK+B * (L3:Int)+C * (L5:Int)=M at *;generalize zlC 2048 (tms p (dn (a::tl)) (a::tl))=lo at *;generalize zlD 2048 (tms p (dn (a::tl)) (a::tl))=hi at *;have h1:B.natAbs≤HH:=hBC.1;have h2:C.natAbs≤HH:=hBC.2;have:=zlW (M:=M) (lo:=lo) (hi:=hi) (E:=((2 * HH:Nat):Int)) hDp (by omega) (by omega) (by omega) (by omega) (by omega) (fun m=>Int.ofNat_lt.2 (hfar m));rw [this.1,this.2]
theorem zlY : KK=((2 ^ 2048:Nat):Int):=by decide +kernel
theorem zlZ {n:Nat}(hn:n≤2048)(d:Int):KK * d=((2 ^ n:Nat):Int) * d * ((2 ^ (2048 - n):Nat):Int):=by
 have:KK=((2 ^ n:Nat):Int) * ((2 ^ (2048 - n):Nat):Int):=by
  rw [← Int.natCast_mul,zlJ hn];exact zlY
 rw [this];grind
theorem zma : KK=67108864 * (S22:Int):=by decide +kernel
theorem zmb {p:List Int}{x:List Rat}{n:Nat}(hn:n≤2048){q:Int}(h1:zlC n (tms p (dn x) x) / (((2 ^ n:Nat):Int) * ((dn x:Nat):Int))=q)(h2:zlD n (tms p (dn x) x) / (((2 ^ n:Nat):Int) * ((dn x:Nat):Int))=q):flN p x=q:=by
 have hd:=ze0 x;have h:=zlN hn (tms p (dn x) x);exact zlS (Int.natCast_pos.2 (Nat.pow_pos (by omega))) (Int.mul_pos (Int.natCast_pos.2 (Nat.pow_pos (by omega))) (by omega)) h.1 h.2 (zlZ hn _) h1 h2
theorem zmc {p:List Int}{x:List Rat}(hl:∀ e∈tms p (dn x) x,zlH e.1){q:Int}(h1:lowT (tms p (dn x) x) / (67108864 * ((dn x:Nat):Int))=q)(h2:higT (tms p (dn x) x) / (67108864 * ((dn x:Nat):Int))=q):flN p x=q:=by
 have hd:=ze0 x;have h:=zlR hl;have e:KK * ((dn x:Nat):Int)=67108864 * ((dn x:Nat):Int) * (S22:Int):=by rw [zma];grind
 exact zlS zlO (by omega) h.1 h.2 e h1 h2
theorem zmd {p:List Int}{x:List Rat}{n:Nat}(hp:Pr p n)(d:Nat):∀ e∈tms p d x,zlH e.1:=by
 intro e he;have:=(List.mem_filter.1 he).1;have h1:e.1∈p:=(List.of_mem_zip (show (e.1,e.2)∈p.zip (fcd d x) from this)).1;rcases hp with ⟨rfl,_⟩ | ⟨rfl,_⟩ <;> simp only [List.mem_cons,List.not_mem_nil,or_false] at h1
 ·rcases h1 with h | h
  ·exact .inl h
  ·exact .inr (.inl h)
 ·exact h1
theorem zme {p:List Int}{a:Rat}{tl:List Rat}(hp:Pr p (a::tl).length)(h:∀ r∈tl,r=0):flN p (a::tl)=a.floor:=by
 obtain ⟨B,C,hM,-,hbd,-⟩:=zlU hp (dn (a::tl));have hBC:=hbd 0 fun r hr=>by rw [h r hr];simp
 have e1:zlE (tms p (dn (a::tl)) (a::tl))=zlE (p.zip (fcd (dn (a::tl)) (a::tl))):=(zlV 0 _).2.2;have hK:0<KK:=by decide +kernel
 have hd:=ze0 (a::tl);have hdv:=zez (a::tl) a (List.mem_cons_self ..);unfold flN;rw [e1,hM,show B=0 by omega,show C=0 by omega,Int.zero_mul,Int.zero_mul,Int.add_zero,Int.add_zero,Int.mul_comm _ KK,Int.mul_ediv_mul_of_pos _ _ hK,Rat.floor_def];obtain ⟨k,hk⟩:=hdv;have hk0:0<k:=Nat.pos_of_ne_zero fun e=>by rw [e] at hk;omega
 rw [hk,Nat.mul_div_cancel_left _ a.den_pos,Int.natCast_mul,Int.mul_ediv_mul_of_pos_left _ _ (by omega)]
end
section
open Go.RowKit Go.Lib
theorem zmf : I (2:Int)=⟨#[50]⟩:=by
 show I ((2:Nat):Int)=_;rw [zav];unfold D;rw [decDigits];rfl
theorem zmg : I (1:Int)=⟨#[49]⟩:=by
 show I ((1:Nat):Int)=_;rw [zav];exact zbl
theorem zmh (a n:Nat)(w:World)(he:Env w)(ha:nDigits a≤18)(hn:n * nDigits a≤4000) :
  Calls Tryz.prog 198 #[.string (I a),.int .i64 n] w fun e w'=>e=.returned (.tuple #[.string (I ((a ^ n:Nat):Int)),.int .i64 0])∧Ext w w':=by
 have hpos:=nDigits_pos a;have hn4:n≤4000:=Nat.le_trans (Nat.le_mul_of_pos_right n hpos) hn;have hN:nDigits (a ^ n)≤20000:=by
  by_cases h:n=0
  ·subst h;rw [Nat.pow_zero];exact Nat.le_trans (Dec.nDigits_le (n:=1) (k:=1) (by omega) (by omega)) (by omega)
  ·have h1:=zci a n (by omega);omega
 have hs:=zbB (a:Int) w (show nDigits _≤_ by rw [Int.natAbs_natCast];omega);rw [decide_eq_false (by omega),Int.natAbs_natCast] at hs;have hsz:=zau a;have hquo:¬ (4000:Int) / ((nDigits a:Nat):Int)<n:=by
  have h4:n≤4000 / nDigits a:=by
   rw [Nat.le_div_iff_mul_le hpos];exact hn
  have e:(4000:Int) / ((nDigits a:Nat):Int)=((4000 / nDigits a:Nat):Int):=by rw [Int.natCast_ediv];rfl
  rw [e];omega
 have hna18:nDigits a≤18:=ha;clear hn;have Hs:=Lib.hid hs;clear hs;have He:=Lib.hid he;clear he;have HN:=Lib.hid hN;clear hN;generalize hna:nDigits a=na at *;have HNA:=Lib.hid hna;clear hna;go_enter Tryz.func198,Tryz.ntmps198
 go_wp2_with fail
 refine Hs.out.mono ?_;rintro e w1 ⟨rfl,hx1⟩;have Hx1:=Lib.hid hx1;clear hx1;go_wp2_with fail
 refine (zch a n w1 (He.out.ext Hx1.out) (by rw [HNA.out];omega) (by omega) HN.out).mono ?_;rintro e w2 ⟨rfl,hx2⟩;have Hx2:=Lib.hid hx2;clear hx2;go_wp2_with fail
 refine (zbE false (a ^ n) w2 (by have:=HN.out;omega)).mono ?_;rintro e w3 ⟨rfl,rfl⟩;go_wp2
 go_ret2
 exact ⟨rfl,Hx1.out.trans Hx2.out⟩
theorem zmi (n:Nat)(w:World)(he:Env w)(hn:n≤4000) :
  Calls Tryz.prog 198 #[.string ⟨#[50]⟩,.int .i64 n] w fun e w'=>e=.returned (.tuple #[.string (I ((2 ^ n:Nat):Int)),.int .i64 0])∧Ext w w':=by
 have h1:nDigits 2=1:=by
  have:=nDigits_pos 2;have:=Dec.nDigits_le (n:=2) (k:=1) (by omega) (by omega);omega
 have:=zmh 2 n w he (by omega) (by rw [h1];omega);rwa [show ((2:Nat):Int)=(2:Int) from rfl,zmf] at this
theorem zmj {k x e:Nat}(hk:k+k+2<e)(hx:x≤10 ^ k * 10 ^ k):100 * x<10 ^ e:=by
 rw [← Nat.pow_add] at hx;have h4:(10:Nat) ^ 2 * 10 ^ (k+k)<10 ^ e:=by
  rw [← Nat.pow_add];exact Nat.pow_lt_pow_right (by omega) (by omega)
 generalize (10:Nat) ^ (k+k)=y at *;generalize (10:Nat) ^ e=z5 at *;omega
theorem zmk {k z:Nat}(hk:k≤2112)(hz:z≤100 * (2 ^ k * 2 ^ k)):Fit (z:Int):=by
 have h2:(2:Nat) ^ k≤10 ^ k:=Nat.pow_le_pow_left (by omega) _;have h3:=zmj (e:=5000) (by omega) (Nat.mul_le_mul h2 h2);refine Nat.le_trans (Dec.nDigits_le (k:=5000) (by omega) ?_) (show 5000≤400000 by omega);rw [Int.natAbs_natCast];exact Nat.lt_of_le_of_lt hz h3
theorem zml {u x:Nat}(hu:0<u)(h:x * x / u≤8 * u):x * x≤9 * (u * u)∧x≤9 * (u * u):=by
 have h1:x * x<(8 * u+1) * u:=(Nat.div_lt_iff_lt_mul hu).1 (by omega);have h2:(8 * u+1) * u=8 * (u * u)+u:=by rw [Nat.add_mul,Nat.mul_assoc,Nat.one_mul]
 have h3:u≤u * u:=Nat.le_mul_of_pos_left u hu;have h4:x≤x * x:=by
  rcases Nat.eq_zero_or_pos x with rfl | h
  ·omega
  ·exact Nat.le_mul_of_pos_left x h
 omega
theorem zmm (a b:Nat):fdv (a:Int) (b:Int)=((a / b:Nat):Int):=by
 unfold fdv;split
 ·rw [Int.natCast_ediv]
 ·rename_i h;obtain rfl:b=0:=by omega
  simp
theorem zmn {p:Nat}(hp:p=3∨p=5)(w:World):Calls Tryz.prog 81 #[.int .u64 p] w fun e w'=>e=.returned (.int .i64 ((lb p:Nat)+1:Int))∧w=w':=by
 have h:=zgs p (by omega) w;rcases hp with rfl | rfl
 ·exact h
 ·exact h
def zmo (n u:Nat)(s0:Nat × Nat × Nat)(w:World)(i lo hi ou:Value)(wr:World):Prop:=∃ (k:Nat)(st:Nat × Nat × Nat),i=.int .i64 k∧k≤n∧dgN u s0 k=some st∧lo=.string (I (st.1:Int))∧hi=.string (I (st.2.1:Int))∧ou=.string (I (st.2.2:Int))∧Ext w wr
theorem zmp (p m n:Nat)(fin:Nat × Nat × Nat)(w:World)(he:Env w)(hp:p=3∨p=5)(hm:m=n+64)(hn:n≤2048)(hf:dgN (2 ^ m) (dg0 p m) n=some fin) :
  Calls Tryz.prog 199 #[.int .i64 p,.int .i64 n,.int .i64 m] w fun e w'=>e=.returned (.tuple #[.string (I (fin.2.2:Int)),.bool true])∧Ext w w':=by
 have hu0:0<2 ^ m:=Nat.pow_pos (by omega);have hlb:lb p=1∨lb p=2:=by rcases hp with rfl | rfl <;> decide
 have h1:=fun W=>zmn hp W;have h2:=fun W (h:Ext w W)=>zmi m W (he.ext h) (by omega);have h4:=fun W (h:Ext w W)=>zmi (m - lb p) W (he.ext h) (by omega);have hfi:2 ^ (m - lb p)≤2 ^ m:=Nat.pow_le_pow_right (by omega) (by omega);have huu:2 ^ m≤2 ^ m * 2 ^ m:=Nat.le_mul_of_pos_left _ hu0;have hF:∀ z:Nat,z≤100 * (2 ^ m * 2 ^ m)→Fit (z:Int):=fun z hz=>zmk (by omega) hz;have h3:=fun W (h:Ext w W)=>zdh ((2 ^ m:Nat):Int) ((2 ^ m:Nat):Int) W (he.ext h) (hF _ (by omega)) (hF _ (by omega));rw [← Int.natCast_add] at h3;have h5:=fun W (h:Ext w W)=>zaL ((p:Nat):Int) (by omega) (by omega) W (he.ext h);have h6:=fun W (h:Ext w W)=>zbT ((p:Nat):Int) ((2 ^ (m - lb p):Nat):Int) W (he.ext h) (hF _ (by omega)) (hF _ (by omega));rw [← Int.natCast_mul] at h6;have h7:=fun W (h:Ext w W)=>zaL ((lb p:Nat):Int) (by omega) (by omega) W (he.ext h);have hs0:dg0 p m=(p * 2 ^ (m - lb p),p * 2 ^ (m - lb p),lb p):=rfl;have hF1:Fit (1:Int):=hF 1 (by omega);have hF2:Fit (2:Int):=hF 2 (by omega);have hround:∀ (k:Nat)(st:Nat × Nat × Nat),k<n→dgN (2 ^ m) (dg0 p m) k=some st→∃ t l q,dgN (2 ^ m) (dg0 p m) (k+1)=some t ∧
   (∀ W,Ext w W→Calls Tryz.prog 134 #[.string (I (st.1:Int)),.string (I (st.1:Int))] W fun e w'=>e=.returned (.string (I ((st.1 * st.1:Nat):Int)))∧Ext W w') ∧
   (∀ W,Ext w W→Calls Tryz.prog 133 #[.string (I ((st.1 * st.1:Nat):Int)),.string (I ((2 ^ m:Nat):Int))] W fun e w'=>(∃ r,e=.returned (.tuple #[.string (I (l:Nat)),.string r,.int .i64 0]))∧Ext W w') ∧
   (∀ W,Ext w W→Calls Tryz.prog 134 #[.string (I (st.2.1:Int)),.string (I (st.2.1:Int))] W fun e w'=>e=.returned (.string (I ((st.2.1 * st.2.1:Nat):Int)))∧Ext W w') ∧
   (∀ W,Ext w W→Calls Tryz.prog 133 #[.string (I ((st.2.1 * st.2.1:Nat):Int)),.string (I ((2 ^ m:Nat):Int))] W fun e w'=>(∃ r,e=.returned (.tuple #[.string (I (q:Nat)),.string r,.int .i64 0]))∧Ext W w') ∧
   (∀ W,Ext w W→Calls Tryz.prog 172 #[.string (I (q:Int)),.string ⟨#[49]⟩] W fun e w'=>e=.returned (.string (I ((q+1:Nat):Int)))∧Ext W w') ∧
   (∀ W,Ext w W→Calls Tryz.prog 172 #[.string (I (st.2.2:Int)),.string (I (st.2.2:Int))] W fun e w'=>e=.returned (.string (I ((st.2.2+st.2.2:Nat):Int)))∧Ext W w') ∧
   (∃ c:Int,(∀ W,Calls Tryz.prog 225 #[.string (I (l:Int)),.string (I ((2 ^ m+2 ^ m:Nat):Int))] W fun e w'=>e=.returned (.int .i64 c)∧Ext W w') ∧
    ((0≤c∧t=(l / 2,(q+1) / 2+1,st.2.2+st.2.2+1) ∧
     (∀ W,Ext w W→Calls Tryz.prog 172 #[.string (I ((st.2.2+st.2.2:Nat):Int)),.string ⟨#[49]⟩] W fun e w'=>e=.returned (.string (I ((st.2.2+st.2.2+1:Nat):Int)))∧Ext W w') ∧
     (∀ W,Ext w W→Calls Tryz.prog 133 #[.string (I (l:Int)),.string ⟨#[50]⟩] W fun e w'=>(∃ r,e=.returned (.tuple #[.string (I ((l / 2:Nat):Int)),.string r,.int .i64 0]))∧Ext W w') ∧
     (∀ W,Ext w W→Calls Tryz.prog 133 #[.string (I ((q+1:Nat):Int)),.string ⟨#[50]⟩] W fun e w'=>(∃ r,e=.returned (.tuple #[.string (I (((q+1) / 2:Nat):Int)),.string r,.int .i64 0]))∧Ext W w') ∧
     (∀ W,Ext w W→Calls Tryz.prog 172 #[.string (I (((q+1) / 2:Nat):Int)),.string ⟨#[49]⟩] W fun e w'=>e=.returned (.string (I (((q+1) / 2+1:Nat):Int)))∧Ext W w')) ∨
     (c<0∧t=(l,q+1,st.2.2+st.2.2)∧∃ c2:Int,c2<0∧(∀ W,Calls Tryz.prog 225 #[.string (I ((q+1:Nat):Int)),.string (I ((2 ^ m+2 ^ m:Nat):Int))] W fun e w'=>e=.returned (.int .i64 c2)∧Ext W w')))):=by
  intro k st hk hst;obtain ⟨t,ht,hnx⟩:=zlu hf hk hst;obtain ⟨l,q,hl,hq,b1,b2,b3,hcase⟩:=zlr ht;have s1:=zml hu0 (x:=st.1) (by rw [← hl];exact b1);have s2:=zml hu0 (x:=st.2.1) (by rw [← hq];omega);have hdm:∀ (a b:Nat) W,Ext w W→0<b→a≤100 * (2 ^ m * 2 ^ m)→b≤100 * (2 ^ m * 2 ^ m)→Calls Tryz.prog 133 #[.string (I (a:Int)),.string (I (b:Int))] W fun e w'=>(∃ r,e=.returned (.tuple #[.string (I ((a / b:Nat):Int)),.string r,.int .i64 0]))∧Ext W w':=fun a b W hE hb ha hb2=>by
   have:=zdC (a:Int) (b:Int) W (he.ext hE) (by omega) (hF _ ha) (hF _ hb2);rw [zmm] at this;exact this.mono fun e w' ⟨h1,h2⟩=>⟨⟨_,h1⟩,h2⟩
  have had:∀ (a b:Nat) W,Ext w W→a≤100 * (2 ^ m * 2 ^ m)→b≤100 * (2 ^ m * 2 ^ m)→Calls Tryz.prog 172 #[.string (I (a:Int)),.string (I (b:Int))] W fun e w'=>e=.returned (.string (I ((a+b:Nat):Int)))∧Ext W w':=fun a b W hE ha hb2=>by
   have:=zdh (a:Int) (b:Int) W (he.ext hE) (hF _ ha) (hF _ hb2);rwa [← Int.natCast_add] at this
  have hmu:∀ (a:Nat) W,Ext w W→a≤100 * (2 ^ m * 2 ^ m)→Calls Tryz.prog 134 #[.string (I (a:Int)),.string (I (a:Int))] W fun e w'=>e=.returned (.string (I ((a * a:Nat):Int)))∧Ext W w':=fun a W hE ha=>by
   have:=zbT (a:Int) (a:Int) W (he.ext hE) (hF _ ha) (hF _ ha);rwa [← Int.natCast_mul] at this
  have hone:∀ (a:Nat) W,Ext w W→a≤100 * (2 ^ m * 2 ^ m)→Calls Tryz.prog 172 #[.string (I (a:Int)),.string ⟨#[49]⟩] W fun e w'=>e=.returned (.string (I ((a+1:Nat):Int)))∧Ext W w':=fun a W hE ha=>by
   have:=had a 1 W hE ha (by omega);rwa [show ((1:Nat):Int)=(1:Int) from rfl,zmg] at this
  have htwo:∀ (a:Nat) W,Ext w W→a≤100 * (2 ^ m * 2 ^ m)→Calls Tryz.prog 133 #[.string (I (a:Int)),.string ⟨#[50]⟩] W fun e w'=>(∃ r,e=.returned (.tuple #[.string (I ((a / 2:Nat):Int)),.string r,.int .i64 0]))∧Ext W w':=fun a W hE ha=>by
   have:=hdm a 2 W hE (by omega) ha (by omega);rwa [show ((2:Nat):Int)=(2:Int) from rfl,zmf] at this
  have hcm:∀ (a b:Nat),a≤100 * (2 ^ m * 2 ^ m)→b≤100 * (2 ^ m * 2 ^ m)→∀ W,Calls Tryz.prog 225 #[.string (I (a:Int)),.string (I (b:Int))] W fun e w'=>e=.returned (.int .i64 (zbc (a:Int) (b:Int)))∧Ext W w':=fun a b ha hb2 W=>zbO _ _ W (hF _ ha) (hF _ hb2);refine ⟨t,l,q,hnx,fun W hE=>hmu _ W hE (by omega),fun W hE=>?_,fun W hE=>hmu _ W hE (by omega),fun W hE=>?_,fun W hE=>hone _ W hE (by omega),fun W hE=>had _ _ W hE (by omega) (by omega),?_⟩
  ·have:=hdm (st.1 * st.1) (2 ^ m) W hE hu0 (by omega) (by omega);rwa [← hl] at this
  ·have:=hdm (st.2.1 * st.2.1) (2 ^ m) W hE hu0 (by omega) (by omega);rwa [← hq] at this
  ·refine ⟨_,hcm l (2 ^ m+2 ^ m) (by omega) (by omega),?_⟩;rcases hcase with ⟨g1,rfl⟩ | ⟨g1,g2,rfl⟩
   ·left;refine ⟨?_,rfl,fun W hE=>hone _ W hE (by omega),fun W hE=>htwo _ W hE (by omega),fun W hE=>htwo _ W hE (by omega),fun W hE=>hone _ W hE (by omega)⟩;rcases Nat.lt_or_ge (2 ^ m+2 ^ m) l with g | g
    ·rw [zbf (by omega)];omega
    ·rw [zbe (by omega)];omega
   ·right;exact ⟨by rw [zbd (by omega)];omega,rfl,_,by rw [zbd (by omega)];omega,hcm (q+1) (2 ^ m+2 ^ m) (by omega) (by omega)⟩
 have hp2:(p:Int) % 18446744073709551616=(p:Int):=by omega
 have hlbm:((lb p:Nat):Int)≤m∧(0:Int)≤((lb p:Nat):Int):=by omega
 have hsub:((m - lb p:Nat):Int)=(m:Int) - ((lb p:Nat):Int):=by omega
 rw [hsub] at h4;have hp5:p≤5:=by omega
 have hlb2:lb p≤2:=by omega
 have hm2:m≤2112:=by omega
 clear hm hF hF1 hF2 huu hfi hu0 hlb he hp hsub;generalize hs0':dg0 p m=s0 at *;generalize hU:2 ^ m=U at *;generalize 2 ^ (m - lb p)=V at *;clear hU;generalize lb p=b at *;have hfin:=hf;have H1:=Lib.hid h1;have H2:=Lib.hid h2;have H3:=Lib.hid h3;have H4:=Lib.hid h4;have H5:=Lib.hid h5;have H6:=Lib.hid h6;have H7:=Lib.hid h7;have Hround:=Lib.hid hround;have Hs0:=Lib.hid hs0;have Hfin:=Lib.hid hfin;clear h1 h2 h3 h4 h5 h6 h7 hround hs0 hfin;clear hf hs0';go_enter Tryz.func199,Tryz.ntmps199
 go_wp2_with fail
 refine (H1.out _).mono ?_;rintro e w1 ⟨rfl,rfl⟩;go_wp2_with fail
 refine (H2.out _ (Ext.refl w)).mono ?_;rintro e w2 ⟨rfl,hx2⟩;have Hx2:=Lib.hid hx2;clear hx2;go_wp2_with fail
 refine (H3.out w2 Hx2.out).mono ?_;rintro e w3 ⟨rfl,hx3⟩;have Hx3:=Lib.hid (Hx2.out.trans hx3);clear hx3;go_wp2_with fail
 refine (H4.out w3 Hx3.out).mono ?_;rintro e w4 ⟨rfl,hx4⟩;have Hx4:=Lib.hid (Hx3.out.trans hx4);clear hx4;go_wp2_with fail
 refine (H5.out w4 Hx4.out).mono ?_;rintro e w5 ⟨rfl,hx5⟩;have Hx5:=Lib.hid (Hx4.out.trans hx5);clear hx5;go_wp2_with fail
 refine (H6.out w5 Hx5.out).mono ?_;rintro e w6 ⟨rfl,hx6⟩;have Hx6:=Lib.hid (Hx5.out.trans hx6);clear hx6;go_wp2_with fail
 refine (H7.out w6 Hx6.out).mono ?_;rintro e w7 ⟨rfl,hx7⟩;have Hx7:=Lib.hid (Hx6.out.trans hx7);clear hx7;go_wp2_with fail
 go_loopw [50,14,15,16] (fun i lo hi ou wr=>zmo n U s0 w i lo hi ou wr) (fun i _ _ _ _=>n - (zag i).toNat)
 case atStart=>exact ⟨0,s0,rfl,Nat.zero_le _,rfl,by simp only [Hs0.out,Int.natCast_mul],by simp only [Hs0.out,Int.natCast_mul],by simp only [Hs0.out],Hx7.out⟩
 case round =>
  obtain ⟨k,st,rfl,hk,hst,rfl,rfl,rfl,hE⟩:=hrel;have HE:=Lib.hid hE;clear hE;by_cases hlt:k<n
  ·obtain ⟨t,l,q,hnx,g1,g2,g3,g4,g5,g6,c,g7,hcase⟩:=Hround.out k st hlt hst;have Hnx:=Lib.hid hnx;have G1:=Lib.hid g1;have G2:=Lib.hid g2;have G3:=Lib.hid g3;have G4:=Lib.hid g4;have G5:=Lib.hid g5;have G6:=Lib.hid g6;have G7:=Lib.hid g7;clear g1 g2 g3 g4 g5 g6 g7;clear hnx hst;go_wp2_with fail
   refine (G1.out _ HE.out).mono ?_;rintro e v1 ⟨rfl,hx⟩;have HE1:=Lib.hid (HE.out.trans hx);clear hx;go_wp2_with fail
   refine (G2.out _ HE1.out).mono ?_;rintro e v2 ⟨⟨r2,rfl⟩,hx⟩;have HE2:=Lib.hid (HE1.out.trans hx);clear hx;go_wp2_with fail
   refine (G3.out _ HE2.out).mono ?_;rintro e v3 ⟨rfl,hx⟩;have HE3:=Lib.hid (HE2.out.trans hx);clear hx;go_wp2_with fail
   refine (G4.out _ HE3.out).mono ?_;rintro e v4 ⟨⟨r4,rfl⟩,hx⟩;have HE4:=Lib.hid (HE3.out.trans hx);clear hx;go_wp2_with fail
   refine (G5.out _ HE4.out).mono ?_;rintro e v5 ⟨rfl,hx⟩;have HE5:=Lib.hid (HE4.out.trans hx);clear hx;go_wp2_with fail
   refine (G6.out _ HE5.out).mono ?_;rintro e v6 ⟨rfl,hx⟩;have HE6:=Lib.hid (HE5.out.trans hx);clear hx;go_wp2_with fail
   refine (G7.out _).mono ?_;rintro e v7 ⟨rfl,hx⟩;have HE7:=Lib.hid (HE6.out.trans hx);clear hx;rcases hcase with ⟨hc,rfl,a1,a2,a3,a4⟩ | ⟨hc,rfl,c2,hc2,a1⟩
   ·have A1:=Lib.hid a1;have A2:=Lib.hid a2;have A3:=Lib.hid a3;have A4:=Lib.hid a4;clear a1 a2 a3 a4;go_wp2_with fail
    refine (A1.out _ HE7.out).mono ?_;rintro e v8 ⟨rfl,hx⟩;have HE8:=Lib.hid (HE7.out.trans hx);clear hx;go_wp2_with fail
    refine (A2.out _ HE8.out).mono ?_;rintro e v9 ⟨⟨r9,rfl⟩,hx⟩;have HE9:=Lib.hid (HE8.out.trans hx);clear hx;go_wp2_with fail
    refine (A3.out _ HE9.out).mono ?_;rintro e v10 ⟨⟨r10,rfl⟩,hx⟩;have HE10:=Lib.hid (HE9.out.trans hx);clear hx;go_wp2_with fail
    refine (A4.out _ HE10.out).mono ?_;rintro e v11 ⟨rfl,hx⟩;have HE11:=Lib.hid (HE10.out.trans hx);clear hx;go_wp2_with fail
    go_roundw
    case rel=>exact ⟨k+1,_,by go_num,by omega,Hnx.out,rfl,rfl,rfl,HE11.out⟩
    case measure=>simp [zag];omega
   ·have A1:=Lib.hid a1;clear a1;go_wp2_with fail
    refine (A1.out _).mono ?_;rintro e v8 ⟨rfl,hx⟩;have HE8:=Lib.hid (HE7.out.trans hx);clear hx;go_wp2_with fail
    go_roundw
    case rel=>exact ⟨k+1,_,by go_num,by omega,Hnx.out,rfl,rfl,rfl,HE8.out⟩
    case measure=>simp [zag];omega
  ·obtain rfl:k=n:=by omega
   have hst2:some st=some fin:=hst.symm.trans Hfin.out;injection hst2 with hst2;subst hst2;go_wp2
   go_ret2
   exact ⟨rfl,HE.out⟩
theorem zmq (p:Int)(n:Nat)(w:World)(he:Env w)(hp:zlH p)(hn:Lad n) :
  Calls Tryz.prog 171 #[.int .i64 p,.int .i64 n] w fun e w'=>e=.returned (.string (I (LG p n:Int)))∧Ext w w':=by
 have hn48:=zlI hn;rcases Int.decEq p 2 with h2 | h2
 ·have h35:p=3∨p=5:=by rcases hp with h | h | h <;> omega
  obtain ⟨s,hs,hv⟩:=zl8 h35 hn;obtain ⟨q,rfl⟩:∃ q:Nat,p=q:=⟨p.toNat,by omega⟩;have h1:=zmp q (n+64) n s w he (by omega) rfl hn48 hs;rw [hv] at h1;have hnn:((n+64:Nat):Int)=(n:Int)+64:=by omega
  rw [hnn] at h1;generalize LG q n=L at *;clear hs hv hp h35 hn he hnn;have H1:=Lib.hid h1;clear h1;go_enter Tryz.func171,Tryz.ntmps171
  go_wp2_with fail
  go_loopw [7] (fun v wr=>v=.int .i64 ((n:Int)+64)∧wr=w) (fun _ _=>0)
  case atStart=>exact ⟨rfl,rfl⟩
  case round =>
   obtain ⟨rfl,rfl⟩:=hrel;go_wp2_with fail
   refine H1.out.mono ?_;rintro e w1 ⟨rfl,hx1⟩;have Hx1:=Lib.hid hx1;clear hx1;go_wp2
   try rw [Exit.noGoto_ret]
   go_ret
   exact ⟨rfl,Hx1.out⟩
 ·subst h2;have h1:=zmi n w he (by omega);rw [show ((2 ^ n:Nat):Int)=(LG 2 n:Int) by unfold LG;rw [if_pos rfl]] at h1;generalize LG 2 n=L at *;clear hn he hp;have H1:=Lib.hid h1;clear h1;go_enter Tryz.func171,Tryz.ntmps171
  go_wp2_with fail
  refine H1.out.mono ?_;rintro e w1 ⟨rfl,hx1⟩;have Hx1:=Lib.hid hx1;clear hx1;go_wp2
  try rw [Exit.noGoto_ret]
  go_ret
  exact ⟨rfl,Hx1.out⟩
end
section
open Go
section
variable {n l : Nat} {P : Program} {ops : Array Oper} {Q : Exit → Act → World → Prop} {md : Region.Mode}
theorem zmr {o:Oper}{a:Act}{w:World}{K:Act→World→Prop}(h:o.wp P a w K Q):o.wpIn Fence.wide n P a w K Q:=by
 unfold Oper.wp at h;refine ⟨fun _ _=>trivial,?_⟩;show o.uponIn Fence.wide n P a K Q ((execOp a.eval o).run P w);generalize (execOp a.eval o).run P w=r at h;unfold Oper.upon at h;unfold Oper.uponIn;split at h
 ·exact h
 ·exact h
 ·exact h
 ·exact ⟨fun g=>absurd g (by simp [Fence.wide]),callsIn_wide.2 h⟩
 ·exact ⟨fun g=>absurd g (by simp [Fence.wide]),fun c cs _=>let ⟨v,w',r,s⟩:=h c cs;⟨v,w',r,stepsIn_wide.2 s⟩⟩
 ·exact h
 ·exact h.elim
theorem zms (hL:¬ LetsOut Q):∀ (fuel:Nat)(listed:Array Bool)(a:Act)(w:World),wpAny P md ops Q fuel listed a w→wpAnyIn Fence.wide n P md ops Q fuel listed a w
 | 0,_,_,_,h=>h
 | fuel+1,listed,a,w,h=>⟨h.1,fun i hi=>by
   have hi2:=h.2 i hi;unfold wpOp at hi2;unfold wpOpIn
   cases ho:ops[i]? with
   | none=>rw [ho] at hi2;exact zms hL fuel _ a w hi2
   | some o =>
    rw [ho] at hi2
    dsimp only at hi2 ⊢
    split at hi2
    ·rename_i hw
     rw [if_pos hw]
     rcases hi2 with g | ⟨_,g⟩
     ·exact Oper.wpIn_mono (fun a w k=>zms hL fuel _ a w k) (zmr g)
     ·exact absurd g hL
    ·rename_i hw
     rw [if_neg hw]
     exact ⟨fun _ _=>trivial,zms hL fuel _ _ w hi2⟩⟩
theorem zmt {id:Nat}{a:Act}{w:World}(z:Nat)(S:World→Prop)(hm:P.follows .mixedOrders=true)(h:zg9 ops=true)(hL:¬ LetsOut (NoPanic Q))(hS:S w.drew)
  (H:S w.drew→zfI P .any ops (NoPanic Q) S z ops.size (Array.replicate ops.size false) a w.drew):(Code.region id ops true).wpIn (Fence.wide.inRound l) n P Q a w :=
 zgD (F:=Fence.wide) hm h (zms hL _ _ _ _ (zfI.any (H hS)))
end
end
end Go.Proofs.YtbkfhacmekbniaaGreatDoor
