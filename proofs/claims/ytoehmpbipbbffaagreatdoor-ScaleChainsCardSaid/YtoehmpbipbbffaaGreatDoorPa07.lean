/- Walks: decimal.Canonical, decimal.Check; whole.Check; fraction.Check at right numbers. Plain: sizes over 2.3 and 2.3.5 by a linear form of twenty-six bits; in the box no form comes near zero. Sizes in memory: slices of fractions (two cells an element), slices of sizes. -/
import Derived.Test.YtoehmpbipbbffaaGreatDoorPa06
set_option maxRecDepth 100000
set_option maxHeartbeats 1000000
namespace Go.Proofs.YtoehmpbipbbffaaGreatDoor
section
open Go.RowKit Go.Lib
def isD (c:UInt8):Bool:=decide (48≤c.toNat) && decide (c.toNat≤57)
def ze5 (l:List UInt8):Bool:=l.all isD && (decide (l.length=1) || (decide (1<l.length) && decide (l.getD 0 48 ≠ 48)))
theorem ze6 {l:List UInt8}{k:Nat}(hk:k<l.length)(h:isD (l.getD k 0)=false):ze5 l=false:=by
 have:l.all isD=false:=by
  rw [List.all_eq_false];refine ⟨l.getD k 0,?_,by rw [h];simp⟩;rw [List.getD_eq_getElem?_getD,List.getElem?_eq_getElem hk];exact List.getElem_mem hk
 unfold ze5;rw [this];rfl
theorem ze7 {l:List UInt8}{k:Nat}(hk:k<l.length)(h:(l.take k).all isD=true)(h2:isD (l.getD k 0)=true):(l.take (k+1)).all isD=true:=by
 rw [List.take_succ_eq_append_getElem hk,List.all_append,h];rw [List.getD_eq_getElem?_getD,List.getElem?_eq_getElem hk] at h2;simpa using h2
theorem ze8 {a b:Bool}(h:a=b):Ending.returned (.bool a)=.returned (.bool b):=by rw [h]
theorem ze9 {l:List UInt8}(ha:l.all isD=true)(h:(l.length:Int)=1):ze5 l=true:=by
 unfold ze5;rw [ha,decide_eq_true (by omega)];rfl
theorem zeA {l:List UInt8}(h:¬ (l.length:Int)=1)(h2:(l.length:Int)≤1):((l.length:Int) == 1)=ze5 l:=by
 unfold ze5;rw [decide_eq_false (p:=l.length=1) (by omega),decide_eq_false (p:=1<l.length) (by omega),beq_eq_false_iff_ne.2 h];simp
theorem zeB {l:List UInt8}(ha:l.all isD=true)(h:¬ (l.length:Int)=1)(h2:(1:Int)<l.length)(h3:0<(⟨l.toArray⟩:ByteArray).size):((l.length:Int) == 1 || (((⟨l.toArray⟩:ByteArray)[0]'h3).toNat:Int) != 48)=ze5 l:=by
 unfold ze5;rw [ha,decide_eq_false (p:=l.length=1) (by omega),decide_eq_true (p:=1<l.length) (by omega),beq_eq_false_iff_ne.2 h];have e:(⟨l.toArray⟩:ByteArray)[0]'h3=l.getD 0 48:=by
  have h1:(⟨l.toArray⟩:ByteArray)[0]'h3=l.toArray[0]'(by simp;omega):=rfl;rw [h1,List.getD_eq_getElem?_getD,List.getElem?_eq_getElem (by omega)];simp
 rw [e];simp only [Bool.false_or,Bool.true_and];rw [Bool.eq_iff_iff,bne_iff_ne,decide_eq_true_iff];constructor
 ·intro g k;rw [k] at g;exact g rfl
 ·intro g k;apply g;apply UInt8.toNat_inj.1;show (l.getD 0 48).toNat=48;omega
theorem zeC (l:List UInt8)(w:World)(hl:l.length≤1000000) :
  Calls Tryz.prog 190 #[.string ⟨l.toArray⟩] w fun e w'=>e=.returned (.bool (ze5 l))∧Ext w w':=by
 have kc:=za5 ⟨l.toArray⟩ l rfl;have hsz:(⟨l.toArray⟩:ByteArray).size=l.length:=by simp [ByteArray.size]
 obtain ⟨r,hr⟩:∃ r,r=ze5 l:=⟨_,rfl⟩;rw [← hr];have Hr:=hid hr;have Hsz:=hid hsz;clear hr hsz;go_enter Tryz.func190,Tryz.ntmps190
 go_wp2_with fail
 have hbx:Ext w (Lib.bytesWorld w 5 ⟨l.toArray⟩):=Ext.bytes w _ _;have hbc:=zar w 5 l;generalize Lib.bytesWorld w 5 ⟨l.toArray⟩=W1 at *;clear kc;have Hbx:=hid hbx;have Hbc:=hid hbc;clear hbx hbc;go_loop [4,8] (fun v4 v8=>∃ k:Nat,k≤l.length∧v8=.int .i64 k∧(l.take k).all isD=true) (fun _ v8=>l.length - (zag v8).toNat)
 case atStart=>exact ⟨0,Nat.zero_le _,rfl,rfl⟩
 case round =>
  obtain ⟨k,hk,rfl,hall⟩:=hrel;have Hall:=hid hall;clear hall;by_cases hlt:k<l.length
  ·have hcell:=Hbc.out k hlt
   cases hd:isD (l.getD k 0) with
   | true =>
    have hta:=ze7 hlt Hall.out hd
    have hd2:48≤(l.getD k 0).toNat∧(l.getD k 0).toNat≤57:=by unfold isD at hd;simpa using hd
    generalize (l.getD k 0).toNat=c at *
    obtain ⟨h1,h2⟩:=hd2
    have t1:decide ((c:Int)<48)=false:=decide_eq_false (by omega)
    have t2:decide ((57:Int)<c)=false:=decide_eq_false (by omega)
    have t3:decide (c<48)=false:=decide_eq_false (by omega)
    have t4:decide (57<c)=false:=decide_eq_false (by omega)
    have Hta:=hid hta;clear hta
    clear hd
    go_wp2
    go_round
    case rel=>exact ⟨k+1,by omega,by go_num,Hta.out⟩
    case measure=>simp [zag];omega
   | false =>
    have hno:=ze6 hlt hd
    have hr2:r=false:=by rw [Hr.out,hno]
    have hd2:(l.getD k 0).toNat<48∨(¬ (l.getD k 0).toNat<48∧57<(l.getD k 0).toNat):=by
     unfold isD at hd;by_cases g:(l.getD k 0).toNat<48
     ·exact .inl g
     ·right;refine ⟨g,?_⟩;rw [decide_eq_true (by omega),Bool.true_and] at hd;have:=of_decide_eq_false hd;omega
    generalize (l.getD k 0).toNat=c at *
    have Hr2:=hid hr2
    clear hd hno hr2
    rcases hd2 with h1 | ⟨h1,h2⟩
    ·have t1:decide ((c:Int)<48)=true:=decide_eq_true (by omega)
     have t3:decide (c<48)=true:=decide_eq_true (by omega)
     go_wp2
     go_ret
     exact ⟨by rw [Hr2.out];rfl,Hbx.out⟩
    ·have t1:decide ((c:Int)<48)=false:=decide_eq_false (by omega)
     have t2:decide ((57:Int)<c)=true:=decide_eq_true (by omega)
     have t3:decide (c<48)=false:=decide_eq_false (by omega)
     have t4:decide (57<c)=true:=decide_eq_true (by omega)
     go_wp2
     go_ret
     exact ⟨by rw [Hr2.out];rfl,Hbx.out⟩
  ·obtain rfl:k=l.length:=by omega
   have ha:=Hall.out;rw [List.take_length] at ha;have Ha:=hid ha;clear ha;go_wp2
   ·go_ret
    exact ⟨ze8 (by rw [Hr.out,ze9 Ha.out (by assumption)]),Hbx.out⟩
   ·go_ret
    exact ⟨ze8 (by rw [Hr.out];exact zeB Ha.out (by assumption) (by assumption) _),Hbx.out⟩
   ·go_ret
    exact ⟨ze8 (by rw [Hr.out];exact zeA (by assumption) (by assumption)),Hbx.out⟩
theorem zeD (n:Nat):ze5 (decDigits n)=true:=by
 have hd:(decDigits n).all isD=true:=by
  rw [List.all_eq_true];intro c hc;have:=Dec.dig_dec n c hc;unfold isD;rw [decide_eq_true this.1,decide_eq_true this.2];rfl
 unfold ze5;rw [hd,Bool.true_and,decDigits_length];have key:∀ n,0<n→(decDigits n).getD 0 48 ≠ 48:=by
  intro n;induction n using Nat.strongRecOn with
  | _ n ih =>
   intro hn
   rw [decDigits]
   split
   ·rename_i h
    intro e
    have e:UInt8.ofNat (48+n)=48:=e
    have e2:=congrArg UInt8.toNat e
    have e3:(UInt8.ofNat (48+n)).toNat=(48+n) % 256:=by simp
    rw [e3] at e2
    have e4:(48:UInt8).toNat=48:=rfl
    rw [e4] at e2
    omega
   ·rename_i h
    have h1:=ih (n / 10) (by omega) (by omega)
    have h2:0<(decDigits (n / 10)).length:=by rw [decDigits_length];exact nDigits_pos _
    rw [List.getD_eq_getElem?_getD,List.getElem?_append_left h2,← List.getD_eq_getElem?_getD]
    exact h1
 by_cases h1:nDigits n=1
 ·rw [decide_eq_true h1];rfl
 ·have hp:=nDigits_pos n;have hn:0<n:=by
   rcases Nat.eq_zero_or_pos n with e | e
   ·subst e;have:nDigits 0≤1:=Dec.nDigits_le (by omega) (by omega);omega
   ·exact e
  rw [decide_eq_false h1,decide_eq_true (by omega),decide_eq_true (key n hn)];rfl
theorem zeE (l:List UInt8)(w:World)(hl:l.length≤1000000) :
  Calls Tryz.prog 150 #[.string ⟨l.toArray⟩] w fun e w'=>e=.returned (.int .i64 (if ze5 l=true∧l.length≤400 then 0 else 2))∧Ext w w':=by
 have hc:=zeC l w hl;have hsz:(⟨l.toArray⟩:ByteArray).size=l.length:=by simp [ByteArray.size]
 cases hb:ze5 l with
 | false =>
  rw [if_neg (by simp)]
  rw [hb] at hc
  have Hc:=hid hc;have Hsz:=hid hsz;clear hc hsz
  go_enter Tryz.func150,Tryz.ntmps150
  go_wp2_with fail
  refine (Hc.out).mono ?_
  rintro e w1 ⟨rfl,hx1⟩
  have Hx1:=hid hx1;clear hx1
  go_wp2
  go_ret
  exact ⟨rfl,Hx1.out⟩
 | true =>
  rw [hb] at hc
  by_cases h4:l.length≤400
  ·rw [if_pos ⟨rfl,h4⟩]
   have h5:¬ (400:Int)<(l.length:Int):=by omega
   have Hc:=hid hc;have Hsz:=hid hsz;clear hc hsz
   go_enter Tryz.func150,Tryz.ntmps150
   go_wp2_with fail
   refine (Hc.out).mono ?_
   rintro e w1 ⟨rfl,hx1⟩
   have Hx1:=hid hx1;clear hx1
   go_wp2
   go_ret
   exact ⟨rfl,Hx1.out⟩
  ·rw [if_neg (by simp [h4])]
   have h5:(400:Int)<(l.length:Int):=by omega
   have Hc:=hid hc;have Hsz:=hid hsz;clear hc hsz
   go_enter Tryz.func150,Tryz.ntmps150
   go_wp2_with fail
   refine (Hc.out).mono ?_
   rintro e w1 ⟨rfl,hx1⟩
   have Hx1:=hid hx1;clear hx1
   go_wp2
   go_ret
   exact ⟨rfl,Hx1.out⟩
theorem zeF (z:Int)(w:World)(hz:nDigits z.natAbs≤400) :
  Calls Tryz.prog 113 #[.string (I z)] w fun e w'=>e=.returned (.int .i64 0)∧Ext w w':=by
 have hs:=zbB z w (by unfold Fit;omega);have hc:=fun W=>zeE (decDigits z.natAbs) W (by rw [decDigits_length];omega);have hi:(if ze5 (decDigits z.natAbs)=true∧(decDigits z.natAbs).length≤400 then (0:Int) else 2)=0:=by
  rw [if_pos ⟨zeD _,by rw [decDigits_length];exact hz⟩]
 rw [hi] at hc;have hc2:∀ W,Calls Tryz.prog 150 #[.string (D z.natAbs)] W fun e w'=>e=.returned (.int .i64 0)∧Ext W w':=hc;have h0:=zbm z.natAbs;by_cases hn:z<0
 ·rw [decide_eq_true hn] at hs;rw [decide_eq_false (by omega)] at h0;generalize D z.natAbs=s at *;clear hc hi;have Hs:=hid hs;have Hc2:=hid hc2;clear hs hc2;go_enter Tryz.func113,Tryz.ntmps113
  go_wp2_with fail
  refine (Hs.out).mono ?_;rintro e w1 ⟨rfl,hx1⟩;have Hx1:=hid hx1;clear hx1;go_wp2_with fail
  refine (Hc2.out w1).mono ?_;rintro e w2 ⟨rfl,hx2⟩;have Hx2:=hid (Hx1.out.trans hx2);clear hx2;go_wp2
  go_ret
  exact ⟨rfl,Hx2.out⟩
 ·rw [decide_eq_false hn] at hs;generalize D z.natAbs=s at *;clear hc hi h0;have Hs:=hid hs;have Hc2:=hid hc2;clear hs hc2;go_enter Tryz.func113,Tryz.ntmps113
  go_wp2_with fail
  refine (Hs.out).mono ?_;rintro e w1 ⟨rfl,hx1⟩;have Hx1:=hid hx1;clear hx1;go_wp2_with fail
  refine (Hc2.out w1).mono ?_;rintro e w2 ⟨rfl,hx2⟩;have Hx2:=hid (Hx1.out.trans hx2);clear hx2;go_wp2
  go_ret
  exact ⟨rfl,Hx2.out⟩
theorem zeG (r:Rat)(w:World)(he:Env w)(hr:Ft 400 r) :
  Calls Tryz.prog 71 #[Rv r] w fun e w'=>e=.returned (.int .i64 0)∧Ext w w':=by
 have hp:=r.den_pos;have hw1:=fun W=>zeF r.num W hr.1;have hw2:=fun W=>zeF (r.den:Int) W (by rw [Int.natAbs_natCast];exact hr.2);have hs:=fun W=>zbK (r.den:Int) W (hr.den (by omega));rw [zbf (by omega)] at hs;have hg:=fun W (h:Ext w W)=>zdI r.num (r.den:Int) W (he.ext h) (hr.num (by omega)) (hr.den (by omega));have hred:Nat.gcd r.num.natAbs (r.den:Int).natAbs=1:=by rw [Int.natAbs_natCast];exact r.reduced
 rw [hred,show ((1:Nat):Int)=1 from rfl] at hg;have t1:((I 1).toList == [49])=true:=by rw [zdS];rfl
 have t2:((I 1).toList != [49])=false:=by rw [bne,t1];rfl
 have hE:Ext w (w.alloc (.cells #[.string (I r.num),.string (I (r.den:Int))] 57)):=(Ext.refl _).alloc _;have b1:=zdK.new w (.string (I r.num)) (.string (I (r.den:Int)));unfold Rv;generalize I 1=so at *;generalize I r.num=sa at *;generalize I (r.den:Int)=sb at *;clear hred he hr;have Hw1:=hid hw1;have Hw2:=hid hw2;have Hs:=hid hs;have Hg:=hid hg;have HE:=hid hE;have B1:=hid b1;clear hw1 hw2 hs hg hE b1;go_enter Tryz.func71,Tryz.ntmps71
 go_wp2_with fail
 refine (Hw1.out _).mono ?_;rintro e w1 ⟨rfl,hx1⟩;have Hx1:=hid hx1;clear hx1;have hc1:=(B1.out.ext Hx1.out).c1;go_wp2_with fail
 refine (Hw2.out w1).mono ?_;rintro e w2 ⟨rfl,hx2⟩;have Hx2:=hid (Hx1.out.trans hx2);clear hx2;have hc0:=(B1.out.ext Hx2.out).c0;have hc1:=(B1.out.ext Hx2.out).c1;go_wp2_with fail
 refine (Hs.out _).mono ?_;rintro e W3 ⟨rfl,rfl⟩;go_wp2_with fail
 refine (Hg.out _ (HE.out.trans Hx2.out)).mono ?_;rintro e w4 ⟨rfl,hx4⟩;have Hx4:=hid (Hx2.out.trans hx4);clear hx4;go_wp2
 go_ret
 exact ⟨rfl,HE.out.trans Hx4.out⟩
end
section
def lg (p:Int):Int:=if p=2 then 67108864 else if p=3 then 106365032 else 155821956
def loP (p f:Int):Int:=if p=2 then f * lg p else min (f * lg p) (f * (lg p+1))
def hiP (p f:Int):Int:=if p=2 then f * lg p else max (f * lg p) (f * (lg p+1))
def lowT : List (Int × Int)→Int | []=>0 | e::l=>loP e.1 e.2+lowT l
def higT : List (Int × Int)→Int | []=>0 | e::l=>hiP e.1 e.2+higT l
def zeH : List (Int × Int)→Int | []=>0 | e::l=>e.2 * lg e.1+zeH l
def zeI : List (Int × Int)→Int | []=>0 | e::l=>(if e.1=2 then 0 else (e.2.natAbs:Int))+zeI l
theorem zeJ (a b:List (Int × Int)):lowT (a++b)=lowT a+lowT b:=by
 induction a with
 | nil=>simp [lowT]
 | cons e a ih=>simp only [List.cons_append,lowT,ih];omega
theorem zeK (a b:List (Int × Int)):higT (a++b)=higT a+higT b:=by
 induction a with
 | nil=>simp [higT]
 | cons e a ih=>simp only [List.cons_append,higT,ih];omega
theorem zeL (p f:Int):f * lg p - (if p=2 then 0 else (f.natAbs:Int))≤loP p f∧loP p f≤f * lg p∧f * lg p≤hiP p f∧hiP p f≤f * lg p+(if p=2 then 0 else (f.natAbs:Int)):=by
 unfold loP hiP;by_cases h:p=2
 ·simp [h]
 ·rw [if_neg h,if_neg h,if_neg h];have:f * (lg p+1)=f * lg p+f:=by rw [Int.mul_add,Int.mul_one]
  rw [this];omega
theorem zeM (l:List (Int × Int)):zeH l - zeI l≤lowT l∧lowT l≤zeH l∧zeH l≤higT l∧higT l≤zeH l+zeI l:=by
 induction l with
 | nil=>simp [zeH,zeI,lowT,higT]
 | cons e l ih =>
  have:=zeL e.1 e.2
  simp only [zeH,zeI,lowT,higT]
  omega
def dn (x:List Rat):Nat:=x.foldl (fun d r=>Nat.lcm d r.den) 1
def fcd (d:Nat)(x:List Rat):List Int:=x.map fun r=>r.num * ((d / r.den:Nat):Int)
def tms (p:List Int)(d:Nat)(x:List Rat):List (Int × Int):=(p.zip (fcd d x)).filter fun e=>e.2 != 0
theorem zeN (l:List (Int × Int)):lowT (l.filter fun e=>e.2 != 0)=lowT l∧higT (l.filter fun e=>e.2 != 0)=higT l∧zeH (l.filter fun e=>e.2 != 0)=zeH l∧zeI (l.filter fun e=>e.2 != 0)=zeI l:=by
 induction l with
 | nil=>simp
 | cons e l ih =>
  rw [List.filter_cons]
  by_cases h:e.2=0
  ·rw [if_neg (by simp [h])]
   simp only [lowT,higT,zeH,zeI,h,ih,loP,hiP]
   simp
  ·rw [if_pos (by simp [h])]
   simp only [lowT,higT,zeH,zeI,ih,and_self]
def sF : List Int→List Rat→Rat
 | p::ps,r::x=>r * (lg p:Rat)+sF ps x
 | _,_=>0
theorem zeO {r:Rat}{d:Nat}(h:r.den ∣ d):((r.num * ((d / r.den:Nat):Int):Int):Rat)=(d:Rat) * r:=by
 obtain ⟨k,rfl⟩:=h;have h0:0<r.den:=r.den_pos;rw [Nat.mul_div_cancel_left _ h0];have e:r=(r.num:Rat) / (r.den:Rat):=by
  have:=Rat.mkRat_eq_div r.num r.den;rw [Rat.mkRat_self] at this;exact this
 have e2:r * (r.den:Rat)=(r.num:Rat):=by
  have h3:(r.den:Rat) ≠ 0:=by
   intro h;have:=Rat.natCast_inj.1 (show ((r.den:Nat):Rat)=((0:Nat):Rat) from h);omega
  have:=Rat.div_mul_cancel (a:=(r.num:Rat)) h3;rw [← e] at this;exact this
 rw [Rat.intCast_mul,← e2,Rat.natCast_mul];show r * (r.den:Rat) * (((k:Nat):Int):Rat)=_;rw [Rat.intCast_natCast];grind
theorem zeP (d:Nat):∀ (p:List Int)(x:List Rat),(∀ r∈x,r.den ∣ d)→((zeH (p.zip (fcd d x)):Int):Rat)=(d:Rat) * sF p x
 | [],x,_=>by simp [fcd,zeH,sF]
 | _::_,[],_=>by simp [fcd,zeH,sF]
 | p::ps,r::x,h=>by
  have ih:=zeP d ps x fun s hs=>h s (List.mem_cons_of_mem _ hs);have e:=zeO (h r (List.mem_cons_self ..));simp only [fcd] at ih;simp only [fcd,List.map_cons,List.zip_cons_cons,zeH,sF];rw [Rat.intCast_add,ih,Rat.intCast_mul,e];grind
theorem zeQ (x:List Rat):∀ r∈x,r.den ∣ dn x:=by
 have key:∀ (l:List Rat)(d:Nat),d ∣ l.foldl (fun d r=>Nat.lcm d r.den) d∧∀ r∈l,r.den ∣ l.foldl (fun d r=>Nat.lcm d r.den) d:=by
  intro l;induction l with
  | nil=>intro d;exact ⟨Nat.dvd_refl _,fun r h=>by cases h⟩
  | cons s l ih =>
   intro d
   have:=ih (Nat.lcm d s.den)
   simp only [List.foldl_cons]
   refine ⟨Nat.dvd_trans (Nat.dvd_lcm_left ..) this.1,fun r hr=>?_⟩
   rcases List.mem_cons.1 hr with rfl | hr
   ·exact Nat.dvd_trans (Nat.dvd_lcm_right ..) this.1
   ·exact this.2 r hr
 exact (key x 1).2
theorem zeR (x:List Rat):0<dn x:=by
 have key:∀ (l:List Rat)(d:Nat),0<d→0<l.foldl (fun d r=>Nat.lcm d r.den) d:=by
  intro l;induction l with
  | nil=>intro d h;exact h
  | cons s l ih=>intro d h;exact ih _ (Nat.lcm_pos h s.den_pos)
 exact key x 1 (by omega)
def zeS (x y:List Rat):List Rat:=List.zipWith (·+·) x y
def zeT (x y:List Rat):List Rat:=List.zipWith (· - ·) x y
def zeU (x:List Rat)(k:Rat):List Rat:=x.map (· * k)
theorem zeV : ∀ (p:List Int)(x y:List Rat),x.length=y.length→sF p (zeT x y)=sF p x - sF p y
 | [],x,y,_=>by simp only [sF];grind
 | _::_,[],[],_=>by simp only [sF,zeT,List.zipWith_nil_left];grind
 | p::ps,a::x,b::y,h=>by
  have ih:=zeV ps x y (by simpa using h);simp only [zeT] at ih;simp only [zeT,List.zipWith_cons_cons,sF,ih];grind
def zeW (u v:Nat):Bool :=
 let t:=(u * 106365032+v * 311643912+123212800) % 134217728
 let th:=(u - 256)+(256 - u)+2 * ((v - 128)+(128 - v))
 (Nat.blt th t && Nat.blt (t+th) 134217728) || (Nat.beq u 256 && Nat.beq v 128)
def ck1 (u n:Nat):Bool:=Nat.rec (motive:=fun _=>Bool) true (fun v ih=>cond (zeW u v) ih false) n
def ck2 (n:Nat):Bool:=Nat.rec (motive:=fun _=>Bool) true (fun u ih=>cond (ck1 u 257) ih false) n
theorem zeX : ck2 513=true:=by decide +kernel
theorem zeY (u n:Nat)(h:ck1 u n=true):∀ v,v<n→zeW u v=true:=by
 induction n with
 | zero=>intro v hv;omega
 | succ n ih =>
  have e:ck1 u (n+1)=cond (zeW u n) (ck1 u n) false:=rfl
  rw [e] at h
  intro v hv
  cases hc:zeW u n with
  | false=>rw [hc] at h;cases h
  | true =>
   rw [hc] at h
   rcases Nat.lt_or_ge v n with g | g
   ·exact ih h v g
   ·rw [show v=n by omega];exact hc
theorem zeZ (m n:Nat)(hm:257=m)(h:ck2 n=true):∀ u,u<n→ck1 u m=true:=by
 induction n with
 | zero=>intro u hu;omega
 | succ n ih =>
  have e:ck2 (n+1)=cond (ck1 n 257) (ck2 n) false:=rfl
  rw [e,hm] at h
  intro u hu
  cases hc:ck1 n m with
  | false=>rw [hc] at h;cases h
  | true =>
   rw [hc] at h
   rcases Nat.lt_or_ge u n with g | g
   ·exact ih h u g
   ·rw [show u=n by omega];exact hc
theorem zfa {w q t th:Int}(hw:w=134217728 * q+t)(h1:th<t)(h2:t+th<134217728):th<w.natAbs:=by
 by_cases h:q<0 <;> omega
theorem zfb (A B c:Int)(h1:-256≤B)(h2:B≤256)(h3:-128≤c)(h4:c≤128)(hn:B ≠ 0∨c ≠ 0) :
  (B.natAbs:Int)+2 * (c.natAbs:Int)<(A * 134217728+B * 106365032+c * 311643912).natAbs:=by
 obtain ⟨m,hm⟩:∃ m:Nat,257=m:=⟨_,rfl⟩;obtain ⟨n,hn2⟩:∃ n:Nat,513=n:=⟨_,rfl⟩;have hce:=zeX;rw [hn2] at hce;obtain ⟨u,hu⟩:∃ u:Nat,(u:Int)=B+256:=⟨(B+256).toNat,by omega⟩;obtain ⟨v,hv⟩:∃ v:Nat,(v:Int)=c+128:=⟨(c+128).toNat,by omega⟩;have hc:=zeY _ _ (zeZ m n hm hce u (by omega)) v (by omega);unfold zeW at hc;simp only [Bool.or_eq_true,Bool.and_eq_true,Nat.blt_eq] at hc;rcases hc with ⟨h5,h6⟩ | ⟨h5,h6⟩
 ·refine zfa (q:=A - 501+((u * 106365032+v * 311643912+123212800) / 134217728:Nat)) (t:=((u * 106365032+v * 311643912+123212800) % 134217728:Nat)) ?_ ?_ ?_
  ·omega
  ·omega
  ·omega
 ·have:=Nat.eq_of_beq_eq_true h5;have:=Nat.eq_of_beq_eq_true h6;omega
def zfc (l:List (Int × Int)):Int:=if l=[] then 0 else if 0≤lowT l then 1 else -1
def zfd (l:List (Int × Int)):Prop:=l=[]∨zeI l<(zeH l).natAbs
theorem zfd.cases {l:List (Int × Int)}(h:zfd l):l=[]∨(0<lowT l∧0<zeH l)∨(lowT l<0∧higT l<0∧zeH l<0):=by
 rcases h with h | h
 ·exact .inl h
 ·have:=zeM l;by_cases g:0<zeH l
  ·exact .inr (.inl ⟨by omega,g⟩)
  ·exact .inr (.inr ⟨by omega,by omega,by omega⟩)
def sgQ (r:Rat):Int:=if r<0 then -1 else if 0<r then 1 else 0
theorem zfe {x:List Rat}:(0:Rat)<(dn x:Rat):=Rat.natCast_pos.2 (zeR x)
theorem zff {p:List Int}{x:List Rat}(h:zfd (tms p (dn x) x))(h0:tms p (dn x) x=[]→sF p x=0):zfc (tms p (dn x) x)=sgQ (sF p x):=by
 have e1:=zeP (dn x) p x (zeQ x);have e2:=(zeN (p.zip (fcd (dn x) x))).2.2.1;have hp:=zfe (x:=x);unfold zfc sgQ;rcases h.cases with h1 | ⟨h1,h2⟩ | ⟨h1,h3,h2⟩
 ·rw [if_pos h1,h0 h1];decide
 ·rw [if_neg (by intro e;rw [e] at h2;simp [zeH] at h2),if_pos (by omega)];have h4:(0:Rat)<((zeH (tms p (dn x) x):Int):Rat):=Rat.intCast_pos.2 h2;unfold tms at h4;rw [e2,e1] at h4;have h5:0<sF p x:=by
   have:=Rat.mul_pos_iff_of_pos_left (b:=sF p x) hp;exact this.1 h4
  rw [if_neg (by grind),if_pos h5]
 ·rw [if_neg (by intro e;rw [e] at h2;simp [zeH] at h2),if_neg (by omega)];have h4:((zeH (tms p (dn x) x):Int):Rat)<0:=Rat.intCast_neg_iff.2 h2;unfold tms at h4;rw [e2,e1] at h4;have h5:sF p x<0:=by
   have:=Rat.mul_neg_iff_of_pos_left (b:=sF p x) hp;exact this.1 h4
  rw [if_pos h5]
def Bx (k:Int):List Rat→Prop
 | [a,b]=>∃ A B:Int,a=A∧b * 2=B∧-k≤B∧B≤k
 | [a,b,c]=>∃ A B C:Int,a=A∧b * 2=B∧c=C∧-k≤B∧B≤k∧-k≤2 * C∧2 * C≤k
 | _=>False
def Oc (n:Nat):List Rat→Prop
 | [a,b]=>b=0∧∃ A:Int,a * (n:Rat)=A
 | [a,b,c]=>b=0∧c=0∧∃ A:Int,a * (n:Rat)=A
 | _=>False
theorem zfg {a:Rat}{A:Int}(h:a=A):a.num=A∧a.den=1:=by subst h;exact ⟨rfl,rfl⟩
theorem zfh {b:Rat}{B:Int}(h:b * 2=B):(b.den=1∧b.num * 2=B)∨(b.den=2∧b.num=B):=by
 have h1:b.num * 2=B * b.den:=by
  have e2:b * (b.den:Rat)=(b.num:Rat):=by
   have h3:(b.den:Rat) ≠ 0:=by
    intro h;have:=Rat.natCast_inj.1 (show ((b.den:Nat):Rat)=((0:Nat):Rat) from h);have:=b.den_pos;omega
   have e:b=(b.num:Rat) / (b.den:Rat):=by
    have:=Rat.mkRat_eq_div b.num b.den;rw [Rat.mkRat_self] at this;exact this
   have:=Rat.div_mul_cancel (a:=(b.num:Rat)) h3;rw [← e] at this;exact this
  have:((b.num * 2:Int):Rat)=((B * (b.den:Int):Int):Rat):=by
   rw [Rat.intCast_mul,Rat.intCast_mul,← h,← e2,Rat.intCast_natCast];show b * (b.den:Rat) * 2=_;grind
  exact Rat.intCast_inj.1 this
 have hd:(b.den:Nat) ∣ 2:=by
  have hc:Nat.Coprime b.den b.num.natAbs:=b.reduced.symm;have:b.den ∣ b.num.natAbs * 2:=by
   have h2:=congrArg Int.natAbs h1;rw [Int.natAbs_mul,Int.natAbs_mul,Int.natAbs_natCast] at h2;exact ⟨B.natAbs,by rw [show (2:Int).natAbs=2 from rfl] at h2;rw [h2,Nat.mul_comm]⟩
  exact hc.dvd_of_dvd_mul_left this
 have hl:=Nat.le_of_dvd (by omega) hd;have hp:=b.den_pos;rcases (by omega:b.den=1∨b.den=2) with e | e
 ·left;exact ⟨e,by rw [e] at h1;omega⟩
 ·right;exact ⟨e,by rw [e] at h1;omega⟩
theorem zfi {m e A B c:Int}(hm:m * 2=A * 134217728+B * 106365032+c * 311643912)(hn:B ≠ 0∨c ≠ 0)(h1:-256≤B)(h2:B≤256)(h3:-128≤c)(h4:c≤128)(he:e * 2≤B.natAbs+2 * c.natAbs):e<m.natAbs:=by
 have hf:=zfb A B c h1 h2 h3 h4 hn;generalize A * 134217728+B * 106365032+c * 311643912=v at *;omega
theorem zfj {m e A B c:Int}(hm:m=A * 134217728+B * 106365032+c * 311643912)(hn:B ≠ 0∨c ≠ 0)(h1:-256≤B)(h2:B≤256)(h3:-128≤c)(h4:c≤128)(he:e≤B.natAbs+2 * c.natAbs):e<m.natAbs:=by
 have hf:=zfb A B c h1 h2 h3 h4 hn;generalize A * 134217728+B * 106365032+c * 311643912=v at *;omega
theorem zfk (f g:Int):zeI [(2,f),(3,g)]=g.natAbs∧zeH [(2,f),(3,g)]=f * 67108864+g * 106365032:=by
 simp [zeI,zeH,lg]
theorem zfl (f g h:Int):zeI [(2,f),(3,g),(5,h)]=(g.natAbs:Int)+h.natAbs∧zeH [(2,f),(3,g),(5,h)]=f * 67108864+g * 106365032+h * 155821956:=by
 simp [zeI,zeH,lg];omega
def Pr (p:List Int)(n:Nat):Prop:=(p=[2,3]∧n=2)∨(p=[2,3,5]∧n=3)
theorem lgs : lg 2=67108864∧lg 3=106365032∧lg 5=155821956:=by decide
theorem zfm {p:List Int}{x:List Rat}{d:Nat}(h:zfd (p.zip (fcd d x))∨∀ e∈p.zip (fcd d x),e.2=0):zfd (tms p d x):=by
 obtain ⟨_,_,h3,h4⟩:=zeN (p.zip (fcd d x));rcases h with h | h
 ·rcases h with h | h
  ·left;unfold tms;rw [h];rfl
  ·right;unfold tms;rw [h3,h4];exact h
 ·left;unfold tms;rw [List.filter_eq_nil_iff];intro e he;simp [h e he]
theorem zfn (A:Int):zfd [(2,A),(3,0)]∨∀ e∈[((2:Int),A),(3,0)],e.2=0:=by
 by_cases hA:A=0
 ·right;intro e he;simp at he;rcases he with rfl | rfl <;> simp [hA]
 ·left;right;rw [(zfk _ _).1,(zfk _ _).2];omega
theorem zfo (A:Int):zfd [(2,A),(3,0),(5,0)]∨∀ e∈[((2:Int),A),(3,0),(5,0)],e.2=0:=by
 by_cases hA:A=0
 ·right;intro e he;simp at he;rcases he with rfl | rfl | rfl <;> simp [hA]
 ·left;right;rw [(zfl _ _ _).1,(zfl _ _ _).2];omega
theorem zfp {p:List Int}{x:List Rat}(hp:Pr p x.length)(h:Bx 256 x):zfd (tms p (dn x) x):=by
 apply zfm;rcases hp with ⟨rfl,hl⟩ | ⟨rfl,hl⟩
 ·match x,hl,h with
  | [a,b],_,⟨A,B,ha,hb,h1,h2⟩ =>
   obtain ⟨ha1,ha2⟩:=zfg ha
   rcases zfh hb with ⟨hb1,hb2⟩ | ⟨hb1,hb2⟩
   ·have e:[(2:Int),3].zip (fcd (dn [a,b]) [a,b])=[(2,A),(3,b.num)]:=by
     simp [dn,fcd,ha1,ha2,hb1]
    rw [e]
    by_cases hB:B=0
    ·rw [show b.num=0 by omega];exact zfn A
    ·left;right
     rw [(zfk _ _).1,(zfk _ _).2]
     exact zfi (A:=A) (B:=B) (c:=0) (by omega) (.inl hB) h1 h2 (by omega) (by omega) (by omega)
   ·have e:[(2:Int),3].zip (fcd (dn [a,b]) [a,b])=[(2,A * 2),(3,B)]:=by
     simp [dn,fcd,ha1,ha2,hb1,hb2,Nat.lcm]
    rw [e]
    by_cases hB:B=0
    ·rw [hB];exact zfn _
    ·left;right
     rw [(zfk _ _).1,(zfk _ _).2]
     exact zfj (A:=A) (B:=B) (c:=0) (by omega) (.inl hB) h1 h2 (by omega) (by omega) (by omega)
 ·match x,hl,h with
  | [a,b,c],_,⟨A,B,C,ha,hb,hc,h1,h2,h3,h4⟩ =>
   obtain ⟨ha1,ha2⟩:=zfg ha
   obtain ⟨hc1,hc2⟩:=zfg hc
   rcases zfh hb with ⟨hb1,hb2⟩ | ⟨hb1,hb2⟩
   ·have e:[(2:Int),3,5].zip (fcd (dn [a,b,c]) [a,b,c])=[(2,A),(3,b.num),(5,C)]:=by
     simp [dn,fcd,ha1,ha2,hb1,hc1,hc2]
    rw [e]
    by_cases hB:B=0∧C=0
    ·rw [show b.num=0 by omega,hB.2];exact zfo _
    ·left;right
     rw [(zfl _ _ _).1,(zfl _ _ _).2]
     exact zfi (A:=A) (B:=B) (c:=C) (by omega) (by omega) h1 h2 (by omega) (by omega) (by omega)
   ·have e:[(2:Int),3,5].zip (fcd (dn [a,b,c]) [a,b,c])=[(2,A * 2),(3,B),(5,C * 2)]:=by
     simp [dn,fcd,ha1,ha2,hb1,hb2,hc1,hc2,Nat.lcm]
    rw [e]
    by_cases hB:B=0∧C=0
    ·rw [hB.1,hB.2];exact zfo _
    ·left;right
     rw [(zfl _ _ _).1,(zfl _ _ _).2]
     exact zfj (A:=A) (B:=B) (c:=C) (by omega) (by omega) h1 h2 (by omega) (by omega) (by omega)
theorem zfq {p:List Int}{x:List Rat}{n:Nat}(hp:Pr p x.length)(h:Oc n x):zfd (tms p (dn x) x):=by
 apply zfm;rcases hp with ⟨rfl,hl⟩ | ⟨rfl,hl⟩
 ·match x,hl,h with
  | [a,b],_,⟨hb,A,ha⟩ =>
   have e:[(2:Int),3].zip (fcd (dn [a,b]) [a,b])=[(2,a.num * ((dn [a,b] / a.den:Nat):Int)),(3,0)]:=by simp [fcd,hb]
   rw [e]
   exact zfn _
 ·match x,hl,h with
  | [a,b,c],_,⟨hb,hc,A,ha⟩ =>
   have e:[(2:Int),3,5].zip (fcd (dn [a,b,c]) [a,b,c])=[(2,a.num * ((dn [a,b,c] / a.den:Nat):Int)),(3,0),(5,0)]:=by simp [fcd,hb,hc]
   rw [e]
   exact zfo _
theorem zfr {p:List Int}{x:List Rat}(hp:Pr p x.length)(h:tms p (dn x) x=[]):∀ r∈x,r=0:=by
 unfold tms at h;rw [List.filter_eq_nil_iff] at h;have key:∀ i (hi:i<x.length)(hi2:i<p.length),x[i]=0:=by
  intro i hi hi2;have hz:(p.zip (fcd (dn x) x))[i]?=some (p[i],x[i].num * ((dn x / x[i].den:Nat):Int)):=by
   rw [List.getElem?_zip_eq_some];exact ⟨by simp [hi2],by simp [fcd,hi]⟩
  have h2:=h _ (List.mem_of_getElem? hz);simp only [bne_iff_ne,ne_eq,Decidable.not_not] at h2;have hd:=zeQ x x[i] (List.getElem_mem hi);have h3:0<dn x / x[i].den:=Nat.div_pos (Nat.le_of_dvd (zeR x) hd) x[i].den_pos;have h4:x[i].num=0:=by
   rcases Int.mul_eq_zero.1 h2 with g | g
   ·exact g
   ·omega
  exact Rat.num_eq_zero.1 h4
 intro r hr;obtain ⟨i,hi,rfl⟩:=List.getElem_of_mem hr;exact key i hi (by rcases hp with ⟨rfl,e⟩ | ⟨rfl,e⟩ <;> simp <;> omega)
theorem zfs : ∀ (p:List Int)(x:List Rat),(∀ r∈x,r=0)→sF p x=0
 | [],x,_=>by simp [sF]
 | _::_,[],_=>by simp [sF]
 | p::ps,r::x,h=>by
  rw [sF,zfs ps x fun s hs=>h s (List.mem_cons_of_mem _ hs),h r (List.mem_cons_self ..)];grind
def zft (x:List Rat):Prop:=Bx 256 x∨∃ n,Oc n x
theorem zfu {p:List Int}{x:List Rat}(hp:Pr p x.length)(h:zft x):zfd (tms p (dn x) x):=by
 rcases h with h | ⟨n,h⟩
 ·exact zfp hp h
 ·exact zfq hp h
theorem zfv {p:List Int}{x:List Rat}(hp:Pr p x.length)(h:zft x):zfc (tms p (dn x) x)=sgQ (sF p x) :=
 zff (zfu hp h) fun e=>zfs p x (zfr hp e)
theorem zfw {p:List Int}{x:List Rat}(hp:Pr p x.length)(h:zft x)(h0:sF p x=0):∀ r∈x,r=0:=by
 refine zfr hp ?_;rcases zfu hp h with g | g
 ·exact g
 ·have e1:=zeP (dn x) p x (zeQ x);have e2:=(zeN (p.zip (fcd (dn x) x))).2.2.1;rw [h0] at e1;have e3:zeH (p.zip (fcd (dn x) x))=0:=by
   have:((zeH (p.zip (fcd (dn x) x)):Int):Rat)=((0:Int):Rat):=(by rw [e1];grind);exact Rat.intCast_inj.1 this
  have:=zeM (tms p (dn x) x);unfold tms at g this;rw [e2,e3] at g;rw [e2,e3] at this;simp at g;omega
theorem zfx : ∀ {x y:List Rat},x.length=y.length→(∀ r∈zeT x y,r=0)→x=y
 | [],[],_,_=>rfl
 | a::x,b::y,h,h0=>by
  have e1:=h0 (a - b) (by simp [zeT]);have e2:=zfx (x:=x) (y:=y) (by simpa using h) fun r hr=>h0 r (by simp only [zeT] at hr;simp only [zeT,List.zipWith_cons_cons,List.mem_cons];exact .inr hr);rw [e2,show a=b by grind]
theorem zfy {p:List Int}{x y:List Rat}(hp:Pr p x.length)(hl:x.length=y.length)(h:zft (zeT x y))(h0:sF p x=sF p y):x=y:=by
 refine zfx hl (zfw (p:=p) (by rwa [zeT,List.length_zipWith,← hl,Nat.min_self]) h ?_);rw [zeV p x y hl,h0];grind
end
section
open Go.RowKit Go.Lib
def rcs (x:List Rat):List Value:=x.flatMap rc
theorem zfz (r:Rat)(x:List Rat):rcs (r::x)=.string (I r.num)::.string (I (r.den:Int))::rcs x:=rfl
theorem zf0 (x y:List Rat):rcs (x++y)=rcs x++rcs y:=by simp [rcs]
theorem zf1 (x:List Rat)(r:Rat):rcs (x++[r])=rcs x++[.string (I r.num),.string (I (r.den:Int))]:=by rw [zf0];rfl
theorem zf2 (x:List Rat):(rcs x).length=2 * x.length:=by
 induction x with
 | nil=>rfl
 | cons r x ih=>rw [zfz,List.length_cons,List.length_cons,List.length_cons,ih];omega
theorem zf3 {x:List Rat}{i:Nat}{r:Rat}(h:x[i]?=some r):(rcs x)[i * 2]?=some (.string (I r.num))∧(rcs x)[i * 2+1]?=some (.string (I (r.den:Int))):=by
 induction x generalizing i with
 | nil=>cases h
 | cons s x ih =>
  rw [zfz]
  cases i with
  | zero=>simp at h;subst h;exact ⟨rfl,rfl⟩
  | succ i =>
   have:=ih (i:=i) (by simpa using h)
   rw [show (i+1) * 2=i * 2+1+1 by omega]
   simpa using this
def Rd (w:World)(v:Value)(x:List Rat):Prop :=
 (∃ a cap,v=.slice a 0 cap∧cap≤maxLen∧x=[]) ∨
 ∃ b off cap,v=.slice (some ⟨b,off,none⟩) x.length cap∧x.length≤cap∧cap≤maxLen∧∀ i r,x[i]?=some r→w.cell? ⟨b,off+i * 2,none⟩=some (.string (I r.num))∧w.cell? ⟨b,off+i * 2+1,none⟩=some (.string (I (r.den:Int)))
theorem Ext.rd {w w':World}(h:Ext w w'){v:Value}{x:List Rat}(hs:Rd w v x):Rd w' v x:=by
 rcases hs with hn | ⟨b,off,cap,hv,h1,h2,hc⟩
 ·exact .inl hn
 ·exact .inr ⟨b,off,cap,hv,h1,h2,fun i r hr=>⟨h.cell (hc i r hr).1,h.cell (hc i r hr).2⟩⟩
theorem Rd.parts {w:World}{v:Value}{x:List Rat}(h:Rd w v x) :
  ∃ a cap,v=.slice a x.length cap∧cap≤maxLen∧x.length≤cap∧∀ i r,x[i]?=some r→∃ b off,a=some ⟨b,off,none⟩∧w.cell? ⟨b,off+i * 2,none⟩=some (.string (I r.num))∧w.cell? ⟨b,off+i * 2+1,none⟩=some (.string (I (r.den:Int))):=by
 rcases h with ⟨a,cap,rfl,hm,rfl⟩ | ⟨b,off,cap,hv,h1,h2,hc⟩
 ·exact ⟨a,cap,rfl,hm,by simp,fun i u hu=>by simp at hu⟩
 ·exact ⟨_,cap,hv,h2,h1,fun i r hr=>⟨b,off,rfl,hc i r hr⟩⟩
def zf4 (w:World)(B:Nat)(v:Value)(x:List Rat):Prop:=w.ownsRow B 57 2 v x.length (rcs x)
theorem Ext.ownQ {w w':World}(h:Ext w w'){B:Nat}{v:Value}{x:List Rat}(ho:zf4 w B v x):zf4 w' B v x:=h.own ho
theorem zf4.mono {w:World}{B B':Nat}{v:Value}{x:List Rat}(ho:zf4 w B v x)(hB:B'≤B):zf4 w B' v x:=zah ho hB
theorem zf4.rd {w:World}{B:Nat}{v:Value}{x:List Rat}(ho:zf4 w B v x):Rd w v x:=by
 rcases ho.2 with ⟨hv,hn⟩ | ⟨g,cap,cur,hv,hb,hg,h1,h2,h3,h4⟩
 ·exact .inl ⟨none,0,by rw [hv],Nat.zero_le _,List.eq_nil_of_length_eq_zero hn⟩
 ·have key:∀ j u,(rcs x)[j]?=some u→w.cell? ⟨g,j,none⟩=some u:=fun j u hu=>by
   have:=ho.cells (g:=g) (by rw [hv];rfl) j u hu;rwa [show ((⟨g,0,none⟩:Addr).add j)=⟨g,j,none⟩ by unfold Addr.add;split <;> simp_all] at this
  refine .inr ⟨g,0,cap,hv,by omega,h2,fun i r hr=>?_⟩;have:=zf3 hr;exact ⟨by rw [Nat.zero_add];exact key _ _ this.1,by rw [Nat.zero_add];exact key _ _ this.2⟩
theorem zf5 : (Tryz.prog.info? 57).map (fun i=>(i.zero,i.size,i.bytes))=some (some (.agg #[.string ByteArray.empty,.string ByteArray.empty]),2,32):=by kernel_rfl
theorem zf6 : (Tryz.prog.info? 32).map (fun i=>(i.zero,i.size,i.bytes))=some (some (.slice none 0 0),1,24):=by kernel_rfl
structure Qw where
 x:List Rat
 u:Value
 hu:u.oneCell'=true
def qwc (rs:List Qw):List Value:=rs.map Qw.u
theorem zf7 (rs:List Qw):(qwc rs).length=rs.length:=by simp [qwc]
def RdM (w:World)(v:Value)(rs:List Qw):Prop:=Sl w v (qwc rs)∧∀ r∈rs,Rd w r.u r.x
theorem Ext.rdM {w w':World}(h:Ext w w'){v:Value}{rs:List Qw}(k:RdM w v rs):RdM w' v rs:=⟨h.sl k.1,fun r hr=>h.rd (k.2 r hr)⟩
def QwM (w:World)(b B:Nat)(v:Value)(rs:List Qw):Prop:=w.ownsRow B 32 1 v rs.length (qwc rs)∧∀ r∈rs,zf4 w b r.u r.x
theorem Ext.qwM {w w':World}(h:Ext w w'){b B:Nat}{v:Value}{rs:List Qw}(k:QwM w b B v rs):QwM w' b B v rs:=⟨h.own k.1,fun r hr=>h.ownQ (k.2 r hr)⟩
theorem QwM.rd {w:World}{b B:Nat}{v:Value}{rs:List Qw}(k:QwM w b B v rs):RdM w v rs:=⟨zai k.1,fun r hr=>(k.2 r hr).rd⟩
theorem QwM.mono {w:World}{b b' B B':Nat}{v:Value}{rs:List Qw}(k:QwM w b B v rs)(hb:b'≤b)(hB:B'≤B):QwM w b' B' v rs:=⟨zah k.1 hB,fun r hr=>(k.2 r hr).mono hb⟩
theorem zf8 {w:World}{v:Value}{x:List Rat}(h:Rd w v x):v.oneCell'=true:=by
 rcases h with ⟨a,cap,rfl,_⟩ | ⟨b,off,cap,rfl,_⟩ <;> simp [Value.oneCell']
end
end Go.Proofs.YtoehmpbipbbffaaGreatDoor
