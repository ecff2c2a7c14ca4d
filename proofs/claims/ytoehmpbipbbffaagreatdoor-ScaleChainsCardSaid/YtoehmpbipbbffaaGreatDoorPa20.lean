/- Walks: powers of 2 to 4000; the binary digits of the logarithms of 3 and 5; size.log. A region that draws, within a round of a loop over a function, at the wide fence: by the walk that holds a statement. -/
import Derived.Test.YtoehmpbipbbffaaGreatDoorPa19
import Derived.Test.YtoehmpbipbbffaaGreatDoorPa04
import Derived.Test.YtoehmpbipbbffaaGreatDoorPa11
import Derived.Test.YtoehmpbipbbffaaGreatDoorPa00
import Derived.Deep.RegionHeld3
import Derived.Test.YtoehmpbipbbffaaGreatDoorPa08
set_option maxRecDepth 100000
set_option maxHeartbeats 2000000
namespace Go.Proofs.YtoehmpbipbbffaaGreatDoor
section
open Go.RowKit Go.Lib
theorem zlf : I (2:Int)=⟨#[50]⟩:=by
 show I ((2:Nat):Int)=_;rw [zav];unfold D;rw [decDigits];rfl
theorem zlg : I (1:Int)=⟨#[49]⟩:=by
 show I ((1:Nat):Int)=_;rw [zav];exact zbl
theorem zlh (a n:Nat)(w:World)(he:Env w)(ha:nDigits a≤18)(hn:n * nDigits a≤4000) :
  Calls Tryz.prog 188 #[.string (I a),.int .i64 n] w fun e w'=>e=.returned (.tuple #[.string (I ((a ^ n:Nat):Int)),.int .i64 0])∧Ext w w':=by
 have hpos:=nDigits_pos a;have hn4:n≤4000:=Nat.le_trans (Nat.le_mul_of_pos_right n hpos) hn;have hN:nDigits (a ^ n)≤20000:=by
  by_cases h:n=0
  ·subst h;rw [Nat.pow_zero];exact Nat.le_trans (Dec.nDigits_le (n:=1) (k:=1) (by omega) (by omega)) (by omega)
  ·have h1:=zci a n (by omega);omega
 have hs:=zbB (a:Int) w (show nDigits _≤_ by rw [Int.natAbs_natCast];omega);rw [decide_eq_false (by omega),Int.natAbs_natCast] at hs;have hsz:=zau a;have hquo:¬ (4000:Int) / ((nDigits a:Nat):Int)<n:=by
  have h4:n≤4000 / nDigits a:=by
   rw [Nat.le_div_iff_mul_le hpos];exact hn
  have e:(4000:Int) / ((nDigits a:Nat):Int)=((4000 / nDigits a:Nat):Int):=by rw [Int.natCast_ediv];rfl
  rw [e];omega
 have hna18:nDigits a≤18:=ha;clear hn;have Hs:=Lib.hid hs;clear hs;have He:=Lib.hid he;clear he;have HN:=Lib.hid hN;clear hN;generalize hna:nDigits a=na at *;have HNA:=Lib.hid hna;clear hna;go_enter Tryz.func188,Tryz.ntmps188
 go_wp2_with fail
 refine Hs.out.mono ?_;rintro e w1 ⟨rfl,hx1⟩;have Hx1:=Lib.hid hx1;clear hx1;go_wp2_with fail
 refine (zch a n w1 (He.out.ext Hx1.out) (by rw [HNA.out];omega) (by omega) HN.out).mono ?_;rintro e w2 ⟨rfl,hx2⟩;have Hx2:=Lib.hid hx2;clear hx2;go_wp2_with fail
 refine (zbE false (a ^ n) w2 (by have:=HN.out;omega)).mono ?_;rintro e w3 ⟨rfl,rfl⟩;go_wp2
 go_ret2
 exact ⟨rfl,Hx1.out.trans Hx2.out⟩
theorem zli (n:Nat)(w:World)(he:Env w)(hn:n≤4000) :
  Calls Tryz.prog 188 #[.string ⟨#[50]⟩,.int .i64 n] w fun e w'=>e=.returned (.tuple #[.string (I ((2 ^ n:Nat):Int)),.int .i64 0])∧Ext w w':=by
 have h1:nDigits 2=1:=by
  have:=nDigits_pos 2;have:=Dec.nDigits_le (n:=2) (k:=1) (by omega) (by omega);omega
 have:=zlh 2 n w he (by omega) (by rw [h1];omega);rwa [show ((2:Nat):Int)=(2:Int) from rfl,zlf] at this
theorem zlj {k x e:Nat}(hk:k+k+2<e)(hx:x≤10 ^ k * 10 ^ k):100 * x<10 ^ e:=by
 rw [← Nat.pow_add] at hx;have h4:(10:Nat) ^ 2 * 10 ^ (k+k)<10 ^ e:=by
  rw [← Nat.pow_add];exact Nat.pow_lt_pow_right (by omega) (by omega)
 generalize (10:Nat) ^ (k+k)=y at *;generalize (10:Nat) ^ e=z5 at *;omega
theorem zlk {k z:Nat}(hk:k≤2112)(hz:z≤100 * (2 ^ k * 2 ^ k)):Fit (z:Int):=by
 have h2:(2:Nat) ^ k≤10 ^ k:=Nat.pow_le_pow_left (by omega) _;have h3:=zlj (e:=5000) (by omega) (Nat.mul_le_mul h2 h2);refine Nat.le_trans (Dec.nDigits_le (k:=5000) (by omega) ?_) (show 5000≤400000 by omega);rw [Int.natAbs_natCast];exact Nat.lt_of_le_of_lt hz h3
theorem zll {u x:Nat}(hu:0<u)(h:x * x / u≤8 * u):x * x≤9 * (u * u)∧x≤9 * (u * u):=by
 have h1:x * x<(8 * u+1) * u:=(Nat.div_lt_iff_lt_mul hu).1 (by omega);have h2:(8 * u+1) * u=8 * (u * u)+u:=by rw [Nat.add_mul,Nat.mul_assoc,Nat.one_mul]
 have h3:u≤u * u:=Nat.le_mul_of_pos_left u hu;have h4:x≤x * x:=by
  rcases Nat.eq_zero_or_pos x with rfl | h
  ·omega
  ·exact Nat.le_mul_of_pos_left x h
 omega
theorem zlm (a b:Nat):fdv (a:Int) (b:Int)=((a / b:Nat):Int):=by
 unfold fdv;split
 ·rw [Int.natCast_ediv]
 ·rename_i h;obtain rfl:b=0:=by omega
  simp
theorem zln {p:Nat}(hp:p=3∨p=5)(w:World):Calls Tryz.prog 61 #[.int .u64 p] w fun e w'=>e=.returned (.int .i64 ((lb p:Nat)+1:Int))∧w=w':=by
 have h:=zgP p (by omega) w;rcases hp with rfl | rfl
 ·exact h
 ·exact h
def zlp (n u:Nat)(s0:Nat × Nat × Nat)(w:World)(i lo hi ou:Value)(wr:World):Prop:=∃ (k:Nat)(st:Nat × Nat × Nat),i=.int .i64 k∧k≤n∧dgN u s0 k=some st∧lo=.string (I (st.1:Int))∧hi=.string (I (st.2.1:Int))∧ou=.string (I (st.2.2:Int))∧Ext w wr
theorem zlq (p m n:Nat)(fin:Nat × Nat × Nat)(w:World)(he:Env w)(hp:p=3∨p=5)(hm:m=n+64)(hn:n≤2048)(hf:dgN (2 ^ m) (dg0 p m) n=some fin) :
  Calls Tryz.prog 189 #[.int .i64 p,.int .i64 n,.int .i64 m] w fun e w'=>e=.returned (.tuple #[.string (I (fin.2.2:Int)),.bool true])∧Ext w w':=by
 have hu0:0<2 ^ m:=Nat.pow_pos (by omega);have hlb:lb p=1∨lb p=2:=by rcases hp with rfl | rfl <;> decide
 have h1:=fun W=>zln hp W;have h2:=fun W (h:Ext w W)=>zli m W (he.ext h) (by omega);have h4:=fun W (h:Ext w W)=>zli (m - lb p) W (he.ext h) (by omega);have hfi:2 ^ (m - lb p)≤2 ^ m:=Nat.pow_le_pow_right (by omega) (by omega);have huu:2 ^ m≤2 ^ m * 2 ^ m:=Nat.le_mul_of_pos_left _ hu0;have hF:∀ z:Nat,z≤100 * (2 ^ m * 2 ^ m)→Fit (z:Int):=fun z hz=>zlk (by omega) hz;have h3:=fun W (h:Ext w W)=>zdh ((2 ^ m:Nat):Int) ((2 ^ m:Nat):Int) W (he.ext h) (hF _ (by omega)) (hF _ (by omega));rw [← Int.natCast_add] at h3;have h5:=fun W (h:Ext w W)=>zaL ((p:Nat):Int) (by omega) (by omega) W (he.ext h);have h6:=fun W (h:Ext w W)=>zbT ((p:Nat):Int) ((2 ^ (m - lb p):Nat):Int) W (he.ext h) (hF _ (by omega)) (hF _ (by omega));rw [← Int.natCast_mul] at h6;have h7:=fun W (h:Ext w W)=>zaL ((lb p:Nat):Int) (by omega) (by omega) W (he.ext h);have hs0:dg0 p m=(p * 2 ^ (m - lb p),p * 2 ^ (m - lb p),lb p):=rfl;have hF1:Fit (1:Int):=hF 1 (by omega);have hF2:Fit (2:Int):=hF 2 (by omega);have hround:∀ (k:Nat)(st:Nat × Nat × Nat),k<n→dgN (2 ^ m) (dg0 p m) k=some st→∃ t l q,dgN (2 ^ m) (dg0 p m) (k+1)=some t ∧
   (∀ W,Ext w W→Calls Tryz.prog 109 #[.string (I (st.1:Int)),.string (I (st.1:Int))] W fun e w'=>e=.returned (.string (I ((st.1 * st.1:Nat):Int)))∧Ext W w') ∧
   (∀ W,Ext w W→Calls Tryz.prog 108 #[.string (I ((st.1 * st.1:Nat):Int)),.string (I ((2 ^ m:Nat):Int))] W fun e w'=>(∃ r,e=.returned (.tuple #[.string (I (l:Nat)),.string r,.int .i64 0]))∧Ext W w') ∧
   (∀ W,Ext w W→Calls Tryz.prog 109 #[.string (I (st.2.1:Int)),.string (I (st.2.1:Int))] W fun e w'=>e=.returned (.string (I ((st.2.1 * st.2.1:Nat):Int)))∧Ext W w') ∧
   (∀ W,Ext w W→Calls Tryz.prog 108 #[.string (I ((st.2.1 * st.2.1:Nat):Int)),.string (I ((2 ^ m:Nat):Int))] W fun e w'=>(∃ r,e=.returned (.tuple #[.string (I (q:Nat)),.string r,.int .i64 0]))∧Ext W w') ∧
   (∀ W,Ext w W→Calls Tryz.prog 149 #[.string (I (q:Int)),.string ⟨#[49]⟩] W fun e w'=>e=.returned (.string (I ((q+1:Nat):Int)))∧Ext W w') ∧
   (∀ W,Ext w W→Calls Tryz.prog 149 #[.string (I (st.2.2:Int)),.string (I (st.2.2:Int))] W fun e w'=>e=.returned (.string (I ((st.2.2+st.2.2:Nat):Int)))∧Ext W w') ∧
   (∃ c:Int,(∀ W,Calls Tryz.prog 211 #[.string (I (l:Int)),.string (I ((2 ^ m+2 ^ m:Nat):Int))] W fun e w'=>e=.returned (.int .i64 c)∧Ext W w') ∧
    ((0≤c∧t=(l / 2,(q+1) / 2+1,st.2.2+st.2.2+1) ∧
     (∀ W,Ext w W→Calls Tryz.prog 149 #[.string (I ((st.2.2+st.2.2:Nat):Int)),.string ⟨#[49]⟩] W fun e w'=>e=.returned (.string (I ((st.2.2+st.2.2+1:Nat):Int)))∧Ext W w') ∧
     (∀ W,Ext w W→Calls Tryz.prog 108 #[.string (I (l:Int)),.string ⟨#[50]⟩] W fun e w'=>(∃ r,e=.returned (.tuple #[.string (I ((l / 2:Nat):Int)),.string r,.int .i64 0]))∧Ext W w') ∧
     (∀ W,Ext w W→Calls Tryz.prog 108 #[.string (I ((q+1:Nat):Int)),.string ⟨#[50]⟩] W fun e w'=>(∃ r,e=.returned (.tuple #[.string (I (((q+1) / 2:Nat):Int)),.string r,.int .i64 0]))∧Ext W w') ∧
     (∀ W,Ext w W→Calls Tryz.prog 149 #[.string (I (((q+1) / 2:Nat):Int)),.string ⟨#[49]⟩] W fun e w'=>e=.returned (.string (I (((q+1) / 2+1:Nat):Int)))∧Ext W w')) ∨
     (c<0∧t=(l,q+1,st.2.2+st.2.2)∧∃ c2:Int,c2<0∧(∀ W,Calls Tryz.prog 211 #[.string (I ((q+1:Nat):Int)),.string (I ((2 ^ m+2 ^ m:Nat):Int))] W fun e w'=>e=.returned (.int .i64 c2)∧Ext W w')))):=by
  intro k st hk hst;obtain ⟨t,ht,hnx⟩:=zku hf hk hst;obtain ⟨l,q,hl,hq,b1,b2,b3,hcase⟩:=zks ht;have s1:=zll hu0 (x:=st.1) (by rw [← hl];exact b1);have s2:=zll hu0 (x:=st.2.1) (by rw [← hq];omega);have hdm:∀ (a b:Nat) W,Ext w W→0<b→a≤100 * (2 ^ m * 2 ^ m)→b≤100 * (2 ^ m * 2 ^ m)→Calls Tryz.prog 108 #[.string (I (a:Int)),.string (I (b:Int))] W fun e w'=>(∃ r,e=.returned (.tuple #[.string (I ((a / b:Nat):Int)),.string r,.int .i64 0]))∧Ext W w':=fun a b W hE hb ha hb2=>by
   have:=zdC (a:Int) (b:Int) W (he.ext hE) (by omega) (hF _ ha) (hF _ hb2);rw [zlm] at this;exact this.mono fun e w' ⟨h1,h2⟩=>⟨⟨_,h1⟩,h2⟩
  have had:∀ (a b:Nat) W,Ext w W→a≤100 * (2 ^ m * 2 ^ m)→b≤100 * (2 ^ m * 2 ^ m)→Calls Tryz.prog 149 #[.string (I (a:Int)),.string (I (b:Int))] W fun e w'=>e=.returned (.string (I ((a+b:Nat):Int)))∧Ext W w':=fun a b W hE ha hb2=>by
   have:=zdh (a:Int) (b:Int) W (he.ext hE) (hF _ ha) (hF _ hb2);rwa [← Int.natCast_add] at this
  have hmu:∀ (a:Nat) W,Ext w W→a≤100 * (2 ^ m * 2 ^ m)→Calls Tryz.prog 109 #[.string (I (a:Int)),.string (I (a:Int))] W fun e w'=>e=.returned (.string (I ((a * a:Nat):Int)))∧Ext W w':=fun a W hE ha=>by
   have:=zbT (a:Int) (a:Int) W (he.ext hE) (hF _ ha) (hF _ ha);rwa [← Int.natCast_mul] at this
  have hone:∀ (a:Nat) W,Ext w W→a≤100 * (2 ^ m * 2 ^ m)→Calls Tryz.prog 149 #[.string (I (a:Int)),.string ⟨#[49]⟩] W fun e w'=>e=.returned (.string (I ((a+1:Nat):Int)))∧Ext W w':=fun a W hE ha=>by
   have:=had a 1 W hE ha (by omega);rwa [show ((1:Nat):Int)=(1:Int) from rfl,zlg] at this
  have htwo:∀ (a:Nat) W,Ext w W→a≤100 * (2 ^ m * 2 ^ m)→Calls Tryz.prog 108 #[.string (I (a:Int)),.string ⟨#[50]⟩] W fun e w'=>(∃ r,e=.returned (.tuple #[.string (I ((a / 2:Nat):Int)),.string r,.int .i64 0]))∧Ext W w':=fun a W hE ha=>by
   have:=hdm a 2 W hE (by omega) ha (by omega);rwa [show ((2:Nat):Int)=(2:Int) from rfl,zlf] at this
  have hcm:∀ (a b:Nat),a≤100 * (2 ^ m * 2 ^ m)→b≤100 * (2 ^ m * 2 ^ m)→∀ W,Calls Tryz.prog 211 #[.string (I (a:Int)),.string (I (b:Int))] W fun e w'=>e=.returned (.int .i64 (zbc (a:Int) (b:Int)))∧Ext W w':=fun a b ha hb2 W=>zbO _ _ W (hF _ ha) (hF _ hb2);refine ⟨t,l,q,hnx,fun W hE=>hmu _ W hE (by omega),fun W hE=>?_,fun W hE=>hmu _ W hE (by omega),fun W hE=>?_,fun W hE=>hone _ W hE (by omega),fun W hE=>had _ _ W hE (by omega) (by omega),?_⟩
  ·have:=hdm (st.1 * st.1) (2 ^ m) W hE hu0 (by omega) (by omega);rwa [← hl] at this
  ·have:=hdm (st.2.1 * st.2.1) (2 ^ m) W hE hu0 (by omega) (by omega);rwa [← hq] at this
  ·refine ⟨_,hcm l (2 ^ m+2 ^ m) (by omega) (by omega),?_⟩;rcases hcase with ⟨g1,rfl⟩ | ⟨g1,g2,rfl⟩
   ·left;refine ⟨?_,rfl,fun W hE=>hone _ W hE (by omega),fun W hE=>htwo _ W hE (by omega),fun W hE=>htwo _ W hE (by omega),fun W hE=>hone _ W hE (by omega)⟩;rcases Nat.lt_or_ge (2 ^ m+2 ^ m) l with g | g
    ·rw [zbf (by omega)];omega
    ·rw [zbe (by omega)];omega
   ·right;exact ⟨by rw [zbd (by omega)];omega,rfl,_,by rw [zbd (by omega)];omega,hcm (q+1) (2 ^ m+2 ^ m) (by omega) (by omega)⟩
 have hp2:(p:Int) % 18446744073709551616=(p:Int):=by omega
 have hlbm:((lb p:Nat):Int)≤m∧(0:Int)≤((lb p:Nat):Int):=by omega
 have hsub:((m - lb p:Nat):Int)=(m:Int) - ((lb p:Nat):Int):=by omega
 rw [hsub] at h4;have hp5:p≤5:=by omega
 have hlb2:lb p≤2:=by omega
 have hm2:m≤2112:=by omega
 clear hm hF hF1 hF2 huu hfi hu0 hlb he hp hsub;generalize hs0':dg0 p m=s0 at *;generalize hU:2 ^ m=U at *;generalize 2 ^ (m - lb p)=V at *;clear hU;generalize lb p=b at *;have hfin:=hf;have H1:=Lib.hid h1;have H2:=Lib.hid h2;have H3:=Lib.hid h3;have H4:=Lib.hid h4;have H5:=Lib.hid h5;have H6:=Lib.hid h6;have H7:=Lib.hid h7;have Hround:=Lib.hid hround;have Hs0:=Lib.hid hs0;have Hfin:=Lib.hid hfin;clear h1 h2 h3 h4 h5 h6 h7 hround hs0 hfin;clear hf hs0';go_enter Tryz.func189,Tryz.ntmps189
 go_wp2_with fail
 refine (H1.out _).mono ?_;rintro e w1 ⟨rfl,rfl⟩;go_wp2_with fail
 refine (H2.out _ (Ext.refl w)).mono ?_;rintro e w2 ⟨rfl,hx2⟩;have Hx2:=Lib.hid hx2;clear hx2;go_wp2_with fail
 refine (H3.out w2 Hx2.out).mono ?_;rintro e w3 ⟨rfl,hx3⟩;have Hx3:=Lib.hid (Hx2.out.trans hx3);clear hx3;go_wp2_with fail
 refine (H4.out w3 Hx3.out).mono ?_;rintro e w4 ⟨rfl,hx4⟩;have Hx4:=Lib.hid (Hx3.out.trans hx4);clear hx4;go_wp2_with fail
 refine (H5.out w4 Hx4.out).mono ?_;rintro e w5 ⟨rfl,hx5⟩;have Hx5:=Lib.hid (Hx4.out.trans hx5);clear hx5;go_wp2_with fail
 refine (H6.out w5 Hx5.out).mono ?_;rintro e w6 ⟨rfl,hx6⟩;have Hx6:=Lib.hid (Hx5.out.trans hx6);clear hx6;go_wp2_with fail
 refine (H7.out w6 Hx6.out).mono ?_;rintro e w7 ⟨rfl,hx7⟩;have Hx7:=Lib.hid (Hx6.out.trans hx7);clear hx7;go_wp2_with fail
 go_loopw [50,14,15,16] (fun i lo hi ou wr=>zlp n U s0 w i lo hi ou wr) (fun i _ _ _ _=>n - (zag i).toNat)
 case atStart=>exact ⟨0,s0,rfl,Nat.zero_le _,rfl,by simp only [Hs0.out,Int.natCast_mul],by simp only [Hs0.out,Int.natCast_mul],by simp only [Hs0.out],Hx7.out⟩
 case round =>
  obtain ⟨k,st,rfl,hk,hst,rfl,rfl,rfl,hE⟩:=hrel;have HE:=Lib.hid hE;clear hE;by_cases hlt:k<n
  ·obtain ⟨t,l,q,hnx,g1,g2,g3,g4,g5,g6,c,g7,hcase⟩:=Hround.out k st hlt hst;have Hnx:=Lib.hid hnx;have G1:=Lib.hid g1;have G2:=Lib.hid g2;have G3:=Lib.hid g3;have G4:=Lib.hid g4;have G5:=Lib.hid g5;have G6:=Lib.hid g6;have G7:=Lib.hid g7;clear g1 g2 g3 g4 g5 g6 g7;clear hnx hst;go_wp2_with fail
   refine (G1.out _ HE.out).mono ?_;rintro e v1 ⟨rfl,hx⟩;have HE1:=Lib.hid (HE.out.trans hx);clear hx;go_wp2_with fail
   refine (G2.out _ HE1.out).mono ?_;rintro e v2 ⟨⟨r2,rfl⟩,hx⟩;have HE2:=Lib.hid (HE1.out.trans hx);clear hx;go_wp2_with fail
   refine (G3.out _ HE2.out).mono ?_;rintro e v3 ⟨rfl,hx⟩;have HE3:=Lib.hid (HE2.out.trans hx);clear hx;go_wp2_with fail
   refine (G4.out _ HE3.out).mono ?_;rintro e v4 ⟨⟨r4,rfl⟩,hx⟩;have HE4:=Lib.hid (HE3.out.trans hx);clear hx;go_wp2_with fail
   refine (G5.out _ HE4.out).mono ?_;rintro e v5 ⟨rfl,hx⟩;have HE5:=Lib.hid (HE4.out.trans hx);clear hx;go_wp2_with fail
   refine (G6.out _ HE5.out).mono ?_;rintro e v6 ⟨rfl,hx⟩;have HE6:=Lib.hid (HE5.out.trans hx);clear hx;go_wp2_with fail
   refine (G7.out _).mono ?_;rintro e v7 ⟨rfl,hx⟩;have HE7:=Lib.hid (HE6.out.trans hx);clear hx;rcases hcase with ⟨hc,rfl,a1,a2,a3,a4⟩ | ⟨hc,rfl,c2,hc2,a1⟩
   ·have A1:=Lib.hid a1;have A2:=Lib.hid a2;have A3:=Lib.hid a3;have A4:=Lib.hid a4;clear a1 a2 a3 a4;go_wp2_with fail
    refine (A1.out _ HE7.out).mono ?_;rintro e v8 ⟨rfl,hx⟩;have HE8:=Lib.hid (HE7.out.trans hx);clear hx;go_wp2_with fail
    refine (A2.out _ HE8.out).mono ?_;rintro e v9 ⟨⟨r9,rfl⟩,hx⟩;have HE9:=Lib.hid (HE8.out.trans hx);clear hx;go_wp2_with fail
    refine (A3.out _ HE9.out).mono ?_;rintro e v10 ⟨⟨r10,rfl⟩,hx⟩;have HE10:=Lib.hid (HE9.out.trans hx);clear hx;go_wp2_with fail
    refine (A4.out _ HE10.out).mono ?_;rintro e v11 ⟨rfl,hx⟩;have HE11:=Lib.hid (HE10.out.trans hx);clear hx;go_wp2_with fail
    go_roundw
    case rel=>exact ⟨k+1,_,by go_num,by omega,Hnx.out,rfl,rfl,rfl,HE11.out⟩
    case measure=>simp [zag];omega
   ·have A1:=Lib.hid a1;clear a1;go_wp2_with fail
    refine (A1.out _).mono ?_;rintro e v8 ⟨rfl,hx⟩;have HE8:=Lib.hid (HE7.out.trans hx);clear hx;go_wp2_with fail
    go_roundw
    case rel=>exact ⟨k+1,_,by go_num,by omega,Hnx.out,rfl,rfl,rfl,HE8.out⟩
    case measure=>simp [zag];omega
  ·obtain rfl:k=n:=by omega
   have hst2:some st=some fin:=hst.symm.trans Hfin.out;injection hst2 with hst2;subst hst2;go_wp2
   go_ret2
   exact ⟨rfl,HE.out⟩
theorem zlr (p:Int)(n:Nat)(w:World)(he:Env w)(hp:zkH p)(hn:Lad n) :
  Calls Tryz.prog 148 #[.int .i64 p,.int .i64 n] w fun e w'=>e=.returned (.string (I (LG p n:Int)))∧Ext w w':=by
 have hn48:=zkI hn;rcases Int.decEq p 2 with h2 | h2
 ·have h35:p=3∨p=5:=by rcases hp with h | h | h <;> omega
  obtain ⟨s,hs,hv⟩:=zk8 h35 hn;obtain ⟨q,rfl⟩:∃ q:Nat,p=q:=⟨p.toNat,by omega⟩;have h1:=zlq q (n+64) n s w he (by omega) rfl hn48 hs;rw [hv] at h1;have hnn:((n+64:Nat):Int)=(n:Int)+64:=by omega
  rw [hnn] at h1;generalize LG q n=L at *;clear hs hv hp h35 hn he hnn;have H1:=Lib.hid h1;clear h1;go_enter Tryz.func148,Tryz.ntmps148
  go_wp2_with fail
  go_loopw [7] (fun v wr=>v=.int .i64 ((n:Int)+64)∧wr=w) (fun _ _=>0)
  case atStart=>exact ⟨rfl,rfl⟩
  case round =>
   obtain ⟨rfl,rfl⟩:=hrel;go_wp2_with fail
   refine H1.out.mono ?_;rintro e w1 ⟨rfl,hx1⟩;have Hx1:=Lib.hid hx1;clear hx1;go_wp2
   try rw [Exit.noGoto_ret]
   go_ret
   exact ⟨rfl,Hx1.out⟩
 ·subst h2;have h1:=zli n w he (by omega);rw [show ((2 ^ n:Nat):Int)=(LG 2 n:Int) by unfold LG;rw [if_pos rfl]] at h1;generalize LG 2 n=L at *;clear hn he hp;have H1:=Lib.hid h1;clear h1;go_enter Tryz.func148,Tryz.ntmps148
  go_wp2_with fail
  refine H1.out.mono ?_;rintro e w1 ⟨rfl,hx1⟩;have Hx1:=Lib.hid hx1;clear hx1;go_wp2
  try rw [Exit.noGoto_ret]
  go_ret
  exact ⟨rfl,Hx1.out⟩
end
section
open Go
section
variable {n l : Nat} {P : Program} {ops : Array Oper} {Q : Exit → Act → World → Prop} {md : Region.Mode}
theorem zls {o:Oper}{a:Act}{w:World}{K:Act→World→Prop}(h:o.wp P a w K Q):o.wpIn Fence.wide n P a w K Q:=by
 unfold Oper.wp at h;refine ⟨fun _ _=>trivial,?_⟩;show o.uponIn Fence.wide n P a K Q ((execOp a.eval o).run P w);generalize (execOp a.eval o).run P w=r at h;unfold Oper.upon at h;unfold Oper.uponIn;split at h
 ·exact h
 ·exact h
 ·exact h
 ·exact ⟨fun g=>absurd g (by simp [Fence.wide]),callsIn_wide.2 h⟩
 ·exact ⟨fun g=>absurd g (by simp [Fence.wide]),fun c cs _=>let ⟨v,w',r,s⟩:=h c cs;⟨v,w',r,stepsIn_wide.2 s⟩⟩
 ·exact h
 ·exact h.elim
theorem zlu (hL:¬ LetsOut Q):∀ (fuel:Nat)(listed:Array Bool)(a:Act)(w:World),wpAny P md ops Q fuel listed a w→wpAnyIn Fence.wide n P md ops Q fuel listed a w
 | 0,_,_,_,h=>h
 | fuel+1,listed,a,w,h=>⟨h.1,fun i hi=>by
   have hi2:=h.2 i hi;unfold wpOp at hi2;unfold wpOpIn
   cases ho:ops[i]? with
   | none=>rw [ho] at hi2;exact zlu hL fuel _ a w hi2
   | some o =>
    rw [ho] at hi2
    dsimp only at hi2 ⊢
    split at hi2
    ·rename_i hw
     rw [if_pos hw]
     rcases hi2 with g | ⟨_,g⟩
     ·exact Oper.wpIn_mono (fun a w k=>zlu hL fuel _ a w k) (zls g)
     ·exact absurd g hL
    ·rename_i hw
     rw [if_neg hw]
     exact ⟨fun _ _=>trivial,zlu hL fuel _ _ w hi2⟩⟩
theorem zlv {id:Nat}{a:Act}{w:World}(z:Nat)(S:World→Prop)(hm:P.follows .mixedOrders=true)(h:zhg ops=true)(hL:¬ LetsOut (NoPanic Q))(hS:S w.drew)
  (H:S w.drew→zfQ P .any ops (NoPanic Q) S z ops.size (Array.replicate ops.size false) a w.drew):(Code.region id ops true).wpIn (Fence.wide.inRound l) n P Q a w :=
 zhl (F:=Fence.wide) hm h (zlu hL _ _ _ _ (zfQ.any (H hS)))
end
end
end Go.Proofs.YtoehmpbipbbffaaGreatDoor
