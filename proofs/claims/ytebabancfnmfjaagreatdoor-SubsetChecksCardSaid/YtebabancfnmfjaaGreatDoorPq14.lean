/- Walks: floor, Floor, Remainder by the octave. Plain: the floor over the octave, found from a few bits, is the floor of the linear form. Plain: sizes of the box with few octaves have small numbers. Plain: an insertion sort by a key; lists in order. Walks: checkQuotient, Floor, Remainder by the octave. Walks: scale's integer and reduce. Walks: scale's checkPeriod at the octave. Walks: a scale as a value; its period. Walk: scale.Check of a right scale. Walk: scale.note of a right scale. -/
import Derived.Test.YtebabancfnmfjaaGreatDoorPq13
import Derived.Test.YtebabancfnmfjaaGreatDoorPq07
import Derived.Deep.DeepCutAuto
import Derived.Deep.RegionHeld3
set_option maxRecDepth 100000
set_option maxHeartbeats 4000000
namespace Go.Proofs.YtebabancfnmfjaaGreatDoor
section
open Go.RowKit Go.Lib
attribute [local go_sem] Oper.semAt_some
def flP (p:List Int)(x:List Rat):Int:=if x.tail.all (· == 0) then (x.headD 0).floor else zeh (tms p (dn x) x) / (67108864 * ((dn x:Nat):Int))
def QF (p:List Int)(x:List Rat):Prop:=x.tail.all (· == 0)=true∨((∀ e∈tms p (dn x) x,okE 100000 e)∧dn x≤10000∧zeh (tms p (dn x) x) / (67108864 * ((dn x:Nat):Int))=zei (tms p (dn x) x) / (67108864 * ((dn x:Nat):Int)))
theorem zhD {p:List Int}{n:Nat}(hp:Pr p (n+1)):tms p (dn (ov n)) (ov n)=[(2,1)]∧dn (ov n)=1:=by
 rcases hp with ⟨rfl,h⟩ | ⟨rfl,h⟩
 ·obtain rfl:n=1:=by omega
  exact ⟨by decide +kernel,by decide +kernel⟩
 ·obtain rfl:n=2:=by omega
  exact ⟨by decide +kernel,by decide +kernel⟩
theorem zhE {p:List Int}{n:Nat}(hp:Pr p n):p.length=n:=by rcases hp with ⟨rfl,rfl⟩ | ⟨rfl,rfl⟩ <;> rfl
theorem zhF {n:Nat}:∀ q∈ov n,Ft 1 q:=by
 intro q hq;unfold ov at hq;rcases List.mem_cons.1 hq with rfl | h
 ·exact zhr
 ·obtain rfl:=List.eq_of_mem_replicate h;exact zgV
theorem zhG (n:Nat):(ov n).length=n+1:=by unfold ov;simp
theorem zhH (vp va vb:Value)(p:List Int)(a0:Rat)(tl:List Rat)(w:World)(he:Env w)(hp:Sl w vp (zap p))(ha:Rd w va (a0::tl))(hb:Rd w vb (ov tl.length))(hpr:Pr p (tl.length+1))(hf:∀ q∈a0::tl,Ft 30 q)(hq:QF p (a0::tl)) :
  Calls Tryz.prog 254 #[vp,va,vb] w fun e w'=>e=.returned (.string (I (flP p (a0::tl))))∧Ext w w':=by
 have hpl:=zhE hpr;have hpl3:p.length≤3:=by rcases hpr with ⟨rfl,_⟩ | ⟨rfl,_⟩ <;> simp
 have hra:=zhC va vb a0 tl w he ha hb (by omega) (fun q h=>(hf q h).mono (by omega));have hov:=zhD hpr;by_cases ht:tl.all (· == 0)=true
 ·have hfp:flP p (a0::tl)=a0.floor:=by unfold flP;rw [List.tail_cons,if_pos ht];rfl
  rw [ht] at hra;have h0:=hf a0 (List.mem_cons_self ..);have hfl:=fun W (h:Ext w W)=>zdS a0 W (he.ext h) (h0.num (by omega)) (h0.den (by omega));rw [hfp];generalize I a0.floor=sf at *;unfold Rv at hra hfl;generalize I a0.num=s1 at *;generalize I (a0.den:Int)=s2 at *;obtain ⟨ap,cp,rfl,_,_,_⟩:=hp.parts;obtain ⟨aa,ca,rfl,_,_,_⟩:=ha.parts;obtain ⟨ab,cb,rfl,_,_,_⟩:=hb.parts;clear hp ha hb hov hpr hf hq hfp ht h0 he hpl hpl3;have Hra:=hid hra;have Hfl:=hid hfl;clear hra hfl;go_enter Tryz.func254,Tryz.ntmps254
  go_wp2_with fail
  refine Hra.out.mono ?_;rintro e w1 ⟨rfl,hx1⟩;have HE:Hid (Ext w (w1.alloc (.cells #[.string s1,.string s2] 65))):=hid (hx1.alloc _);clear hx1;go_wp2_with fail
  refine (Hfl.out _ HE.out).mono ?_;rintro e w2 ⟨rfl,hx2⟩;have Hx2:=hid (HE.out.trans hx2);clear hx2;go_wp2
  try rw [Exit.noGoto_ret]
  go_ret
  exact ⟨rfl,Hx2.out⟩
 ·have hfp:flP p (a0::tl)=zeh (tms p (dn (a0::tl)) (a0::tl)) / (67108864 * ((dn (a0::tl):Nat):Int)):=by unfold flP;rw [List.tail_cons,if_neg ht]
  rw [Bool.eq_false_iff.2 ht] at hra;obtain ⟨q1,q2,q3⟩:(∀ e∈tms p (dn (a0::tl)) (a0::tl),okE 100000 e)∧dn (a0::tl)≤10000∧_:=hq.resolve_left ht;have hl:(tms p (dn (a0::tl)) (a0::tl)).length≤100:=by
   have:=zgh (p:=p) (d:=dn (a0::tl)) (x:=a0::tl);simp only [List.length_cons] at this;omega
  have h1:=fun W (h:Ext w W)=>zgl vp va p (a0::tl) W (he.ext h) (h.sl hp) (h.rd ha) (by omega) (by rw [hpl];rfl) hf;have h2:=fun W (h:Ext w W)=>zgl vp vb p (ov tl.length) W (he.ext h) (h.sl hp) (h.rd hb) (by omega) (by rw [zhG,hpl]) (fun q h=>(zhF q h).mono (by omega));rw [hov.1,hov.2] at h2;have h3:=fun W tx ty (hx:TmV W tx (tms p (dn (a0::tl)) (a0::tl)) (dn (a0::tl)))(hy:TmV W ty [(2,1)] 1)=>zh6 tx ty _ _ W hx hy hl q1 (zeu _) q2 q3;have hbd:=zgH (fun e he=>zgI (q1 e he) (show (100000:Int)≤10000000 by omega));have hd0:=zeu (a0::tl);rw [hfp];generalize tms p (dn (a0::tl)) (a0::tl)=l at *;generalize dn (a0::tl)=d at *;have hll:(l.length:Int)≤100:=by omega
  have hqb:=zh4 (a:=zeh l) (b:=67108864 * (d:Int)) (m:=155821957000000000) (by omega) (by omega) (by omega) (by omega);generalize zeh l / (67108864 * (d:Int))=q at *;have h4:=fun W (h:Ext w W)=>zaQ q (by omega) (by omega) W (he.ext h);generalize I q=sq at *;unfold Rv at hra;generalize I a0.num=s1 at *;generalize I (a0.den:Int)=s2 at *;obtain ⟨ap,cp,rfl,_,_,_⟩:=hp.parts;obtain ⟨aa,ca,rfl,_,_,_⟩:=ha.parts;obtain ⟨ab,cb,rfl,_,_,_⟩:=hb.parts;clear hp ha hb hov hpr hf hq hfp ht he hpl hpl3 q1 q2 q3 hbd hll hqb hl hd0;have Hra:=hid hra;have H1:=hid h1;have H2:=hid h2;have H3:=hid h3;have H4:=hid h4;clear hra h1 h2 h3 h4;go_enter Tryz.func254,Tryz.ntmps254
  go_wp2_with fail
  refine Hra.out.mono ?_;rintro e w1 ⟨rfl,hx1⟩;have HE:Hid (Ext w (w1.alloc (.cells #[.string s1,.string s2] 65))):=hid (hx1.alloc _);clear hx1;go_wp2_with fail
  refine (H1.out _ HE.out).mono ?_;rintro e w2 ⟨tx,rfl,hx,hx2⟩;have Hx2:=hid (HE.out.trans hx2);clear hx2;obtain ⟨vc,vd,rfl,hp1,hf1⟩:=hx;obtain ⟨ac,cc,rfl,_,_,_⟩:=hp1.parts;obtain ⟨ad,cd,rfl,_,_,_⟩:=hf1.parts;have htx:TmV w2 (.agg #[.slice ac (zap (l.map Prod.fst)).length cc,.slice ad (zfU (l.map Prod.snd)).length cd,.string (I (d:Int))]) l d:=⟨_,_,rfl,hp1,hf1⟩;clear hp1 hf1;generalize (zap (l.map Prod.fst)).length=n1 at *;generalize (zfU (l.map Prod.snd)).length=n2 at *;generalize I (d:Int)=sd at *;have Htx:=hid htx;clear htx;go_wp2_with fail
  refine (H2.out _ Hx2.out).mono ?_;rintro e w3 ⟨ty,rfl,hy,hx3⟩;have Hx3:=hid (Hx2.out.trans hx3);have Htx3:=hid (Htx.out.ext hx3);clear hx3;obtain ⟨ve,vf,rfl,hp1,hf1⟩:=hy;obtain ⟨ae,ce,rfl,_,_,_⟩:=hp1.parts;obtain ⟨af,cf,rfl,_,_,_⟩:=hf1.parts;have hty:TmV w3 (.agg #[.slice ae (zap (([(2,1)]:List (Int × Int)).map Prod.fst)).length ce,.slice af (zfU (([(2,1)]:List (Int × Int)).map Prod.snd)).length cf,.string (I ((1:Nat):Int))]) [(2,1)] 1:=⟨_,_,rfl,hp1,hf1⟩;clear hp1 hf1;generalize (zap (([(2,1)]:List (Int × Int)).map Prod.fst)).length=n3 at *;generalize (zfU (([(2,1)]:List (Int × Int)).map Prod.snd)).length=n4 at *;generalize I ((1:Nat):Int)=se at *;have hE4:Ext w3 ((w3.alloc (.cells #[.slice ac n1 cc,.slice ad n2 cd,.string sd] 227)).alloc (.cells #[.slice ae n3 ce,.slice af n4 cf,.string se] 227)):=((Ext.refl w3).alloc _).alloc _;have HE4:=hid (Hx3.out.trans hE4);have H5:=hid (H3.out _ _ _ (Htx3.out.ext hE4) (hty.ext hE4));clear hE4 hty;go_wp2_with fail
  refine H5.out.mono ?_;rintro e w5 ⟨rfl,hx5⟩;have Hx5:=hid (HE4.out.trans hx5);clear hx5;go_wp2_with fail
  refine (H4.out _ Hx5.out).mono ?_;rintro e w6 ⟨rfl,hx6⟩;have Hx6:=hid (Hx5.out.trans hx6);clear hx6;go_wp2
  try rw [Exit.noGoto_ret]
  go_ret
  exact ⟨rfl,Hx6.out⟩
end
section
theorem zhI {a:Rat}(h:a.den=1)(tl:List Rat):dn (a::tl)=tl.foldl (fun d r=>Nat.lcm d r.den) 1:=by
 unfold dn;rw [List.foldl_cons,h];rfl
theorem zhJ {ps:List Int}{a:Rat}{tl:List Rat}{A:Int}(hA:a=A)(m:Int) :
  dn ((a - (m:Rat))::tl)=dn (a::tl) ∧
  zej ((2::ps).zip (fcd (dn (a::tl)) ((a - (m:Rat))::tl)))=zej ((2::ps).zip (fcd (dn (a::tl)) (a::tl))) - m * (67108864 * (dn (a::tl):Int)) ∧
  zek ((2::ps).zip (fcd (dn (a::tl)) ((a - (m:Rat))::tl)))=zek ((2::ps).zip (fcd (dn (a::tl)) (a::tl))):=by
 have hm:a - (m:Rat)=((A - m:Int):Rat):=by rw [hA,Rat.intCast_sub]
 obtain ⟨n1,d1⟩:=ze9 hA;obtain ⟨n2,d2⟩:=ze9 hm;refine ⟨by rw [zhI d1,zhI d2],?_,?_⟩
 ·simp only [fcd,List.map_cons,List.zip_cons_cons,zej,n1,n2,d1,d2,Nat.div_one];rw [show lg 2=67108864 by decide,Int.sub_mul,Int.sub_mul,Int.mul_comm 67108864,← Int.mul_assoc];omega
 ·simp only [fcd,List.map_cons,List.zip_cons_cons,zek,if_pos]
theorem zhK {M E D lo hi:Int}(hD:0<D)(h1:M - E≤lo)(h2:lo≤M)(h3:M≤hi)(h4:hi≤M+E)(_:0≤E)(hf:∀ m:Int,E<(M - m * D).natAbs) :
  lo / D=M / D∧hi / D=M / D:=by
 have e1:=Int.mul_ediv_add_emod M D;have e2:=Int.emod_nonneg M (show D ≠ 0 by omega);have e3:=Int.emod_lt_of_pos M hD;have f1:=hf (M / D);have f2:=hf (M / D+1);generalize hq:M / D=q at *;generalize M % D=r at *;have g1:M - q * D=r:=by rw [Int.mul_comm q D];omega
 have g2:M - (q+1) * D=r - D:=by rw [Int.add_mul,Int.one_mul,Int.mul_comm q D];omega
 rw [g1] at f1;rw [g2] at f2;constructor
 ·have:lo=(r - (M - lo))+D * q:=by omega
  rw [this,Int.add_mul_ediv_left _ _ (by omega),Int.ediv_eq_zero_of_lt (by omega) (by omega)];omega
 ·have:hi=(r+(hi - M))+D * q:=by omega
  rw [this,Int.add_mul_ediv_left _ _ (by omega),Int.ediv_eq_zero_of_lt (by omega) (by omega)];omega
theorem zhL (l:List (Int × Int)):0≤zek l:=by
 induction l with
 | nil=>simp [zek]
 | cons e l ih =>
  simp only [zek]
  split <;> omega
theorem zhM {p:List Int}{a:Rat}{tl:List Rat}(hp:Pr p (a::tl).length)(hb:Bx 256 (a::tl))(hne:¬ ∀ r∈tl,r=0) :
  zeh (tms p (dn (a::tl)) (a::tl)) / (67108864 * ((dn (a::tl):Nat):Int))=zej (p.zip (fcd (dn (a::tl)) (a::tl))) / (67108864 * ((dn (a::tl):Nat):Int)) ∧
  zei (tms p (dn (a::tl)) (a::tl)) / (67108864 * ((dn (a::tl):Nat):Int))=zej (p.zip (fcd (dn (a::tl)) (a::tl))) / (67108864 * ((dn (a::tl):Nat):Int)):=by
 obtain ⟨ps,hps⟩:∃ ps,p=2::ps:=by rcases hp with ⟨rfl,_⟩ | ⟨rfl,_⟩ <;> exact ⟨_,rfl⟩
 obtain ⟨A,hA⟩:∃ A:Int,a=A:=by
  rcases hp with ⟨_,h⟩ | ⟨_,h⟩
  ·match tl,h,hb with
   | [b],_,⟨A,_,h1,_⟩=>exact ⟨A,h1⟩
  ·match tl,h,hb with
   | [b,c],_,⟨A,_,_,h1,_⟩=>exact ⟨A,h1⟩
 have hbm:∀ m:Int,Bx 256 ((a - (m:Rat))::tl):=fun m=>by
  have hm:a - (m:Rat)=((A - m:Int):Rat):=by rw [hA,Rat.intCast_sub]
  rcases hp with ⟨_,h⟩ | ⟨_,h⟩
  ·match tl,h,hb with
   | [b],_,⟨_,B,_,h2⟩=>exact ⟨A - m,B,hm,h2⟩
  ·match tl,h,hb with
   | [b,c],_,⟨_,B,C,_,h2⟩=>exact ⟨A - m,B,C,hm,h2⟩
 have hd:=zeu (a::tl);have d0:=zep (p.zip (fcd (dn (a::tl)) (a::tl)));have hbd:=zeo (tms p (dn (a::tl)) (a::tl));have hfar:∀ m:Int,zek (p.zip (fcd (dn (a::tl)) (a::tl)))<(zej (p.zip (fcd (dn (a::tl)) (a::tl))) - m * (67108864 * ((dn (a::tl):Nat):Int))).natAbs:=fun m=>by
  have hs:=zhJ (ps:=ps) (tl:=tl) hA m;rw [← hps] at hs;have hl:((a - (m:Rat))::tl).length=(a::tl).length:=by simp
  have hf:=zeI (p:=p) (by rw [hl];exact hp) (hbm m);rcases hf with h | h
  ·exfalso;have:=zeK (p:=p) (by rw [hl];exact hp) h;exact hne fun r hr=>this r (List.mem_cons_of_mem _ hr)
  ·rw [hs.1] at h;have d1:=zep (p.zip (fcd (dn (a::tl)) ((a - (m:Rat))::tl)));unfold tms at h;rw [d1.2.2.1,d1.2.2.2,hs.2.1,hs.2.2] at h;exact h
 have hm1:zej (tms p (dn (a::tl)) (a::tl))=zej (p.zip (fcd (dn (a::tl)) (a::tl))):=d0.2.2.1;have he1:zek (tms p (dn (a::tl)) (a::tl))=zek (p.zip (fcd (dn (a::tl)) (a::tl))):=d0.2.2.2;rw [hm1,he1] at hbd;exact zhK (by omega) hbd.1 hbd.2.1 hbd.2.2.1 hbd.2.2.2 (zhL _) hfar
theorem zhN {M:Int}{d:Nat}{s:Rat}(hd:0<d)(h:((M:Int):Rat)=(d:Rat) * s):M / (67108864 * (d:Int))=(s / 67108864).floor:=by
 have hD:(0:Int)<67108864 * (d:Int):=by omega
 have hq:∀ z:Int,z≤M / (67108864 * (d:Int)) ↔ z≤(s / 67108864).floor:=fun z=>by
  rw [Int.le_ediv_iff_mul_le hD,Rat.le_floor_iff,← Rat.intCast_le_intCast,h,Rat.intCast_mul,Rat.intCast_mul,Rat.intCast_natCast];have hd':(0:Rat)<(d:Rat):=Rat.natCast_pos.2 hd;constructor
  ·intro g;have g2:(d:Rat) * ((z:Rat) * 67108864)≤(d:Rat) * s:=by
    have e:(d:Rat) * ((z:Rat) * 67108864)=(z:Rat) * (((67108864:Int):Rat) * (d:Rat)):=by
     rw [show ((67108864:Int):Rat)=67108864 from rfl];grind
    rw [e];exact g
   have g3:(z:Rat) * 67108864≤s:=Rat.le_of_mul_le_mul_left g2 hd';grind
  ·intro g;have g3:(z:Rat) * 67108864≤s:=(by grind);have g2:(d:Rat) * ((z:Rat) * 67108864)≤(d:Rat) * s:=Rat.mul_le_mul_of_nonneg_left g3 (by grind);have e:(d:Rat) * ((z:Rat) * 67108864)=(z:Rat) * (((67108864:Int):Rat) * (d:Rat)):=by
    rw [show ((67108864:Int):Rat)=67108864 from rfl];grind
   rw [← e];exact g2
 have h1:=(hq (M / (67108864 * (d:Int)))).1 (Int.le_refl _);have h2:=(hq (s / 67108864).floor).2 (Int.le_refl _);omega
theorem zhO {p:List Int}{a:Rat}{tl:List Rat}(hp:Pr p (a::tl).length)(hb:Bx 256 (a::tl)∨∀ r∈tl,r=0):flP p (a::tl)=(sF p (a::tl) / 67108864).floor:=by
 have hall:(tl.all (· == 0)=true) ↔ ∀ r∈tl,r=0:=by rw [List.all_eq_true];simp
 unfold flP;rw [List.tail_cons];by_cases h:∀ r∈tl,r=0
 ·rw [if_pos (hall.2 h)];obtain ⟨ps,hps⟩:∃ ps,p=2::ps:=by rcases hp with ⟨rfl,_⟩ | ⟨rfl,_⟩ <;> exact ⟨_,rfl⟩
  have e:sF p (a::tl)=a * 67108864:=by
   rw [hps,sF,zeL ps tl h,show lg 2=67108864 by decide];show a * ((67108864:Int):Rat)+0=_;rw [show ((67108864:Int):Rat)=67108864 from rfl];grind
  have e2:sF p (a::tl) / 67108864=a:=by rw [e];grind
  rw [e2];rfl
 ·rw [if_neg (fun g=>h (hall.1 g)),(zhM hp (hb.resolve_right h) h).1];exact zhN (zeu _) (zes _ p _ (zet _))
theorem zhP {p:List Int}{a:Rat}{tl:List Rat}(hp:Pr p (a::tl).length)(hb:Bx 256 (a::tl)∨∀ r∈tl,r=0)(hs:(∀ e∈tms p (dn (a::tl)) (a::tl),okE 100000 e)∧dn (a::tl)≤10000):QF p (a::tl):=by
 by_cases h:∀ r∈tl,r=0
 ·left;rw [List.tail_cons,List.all_eq_true];simpa using h
 ·have:=zhM hp (hb.resolve_right h) h;exact .inr ⟨hs.1,hs.2,this.1.trans this.2.symm⟩
theorem zhQ {r:Rat}(h1:r.num.natAbs≤100000000)(h2:r.den≤1000000):Ft 30 r :=
 ⟨Dec.nDigits_le (by omega) (Nat.lt_of_le_of_lt h1 (by decide)),Dec.nDigits_le (by omega) (Nat.lt_of_le_of_lt h2 (by decide))⟩
theorem zhR {p:List Int}{d:Nat}{x:List Rat}{e:Int × Int}(h:e∈tms p d x):e∈p.zip (fcd d x):=(List.mem_filter.1 h).1
structure Ok (m:Int)(p:List Int)(x:List Rat):Prop where
 ft:∀ r∈x,Ft 30 r
 small:∀ e∈tms p (dn x) x,okE m e
 den:dn x≤2
theorem zhS {m:Int}{p:List Int}{x:List Rat}(hp:Pr p x.length)(h:Bx 256 x)(hm:512≤m)(hm2:m≤1000000)(hA:∀ a,x.head?=some a→-m≤2 * a.num∧2 * a.num≤m):Ok m p x:=by
 rcases hp with ⟨rfl,hl⟩ | ⟨rfl,hl⟩
 ·match x,hl,h with
  | [a,b],_,⟨A,B,ha,hb,h1,h2⟩ =>
   obtain ⟨ha1,ha2⟩:=ze9 ha
   have hA':=hA a rfl
   rw [ha1] at hA'
   rcases zeA hb with ⟨hb1,hb2⟩ | ⟨hb1,hb2⟩
   ·have e:[(2:Int),3].zip (fcd (dn [a,b]) [a,b])=[(2,A),(3,b.num)]:=by
     simp [dn,fcd,ha1,ha2,hb1]
    refine ⟨?_,?_,by simp [dn,ha2,hb1]⟩
    ·intro r hr
     simp only [List.mem_cons,List.not_mem_nil,or_false] at hr
     rcases hr with rfl | rfl
     ·exact zhQ (by omega) (by omega)
     ·exact zhQ (by omega) (by omega)
    ·intro q hq
     have:=zhR hq
     rw [e] at this
     simp only [List.mem_cons,List.not_mem_nil,or_false] at this
     rcases this with rfl | rfl
     ·exact ⟨.inl rfl,by dsimp only;omega,by dsimp only;omega⟩
     ·exact ⟨.inr (.inl rfl),by dsimp only;omega,by dsimp only;omega⟩
   ·have e:[(2:Int),3].zip (fcd (dn [a,b]) [a,b])=[(2,A * 2),(3,B)]:=by
     simp [dn,fcd,ha1,ha2,hb1,hb2,Nat.lcm]
    refine ⟨?_,?_,by simp [dn,ha2,hb1,Nat.lcm]⟩
    ·intro r hr
     simp only [List.mem_cons,List.not_mem_nil,or_false] at hr
     rcases hr with rfl | rfl
     ·exact zhQ (by omega) (by omega)
     ·exact zhQ (by omega) (by omega)
    ·intro q hq
     have:=zhR hq
     rw [e] at this
     simp only [List.mem_cons,List.not_mem_nil,or_false] at this
     rcases this with rfl | rfl
     ·exact ⟨.inl rfl,by dsimp only;omega,by dsimp only;omega⟩
     ·exact ⟨.inr (.inl rfl),by dsimp only;omega,by dsimp only;omega⟩
 ·match x,hl,h with
  | [a,b,c],_,⟨A,B,C,ha,hb,hc,h1,h2,h3,h4⟩ =>
   obtain ⟨ha1,ha2⟩:=ze9 ha
   obtain ⟨hc1,hc2⟩:=ze9 hc
   have hA':=hA a rfl
   rw [ha1] at hA'
   rcases zeA hb with ⟨hb1,hb2⟩ | ⟨hb1,hb2⟩
   ·have e:[(2:Int),3,5].zip (fcd (dn [a,b,c]) [a,b,c])=[(2,A),(3,b.num),(5,C)]:=by
     simp [dn,fcd,ha1,ha2,hb1,hc1,hc2]
    refine ⟨?_,?_,by simp [dn,ha2,hb1,hc2]⟩
    ·intro r hr
     simp only [List.mem_cons,List.not_mem_nil,or_false] at hr
     rcases hr with rfl | rfl | rfl
     ·exact zhQ (by omega) (by omega)
     ·exact zhQ (by omega) (by omega)
     ·exact zhQ (by omega) (by omega)
    ·intro q hq
     have:=zhR hq
     rw [e] at this
     simp only [List.mem_cons,List.not_mem_nil,or_false] at this
     rcases this with rfl | rfl | rfl
     ·exact ⟨.inl rfl,by dsimp only;omega,by dsimp only;omega⟩
     ·exact ⟨.inr (.inl rfl),by dsimp only;omega,by dsimp only;omega⟩
     ·exact ⟨.inr (.inr rfl),by dsimp only;omega,by dsimp only;omega⟩
   ·have e:[(2:Int),3,5].zip (fcd (dn [a,b,c]) [a,b,c])=[(2,A * 2),(3,B),(5,C * 2)]:=by
     simp [dn,fcd,ha1,ha2,hb1,hb2,hc1,hc2,Nat.lcm]
    refine ⟨?_,?_,by simp [dn,ha2,hb1,hc2,Nat.lcm]⟩
    ·intro r hr
     simp only [List.mem_cons,List.not_mem_nil,or_false] at hr
     rcases hr with rfl | rfl | rfl
     ·exact zhQ (by omega) (by omega)
     ·exact zhQ (by omega) (by omega)
     ·exact zhQ (by omega) (by omega)
    ·intro q hq
     have:=zhR hq
     rw [e] at this
     simp only [List.mem_cons,List.not_mem_nil,or_false] at this
     rcases this with rfl | rfl | rfl
     ·exact ⟨.inl rfl,by dsimp only;omega,by dsimp only;omega⟩
     ·exact ⟨.inr (.inl rfl),by dsimp only;omega,by dsimp only;omega⟩
     ·exact ⟨.inr (.inr rfl),by dsimp only;omega,by dsimp only;omega⟩
theorem Ok.quick {m:Int}{p:List Int}{x:List Rat}(h:Ok m p x)(hp:Pr p x.length)(hm:m≤10000000)(hb:Bx 256 x):zh0 p x :=
 ⟨h.ft,fun e he=>zgI (h.small e he) hm,zeI hp hb⟩
theorem Ok.qf {p:List Int}{a:Rat}{tl:List Rat}(h:Ok 100000 p (a::tl))(hp:Pr p (a::tl).length)(hb:Bx 256 (a::tl)):QF p (a::tl) :=
 zhP hp (.inl hb) ⟨h.small,by have:=h.den;omega⟩
section
variable {α : Type} (key : α → Rat)
def SAt (ps:List α)(i k:Nat):Prop:=∀ a b x y,a<b→b≤i→b ≠ k→ps[a]?=some x→ps[b]?=some y→key x≤key y
def STo (ps:List α)(i:Nat):Prop:=∀ a b x y,a<b→b<i→ps[a]?=some x→ps[b]?=some y→key x≤key y
variable {key}
theorem zhT (ps:List α):STo key ps 1:=fun a b x y h1 h2=>by omega
theorem zhU {ps:List α}{i:Nat}(h:STo key ps i):SAt key ps i i:=fun a b x y h1 h2 h3=>h a b x y h1 (by omega)
theorem zhV {ps:List α}{i:Nat}(h:SAt key ps i 0):STo key ps (i+1):=fun a b x y h1 h2=>h a b x y h1 (by omega) (by omega)
theorem zhW {ps:List α}{i k:Nat}{x y:α}(h:SAt key ps i (k+1))(hx:ps[k+1]?=some x)(hy:ps[k]?=some y)(hle:key y≤key x):STo key ps (i+1):=by
 intro a b u v h1 h2 ha hb;by_cases hbk:b=k+1
 ·subst hbk;rw [hx] at hb;cases hb;by_cases hak:a=k
  ·subst hak;rw [hy] at ha;cases ha;exact hle
  ·exact Rat.le_trans (h a k u y (by omega) (by omega) (by omega) ha hy) hle
 ·exact h a b u v h1 (by omega) hbk ha hb
theorem zhX {l:List α}{k:Nat}{x y:α}(hx:l[k+1]?=some x)(j:Nat):((l.set (k+1) y).set k x)[j]?=if j=k then some x else if j=k+1 then some y else l[j]?:=by
 have hl:k+1<l.length:=(List.getElem?_eq_some_iff.1 hx).1;rw [List.getElem?_set,List.getElem?_set,List.length_set];by_cases h1:k=j
 ·rw [if_pos h1,if_pos h1.symm,if_pos (by omega)]
 ·rw [if_neg h1,if_neg (c:=j=k) (fun h=>h1 h.symm)];by_cases h2:k+1=j
  ·rw [if_pos h2,if_pos h2.symm,if_pos (by omega)]
  ·rw [if_neg h2,if_neg (c:=j=k+1) (fun h=>h2 h.symm)]
theorem zhY {ps:List α}{i k:Nat}{x y:α}(h:SAt key ps i (k+1))(hx:ps[k+1]?=some x)(hy:ps[k]?=some y)(hlt:key x≤key y):SAt key ((ps.set (k+1) y).set k x) i k:=by
 intro a b u v h1 h2 h3 ha hb;rw [zhX hx] at ha hb;rw [if_neg h3] at hb;by_cases hb1:b=k+1
 ·rw [if_pos hb1] at hb
  cases hb
  by_cases ha1:a=k
  ·rw [if_pos ha1] at ha
   cases ha
   exact hlt
  ·rw [if_neg ha1,if_neg (by omega)] at ha;exact h a k u y (by omega) (by omega) (by omega) ha hy
 ·rw [if_neg hb1] at hb;by_cases ha1:a=k
  ·rw [if_pos ha1] at ha
   cases ha
   exact h (k+1) b x v (by omega) h2 hb1 hx hb
  ·rw [if_neg ha1] at ha;by_cases ha2:a=k+1
   ·rw [if_pos ha2] at ha
    cases ha
    exact h k b y v (by omega) h2 hb1 hy hb
   ·rw [if_neg ha2] at ha;exact h a b u v h1 h2 hb1 ha hb
theorem zhZ : ∀ {l:List α}{k:Nat}{x y:α},l[k+1]?=some x→l[k]?=some y→((l.set (k+1) y).set k x).Perm l
 | [],_,_,_,h,_=>by simp at h
 | [_],0,_,_,h,_=>by simp at h
 | b::a::t,0,x,y,h1,h2=>by
  simp at h1 h2;subst h1 h2;exact List.Perm.swap ..
 | c::t,k+1,x,y,h1,h2=>by
  simp only [List.getElem?_cons_succ] at h1 h2;simp only [List.set_cons_succ];exact (zhZ h1 h2).cons c
theorem zia {ps:List α}(h:STo key ps ps.length):ps.Pairwise fun x y=>key x≤key y:=by
 rw [List.pairwise_iff_getElem];intro i j hi hj hij;exact h i j _ _ hij hj (List.getElem?_eq_getElem hi) (List.getElem?_eq_getElem hj)
end
def Srt (p:List Int)(N:List (List Rat)):Prop:=N.Pairwise fun x y=>sF p x<sF p y
theorem zib {p:List Int}:∀ {N M:List (List Rat)},Srt p N→Srt p M→(∀ x,x∈N ↔ x∈M)→N=M
 | [],[],_,_,_=>rfl
 | [],b::M,_,_,h=>by have:=(h b).2 (List.mem_cons_self ..);cases this
 | a::N,[],_,_,h=>by have:=(h a).1 (List.mem_cons_self ..);cases this
 | a::N,b::M,h1,h2,h=>by
  have h1':=h1;have h2':=h2;unfold Srt at h1' h2';rw [List.pairwise_cons] at h1' h2';have e:a=b:=by
   rcases List.mem_cons.1 ((h a).1 (List.mem_cons_self ..)) with e | ha
   ·exact e
   ·rcases List.mem_cons.1 ((h b).2 (List.mem_cons_self ..)) with e | hb
    ·exact e.symm
    ·have g1:=h2'.1 a ha;have g2:=h1'.1 b hb;exfalso;grind
  subst e;rw [zib (N:=N) (M:=M) h1'.2 h2'.2 fun x=>?_];constructor
  ·intro hx;rcases List.mem_cons.1 ((h x).1 (List.mem_cons_of_mem _ hx)) with rfl | g
   ·have:=h1'.1 x hx;exfalso;grind
   ·exact g
  ·intro hx;rcases List.mem_cons.1 ((h x).2 (List.mem_cons_of_mem _ hx)) with rfl | g
   ·have:=h2'.1 x hx;exfalso;grind
   ·exact g
theorem zic {p:List Int}{N M:List (List Rat)}(h:N.Perm M)(h1:N.Pairwise fun x y=>sF p x≤sF p y)(h2:M.Nodup)(h3:∀ x∈M,∀ y∈M,sF p x=sF p y→x=y):Srt p N:=by
 have hn:N.Nodup:=h.nodup_iff.2 h2;unfold Srt;have:=List.Pairwise.and h1 hn;refine List.Pairwise.imp_of_mem ?_ this;intro a b ha hb ⟨g1,g2⟩;have:sF p a ≠ sF p b:=fun e=>g2 (h3 a (h.mem_iff.1 ha) b (h.mem_iff.1 hb) e);grind
end
section
open Go.RowKit Go.Lib
attribute [local go_sem] Oper.semAt_some
theorem zid (vp va vb:Value)(p:List Int)(a:List Rat)(n:Nat)(w:World)(he:Env w)(hp:Sl w vp (zap p))(ha:Rd w va a)(hb:Rd w vb (ov n))(hpe:zfb p=0)(hpr:Pr p (n+1))(hal:a.length=n+1)(hf:∀ q∈a,Ft 30 q) :
  Calls Tryz.prog 253 #[vp,va,vb] w fun e w'=>e=.returned (.int .i64 0)∧Ext w w':=by
 have hpl:=zhE hpr;have hov:=zhD hpr;have hua:=zf0 ha;have hub:=zf0 hb;have hpl3:p.length≤3:=by rcases hpr with ⟨rfl,_⟩ | ⟨rfl,_⟩ <;> simp
 have h2:=fun W (h:Ext w W)=>zgl vp vb p (ov n) W (he.ext h) (h.sl hp) (h.rd hb) (by omega) (by rw [zhG,hpl]) (fun q h=>(zhF q h).mono (by omega));rw [hov.1,hov.2] at h2;have hl3:RdM (w.alloc (.cells #[va,vb] 41)) (.slice (some ⟨w.heap.size,0,none⟩) 2 2) [⟨a,va,hua⟩,⟨ov n,vb,hub⟩] :=
  ⟨zhn (us:=[va,vb]) (World.alloc_heap_new w _) (by unfold maxLen;simp),by
   intro r hr;rcases List.mem_cons.1 hr with rfl | hr
   ·exact ((Ext.refl w).alloc _).rd ha
   ·rw [List.mem_singleton] at hr;subst hr;exact ((Ext.refl w).alloc _).rd hb⟩
 have hbl:Ext w (w.alloc (.cells #[va,vb] 41)):=(Ext.refl w).alloc _;have h1:=zfH vp _ p [⟨a,va,hua⟩,⟨ov n,vb,hub⟩] _ (he.ext hbl) (hbl.sl hp) hl3 hpe (by simp) (by
   intro r hr;rcases List.mem_cons.1 hr with rfl | hr
   ·exact ⟨by rw [hpl];exact hal,hf⟩
   ·rw [List.mem_singleton] at hr;subst hr;exact ⟨by rw [hpl];exact zhG n,fun q h=>(zhF q h).mono (by omega)⟩)
 obtain ⟨ap,cp,rfl,_,_,_⟩:=hp.parts;obtain ⟨aa,ca,rfl,_,_,_⟩:=ha.parts;obtain ⟨ab,cb,rfl,_,_,_⟩:=hb.parts;clear hp ha hb he hpe hpr hf hov hl3 hua hub hpl hpl3 hal;have H1:=hid h1;have H2:=hid h2;have Hbl:=hid hbl;clear h1 h2 hbl;go_enter Tryz.func253,Tryz.ntmps253
 go_wp2_with fail
 refine H1.out.mono ?_;rintro e w1 ⟨rfl,hx1⟩;have Hx1:=hid (Hbl.out.trans hx1);clear hx1;go_wp2_with fail
 refine (H2.out w1 Hx1.out).mono ?_;rintro e w2 ⟨tv,rfl,ht,hx2⟩;have Hx2:=hid (Hx1.out.trans hx2);obtain ⟨vc,vd,rfl,hp1,hf1⟩:=ht;obtain ⟨ac,cc,rfl,_,_,_⟩:=hp1.parts;obtain ⟨ad,cd,rfl,_,_,_⟩:=hf1.parts;rw [show (zap (([(2,1)]:List (Int × Int)).map Prod.fst)).length=1 from rfl];clear hp1 hf1 hx2;have hfield:∀ (u v x:Value) W,(Instr.field 227 (.agg #[u,v,x]) 0).run Tryz.prog W=.ok u W:=fun u v x W=>rfl;rw [show (zfU (([(2,1)]:List (Int × Int)).map Prod.snd)).length=1 from rfl];go_wp2
 go_ret
 exact ⟨rfl,Hx2.out⟩
theorem zie (vp va vb:Value)(p:List Int)(a0:Rat)(tl:List Rat)(w:World)(he:Env w)(hp:Sl w vp (zap p))(ha:Rd w va (a0::tl))(hb:Rd w vb (ov tl.length))(hpe:zfb p=0)(hpr:Pr p (tl.length+1))(hf:∀ q∈a0::tl,Ft 30 q)(hq:QF p (a0::tl)) :
  Calls Tryz.prog 198 #[vp,va,vb] w fun e w'=>e=.returned (.tuple #[.string (I (flP p (a0::tl))),.int .i64 0])∧Ext w w':=by
 have h1:=zid vp va vb p (a0::tl) tl.length w he hp ha hb hpe hpr rfl hf;have h2:=fun W (h:Ext w W)=>zhH vp va vb p a0 tl W (he.ext h) (h.sl hp) (h.rd ha) (h.rd hb) hpr hf hq;generalize I (flP p (a0::tl))=sf at *;obtain ⟨ap,cp,rfl,_,_,_⟩:=hp.parts;obtain ⟨aa,ca,rfl,_,_,_⟩:=ha.parts;obtain ⟨ab,cb,rfl,_,_,_⟩:=hb.parts;clear hp ha hb he hpe hpr hf hq;have H1:=hid h1;have H2:=hid h2;clear h1 h2;go_enter Tryz.func198,Tryz.ntmps198
 go_wp2_with fail
 refine (H1.out).mono ?_;rintro e w1 ⟨rfl,hx1⟩;have Hx1:=hid hx1;clear hx1;go_wp2_with fail
 refine (H2.out w1 Hx1.out).mono ?_;rintro e w2 ⟨rfl,hx2⟩;have Hx2:=hid (Hx1.out.trans hx2);clear hx2;go_wp2
 go_ret2
 exact ⟨rfl,Hx2.out⟩
theorem zif (n:Int)(w:World)(he:Env w)(h0:-9223372036854775808≤n)(h1:n≤9223372036854775807) :
  Calls Tryz.prog 94 #[.int .i64 n] w fun e w'=>e=.returned (Rv (n:Rat))∧Ext w w':=by
 have ho:=fun W (h:Ext w W)=>zaQ n h0 h1 W (he.ext h);rw [zf1];generalize I n=s at *;have b2:=zd9.new w (.string ⟨#[]⟩) (.string ⟨#[]⟩);have hE:Ext w (w.alloc (.cells #[.string ⟨#[]⟩,.string ⟨#[]⟩] 65)):=(Ext.refl _).alloc _;have hk:Kp0 w (w.alloc (.cells #[.string ⟨#[]⟩,.string ⟨#[]⟩] 65)) w.heap.size:=⟨hE,_,_,b2⟩;clear b2 he;have Ho:=hid ho;have HE:=hid hE;have Hk:=hid hk;clear ho hE hk;go_enter Tryz.func94,Tryz.ntmps94
 go_wp2_with fail
 refine (Ho.out _ HE.out).mono ?_;rintro e W4 ⟨rfl,hxa⟩;have hkk:=Hk.out.ext hxa;have Hkk:=hid hkk;clear hkk;clear hxa;have hc0:=(Hkk.out).res.c0;have hc1:=(Hkk.out).res.c1;have hz0:=(Hkk.out).res.fz 0;have hz1:=(Hkk.out).res.fz 1;obtain ⟨hb,hfx⟩:=(Hkk.out).fin (by omega) (.string s) (.string ⟨#[49]⟩);have Hb:=hid hb;have Hfx:=hid hfx;clear hb hfx;go_wp2_with fail
 have hd0:=Hb.out.c0;have hd1:=Hb.out.c1;exact bodyPost_ret (v:=.agg #[.string s,.string ⟨#[49]⟩]) (by simp [results,Tryz.results94,go_sem,hd0,hd1]) rfl ⟨rfl,Hfx.out⟩
theorem zig (vp vb:Value)(p:List Int)(n:Nat)(w:World)(he:Env w)(hp:Sl w vp (zap p))(hb:Rd w vb (ov n))(hpe:zfb p=0)(hpr:Pr p (n+1)) :
  Calls Tryz.prog 58 #[vp,vb] w fun e w'=>e=.returned (.int .i64 0)∧Ext w w':=by
 have hpl:=zhE hpr;have hov:=zhD hpr;have hpl3:p.length≤3:=by rcases hpr with ⟨rfl,_⟩ | ⟨rfl,_⟩ <;> simp
 have h1:=zhz vp vb p (ov n) w he hp hb hpe (by omega) (by rw [zhG,hpl]) (fun q h=>(zhF q h).mono (by omega)) (by
  rw [hov.1];intro e h;rw [List.mem_singleton] at h;subst h;exact ⟨.inl rfl,by decide,by decide⟩) (by rw [hov.1];right;decide)
 rw [hov.1,show ze5 [(2,1)]=1 by decide] at h1;obtain ⟨ap,cp,rfl,_,_,_⟩:=hp.parts;obtain ⟨ab,cb,rfl,_,_,_⟩:=hb.parts;clear hp hb he hpe hpr hov hpl hpl3;have H1:=hid h1;clear h1;go_enter Tryz.func58,Tryz.ntmps58
 go_wp2_with fail
 refine (H1.out).mono ?_;rintro e w1 ⟨rfl,hx1⟩;have Hx1:=hid hx1;clear hx1;go_wp2
 go_ret
 exact ⟨rfl,Hx1.out⟩
def ScV (w:World)(v:Value)(p:List Int)(rs:List Qw):Prop:=∃ vp vn,v=.agg #[vp,vn]∧Sl w vp (zap p)∧RdM w vn rs
theorem ScV.ext {w w':World}{v:Value}{p:List Int}{rs:List Qw}(h:ScV w v p rs)(hx:Ext w w'):ScV w' v p rs:=by
 obtain ⟨vp,vn,e,a,b⟩:=h;exact ⟨vp,vn,e,hx.sl a,hx.rdM b⟩
theorem zih (v:Value)(p:List Int)(rs:List Qw)(n:Nat)(r:Qw)(w:World)(hv:ScV w v p rs)(hn:rs.length=n+1)(hl:n≤1000)(hr:rs[n]?=some r) :
  Calls Tryz.prog 93 #[v] w fun e w'=>e=.returned r.u∧Ext w w':=by
 obtain ⟨vp,vn,rfl,hp,hs,hm⟩:=hv;obtain ⟨ap,cp,rfl,_,_,_⟩:=hp.parts;obtain ⟨an,cn,rfl,_,_,hc⟩:=hs.parts;obtain ⟨b,off,rfl,hc0⟩:=hc n r.u (by unfold qwc;rw [List.getElem?_map,hr];rfl);obtain ⟨ar,cr,hru,_,_,_⟩:=(hm r (List.mem_of_getElem? hr)).parts;rw [zfz,hn];rw [hru] at hc0 ⊢;generalize r.x.length=k at *;have hE:Ext w (w.alloc (.cells #[.slice ap (zap p).length cp,.slice (some ⟨b,off,none⟩) (n+1) cn] 28)):=(Ext.refl w).alloc _;have hc1:=hE.cell hc0;have hi0:(0:Int)≤(n:Int):=by omega
 have hi1:(n:Int)<((n+1:Nat):Int):=by omega
 have hw:((n+1:Nat):Int) - 1=(n:Int):=by omega
 have HE:=hid hE;clear hp hs hm hc hc0 hE hr hn hru;go_enter Tryz.func93,Tryz.ntmps93
 go_wp2
 go_ret
 exact ⟨rfl,HE.out⟩
def zii (n:Nat)(rs:List Qw)(k:Nat):List Rat:=if k=0 then List.replicate n 0 else ((rs[k - 1]?).map Qw.x).getD []
structure zij (p:List Int)(rs:List Qw):Prop where
 pe:zfb p=0
 few:p.length≤100
 ne:rs.length ≠ 0
 most:rs.length≤60
 len:∀ r∈rs,r.x.length=p.length
 ft:∀ r∈rs,∀ q∈r.x,Ft 30 q
 quick:∀ k r,rs[k]?=some r→zh0 p (zew (zii p.length rs k) r.x)
 up:∀ k r,rs[k]?=some r→ze5 (tms p (dn (zew (zii p.length rs k) r.x)) (zew (zii p.length rs k) r.x))=-1
theorem zik (v:Value)(p:List Int)(rs:List Qw)(w:World)(he:Env w)(hv:ScV w v p rs)(h:zij p rs) :
  Calls Tryz.prog 34 #[v] w fun e w'=>e=.returned (.int .i64 0)∧Ext w w':=by
 obtain ⟨vp,vn,rfl,hp,hs,hm⟩:=hv;have hpl:=h.few;have h0:=h.ne;have h60:=h.most;have hpr:=fun W (hE:Ext w W)=>zfc vp p W (hE.sl hp) (by omega);rw [h.pe] at hpr;have hz:=fun W (hE:Ext w W)=>zhp vp p W (he.ext hE) (hE.sl hp) h.pe;have hck:=fun (r:Qw)(hr:r∈rs) W (hE:Ext w W)=>zfG vp r.u p r.x W (he.ext hE) (hE.sl hp) (hE.rd (hm r hr)) h.pe (h.len r hr) (h.ft r hr);have hcm:=fun k (r:Qw)(hr:rs[k]?=some r) vb W (hE:Ext w W)(hb:Rd W vb (zii p.length rs k))(hbl:(zii p.length rs k).length=p.length)(hbf:∀ q∈zii p.length rs k,Ft 30 q) =>
  zh2 vp vb r.u p (zii p.length rs k) r.x W (he.ext hE) (hE.sl hp) hb (hE.rd (hm r (List.mem_of_getElem? hr))) h.pe hpl hbl (h.len r (List.mem_of_getElem? hr)) hbf (h.ft r (List.mem_of_getElem? hr)) (h.quick k r hr)
 have hpv:∀ k,k≤rs.length→(zii p.length rs k).length=p.length∧∀ q∈zii p.length rs k,Ft 30 q:=fun k hk=>by
  unfold zii;by_cases h1:k=0
  ·rw [if_pos h1];refine ⟨List.length_replicate,fun q hq=>?_⟩;obtain rfl:=List.eq_of_mem_replicate hq;exact zgV.mono (by omega)
  ·rw [if_neg h1,List.getElem?_eq_getElem (by omega)];exact ⟨h.len _ (List.getElem_mem _),h.ft _ (List.getElem_mem _)⟩
 have hup:=h.up;have hln:=h.len;have hone:=fun (r:Qw)(hr:r∈rs)=>(hm r hr).parts;have hm2:=fun (r:Qw)(hr:r∈rs) W (hE:Ext w W)=>hE.rd (hm r hr);obtain ⟨ap,cp,rfl,_,_,_⟩:=hp.parts;obtain ⟨an,cn,rfl,_,_,hc⟩:=hs.parts;rw [zar] at hpr hz hck hcm ⊢;rw [zfz];have bx:(w.alloc (.cells #[.slice ap p.length cp,.slice an rs.length cn] 28)).heap[w.heap.size]?=some (.cells #[.slice ap p.length cp,.slice an rs.length cn] 28 (0,0)):=World.alloc_heap_new w _;have hE0:Ext w (w.alloc (.cells #[.slice ap p.length cp,.slice an rs.length cn] 28)):=(Ext.refl w).alloc _;have hbox:∀ W,Ext (w.alloc (.cells #[.slice ap p.length cp,.slice an rs.length cn] 28)) W→W.cell? ⟨w.heap.size,0,none⟩=some (.slice ap p.length cp)∧W.cell? ⟨w.heap.size,1,none⟩=some (.slice an rs.length cn):=fun W hE=>by
  have hb:=hE.heap bx;unfold World.cell?;dsimp only;rw [hb];exact ⟨rfl,rfl⟩
 clear hp hs hm he h hpl bx;have Hpr:=hid hpr;have Hz:=hid hz;have Hck:=hid hck;have Hcm:=hid hcm;have Hpv:=hid hpv;have Hup:=hid hup;have Hln:=hid hln;have Hone:=hid hone;have Hm2:=hid hm2;have Hc:=hid hc;have HE0:=hid hE0;have Hbox:=hid hbox;clear hpr hz hck hcm hpv hup hln hone hm2 hc hE0 hbox;go_enter Tryz.func34,Tryz.ntmps34
 go_wp2_with fail
 refine (Hpr.out _ HE0.out).mono ?_;rintro e w1 ⟨rfl,rfl⟩;go_wp2_with fail
 refine (Hz.out _ HE0.out).mono ?_;rintro e w1 ⟨rfl,hoz,hx1⟩;obtain ⟨q0,q1⟩:=Hbox.out w1 hx1;have hrz:Rd w1 (.slice (some ⟨w.heap.size+1,0,none⟩) p.length p.length) (zii p.length rs 0):=by
  have:=hoz.rd;rw [World.size_alloc] at this;exact this
 have Hrz:=hid hrz;have Hx1:=hid hx1;clear hrz hx1;clear hoz;go_wp2_with fail
 have hcs:∀ k,(zii p.length rs (k+1))=((rs[k]?).map Qw.x).getD []:=fun k=>by unfold zii;rw [if_neg (by omega)];rfl
 have Hcs:=hid hcs;clear hcs;go_loopw [4,7,8,9,10,36] (fun v4 v7 v8 v9 v10 v36 wr=>∃ (k:Nat)(a:Option Addr)(c:Nat),v36=.int .i64 k∧k≤rs.length∧v4=.slice a p.length c∧Rd wr (.slice a p.length c) (zii p.length rs k)∧Ext w1 wr) (fun _ _ _ _ _ v36 _=>rs.length - (zal v36).toNat)
 case atStart=>exact ⟨0,_,_,rfl,Nat.zero_le _,rfl,Hrz.out,Ext.refl _⟩
 case round =>
  clear q0 q1;obtain ⟨k,ab,cb,rfl,hk,rfl,hrd,hE⟩:=hrel;by_cases hkn:k<rs.length
  ·obtain ⟨r,hr⟩:∃ r,rs[k]?=some r:=⟨_,List.getElem?_eq_getElem hkn⟩;have hmem:=List.mem_of_getElem? hr;obtain ⟨b,off,rfl,hc0⟩:=Hc.out k r.u (by unfold qwc;rw [List.getElem?_map,hr];rfl);obtain ⟨ar,cr,hru,_,_,_⟩:=Hone.out r hmem;have hEw:=(HE0.out.trans Hx1.out).trans hE;have hcu:=hEw.cell hc0;have hrl:r.x.length=p.length:=Hln.out r hmem;rw [hru,hrl] at hcu;have h1:=Hck.out r hmem wr hEw;have hp1:=Hpv.out k hk;have h2:=fun W (hx:Ext wr W)=>Hcm.out k r hr (.slice ab p.length cb) W (hEw.trans hx) (hx.rd hrd) hp1.1 hp1.2;have hu:=Hup.out k r hr;rw [hu] at h2;have hr2:=fun W (hx:Ext wr W)=>Hm2.out r hmem W (hEw.trans hx);rw [hru,hrl] at h1 h2 hr2;have hnx:zii p.length rs (k+1)=r.x:=(by rw [Hcs.out k,hr];rfl);rw [← hnx] at hr2;have hk0:(0:Int)≤(k:Int):=(by omega);have hk1:(k:Int)<(rs.length:Int):=(by omega);obtain ⟨q0,q1⟩:=Hbox.out wr (Hx1.out.trans hE);have hbx2:=fun W (hx:Ext wr W)=>Hbox.out W ((Hx1.out.trans hE).trans hx);clear hmem hc0 hEw hrl hp1 hu hnx hrd hru hr;have H1:=hid h1;have H2:=hid h2;have Hr2:=hid hr2;have HE:=hid hE;have Hbx2:=hid hbx2;clear h1 h2 hr2 hE hbx2;go_wp2_with fail
   refine H1.out.mono ?_;rintro e w3 ⟨rfl,hx3⟩;obtain ⟨s0,s1⟩:=Hbx2.out w3 hx3;have Hx3:=hid hx3;clear hx3;clear q0 q1;go_wp2_with fail
   refine (H2.out w3 Hx3.out).mono ?_;rintro e w4 ⟨rfl,hx4⟩;have Hx4:=hid (Hx3.out.trans hx4);clear hx4 s0 s1;go_wp2_with fail
   go_roundw
   case rel=>exact ⟨k+1,_,_,by go_num,by omega,rfl,Hr2.out _ Hx4.out,HE.out.trans Hx4.out⟩
   case measure=>simp [zal];omega
  ·obtain rfl:rs.length=k:=by omega
   have Hrd:=hid hrd;have HE:=hid hE;clear hrd hE;go_wp2
   go_ret
   exact ⟨rfl,(HE0.out.trans Hx1.out).trans HE.out⟩
def noteQ (rs:List Qw)(n:Nat)(k:Int):List Rat :=
 let b:=zex (((rs[n]?).map Qw.x).getD []) ((k / ((n:Int)+1):Int):Rat)
 if k % ((n:Int)+1)=0 then b else zev b (((rs[(k % ((n:Int)+1)).toNat - 1]?).map Qw.x).getD [])
theorem zil {k N:Int}(hN:0<N):(k.tmod N<0→k.tmod N+N=k % N∧k.tdiv N - 1=k / N)∧(¬ k.tmod N<0→k.tmod N=k % N∧k.tdiv N=k / N):=by
 have h1:=Int.mul_tdiv_add_tmod k N;have h2:=Int.mul_ediv_add_emod k N;have h3:=Int.emod_nonneg k (show N ≠ 0 by omega);have h4:=Int.emod_lt_of_pos k hN;have h5:-N<k.tmod N∧k.tmod N<N:=⟨Int.lt_tmod_of_pos k hN,Int.tmod_lt_of_pos k hN⟩;generalize k.tmod N=r at *;generalize k.tdiv N=q at *;generalize k % N=s at *;generalize k / N=t at *;have key:∀ a b u v:Int,N * a+u=N * b+v→0≤u→u<N→0≤v→v<N→a=b∧u=v:=fun a b u v e u0 u1 v0 v1=>by
  have hm:N * (a - b)=v - u:=by rw [Int.mul_sub];omega
  have:a - b=0:=by
   rcases Int.lt_trichotomy (a - b) 0 with g | g | g
   ·have:=Int.mul_le_mul_of_nonneg_left (show a - b≤-1 by omega) (show 0≤N by omega);omega
   ·exact g
   ·have:=Int.mul_le_mul_of_nonneg_left (show 1≤a - b by omega) (show 0≤N by omega);omega
  exact ⟨by omega,by rw [this,Int.mul_zero] at hm;omega⟩
 constructor
 ·intro g;obtain ⟨e1,e2⟩:=key (q - 1) t (r+N) s (by rw [Int.mul_sub];omega) (by omega) (by omega) h3 h4;exact ⟨e2,e1⟩
 ·intro g;obtain ⟨e1,e2⟩:=key q t r s (by omega) (by omega) (by omega) h3 h4;exact ⟨e2,e1⟩
end
end Go.Proofs.YtebabancfnmfjaaGreatDoor
