/- Walks: floor, Floor, Remainder by the octave. Plain: the floor over the octave, found from a few bits, is the floor of the linear form. Plain: sizes of the box with few octaves have small numbers. Plain: an insertion sort by a key; lists in order. Walks: checkQuotient, Floor, Remainder by the octave. Walk: Remainder by the octave. Walks: scale's integer and reduce. -/
import Derived.Test.YtoehmpbipbbffaaGreatDoorPa14
import Derived.Test.YtoehmpbipbbffaaGreatDoorPa07
import Derived.Deep.DeepCutAuto
set_option maxRecDepth 100000
set_option maxHeartbeats 2000000
namespace Go.Proofs.YtoehmpbipbbffaaGreatDoor
section
open Go.RowKit Go.Lib
attribute [local go_sem] Oper.semAt_some
def flP (p:List Int)(x:List Rat):Int:=if x.tail.all (· == 0) then (x.headD 0).floor else lowT (tms p (dn x) x) / (67108864 * ((dn x:Nat):Int))
def QF (p:List Int)(x:List Rat):Prop:=x.tail.all (· == 0)=true∨((∀ e∈tms p (dn x) x,okE 100000 e)∧dn x≤10000∧lowT (tms p (dn x) x) / (67108864 * ((dn x:Nat):Int))=higT (tms p (dn x) x) / (67108864 * ((dn x:Nat):Int)))
theorem ziq {p:List Int}{n:Nat}(hp:Pr p (n+1)):tms p (dn (ov n)) (ov n)=[(2,1)]∧dn (ov n)=1:=by
 rcases hp with ⟨rfl,h⟩ | ⟨rfl,h⟩
 ·obtain rfl:n=1:=by omega
  exact ⟨by decide +kernel,by decide +kernel⟩
 ·obtain rfl:n=2:=by omega
  exact ⟨by decide +kernel,by decide +kernel⟩
theorem zir {p:List Int}{n:Nat}(hp:Pr p n):p.length=n:=by rcases hp with ⟨rfl,rfl⟩ | ⟨rfl,rfl⟩ <;> rfl
theorem zis {n:Nat}:∀ q∈ov n,Ft 1 q:=by
 intro q hq;unfold ov at hq;rcases List.mem_cons.1 hq with rfl | h
 ·exact zhV
 ·obtain rfl:=List.eq_of_mem_replicate h;exact zhA
theorem zit (n:Nat):(ov n).length=n+1:=by unfold ov;simp
theorem ziu (vp va vb:Value)(p:List Int)(a0:Rat)(tl:List Rat)(w:World)(he:Env w)(hp:Sl w vp (zak p))(ha:Rd w va (a0::tl))(hb:Rd w vb (ov tl.length))(hpr:Pr p (tl.length+1))(hf:∀ q∈a0::tl,Ft 30 q)(hq:QF p (a0::tl)) :
  Calls Tryz.prog 87 #[vp,va,vb] w fun e w'=>e=.returned (.string (I (flP p (a0::tl))))∧Ext w w':=by
 have hpl:=zir hpr;have hpl3:p.length≤3:=by rcases hpr with ⟨rfl,_⟩ | ⟨rfl,_⟩ <;> simp
 have hra:=zip va vb a0 tl w he ha hb (by omega) (fun q h=>(hf q h).mono (by omega));have hov:=ziq hpr;by_cases ht:tl.all (· == 0)=true
 ·have hfp:flP p (a0::tl)=a0.floor:=by unfold flP;rw [List.tail_cons,if_pos ht];rfl
  rw [ht] at hra;have h0:=hf a0 (List.mem_cons_self ..);have hfl:=fun W (h:Ext w W)=>ze3 a0 W (he.ext h) (h0.num (by omega)) (h0.den (by omega));rw [hfp];generalize I a0.floor=sf at *;unfold Rv at hra hfl;generalize I a0.num=s1 at *;generalize I (a0.den:Int)=s2 at *;obtain ⟨ap,cp,rfl,_,_,_⟩:=hp.parts;obtain ⟨aa,ca,rfl,_,_,_⟩:=ha.parts;obtain ⟨ab,cb,rfl,_,_,_⟩:=hb.parts;clear hp ha hb hov hpr hf hq hfp ht h0 he hpl hpl3;have Hra:=hid hra;have Hfl:=hid hfl;clear hra hfl;go_enter Tryz.func87,Tryz.ntmps87
  go_wp2_with fail
  refine Hra.out.mono ?_;rintro e w1 ⟨rfl,hx1⟩;have HE:Hid (Ext w (w1.alloc (.cells #[.string s1,.string s2] 57))):=hid (hx1.alloc _);clear hx1;go_wp2_with fail
  refine (Hfl.out _ HE.out).mono ?_;rintro e w2 ⟨rfl,hx2⟩;have Hx2:=hid (HE.out.trans hx2);clear hx2;go_wp2
  try rw [Exit.noGoto_ret]
  go_ret
  exact ⟨rfl,Hx2.out⟩
 ·have hfp:flP p (a0::tl)=lowT (tms p (dn (a0::tl)) (a0::tl)) / (67108864 * ((dn (a0::tl):Nat):Int)):=by unfold flP;rw [List.tail_cons,if_neg ht]
  rw [Bool.eq_false_iff.2 ht] at hra;obtain ⟨q1,q2,q3⟩:(∀ e∈tms p (dn (a0::tl)) (a0::tl),okE 100000 e)∧dn (a0::tl)≤10000∧_:=hq.resolve_left ht;have hl:(tms p (dn (a0::tl)) (a0::tl)).length≤100:=by
   have:=zgp (p:=p) (d:=dn (a0::tl)) (x:=a0::tl);simp only [List.length_cons] at this;omega
  have h1:=fun W (h:Ext w W)=>zgt vp va p (a0::tl) W (he.ext h) (h.sl hp) (h.rd ha) (by omega) (by rw [hpl];rfl) hf;have h2:=fun W (h:Ext w W)=>zgt vp vb p (ov tl.length) W (he.ext h) (h.sl hp) (h.rd hb) (by omega) (by rw [zit,hpl]) (fun q h=>(zis q h).mono (by omega));rw [hov.1,hov.2] at h2;have h3:=fun W tx ty (hx:TmV W tx (tms p (dn (a0::tl)) (a0::tl)) (dn (a0::tl)))(hy:TmV W ty [(2,1)] 1)=>zij tx ty _ _ W hx hy hl q1 (zeR _) q2 q3;have hbd:=zhq (fun e he=>zhr (q1 e he) (show (100000:Int)≤10000000 by omega));have hd0:=zeR (a0::tl);rw [hfp];generalize tms p (dn (a0::tl)) (a0::tl)=l at *;generalize dn (a0::tl)=d at *;have hll:(l.length:Int)≤100:=by omega
  have hqb:=zih (a:=lowT l) (b:=67108864 * (d:Int)) (m:=155821957000000000) (by omega) (by omega) (by omega) (by omega);generalize lowT l / (67108864 * (d:Int))=q at *;have h4:=fun W (h:Ext w W)=>zaL q (by omega) (by omega) W (he.ext h);generalize I q=sq at *;unfold Rv at hra;generalize I a0.num=s1 at *;generalize I (a0.den:Int)=s2 at *;obtain ⟨ap,cp,rfl,_,_,_⟩:=hp.parts;obtain ⟨aa,ca,rfl,_,_,_⟩:=ha.parts;obtain ⟨ab,cb,rfl,_,_,_⟩:=hb.parts;clear hp ha hb hov hpr hf hq hfp ht he hpl hpl3 q1 q2 q3 hbd hll hqb hl hd0;have Hra:=hid hra;have H1:=hid h1;have H2:=hid h2;have H3:=hid h3;have H4:=hid h4;clear hra h1 h2 h3 h4;go_enter Tryz.func87,Tryz.ntmps87
  go_wp2_with fail
  refine Hra.out.mono ?_;rintro e w1 ⟨rfl,hx1⟩;have HE:Hid (Ext w (w1.alloc (.cells #[.string s1,.string s2] 57))):=hid (hx1.alloc _);clear hx1;go_wp2_with fail
  refine (H1.out _ HE.out).mono ?_;rintro e w2 ⟨tx,rfl,hx,hx2⟩;have Hx2:=hid (HE.out.trans hx2);clear hx2;obtain ⟨vc,vd,rfl,hp1,hf1⟩:=hx;obtain ⟨ac,cc,rfl,_,_,_⟩:=hp1.parts;obtain ⟨ad,cd,rfl,_,_,_⟩:=hf1.parts;have htx:TmV w2 (.agg #[.slice ac (zak (l.map Prod.fst)).length cc,.slice ad (zgc (l.map Prod.snd)).length cd,.string (I (d:Int))]) l d:=⟨_,_,rfl,hp1,hf1⟩;clear hp1 hf1;generalize (zak (l.map Prod.fst)).length=n1 at *;generalize (zgc (l.map Prod.snd)).length=n2 at *;generalize I (d:Int)=sd at *;have Htx:=hid htx;clear htx;go_wp2_with fail
  refine (H2.out _ Hx2.out).mono ?_;rintro e w3 ⟨ty,rfl,hy,hx3⟩;have Hx3:=hid (Hx2.out.trans hx3);have Htx3:=hid (Htx.out.ext hx3);clear hx3;obtain ⟨ve,vf,rfl,hp1,hf1⟩:=hy;obtain ⟨ae,ce,rfl,_,_,_⟩:=hp1.parts;obtain ⟨af,cf,rfl,_,_,_⟩:=hf1.parts;have hty:TmV w3 (.agg #[.slice ae (zak (([(2,1)]:List (Int × Int)).map Prod.fst)).length ce,.slice af (zgc (([(2,1)]:List (Int × Int)).map Prod.snd)).length cf,.string (I ((1:Nat):Int))]) [(2,1)] 1:=⟨_,_,rfl,hp1,hf1⟩;clear hp1 hf1;generalize (zak (([(2,1)]:List (Int × Int)).map Prod.fst)).length=n3 at *;generalize (zgc (([(2,1)]:List (Int × Int)).map Prod.snd)).length=n4 at *;generalize I ((1:Nat):Int)=se at *;have hE4:Ext w3 ((w3.alloc (.cells #[.slice ac n1 cc,.slice ad n2 cd,.string sd] 110)).alloc (.cells #[.slice ae n3 ce,.slice af n4 cf,.string se] 110)):=((Ext.refl w3).alloc _).alloc _;have HE4:=hid (Hx3.out.trans hE4);have H5:=hid (H3.out _ _ _ (Htx3.out.ext hE4) (hty.ext hE4));clear hE4 hty;go_wp2_with fail
  refine H5.out.mono ?_;rintro e w5 ⟨rfl,hx5⟩;have Hx5:=hid (HE4.out.trans hx5);clear hx5;go_wp2_with fail
  refine (H4.out _ Hx5.out).mono ?_;rintro e w6 ⟨rfl,hx6⟩;have Hx6:=hid (Hx5.out.trans hx6);clear hx6;go_wp2
  try rw [Exit.noGoto_ret]
  go_ret
  exact ⟨rfl,Hx6.out⟩
end
section
theorem ziv {a:Rat}(h:a.den=1)(tl:List Rat):dn (a::tl)=tl.foldl (fun d r=>Nat.lcm d r.den) 1:=by
 unfold dn;rw [List.foldl_cons,h];rfl
theorem ziw {ps:List Int}{a:Rat}{tl:List Rat}{A:Int}(hA:a=A)(m:Int) :
  dn ((a - (m:Rat))::tl)=dn (a::tl) ∧
  zeH ((2::ps).zip (fcd (dn (a::tl)) ((a - (m:Rat))::tl)))=zeH ((2::ps).zip (fcd (dn (a::tl)) (a::tl))) - m * (67108864 * (dn (a::tl):Int)) ∧
  zeI ((2::ps).zip (fcd (dn (a::tl)) ((a - (m:Rat))::tl)))=zeI ((2::ps).zip (fcd (dn (a::tl)) (a::tl))):=by
 have hm:a - (m:Rat)=((A - m:Int):Rat):=by rw [hA,Rat.intCast_sub]
 obtain ⟨n1,d1⟩:=zfg hA;obtain ⟨n2,d2⟩:=zfg hm;refine ⟨by rw [ziv d1,ziv d2],?_,?_⟩
 ·simp only [fcd,List.map_cons,List.zip_cons_cons,zeH,n1,n2,d1,d2,Nat.div_one];rw [show lg 2=67108864 by decide,Int.sub_mul,Int.sub_mul,Int.mul_comm 67108864,← Int.mul_assoc];omega
 ·simp only [fcd,List.map_cons,List.zip_cons_cons,zeI,if_pos]
theorem zix {M E D lo hi:Int}(hD:0<D)(h1:M - E≤lo)(h2:lo≤M)(h3:M≤hi)(h4:hi≤M+E)(_:0≤E)(hf:∀ m:Int,E<(M - m * D).natAbs) :
  lo / D=M / D∧hi / D=M / D:=by
 have e1:=Int.mul_ediv_add_emod M D;have e2:=Int.emod_nonneg M (show D ≠ 0 by omega);have e3:=Int.emod_lt_of_pos M hD;have f1:=hf (M / D);have f2:=hf (M / D+1);generalize hq:M / D=q at *;generalize M % D=r at *;have g1:M - q * D=r:=by rw [Int.mul_comm q D];omega
 have g2:M - (q+1) * D=r - D:=by rw [Int.add_mul,Int.one_mul,Int.mul_comm q D];omega
 rw [g1] at f1;rw [g2] at f2;constructor
 ·have:lo=(r - (M - lo))+D * q:=by omega
  rw [this,Int.add_mul_ediv_left _ _ (by omega),Int.ediv_eq_zero_of_lt (by omega) (by omega)];omega
 ·have:hi=(r+(hi - M))+D * q:=by omega
  rw [this,Int.add_mul_ediv_left _ _ (by omega),Int.ediv_eq_zero_of_lt (by omega) (by omega)];omega
theorem ziy (l:List (Int × Int)):0≤zeI l:=by
 induction l with
 | nil=>simp [zeI]
 | cons e l ih =>
  simp only [zeI]
  split <;> omega
theorem ziz {p:List Int}{a:Rat}{tl:List Rat}(hp:Pr p (a::tl).length)(hb:Bx 256 (a::tl))(hne:¬ ∀ r∈tl,r=0) :
  lowT (tms p (dn (a::tl)) (a::tl)) / (67108864 * ((dn (a::tl):Nat):Int))=zeH (p.zip (fcd (dn (a::tl)) (a::tl))) / (67108864 * ((dn (a::tl):Nat):Int)) ∧
  higT (tms p (dn (a::tl)) (a::tl)) / (67108864 * ((dn (a::tl):Nat):Int))=zeH (p.zip (fcd (dn (a::tl)) (a::tl))) / (67108864 * ((dn (a::tl):Nat):Int)):=by
 obtain ⟨ps,hps⟩:∃ ps,p=2::ps:=by rcases hp with ⟨rfl,_⟩ | ⟨rfl,_⟩ <;> exact ⟨_,rfl⟩
 obtain ⟨A,hA⟩:∃ A:Int,a=A:=by
  rcases hp with ⟨_,h⟩ | ⟨_,h⟩
  ·match tl,h,hb with
   | [b],_,⟨A,_,h1,_⟩=>exact ⟨A,h1⟩
  ·match tl,h,hb with
   | [b,c],_,⟨A,_,_,h1,_⟩=>exact ⟨A,h1⟩
 have hbm:∀ m:Int,Bx 256 ((a - (m:Rat))::tl):=fun m=>by
  have hm:a - (m:Rat)=((A - m:Int):Rat):=by rw [hA,Rat.intCast_sub]
  rcases hp with ⟨_,h⟩ | ⟨_,h⟩
  ·match tl,h,hb with
   | [b],_,⟨_,B,_,h2⟩=>exact ⟨A - m,B,hm,h2⟩
  ·match tl,h,hb with
   | [b,c],_,⟨_,B,C,_,h2⟩=>exact ⟨A - m,B,C,hm,h2⟩
 have hd:=zeR (a::tl);have d0:=zeN (p.zip (fcd (dn (a::tl)) (a::tl)));have hbd:=zeM (tms p (dn (a::tl)) (a::tl));have hfar:∀ m:Int,zeI (p.zip (fcd (dn (a::tl)) (a::tl)))<(zeH (p.zip (fcd (dn (a::tl)) (a::tl))) - m * (67108864 * ((dn (a::tl):Nat):Int))).natAbs:=fun m=>by
  have hs:=ziw (ps:=ps) (tl:=tl) hA m;rw [← hps] at hs;have hl:((a - (m:Rat))::tl).length=(a::tl).length:=by simp
  have hf:=zfp (p:=p) (by rw [hl];exact hp) (hbm m);rcases hf with h | h
  ·exfalso;have:=zfr (p:=p) (by rw [hl];exact hp) h;exact hne fun r hr=>this r (List.mem_cons_of_mem _ hr)
  ·rw [hs.1] at h;have d1:=zeN (p.zip (fcd (dn (a::tl)) ((a - (m:Rat))::tl)));unfold tms at h;rw [d1.2.2.1,d1.2.2.2,hs.2.1,hs.2.2] at h;exact h
 have hm1:zeH (tms p (dn (a::tl)) (a::tl))=zeH (p.zip (fcd (dn (a::tl)) (a::tl))):=d0.2.2.1;have he1:zeI (tms p (dn (a::tl)) (a::tl))=zeI (p.zip (fcd (dn (a::tl)) (a::tl))):=d0.2.2.2;rw [hm1,he1] at hbd;exact zix (by omega) hbd.1 hbd.2.1 hbd.2.2.1 hbd.2.2.2 (ziy _) hfar
theorem zi0 {M:Int}{d:Nat}{s:Rat}(hd:0<d)(h:((M:Int):Rat)=(d:Rat) * s):M / (67108864 * (d:Int))=(s / 67108864).floor:=by
 have hD:(0:Int)<67108864 * (d:Int):=by omega
 have hq:∀ z:Int,z≤M / (67108864 * (d:Int)) ↔ z≤(s / 67108864).floor:=fun z=>by
  rw [Int.le_ediv_iff_mul_le hD,Rat.le_floor_iff,← Rat.intCast_le_intCast,h,Rat.intCast_mul,Rat.intCast_mul,Rat.intCast_natCast];have hd':(0:Rat)<(d:Rat):=Rat.natCast_pos.2 hd;constructor
  ·intro g;have g2:(d:Rat) * ((z:Rat) * 67108864)≤(d:Rat) * s:=by
    have e:(d:Rat) * ((z:Rat) * 67108864)=(z:Rat) * (((67108864:Int):Rat) * (d:Rat)):=by
     rw [show ((67108864:Int):Rat)=67108864 from rfl];grind
    rw [e];exact g
   have g3:(z:Rat) * 67108864≤s:=Rat.le_of_mul_le_mul_left g2 hd';grind
  ·intro g;have g3:(z:Rat) * 67108864≤s:=(by grind);have g2:(d:Rat) * ((z:Rat) * 67108864)≤(d:Rat) * s:=Rat.mul_le_mul_of_nonneg_left g3 (by grind);have e:(d:Rat) * ((z:Rat) * 67108864)=(z:Rat) * (((67108864:Int):Rat) * (d:Rat)):=by
    rw [show ((67108864:Int):Rat)=67108864 from rfl];grind
   rw [← e];exact g2
 have h1:=(hq (M / (67108864 * (d:Int)))).1 (Int.le_refl _);have h2:=(hq (s / 67108864).floor).2 (Int.le_refl _);omega
theorem zi1 {p:List Int}{a:Rat}{tl:List Rat}(hp:Pr p (a::tl).length)(hb:Bx 256 (a::tl)∨∀ r∈tl,r=0):flP p (a::tl)=(sF p (a::tl) / 67108864).floor:=by
 have hall:(tl.all (· == 0)=true) ↔ ∀ r∈tl,r=0:=by rw [List.all_eq_true];simp
 unfold flP;rw [List.tail_cons];by_cases h:∀ r∈tl,r=0
 ·rw [if_pos (hall.2 h)];obtain ⟨ps,hps⟩:∃ ps,p=2::ps:=by rcases hp with ⟨rfl,_⟩ | ⟨rfl,_⟩ <;> exact ⟨_,rfl⟩
  have e:sF p (a::tl)=a * 67108864:=by
   rw [hps,sF,zfs ps tl h,show lg 2=67108864 by decide];show a * ((67108864:Int):Rat)+0=_;rw [show ((67108864:Int):Rat)=67108864 from rfl];grind
  have e2:sF p (a::tl) / 67108864=a:=by rw [e];grind
  rw [e2];rfl
 ·rw [if_neg (fun g=>h (hall.1 g)),(ziz hp (hb.resolve_right h) h).1];exact zi0 (zeR _) (zeP _ p _ (zeQ _))
theorem zi2 {p:List Int}{a:Rat}{tl:List Rat}(hp:Pr p (a::tl).length)(hb:Bx 256 (a::tl)∨∀ r∈tl,r=0)(hs:(∀ e∈tms p (dn (a::tl)) (a::tl),okE 100000 e)∧dn (a::tl)≤10000):QF p (a::tl):=by
 by_cases h:∀ r∈tl,r=0
 ·left;rw [List.tail_cons,List.all_eq_true];simpa using h
 ·have:=ziz hp (hb.resolve_right h) h;exact .inr ⟨hs.1,hs.2,this.1.trans this.2.symm⟩
theorem zi3 {r:Rat}(h1:r.num.natAbs≤100000000)(h2:r.den≤1000000):Ft 30 r :=
 ⟨Dec.nDigits_le (by omega) (Nat.lt_of_le_of_lt h1 (by decide)),Dec.nDigits_le (by omega) (Nat.lt_of_le_of_lt h2 (by decide))⟩
theorem zi4 {p:List Int}{d:Nat}{x:List Rat}{e:Int × Int}(h:e∈tms p d x):e∈p.zip (fcd d x):=(List.mem_filter.1 h).1
structure Ok (m:Int)(p:List Int)(x:List Rat):Prop where
 ft:∀ r∈x,Ft 30 r
 small:∀ e∈tms p (dn x) x,okE m e
 den:dn x≤2
theorem zi5 {m:Int}{p:List Int}{x:List Rat}(hp:Pr p x.length)(h:Bx 256 x)(hm:512≤m)(hm2:m≤1000000)(hA:∀ a,x.head?=some a→-m≤2 * a.num∧2 * a.num≤m):Ok m p x:=by
 rcases hp with ⟨rfl,hl⟩ | ⟨rfl,hl⟩
 ·match x,hl,h with
  | [a,b],_,⟨A,B,ha,hb,h1,h2⟩ =>
   obtain ⟨ha1,ha2⟩:=zfg ha
   have hA':=hA a rfl
   rw [ha1] at hA'
   rcases zfh hb with ⟨hb1,hb2⟩ | ⟨hb1,hb2⟩
   ·have e:[(2:Int),3].zip (fcd (dn [a,b]) [a,b])=[(2,A),(3,b.num)]:=by
     simp [dn,fcd,ha1,ha2,hb1]
    refine ⟨?_,?_,by simp [dn,ha2,hb1]⟩
    ·intro r hr
     simp only [List.mem_cons,List.not_mem_nil,or_false] at hr
     rcases hr with rfl | rfl
     ·exact zi3 (by omega) (by omega)
     ·exact zi3 (by omega) (by omega)
    ·intro q hq
     have:=zi4 hq
     rw [e] at this
     simp only [List.mem_cons,List.not_mem_nil,or_false] at this
     rcases this with rfl | rfl
     ·exact ⟨.inl rfl,by dsimp only;omega,by dsimp only;omega⟩
     ·exact ⟨.inr (.inl rfl),by dsimp only;omega,by dsimp only;omega⟩
   ·have e:[(2:Int),3].zip (fcd (dn [a,b]) [a,b])=[(2,A * 2),(3,B)]:=by
     simp [dn,fcd,ha1,ha2,hb1,hb2,Nat.lcm]
    refine ⟨?_,?_,by simp [dn,ha2,hb1,Nat.lcm]⟩
    ·intro r hr
     simp only [List.mem_cons,List.not_mem_nil,or_false] at hr
     rcases hr with rfl | rfl
     ·exact zi3 (by omega) (by omega)
     ·exact zi3 (by omega) (by omega)
    ·intro q hq
     have:=zi4 hq
     rw [e] at this
     simp only [List.mem_cons,List.not_mem_nil,or_false] at this
     rcases this with rfl | rfl
     ·exact ⟨.inl rfl,by dsimp only;omega,by dsimp only;omega⟩
     ·exact ⟨.inr (.inl rfl),by dsimp only;omega,by dsimp only;omega⟩
 ·match x,hl,h with
  | [a,b,c],_,⟨A,B,C,ha,hb,hc,h1,h2,h3,h4⟩ =>
   obtain ⟨ha1,ha2⟩:=zfg ha
   obtain ⟨hc1,hc2⟩:=zfg hc
   have hA':=hA a rfl
   rw [ha1] at hA'
   rcases zfh hb with ⟨hb1,hb2⟩ | ⟨hb1,hb2⟩
   ·have e:[(2:Int),3,5].zip (fcd (dn [a,b,c]) [a,b,c])=[(2,A),(3,b.num),(5,C)]:=by
     simp [dn,fcd,ha1,ha2,hb1,hc1,hc2]
    refine ⟨?_,?_,by simp [dn,ha2,hb1,hc2]⟩
    ·intro r hr
     simp only [List.mem_cons,List.not_mem_nil,or_false] at hr
     rcases hr with rfl | rfl | rfl
     ·exact zi3 (by omega) (by omega)
     ·exact zi3 (by omega) (by omega)
     ·exact zi3 (by omega) (by omega)
    ·intro q hq
     have:=zi4 hq
     rw [e] at this
     simp only [List.mem_cons,List.not_mem_nil,or_false] at this
     rcases this with rfl | rfl | rfl
     ·exact ⟨.inl rfl,by dsimp only;omega,by dsimp only;omega⟩
     ·exact ⟨.inr (.inl rfl),by dsimp only;omega,by dsimp only;omega⟩
     ·exact ⟨.inr (.inr rfl),by dsimp only;omega,by dsimp only;omega⟩
   ·have e:[(2:Int),3,5].zip (fcd (dn [a,b,c]) [a,b,c])=[(2,A * 2),(3,B),(5,C * 2)]:=by
     simp [dn,fcd,ha1,ha2,hb1,hb2,hc1,hc2,Nat.lcm]
    refine ⟨?_,?_,by simp [dn,ha2,hb1,hc2,Nat.lcm]⟩
    ·intro r hr
     simp only [List.mem_cons,List.not_mem_nil,or_false] at hr
     rcases hr with rfl | rfl | rfl
     ·exact zi3 (by omega) (by omega)
     ·exact zi3 (by omega) (by omega)
     ·exact zi3 (by omega) (by omega)
    ·intro q hq
     have:=zi4 hq
     rw [e] at this
     simp only [List.mem_cons,List.not_mem_nil,or_false] at this
     rcases this with rfl | rfl | rfl
     ·exact ⟨.inl rfl,by dsimp only;omega,by dsimp only;omega⟩
     ·exact ⟨.inr (.inl rfl),by dsimp only;omega,by dsimp only;omega⟩
     ·exact ⟨.inr (.inr rfl),by dsimp only;omega,by dsimp only;omega⟩
theorem Ok.quick {m:Int}{p:List Int}{x:List Rat}(h:Ok m p x)(hp:Pr p x.length)(hm:m≤10000000)(hb:Bx 256 x):zid p x :=
 ⟨h.ft,fun e he=>zhr (h.small e he) hm,zfp hp hb⟩
theorem Ok.qf {p:List Int}{a:Rat}{tl:List Rat}(h:Ok 100000 p (a::tl))(hp:Pr p (a::tl).length)(hb:Bx 256 (a::tl)):QF p (a::tl) :=
 zi2 hp (.inl hb) ⟨h.small,by have:=h.den;omega⟩
section
variable {α : Type} (key : α → Rat)
variable {key}
theorem zi6 : ∀ {l:List α}{k:Nat}{x y:α},l[k+1]?=some x→l[k]?=some y→((l.set (k+1) y).set k x).Perm l
 | [],_,_,_,h,_=>by simp at h
 | [_],0,_,_,h,_=>by simp at h
 | b::a::t,0,x,y,h1,h2=>by
  simp at h1 h2;subst h1 h2;exact List.Perm.swap ..
 | c::t,k+1,x,y,h1,h2=>by
  simp only [List.getElem?_cons_succ] at h1 h2;simp only [List.set_cons_succ];exact (zi6 h1 h2).cons c
end
def Srt (p:List Int)(N:List (List Rat)):Prop:=N.Pairwise fun x y=>sF p x<sF p y
theorem zi7 {p:List Int}:∀ {N M:List (List Rat)},Srt p N→Srt p M→(∀ x,x∈N ↔ x∈M)→N=M
 | [],[],_,_,_=>rfl
 | [],b::M,_,_,h=>by have:=(h b).2 (List.mem_cons_self ..);cases this
 | a::N,[],_,_,h=>by have:=(h a).1 (List.mem_cons_self ..);cases this
 | a::N,b::M,h1,h2,h=>by
  have h1':=h1;have h2':=h2;unfold Srt at h1' h2';rw [List.pairwise_cons] at h1' h2';have e:a=b:=by
   rcases List.mem_cons.1 ((h a).1 (List.mem_cons_self ..)) with e | ha
   ·exact e
   ·rcases List.mem_cons.1 ((h b).2 (List.mem_cons_self ..)) with e | hb
    ·exact e.symm
    ·have g1:=h2'.1 a ha;have g2:=h1'.1 b hb;exfalso;grind
  subst e;rw [zi7 (N:=N) (M:=M) h1'.2 h2'.2 fun x=>?_];constructor
  ·intro hx;rcases List.mem_cons.1 ((h x).1 (List.mem_cons_of_mem _ hx)) with rfl | g
   ·have:=h1'.1 x hx;exfalso;grind
   ·exact g
  ·intro hx;rcases List.mem_cons.1 ((h x).2 (List.mem_cons_of_mem _ hx)) with rfl | g
   ·have:=h2'.1 x hx;exfalso;grind
   ·exact g
theorem zi8 {p:List Int}{N M:List (List Rat)}(h:N.Perm M)(h1:N.Pairwise fun x y=>sF p x≤sF p y)(h2:M.Nodup)(h3:∀ x∈M,∀ y∈M,sF p x=sF p y→x=y):Srt p N:=by
 have hn:N.Nodup:=h.nodup_iff.2 h2;unfold Srt;have:=List.Pairwise.and h1 hn;refine List.Pairwise.imp_of_mem ?_ this;intro a b ha hb ⟨g1,g2⟩;have:sF p a ≠ sF p b:=fun e=>g2 (h3 a (h.mem_iff.1 ha) b (h.mem_iff.1 hb) e);grind
end
section
open Go.RowKit Go.Lib
attribute [local go_sem] Oper.semAt_some
theorem zi9 {n:Nat}{x y:List Rat}(k:Rat)(hx:x.length=n)(hy:y.length=n):zh7 n [x,y] [1,k] 2=zeS x (zeU y k):=by
 subst hx;show zh6 (zh6 (List.replicate x.length 0) x 1) y k=zeS x (zeU y k);unfold zh6 zeS zeU;apply List.ext_getElem
 ·simp
 ·intro i h1 h2;simp only [List.getElem_zipWith,List.getElem_replicate,List.getElem_map];grind
theorem ziA (vp va vb:Value)(p:List Int)(a:List Rat)(n:Nat)(w:World)(he:Env w)(hp:Sl w vp (zak p))(ha:Rd w va a)(hb:Rd w vb (ov n))(hpe:zee p=0)(hpr:Pr p (n+1))(hal:a.length=n+1)(hf:∀ q∈a,Ft 30 q) :
  Calls Tryz.prog 86 #[vp,va,vb] w fun e w'=>e=.returned (.int .i64 0)∧Ext w w':=by
 have hpl:=zir hpr;have hov:=ziq hpr;have hua:=zf8 ha;have hub:=zf8 hb;have hpl3:p.length≤3:=by rcases hpr with ⟨rfl,_⟩ | ⟨rfl,_⟩ <;> simp
 have h2:=fun W (h:Ext w W)=>zgt vp vb p (ov n) W (he.ext h) (h.sl hp) (h.rd hb) (by omega) (by rw [zit,hpl]) (fun q h=>(zis q h).mono (by omega));rw [hov.1,hov.2] at h2;have hl3:RdM (w.alloc (.cells #[va,vb] 32)) (.slice (some ⟨w.heap.size,0,none⟩) 2 2) [⟨a,va,hua⟩,⟨ov n,vb,hub⟩] :=
  ⟨zhR (us:=[va,vb]) (World.alloc_heap_new w _) (by unfold maxLen;simp),by
   intro r hr;rcases List.mem_cons.1 hr with rfl | hr
   ·exact ((Ext.refl w).alloc _).rd ha
   ·rw [List.mem_singleton] at hr;subst hr;exact ((Ext.refl w).alloc _).rd hb⟩
 have hbl:Ext w (w.alloc (.cells #[va,vb] 32)):=(Ext.refl w).alloc _;have h1:=zfP vp _ p [⟨a,va,hua⟩,⟨ov n,vb,hub⟩] _ (he.ext hbl) (hbl.sl hp) hl3 hpe (by simp) (by
   intro r hr;rcases List.mem_cons.1 hr with rfl | hr
   ·exact ⟨by rw [hpl];exact hal,hf⟩
   ·rw [List.mem_singleton] at hr;subst hr;exact ⟨by rw [hpl];exact zit n,fun q h=>(zis q h).mono (by omega)⟩)
 obtain ⟨ap,cp,rfl,_,_,_⟩:=hp.parts;obtain ⟨aa,ca,rfl,_,_,_⟩:=ha.parts;obtain ⟨ab,cb,rfl,_,_,_⟩:=hb.parts;clear hp ha hb he hpe hpr hf hov hl3 hua hub hpl hpl3 hal;have H1:=hid h1;have H2:=hid h2;have Hbl:=hid hbl;clear h1 h2 hbl;go_enter Tryz.func86,Tryz.ntmps86
 go_wp2_with fail
 refine H1.out.mono ?_;rintro e w1 ⟨rfl,hx1⟩;have Hx1:=hid (Hbl.out.trans hx1);clear hx1;go_wp2_with fail
 refine (H2.out w1 Hx1.out).mono ?_;rintro e w2 ⟨tv,rfl,ht,hx2⟩;have Hx2:=hid (Hx1.out.trans hx2);obtain ⟨vc,vd,rfl,hp1,hf1⟩:=ht;obtain ⟨ac,cc,rfl,_,_,_⟩:=hp1.parts;obtain ⟨ad,cd,rfl,_,_,_⟩:=hf1.parts;rw [show (zak (([(2,1)]:List (Int × Int)).map Prod.fst)).length=1 from rfl];clear hp1 hf1 hx2;have hfield:∀ (u v x:Value) W,(Instr.field 110 (.agg #[u,v,x]) 0).run Tryz.prog W=.ok u W:=fun u v x W=>rfl;rw [show (zgc (([(2,1)]:List (Int × Int)).map Prod.snd)).length=1 from rfl];go_wp2
 go_ret
 exact ⟨rfl,Hx2.out⟩
theorem ziB (vp va vb:Value)(p:List Int)(a0:Rat)(tl:List Rat)(w:World)(he:Env w)(hp:Sl w vp (zak p))(ha:Rd w va (a0::tl))(hb:Rd w vb (ov tl.length))(hpe:zee p=0)(hpr:Pr p (tl.length+1))(hf:∀ q∈a0::tl,Ft 30 q)(hq:QF p (a0::tl)) :
  Calls Tryz.prog 57 #[vp,va,vb] w fun e w'=>e=.returned (.tuple #[.string (I (flP p (a0::tl))),.int .i64 0])∧Ext w w':=by
 have h1:=ziA vp va vb p (a0::tl) tl.length w he hp ha hb hpe hpr rfl hf;have h2:=fun W (h:Ext w W)=>ziu vp va vb p a0 tl W (he.ext h) (h.sl hp) (h.rd ha) (h.rd hb) hpr hf hq;generalize I (flP p (a0::tl))=sf at *;obtain ⟨ap,cp,rfl,_,_,_⟩:=hp.parts;obtain ⟨aa,ca,rfl,_,_,_⟩:=ha.parts;obtain ⟨ab,cb,rfl,_,_,_⟩:=hb.parts;clear hp ha hb he hpe hpr hf hq;have H1:=hid h1;have H2:=hid h2;clear h1 h2;go_enter Tryz.func57,Tryz.ntmps57
 go_wp2_with fail
 refine (H1.out).mono ?_;rintro e w1 ⟨rfl,hx1⟩;have Hx1:=hid hx1;clear hx1;go_wp2_with fail
 refine (H2.out w1 Hx1.out).mono ?_;rintro e w2 ⟨rfl,hx2⟩;have Hx2:=hid (Hx1.out.trans hx2);clear hx2;go_wp2
 go_ret2
 exact ⟨rfl,Hx2.out⟩
def ziC (w:World)(n:Nat)(r:List Rat)(v6 v7:Value)(wx:World):Prop:=∃ g,v6=.slice (some ⟨g,0,none⟩) n n∧v7=.int .i64 0∧zf4 wx w.heap.size (.slice (some ⟨g,0,none⟩) n n) r∧Ext w wx
theorem ziD (vp va vb:Value)(p:List Int)(a0:Rat)(tl:List Rat)(w:World)(he:Env w)(hp:Sl w vp (zak p))(ha:Rd w va (a0::tl))(hb:Rd w vb (ov tl.length))(hpe:zee p=0)(hpr:Pr p (tl.length+1))(hf:∀ q∈a0::tl,Ft 30 q)(hq:QF p (a0::tl))(hk:Ft 400 ((-flP p (a0::tl):Int):Rat))(hfl:Fit (flP p (a0::tl)))
  (hres:∀ q∈zeS (a0::tl) (zeU (ov tl.length) ((-flP p (a0::tl):Int):Rat)),Ft 30 q) :
  Calls Tryz.prog 65 #[vp,va,vb] w fun e w'=>∃ g,e=.returned (.tuple #[.slice (some ⟨g,0,none⟩) p.length p.length,.int .i64 0])∧zf4 w' w.heap.size (.slice (some ⟨g,0,none⟩) p.length p.length) (zeS (a0::tl) (zeU (ov tl.length) ((-flP p (a0::tl):Int):Rat)))∧Ext w w':=by
 have hpl:=zir hpr;have hpl3:p.length≤3:=by rcases hpr with ⟨rfl,_⟩ | ⟨rfl,_⟩ <;> simp
 have hua:=zf8 ha;have hub:=zf8 hb;have h1:=ziA vp va vb p (a0::tl) tl.length w he hp ha hb hpe hpr rfl hf;have h2:=fun W (h:Ext w W)=>ziu vp va vb p a0 tl W (he.ext h) (h.sl hp) (h.rd ha) (h.rd hb) hpr hf hq;have h3:=fun W=>zdb (flP p (a0::tl)) W hfl;have hxl:(a0::tl).length=p.length:=by rw [hpl];rfl
 have hyl:(ov tl.length).length=p.length:=by rw [hpl,zit]
 have hsum:zh7 p.length [a0::tl,ov tl.length] [1,((-flP p (a0::tl):Int):Rat)] 2=zeS (a0::tl) (zeU (ov tl.length) ((-flP p (a0::tl):Int):Rat)):=zi9 _ hxl hyl;have hsl:(zeS (a0::tl) (zeU (ov tl.length) ((-flP p (a0::tl):Int):Rat))).length=p.length:=by unfold zeS zeU;rw [List.length_zipWith,List.length_map,hxl,hyl,Nat.min_self]
 have hco:∀ W vl vf,Ext w W→RdM W vl [⟨a0::tl,va,hua⟩,⟨ov tl.length,vb,hub⟩]→Rd W vf [1,((-flP p (a0::tl):Int):Rat)]→Calls Tryz.prog 77 #[.int .i64 (p.length:Int),vl,vf] W fun e w'=>∃ g,e=.returned (.slice (some ⟨g,0,none⟩) p.length p.length)∧zf4 w' W.heap.size (.slice (some ⟨g,0,none⟩) p.length p.length) (zeS (a0::tl) (zeU (ov tl.length) ((-flP p (a0::tl):Int):Rat)))∧Ext W w':=by
  intro W vl vf hE hl hff;have:=zhQ p.length vl vf [⟨a0::tl,va,hua⟩,⟨ov tl.length,vb,hub⟩] [1,((-flP p (a0::tl):Int):Rat)] W (he.ext hE) hl hff (by omega) (by simp) (by simp) (by
   intro r hr;rcases List.mem_cons.1 hr with rfl | hr
   ·exact ⟨hxl,fun q h=>(hf q h).mono (by omega)⟩
   ·rw [List.mem_singleton] at hr;subst hr;exact ⟨hyl,fun q h=>(zis q h).mono (by omega)⟩) (by
   intro f hf;simp only [List.mem_cons,List.not_mem_nil,or_false] at hf;rcases hf with rfl | rfl
   ·exact zhW
   ·exact hk)
  change Calls _ _ _ _ fun e w'=>e=.returned (.slice (some ⟨W.heap.size,0,none⟩) p.length p.length)∧zf4 w' W.heap.size (.slice (some ⟨W.heap.size,0,none⟩) p.length p.length) (zh7 p.length [a0::tl,ov tl.length] [1,((-flP p (a0::tl):Int):Rat)] 2)∧Ext W w' at this;rw [hsum] at this;exact this.mono fun e w' h=>⟨_,h⟩
 have hre:=fun W v (hv:Rd W v (zeS (a0::tl) (zeU (ov tl.length) ((-flP p (a0::tl):Int):Rat))))=>zfK v _ W hv (by rw [hsl];omega) hres;have hn1:=fun W (h:Ext w W)=>zfA 1 W (he.ext h) (by omega) (by omega);rw [zf9] at hn1;have hone:rcs [1,((-flP p (a0::tl):Int):Rat)]=[.string (I 1),.string ⟨#[49]⟩,.string (I (-flP p (a0::tl))),.string ⟨#[49]⟩]:=by
  show [Value.string (I 1),.string (I ((1:Nat):Int)),.string (I _),.string (I _)]=_;have e:=zf9 (-flP p (a0::tl));unfold Rv at e;injection e with e;have e2:([.string (I ((-flP p (a0::tl):Int):Rat).num),.string (I ((((-flP p (a0::tl):Int):Rat).den:Nat):Int))]:List Value)=[.string (I (-flP p (a0::tl))),.string ⟨#[49]⟩]:=by injection e
  injection e2 with e3 e4;injection e4 with e4 _;rw [e3,e4,zav,zbl]
 generalize zeS (a0::tl) (zeU (ov tl.length) ((-flP p (a0::tl):Int):Rat))=r at *;generalize ((-flP p (a0::tl):Int):Rat)=kq at *;have hra:=fun W (h:Ext w W)=>h.rd ha;have hrb:=fun W (h:Ext w W)=>h.rd hb;generalize I (-flP p (a0::tl))=sk at *;generalize I (flP p (a0::tl))=sf at *;generalize I 1=s1 at *;have hol:=zit tl.length;obtain ⟨ap,cp,rfl,_,_,_⟩:=hp.parts;obtain ⟨aa,ca,rfl,_,_,_⟩:=ha.parts;obtain ⟨ab,cb,rfl,_,_,_⟩:=hb.parts;rw [zam] at h1 h2 ⊢;clear hp ha hb he hpe hpr hf hq hk hfl hres hsum hxl hyl hpl hpl3 hol;generalize (a0::tl).length=n1 at *;generalize (ov tl.length).length=n2 at *;have H1:=hid h1;have H2:=hid h2;have H3:=hid h3;have Hco:=hid hco;have Hre:=hid hre;have Hn1:=hid hn1;have Hone:=hid hone;have Hra:=hid hra;have Hrb:=hid hrb;have Hsl:=hid hsl;clear h1 h2 h3 hco hre hn1 hone hra hrb hsl;go_enter Tryz.func65,Tryz.ntmps65
 go_wp2_with fail
 refine (H1.out).mono ?_;rintro e w1 ⟨rfl,hx1⟩;have Hx1:=hid hx1;clear hx1;go_wp2_with fail
 refine (H2.out w1 Hx1.out).mono ?_;rintro e w2 ⟨rfl,hx2⟩;have Hx2:=hid (Hx1.out.trans hx2);clear hx2;go_wp2_with fail
 refine (H3.out w2).mono ?_;rintro e w3 ⟨rfl,hx3⟩;have Hx3:=hid (Hx2.out.trans hx3);clear hx3;have b9:=zdK.new w3 (.string sk) (.string ⟨#[49]⟩);have hE:=Hx3.out.alloc (.cells #[.string sk,.string ⟨#[49]⟩] 57);have hs3:w3.heap.size<(w3.alloc (.cells #[.string sk,.string ⟨#[49]⟩] 57)).heap.size:=by simp
 go_wp2_with fail
 generalize w3.alloc (.cells #[.string sk,.string ⟨#[49]⟩] 57)=V at *;generalize w3.heap.size=b at *;have hc0:=b9.c0;have hc1:=b9.c1;have HE:=hid hE;have B9:=hid b9;clear hE b9;go_upto_region 5 with (fail)
 go_cut [6,7] (fun v6 v7 wx=>ziC w p.length r v6 v7 wx)
 case first =>
  go_region_held3 (fun w'=>Ext V w'∧w'.cell? ⟨b,0,none⟩=some (.string sk)∧w'.cell? ⟨b,1,none⟩=some (.string ⟨#[49]⟩))
   (first | (with_reducible assumption) | exact ⟨(Ext.refl V).drew,hc0,hc1⟩ | exact ⟨Ext.trans (And.left (by assumption)) hxa,Ext.cell hxa (And.left (And.right (by assumption))),Ext.cell hxa (And.right (And.right (by assumption)))⟩ | exact ⟨Ext.alloc (And.left (by assumption)) _,Ext.cell ((Ext.refl _).alloc _) (And.left (And.right (by assumption))),Ext.cell ((Ext.refl _).alloc _) (And.right (And.right (by assumption)))⟩)
   (first
    | (go_at_call 64;refine (Hn1.out _ (HE.out.trans (And.left (by assumption)))).mono ?_;rintro e9 VA ⟨rfl,hxa⟩;have HxA:=hid hxa)
    | (go_at_call 77
       have hck:Hid (Ext (V.alloc (.cells #[.slice aa n1 ca,.slice ab n2 cb] 32)).drew VA):=by with_reducible assumption
       clear hck
       have hbc:((V.alloc (.cells #[.slice aa n1 ca,.slice ab n2 cb] 32)).drew).heap[V.heap.size]?=some (.cells ([.slice aa n1 ca,.slice ab n2 cb]:List Value).toArray 32 (0,0)):=World.alloc_heap_new V _
       have hE0:Ext V VA:=(((Ext.refl V).alloc (.cells #[.slice aa n1 ca,.slice ab n2 cb] 32)).drew).trans HxA.out
       have hx3:Ext VA (VA.alloc (.cells #[.string s1,.string ⟨#[49]⟩,.string sk,.string ⟨#[49]⟩] 57)):=(Ext.refl VA).alloc _
       have hE3:Ext w (VA.alloc (.cells #[.string s1,.string ⟨#[49]⟩,.string sk,.string ⟨#[49]⟩] 57)):=(HE.out.trans hE0).trans hx3
       have hl3:RdM (VA.alloc (.cells #[.string s1,.string ⟨#[49]⟩,.string sk,.string ⟨#[49]⟩] 57)) (.slice (some ⟨V.heap.size,0,none⟩) 2 2) [⟨a0::tl,.slice aa n1 ca,hua⟩,⟨ov tl.length,.slice ab n2 cb,hub⟩] :=
         ⟨zhR ((HxA.out.trans hx3).heap hbc) (by unfold maxLen;simp),by
           intro r hr;rcases List.mem_cons.1 hr with rfl | hr
           · exact Hra.out _ hE3
           · rw [List.mem_singleton] at hr;subst hr;exact Hrb.out _ hE3⟩
       have hf3:Rd (VA.alloc (.cells #[.string s1,.string ⟨#[49]⟩,.string sk,.string ⟨#[49]⟩] 57)) (.slice (some ⟨VA.heap.size,0,none⟩) 2 2) [1,kq] :=
         zhS (x:=[1,kq]) (by rw [Hone.out];exact World.alloc_heap_new VA _) (by unfold maxLen;simp)
       refine (Hco.out _ _ _ hE3 hl3 hf3).mono ?_
       rintro e9 VB ⟨g,rfl,ho,hxa⟩
       have HoB:=hid (ho.mono hE3.size)
       have HEB:=hid (hE3.trans hxa)
       have hEV:=(hE0.trans hx3).trans hxa
       have hS2:Ext V VB∧VB.cell? ⟨b,0,none⟩=some (.string sk)∧VB.cell? ⟨b,1,none⟩=some (.string ⟨#[49]⟩):=⟨hEV,hEV.cell hc0,hEV.cell hc1⟩
       have HEV:=hid hEV
       clear hl3 hf3 hbc ho hE0 hx3 hE3 hEV hxa)
    | (go_at_call 77
       have hck2:Ext V ((VA.alloc (.cells #[.slice aa n1 ca,.slice ab n2 cb] 32)).alloc (.cells #[.string s1,.string ⟨#[49]⟩,.string sk,.string ⟨#[49]⟩] 57))∧((VA.alloc (.cells #[.slice aa n1 ca,.slice ab n2 cb] 32)).alloc (.cells #[.string s1,.string ⟨#[49]⟩,.string sk,.string ⟨#[49]⟩] 57)).cell? ⟨b,0,none⟩=some (.string sk)∧((VA.alloc (.cells #[.slice aa n1 ca,.slice ab n2 cb] 32)).alloc (.cells #[.string s1,.string ⟨#[49]⟩,.string sk,.string ⟨#[49]⟩] 57)).cell? ⟨b,1,none⟩=some (.string ⟨#[49]⟩):=by with_reducible assumption
       clear hck2
       have hbc:(VA.alloc (.cells #[.slice aa n1 ca,.slice ab n2 cb] 32)).heap[VA.heap.size]?=some (.cells ([.slice aa n1 ca,.slice ab n2 cb]:List Value).toArray 32 (0,0)):=World.alloc_heap_new VA _
       have hE0:Ext V (VA.alloc (.cells #[.slice aa n1 ca,.slice ab n2 cb] 32)):=(((Ext.refl V).drew).trans HxA.out).alloc _
       have hx3:Ext (VA.alloc (.cells #[.slice aa n1 ca,.slice ab n2 cb] 32)) ((VA.alloc (.cells #[.slice aa n1 ca,.slice ab n2 cb] 32)).alloc (.cells #[.string s1,.string ⟨#[49]⟩,.string sk,.string ⟨#[49]⟩] 57)):=(Ext.refl _).alloc _
       have hE3:Ext w ((VA.alloc (.cells #[.slice aa n1 ca,.slice ab n2 cb] 32)).alloc (.cells #[.string s1,.string ⟨#[49]⟩,.string sk,.string ⟨#[49]⟩] 57)):=(HE.out.trans hE0).trans hx3
       have hl3:RdM ((VA.alloc (.cells #[.slice aa n1 ca,.slice ab n2 cb] 32)).alloc (.cells #[.string s1,.string ⟨#[49]⟩,.string sk,.string ⟨#[49]⟩] 57)) (.slice (some ⟨VA.heap.size,0,none⟩) 2 2) [⟨a0::tl,.slice aa n1 ca,hua⟩,⟨ov tl.length,.slice ab n2 cb,hub⟩] :=
         ⟨zhR (hx3.heap hbc) (by unfold maxLen;simp),by
         intro r hr
         rcases List.mem_cons.1 hr with rfl | hr
         · exact Hra.out _ hE3
         · rw [List.mem_singleton] at hr;subst hr;exact Hrb.out _ hE3⟩
       have hf3:Rd ((VA.alloc (.cells #[.slice aa n1 ca,.slice ab n2 cb] 32)).alloc (.cells #[.string s1,.string ⟨#[49]⟩,.string sk,.string ⟨#[49]⟩] 57)) (.slice (some ⟨VA.heap.size+1,0,none⟩) 2 2) [1,kq] :=
         zhS (x:=[1,kq]) (by rw [Hone.out];have:=World.alloc_heap_new (VA.alloc (.cells #[.slice aa n1 ca,.slice ab n2 cb] 32)) (.cells #[.string s1,.string ⟨#[49]⟩,.string sk,.string ⟨#[49]⟩] 57);rwa [World.size_alloc] at this) (by unfold maxLen;simp)
       refine (Hco.out _ _ _ hE3 hl3 hf3).mono ?_
       rintro e9 VB ⟨g,rfl,ho,hxa⟩
       have HoB2:=hid (ho.mono hE3.size)
       have HEB2:=hid (hE3.trans hxa)
       have hEV:=(hE0.trans hx3).trans hxa
       have hS2:Ext V VB∧VB.cell? ⟨b,0,none⟩=some (.string sk)∧VB.cell? ⟨b,1,none⟩=some (.string ⟨#[49]⟩):=⟨hEV,hEV.cell hc0,hEV.cell hc1⟩
       have HEV2:=hid hEV
       clear hl3 hf3 hbc ho hE0 hx3 hE3 hEV hxa)
    | (go_at_call 77
       have hck2:Ext V ((VA.alloc (.cells #[.string s1,.string ⟨#[49]⟩,.string sk,.string ⟨#[49]⟩] 57)).alloc (.cells #[.slice aa n1 ca,.slice ab n2 cb] 32))∧((VA.alloc (.cells #[.string s1,.string ⟨#[49]⟩,.string sk,.string ⟨#[49]⟩] 57)).alloc (.cells #[.slice aa n1 ca,.slice ab n2 cb] 32)).cell? ⟨b,0,none⟩=some (.string sk)∧((VA.alloc (.cells #[.string s1,.string ⟨#[49]⟩,.string sk,.string ⟨#[49]⟩] 57)).alloc (.cells #[.slice aa n1 ca,.slice ab n2 cb] 32)).cell? ⟨b,1,none⟩=some (.string ⟨#[49]⟩):=by with_reducible assumption
       clear hck2
       have hbc:(VA.alloc (.cells #[.string s1,.string ⟨#[49]⟩,.string sk,.string ⟨#[49]⟩] 57)).heap[VA.heap.size]?=some (.cells (rcs [1,kq]).toArray 57 (0,0)):=by rw [Hone.out];exact World.alloc_heap_new VA _
       have hE0:Ext V (VA.alloc (.cells #[.string s1,.string ⟨#[49]⟩,.string sk,.string ⟨#[49]⟩] 57)):=(((Ext.refl V).drew).trans HxA.out).alloc _
       have hx3:Ext (VA.alloc (.cells #[.string s1,.string ⟨#[49]⟩,.string sk,.string ⟨#[49]⟩] 57)) ((VA.alloc (.cells #[.string s1,.string ⟨#[49]⟩,.string sk,.string ⟨#[49]⟩] 57)).alloc (.cells #[.slice aa n1 ca,.slice ab n2 cb] 32)):=(Ext.refl _).alloc _
       have hE3:Ext w ((VA.alloc (.cells #[.string s1,.string ⟨#[49]⟩,.string sk,.string ⟨#[49]⟩] 57)).alloc (.cells #[.slice aa n1 ca,.slice ab n2 cb] 32)):=(HE.out.trans hE0).trans hx3
       have hl3:RdM ((VA.alloc (.cells #[.string s1,.string ⟨#[49]⟩,.string sk,.string ⟨#[49]⟩] 57)).alloc (.cells #[.slice aa n1 ca,.slice ab n2 cb] 32)) (.slice (some ⟨VA.heap.size+1,0,none⟩) 2 2) [⟨a0::tl,.slice aa n1 ca,hua⟩,⟨ov tl.length,.slice ab n2 cb,hub⟩] :=
         ⟨zhR (us:=[.slice aa n1 ca,.slice ab n2 cb]) (by have:=World.alloc_heap_new (VA.alloc (.cells #[.string s1,.string ⟨#[49]⟩,.string sk,.string ⟨#[49]⟩] 57)) (.cells #[.slice aa n1 ca,.slice ab n2 cb] 32);rwa [World.size_alloc] at this) (by unfold maxLen;simp),by
         intro r hr
         rcases List.mem_cons.1 hr with rfl | hr
         · exact Hra.out _ hE3
         · rw [List.mem_singleton] at hr;subst hr;exact Hrb.out _ hE3⟩
       have hf3:Rd ((VA.alloc (.cells #[.string s1,.string ⟨#[49]⟩,.string sk,.string ⟨#[49]⟩] 57)).alloc (.cells #[.slice aa n1 ca,.slice ab n2 cb] 32)) (.slice (some ⟨VA.heap.size,0,none⟩) 2 2) [1,kq] :=
         zhS (x:=[1,kq]) (hx3.heap hbc) (by unfold maxLen;simp)
       refine (Hco.out _ _ _ hE3 hl3 hf3).mono ?_
       rintro e9 VB ⟨g,rfl,ho,hxa⟩
       have HoB2:=hid (ho.mono hE3.size)
       have HEB2:=hid (hE3.trans hxa)
       have hEV:=(hE0.trans hx3).trans hxa
       have hS2:Ext V VB∧VB.cell? ⟨b,0,none⟩=some (.string sk)∧VB.cell? ⟨b,1,none⟩=some (.string ⟨#[49]⟩):=⟨hEV,hEV.cell hc0,hEV.cell hc1⟩
       have HEV2:=hid hEV
       clear hl3 hf3 hbc ho hE0 hx3 hE3 hEV hxa)
    | (go_at_call 76;refine (Hre.out _ _ HoB.out.rd).mono ?_;rintro e9 VC ⟨rfl,hxa⟩;have HoC:=hid (hxa.ownQ HoB.out);have HEC:=hid (HEB.out.trans hxa);have hS3:Ext V VC∧VC.cell? ⟨b,0,none⟩=some (.string sk)∧VC.cell? ⟨b,1,none⟩=some (.string ⟨#[49]⟩):=⟨HEV.out.trans hxa,(HEV.out.trans hxa).cell hc0,(HEV.out.trans hxa).cell hc1⟩;clear hxa hS2)
    | (go_at_call 76;refine (Hre.out _ _ HoB2.out.rd).mono ?_;rintro e9 VC ⟨rfl,hxa⟩;have HoC:=hid (hxa.ownQ HoB2.out);have HEC:=hid (HEB2.out.trans hxa);have hS3:Ext V VC∧VC.cell? ⟨b,0,none⟩=some (.string sk)∧VC.cell? ⟨b,1,none⟩=some (.string ⟨#[49]⟩):=⟨HEV2.out.trans hxa,(HEV2.out.trans hxa).cell hc0,(HEV2.out.trans hxa).cell hc1⟩;clear hxa hS2))
  all_goals
   have Hfin:Hid (ziC w p.length r (.slice (some ⟨g,0,none⟩) p.length p.length) (.int .i64 0) VC):=hid ⟨g,rfl,rfl,HoC.out,HEC.out⟩;go_wp2_with fail
   go_meet
   exact Hfin.out
 case rest =>
  obtain ⟨g,rfl,rfl,ho,hx⟩:=hcut;have Ho:=hid ho;have Hx:=hid hx;clear ho hx;go_wp2
  go_ret2
  exact ⟨_,rfl,Ho.out,Hx.out⟩
theorem ziE (n:Int)(w:World)(he:Env w)(h0:-9223372036854775808≤n)(h1:n≤9223372036854775807) :
  Calls Tryz.prog 22 #[.int .i64 n] w fun e w'=>e=.returned (Rv (n:Rat))∧Ext w w':=by
 have ho:=fun W (h:Ext w W)=>zaL n h0 h1 W (he.ext h);rw [zf9];generalize I n=s at *;have b2:=zdK.new w (.string ⟨#[]⟩) (.string ⟨#[]⟩);have hE:Ext w (w.alloc (.cells #[.string ⟨#[]⟩,.string ⟨#[]⟩] 57)):=(Ext.refl _).alloc _;have hk:Kp0 w (w.alloc (.cells #[.string ⟨#[]⟩,.string ⟨#[]⟩] 57)) w.heap.size:=⟨hE,_,_,b2⟩;clear b2 he;have Ho:=hid ho;have HE:=hid hE;have Hk:=hid hk;clear ho hE hk;go_enter Tryz.func22,Tryz.ntmps22
 go_wp2_with fail
 refine (Ho.out _ HE.out).mono ?_;rintro e W4 ⟨rfl,hxa⟩;have hkk:=Hk.out.ext hxa;have Hkk:=hid hkk;clear hkk;clear hxa;have hc0:=(Hkk.out).res.c0;have hc1:=(Hkk.out).res.c1;have hz0:=(Hkk.out).res.fz 0;have hz1:=(Hkk.out).res.fz 1;obtain ⟨hb,hfx⟩:=(Hkk.out).fin (by omega) (.string s) (.string ⟨#[49]⟩);have Hb:=hid hb;have Hfx:=hid hfx;clear hb hfx;go_wp2_with fail
 have hd0:=Hb.out.c0;have hd1:=Hb.out.c1;exact bodyPost_ret (v:=.agg #[.string s,.string ⟨#[49]⟩]) (by simp [results,Tryz.results22,go_sem,hd0,hd1]) rfl ⟨rfl,Hfx.out⟩
theorem ziF (vp va vb:Value)(p:List Int)(a0:Rat)(tl:List Rat)(w:World)(he:Env w)(hp:Sl w vp (zak p))(ha:Rd w va (a0::tl))(hb:Rd w vb (ov tl.length))(hpe:zee p=0)(hpr:Pr p (tl.length+1))(hf:∀ q∈a0::tl,Ft 30 q)(hq:QF p (a0::tl))(hk:Ft 400 ((-flP p (a0::tl):Int):Rat))(hfl:Fit (flP p (a0::tl)))
  (hres:∀ q∈zeS (a0::tl) (zeU (ov tl.length) ((-flP p (a0::tl):Int):Rat)),Ft 30 q) :
  Calls Tryz.prog 41 #[vp,vb,va] w fun e w'=>∃ g,e=.returned (.tuple #[.slice (some ⟨g,0,none⟩) p.length p.length,.string (I (flP p (a0::tl))),.int .i64 0])∧zf4 w' w.heap.size (.slice (some ⟨g,0,none⟩) p.length p.length) (zeS (a0::tl) (zeU (ov tl.length) ((-flP p (a0::tl):Int):Rat)))∧Ext w w':=by
 have h1:=ziB vp va vb p a0 tl w he hp ha hb hpe hpr hf hq;have h2:=fun W (h:Ext w W)=>ziD vp va vb p a0 tl W (he.ext h) (h.sl hp) (h.rd ha) (h.rd hb) hpe hpr hf hq hk hfl hres;generalize zeS (a0::tl) (zeU (ov tl.length) ((-flP p (a0::tl):Int):Rat))=r at *;generalize I (flP p (a0::tl))=sf at *;obtain ⟨ap,cp,rfl,_,_,_⟩:=hp.parts;obtain ⟨aa,ca,rfl,_,_,_⟩:=ha.parts;obtain ⟨ab,cb,rfl,_,_,_⟩:=hb.parts;clear hp ha hb he hpe hpr hf hq hk hfl hres;have H1:=hid h1;have H2:=hid h2;clear h1 h2;go_enter Tryz.func41,Tryz.ntmps41
 go_wp2_with fail
 refine (H1.out).mono ?_;rintro e w1 ⟨rfl,hx1⟩;have Hx1:=hid hx1;clear hx1;go_wp2_with fail
 refine (H2.out w1 Hx1.out).mono ?_;rintro e w2 ⟨g,rfl,ho,hx2⟩;have Ho:=hid (ho.mono Hx1.out.size);have Hx2:=hid (Hx1.out.trans hx2);clear ho hx2;go_wp2
 exact bodyPost_ret (by simp [results,Tryz.results41,go_sem]) rfl ⟨g,rfl,Ho.out,Hx2.out⟩
end
end Go.Proofs.YtoehmpbipbbffaaGreatDoor
