/- Walks: quotient at any factors. Walks: size's floor by the octave at any size of few digits. -/
import Derived.Test.YtoehmpbipbbffaaGreatDoorPa14
import Derived.Test.YtoehmpbipbbffaaGreatDoorPa21
import Derived.Test.YtoehmpbipbbffaaGreatDoorPa15
import Derived.Deep.RegionHeld3
set_option maxRecDepth 100000
set_option maxHeartbeats 4000000
namespace Go.Proofs.YtoehmpbipbbffaaGreatDoor
open Go.RowKit Go.Lib
attribute [local go_sem] Oper.semAt_some
theorem zlB {l:List (Int × Int)}(h:∀ e∈l,okN e):∀ e∈l,zht e:=fun e he=>⟨(h e he).1,zl2 (by have:=(h e he).2;have:=zl6;omega)⟩
theorem zlC (z:Int)(w:World)(hr:zgJ w)(hf:Fit z) :
  Calls Tryz.prog 165 #[.string (I z)] w fun e w'=>(∃ (n:Int)(b:Bool),e=.returned (.tuple #[.int .i64 n,.bool b])∧(b=true→n=z∧-9223372036854775808≤z∧z≤9223372036854775807))∧Ext w w':=by
 rcases Classical.em (-9223372036854775808≤z∧z≤9223372036854775807) with h | h
 ·exact (zgM z w h.1 h.2).mono fun e w' ⟨h1,h2⟩=>⟨⟨z,true,h1,fun _=>⟨rfl,h.1,h.2⟩⟩,h2⟩
 ·exact (zgN z w hr (by omega) hf).mono fun e w' ⟨h1,h2⟩=>⟨⟨0,false,h1,fun h=>by cases h⟩,h2⟩
def zlD (l:List (Int × Int))(d:Nat)(e:Ending):Prop:=∃ (q:Int)(b:Bool),e=.returned (.tuple #[.int .i64 q,.bool b])∧(b=true→lowT l / (67108864 * (d:Int))=q∧higT l / (67108864 * (d:Int))=q∧-155821957000000000≤q∧q≤155821957000000000)
theorem zlE (tx ty:Value)(l:List (Int × Int))(d:Nat)(w:World)(hx:TmV w tx l d)(hy:TmV w ty [(2,1)] 1)(hl:l.length≤100)(hok:∀ e∈l,okN e)(hd0:0<d)(hdf:Fit (d:Int))(hr:zgJ w) :
  Calls Tryz.prog 127 #[tx,ty] w fun e w'=>zlD l d e∧Ext w w':=by
 have hn1:=fun W (hE:Ext w W)=>zh1 tx l d 100000 W (hx.ext hE) hl (by omega) (by omega) (zlB hok) (.inr (hr.ext hE));have hn2:=fun W (hE:Ext w W)=>zh2 ty [(2,1)] 1 100000 W (hy.ext hE) (by decide) (by omega) (by omega) (by intro e he;rw [List.mem_singleton] at he;subst he;exact ⟨.inl rfl,by decide,by decide⟩);rw [show lowT [(2,1)]=67108864 by decide,show higT [(2,1)]=67108864 by decide] at hn2;have hs1:=fun W (hE:Ext w W)=>zlC (d:Int) W (hr.ext hE) hdf;have hs2:=fun W=>zgM ((1:Nat):Int) W (by decide) (by decide);have hbd:=fun (h:∀ e∈l,okE 100000 e)=>zhq (fun e he=>zhr (h e he) (show (100000:Int)≤10000000 by omega));have hll:(l.length:Int)≤100:=by omega
 have hq1:=fun W (a:Int)(h:∀ e∈l,okE 100000 e)(hd:d≤10000)(ha:a=lowT l∨a=higT l)=>zii a (67108864 * (d:Int)) W (by have:=hbd h;omega) (by have:=hbd h;omega) (by omega) (by omega);have hqb:=fun (h:∀ e∈l,okE 100000 e)=>zih (a:=lowT l) (b:=67108864 * (d:Int)) (m:=155821957000000000) (by omega) (by have:=hbd h;omega) (by have:=hbd h;omega) (by omega);have hob:=fun (h:∀ e∈l,okE 100000 e)=>show -155821957000000000≤lowT l∧lowT l≤155821957000000000∧-155821957000000000≤higT l∧higT l≤155821957000000000 by have:=hbd h;omega
 obtain ⟨va,vb,rfl,hp1,hf1⟩:=hx;obtain ⟨vc,vd,rfl,hp2,hf2⟩:=hy;obtain ⟨aa,ca,rfl,_,_,_⟩:=hp1.parts;obtain ⟨ab,cb,rfl,_,_,_⟩:=hf1.parts;obtain ⟨ac,cc,rfl,_,_,_⟩:=hp2.parts;obtain ⟨ad,cd,rfl,_,_,_⟩:=hf2.parts;clear hp1 hf1 hp2 hf2 hok hbd hll hr hdf;generalize (zak (l.map Prod.fst)).length=n1 at *;generalize (zgc (l.map Prod.snd)).length=n2 at *;generalize (zak (([(2,1)]:List (Int × Int)).map Prod.fst)).length=n3 at *;generalize (zgc (([(2,1)]:List (Int × Int)).map Prod.snd)).length=n4 at *;generalize hsd:I ((d:Nat):Int)=sd at *;generalize hs1':I ((1:Nat):Int)=se at *;have bx1:=zge.new w (.slice aa n1 ca) (.slice ab n2 cb) (.string sd);have bx2:=zge.new (w.alloc (.cells #[.slice aa n1 ca,.slice ab n2 cb,.string sd] 110)) (.slice ac n3 cc) (.slice ad n4 cd) (.string se);have hE0:Ext w ((w.alloc (.cells #[.slice aa n1 ca,.slice ab n2 cb,.string sd] 110)).alloc (.cells #[.slice ac n3 cc,.slice ad n4 cd,.string se] 110)):=((Ext.refl w).alloc _).alloc _;have bx1':=bx1.ext ((Ext.refl _).alloc (.cells #[.slice ac n3 cc,.slice ad n4 cd,.string se] 110));rw [World.size_alloc] at bx2;clear bx1 hsd hs1';have hcs:(∀ e∈l,okE 100000 e)∨¬ ∀ e∈l,okE 100000 e:=Classical.em _;have Hcs:=hid hcs;have Hn1:=hid hn1;have Hn2:=hid hn2;have Hs1:=hid hs1;have Hs2:=hid hs2;have Hq1:=hid hq1;have Hqb:=hid hqb;have Hob:=hid hob;have HE0:=hid hE0;have Bx1':=hid bx1';have Bx2:=hid bx2;clear hn1 hn2 hs1 hs2 hq1 hqb hob hE0 bx1' bx2;clear hl hcs;generalize hlo:lowT l=lo at *;generalize hhi:higT l=hi at *;have Hlo:=hid hlo;have Hhi:=hid hhi;clear hlo hhi;go_enter Tryz.func127,Tryz.ntmps127
 go_wp2_with fail
 refine (Hn1.out _ HE0.out).mono ?_;rintro e w1 ⟨he1,he2,hx1⟩;have Hx1:=hid (HE0.out.trans hx1);have h2b:=(Bx2.out.ext hx1);obtain ⟨c0,c1,c2,_⟩:=h2b.c;have H1b:=hid (Bx1'.out.ext hx1);have H2b:=hid h2b;clear hx1 h2b;rcases Hcs.out with hall | hall
 ·obtain rfl:=he1 hall;have Hob2:=hid (Hob.out hall);have Hqb2:=hid (Hqb.out hall);have Hq2:=hid fun W a (hd:d≤10000) ha=>Hq1.out W a hall hd ha;clear he1 he2 hall Hcs Hob Hqb Hq1;go_wp2_with fail
  refine (Hn2.out _ Hx1.out).mono ?_;rintro e w2 ⟨rfl,hx2⟩;have Hx2:=hid (Hx1.out.trans hx2);have h1c:=H1b.out.ext hx2;obtain ⟨d0,d1,d2,_⟩:=h1c.c;have H2c:=hid (H2b.out.ext hx2);clear hx2 h1c c0 c1 c2;go_wp2_with fail
  refine (Hs1.out _ Hx2.out).mono ?_;rintro e w3 ⟨⟨n,b,rfl,hnb⟩,hx3⟩;have Hx3:=hid (Hx2.out.trans hx3);have h2d:=H2c.out.ext hx3;obtain ⟨f0,f1,f2,_⟩:=h2d.c;clear hx3 h2d d0 d1 d2;go_wp2_with fail
  refine (Hs2.out _).mono ?_;rintro e w4 ⟨rfl,hx4⟩;have Hx4:=hid (Hx3.out.trans hx4);clear hx4 f0 f1 f2
  cases b with
  | false =>
   clear hnb
   go_wp2
   go_ret2
   exact ⟨⟨_,_,rfl,fun h=>by cases h⟩,Hx4.out⟩
  | true =>
   obtain ⟨rfl,_,_⟩:=hnb rfl
   clear hnb
   by_cases hd:d≤10000
   ·have hd2:¬ (10000:Int)<(d:Int):=by omega
    have hob2:=Hob2.out
    have hm1:(67108864:Int) * (d:Int)≤671088640000:=by omega
    have hq2:=fun W a ha=>Hq2.out W a hd ha
    have Hq3:=hid hq2
    clear hq2 hd
    go_wp2_with fail
    all_goals
     refine (Hq3.out _ lo (.inl rfl)).mono ?_
     rintro e w' ⟨rfl,rfl⟩
     go_wp2_with fail
    all_goals
     refine (Hq3.out _ hi (.inr rfl)).mono ?_
     rintro e w' ⟨rfl,rfl⟩
     go_wp2
    all_goals
     go_ret2
     refine ⟨⟨_,_,rfl,fun h=>?_⟩,Hx4.out⟩
     have h2:=eq_of_beq h
     have h3:=Hqb2.out
     rw [Hlo.out,Hhi.out]
     exact ⟨rfl,h2.symm,h3.1,h3.2⟩
   ·have hd2:(10000:Int)<(d:Int):=by omega
    clear hd
    go_wp2
    go_ret2
    exact ⟨⟨_,_,rfl,fun h=>by cases h⟩,Hx4.out⟩
 ·obtain rfl:=he2 hall;clear he1 he2 hall Hcs Hob Hqb Hq1;go_wp2_with fail
  refine (Hn2.out _ Hx1.out).mono ?_;rintro e w2 ⟨rfl,hx2⟩;have Hx2:=hid (Hx1.out.trans hx2);have h1c:=H1b.out.ext hx2;obtain ⟨d0,d1,d2,_⟩:=h1c.c;have H2c:=hid (H2b.out.ext hx2);clear hx2 h1c c0 c1 c2;go_wp2_with fail
  refine (Hs1.out _ Hx2.out).mono ?_;rintro e w3 ⟨⟨n,b,rfl,hnb⟩,hx3⟩;have Hx3:=hid (Hx2.out.trans hx3);have h2d:=H2c.out.ext hx3;obtain ⟨f0,f1,f2,_⟩:=h2d.c;clear hx3 h2d d0 d1 d2 hnb;go_wp2_with fail
  refine (Hs2.out _).mono ?_;rintro e w4 ⟨rfl,hx4⟩;have Hx4:=hid (Hx3.out.trans hx4);clear hx4 f0 f1 f2;go_wp2
  go_ret2
  exact ⟨⟨_,_,rfl,fun h=>by cases h⟩,Hx4.out⟩
theorem zlF {p:List Int}{x:List Rat}(hp:Pr p x.length)(hw:FwN x):∀ e∈tms p (dn x) x,okN e:=by
 intro e he;refine ⟨zld hp _ e he,?_⟩;have h1:=(List.mem_filter.1 he).1;have h2:e.2∈fcd (dn x) x:=(List.of_mem_zip (show (e.1,e.2)∈p.zip (fcd (dn x) x) from h1)).2;unfold fcd at h2;obtain ⟨r,hr,h3⟩:=List.mem_map.1 h2;rw [← h3];exact hw r hr
theorem zlG {n:Nat}:zkC n [(2,1)]=((2 ^ n:Nat):Int)∧zkD n [(2,1)]=((2 ^ n:Nat):Int):=by
 simp only [zkC,zkD,loN,hiN,if_pos,Int.one_mul,Int.add_zero,and_self]
theorem zlH {a b:Int}(h:0<b):fdv a b=a / b:=by unfold fdv;rw [if_pos h]
theorem zlI {z:Nat}(h:z≤1000 * (HH * GB)):nDigits z≤3000:=by
 unfold HH GB at h;exact Dec.nDigits_le (k:=3000) (by decide) (zl1 (a:=120) (b:=2051) (e:=3000) (by decide) h)
theorem zlJ {n:Nat}(h:Lad n)(h2:n ≠ 2048):Lad (n * 2)∧(64≤n∧n≤1024):=by
 unfold Lad at *;omega
theorem zlK {w:World}{l:List (Int × Int)}{d n:Nat}(he:Env w)(hn:Lad n)(hl:l.length≤100)(hok:∀ e∈l,okN e)(hd:0<d)(hdf0:nDigits d≤50000) :
  (∀ W,Calls Tryz.prog 112 #[.string (I ((2 ^ n:Nat):Int))] W fun e w'=>e=.returned (.int .i64 1)∧W=w') ∧
  (∀ z,z=zkC n l∨z=zkD n l→∃ c:Int,∀ W,Calls Tryz.prog 112 #[.string (I z)] W fun e w'=>e=.returned (.int .i64 c)∧W=w') ∧
  (∀ z,z=zkC n l∨z=zkD n l→∀ W,Ext w W→Calls Tryz.prog 109 #[.string (I z),.string (I ((1:Nat):Int))] W fun e w'=>e=.returned (.string (I z))∧Ext W w') ∧
  (∀ W,Ext w W→Calls Tryz.prog 109 #[.string (I ((2 ^ n:Nat):Int)),.string (I (d:Int))] W fun e w'=>e=.returned (.string (I (((2 ^ n:Nat):Int) * (d:Int))))∧Ext W w') ∧
  (∀ z,z=zkC n l∨z=zkD n l→∀ W,Ext w W→Calls Tryz.prog 108 #[.string (I z),.string (I (((2 ^ n:Nat):Int) * (d:Int)))] W fun e w'=>(∃ r,e=.returned (.tuple #[.string (I (z / (((2 ^ n:Nat):Int) * (d:Int)))),.string r,.int .i64 0]))∧Ext W w'):=by
 have hn48:=zkI hn;have hdf:Fit (d:Int):=Nat.le_trans hdf0 (by decide);have h1:=zl7 hn48 (l:=l) (by omega) hok;have h20:nDigits (2 ^ n)≤3000:=by
  have:=zlw 2 hn48;unfold LG at this;rw [if_pos rfl] at this;exact zlI (by have:=zl5;omega)
 have h2:Fit ((2 ^ n:Nat):Int):=Nat.le_trans h20 (by decide);have hz:∀ z,z=zkC n l∨z=zkD n l→Fit z:=fun z hz=>zl2 (by rcases hz with rfl | rfl <;> omega)
 have hpos:(0:Int)<((2 ^ n:Nat):Int):=Int.natCast_pos.2 (Nat.pow_pos (by decide));have hprod:(0:Int)<((2 ^ n:Nat):Int) * (d:Int):=Int.mul_pos hpos (by omega);refine ⟨fun W=>?_,fun z h=>⟨_,fun W=>zbK z W (hz z h)⟩,fun z h W hE=>?_,fun W hE=>zbT _ _ W (he.ext hE) h2 hdf,fun z h W hE=>?_⟩
 ·have:=zbK ((2 ^ n:Nat):Int) W h2;rwa [zbf hpos] at this
 ·have:=zbT z ((1:Nat):Int) W (he.ext hE) (hz z h) (Nat.le_trans (Dec.nDigits_le (k:=1) (by decide) (by decide)) (by decide));rwa [show z * ((1:Nat):Int)=z from Int.mul_one z] at this
 ·have hf:Fit (((2 ^ n:Nat):Int) * (d:Int)):=by
   rw [← Int.natCast_mul];have:=zb6 (2 ^ n) d;exact Nat.le_trans this (by omega)
  have:=zdC z (((2 ^ n:Nat):Int) * (d:Int)) W (he.ext hE) (by omega) (hz z h) hf;rw [zlH hprod] at this;exact this.mono fun e w' ⟨h1,h2⟩=>⟨⟨_,h1⟩,h2⟩
theorem zlL (vp va vb:Value)(p:List Int)(a0:Rat)(tl:List Rat)(w:World)(he:Env w)(hp:Sl w vp (zak p))(ha:Rd w va (a0::tl))(hb:Rd w vb (ov tl.length))(hpr:Pr p (tl.length+1))(hf:∀ q∈a0::tl,Ft 30 q)(hw:FwN (a0::tl))(hdf:nDigits (dn (a0::tl))≤50000)(hrv:zgJ w) :
  Calls Tryz.prog 87 #[vp,va,vb] w fun e w'=>e=.returned (.string (I (flN p (a0::tl))))∧Ext w w':=by
 have hpl:=zir hpr;have hpl3:p.length≤3:=by rcases hpr with ⟨rfl,_⟩ | ⟨rfl,_⟩ <;> simp
 have hra:=zip va vb a0 tl w he ha hb (by omega) (fun q h=>(hf q h).mono (by omega));have hov:=ziq hpr;by_cases ht:tl.all (· == 0)=true
 ·have hfp:flN p (a0::tl)=a0.floor:=zle (by rw [List.length_cons];exact hpr) (by rw [List.all_eq_true] at ht;simpa using ht);rw [ht] at hra;have h0:=hf a0 (List.mem_cons_self ..);have hfl:=fun W (h:Ext w W)=>ze3 a0 W (he.ext h) (h0.num (by omega)) (h0.den (by omega));rw [hfp];generalize I a0.floor=sf at *;unfold Rv at hra hfl;generalize I a0.num=s1 at *;generalize I (a0.den:Int)=s2 at *;obtain ⟨ap,cp,rfl,_,_,_⟩:=hp.parts;obtain ⟨aa,ca,rfl,_,_,_⟩:=ha.parts;obtain ⟨ab,cb,rfl,_,_,_⟩:=hb.parts;clear hp ha hb hov hpr hf hw hdf hrv hfp ht h0 he hpl hpl3;have Hra:=hid hra;have Hfl:=hid hfl;clear hra hfl;go_enter Tryz.func87,Tryz.ntmps87
  go_wp2_with fail
  refine Hra.out.mono ?_;rintro e w1 ⟨rfl,hx1⟩;have HE:Hid (Ext w (w1.alloc (.cells #[.string s1,.string s2] 57))):=hid (hx1.alloc _);clear hx1;go_wp2_with fail
  refine (Hfl.out _ HE.out).mono ?_;rintro e w2 ⟨rfl,hx2⟩;have Hx2:=hid (HE.out.trans hx2);clear hx2;go_wp2
  try rw [Exit.noGoto_ret]
  go_ret
  exact ⟨rfl,Hx2.out⟩
 ·rw [Bool.eq_false_iff.2 ht] at hra;have htz:¬ ∀ r∈tl,r=0:=fun h=>ht (by rw [List.all_eq_true];simpa using h);have hp1:Pr p (a0::tl).length:=by rw [List.length_cons];exact hpr
  have hl:(tms p (dn (a0::tl)) (a0::tl)).length≤100:=by
   have:=zgp (p:=p) (d:=dn (a0::tl)) (x:=a0::tl);simp only [List.length_cons] at this;omega
  have hokn:∀ e∈tms p (dn (a0::tl)) (a0::tl),okN e:=zlF hp1 hw;have h1:=fun W (h:Ext w W)=>zgt vp va p (a0::tl) W (he.ext h) (h.sl hp) (h.rd ha) (by omega) (by rw [hpl];rfl) hf;have h2:=fun W (h:Ext w W)=>zgt vp vb p (ov tl.length) W (he.ext h) (h.sl hp) (h.rd hb) (by omega) (by rw [zit,hpl]) (fun q h=>(zis q h).mono (by omega));rw [hov.1,hov.2] at h2;have h3:=fun W tx ty (hE:Ext w W)(hx:TmV W tx (tms p (dn (a0::tl)) (a0::tl)) (dn (a0::tl)))(hy:TmV W ty [(2,1)] 1)=>zlE tx ty _ _ W hx hy hl hokn (zeR _) (Nat.le_trans hdf (by decide)) (hrv.ext hE);have h4:=fun W (h:Ext w W) q (h0:-155821957000000000≤q)(h1:q≤155821957000000000)=>zaL q (by omega) (by omega) W (he.ext h);have h5:=fun W tx n (hE:Ext w W)(hx:TmV W tx (tms p (dn (a0::tl)) (a0::tl)) (dn (a0::tl)))(hn:Lad n)=>zlA tx _ _ n W (he.ext hE) hx hl hn hokn;have h6:∀ W ty n,Ext w W→TmV W ty [(2,1)] 1→Lad n→Calls Tryz.prog 111 #[ty,.int .i64 n] W fun e w'=>e=.returned (.tuple #[.string (I ((2 ^ n:Nat):Int)),.string (I ((2 ^ n:Nat):Int))])∧Ext W w':=fun W ty n hE hy hn=>by
   have:=zlA ty _ _ n W (he.ext hE) hy (by decide) hn (by intro e he;rw [List.mem_singleton] at he;subst he;exact ⟨.inl rfl,Nat.le_trans (by decide) zl3⟩);rwa [zlG.1,zlG.2] at this
  have hq1:∀ q,(lowT (tms p (dn (a0::tl)) (a0::tl)) / (67108864 * ((dn (a0::tl):Nat):Int))=q∧higT (tms p (dn (a0::tl)) (a0::tl)) / (67108864 * ((dn (a0::tl):Nat):Int))=q∧-155821957000000000≤q∧q≤155821957000000000)→flN p (a0::tl)=q:=fun q h=>zlc (zld hp1 _) h.1 h.2.1;have hrd:=fun n (hn:Lad n)=>zlK (d:=dn (a0::tl)) he hn hl hokn (zeR _) hdf;have hfl:∀ n,Lad n→zkC n (tms p (dn (a0::tl)) (a0::tl)) / (((2 ^ n:Nat):Int) * ((dn (a0::tl):Nat):Int))=zkD n (tms p (dn (a0::tl)) (a0::tl)) / (((2 ^ n:Nat):Int) * ((dn (a0::tl):Nat):Int))→flN p (a0::tl)=zkC n (tms p (dn (a0::tl)) (a0::tl)) / (((2 ^ n:Nat):Int) * ((dn (a0::tl):Nat):Int)):=fun n hn h=>zlb (zkI hn) rfl h.symm;have htop:zkC 2048 (tms p (dn (a0::tl)) (a0::tl)) / (((2 ^ 2048:Nat):Int) * ((dn (a0::tl):Nat):Int))=zkD 2048 (tms p (dn (a0::tl)) (a0::tl)) / (((2 ^ 2048:Nat):Int) * ((dn (a0::tl):Nat):Int)):=by rw [← zkY];exact zkX hp1 hw htz
  generalize tms p (dn (a0::tl)) (a0::tl)=l at *;generalize dn (a0::tl)=d at *;generalize flN p (a0::tl)=fl at *;unfold Rv at hra;generalize I a0.num=s1 at *;generalize I (a0.den:Int)=s2 at *;obtain ⟨ap,cp,rfl,_,_,_⟩:=hp.parts;obtain ⟨aa,ca,rfl,_,_,_⟩:=ha.parts;obtain ⟨ab,cb,rfl,_,_,_⟩:=hb.parts;clear hp ha hb hov hpr hf hw hdf hrv ht he hpl hpl3 hl hokn htz hp1;have Hfl:=hid hfl;have Htop:=hid htop;clear hfl htop;have Hra:=hid hra;have H1:=hid h1;have H2:=hid h2;have H3:=hid h3;have H4:=hid h4;have H5:=hid h5;have H6:=hid h6;have Hq1:=hid hq1;have Hrd:=hid hrd;clear hra h1 h2 h3 h4 h5 h6 hq1 hrd;go_enter Tryz.func87,Tryz.ntmps87
  go_wp2_with fail
  refine Hra.out.mono ?_;rintro e w1 ⟨rfl,hx1⟩;have HE:Hid (Ext w (w1.alloc (.cells #[.string s1,.string s2] 57))):=hid (hx1.alloc _);clear hx1;go_wp2_with fail
  refine (H1.out _ HE.out).mono ?_;rintro e w2 ⟨tx,rfl,hx,hx2⟩;have Hx2:=hid (HE.out.trans hx2);clear hx2;obtain ⟨vc,vd,rfl,hp1,hf1⟩:=hx;obtain ⟨ac,cc,rfl,_,_,_⟩:=hp1.parts;obtain ⟨ad,cd,rfl,_,_,_⟩:=hf1.parts;have htx:TmV w2 (.agg #[.slice ac (zak (l.map Prod.fst)).length cc,.slice ad (zgc (l.map Prod.snd)).length cd,.string (I (d:Int))]) l d:=⟨_,_,rfl,hp1,hf1⟩;clear hp1 hf1;generalize (zak (l.map Prod.fst)).length=n1 at *;generalize (zgc (l.map Prod.snd)).length=n2 at *;generalize I (d:Int)=sd at *;have Htx:=hid htx;clear htx;go_wp2_with fail
  refine (H2.out _ Hx2.out).mono ?_;rintro e w3 ⟨ty,rfl,hy,hx3⟩;have Hx3:=hid (Hx2.out.trans hx3);have Htx3:=hid (Htx.out.ext hx3);clear hx3;obtain ⟨ve,vf,rfl,hp1,hf1⟩:=hy;obtain ⟨ae,ce,rfl,_,_,_⟩:=hp1.parts;obtain ⟨af,cf,rfl,_,_,_⟩:=hf1.parts;have hty:TmV w3 (.agg #[.slice ae (zak (([(2,1)]:List (Int × Int)).map Prod.fst)).length ce,.slice af (zgc (([(2,1)]:List (Int × Int)).map Prod.snd)).length cf,.string (I ((1:Nat):Int))]) [(2,1)] 1:=⟨_,_,rfl,hp1,hf1⟩;clear hp1 hf1;generalize (zak (([(2,1)]:List (Int × Int)).map Prod.fst)).length=n3 at *;generalize (zgc (([(2,1)]:List (Int × Int)).map Prod.snd)).length=n4 at *;generalize hse:I ((1:Nat):Int)=se at *;have Hse:=hid hse;clear hse;have hE4:Ext w3 ((w3.alloc (.cells #[.slice ac n1 cc,.slice ad n2 cd,.string sd] 110)).alloc (.cells #[.slice ae n3 ce,.slice af n4 cf,.string se] 110)):=((Ext.refl w3).alloc _).alloc _;have HE4:=hid (Hx3.out.trans hE4);have htx4:=Htx3.out.ext hE4;have hty4:=hty.ext hE4;have H7:=hid (H3.out _ _ _ HE4.out htx4 hty4);have bx:=(zge.new w3 (.slice ac n1 cc) (.slice ad n2 cd) (.string sd)).ext ((Ext.refl _).alloc (.cells #[.slice ae n3 ce,.slice af n4 cf,.string se] 110));have bY:=zge.new (w3.alloc (.cells #[.slice ac n1 cc,.slice ad n2 cd,.string sd] 110)) (.slice ae n3 ce) (.slice af n4 cf) (.string se);rw [World.size_alloc] at bY;have Htx4:=hid htx4;have Hty4:=hid hty4;have BX:=hid bx;have BY:=hid bY;clear hE4 hty htx4 hty4 bx bY;go_wp2_with fail
  refine H7.out.mono ?_;rintro e w5 ⟨⟨q,b,rfl,hqb⟩,hx5⟩;have Hqb:=hid hqb;have Hx5:=hid (HE4.out.trans hx5);have Htx5:=hid (Htx4.out.ext hx5);have Hty5:=hid (Hty4.out.ext hx5);have BX5:=hid (BX.out.ext hx5);have BY5:=hid (BY.out.ext hx5);clear hx5 hqb
  cases b with
  | true =>
   have hq:=Hqb.out rfl
   obtain rfl:=Hq1.out q hq
   go_wp2_with fail
   refine (H4.out _ Hx5.out _ hq.2.2.1 hq.2.2.2).mono ?_
   rintro e w6 ⟨rfl,hx6⟩
   have Hx6:=hid (Hx5.out.trans hx6);clear hx6
   go_wp2
   try rw [Exit.noGoto_ret]
   go_ret
   exact ⟨rfl,Hx6.out⟩
  | false =>
   go_wp2_with fail
   go_loopw [13] (fun v wr=>∃ n:Nat,v=.int .i64 n∧Lad n∧Ext w5 wr) (fun v _=>2048 - (zag v).toNat)
   case atStart=>exact ⟨64,rfl,.inl rfl,Ext.refl _⟩
   case round =>
    obtain ⟨n,rfl,hn,hE⟩:=hrel
    have Hn:=hid hn;have HE6:=hid hE
    clear hn hE
    obtain ⟨b0,b1,b2,_⟩:=(BX5.out.ext HE6.out).c
    obtain ⟨y0,y1,y2,_⟩:=(BY5.out.ext HE6.out).c
    go_wp2_with fail
    refine (H5.out wr _ n (Hx5.out.trans HE6.out) (Htx5.out.ext HE6.out) Hn.out).mono ?_
    rintro e v1 ⟨rfl,hx⟩
    have HE7:=hid (HE6.out.trans hx)
    obtain ⟨b0,b1,b2,_⟩:=(BX5.out.ext HE7.out).c
    obtain ⟨y0,y1,y2,_⟩:=(BY5.out.ext HE7.out).c
    clear hx
    go_wp2_with fail
    refine (H6.out v1 _ n (Hx5.out.trans HE7.out) (Hty5.out.ext HE7.out) Hn.out).mono ?_
    rintro e v2 ⟨rfl,hx⟩
    have HE8:=hid (HE7.out.trans hx)
    clear hx
    obtain ⟨g1,g2,g3,g4,g5⟩:=Hrd.out n Hn.out
    obtain ⟨c1,hc1⟩:=g2 _ (.inl rfl)
    obtain ⟨c2,hc2⟩:=g2 _ (.inr rfl)
    have hm1:=g3 _ (.inl rfl)
    have hm2:=g3 _ (.inr rfl)
    have hd1:=g5 _ (.inl rfl)
    have hd2:=g5 _ (.inr rfl)
    have hdec:=Hfl.out n Hn.out
    have hend:¬ zkC n l / (((2 ^ n:Nat):Int) * (d:Int))=zkD n l / (((2 ^ n:Nat):Int) * (d:Int))→n ≠ 2048:=fun h e=>h (by rw [e];exact Htop.out)
    have Hdec:=hid hdec;have Hend:=hid hend
    clear g2 g3 g5 hdec hend b0 b1 y0 y1
    have hqe:∀ a b:Int,(¬ a=b→((I a).toList == (I b).toList)=false)∧(a=b→I a=I b):=fun a b=>⟨fun h=>beq_eq_false_iff_ne.2 fun e=>h (zbr (by rw [← zbq,← zbq];exact e)),fun h=>by rw [h]⟩
    have hqe:=hqe (zkC n l / (((2 ^ n:Nat):Int) * (d:Int))) (zkD n l / (((2 ^ n:Nat):Int) * (d:Int)))
    generalize zkC n l / (((2 ^ n:Nat):Int) * (d:Int))=q1 at *
    generalize zkD n l / (((2 ^ n:Nat):Int) * (d:Int))=q2 at *
    generalize I (((2 ^ n:Nat):Int) * (d:Int))=sp at *
    generalize I ((2 ^ n:Nat):Int)=sY at *
    generalize I (zkC n l)=slo at *
    generalize I (zkD n l)=shi at *
    generalize hsq1:I q1=sq1 at *
    generalize hsq2:I q2=sq2 at *
    have Hsq1:=hid hsq1;have Hqe:=hid hqe;clear hsq1 hsq2 hqe
    have G1:=hid g1;have G4:=hid g4;have Hc1:=hid hc1;have Hc2:=hid hc2;have Hm1:=hid hm1;have Hm2:=hid hm2;have Hd1:=hid hd1;have Hd2:=hid hd2;clear g1 g4 hc1 hc2 hm1 hm2 hd1 hd2
    go_wp2_with fail
    refine (G1.out _).mono ?_
    rintro e v3 ⟨rfl,rfl⟩
    go_wp2_with fail
    refine (G1.out _).mono ?_
    rintro e v3 ⟨rfl,rfl⟩
    go_wp2_with fail
    refine (Hc1.out _).mono ?_
    rintro e v3 ⟨rfl,rfl⟩
    go_wp2_with fail
    all_goals
     refine (Hc2.out _).mono ?_
     rintro e v3 ⟨rfl,rfl⟩
     go_wp2_with fail
    all_goals
     have HXv2:=hid (Hx5.out.trans HE8.out)
     have b2:=(BX5.out.ext HE8.out).c.2.2.1
     have y2:=(BY5.out.ext HE8.out).c.2.2.1
     go_region_held3 (fun w'=>Ext v2 w'∧w'.cell? ⟨w3.heap.size,2,none⟩=some (.string sd)∧w'.cell? ⟨w3.heap.size+1,2,none⟩=some (.string se))
      (first | (with_reducible assumption) | exact ⟨(Ext.refl v2).drew,b2,y2⟩)
      (first
       | (go_at_call_of 109 (Value.string slo);refine (Hm1.out _ (HXv2.out.trans (And.left (by assumption)))).mono ?_;rintro e9 VA ⟨rfl,hxa⟩;have hEA:=((Ext.refl v2).drew).trans hxa;have hS1:Ext v2 VA∧VA.cell? ⟨w3.heap.size,2,none⟩=some (.string sd)∧VA.cell? ⟨w3.heap.size+1,2,none⟩=some (.string se):=⟨hEA,hEA.cell b2,hEA.cell y2⟩;have HEA:=hid hEA;clear hxa hEA)
       | (go_at_call_of 109 (Value.string sY);refine (G4.out _ (HXv2.out.trans HEA.out)).mono ?_;rintro e9 VB ⟨rfl,hxa⟩;have hEB:=HEA.out.trans hxa;have hS2:Ext v2 VB∧VB.cell? ⟨w3.heap.size,2,none⟩=some (.string sd)∧VB.cell? ⟨w3.heap.size+1,2,none⟩=some (.string se):=⟨hEB,hEB.cell b2,hEB.cell y2⟩;have HEB:=hid hEB;clear hxa hEB hS1)
       | (go_at_call 108;refine (Hd1.out _ (HXv2.out.trans HEB.out)).mono ?_;rintro e9 VC ⟨⟨sr,rfl⟩,hxa⟩;have hEC:=HEB.out.trans hxa;have hS3:Ext v2 VC∧VC.cell? ⟨w3.heap.size,2,none⟩=some (.string sd)∧VC.cell? ⟨w3.heap.size+1,2,none⟩=some (.string se):=⟨hEC,hEC.cell b2,hEC.cell y2⟩;have HEC:=hid hEC;clear hxa hEC hS2))
     obtain ⟨vd,hvd⟩:∃ vd,vd=VC:=⟨_,rfl⟩
     subst hvd
     have HXvd:=hid (HXv2.out.trans HEC.out)
     have b3:=HEC.out.cell b2
     have y3:=HEC.out.cell y2
     clear hS3 b2 y2 HEA HEB
     go_wp2_with fail
     go_region_held3 (fun w'=>Ext vd w'∧w'.cell? ⟨w3.heap.size,2,none⟩=some (.string sd)∧w'.cell? ⟨w3.heap.size+1,2,none⟩=some (.string se))
      (first | (with_reducible assumption) | exact ⟨(Ext.refl vd).drew,b3,y3⟩)
      (first
       | (go_at_call_of 109 (Value.string shi);refine (Hm2.out _ (HXvd.out.trans (And.left (by assumption)))).mono ?_;rintro e9 VA ⟨rfl,hxa⟩;have hEA:=((Ext.refl vd).drew).trans hxa;have hS1:Ext vd VA∧VA.cell? ⟨w3.heap.size,2,none⟩=some (.string sd)∧VA.cell? ⟨w3.heap.size+1,2,none⟩=some (.string se):=⟨hEA,hEA.cell b3,hEA.cell y3⟩;have HEA:=hid hEA;clear hxa hEA)
       | (go_at_call_of 109 (Value.string sY);refine (G4.out _ (HXvd.out.trans HEA.out)).mono ?_;rintro e9 VB ⟨rfl,hxa⟩;have hEB:=HEA.out.trans hxa;have hS2:Ext vd VB∧VB.cell? ⟨w3.heap.size,2,none⟩=some (.string sd)∧VB.cell? ⟨w3.heap.size+1,2,none⟩=some (.string se):=⟨hEB,hEB.cell b3,hEB.cell y3⟩;have HEB:=hid hEB;clear hxa hEB hS1)
       | (go_at_call 108;refine (Hd2.out _ (HXvd.out.trans HEB.out)).mono ?_;rintro e9 VC ⟨⟨sr,rfl⟩,hxa⟩;have hEC:=HEB.out.trans hxa;have hS3:Ext vd VC∧VC.cell? ⟨w3.heap.size,2,none⟩=some (.string sd)∧VC.cell? ⟨w3.heap.size+1,2,none⟩=some (.string se):=⟨hEC,hEC.cell b3,hEC.cell y3⟩;have HEF:=hid hEC;clear hxa hEC hS2))
     clear hS3 b3 y3 HEA HEB
     by_cases hqq:q1=q2
     ·obtain rfl:=Hqe.out.2 hqq
      have hd0:=Hdec.out hqq
      clear hqq
      have Hd0:=hid hd0;clear hd0
      go_wp2
      try rw [Exit.noGoto_ret]
      go_ret
      exact ⟨by rw [Hd0.out,Hsq1.out];rfl,HXvd.out.trans HEF.out⟩
     ·obtain ⟨hl2,hn2⟩:=zlJ Hn.out (Hend.out hqq)
      have hne:=Hqe.out.1 hqq
      clear hqq
      have Hl2:=hid hl2;clear hl2
      go_wp2_with fail
      refine ⟨⟨n * 2,?_,Hl2.out,(HE8.out.trans HEC.out).trans HEF.out⟩,?_⟩
      ·rw [Int.natCast_mul];rfl
      ·simp only [zag];omega
end Go.Proofs.YtoehmpbipbbffaaGreatDoor
