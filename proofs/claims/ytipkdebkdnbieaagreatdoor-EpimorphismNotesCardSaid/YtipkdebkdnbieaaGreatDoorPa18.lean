/- Walks: floor, Floor, Remainder by the octave. Walks: checkQuotient, Floor, Remainder by the octave. Walk: epimorphism.reduce by the octave, where the few bits decide. (KEEPALL) Plain: an interval less whole octaves, step by step, as law 37's reduced takes it. (KEEPALL) Walk: epimorphism.Check. (KEEPALL) Plain: a sorted set of intervals of an octave; one more interval put in its place; such a set is right. (KEEPALL) Plain: an insertion sort by a key; lists in order. The row of an insertion sort whose compare makes memory. -/
import Derived.Test.YtipkdebkdnbieaaGreatDoorPa17
import Derived.Test.YtipkdebkdnbieaaGreatDoorPa14
import Derived.Test.YtipkdebkdnbieaaGreatDoorPa12
import Derived.Test.YtipkdebkdnbieaaGreatDoorPa10
import Derived.Test.YtipkdebkdnbieaaGreatDoorPa13
import Derived.Test.YtipkdebkdnbieaaGreatDoorPa08
import Derived.Test.YtipkdebkdnbieaaGreatDoorPa02
set_option maxRecDepth 100000
set_option maxHeartbeats 2000000
namespace Go.Proofs.YtipkdebkdnbieaaGreatDoor
section
open Go.RowKit Go.Lib
attribute [local go_sem] Oper.semAt_some
def flP (p:List Int)(x:List Rat):Int:=if x.tail.all (· == 0) then (x.headD 0).floor else zeM (tms p (dn x) x) / (67108864 * ((dn x:Nat):Int))
def QF (p:List Int)(x:List Rat):Prop:=x.tail.all (· == 0)=true∨((∀ e∈tms p (dn x) x,okE 100000 e)∧dn x≤10000∧zeM (tms p (dn x) x) / (67108864 * ((dn x:Nat):Int))=zeN (tms p (dn x) x) / (67108864 * ((dn x:Nat):Int)))
theorem zkm {p:List Int}{n:Nat}(hp:Pr p (n+1)):tms p (dn (ov n)) (ov n)=[(2,1)]∧dn (ov n)=1:=by
 rcases hp with ⟨rfl,h⟩ | ⟨rfl,h⟩
 ·obtain rfl:n=1:=by omega
  exact ⟨by decide +kernel,by decide +kernel⟩
 ·obtain rfl:n=2:=by omega
  exact ⟨by decide +kernel,by decide +kernel⟩
theorem zkn {p:List Int}{n:Nat}(hp:Pr p n):p.length=n:=by rcases hp with ⟨rfl,rfl⟩ | ⟨rfl,rfl⟩ <;> rfl
theorem zko {n:Nat}:∀ q∈ov n,Ft 1 q:=by
 intro q hq;unfold ov at hq;rcases List.mem_cons.1 hq with rfl | h
 ·exact zjU
 ·obtain rfl:=List.eq_of_mem_replicate h;exact ziy
theorem zkp (n:Nat):(ov n).length=n+1:=by unfold ov;simp
theorem zkq (vp va vb:Value)(p:List Int)(a0:Rat)(tl:List Rat)(w:World)(he:Env w)(hp:Sl w vp (zap p))(ha:Rd w va (a0::tl))(hb:Rd w vb (ov tl.length))(hpr:Pr p (tl.length+1))(hf:∀ q∈a0::tl,Ft 30 q)(hq:QF p (a0::tl)) :
  Calls Tryz.prog 128 #[vp,va,vb] w fun e w'=>e=.returned (.string (I (flP p (a0::tl))))∧Ext w w':=by
 have hpl:=zkn hpr;have hpl3:p.length≤3:=by rcases hpr with ⟨rfl,_⟩ | ⟨rfl,_⟩ <;> simp
 have hra:=zkl va vb a0 tl w he ha hb (by omega) (fun q h=>(hf q h).mono (by omega));have hov:=zkm hpr;by_cases ht:tl.all (· == 0)=true
 ·have hfp:flP p (a0::tl)=a0.floor:=by unfold flP;rw [List.tail_cons,if_pos ht];rfl
  rw [ht] at hra;have h0:=hf a0 (List.mem_cons_self ..);have hfl:=fun W (h:Ext w W)=>ze8 a0 W (he.ext h) (h0.num (by omega)) (h0.den (by omega));rw [hfp];generalize I a0.floor=sf at *;unfold Rv at hra hfl;generalize I a0.num=s1 at *;generalize I (a0.den:Int)=s2 at *;obtain ⟨ap,cp,rfl,_,_,_⟩:=hp.parts;obtain ⟨aa,ca,rfl,_,_,_⟩:=ha.parts;obtain ⟨ab,cb,rfl,_,_,_⟩:=hb.parts;clear hp ha hb hov hpr hf hq hfp ht h0 he hpl hpl3;have Hra:=hid hra;have Hfl:=hid hfl;clear hra hfl;go_enter Tryz.func128,Tryz.ntmps128
  go_wp2_with fail
  refine Hra.out.mono ?_;rintro e w1 ⟨rfl,hx1⟩;have HE:Hid (Ext w (w1.alloc (.cells #[.string s1,.string s2] 102))):=hid (hx1.alloc _);clear hx1;go_wp2_with fail
  refine (Hfl.out _ HE.out).mono ?_;rintro e w2 ⟨rfl,hx2⟩;have Hx2:=hid (HE.out.trans hx2);clear hx2;go_wp2
  try rw [Exit.noGoto_ret]
  go_ret
  exact ⟨rfl,Hx2.out⟩
 ·have hfp:flP p (a0::tl)=zeM (tms p (dn (a0::tl)) (a0::tl)) / (67108864 * ((dn (a0::tl):Nat):Int)):=by unfold flP;rw [List.tail_cons,if_neg ht]
  rw [Bool.eq_false_iff.2 ht] at hra;obtain ⟨q1,q2,q3⟩:(∀ e∈tms p (dn (a0::tl)) (a0::tl),okE 100000 e)∧dn (a0::tl)≤10000∧_:=hq.resolve_left ht;have hl:(tms p (dn (a0::tl)) (a0::tl)).length≤100:=by
   have:=zfH (p:=p) (d:=dn (a0::tl)) (x:=a0::tl);simp only [List.length_cons] at this;omega
  have h1:=fun W (h:Ext w W)=>zfL vp va p (a0::tl) W (he.ext h) (h.sl hp) (h.rd ha) (by omega) (by rw [hpl];rfl) hf;have h2:=fun W (h:Ext w W)=>zfL vp vb p (ov tl.length) W (he.ext h) (h.sl hp) (h.rd hb) (by omega) (by rw [zkp,hpl]) (fun q h=>(zko q h).mono (by omega));rw [hov.1,hov.2] at h2;have h3:=fun W tx ty (hx:TmV W tx (tms p (dn (a0::tl)) (a0::tl)) (dn (a0::tl)))(hy:TmV W ty [(2,1)] 1)=>zkf tx ty _ _ W hx hy hl q1 (zeW _) q2 q3;have hbd:=zjE (fun e he=>zjF (q1 e he) (show (100000:Int)≤10000000 by omega));have hd0:=zeW (a0::tl);rw [hfp];generalize tms p (dn (a0::tl)) (a0::tl)=l at *;generalize dn (a0::tl)=d at *;have hll:(l.length:Int)≤100:=by omega
  have hqb:=zkd (a:=zeM l) (b:=67108864 * (d:Int)) (m:=248332306000000000) (by omega) (by omega) (by omega) (by omega);generalize zeM l / (67108864 * (d:Int))=q at *;have h4:=fun W (h:Ext w W)=>zaQ q (by omega) (by omega) W (he.ext h);generalize I q=sq at *;unfold Rv at hra;generalize I a0.num=s1 at *;generalize I (a0.den:Int)=s2 at *;obtain ⟨ap,cp,rfl,_,_,_⟩:=hp.parts;obtain ⟨aa,ca,rfl,_,_,_⟩:=ha.parts;obtain ⟨ab,cb,rfl,_,_,_⟩:=hb.parts;clear hp ha hb hov hpr hf hq hfp ht he hpl hpl3 q1 q2 q3 hbd hll hqb hl hd0;have Hra:=hid hra;have H1:=hid h1;have H2:=hid h2;have H3:=hid h3;have H4:=hid h4;clear hra h1 h2 h3 h4;go_enter Tryz.func128,Tryz.ntmps128
  go_wp2_with fail
  refine Hra.out.mono ?_;rintro e w1 ⟨rfl,hx1⟩;have HE:Hid (Ext w (w1.alloc (.cells #[.string s1,.string s2] 102))):=hid (hx1.alloc _);clear hx1;go_wp2_with fail
  refine (H1.out _ HE.out).mono ?_;rintro e w2 ⟨tx,rfl,hx,hx2⟩;have Hx2:=hid (HE.out.trans hx2);clear hx2;obtain ⟨vc,vd,rfl,hp1,hf1⟩:=hx;obtain ⟨ac,cc,rfl,_,_,_⟩:=hp1.parts;obtain ⟨ad,cd,rfl,_,_,_⟩:=hf1.parts;have htx:TmV w2 (.agg #[.slice ac (zap (l.map Prod.fst)).length cc,.slice ad (zf3 (l.map Prod.snd)).length cd,.string (I (d:Int))]) l d:=⟨_,_,rfl,hp1,hf1⟩;clear hp1 hf1;generalize (zap (l.map Prod.fst)).length=n1 at *;generalize (zf3 (l.map Prod.snd)).length=n2 at *;generalize I (d:Int)=sd at *;have Htx:=hid htx;clear htx;go_wp2_with fail
  refine (H2.out _ Hx2.out).mono ?_;rintro e w3 ⟨ty,rfl,hy,hx3⟩;have Hx3:=hid (Hx2.out.trans hx3);have Htx3:=hid (Htx.out.ext hx3);clear hx3;obtain ⟨ve,vf,rfl,hp1,hf1⟩:=hy;obtain ⟨ae,ce,rfl,_,_,_⟩:=hp1.parts;obtain ⟨af,cf,rfl,_,_,_⟩:=hf1.parts;have hty:TmV w3 (.agg #[.slice ae (zap (([(2,1)]:List (Int × Int)).map Prod.fst)).length ce,.slice af (zf3 (([(2,1)]:List (Int × Int)).map Prod.snd)).length cf,.string (I ((1:Nat):Int))]) [(2,1)] 1:=⟨_,_,rfl,hp1,hf1⟩;clear hp1 hf1;generalize (zap (([(2,1)]:List (Int × Int)).map Prod.fst)).length=n3 at *;generalize (zf3 (([(2,1)]:List (Int × Int)).map Prod.snd)).length=n4 at *;generalize I ((1:Nat):Int)=se at *;have hE4:Ext w3 ((w3.alloc (.cells #[.slice ac n1 cc,.slice ad n2 cd,.string sd] 174)).alloc (.cells #[.slice ae n3 ce,.slice af n4 cf,.string se] 174)):=((Ext.refl w3).alloc _).alloc _;have HE4:=hid (Hx3.out.trans hE4);have H5:=hid (H3.out _ _ _ (Htx3.out.ext hE4) (hty.ext hE4));clear hE4 hty;go_wp2_with fail
  refine H5.out.mono ?_;rintro e w5 ⟨rfl,hx5⟩;have Hx5:=hid (HE4.out.trans hx5);clear hx5;go_wp2_with fail
  refine (H4.out _ Hx5.out).mono ?_;rintro e w6 ⟨rfl,hx6⟩;have Hx6:=hid (Hx5.out.trans hx6);clear hx6;go_wp2
  try rw [Exit.noGoto_ret]
  go_ret
  exact ⟨rfl,Hx6.out⟩
theorem zkr (vp va vb:Value)(p:List Int)(a:List Rat)(n:Nat)(w:World)(he:Env w)(hp:Sl w vp (zap p))(ha:Rd w va a)(hb:Rd w vb (ov n))(hpe:zcw p=0)(hpr:Pr p (n+1))(hal:a.length=n+1)(hf:∀ q∈a,Ft 30 q) :
  Calls Tryz.prog 127 #[vp,va,vb] w fun e w'=>e=.returned (.int .i64 0)∧Ext w w':=by
 have hpl:=zkn hpr;have hov:=zkm hpr;have hua:=zfi ha;have hub:=zfi hb;have hpl3:p.length≤3:=by rcases hpr with ⟨rfl,_⟩ | ⟨rfl,_⟩ <;> simp
 have h2:=fun W (h:Ext w W)=>zfL vp vb p (ov n) W (he.ext h) (h.sl hp) (h.rd hb) (by omega) (by rw [zkp,hpl]) (fun q h=>(zko q h).mono (by omega));rw [hov.1,hov.2] at h2;have hl3:RdM (w.alloc (.cells #[va,vb] 65)) (.slice (some ⟨w.heap.size,0,none⟩) 2 2) [⟨a,va,hua⟩,⟨ov n,vb,hub⟩] :=
  ⟨zjR (us:=[va,vb]) (World.alloc_heap_new w _) (by unfold maxLen;simp),by
   intro r hr;rcases List.mem_cons.1 hr with rfl | hr
   ·exact ((Ext.refl w).alloc _).rd ha
   ·rw [List.mem_singleton] at hr;subst hr;exact ((Ext.refl w).alloc _).rd hb⟩
 have hbl:Ext w (w.alloc (.cells #[va,vb] 65)):=(Ext.refl w).alloc _;have h1:=zfq vp _ p [⟨a,va,hua⟩,⟨ov n,vb,hub⟩] _ (he.ext hbl) (hbl.sl hp) hl3 hpe (by simp) (by
   intro r hr;rcases List.mem_cons.1 hr with rfl | hr
   ·exact ⟨by rw [hpl];exact hal,hf⟩
   ·rw [List.mem_singleton] at hr;subst hr;exact ⟨by rw [hpl];exact zkp n,fun q h=>(zko q h).mono (by omega)⟩)
 obtain ⟨ap,cp,rfl,_,_,_⟩:=hp.parts;obtain ⟨aa,ca,rfl,_,_,_⟩:=ha.parts;obtain ⟨ab,cb,rfl,_,_,_⟩:=hb.parts;clear hp ha hb he hpe hpr hf hov hl3 hua hub hpl hpl3 hal;have H1:=hid h1;have H2:=hid h2;have Hbl:=hid hbl;clear h1 h2 hbl;go_enter Tryz.func127,Tryz.ntmps127
 go_wp2_with fail
 refine H1.out.mono ?_;rintro e w1 ⟨rfl,hx1⟩;have Hx1:=hid (Hbl.out.trans hx1);clear hx1;go_wp2_with fail
 refine (H2.out w1 Hx1.out).mono ?_;rintro e w2 ⟨tv,rfl,ht,hx2⟩;have Hx2:=hid (Hx1.out.trans hx2);obtain ⟨vc,vd,rfl,hp1,hf1⟩:=ht;obtain ⟨ac,cc,rfl,_,_,_⟩:=hp1.parts;obtain ⟨ad,cd,rfl,_,_,_⟩:=hf1.parts;rw [show (zap (([(2,1)]:List (Int × Int)).map Prod.fst)).length=1 from rfl];clear hp1 hf1 hx2;have hfield:∀ (u v x:Value) W,(Instr.field 174 (.agg #[u,v,x]) 0).run Tryz.prog W=.ok u W:=fun u v x W=>rfl;rw [show (zf3 (([(2,1)]:List (Int × Int)).map Prod.snd)).length=1 from rfl];go_wp2
 go_ret
 exact ⟨rfl,Hx2.out⟩
theorem zks (vp va vb:Value)(p:List Int)(a0:Rat)(tl:List Rat)(w:World)(he:Env w)(hp:Sl w vp (zap p))(ha:Rd w va (a0::tl))(hb:Rd w vb (ov tl.length))(hpe:zcw p=0)(hpr:Pr p (tl.length+1))(hf:∀ q∈a0::tl,Ft 30 q)(hq:QF p (a0::tl)) :
  Calls Tryz.prog 96 #[vp,va,vb] w fun e w'=>e=.returned (.tuple #[.string (I (flP p (a0::tl))),.int .i64 0])∧Ext w w':=by
 have h1:=zkr vp va vb p (a0::tl) tl.length w he hp ha hb hpe hpr rfl hf;have h2:=fun W (h:Ext w W)=>zkq vp va vb p a0 tl W (he.ext h) (h.sl hp) (h.rd ha) (h.rd hb) hpr hf hq;generalize I (flP p (a0::tl))=sf at *;obtain ⟨ap,cp,rfl,_,_,_⟩:=hp.parts;obtain ⟨aa,ca,rfl,_,_,_⟩:=ha.parts;obtain ⟨ab,cb,rfl,_,_,_⟩:=hb.parts;clear hp ha hb he hpe hpr hf hq;have H1:=hid h1;have H2:=hid h2;clear h1 h2;go_enter Tryz.func96,Tryz.ntmps96
 go_wp2_with fail
 refine (H1.out).mono ?_;rintro e w1 ⟨rfl,hx1⟩;have Hx1:=hid hx1;clear hx1;go_wp2_with fail
 refine (H2.out w1 Hx1.out).mono ?_;rintro e w2 ⟨rfl,hx2⟩;have Hx2:=hid (Hx1.out.trans hx2);clear hx2;go_wp2
 go_ret2
 exact ⟨rfl,Hx2.out⟩
end
section
open Go.RowKit Go.Lib
def zkt (n:Nat):List Int:=1::List.replicate n 0
theorem zku (n:Nat):ziS (zkt n)=ov n:=by
 unfold ziS zkt ov;rw [List.map_cons,List.map_replicate];rfl
theorem zkv (n:Nat):(zkt n).length=n+1:=by unfold zkt;rw [List.length_cons,List.length_replicate]
theorem zkw (n i:Nat):zas (zkt n) i=0∨zas (zkt n) i=1:=by
 unfold zas zkt;rw [List.getD_eq_getElem?_getD]
 cases i with
 | zero=>right;rfl
 | succ i =>
  left
  rw [List.getElem?_cons_succ,List.getElem?_replicate]
  split <;> rfl
theorem zkx {z:Int}(h:-1000≤z∧z≤1000):Ft 30 (z:Rat):=by
 refine ⟨?_,?_⟩
 ·rw [Rat.num_intCast];exact Nat.le_trans (Dec.nDigits_le (k:=4) (by decide) (show z.natAbs<10 ^ 4 by omega)) (by decide)
 ·rw [Rat.den_intCast];exact Nat.le_trans (Dec.nDigits_le (k:=1) (by decide) (by decide)) (by decide)
theorem zky (vp vx vq:Value)(p:List Int)(z0:Int)(zs o:List Int)(q:Int)(w:World)(he:Env w)(hp:Sl w vp (zap p))(hx:Sl w vx (zap (z0::zs)))(hy:Sl w vq (zap (zkt zs.length)))(h1:zgu p (z0::zs)=0)(h2:zgu p (zkt zs.length)=0)(hpr:Pr p (zs.length+1))(hq:QF p (ziS (z0::zs)))(hfl:flP p (ziS (z0::zs))=q)(hq0:-1000000≤q)(hq1:q≤1000000)(ho:zgO (z0::zs) (-q) (zkt zs.length)=some o) :
  Calls Tryz.prog 64 #[vp,vx,vq] w fun e w'=>∃ v,e=.returned (.tuple #[v,.int .i64 0])∧zc2 w' w.heap.size v o∧Ext w w':=by
 obtain ⟨hpe,hre⟩:=zg7 h1;obtain ⟨hxl,hxb⟩:=zg6 hre;obtain ⟨hp0,hp6,_⟩:=zc0 hpe;have hzl:(z0::zs).length=zs.length+1:=rfl;have hof:=fun W (hE:Ext w W)=>zjz vp vx p (z0::zs) W (he.ext hE) (hE.sl hp) (hE.sl hx) h1;have hoy:=fun W (hE:Ext w W)=>zjz vp vq p (zkt zs.length) W (he.ext hE) (hE.sl hp) (hE.sl hy) h2;rw [zku] at hoy;have hft:∀ r∈ziS (z0::zs),Ft 30 r:=fun r hr=>by
  unfold ziS at hr;obtain ⟨z,hz,rfl⟩:=List.mem_map.1 hr;obtain ⟨i,hi⟩:=List.mem_iff_getElem?.1 hz;have hl:=(List.getElem?_eq_some_iff.1 hi).1;have:=hxb i hl;unfold zas at this;rw [List.getD_eq_getElem?_getD,hi] at this;exact zkx this
 have hcons:ziS (z0::zs)=((z0:Int):Rat)::ziS zs:=rfl;have hrl:(ziS zs).length=zs.length:=zju zs;have hflo:=fun va vb W (hE:Ext w W)(ha:Rd W va (ziS (z0::zs)))(hb:Rd W vb (ov zs.length))=>zks vp va vb p ((z0:Int):Rat) (ziS zs) W (he.ext hE) (hE.sl hp) ha (by rw [hrl];exact hb) hpe (by rw [hrl];exact hpr) hft hq;rw [← hcons,hfl] at hflo;have hsm:=fun W=>zfP q W (by omega) (by omega);have hpl:=fun W (hE:Ext w W)=>zgY vx vq (z0::zs) (zkt zs.length) (-q) W (hE.sl hx) (hE.sl hy) (by rw [zkv];rfl) (by omega) (fun i hi=>by have:=hxb i hi;omega) (fun i hi=>by rcases zkw zs.length i with e | e <;> rw [e] <;> omega)
 rw [ho] at hpl;obtain ⟨ap,cp,rfl,_,_,_⟩:=hp.parts;obtain ⟨ax,cx,rfl,_,_,_⟩:=hx.parts;obtain ⟨ay,cy,rfl,_,_,_⟩:=hy.parts;simp only [zar] at hof hoy hflo hpl ⊢;have hd1:decide (q > 1000000000)=false:=decide_eq_false (by omega);have hd2:decide (q < -1000000000)=false:=decide_eq_false (by omega);have Hof:=hid hof;have Hoy:=hid hoy;have Hflo:=hid hflo;have Hsm:=hid hsm;have Hpl:=hid hpl;clear hof hoy hflo hsm hpl;clear hp hx hy h1 h2 hpr hq hfl ho hpe hre hxb hft hcons hrl hp0 hp6 hxl he hzl;generalize I q=sq at *;generalize (z0::zs).length=n at *;generalize (zkt zs.length).length=m at *;go_enter Tryz.func64,Tryz.ntmps64
 go_wp2_with fail
 refine (Hof.out w (Ext.refl _)).mono ?_;rintro e w1 ⟨v1,rfl,ho1,hx1⟩;have Hr1:=hid ho1.rd;have Hx1:=hid hx1;clear hx1;clear ho1;go_wp2_with fail
 refine (Hoy.out w1 Hx1.out).mono ?_;rintro e w2 ⟨v2,rfl,ho2,hx2⟩;have Hr2:=hid ho2.rd;have Hr1':=hid (hx2.rd Hr1.out);have Hx2:=hid (Hx1.out.trans hx2);clear ho2 hx2;go_wp2_with fail
 refine (Hflo.out v1 v2 w2 Hx2.out Hr1'.out Hr2.out).mono ?_;rintro e w3 ⟨rfl,hx3⟩;have Hx3:=hid (Hx2.out.trans hx3);clear hx3;go_wp2_with fail
 refine (Hsm.out w3).mono ?_;rintro e w4 ⟨rfl,hx4⟩;have Hx4:=hid (Hx3.out.trans hx4);clear hx4;go_wp2_with fail
 refine (Hpl.out w4 Hx4.out).mono ?_;rintro e w5 ⟨⟨v,rfl,hov⟩,hx5⟩;have hov2:=zam hov Hx4.out.size;have Hov:=hid hov2;have Hx5:=hid (Hx4.out.trans hx5);obtain ⟨av,cv,ev⟩:=zc3 hov2;subst ev;clear hov hov2 hx5;go_wp2
 go_ret2
 exact ⟨_,rfl,Hov.out,Hx5.out⟩
theorem zkz (n:Nat):zhN (n+1)=zkt n:=by
 unfold zhN zhd zkt;rw [List.replicate_succ];rfl
theorem zk0 : ∀ (k:Int)(x:List Int)(n:Nat),x.length=n→zgN x k (List.replicate n 0)=x
 | _,[],_,h=>by subst h;rfl
 | k,a::x,n,h=>by
  obtain ⟨m,rfl⟩:∃ m,n=m+1:=⟨x.length,by simpa using h.symm⟩;have:=zk0 k x m (by simpa using h);unfold zgN at this ⊢;rw [List.replicate_succ,List.zipWith_cons_cons,this,Int.mul_zero,Int.add_zero]
theorem zk1 {x:List Int}{n:Nat}(k:Int)(h:x.length=n+1):zgN x k (zkt n)=bmp k x:=by
 cases x with
 | nil=>simp at h
 | cons a x =>
  have:=zk0 k x n (by simpa using h)
  unfold zgN zkt at *
  rw [List.zipWith_cons_cons,this,Int.mul_one]
  rfl
theorem zk2 {p r:List Int}(hpe:zcw p=0)(hl:r.length=p.length)(hb:∀ i,i<r.length→-1000≤zas r i∧zas r i≤1000):zgu p r=0:=by
 unfold zgu zgm;rw [if_neg (by simpa using hpe),zgl];have hr:zgk p.length r=0:=by
  unfold zgk;rw [if_neg (by simpa using hl),if_neg];intro q;rw [zgr fun i hi=>zgp (by have:=hb i hi;omega) (by have:=hb i hi;omega)] at q
  cases q
 rw [if_neg (by simpa using hr)];rfl
structure Iv (p x:List Int):Prop where
 len:x.length=p.length
 tl:Tl9 x
theorem Iv.bmp {p x:List Int}(h:Iv p x)(k:Int):Iv p (bmp k x):=⟨by rw [zhC];exact h.len,h.tl.bmp k⟩
theorem Iv.ok {p x:List Int}(h:Iv p x)(hp:zh9 p)(hb:-900≤zas x 0∧zas x 0≤900):zgu p x=0:=zk2 hp.pe h.len fun i hi=>by
 by_cases e:i=0
 ·subst e;omega
 ·have:=h.tl i (by omega);omega
theorem zk3 {p x:List Int}(h:zgu p x=0):zgB p x=zbj (zgy p x:Nat) (zgz p x:Nat):=by unfold zgB;rw [if_neg (by simpa using h)]
theorem zk4 {p x:List Int}(hp:zh9 p)(h1:zgy p x<zgz p x):zgZ p x (zhN p.length)<0:=by
 obtain ⟨e1,e2⟩:=zhO hp;unfold zgZ;rw [zhP,e1,e2,Nat.mul_one];have h2:=hp.two 0 hp.len.1;have:zgz p x≤(zas p 0).toNat * zgz p x:=Nat.le_mul_of_pos_left _ (by omega);omega
def Stp (p x:List Int)(k:Nat)(c:List Int):Prop :=
 (k=0∧c=x)∨(0<k∧∃ b,c=bmp 1 b∧b=bmp ((k:Int) - 1) x∧zgy p b<zgz p b)∨(0<k∧∃ b,c=bmp (-1) b∧b=bmp (-((k:Int) - 1)) x∧¬ zgZ p b (zhN p.length)<0)
section
variable {p x c : List Int} {k : Nat}
theorem Stp.bd (h:Stp p x k c)(hp:zh9 p)(hx:Iv p x)(h0:-9≤zas x 0∧zas x 0≤9):Iv p c∧(-200≤zas c 0∧zas c 0≤200)∧k≤200:=by
 have hl:0<x.length:=by rw [hx.len];exact hp.len.1
 rcases h with ⟨rfl,rfl⟩ | ⟨hk,b,rfl,rfl,hb⟩ | ⟨hk,b,rfl,rfl,hb⟩
 ·exact ⟨hx,by omega,by omega⟩
 ·have hi:=hx.bmp ((k:Int) - 1);have e:=zhF hl ((k:Int) - 1);have e2:=zhF (x:=bmp ((k:Int) - 1) x) (by rw [zhC];exact hl) 1;have:¬ 100≤zas (bmp ((k:Int) - 1) x) 0:=fun q=>by
   have:=zhL hp hi.len hi.tl q;omega
  exact ⟨hi.bmp 1,by omega,by omega⟩
 ·have hi:=hx.bmp (-((k:Int) - 1));have e:=zhF hl (-((k:Int) - 1));have e2:=zhF (x:=bmp (-((k:Int) - 1)) x) (by rw [zhC];exact hl) (-1);have:¬ zas (bmp (-((k:Int) - 1)) x) 0≤-100:=fun q=>hb (zk4 hp (zhM hp hi.len hi.tl q));exact ⟨hi.bmp (-1),by omega,by omega⟩
theorem Stp.up (h:Stp p x k c)(hp:zh9 p)(hx:Iv p x)(h1:zgy p c<zgz p c):Stp p x (k+1) (bmp 1 c):=by
 rcases h with ⟨rfl,rfl⟩ | ⟨hk,b,rfl,rfl,hb⟩ | ⟨hk,b,rfl,rfl,hb⟩
 ·exact .inr (.inl ⟨by omega,c,rfl,by rw [show (((0+1:Nat):Int) - 1)=0 by omega,zhE],h1⟩)
 ·refine .inr (.inl ⟨by omega,_,rfl,?_,h1⟩);rw [zhD];congr 1;omega
 ·have hi:=hx.bmp (-((k:Int) - 1));have:=zhR hp hi.len hb;omega
theorem Stp.down (h:Stp p x k c)(hp:zh9 p)(hx:Iv p x)(h2:¬ zgZ p c (zhN p.length)<0):Stp p x (k+1) (bmp (-1) c):=by
 rcases h with ⟨rfl,rfl⟩ | ⟨hk,b,rfl,rfl,hb⟩ | ⟨hk,b,rfl,rfl,hb⟩
 ·exact .inr (.inr ⟨by omega,c,rfl,by rw [show (-(((0+1:Nat):Int) - 1))=0 by omega,zhE],h2⟩)
 ·have hi:=hx.bmp ((k:Int) - 1);exact absurd (zhQ hp hi.len hb) h2
 ·refine .inr (.inr ⟨by omega,_,rfl,?_,h2⟩);rw [zhD];congr 1;omega
end
structure Rdd (p r:List Int):Prop where
 iv:Iv p r
 lo:zgz p r≤zgy p r
 hi:zgZ p r (zhN p.length)<0
theorem Rdd.bd {p r:List Int}(h:Rdd p r)(hp:zh9 p):-100≤zas r 0∧zas r 0≤101:=by
 have h1:¬ zas r 0≤-100:=fun q=>by have:=zhM hp h.iv.len h.iv.tl q;have:=h.lo;omega
 have hl:0<r.length:=by rw [h.iv.len];exact hp.len.1
 have h2:¬ 101≤zas r 0:=fun q=>by
  have hi:=h.iv.bmp (-1);have e:=zhF hl (-1);have hf:=zhL hp hi.len hi.tl (by omega);have hn:¬ zgZ p r (zhN p.length)<0:=fun q2=>by
   have hb:=zhI hp hi.len;rw [zhD,show (-1:Int)+1=0 from rfl,zhE] at hb;obtain ⟨e1,e2⟩:=zhO hp;unfold zgZ at q2;rw [zhP,e1,e2,Nat.mul_one] at q2;obtain ⟨d1,_⟩:=zhJ hp hi.len;obtain ⟨d2,_⟩:=zhJ hp h.iv.len;have h3:zgy p r * zgz p (bmp (-1) r)<(zas p 0).toNat * zgz p r * zgz p (bmp (-1) r):=Nat.mul_lt_mul_of_pos_right (by omega) d1;rw [hb] at h3;have h4:(zas p 0).toNat * (zgz p (bmp (-1) r) * zgz p r)≤(zas p 0).toNat * (zgy p (bmp (-1) r) * zgz p r):=Nat.mul_le_mul_left _ (Nat.mul_le_mul_right _ (by omega));have h5:(zas p 0).toNat * zgz p r * zgz p (bmp (-1) r)=(zas p 0).toNat * (zgz p (bmp (-1) r) * zgz p r):=(by rw [Nat.mul_assoc,Nat.mul_comm (zgz p r)]);omega
  exact hn h.hi
 omega
theorem zk5 {p:List Int}(h:zcw p=0):zgu p (zhd p.length)=0:=by
 unfold zgu zgm;rw [if_neg (by simpa using h),zgl];have hr:zgk p.length (zhd p.length)=0:=by
  unfold zgk zhd;rw [if_neg (by simp),if_neg];intro q;obtain ⟨z,hz,hf⟩:=List.any_eq_true.1 q;obtain rfl:=List.eq_of_mem_replicate hz;exact absurd hf (by decide)
 rw [if_neg (by simpa using hr)];rfl
theorem zk6 {p b:List Int}{l:List (List Int)}{k:Nat}(hk:k<l.length):zhe p b (l.drop k)=if zgu p (l.getD k []) ≠ 0 then zgu p (l.getD k []) else if 0≤zgZ p b (l.getD k []) then 6 else zhe p (l.getD k []) (l.drop (k+1)):=by
 rw [List.drop_eq_getElem_cons hk,zhe,List.getD_eq_getElem?_getD,List.getElem?_eq_getElem hk];rfl
theorem zk7 (w:World)(u v:Value)(t:TypeId):∀ W,Ext (w.alloc (.cells #[u,v] t)) W→W.cell? ⟨w.heap.size,0,none⟩=some u∧W.cell? ⟨w.heap.size,1,none⟩=some v:=fun W hE=>by
 have bx:(w.alloc (.cells #[u,v] t)).heap[w.heap.size]?=some (.cells #[u,v] t (0,0)):=World.alloc_heap_new w _;have hb:=hE.heap bx;unfold World.cell?;dsimp only;rw [hb];exact ⟨rfl,rfl⟩
theorem zk8 (vp vl:Value)(p:List Int)(l:List (List Int))(w:World)(he:Env w)(hp:Sl w vp (zap p))(hl:Mat w vl l)(hlp:p.length≤1000)(hll:l.length≤1000)(hrow:∀ i,(l.getD i []).length≤1000) :
  Calls Tryz.prog 32 #[.agg #[vp,vl]] w fun e w'=>e=.returned (.int .i64 (zhf p l))∧Ext w w':=by
 obtain ⟨i0,hi,hz0,hz1,hz2⟩:=info_parts zc1;have hpr:=fun W (hE:Ext w W)=>zcx vp p W (hE.sl hp) (by omega);have hck:=fun k u W (hE:Ext w W)(hu:Sl W u (zap (l.getD k [])))=>zgv vp u p (l.getD k []) W (hE.sl hp) hu (by omega) (by have:=hrow k;omega);have hcm:=fun k u vb (b:List Int) W (hE:Ext w W)(hu:Sl W u (zap (l.getD k [])))(hb:Sl W vb (zap b))(hbl:b.length≤1000)=>zhX vp vb u p b (l.getD k []) W (he.ext hE) (hE.sl hp) hb hu (by omega) (by omega) (by have:=hrow k;omega);obtain ⟨ap,cp,rfl,_,_,_⟩:=hp.parts;obtain ⟨vs,hvl,hvs,hrows⟩:=hl;obtain ⟨am,cm,rfl,_,_,hc⟩:=hvs.parts;rw [zar] at hpr hck hcm ⊢;rw [hvl];have hbox:=zk7 w (.slice ap p.length cp) (.slice am l.length cm) 31;have hE0:Ext w (w.alloc (.cells #[.slice ap p.length cp,.slice am l.length cm] 31)):=(Ext.refl w).alloc _;clear hp hvs he;have Hpr:=hid hpr;have Hck:=hid hck;have Hcm:=hid hcm;have Hbox:=hid hbox;have HE0:=hid hE0;have Hc:=hid hc;have Hrows:=hid hrows;have Hrow:=hid hrow;have Hvl:=hid hvl;clear hpr hck hcm hbox hE0 hc hrows hrow hvl;unfold zhf;by_cases h1:zcw p=0
 ·rw [if_neg (by simpa using h1)];have hone:=zk5 h1;rw [h1] at Hpr;have Hone:=hid hone;clear hone;clear h1;by_cases h2:l.length=0
  ·rw [if_pos h2];generalize l.length=L at *;subst h2;obtain ⟨q0,q1⟩:=Hbox.out _ (Ext.refl _);go_enter Tryz.func32,Tryz.ntmps32
   go_wp2_with fail
   refine (Hpr.out _ HE0.out).mono ?_;rintro e w1 ⟨rfl,rfl⟩;go_wp2
   go_ret
   exact ⟨rfl,HE0.out⟩
  ·rw [if_neg h2];have h2b:((l.length:Int) == 0)=false:=beq_eq_false_iff_ne.2 (by omega);by_cases h3:60<l.length
   ·rw [if_pos h3];obtain ⟨q0,q1⟩:=Hbox.out _ (Ext.refl _);go_enter Tryz.func32,Tryz.ntmps32
    go_wp2_with fail
    refine (Hpr.out _ HE0.out).mono ?_;rintro e w1 ⟨rfl,rfl⟩;go_wp2
    go_ret
    exact ⟨rfl,HE0.out⟩
   ·rw [if_neg h3];obtain ⟨q0,q1⟩:=Hbox.out _ (Ext.refl _);go_enter Tryz.func32,Tryz.ntmps32
    go_wp2_with fail
    refine (Hpr.out _ HE0.out).mono ?_;rintro e w1 ⟨rfl,rfl⟩;go_wp2_with (at_make;refine wpList_make_full _ rfl _ _ 33 rfl w.heap.size 3 i0 (.int .i64 0) 1 Tryz.underlying33 hi hz0 hz1 _ _ _ _ p.length rfl rfl rfl rfl (by rw [hz2];omega) (by unfold maxLen;omega) (by rw [World.size_alloc];omega) ?_;intro w1 hown hgrow;obtain ⟨s0,s1⟩:=Hbox.out _ ((Ext.refl _).grown hgrow (by simp)))
    rw [World.size_alloc] at hown;have hE1:Ext (w.alloc (.cells #[.slice ap p.length cp,.slice am l.length cm] 31)) w1:=(Ext.refl _).grown hgrow (by simp);have hown1:Sl w1 (.slice (some ⟨w.heap.size+1,0,none⟩) p.length p.length) (zap (zhd p.length)):=by
     have hzz:(zhd p.length).length=p.length:=List.length_replicate;have e:zap (zhd p.length)=(madeCells #[Value.int .i64 0] (p.length * 1)).toList:=by
      unfold zhd;rw [Nat.mul_one,toList_madeCells_one];simp [zap]
     have h3:zc2 w1 w.heap.size (.slice (some ⟨w.heap.size+1,0,none⟩) p.length p.length) (zhd p.length):=by
      unfold zc2;rw [hzz,e];exact hown
     exact h3.sl
    have HE1:=hid hE1;have Hown1:=hid hown1;clear hE1 hown1;clear hown hgrow s0 s1 q0 q1;go_loopw [4,33] (fun v4 v33 wr=>∃ (k:Nat)(b:List Int)(a:Option Addr)(c:Nat),v33=.int .i64 k∧k≤l.length∧v4=.slice a p.length c∧Hid (Sl wr (.slice a p.length c) (zap b))∧Hid (b.length=p.length∧zgu p b=0)∧Hid (zhe p (zhd p.length) l=zhe p b (l.drop k))∧Hid (Ext w1 wr)) (fun _ v33 _=>l.length - (zal v33).toNat)
    case atStart=>exact ⟨0,zhd p.length,_,_,rfl,Nat.zero_le _,rfl,Hown1,hid ⟨List.length_replicate,Hone.out⟩,hid rfl,hid (Ext.refl _)⟩
    case round =>
     obtain ⟨k,b,ab,cb,rfl,hk,rfl,HB,HL,HF,HE⟩:=hrel;have hEw:=(HE0.out.trans HE1.out).trans HE.out;by_cases hkn:k<l.length
     ·obtain ⟨u,hu⟩:∃ u,vs[k]?=some u:=⟨_,List.getElem?_eq_getElem (by rw [Hvl.out];exact hkn)⟩;obtain ⟨bl,off,rfl,hcu⟩:=Hc.out k u hu;have hru:=Hrows.out k u hu;obtain ⟨ax,cx,rfl,_,_,_⟩:=hru.parts;rw [zar] at hcu hru;have hcw:=hEw.cell hcu;obtain ⟨q0,q1⟩:=Hbox.out wr (HE1.out.trans HE.out);have hdrop:=zk6 (p:=p) (b:=b) hkn;have hk1:(0:Int)≤(k:Int):=(by omega);have hk2:(k:Int)<(l.length:Int):=(by omega);have hb2:=fun W (hx:Ext wr W)=>Hbox.out W ((HE1.out.trans HE.out).trans hx);have h1:=Hck.out k _ wr hEw (hEw.sl hru);have h2:=fun W (hx:Ext wr W)=>Hcm.out k _ _ b W (hEw.trans hx) ((hEw.trans hx).sl hru) (hx.sl HB.out) (by have:=HL.out.1;omega);have hru2:=fun W (hx:Ext wr W)=>(hEw.trans hx).sl hru;have Hdrop:=hid hdrop;have H1:=hid h1;have H2:=hid h2;have Hb2:=hid hb2;have Hru2:=hid hru2;clear hdrop h1 h2 hb2 hru2;clear hcu hru hu;by_cases he0:zgu p (l.getD k [])=0
      ·have hxl:(l.getD k []).length=p.length:=(zg6 (zg7 he0).2).1;have ht0:=zhU HL.out.2 he0;rw [he0] at H1;rw [hxl,ht0] at H2;rw [hxl] at H1 Hru2 hcw;have hce:zhV p b (l.getD k [])=zgZ p b (l.getD k []):=(by unfold zhV;rw [if_neg (by simpa using ht0)]);rw [hce] at H2;have hd2:=Hdrop.out;rw [if_neg (by simpa using he0)] at hd2;have Hd2:=hid hd2;have Hxl:=hid hxl;have He0:=hid he0;clear hd2 hxl he0;clear Hdrop ht0 hce;go_wp2_with fail
       refine H1.out.mono ?_;rintro e w3 ⟨rfl,hx3⟩;obtain ⟨s0,s1⟩:=Hb2.out w3 hx3;have Hx3:=hid hx3;clear hx3;clear q0 q1 hcw;go_wp2_with fail
       refine (H2.out w3 Hx3.out).mono ?_;rintro e w4 ⟨rfl,hx4⟩;have Hx4:=hid (Hx3.out.trans hx4);clear hx4 s0 s1;generalize zgZ p b (l.getD k [])=z at *;by_cases hz:0≤z
       ·have hdd:=Hd2.out;rw [if_pos hz] at hdd;have hfin:=HF.out.trans hdd;have Hfin:=hid hfin;clear hfin hdd;go_wp2
        go_ret
        exact ⟨by rw [Hfin.out] <;> rfl,hEw.trans Hx4.out⟩
       ·have hdd:=Hd2.out;rw [if_neg hz] at hdd;have hfin:=HF.out.trans hdd;have Hfin:=hid hfin;have hzd:decide (z ≥ 0)=false:=decide_eq_false hz;clear hfin hdd;go_wp2_with fail
        go_roundw
        case rel=>exact ⟨k+1,l.getD k [],_,_,by go_num,hkn,rfl,hid (Hru2.out _ Hx4.out),hid ⟨Hxl.out,He0.out⟩,Hfin,hid (HE.out.trans Hx4.out)⟩
        case measure=>simp [zal];omega
      ·have hd2:=Hdrop.out;rw [if_pos he0] at hd2;have hfe:=HF.out.trans hd2;have het:(zgu p (l.getD k []) != 0)=true:=(by rw [bne_iff_ne];exact he0);have Hfe:=hid hfe;clear hfe;clear Hdrop hd2 H2 Hru2 Hb2 HF;generalize zgu p (l.getD k [])=r at *;generalize (l.getD k []).length=L at *;clear he0;go_wp2_with fail
       refine H1.out.mono ?_;rintro e w3 ⟨rfl,hx3⟩;have Hx3:=hid hx3;clear hx3;clear q0 q1 hcw;go_wp2
       go_ret
       exact ⟨by rw [Hfe.out] <;> rfl,hEw.trans Hx3.out⟩
     ·have hkl:l.length=k:=(by omega);have hnk:¬ (k:Int)<(l.length:Int):=(by omega);have hf:=HF.out;rw [List.drop_eq_nil_of_le (by omega)] at hf;rw [zhe] at hf;have Hf:=hid hf;clear hf;clear hkl;go_wp2
      go_ret
      exact ⟨by rw [Hf.out] <;> rfl,hEw⟩
 ·rw [if_pos h1];have ht:(zcw p != 0)=true:=by rw [bne_iff_ne];exact h1
  obtain ⟨q0,q1⟩:=Hbox.out _ (Ext.refl _);generalize zcw p=r at *;clear h1;go_enter Tryz.func32,Tryz.ntmps32
  go_wp2_with fail
  refine (Hpr.out _ HE0.out).mono ?_;rintro e w1 ⟨rfl,rfl⟩;go_wp2
  go_ret
  exact ⟨rfl,HE0.out⟩
structure zk9 (p:List Int)(rs:List (List Int)):Prop where
 ne:0<rs.length
 iv:∀ r∈rs,Iv p r
 bd:∀ r∈rs,-100≤zas r 0∧zas r 0≤101
 gt:∀ r∈rs,zgz p r<zgy p r
 up:∀ i,i+1<rs.length→zgZ p (rs.getD i []) (rs.getD (i+1) [])<0
 last:rs.getD (rs.length - 1) []=zhN p.length
theorem zkA (n i:Nat):zas (zhd n) i=0:=zhg n i
theorem zkB {p:List Int}(hp:zh9 p):Iv p (zhN p.length)∧zas (zhN p.length) 0=1∧zgz p (zhN p.length)<zgy p (zhN p.length):=by
 obtain ⟨e1,e2⟩:=zhO hp;have hl:(zhd p.length).length=p.length:=List.length_replicate;refine ⟨⟨by unfold zhN;rw [zhC,hl],fun i hi=>?_⟩,?_,by rw [e1,e2];have:=hp.two 0 hp.len.1;omega⟩
 ·unfold zhN;rw [zhG 1 _ hi,zkA];decide
 ·unfold zhN;rw [zhF (by rw [hl];exact hp.len.1),zkA];rfl
theorem zkC {p:List Int}(hp:zh9 p):zk9 p [zhN p.length]:=by
 obtain ⟨h1,h2,h3⟩:=zkB hp;exact ⟨Nat.one_pos,fun r hr=>by rw [List.mem_singleton.1 hr];exact h1,fun r hr=>by rw [List.mem_singleton.1 hr,h2];omega,fun r hr=>by rw [List.mem_singleton.1 hr];exact h3,fun i hi=>by simp at hi,rfl⟩
theorem zk9.ok {p:List Int}{rs:List (List Int)}(h:zk9 p rs)(hp:zh9 p):∀ r∈rs,zgu p r=0:=fun r hr=>(h.iv r hr).ok hp (by have:=h.bd r hr;omega)
theorem zk9.not_all {p x:List Int}{rs:List (List Int)}(h:zk9 p rs)(hx:zgZ p x (zhN p.length)<0)(ha:∀ i,i<rs.length→zgZ p (rs.getD i []) x<0):False:=by
 have h1:=ha (rs.length - 1) (by have:=h.ne;omega);rw [h.last,zhc] at h1;omega
theorem zkD {α:Type}{d x:α}{rs:List α}{k:Nat}(hk:k≤rs.length)(i:Nat):(rs.take k++x::rs.drop k).getD i d=if i<k then rs.getD i d else if i=k then x else rs.getD (i - 1) d:=by
 rw [List.getD_eq_getElem?_getD];by_cases h1:i<k
 ·rw [if_pos h1,List.getElem?_append_left (by rw [List.length_take];omega),List.getElem?_take_of_lt h1,List.getD_eq_getElem?_getD]
 ·rw [if_neg h1,List.getElem?_append_right (by rw [List.length_take];omega),List.length_take,Nat.min_eq_left hk];by_cases h2:i=k
  ·rw [if_pos h2,h2,Nat.sub_self];rfl
  ·rw [if_neg h2,show i - k=(i - k - 1)+1 by omega,List.getElem?_cons_succ,List.getElem?_drop,List.getD_eq_getElem?_getD];congr 2;omega
theorem zk9.put {p x:List Int}{rs:List (List Int)}{k:Nat}(h:zk9 p rs)(hp:zh9 p)(hx:Rdd p x)(h1:zgz p x<zgy p x)(hk:k<rs.length)(hlt:∀ i,i<k→zgZ p (rs.getD i []) x<0)(hge:0≤zgZ p (rs.getD k []) x)(hne:rs.getD k [] ≠ x):zk9 p (rs.take k++x::rs.drop k):=by
 have hm:∀ r∈rs.take k++x::rs.drop k,r=x∨r∈rs:=fun r hr=>by
  rcases List.mem_append.1 hr with q | q
  ·exact .inr (List.mem_of_mem_take q)
  ·rcases List.mem_cons.1 q with q | q
   ·exact .inl q
   ·exact .inr (List.mem_of_mem_drop q)
 have hl:(rs.take k++x::rs.drop k).length=rs.length+1:=by
  rw [List.length_append,List.length_cons,List.length_take,List.length_drop];omega
 have hmk:rs.getD k []∈rs:=by
  rw [List.getD_eq_getElem?_getD,List.getElem?_eq_getElem hk];exact List.getElem_mem _
 refine ⟨by rw [hl];omega,fun r hr=>?_,fun r hr=>?_,fun r hr=>?_,fun i hi=>?_,?_⟩
 ·rcases hm r hr with rfl | q
  ·exact hx.iv
  ·exact h.iv r q
 ·rcases hm r hr with rfl | q
  ·exact hx.bd hp
  ·exact h.bd r q
 ·rcases hm r hr with rfl | q
  ·exact h1
  ·exact h.gt r q
 ·rw [hl] at hi;rw [zkD (by omega),zkD (by omega)];by_cases g1:i+1<k
  ·rw [if_pos (by omega),if_pos g1];exact h.up i (by omega)
  ·by_cases g2:i+1=k
   ·rw [if_pos (by omega),if_neg (by omega),if_pos g2];exact hlt i (by omega)
   ·by_cases g3:i=k
    ·rw [if_neg (by omega),if_pos g3,if_neg (by omega),if_neg (by omega),show i+1 - 1=k by omega,zhc];have:zgZ p (rs.getD k []) x ≠ 0:=fun q=>hne (zhB hp (h.iv _ hmk).len hx.iv.len q);omega
    ·rw [if_neg (by omega),if_neg g3,if_neg (by omega),if_neg (by omega)];have:=h.up (i - 1) (by omega);rwa [show i - 1+1=i by omega] at this
 ·rw [hl,zkD (by omega),if_neg (by omega),if_neg (by omega),← h.last];rfl
theorem zk9.from {p:List Int}{rs:List (List Int)}(h:zk9 p rs)(hp:zh9 p):∀ n i b,i+n=rs.length→(i=0→b=zhd p.length)→(0<i→b=rs.getD (i - 1) [])→zhe p b (rs.drop i)=0
 | 0,i,b,hi,_,_=>by rw [List.drop_eq_nil_of_le (by omega)];rfl
 | n+1,i,b,hi,h0,h1=>by
  have hlt:i<rs.length:=by omega
  have hm:rs.getD i []∈rs:=by
   rw [List.getD_eq_getElem?_getD,List.getElem?_eq_getElem hlt];exact List.getElem_mem _
  have hok:=h.ok hp _ hm;rw [zk6 hlt,if_neg (by simpa using hok)];have hn:¬ 0≤zgZ p b (rs.getD i []):=by
   by_cases e:i=0
   ·rw [h0 e,zhi hok,zk3 hok];have:=h.gt _ hm;have:=(zhb ((zgy p (rs.getD i []):Nat):Int) ((zgz p (rs.getD i []):Nat):Int));omega
   ·rw [h1 (by omega)];have:=h.up (i - 1) (by omega);rw [show i - 1+1=i by omega] at this;omega
  rw [if_neg hn];exact h.from hp n (i+1) _ (by omega) (fun q=>by omega) (fun _=>by rw [Nat.add_sub_cancel])
theorem zk9.ep {p:List Int}{rs:List (List Int)}(h:zk9 p rs)(hp:zh9 p)(hl:rs.length≤60):zhf p rs=0:=by
 unfold zhf;have:=h.ne;rw [if_neg (by simpa using hp.pe),if_neg (by omega),if_neg (by omega)];have:=h.from hp rs.length 0 (zhd p.length) (by omega) (fun _=>rfl) (fun q=>by omega);rwa [List.drop_zero] at this
end
section
section
variable {α : Type} (key : α → Rat)
def SAt (ps:List α)(i k:Nat):Prop:=∀ a b x y,a<b→b≤i→b ≠ k→ps[a]?=some x→ps[b]?=some y→key x≤key y
def STo (ps:List α)(i:Nat):Prop:=∀ a b x y,a<b→b<i→ps[a]?=some x→ps[b]?=some y→key x≤key y
variable {key}
theorem zkE (ps:List α):STo key ps 1:=fun a b x y h1 h2=>by omega
theorem zkF {ps:List α}{i:Nat}(h:STo key ps i):SAt key ps i i:=fun a b x y h1 h2 h3=>h a b x y h1 (by omega)
theorem zkG {ps:List α}{i:Nat}(h:SAt key ps i 0):STo key ps (i+1):=fun a b x y h1 h2=>h a b x y h1 (by omega) (by omega)
theorem zkH {ps:List α}{i k:Nat}{x y:α}(h:SAt key ps i (k+1))(hx:ps[k+1]?=some x)(hy:ps[k]?=some y)(hle:key y≤key x):STo key ps (i+1):=by
 intro a b u v h1 h2 ha hb;by_cases hbk:b=k+1
 ·subst hbk;rw [hx] at hb;cases hb;by_cases hak:a=k
  ·subst hak;rw [hy] at ha;cases ha;exact hle
  ·exact Rat.le_trans (h a k u y (by omega) (by omega) (by omega) ha hy) hle
 ·exact h a b u v h1 (by omega) hbk ha hb
theorem zkI {l:List α}{k:Nat}{x y:α}(hx:l[k+1]?=some x)(j:Nat):((l.set (k+1) y).set k x)[j]?=if j=k then some x else if j=k+1 then some y else l[j]?:=by
 have hl:k+1<l.length:=(List.getElem?_eq_some_iff.1 hx).1;rw [List.getElem?_set,List.getElem?_set,List.length_set];by_cases h1:k=j
 ·rw [if_pos h1,if_pos h1.symm,if_pos (by omega)]
 ·rw [if_neg h1,if_neg (c:=j=k) (fun h=>h1 h.symm)];by_cases h2:k+1=j
  ·rw [if_pos h2,if_pos h2.symm,if_pos (by omega)]
  ·rw [if_neg h2,if_neg (c:=j=k+1) (fun h=>h2 h.symm)]
theorem zkJ {ps:List α}{i k:Nat}{x y:α}(h:SAt key ps i (k+1))(hx:ps[k+1]?=some x)(hy:ps[k]?=some y)(hlt:key x≤key y):SAt key ((ps.set (k+1) y).set k x) i k:=by
 intro a b u v h1 h2 h3 ha hb;rw [zkI hx] at ha hb;rw [if_neg h3] at hb;by_cases hb1:b=k+1
 ·rw [if_pos hb1] at hb
  cases hb
  by_cases ha1:a=k
  ·rw [if_pos ha1] at ha
   cases ha
   exact hlt
  ·rw [if_neg ha1,if_neg (by omega)] at ha;exact h a k u y (by omega) (by omega) (by omega) ha hy
 ·rw [if_neg hb1] at hb;by_cases ha1:a=k
  ·rw [if_pos ha1] at ha
   cases ha
   exact h (k+1) b x v (by omega) h2 hb1 hx hb
  ·rw [if_neg ha1] at ha;by_cases ha2:a=k+1
   ·rw [if_pos ha2] at ha
    cases ha
    exact h k b y v (by omega) h2 hb1 hy hb
   ·rw [if_neg ha2] at ha;exact h a b u v h1 h2 hb1 ha hb
theorem zkK : ∀ {l:List α}{k:Nat}{x y:α},l[k+1]?=some x→l[k]?=some y→((l.set (k+1) y).set k x).Perm l
 | [],_,_,_,h,_=>by simp at h
 | [_],0,_,_,h,_=>by simp at h
 | b::a::t,0,x,y,h1,h2=>by
  simp at h1 h2;subst h1 h2;exact List.Perm.swap ..
 | c::t,k+1,x,y,h1,h2=>by
  simp only [List.getElem?_cons_succ] at h1 h2;simp only [List.set_cons_succ];exact (zkK h1 h2).cons c
theorem zkL {ps:List α}(h:STo key ps ps.length):ps.Pairwise fun x y=>key x≤key y:=by
 rw [List.pairwise_iff_getElem];intro i j hi hj hij;exact h i j _ _ hij hj (List.getElem?_eq_getElem hi) (List.getElem?_eq_getElem hj)
end
end
section
open Go.RowKit Go.Lib
structure InR {α:Type}(T:TypeId)(W0:World)(B blk cap:Nat)(enc:α→Value)(d0:List α)(wr:World)(dk:List α):Prop where
 perm:dk.Perm d0
 own:wr.ownsRow B T 1 (.slice (some ⟨blk,0,none⟩) d0.length cap) d0.length (dk.map enc)
 only:W0.grownBy wr (some blk)
section
variable {α : Type} {T : TypeId} {W0 wr : World} {B blk cap : Nat} {enc : α → Value} {d0 dk : List α}
theorem InR.ext {w':World}(h:InR T W0 B blk cap enc d0 wr dk)(hx:Ext wr w'):InR T W0 B blk cap enc d0 w' dk:=⟨h.perm,hx.own h.own,zcC h.only hx⟩
theorem InR.len (h:InR T W0 B blk cap enc d0 wr dk):dk.length=d0.length:=h.perm.length_eq
theorem InR.cell (h:InR T W0 B blk cap enc d0 wr dk){k:Nat}{x:α}(hx:dk[k]?=some x):wr.cell? ⟨blk,k,none⟩=some (enc x):=by
 have hk:=(List.getElem?_eq_some_iff.1 hx).1;have:=h.len;rw [World.ownsRow.cellAt h.own k (by omega),List.getElem?_map,hx];rfl
theorem InR.frozen (h:InR T W0 B blk cap enc d0 wr dk)(k:Nat):wr.frozen? ⟨blk,k,none⟩=false:=by
 rcases h.own.2 with ⟨e,_⟩ | ⟨g,cap',cur,e,hb,hg,_⟩
 ·cases e
 ·injection e with e1 _ _;injection e1 with e1;injection e1 with e1;subst e1;exact frozen_of_row _ _ _ _ _ hg
theorem InR.swap (h:InR T W0 B blk cap enc d0 wr dk){k:Nat}{x y:α}(hx:dk[k+1]?=some x)(hy:dk[k]?=some y) :
  InR T W0 B blk cap enc d0 ((wr.setCell ⟨blk,k+1,none⟩ (enc y)).setCell ⟨blk,k,none⟩ (enc x)) ((dk.set (k+1) y).set k x):=by
 have h1:=World.ownsRow.stored h.own (k+1) (enc y);have h2:=World.ownsRow.stored h1.1 k (enc x);refine ⟨(zkK hx hy).trans h.perm,?_,zcB (zcB h.only rfl _) rfl _⟩;rw [List.map_set,List.map_set];exact h2.1
theorem InR.mem (h:InR T W0 B blk cap enc d0 wr dk){k:Nat}{x:α}(hx:dk[k]?=some x):x∈d0:=h.perm.mem_iff.1 (List.mem_of_getElem? hx)
end
end
end Go.Proofs.YtipkdebkdnbieaaGreatDoor
