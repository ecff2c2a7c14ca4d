/- Walks: schismaref03's AddW and SignW at one digit. Walk: schismaref03's MulW at one digit. -/
import Derived.Test.YtipjmpdndokdlaaGreatDoorPc12
import Derived.Deep.RegionHeld3
set_option maxRecDepth 100000
set_option maxHeartbeats 800000
namespace Go.Proofs.YtipjmpdndokdlaaGreatDoor
open Go.RowKit Go.Lib Go.Shelf
attribute [local go_sem] Oper.semAt_some
theorem dg_abs (x:Int):dg x=dg ((x.natAbs:Nat):Int):=by
 unfold dg
 by_cases h:x=0
 ·subst h;rfl
 ·rw [if_neg h,if_neg (by omega),Int.natAbs_natCast]
theorem rtrimD_c (u:Value)(b:Bool)(c:Prop)[Decidable c](k:Nat)(w:World)(hu:Sl w u (i64s (optD c k)))(hc:c→k=0) :
  Calls Tryz.prog 174 #[.agg #[.bool b,u]] w fun e w'=>∃ v,e=.returned v∧W1 w' v (sgn1 b k)∧Ext w w':=by
 by_cases h:c
 ·rw [optD_pos h] at hu
  rw [hc h]
  have:sgn1 b 0=0:=by cases b <;> rfl
  rw [this]
  exact rtrim0_c u b w hu
 ·rw [optD_neg h] at hu
  exact rtrim1_c u b k 0 w hu (by omega)
theorem sl_let {w:World}{v:Value}{xs:List Int}(h:Sl w v (i64s xs)):∃ a l c,v=.slice a l c∧Sl w (.slice a l c) (i64s xs):=by
 obtain ⟨a,c,rfl,_,_,_⟩:=h.parts
 exact ⟨a,_,c,rfl,h⟩
theorem w1_let {w:World}{v:Value}{z:Int}(h:W1 w v z):∃ b a l c,v=.agg #[.bool b,.slice a l c]∧W1 w (.agg #[.bool b,.slice a l c]) z:=by
 obtain ⟨u,rfl,hs⟩:=h
 obtain ⟨a,l,c,rfl,hs⟩:=sl_let hs
 exact ⟨_,a,l,c,rfl,_,rfl,hs⟩
theorem w1_past {w:World}{v:Value}{z:Int}(h:W1 w v z){T:TypeId}{c:Nat}{p q:Value}(hb:BoxT T w c p q)(hu:∀ z,p ≠ .int .i64 z)(hv:∀ z,q ≠ .int .i64 z)(x y:Value):W1 ((w.setCell ⟨c,0,none⟩ x).setCell ⟨c,1,none⟩ y) v z:=by
 obtain ⟨u,e,hs⟩:=h
 exact ⟨u,e,sl_past hs hb hu hv x y⟩
theorem addW_c (va vb:Value)(x y:Int)(w:World)(ha:W1 w va x)(hb:W1 w vb y)(hxy:x.natAbs+y.natAbs<1000000000) :
  Calls Tryz.prog 207 #[va,vb] w fun e w'=>∃ v,e=.returned v∧W1 w' v (x+y)∧Ext w w':=by
 obtain ⟨ua,rfl,hsa⟩:=ha
 obtain ⟨ub,rfl,hsb⟩:=hb
 rw [dg_abs] at hsa hsb
 have hpl:=fun W (hE:Ext w W)=>plus_c ua ub x.natAbs y.natAbs W (hE.sl hsa) (hE.sl hsb) hxy
 have hab:=fun W (hE:Ext w W)=>above_c ua ub x.natAbs y.natAbs W (hE.sl hsa) (hE.sl hsb) (by omega) (by omega)
 have hm1:=fun W (hE:Ext w W)(h:y.natAbs≤x.natAbs)=>minus_c ua ub x.natAbs y.natAbs W (hE.sl hsa) (hE.sl hsb) h (by omega)
 have hm2:=fun W (hE:Ext w W)(h:x.natAbs≤y.natAbs)=>minus_c ub ua y.natAbs x.natAbs W (hE.sl hsb) (hE.sl hsa) h (by omega)
 obtain ⟨aa,ca,rfl,_,_,_⟩:=hsa.parts
 obtain ⟨ab,cb,rfl,_,_,_⟩:=hsb.parts
 generalize (i64s (dg ((x.natAbs:Nat):Int))).length=la at *
 generalize (i64s (dg ((y.natAbs:Nat):Int))).length=lb at *
 have hbx:decide (x<0)=true ↔ x<0:=decide_eq_true_iff
 have hby:decide (y<0)=true ↔ y<0:=decide_eq_true_iff
 generalize hbx0:decide (x<0)=bx at *
 generalize hby0:decide (y<0)=by1 at *
 have Hpl:=hid hpl;have Hab:=hid hab;have Hm1:=hid hm1;have Hm2:=hid hm2
 clear hpl hab hm1 hm2 hbx0 hby0
 have hk2:=k2_new 179 179 179 w (.bool bx) (.slice aa la ca) (.bool by1) (.slice ab lb cb) (.bool false) (.slice none 0 0)
 have Hsa:=hid hsa;have Hsb:=hid hsb
 clear hsa hsb
 generalize hV:((w.alloc (.cells #[.bool bx,.slice aa la ca] 179)).alloc (.cells #[.bool by1,.slice ab lb cb] 179)).alloc (.cells #[.bool false,.slice none 0 0] 179)=V at *
 obtain ⟨hk,hr⟩:=hk2
 have Hk:=hid hk;have Hr:=hid hr
 have p0:=hk.a.c0;have p1:=hk.a.c1;have q0:=hk.b.c0;have q1:=hk.b.c1
 clear hk hr
 by_cases hs:bx=by1
 ·have hsum:sgn1 bx (x.natAbs+y.natAbs)=x+y:=by
   unfold sgn1
   subst hs
   cases bx
   ·have h1:¬ x<0:=fun h=>by have:=hbx.2 h;cases this
    have h2:¬ y<0:=fun h=>by have:=hby.2 h;cases this
    simp;omega
   ·have h1:=hbx.1 rfl
    have h2:=hby.1 rfl
    simp;omega
  have Hsum:=hid hsum
  have HcA:Hid ((x.natAbs=0∧y.natAbs=0)→x.natAbs+y.natAbs=0):=hid (fun h=>by omega)
  clear hsum hbx hby hxy
  subst hs
  cases bx
  ·go_enter Tryz.func207,Tryz.ntmps207
   go_wp2_with fail
   have HkV:=Hk
   go_region_held3 (fun w'=>K2 179 179 179 w w' w.heap.size (.bool false) (.slice aa la ca) (w.heap.size+1) (.bool false) (.slice ab lb cb) (w.heap.size+1+1)∧w'.cell? ⟨w.heap.size,0,none⟩=some (.bool false)∧w'.cell? ⟨w.heap.size,1,none⟩=some (.slice aa la ca)∧w'.cell? ⟨w.heap.size+1,0,none⟩=some (.bool false)∧w'.cell? ⟨w.heap.size+1,1,none⟩=some (.slice ab lb cb)∧w'.cell? ⟨w.heap.size+1+1,0,none⟩=some (valAt w' (w.heap.size+1+1) 0)∧w'.cell? ⟨w.heap.size+1+1,1,none⟩=some (valAt w' (w.heap.size+1+1) 1)∧w'.frozen? ⟨w.heap.size+1+1,0,none⟩=false∧w'.frozen? ⟨w.heap.size+1+1,1,none⟩=false)
    (first | exact HkB.out.all | exact HkA.out.all | exact (K2.ext HkV.out ((Ext.refl V).drew)).all | exact (K2.put HkB.out (by omega) (by omega) (by omega) _ _).all)
    (first
     | (go_at_call 174;refine (rtrimD_c _ false _ _ VA HuA.out HcA.out).mono ?_;rintro e9 VB ⟨v9,rfl,hw9,hxb⟩;obtain ⟨b9,a9,l9,c9,rfl,hw9⟩:=w1_let hw9;have HkB:=hid (K2.ext HkA.out hxb);have HrB:=hid ((HrA.out).ext hxb);have Hw9:=hid hw9;clear hxb hw9)
     | (go_at_call 239;refine (Hpl.out _ ((Hk.out.x).drew)).mono ?_;rintro e9 VA ⟨u8,rfl,hu8,hxa⟩;obtain ⟨a8,l8,c8,rfl,hu8⟩:=sl_let hu8;have HkA:=hid (K2.ext HkV.out (((Ext.refl V).drew).trans hxa));have HrA:=hid ((Hr.out).ext (((Ext.refl V).drew).trans hxa));have HuA:=hid hu8;clear hxa hu8))
   all_goals
    obtain ⟨hb,hfx⟩:=HkB.out.fin (by omega) (.bool b9) (.slice a9 l9 c9)
    have hs5:=w1_past Hw9.out HrB.out (by simp) (by simp) (.bool b9) (.slice a9 l9 c9)
    have Hfx:=hid hfx;have Hs5:=hid hs5
    clear hfx hs5
    generalize (VB.setCell ⟨w.heap.size+1+1,0,none⟩ (.bool b9)).setCell ⟨w.heap.size+1+1,1,none⟩ (.slice a9 l9 c9)=W5 at *
    have hd0:=hb.c0
    have hd1:=hb.c1
    go_wp2_with fail
    exact bodyPost_ret (v:=.agg #[.bool b9,.slice a9 l9 c9]) (by simp [results,Tryz.results207,go_sem,hd0,hd1]) rfl ⟨_,rfl,by rw [← Hsum.out];exact Hs5.out,Hfx.out⟩
  ·go_enter Tryz.func207,Tryz.ntmps207
   go_wp2_with fail
   have HkV:=Hk
   go_region_held3 (fun w'=>K2 179 179 179 w w' w.heap.size (.bool true) (.slice aa la ca) (w.heap.size+1) (.bool true) (.slice ab lb cb) (w.heap.size+1+1)∧w'.cell? ⟨w.heap.size,0,none⟩=some (.bool true)∧w'.cell? ⟨w.heap.size,1,none⟩=some (.slice aa la ca)∧w'.cell? ⟨w.heap.size+1,0,none⟩=some (.bool true)∧w'.cell? ⟨w.heap.size+1,1,none⟩=some (.slice ab lb cb)∧w'.cell? ⟨w.heap.size+1+1,0,none⟩=some (valAt w' (w.heap.size+1+1) 0)∧w'.cell? ⟨w.heap.size+1+1,1,none⟩=some (valAt w' (w.heap.size+1+1) 1)∧w'.frozen? ⟨w.heap.size+1+1,0,none⟩=false∧w'.frozen? ⟨w.heap.size+1+1,1,none⟩=false)
    (first | exact HkB.out.all | exact HkA.out.all | exact (K2.ext HkV.out ((Ext.refl V).drew)).all | exact (K2.put HkB.out (by omega) (by omega) (by omega) _ _).all)
    (first
     | (go_at_call 174;refine (rtrimD_c _ true _ _ VA HuA.out HcA.out).mono ?_;rintro e9 VB ⟨v9,rfl,hw9,hxb⟩;obtain ⟨b9,a9,l9,c9,rfl,hw9⟩:=w1_let hw9;have HkB:=hid (K2.ext HkA.out hxb);have HrB:=hid ((HrA.out).ext hxb);have Hw9:=hid hw9;clear hxb hw9)
     | (go_at_call 239;refine (Hpl.out _ ((Hk.out.x).drew)).mono ?_;rintro e9 VA ⟨u8,rfl,hu8,hxa⟩;obtain ⟨a8,l8,c8,rfl,hu8⟩:=sl_let hu8;have HkA:=hid (K2.ext HkV.out (((Ext.refl V).drew).trans hxa));have HrA:=hid ((Hr.out).ext (((Ext.refl V).drew).trans hxa));have HuA:=hid hu8;clear hxa hu8))
   all_goals
    obtain ⟨hb,hfx⟩:=HkB.out.fin (by omega) (.bool b9) (.slice a9 l9 c9)
    have hs5:=w1_past Hw9.out HrB.out (by simp) (by simp) (.bool b9) (.slice a9 l9 c9)
    have Hfx:=hid hfx;have Hs5:=hid hs5
    clear hfx hs5
    generalize (VB.setCell ⟨w.heap.size+1+1,0,none⟩ (.bool b9)).setCell ⟨w.heap.size+1+1,1,none⟩ (.slice a9 l9 c9)=W5 at *
    have hd0:=hb.c0
    have hd1:=hb.c1
    go_wp2_with fail
    exact bodyPost_ret (v:=.agg #[.bool b9,.slice a9 l9 c9]) (by simp [results,Tryz.results207,go_sem,hd0,hd1]) rfl ⟨_,rfl,by rw [← Hsum.out];exact Hs5.out,Hfx.out⟩
 ·have hcs:(bx=false∧by1=true)∨(bx=true∧by1=false):=by cases bx <;> cases by1 <;> simp_all
  rcases hcs with ⟨rfl,rfl⟩ | ⟨rfl,rfl⟩
  ·have hsx:0≤x∧y<0:=by
    have:=(show ¬ x<0 from fun h=>by have:=hbx.2 h;cases this)
    have h2:=hby.1 rfl
    omega
   clear hbx hby hs
   go_enter Tryz.func207,Tryz.ntmps207
   go_wp2_with fail
   refine (Hab.out V Hk.out.x).mono ?_
   rintro e V1 ⟨z,rfl,hz,hx1⟩
   have hk1:=Hk.out.ext hx1
   have hr1:=Hr.out.ext hx1
   have p0:=hk1.a.c0;have p1:=hk1.a.c1;have q0:=hk1.b.c0;have q1:=hk1.b.c1
   have Hk:=hid hk1;have Hr:=hid hr1
   clear hk1 hr1 hx1
   obtain ⟨V,hVV⟩:∃ V,V=V1:=⟨_,rfl⟩
   subst hVV
   by_cases hge:y.natAbs≤x.natAbs
   ·have hz0:0≤z:=hz.2 hge
    have Hsum:Hid (sgn1 false (x.natAbs - y.natAbs)=x+y):=hid (by unfold sgn1;simp;omega)
    have HcA:Hid (x.natAbs=0→x.natAbs - y.natAbs=0):=hid (fun h=>by omega)
    clear hz hsx
    go_wp2_with fail
    have HkV:=Hk
    go_region_held3 (fun w'=>K2 179 179 179 w w' w.heap.size (.bool false) (.slice aa la ca) (w.heap.size+1) (.bool true) (.slice ab lb cb) (w.heap.size+1+1)∧w'.cell? ⟨w.heap.size,0,none⟩=some (.bool false)∧w'.cell? ⟨w.heap.size,1,none⟩=some (.slice aa la ca)∧w'.cell? ⟨w.heap.size+1,0,none⟩=some (.bool true)∧w'.cell? ⟨w.heap.size+1,1,none⟩=some (.slice ab lb cb)∧w'.cell? ⟨w.heap.size+1+1,0,none⟩=some (valAt w' (w.heap.size+1+1) 0)∧w'.cell? ⟨w.heap.size+1+1,1,none⟩=some (valAt w' (w.heap.size+1+1) 1)∧w'.frozen? ⟨w.heap.size+1+1,0,none⟩=false∧w'.frozen? ⟨w.heap.size+1+1,1,none⟩=false)
     (first | exact HkB.out.all | exact HkA.out.all | exact (K2.ext HkV.out ((Ext.refl V).drew)).all | exact (K2.put HkB.out (by omega) (by omega) (by omega) _ _).all)
     (first
      | (go_at_call 174;refine (rtrimD_c _ false _ _ VA HuA.out HcA.out).mono ?_;rintro e9 VB ⟨v9,rfl,hw9,hxb⟩;obtain ⟨b9,a9,l9,c9,rfl,hw9⟩:=w1_let hw9;have HkB:=hid (K2.ext HkA.out hxb);have HrB:=hid ((HrA.out).ext hxb);have Hw9:=hid hw9;clear hxb hw9)
      | (go_at_call 215;refine (Hm1.out _ ((Hk.out.x).drew) hge).mono ?_;rintro e9 VA ⟨u8,rfl,hu8,hxa⟩;obtain ⟨a8,l8,c8,rfl,hu8⟩:=sl_let hu8;have HkA:=hid (K2.ext HkV.out (((Ext.refl V).drew).trans hxa));have HrA:=hid ((Hr.out).ext (((Ext.refl V).drew).trans hxa));have HuA:=hid hu8;clear hxa hu8))
    all_goals
     obtain ⟨hb,hfx⟩:=HkB.out.fin (by omega) (.bool b9) (.slice a9 l9 c9)
     have hs5:=w1_past Hw9.out HrB.out (by simp) (by simp) (.bool b9) (.slice a9 l9 c9)
     have Hfx:=hid hfx;have Hs5:=hid hs5
     clear hfx hs5
     generalize (VB.setCell ⟨w.heap.size+1+1,0,none⟩ (.bool b9)).setCell ⟨w.heap.size+1+1,1,none⟩ (.slice a9 l9 c9)=W5 at *
     have hd0:=hb.c0
     have hd1:=hb.c1
     go_wp2_with fail
     exact bodyPost_ret (v:=.agg #[.bool b9,.slice a9 l9 c9]) (by simp [results,Tryz.results207,go_sem,hd0,hd1]) rfl ⟨_,rfl,by rw [← Hsum.out];exact Hs5.out,Hfx.out⟩
   ·have hz0:¬ 0≤z:=fun h=>hge (hz.1 h)
    have hle:x.natAbs≤y.natAbs:=by omega
    have Hsum:Hid (sgn1 true (y.natAbs - x.natAbs)=x+y):=hid (by unfold sgn1;simp;omega)
    have HcA:Hid (y.natAbs=0→y.natAbs - x.natAbs=0):=hid (fun h=>by omega)
    clear hz hsx
    go_wp2_with fail
    have HkV:=Hk
    go_region_held3 (fun w'=>K2 179 179 179 w w' w.heap.size (.bool false) (.slice aa la ca) (w.heap.size+1) (.bool true) (.slice ab lb cb) (w.heap.size+1+1)∧w'.cell? ⟨w.heap.size,0,none⟩=some (.bool false)∧w'.cell? ⟨w.heap.size,1,none⟩=some (.slice aa la ca)∧w'.cell? ⟨w.heap.size+1,0,none⟩=some (.bool true)∧w'.cell? ⟨w.heap.size+1,1,none⟩=some (.slice ab lb cb)∧w'.cell? ⟨w.heap.size+1+1,0,none⟩=some (valAt w' (w.heap.size+1+1) 0)∧w'.cell? ⟨w.heap.size+1+1,1,none⟩=some (valAt w' (w.heap.size+1+1) 1)∧w'.frozen? ⟨w.heap.size+1+1,0,none⟩=false∧w'.frozen? ⟨w.heap.size+1+1,1,none⟩=false)
     (first | exact HkB.out.all | exact HkA.out.all | exact (K2.ext HkV.out ((Ext.refl V).drew)).all | exact (K2.put HkB.out (by omega) (by omega) (by omega) _ _).all)
     (first
      | (go_at_call 174;refine (rtrimD_c _ true _ _ VA HuA.out HcA.out).mono ?_;rintro e9 VB ⟨v9,rfl,hw9,hxb⟩;obtain ⟨b9,a9,l9,c9,rfl,hw9⟩:=w1_let hw9;have HkB:=hid (K2.ext HkA.out hxb);have HrB:=hid ((HrA.out).ext hxb);have Hw9:=hid hw9;clear hxb hw9)
      | (go_at_call 215;refine (Hm2.out _ ((Hk.out.x).drew) hle).mono ?_;rintro e9 VA ⟨u8,rfl,hu8,hxa⟩;obtain ⟨a8,l8,c8,rfl,hu8⟩:=sl_let hu8;have HkA:=hid (K2.ext HkV.out (((Ext.refl V).drew).trans hxa));have HrA:=hid ((Hr.out).ext (((Ext.refl V).drew).trans hxa));have HuA:=hid hu8;clear hxa hu8))
    all_goals
     obtain ⟨hb,hfx⟩:=HkB.out.fin (by omega) (.bool b9) (.slice a9 l9 c9)
     have hs5:=w1_past Hw9.out HrB.out (by simp) (by simp) (.bool b9) (.slice a9 l9 c9)
     have Hfx:=hid hfx;have Hs5:=hid hs5
     clear hfx hs5
     generalize (VB.setCell ⟨w.heap.size+1+1,0,none⟩ (.bool b9)).setCell ⟨w.heap.size+1+1,1,none⟩ (.slice a9 l9 c9)=W5 at *
     have hd0:=hb.c0
     have hd1:=hb.c1
     go_wp2_with fail
     exact bodyPost_ret (v:=.agg #[.bool b9,.slice a9 l9 c9]) (by simp [results,Tryz.results207,go_sem,hd0,hd1]) rfl ⟨_,rfl,by rw [← Hsum.out];exact Hs5.out,Hfx.out⟩
  ·have hsx:x<0∧0≤y:=by
    have:=(show ¬ y<0 from fun h=>by have:=hby.2 h;cases this)
    have h2:=hbx.1 rfl
    omega
   clear hbx hby hs
   go_enter Tryz.func207,Tryz.ntmps207
   go_wp2_with fail
   refine (Hab.out V Hk.out.x).mono ?_
   rintro e V1 ⟨z,rfl,hz,hx1⟩
   have hk1:=Hk.out.ext hx1
   have hr1:=Hr.out.ext hx1
   have p0:=hk1.a.c0;have p1:=hk1.a.c1;have q0:=hk1.b.c0;have q1:=hk1.b.c1
   have Hk:=hid hk1;have Hr:=hid hr1
   clear hk1 hr1 hx1
   obtain ⟨V,hVV⟩:∃ V,V=V1:=⟨_,rfl⟩
   subst hVV
   by_cases hge:y.natAbs≤x.natAbs
   ·have hz0:0≤z:=hz.2 hge
    have Hsum:Hid (sgn1 true (x.natAbs - y.natAbs)=x+y):=hid (by unfold sgn1;simp;omega)
    have HcA:Hid (x.natAbs=0→x.natAbs - y.natAbs=0):=hid (fun h=>by omega)
    clear hz hsx
    go_wp2_with fail
    have HkV:=Hk
    go_region_held3 (fun w'=>K2 179 179 179 w w' w.heap.size (.bool true) (.slice aa la ca) (w.heap.size+1) (.bool false) (.slice ab lb cb) (w.heap.size+1+1)∧w'.cell? ⟨w.heap.size,0,none⟩=some (.bool true)∧w'.cell? ⟨w.heap.size,1,none⟩=some (.slice aa la ca)∧w'.cell? ⟨w.heap.size+1,0,none⟩=some (.bool false)∧w'.cell? ⟨w.heap.size+1,1,none⟩=some (.slice ab lb cb)∧w'.cell? ⟨w.heap.size+1+1,0,none⟩=some (valAt w' (w.heap.size+1+1) 0)∧w'.cell? ⟨w.heap.size+1+1,1,none⟩=some (valAt w' (w.heap.size+1+1) 1)∧w'.frozen? ⟨w.heap.size+1+1,0,none⟩=false∧w'.frozen? ⟨w.heap.size+1+1,1,none⟩=false)
     (first | exact HkB.out.all | exact HkA.out.all | exact (K2.ext HkV.out ((Ext.refl V).drew)).all | exact (K2.put HkB.out (by omega) (by omega) (by omega) _ _).all)
     (first
      | (go_at_call 174;refine (rtrimD_c _ true _ _ VA HuA.out HcA.out).mono ?_;rintro e9 VB ⟨v9,rfl,hw9,hxb⟩;obtain ⟨b9,a9,l9,c9,rfl,hw9⟩:=w1_let hw9;have HkB:=hid (K2.ext HkA.out hxb);have HrB:=hid ((HrA.out).ext hxb);have Hw9:=hid hw9;clear hxb hw9)
      | (go_at_call 215;refine (Hm1.out _ ((Hk.out.x).drew) hge).mono ?_;rintro e9 VA ⟨u8,rfl,hu8,hxa⟩;obtain ⟨a8,l8,c8,rfl,hu8⟩:=sl_let hu8;have HkA:=hid (K2.ext HkV.out (((Ext.refl V).drew).trans hxa));have HrA:=hid ((Hr.out).ext (((Ext.refl V).drew).trans hxa));have HuA:=hid hu8;clear hxa hu8))
    all_goals
     obtain ⟨hb,hfx⟩:=HkB.out.fin (by omega) (.bool b9) (.slice a9 l9 c9)
     have hs5:=w1_past Hw9.out HrB.out (by simp) (by simp) (.bool b9) (.slice a9 l9 c9)
     have Hfx:=hid hfx;have Hs5:=hid hs5
     clear hfx hs5
     generalize (VB.setCell ⟨w.heap.size+1+1,0,none⟩ (.bool b9)).setCell ⟨w.heap.size+1+1,1,none⟩ (.slice a9 l9 c9)=W5 at *
     have hd0:=hb.c0
     have hd1:=hb.c1
     go_wp2_with fail
     exact bodyPost_ret (v:=.agg #[.bool b9,.slice a9 l9 c9]) (by simp [results,Tryz.results207,go_sem,hd0,hd1]) rfl ⟨_,rfl,by rw [← Hsum.out];exact Hs5.out,Hfx.out⟩
   ·have hz0:¬ 0≤z:=fun h=>hge (hz.1 h)
    have hle:x.natAbs≤y.natAbs:=by omega
    have Hsum:Hid (sgn1 false (y.natAbs - x.natAbs)=x+y):=hid (by unfold sgn1;simp;omega)
    have HcA:Hid (y.natAbs=0→y.natAbs - x.natAbs=0):=hid (fun h=>by omega)
    clear hz hsx
    go_wp2_with fail
    have HkV:=Hk
    go_region_held3 (fun w'=>K2 179 179 179 w w' w.heap.size (.bool true) (.slice aa la ca) (w.heap.size+1) (.bool false) (.slice ab lb cb) (w.heap.size+1+1)∧w'.cell? ⟨w.heap.size,0,none⟩=some (.bool true)∧w'.cell? ⟨w.heap.size,1,none⟩=some (.slice aa la ca)∧w'.cell? ⟨w.heap.size+1,0,none⟩=some (.bool false)∧w'.cell? ⟨w.heap.size+1,1,none⟩=some (.slice ab lb cb)∧w'.cell? ⟨w.heap.size+1+1,0,none⟩=some (valAt w' (w.heap.size+1+1) 0)∧w'.cell? ⟨w.heap.size+1+1,1,none⟩=some (valAt w' (w.heap.size+1+1) 1)∧w'.frozen? ⟨w.heap.size+1+1,0,none⟩=false∧w'.frozen? ⟨w.heap.size+1+1,1,none⟩=false)
     (first | exact HkB.out.all | exact HkA.out.all | exact (K2.ext HkV.out ((Ext.refl V).drew)).all | exact (K2.put HkB.out (by omega) (by omega) (by omega) _ _).all)
     (first
      | (go_at_call 174;refine (rtrimD_c _ false _ _ VA HuA.out HcA.out).mono ?_;rintro e9 VB ⟨v9,rfl,hw9,hxb⟩;obtain ⟨b9,a9,l9,c9,rfl,hw9⟩:=w1_let hw9;have HkB:=hid (K2.ext HkA.out hxb);have HrB:=hid ((HrA.out).ext hxb);have Hw9:=hid hw9;clear hxb hw9)
      | (go_at_call 215;refine (Hm2.out _ ((Hk.out.x).drew) hle).mono ?_;rintro e9 VA ⟨u8,rfl,hu8,hxa⟩;obtain ⟨a8,l8,c8,rfl,hu8⟩:=sl_let hu8;have HkA:=hid (K2.ext HkV.out (((Ext.refl V).drew).trans hxa));have HrA:=hid ((Hr.out).ext (((Ext.refl V).drew).trans hxa));have HuA:=hid hu8;clear hxa hu8))
    all_goals
     obtain ⟨hb,hfx⟩:=HkB.out.fin (by omega) (.bool b9) (.slice a9 l9 c9)
     have hs5:=w1_past Hw9.out HrB.out (by simp) (by simp) (.bool b9) (.slice a9 l9 c9)
     have Hfx:=hid hfx;have Hs5:=hid hs5
     clear hfx hs5
     generalize (VB.setCell ⟨w.heap.size+1+1,0,none⟩ (.bool b9)).setCell ⟨w.heap.size+1+1,1,none⟩ (.slice a9 l9 c9)=W5 at *
     have hd0:=hb.c0
     have hd1:=hb.c1
     go_wp2_with fail
     exact bodyPost_ret (v:=.agg #[.bool b9,.slice a9 l9 c9]) (by simp [results,Tryz.results207,go_sem,hd0,hd1]) rfl ⟨_,rfl,by rw [← Hsum.out];exact Hs5.out,Hfx.out⟩
end Go.Proofs.YtipjmpdndokdlaaGreatDoor

namespace Go.Proofs.YtipjmpdndokdlaaGreatDoor
open Go.RowKit Go.Lib Go.Shelf
attribute [local go_sem] Oper.semAt_some
theorem own_frozen {w:World}{B E s g n cap:Nat}{xs:List Value}(h:w.ownsRow B E s (.slice (some ⟨g,0,none⟩) n cap) n xs)(k:Nat):w.frozen? ⟨g,k,none⟩=false:=by
 rcases h.2 with ⟨e,_⟩ | ⟨g',cap',cur,e,hb,hg,_⟩
 ·cases e
 ·injection e with e1 _ _
  injection e1 with e1
  injection e1 with e1
  subst e1
  exact frozen_of_row _ _ _ _ _ hg
theorem mulW_c (va vb:Value)(x y:Int)(w:World)(ha:W1 w va x)(hb:W1 w vb y)(hxy:x.natAbs * y.natAbs<1000000000)(hx9:x.natAbs<1000000000)(hy9:y.natAbs<1000000000) :
  Calls Tryz.prog 129 #[va,vb] w fun e w'=>∃ v,e=.returned v∧W1 w' v (x * y)∧Ext w w':=by
 obtain ⟨i0,hi,hz0,hz1,hz2⟩:=info_parts info_int
 obtain ⟨ua,rfl,hsa⟩:=ha
 obtain ⟨ub,rfl,hsb⟩:=hb
 rw [dg_abs] at hsa hsb
 have hsg:sgn1 (decide (x<0) != decide (y<0)) (x.natAbs * y.natAbs)=x * y:=by
  have e:((x.natAbs * y.natAbs:Nat):Int)=(x.natAbs:Int) * (y.natAbs:Int):=by simp
  unfold sgn1
  rw [e]
  rcases (by omega:x<0∨0≤x) with h1 | h1 <;> rcases (by omega:y<0∨0≤y) with h2 | h2
  ·rw [decide_eq_true h1,decide_eq_true h2,Int.ofNat_natAbs_of_nonpos (by omega),Int.ofNat_natAbs_of_nonpos (by omega)]
   show -x * -y=x * y
   rw [Int.neg_mul_neg]
  ·rw [decide_eq_true h1,decide_eq_false (by omega),Int.ofNat_natAbs_of_nonpos (by omega),Int.natAbs_of_nonneg h2]
   show -(-x * y)=x * y
   rw [Int.neg_mul,Int.neg_neg]
  ·rw [decide_eq_false (by omega),decide_eq_true h2,Int.natAbs_of_nonneg h1,Int.ofNat_natAbs_of_nonpos (by omega)]
   show -(x * -y)=x * y
   rw [Int.mul_neg,Int.neg_neg]
  ·rw [decide_eq_false (by omega),decide_eq_false (by omega),Int.natAbs_of_nonneg h1,Int.natAbs_of_nonneg h2]
   rfl
 generalize decide (x<0)=bx at *
 generalize decide (y<0)=by1 at *
 have hpr:(x.natAbs:Int) * (y.natAbs:Int)<1000000000∧0≤(x.natAbs:Int) * (y.natAbs:Int):=by
  have e:((x.natAbs * y.natAbs:Nat):Int)=(x.natAbs:Int) * (y.natAbs:Int):=by simp
  omega
 have hnat:((x.natAbs * y.natAbs:Nat):Int)=(x.natAbs:Int) * (y.natAbs:Int):=by simp
 have hzx:x.natAbs=0→x.natAbs * y.natAbs=0:=fun h=>by rw [h,Nat.zero_mul]
 have hzy:y.natAbs=0→x.natAbs * y.natAbs=0:=fun h=>by rw [h,Nat.mul_zero]
 generalize x.natAbs * y.natAbs=pr at *
 rw [← hnat] at hpr
 generalize x.natAbs=m at *
 generalize y.natAbs=n at *
 have htr:=fun (W:World)(u:Value)(mm zs:Nat)(hz:zs≤100)(hmm:mm=pr)(hu:Sl W u (i64s ((mm:Int)::List.replicate zs 0)))=>rtrim1_c u (bx != by1) mm zs W hu hz
 rcases dg_cases hsa with ⟨rfl,aa,ca,rfl,_⟩ | ⟨hm,ba,oa,ca,rfl,h1,_,_⟩
 ·have hp0:=hzx rfl
  subst hp0
  clear hnat hpr hzx hzy hxy
  rcases dg_cases hsb with ⟨rfl,ab,cb,rfl,_⟩ | ⟨hn,bb,ob,cb,rfl,h2,_,_⟩
  ·have hk2:=k2_new 179 179 179 w (.bool bx) (.slice aa 0 ca) (.bool by1) (.slice ab 0 cb) (.bool false) (.slice none 0 0)
   generalize hV:((w.alloc (.cells #[.bool bx,.slice aa 0 ca] 179)).alloc (.cells #[.bool by1,.slice ab 0 cb] 179)).alloc (.cells #[.bool false,.slice none 0 0] 179)=V at *
   obtain ⟨hk,hr⟩:=hk2
   have p0:=hk.a.c0;have p1:=hk.a.c1;have q0:=hk.b.c0;have q1:=hk.b.c1
   have Hk:=hid hk;have Hr:=hid hr;have Hsg:=hid hsg
   clear hk hr hsa hsb hsg
   go_enter Tryz.func129,Tryz.ntmps129
   go_wp2_with (at_make;refine wpList_make_full _ rfl _ _ 28 rfl w.heap.size 3 i0 _ 1 Tryz.underlying28 hi hz0 hz1 _ _ _ _ 1 rfl rfl rfl rfl (by rw [hz2];omega) (by unfold maxLen;omega) Hk.out.x.size ?_;intro w1 hown hgrow)
   have hx1:Ext V w1:=(Ext.refl V).grown hgrow (by simp)
   rw [show (Value.int .i64 0).cells=#[Value.int .i64 0] from rfl,toList_madeCells_one] at hown
   have Hx1:=hid hx1;have Hown:=hid hown
   clear hx1 hown
   have p0:=Hx1.out.cell p0;have p1:=Hx1.out.cell p1;have q0:=Hx1.out.cell q0;have q1:=Hx1.out.cell q1
   go_wp2_with fail
   refine wp_loop_rounds 2 ?_
   rw [rounds_succ]
   have hsW:Sl w1 (.slice (some ⟨V.heap.size,0,none⟩) 1 1) (i64s ((((0:Nat):Int))::List.replicate 0 0)):=sl_own Hown.out
   have hkW:=Hk.out.ext Hx1.out
   have hrW:=Hr.out.ext Hx1.out
   have htW:=htr w1 _ 0 0 (by omega) rfl hsW
   have p0:=hkW.a.c0;have q0:=hkW.b.c0
   have HkW:=hid hkW;have HrW:=hid hrW;have HtW:=hid htW
   clear hkW hrW htW hsW hgrow
   go_wp2_with fail
   refine HtW.out.mono ?_
   rintro e W9 ⟨v9,rfl,hw9,hx9⟩
   obtain ⟨b9,a9,l9,c9,rfl,hw9⟩:=w1_let hw9
   have hk9:=HkW.out.ext hx9
   have hr9:=HrW.out.ext hx9
   have k0:=hk9.res.c0;have k1:=hk9.res.c1;have z0:=hk9.res.fz 0;have z1:=hk9.res.fz 1
   obtain ⟨hb5,hx5⟩:=hk9.fin (by omega) (.bool b9) (.slice a9 l9 c9)
   have hs5:=w1_past hw9 hr9 (by simp) (by simp) (.bool b9) (.slice a9 l9 c9)
   have Hb5:=hid hb5;have Hx5:=hid hx5;have Hs5:=hid hs5
   clear hb5 hx5 hs5 hk9 hr9 hx9 hw9
   go_wp2_with fail
   have hd0:=Hb5.out.c0
   have hd1:=Hb5.out.c1
   exact bodyPost_ret (v:=.agg #[.bool b9,.slice a9 l9 c9]) (by simp [results,Tryz.results129,go_sem,hd0,hd1]) rfl ⟨_,rfl,by rw [← Hsg.out];exact Hs5.out,Hx5.out⟩
  ·have hk2:=k2_new 179 179 179 w (.bool bx) (.slice aa 0 ca) (.bool by1) (.slice (some ⟨bb,ob,none⟩) 1 cb) (.bool false) (.slice none 0 0)
   generalize hV:((w.alloc (.cells #[.bool bx,.slice aa 0 ca] 179)).alloc (.cells #[.bool by1,.slice (some ⟨bb,ob,none⟩) 1 cb] 179)).alloc (.cells #[.bool false,.slice none 0 0] 179)=V at *
   obtain ⟨hk,hr⟩:=hk2
   have p0:=hk.a.c0;have p1:=hk.a.c1;have q0:=hk.b.c0;have q1:=hk.b.c1
   have Hk:=hid hk;have Hr:=hid hr;have Hsg:=hid hsg
   clear hk hr hsa hsb hsg
   go_enter Tryz.func129,Tryz.ntmps129
   go_wp2_with (at_make;refine wpList_make_full _ rfl _ _ 28 rfl w.heap.size 3 i0 _ 1 Tryz.underlying28 hi hz0 hz1 _ _ _ _ 2 rfl rfl rfl rfl (by rw [hz2];omega) (by unfold maxLen;omega) Hk.out.x.size ?_;intro w1 hown hgrow)
   have hx1:Ext V w1:=(Ext.refl V).grown hgrow (by simp)
   rw [show (Value.int .i64 0).cells=#[Value.int .i64 0] from rfl,toList_madeCells_one] at hown
   have Hx1:=hid hx1;have Hown:=hid hown
   clear hx1 hown
   have p0:=Hx1.out.cell p0;have p1:=Hx1.out.cell p1;have q0:=Hx1.out.cell q0;have q1:=Hx1.out.cell q1
   go_wp2_with fail
   refine wp_loop_rounds 2 ?_
   rw [rounds_succ]
   have hsW:Sl w1 (.slice (some ⟨V.heap.size,0,none⟩) 2 2) (i64s ((((0:Nat):Int))::List.replicate 1 0)):=sl_own Hown.out
   have hkW:=Hk.out.ext Hx1.out
   have hrW:=Hr.out.ext Hx1.out
   have htW:=htr w1 _ 0 1 (by omega) rfl hsW
   have p0:=hkW.a.c0;have q0:=hkW.b.c0
   have HkW:=hid hkW;have HrW:=hid hrW;have HtW:=hid htW
   clear hkW hrW htW hsW hgrow
   go_wp2_with fail
   refine HtW.out.mono ?_
   rintro e W9 ⟨v9,rfl,hw9,hx9⟩
   obtain ⟨b9,a9,l9,c9,rfl,hw9⟩:=w1_let hw9
   have hk9:=HkW.out.ext hx9
   have hr9:=HrW.out.ext hx9
   have k0:=hk9.res.c0;have k1:=hk9.res.c1;have z0:=hk9.res.fz 0;have z1:=hk9.res.fz 1
   obtain ⟨hb5,hx5⟩:=hk9.fin (by omega) (.bool b9) (.slice a9 l9 c9)
   have hs5:=w1_past hw9 hr9 (by simp) (by simp) (.bool b9) (.slice a9 l9 c9)
   have Hb5:=hid hb5;have Hx5:=hid hx5;have Hs5:=hid hs5
   clear hb5 hx5 hs5 hk9 hr9 hx9 hw9
   go_wp2_with fail
   have hd0:=Hb5.out.c0
   have hd1:=Hb5.out.c1
   exact bodyPost_ret (v:=.agg #[.bool b9,.slice a9 l9 c9]) (by simp [results,Tryz.results129,go_sem,hd0,hd1]) rfl ⟨_,rfl,by rw [← Hsg.out];exact Hs5.out,Hx5.out⟩
 ·rcases dg_cases hsb with ⟨rfl,ab,cb,rfl,_⟩ | ⟨hn,bb,ob,cb,rfl,h2,_,_⟩
  ·have hp0:=hzy rfl
   subst hp0
   clear hnat hpr hzx hzy hxy
   have hk2:=k2_new 179 179 179 w (.bool bx) (.slice (some ⟨ba,oa,none⟩) 1 ca) (.bool by1) (.slice ab 0 cb) (.bool false) (.slice none 0 0)
   generalize hV:((w.alloc (.cells #[.bool bx,.slice (some ⟨ba,oa,none⟩) 1 ca] 179)).alloc (.cells #[.bool by1,.slice ab 0 cb] 179)).alloc (.cells #[.bool false,.slice none 0 0] 179)=V at *
   obtain ⟨hk,hr⟩:=hk2
   have p0:=hk.a.c0;have p1:=hk.a.c1;have q0:=hk.b.c0;have q1:=hk.b.c1
   have Hk:=hid hk;have Hr:=hid hr;have Hsg:=hid hsg
   clear hk hr hsa hsb hsg
   go_enter Tryz.func129,Tryz.ntmps129
   go_wp2_with (at_make;refine wpList_make_full _ rfl _ _ 28 rfl w.heap.size 3 i0 _ 1 Tryz.underlying28 hi hz0 hz1 _ _ _ _ 2 rfl rfl rfl rfl (by rw [hz2];omega) (by unfold maxLen;omega) Hk.out.x.size ?_;intro w1 hown hgrow)
   have hx1:Ext V w1:=(Ext.refl V).grown hgrow (by simp)
   rw [show (Value.int .i64 0).cells=#[Value.int .i64 0] from rfl,toList_madeCells_one] at hown
   have Hx1:=hid hx1;have Hown:=hid hown
   clear hx1 hown
   have p0:=Hx1.out.cell p0;have p1:=Hx1.out.cell p1;have q0:=Hx1.out.cell q0;have q1:=Hx1.out.cell q1
   go_wp2_with fail
   refine wp_loop_rounds 2 ?_
   rw [rounds_succ]
   go_wp2_with fail
   refine wp_loop_rounds 1 ?_
   rw [rounds_succ]
   go_wp2_with fail
   rw [rounds_succ]
   have hsW:Sl w1 (.slice (some ⟨V.heap.size,0,none⟩) 2 2) (i64s ((((0:Nat):Int))::List.replicate 1 0)):=sl_own Hown.out
   have hkW:=Hk.out.ext Hx1.out
   have hrW:=Hr.out.ext Hx1.out
   have htW:=htr w1 _ 0 1 (by omega) rfl hsW
   have p0:=hkW.a.c0;have q0:=hkW.b.c0
   have HkW:=hid hkW;have HrW:=hid hrW;have HtW:=hid htW
   clear hkW hrW htW hsW hgrow
   go_wp2_with fail
   refine HtW.out.mono ?_
   rintro e W9 ⟨v9,rfl,hw9,hx9⟩
   obtain ⟨b9,a9,l9,c9,rfl,hw9⟩:=w1_let hw9
   have hk9:=HkW.out.ext hx9
   have hr9:=HrW.out.ext hx9
   have k0:=hk9.res.c0;have k1:=hk9.res.c1;have z0:=hk9.res.fz 0;have z1:=hk9.res.fz 1
   obtain ⟨hb5,hx5⟩:=hk9.fin (by omega) (.bool b9) (.slice a9 l9 c9)
   have hs5:=w1_past hw9 hr9 (by simp) (by simp) (.bool b9) (.slice a9 l9 c9)
   have Hb5:=hid hb5;have Hx5:=hid hx5;have Hs5:=hid hs5
   clear hb5 hx5 hs5 hk9 hr9 hx9 hw9
   go_wp2_with fail
   have hd0:=Hb5.out.c0
   have hd1:=Hb5.out.c1
   exact bodyPost_ret (v:=.agg #[.bool b9,.slice a9 l9 c9]) (by simp [results,Tryz.results129,go_sem,hd0,hd1]) rfl ⟨_,rfl,by rw [← Hsg.out];exact Hs5.out,Hx5.out⟩
  ·have hk2:=k2_new 179 179 179 w (.bool bx) (.slice (some ⟨ba,oa,none⟩) 1 ca) (.bool by1) (.slice (some ⟨bb,ob,none⟩) 1 cb) (.bool false) (.slice none 0 0)
   generalize hV:((w.alloc (.cells #[.bool bx,.slice (some ⟨ba,oa,none⟩) 1 ca] 179)).alloc (.cells #[.bool by1,.slice (some ⟨bb,ob,none⟩) 1 cb] 179)).alloc (.cells #[.bool false,.slice none 0 0] 179)=V at *
   obtain ⟨hk,hr⟩:=hk2
   have p0:=hk.a.c0;have p1:=hk.a.c1;have q0:=hk.b.c0;have q1:=hk.b.c1
   have Hk:=hid hk;have Hr:=hid hr;have Hsg:=hid hsg
   clear hk hr hsa hsb hsg
   go_enter Tryz.func129,Tryz.ntmps129
   go_wp2_with (at_make;refine wpList_make_full _ rfl _ _ 28 rfl w.heap.size 3 i0 _ 1 Tryz.underlying28 hi hz0 hz1 _ _ _ _ 3 rfl rfl rfl rfl (by rw [hz2];omega) (by unfold maxLen;omega) Hk.out.x.size ?_;intro w1 hown hgrow)
   have hx1:Ext V w1:=(Ext.refl V).grown hgrow (by simp)
   rw [show (Value.int .i64 0).cells=#[Value.int .i64 0] from rfl,toList_madeCells_one] at hown
   have Hx1:=hid hx1;have Hown:=hid hown
   clear hx1 hown
   have p0:=Hx1.out.cell p0;have p1:=Hx1.out.cell p1;have q0:=Hx1.out.cell q0;have q1:=Hx1.out.cell q1
   have hmul:(m:Int) * (n:Int)=(pr:Int):=hnat.symm
   have hrem:((pr:Int)).tmod 1000000000=(pr:Int):=Int.tmod_eq_of_lt hpr.2 hpr.1
   have hquo:((pr:Int)).tdiv 1000000000=0:=Int.tdiv_eq_zero_of_lt hpr.2 hpr.1
   obtain ⟨hp1,hp2⟩:=hpr
   clear hnat
   have hb1:=Hx1.out.cell (Hk.out.x.cell h1);have hb2:=Hx1.out.cell (Hk.out.x.cell h2)
   have g0:w1.cell? ⟨V.heap.size,0,none⟩=some (.int .i64 0):=by rw [World.ownsRow.cellAt Hown.out 0 (by omega)];rfl
   have gf:w1.frozen? ⟨V.heap.size,0,none⟩=false:=own_frozen Hown.out 0
   go_wp2_with fail
   refine wp_loop_rounds 2 ?_
   rw [rounds_succ]
   go_wp2_with fail
   refine wp_loop_rounds 2 ?_
   rw [rounds_succ]
   go_wp2_with fail
   go_quiet (fail)
   go_wp2_with fail
   have hst:=World.ownsRow.stored (((Ext.refl w1).drewN nq).own Hown.out) 0 (.int .i64 (pr:Int))
   have hE5:Ext V ((w1.drewN nq).setCell ⟨V.heap.size,0,none⟩ (.int .i64 (pr:Int))):=(Hx1.out.drewN nq).setCell (Nat.le_refl _) _
   have Hown5:=hid hst.1;have Hk5:=hid (Hk.out.ext hE5);have Hr5:=hid (Hr.out.ext hE5)
   clear hst hE5 p0 p1 q0 q1 g0 gf hb1 hb2
   generalize (w1.drewN nq).setCell ⟨V.heap.size,0,none⟩ (.int .i64 (pr:Int))=W5 at *
   have p0:=Hk5.out.a.c0;have p1:=Hk5.out.a.c1;have q0:=Hk5.out.b.c0;have q1:=Hk5.out.b.c1
   rw [rounds_succ]
   go_wp2_with fail
   rw [rounds_succ]
   have hsW:Sl W5 (.slice (some ⟨V.heap.size,0,none⟩) 3 3) (i64s ((((pr:Nat):Int))::List.replicate 2 0)):=sl_own Hown5.out
   have hkW:=Hk5.out
   have hrW:=Hr5.out
   have htW:=htr W5 _ pr 2 (by omega) rfl hsW
   have p0:=hkW.a.c0;have q0:=hkW.b.c0
   have HkW:=hid hkW;have HrW:=hid hrW;have HtW:=hid htW
   clear hkW hrW htW hsW
   go_wp2_with fail
   refine HtW.out.mono ?_
   rintro e W9 ⟨v9,rfl,hw9,hx9⟩
   obtain ⟨b9,a9,l9,c9,rfl,hw9⟩:=w1_let hw9
   have hk9:=HkW.out.ext hx9
   have hr9:=HrW.out.ext hx9
   have k0:=hk9.res.c0;have k1:=hk9.res.c1;have z0:=hk9.res.fz 0;have z1:=hk9.res.fz 1
   obtain ⟨hb5,hx5⟩:=hk9.fin (by omega) (.bool b9) (.slice a9 l9 c9)
   have hs5:=w1_past hw9 hr9 (by simp) (by simp) (.bool b9) (.slice a9 l9 c9)
   have Hb5:=hid hb5;have Hx5:=hid hx5;have Hs5:=hid hs5
   clear hb5 hx5 hs5 hk9 hr9 hx9 hw9
   go_wp2_with fail
   have hd0:=Hb5.out.c0
   have hd1:=Hb5.out.c1
   exact bodyPost_ret (v:=.agg #[.bool b9,.slice a9 l9 c9]) (by simp [results,Tryz.results129,go_sem,hd0,hd1]) rfl ⟨_,rfl,by rw [← Hsg.out];exact Hs5.out,Hx5.out⟩
end Go.Proofs.YtipjmpdndokdlaaGreatDoor
