/- Walk: schismaref03's AddW at any length. (Printed by wip/r3b.py.) Walks: schismaref03's Mul and Add of fractions of at most 400 digits. (Printed by wip/r3h.py.) -/
import Derived.Test.YtoehmpbipbbffaaGreatDoorPa25
import Derived.Test.YtoehmpbipbbffaaGreatDoorPa31
import Derived.Deep.RegionHeld3
import Derived.Test.YtoehmpbipbbffaaGreatDoorPa27
import Derived.Test.YtoehmpbipbbffaaGreatDoorPa10
import Derived.Test.YtoehmpbipbbffaaGreatDoorPa13
set_option maxRecDepth 100000
set_option maxHeartbeats 2000000
namespace Go.Proofs.YtoehmpbipbbffaaGreatDoor
open Go.RowKit Go.Lib Go.Shelf
attribute [local go_sem] Oper.semAt_some
theorem zoL (va vb:Value)(x y:Int)(w:World)(ha:WB w va x)(hb:WB w vb y)(hlx:(Dec.P x.natAbs).length≤900)(hly:(Dec.P y.natAbs).length≤900) :
  Calls Tryz.prog 128 #[va,vb] w fun e w'=>∃ v,e=.returned v∧WB w' v (x+y)∧Ext w w':=by
 obtain ⟨bx,ap,cp,rfl,hbx,hp⟩:=ha.let_;obtain ⟨by_,aq,cq,rfl,hby,hq⟩:=hb.let_;clear ha hb;obtain ⟨V,hV⟩:∃ V,V=((w.alloc (.cells #[.bool bx,.slice ap (Dec.P x.natAbs).length cp] 97)).alloc (.cells #[.bool by_,.slice aq (Dec.P y.natAbs).length cq] 97)).alloc (.cells #[.bool false,.slice none 0 0] 97):=⟨_,rfl⟩;have hk2:=zdX 97 97 97 w (.bool bx) (.slice ap (Dec.P x.natAbs).length cp) (.bool by_) (.slice aq (Dec.P y.natAbs).length cq) (.bool false) (.slice none 0 0);rw [← hV] at hk2;obtain ⟨hk,hr⟩:=hk2;have hpV:=hk.x.sl hp;have hqV:=hk.x.sl hq;have hpl:=fun W (hE:Ext V W)=>zoK _ _ x.natAbs y.natAbs W (hE.sl hpV) (hE.sl hqV) hlx hly;have hmn:=fun W (hE:Ext V W)(h:y.natAbs≤x.natAbs)=>znl _ _ x.natAbs y.natAbs W (hE.sl hpV) (hE.sl hqV) (by omega) h;have hnm:=fun W (hE:Ext V W)(h:x.natAbs≤y.natAbs)=>znl _ _ y.natAbs x.natAbs W (hE.sl hqV) (hE.sl hpV) (by omega) h;have hab:=fun W (hE:Ext V W)=>znk _ _ x.natAbs y.natAbs W (hE.sl hpV) (hE.sl hqV) (by omega);have htr:=fun (b:Bool)(o:List Nat)(v:Value)(W:World)(B:Nat)(h:zmQ W B v o)(hs:Dec.Small o)(hl:o.length≤1000)=>znb v b o W h.sl hs hl;have hS:∀ W,Ext V W→W.cell? ⟨w.heap.size,0,none⟩=some (.bool bx)∧W.cell? ⟨w.heap.size,1,none⟩=some (.slice ap (Dec.P x.natAbs).length cp)∧W.cell? ⟨w.heap.size+1,0,none⟩=some (.bool by_)∧W.cell? ⟨w.heap.size+1,1,none⟩=some (.slice aq (Dec.P y.natAbs).length cq):=fun W hE=>⟨(hk.a.ext hE).c0,(hk.a.ext hE).c1,(hk.b.ext hE).c0,(hk.b.ext hE).c1⟩;have hT:∀ W u v,Ext V W→((W.setCell ⟨w.heap.size+1+1,0,none⟩ u).setCell ⟨w.heap.size+1+1,1,none⟩ v).cell? ⟨w.heap.size,0,none⟩=some (.bool bx)∧((W.setCell ⟨w.heap.size+1+1,0,none⟩ u).setCell ⟨w.heap.size+1+1,1,none⟩ v).cell? ⟨w.heap.size,1,none⟩=some (.slice ap (Dec.P x.natAbs).length cp)∧((W.setCell ⟨w.heap.size+1+1,0,none⟩ u).setCell ⟨w.heap.size+1+1,1,none⟩ v).cell? ⟨w.heap.size+1,0,none⟩=some (.bool by_)∧((W.setCell ⟨w.heap.size+1+1,0,none⟩ u).setCell ⟨w.heap.size+1+1,1,none⟩ v).cell? ⟨w.heap.size+1,1,none⟩=some (.slice aq (Dec.P y.natAbs).length cq):=fun W u v hE=>⟨((hk.a.ext hE).past (by omega) u v).c0,((hk.a.ext hE).past (by omega) u v).c1,((hk.b.ext hE).past (by omega) u v).c0,((hk.b.ext hE).past (by omega) u v).c1⟩;have HT:=hid hT;clear hT;have q0:=hk.a.c0;have q1:=hk.a.c1;have q2:=hk.b.c0;have q3:=hk.b.c1;have Kr:=hid hr;have Kx:=hid hk.x;have Hpl:=hid hpl;have Hmn:=hid hmn;have Hnm:=hid hnm;have Hab:=hid hab;have Htr:=hid htr;have HS:=hid hS;have HV:=hid hV;have Hbx:=hid hbx;have Hby:=hid hby;generalize (Dec.P x.natAbs).length=lx at *;generalize (Dec.P y.natAbs).length=ly at *;clear hpl hmn hnm hab htr hS hV hbx hby hk hr hpV hqV hp hq hlx hly
 cases bx <;> cases by_
 ·have hsx:0≤x:=by have h:=Hbx.out;exact Int.not_lt.1 (of_decide_eq_false h.symm)
  have hsy:0≤y:=by have h:=Hby.out;exact Int.not_lt.1 (of_decide_eq_false h.symm)
  have hval:zgv false (x.natAbs+y.natAbs)=x+y:=by unfold zgv;simp;omega
  have Hval:=hid hval;clear hval hsx hsy;have Hx0:=hid (Ext.refl V);go_enter Tryz.func128,Tryz.ntmps128
  go_wp2_with (rw [← HV.out])
  go_region_held3 (fun w'=>w'.cell? ⟨w.heap.size,0,none⟩=some (.bool false)∧w'.cell? ⟨w.heap.size,1,none⟩=some (.slice ap lx cp)∧w'.cell? ⟨w.heap.size+1,0,none⟩=some (.bool false)∧w'.cell? ⟨w.heap.size+1,1,none⟩=some (.slice aq ly cq))
   (first | (with_reducible assumption) | exact HS.out _ (Ext.refl V).drew | exact HS.out _ (Hx0.out).drew)
   (first
    | (go_at_call 167
       refine (Hpl.out _ Hx0.out.drew).mono ?_
       rintro e9 VA ⟨⟨o,hs,hv,hl,va,rfl,ho⟩,hxa⟩
       have hEA:Ext V VA:=Hx0.out.drew.trans hxa
       have hSA:=HS.out VA hEA
       have htrA:=Htr.out false o va VA _ ho hs hl
       rw [hv] at htrA
       obtain ⟨a8,c8,rfl⟩:=zel ho
       have HtrA:=hid htrA
       have HEA:=hid hEA
       generalize o.length=lo at *
       clear hs hv hl ho hxa hEA htrA)
    | (go_at_call 85
       refine HtrA.out.mono ?_
       rintro e8 W9 ⟨v9,rfl,hw9,hx9⟩
       obtain ⟨b9,a9,l9,c9,rfl,hw9,_⟩:=hw9.letl
       have hE9:=HEA.out.trans hx9
       have hS9:=HS.out W9 hE9
       have hr9:=Kr.out.ext hE9
       have hS5:=HT.out W9 (.bool b9) (.slice a9 l9 c9) hE9
       have k0:=hr9.c0
       have k1:=hr9.c1
       have z0:=hr9.fz 0
       have z1:=hr9.fz 1
       have hb5:=hr9.put (.bool b9) (.slice a9 l9 c9)
       have hs5:=hw9.past hr9 (by simp) (by simp) (.bool b9) (.slice a9 l9 c9)
       have hx5:Ext w ((W9.setCell ⟨w.heap.size+1+1,0,none⟩ (.bool b9)).setCell ⟨w.heap.size+1+1,1,none⟩ (.slice a9 l9 c9)):=((Kx.out.trans hE9).setCell (by dsimp only;omega) _).setCell (by dsimp only;omega) _
       have Hb5:=hid hb5
       have Hx5:=hid hx5
       have Hs5:=hid hs5
       clear hb5 hx5 hs5 hr9 hx9 hw9 hE9))
  all_goals
   clear k0 k1 z0 z1 hS5 hS9 hSA;go_wp2_with fail
   have hd0:=Hb5.out.c0;have hd1:=Hb5.out.c1;exact bodyPost_ret (v:=.agg #[.bool b9,.slice a9 l9 c9]) (by simp [results,Tryz.results128,go_sem,hd0,hd1]) rfl ⟨_,rfl,by have h:=Hs5.out;rw [Hval.out] at h;exact h,Hx5.out⟩
 ·have hsx:0≤x:=by have h:=Hbx.out;exact Int.not_lt.1 (of_decide_eq_false h.symm)
  have hsy:y<0:=by have h:=Hby.out;exact of_decide_eq_true h.symm
  rcases Nat.lt_or_ge x.natAbs y.natAbs with g | g
  ·have hab1:=Hab.out V (Ext.refl V);rw [zmH g] at hab1;have Hg:=hid (Nat.le_of_lt g);have hval:zgv true (y.natAbs - x.natAbs)=x+y:=(by unfold zgv;simp;omega);have Hval:=hid hval;have Hab1:=hid hab1;clear hval hsx hsy g hab1;go_enter Tryz.func128,Tryz.ntmps128
   go_wp2_with (rw [← HV.out])
   refine Hab1.out.mono ?_;rintro e7 w1 ⟨rfl,hx1⟩;have r0:=HS.out w1 hx1;obtain ⟨r0,r1,r2,r3⟩:=r0;have Hx0:=hid hx1;clear hx1 q0 q1 q2 q3;go_wp2_with fail
   go_region_held3 (fun w'=>w'.cell? ⟨w.heap.size,0,none⟩=some (.bool false)∧w'.cell? ⟨w.heap.size,1,none⟩=some (.slice ap lx cp)∧w'.cell? ⟨w.heap.size+1,0,none⟩=some (.bool true)∧w'.cell? ⟨w.heap.size+1,1,none⟩=some (.slice aq ly cq))
    (first | (with_reducible assumption) | exact HS.out _ (Ext.refl V).drew | exact HS.out _ (Hx0.out).drew)
    (first
     | (go_at_call 138
        refine (Hnm.out _ Hx0.out.drew Hg.out).mono ?_
        rintro e9 VA ⟨⟨o,hs,hv,hl,va,rfl,ho⟩,hxa⟩
        have hEA:Ext V VA:=Hx0.out.drew.trans hxa
        have hSA:=HS.out VA hEA
        have htrA:=Htr.out true o va VA _ ho hs hl
        rw [hv] at htrA
        obtain ⟨a8,c8,rfl⟩:=zel ho
        have HtrA:=hid htrA
        have HEA:=hid hEA
        generalize o.length=lo at *
        clear hs hv hl ho hxa hEA htrA)
     | (go_at_call 85
        refine HtrA.out.mono ?_
        rintro e8 W9 ⟨v9,rfl,hw9,hx9⟩
        obtain ⟨b9,a9,l9,c9,rfl,hw9,_⟩:=hw9.letl
        have hE9:=HEA.out.trans hx9
        have hS9:=HS.out W9 hE9
        have hr9:=Kr.out.ext hE9
        have hS5:=HT.out W9 (.bool b9) (.slice a9 l9 c9) hE9
        have k0:=hr9.c0
        have k1:=hr9.c1
        have z0:=hr9.fz 0
        have z1:=hr9.fz 1
        have hb5:=hr9.put (.bool b9) (.slice a9 l9 c9)
        have hs5:=hw9.past hr9 (by simp) (by simp) (.bool b9) (.slice a9 l9 c9)
        have hx5:Ext w ((W9.setCell ⟨w.heap.size+1+1,0,none⟩ (.bool b9)).setCell ⟨w.heap.size+1+1,1,none⟩ (.slice a9 l9 c9)):=((Kx.out.trans hE9).setCell (by dsimp only;omega) _).setCell (by dsimp only;omega) _
        have Hb5:=hid hb5
        have Hx5:=hid hx5
        have Hs5:=hid hs5
        clear hb5 hx5 hs5 hr9 hx9 hw9 hE9))
   all_goals
    clear k0 k1 z0 z1 hS5 hS9 hSA;go_wp2_with fail
    have hd0:=Hb5.out.c0;have hd1:=Hb5.out.c1;exact bodyPost_ret (v:=.agg #[.bool b9,.slice a9 l9 c9]) (by simp [results,Tryz.results128,go_sem,hd0,hd1]) rfl ⟨_,rfl,by have h:=Hs5.out;rw [Hval.out] at h;exact h,Hx5.out⟩
  ·have hab1:=Hab.out V (Ext.refl V);have hoz:0≤zmG x.natAbs y.natAbs:=by unfold zmG;rw [if_neg (by omega)];split <;> omega
   generalize zmG x.natAbs y.natAbs=oz at *;have Hg:=hid (show y.natAbs≤x.natAbs from g);have hval:zgv false (x.natAbs - y.natAbs)=x+y:=(by unfold zgv;simp;omega);have Hval:=hid hval;have Hab1:=hid hab1;clear hval hsx hsy g hab1;go_enter Tryz.func128,Tryz.ntmps128
   go_wp2_with (rw [← HV.out])
   refine Hab1.out.mono ?_;rintro e7 w1 ⟨rfl,hx1⟩;have r0:=HS.out w1 hx1;obtain ⟨r0,r1,r2,r3⟩:=r0;have Hx0:=hid hx1;clear hx1 q0 q1 q2 q3;go_wp2_with fail
   go_region_held3 (fun w'=>w'.cell? ⟨w.heap.size,0,none⟩=some (.bool false)∧w'.cell? ⟨w.heap.size,1,none⟩=some (.slice ap lx cp)∧w'.cell? ⟨w.heap.size+1,0,none⟩=some (.bool true)∧w'.cell? ⟨w.heap.size+1,1,none⟩=some (.slice aq ly cq))
    (first | (with_reducible assumption) | exact HS.out _ (Ext.refl V).drew | exact HS.out _ (Hx0.out).drew)
    (first
     | (go_at_call 138
        refine (Hmn.out _ Hx0.out.drew Hg.out).mono ?_
        rintro e9 VA ⟨⟨o,hs,hv,hl,va,rfl,ho⟩,hxa⟩
        have hEA:Ext V VA:=Hx0.out.drew.trans hxa
        have hSA:=HS.out VA hEA
        have htrA:=Htr.out false o va VA _ ho hs hl
        rw [hv] at htrA
        obtain ⟨a8,c8,rfl⟩:=zel ho
        have HtrA:=hid htrA
        have HEA:=hid hEA
        generalize o.length=lo at *
        clear hs hv hl ho hxa hEA htrA)
     | (go_at_call 85
        refine HtrA.out.mono ?_
        rintro e8 W9 ⟨v9,rfl,hw9,hx9⟩
        obtain ⟨b9,a9,l9,c9,rfl,hw9,_⟩:=hw9.letl
        have hE9:=HEA.out.trans hx9
        have hS9:=HS.out W9 hE9
        have hr9:=Kr.out.ext hE9
        have hS5:=HT.out W9 (.bool b9) (.slice a9 l9 c9) hE9
        have k0:=hr9.c0
        have k1:=hr9.c1
        have z0:=hr9.fz 0
        have z1:=hr9.fz 1
        have hb5:=hr9.put (.bool b9) (.slice a9 l9 c9)
        have hs5:=hw9.past hr9 (by simp) (by simp) (.bool b9) (.slice a9 l9 c9)
        have hx5:Ext w ((W9.setCell ⟨w.heap.size+1+1,0,none⟩ (.bool b9)).setCell ⟨w.heap.size+1+1,1,none⟩ (.slice a9 l9 c9)):=((Kx.out.trans hE9).setCell (by dsimp only;omega) _).setCell (by dsimp only;omega) _
        have Hb5:=hid hb5
        have Hx5:=hid hx5
        have Hs5:=hid hs5
        clear hb5 hx5 hs5 hr9 hx9 hw9 hE9))
   all_goals
    clear k0 k1 z0 z1 hS5 hS9 hSA;go_wp2_with fail
    have hd0:=Hb5.out.c0;have hd1:=Hb5.out.c1;exact bodyPost_ret (v:=.agg #[.bool b9,.slice a9 l9 c9]) (by simp [results,Tryz.results128,go_sem,hd0,hd1]) rfl ⟨_,rfl,by have h:=Hs5.out;rw [Hval.out] at h;exact h,Hx5.out⟩
 ·have hsx:x<0:=by have h:=Hbx.out;exact of_decide_eq_true h.symm
  have hsy:0≤y:=by have h:=Hby.out;exact Int.not_lt.1 (of_decide_eq_false h.symm)
  rcases Nat.lt_or_ge x.natAbs y.natAbs with g | g
  ·have hab1:=Hab.out V (Ext.refl V);rw [zmH g] at hab1;have Hg:=hid (Nat.le_of_lt g);have hval:zgv false (y.natAbs - x.natAbs)=x+y:=(by unfold zgv;simp;omega);have Hval:=hid hval;have Hab1:=hid hab1;clear hval hsx hsy g hab1;go_enter Tryz.func128,Tryz.ntmps128
   go_wp2_with (rw [← HV.out])
   refine Hab1.out.mono ?_;rintro e7 w1 ⟨rfl,hx1⟩;have r0:=HS.out w1 hx1;obtain ⟨r0,r1,r2,r3⟩:=r0;have Hx0:=hid hx1;clear hx1 q0 q1 q2 q3;go_wp2_with fail
   go_region_held3 (fun w'=>w'.cell? ⟨w.heap.size,0,none⟩=some (.bool true)∧w'.cell? ⟨w.heap.size,1,none⟩=some (.slice ap lx cp)∧w'.cell? ⟨w.heap.size+1,0,none⟩=some (.bool false)∧w'.cell? ⟨w.heap.size+1,1,none⟩=some (.slice aq ly cq))
    (first | (with_reducible assumption) | exact HS.out _ (Ext.refl V).drew | exact HS.out _ (Hx0.out).drew)
    (first
     | (go_at_call 138
        refine (Hnm.out _ Hx0.out.drew Hg.out).mono ?_
        rintro e9 VA ⟨⟨o,hs,hv,hl,va,rfl,ho⟩,hxa⟩
        have hEA:Ext V VA:=Hx0.out.drew.trans hxa
        have hSA:=HS.out VA hEA
        have htrA:=Htr.out false o va VA _ ho hs hl
        rw [hv] at htrA
        obtain ⟨a8,c8,rfl⟩:=zel ho
        have HtrA:=hid htrA
        have HEA:=hid hEA
        generalize o.length=lo at *
        clear hs hv hl ho hxa hEA htrA)
     | (go_at_call 85
        refine HtrA.out.mono ?_
        rintro e8 W9 ⟨v9,rfl,hw9,hx9⟩
        obtain ⟨b9,a9,l9,c9,rfl,hw9,_⟩:=hw9.letl
        have hE9:=HEA.out.trans hx9
        have hS9:=HS.out W9 hE9
        have hr9:=Kr.out.ext hE9
        have hS5:=HT.out W9 (.bool b9) (.slice a9 l9 c9) hE9
        have k0:=hr9.c0
        have k1:=hr9.c1
        have z0:=hr9.fz 0
        have z1:=hr9.fz 1
        have hb5:=hr9.put (.bool b9) (.slice a9 l9 c9)
        have hs5:=hw9.past hr9 (by simp) (by simp) (.bool b9) (.slice a9 l9 c9)
        have hx5:Ext w ((W9.setCell ⟨w.heap.size+1+1,0,none⟩ (.bool b9)).setCell ⟨w.heap.size+1+1,1,none⟩ (.slice a9 l9 c9)):=((Kx.out.trans hE9).setCell (by dsimp only;omega) _).setCell (by dsimp only;omega) _
        have Hb5:=hid hb5
        have Hx5:=hid hx5
        have Hs5:=hid hs5
        clear hb5 hx5 hs5 hr9 hx9 hw9 hE9))
   all_goals
    clear k0 k1 z0 z1 hS5 hS9 hSA;go_wp2_with fail
    have hd0:=Hb5.out.c0;have hd1:=Hb5.out.c1;exact bodyPost_ret (v:=.agg #[.bool b9,.slice a9 l9 c9]) (by simp [results,Tryz.results128,go_sem,hd0,hd1]) rfl ⟨_,rfl,by have h:=Hs5.out;rw [Hval.out] at h;exact h,Hx5.out⟩
  ·have hab1:=Hab.out V (Ext.refl V);have hoz:0≤zmG x.natAbs y.natAbs:=by unfold zmG;rw [if_neg (by omega)];split <;> omega
   generalize zmG x.natAbs y.natAbs=oz at *;have Hg:=hid (show y.natAbs≤x.natAbs from g);have hval:zgv true (x.natAbs - y.natAbs)=x+y:=(by unfold zgv;simp;omega);have Hval:=hid hval;have Hab1:=hid hab1;clear hval hsx hsy g hab1;go_enter Tryz.func128,Tryz.ntmps128
   go_wp2_with (rw [← HV.out])
   refine Hab1.out.mono ?_;rintro e7 w1 ⟨rfl,hx1⟩;have r0:=HS.out w1 hx1;obtain ⟨r0,r1,r2,r3⟩:=r0;have Hx0:=hid hx1;clear hx1 q0 q1 q2 q3;go_wp2_with fail
   go_region_held3 (fun w'=>w'.cell? ⟨w.heap.size,0,none⟩=some (.bool true)∧w'.cell? ⟨w.heap.size,1,none⟩=some (.slice ap lx cp)∧w'.cell? ⟨w.heap.size+1,0,none⟩=some (.bool false)∧w'.cell? ⟨w.heap.size+1,1,none⟩=some (.slice aq ly cq))
    (first | (with_reducible assumption) | exact HS.out _ (Ext.refl V).drew | exact HS.out _ (Hx0.out).drew)
    (first
     | (go_at_call 138
        refine (Hmn.out _ Hx0.out.drew Hg.out).mono ?_
        rintro e9 VA ⟨⟨o,hs,hv,hl,va,rfl,ho⟩,hxa⟩
        have hEA:Ext V VA:=Hx0.out.drew.trans hxa
        have hSA:=HS.out VA hEA
        have htrA:=Htr.out true o va VA _ ho hs hl
        rw [hv] at htrA
        obtain ⟨a8,c8,rfl⟩:=zel ho
        have HtrA:=hid htrA
        have HEA:=hid hEA
        generalize o.length=lo at *
        clear hs hv hl ho hxa hEA htrA)
     | (go_at_call 85
        refine HtrA.out.mono ?_
        rintro e8 W9 ⟨v9,rfl,hw9,hx9⟩
        obtain ⟨b9,a9,l9,c9,rfl,hw9,_⟩:=hw9.letl
        have hE9:=HEA.out.trans hx9
        have hS9:=HS.out W9 hE9
        have hr9:=Kr.out.ext hE9
        have hS5:=HT.out W9 (.bool b9) (.slice a9 l9 c9) hE9
        have k0:=hr9.c0
        have k1:=hr9.c1
        have z0:=hr9.fz 0
        have z1:=hr9.fz 1
        have hb5:=hr9.put (.bool b9) (.slice a9 l9 c9)
        have hs5:=hw9.past hr9 (by simp) (by simp) (.bool b9) (.slice a9 l9 c9)
        have hx5:Ext w ((W9.setCell ⟨w.heap.size+1+1,0,none⟩ (.bool b9)).setCell ⟨w.heap.size+1+1,1,none⟩ (.slice a9 l9 c9)):=((Kx.out.trans hE9).setCell (by dsimp only;omega) _).setCell (by dsimp only;omega) _
        have Hb5:=hid hb5
        have Hx5:=hid hx5
        have Hs5:=hid hs5
        clear hb5 hx5 hs5 hr9 hx9 hw9 hE9))
   all_goals
    clear k0 k1 z0 z1 hS5 hS9 hSA;go_wp2_with fail
    have hd0:=Hb5.out.c0;have hd1:=Hb5.out.c1;exact bodyPost_ret (v:=.agg #[.bool b9,.slice a9 l9 c9]) (by simp [results,Tryz.results128,go_sem,hd0,hd1]) rfl ⟨_,rfl,by have h:=Hs5.out;rw [Hval.out] at h;exact h,Hx5.out⟩
 ·have hsx:x<0:=by have h:=Hbx.out;exact of_decide_eq_true h.symm
  have hsy:y<0:=by have h:=Hby.out;exact of_decide_eq_true h.symm
  have hval:zgv true (x.natAbs+y.natAbs)=x+y:=by unfold zgv;simp;omega
  have Hval:=hid hval;clear hval hsx hsy;have Hx0:=hid (Ext.refl V);go_enter Tryz.func128,Tryz.ntmps128
  go_wp2_with (rw [← HV.out])
  go_region_held3 (fun w'=>w'.cell? ⟨w.heap.size,0,none⟩=some (.bool true)∧w'.cell? ⟨w.heap.size,1,none⟩=some (.slice ap lx cp)∧w'.cell? ⟨w.heap.size+1,0,none⟩=some (.bool true)∧w'.cell? ⟨w.heap.size+1,1,none⟩=some (.slice aq ly cq))
   (first | (with_reducible assumption) | exact HS.out _ (Ext.refl V).drew | exact HS.out _ (Hx0.out).drew)
   (first
    | (go_at_call 167
       refine (Hpl.out _ Hx0.out.drew).mono ?_
       rintro e9 VA ⟨⟨o,hs,hv,hl,va,rfl,ho⟩,hxa⟩
       have hEA:Ext V VA:=Hx0.out.drew.trans hxa
       have hSA:=HS.out VA hEA
       have htrA:=Htr.out true o va VA _ ho hs hl
       rw [hv] at htrA
       obtain ⟨a8,c8,rfl⟩:=zel ho
       have HtrA:=hid htrA
       have HEA:=hid hEA
       generalize o.length=lo at *
       clear hs hv hl ho hxa hEA htrA)
    | (go_at_call 85
       refine HtrA.out.mono ?_
       rintro e8 W9 ⟨v9,rfl,hw9,hx9⟩
       obtain ⟨b9,a9,l9,c9,rfl,hw9,_⟩:=hw9.letl
       have hE9:=HEA.out.trans hx9
       have hS9:=HS.out W9 hE9
       have hr9:=Kr.out.ext hE9
       have hS5:=HT.out W9 (.bool b9) (.slice a9 l9 c9) hE9
       have k0:=hr9.c0
       have k1:=hr9.c1
       have z0:=hr9.fz 0
       have z1:=hr9.fz 1
       have hb5:=hr9.put (.bool b9) (.slice a9 l9 c9)
       have hs5:=hw9.past hr9 (by simp) (by simp) (.bool b9) (.slice a9 l9 c9)
       have hx5:Ext w ((W9.setCell ⟨w.heap.size+1+1,0,none⟩ (.bool b9)).setCell ⟨w.heap.size+1+1,1,none⟩ (.slice a9 l9 c9)):=((Kx.out.trans hE9).setCell (by dsimp only;omega) _).setCell (by dsimp only;omega) _
       have Hb5:=hid hb5
       have Hx5:=hid hx5
       have Hs5:=hid hs5
       clear hb5 hx5 hs5 hr9 hx9 hw9 hE9))
  all_goals
   clear k0 k1 z0 z1 hS5 hS9 hSA;go_wp2_with fail
   have hd0:=Hb5.out.c0;have hd1:=Hb5.out.c1;exact bodyPost_ret (v:=.agg #[.bool b9,.slice a9 l9 c9]) (by simp [results,Tryz.results128,go_sem,hd0,hd1]) rfl ⟨_,rfl,by have h:=Hs5.out;rw [Hval.out] at h;exact h,Hx5.out⟩
theorem zoM {n k:Nat}(h:nDigits n≤9 * k):(Dec.P n).length≤k:=by
 by_cases h0:n=0
 ·rw [h0,Dec.P_zero];exact Nat.zero_le _
 ·have:=(Dec.nDigits_P h0).1;omega
theorem zoN {n:Nat}(h:nDigits n≤400):(Dec.P n).length≤400:=Nat.le_trans (zoM (k:=45) (by omega)) (by omega)
theorem zoO {n:Nat}(h:nDigits n≤1700):(Dec.P n).length≤200:=zoM (by omega)
theorem zoP (a b:Rat)(w:World)(he:Env w)(ha:Ft 400 a)(hb:Ft 400 b) :
  Calls Tryz.prog 63 #[Rv a,Rv b] w fun e w'=>e=.returned (Rv (a * b))∧Ext w w':=by
 have hda:=fun n (h:nDigits n≤400)=>show (decDigits n).length≤900 from by rw [decDigits_length];omega
 have hta:=fun W=>zn9 a.num W (hda _ ha.1);have htb:=fun W=>zn9 b.num W (hda _ hb.1);have htc:=fun W=>zn9 (a.den:Int) W (by rw [Int.natAbs_natCast];exact hda _ ha.2);have htd:=fun W=>zn9 (b.den:Int) W (by rw [Int.natAbs_natCast];exact hda _ hb.2);have hpa:=fun n (h:nDigits n≤400)=>show (Dec.P n).length≤400 from zoN h;have hpa1:=hpa _ ha.1;have hpa2:=hpa _ ha.2;have hpb1:=hpa _ hb.1;have hpb2:=hpa _ hb.2;clear hda hpa;have hl1:(Dec.P (a.num * b.num).natAbs).length≤200:=zoO (by rw [Int.natAbs_mul];have:=zb6 a.num.natAbs b.num.natAbs;have:=ha.1;have:=hb.1;omega);have hl2:(Dec.P (a.den * b.den)).length≤200:=zoO (by have:=zb6 a.den b.den;have:=ha.2;have:=hb.2;omega);have hm1:=fun W va vb (h:WB W va a.num)(k:WB W vb b.num)=>zne va vb a.num b.num W h k hpa1 hpb1;have hm2:=fun W va vb (h:WB W va (a.den:Int))(k:WB W vb (b.den:Int))=>zne va vb (a.den:Int) (b.den:Int) W h k (by rw [Int.natAbs_natCast];exact hpa2) (by rw [Int.natAbs_natCast];exact hpb2);have hmk:=fun W va vb (hE:Ext w W)(h:WB W va (a.num * b.num))(k:WB W vb ((a.den:Int) * (b.den:Int)))=>zoH va vb (a.num * b.num) (a.den * b.den) W (he.ext hE) h (by rw [Int.natCast_mul];exact k) hl1 hl2 (Nat.mul_pos a.den_pos b.den_pos);rw [← Rat.mul_def'] at hmk;unfold Rv at hmk ⊢;generalize I (a * b).num=s1 at *;generalize I (((a * b).den:Nat):Int)=s2 at *;generalize I a.num=sa at *;generalize I b.num=sb at *;generalize I (a.den:Int)=sc at *;generalize I (b.den:Int)=sd at *;have hk2:=zdX 57 57 57 w (.string sa) (.string sc) (.string sb) (.string sd) (.string ⟨#[]⟩) (.string ⟨#[]⟩);generalize hV:((w.alloc (.cells #[.string sa,.string sc] 57)).alloc (.cells #[.string sb,.string sd] 57)).alloc (.cells #[.string ⟨#[]⟩,.string ⟨#[]⟩] 57)=V at *;have hk:=hk2.1;have p0:=hk.a.c0;have p1:=hk.a.c1;have q0:=hk.b.c0;have q1:=hk.b.c1;have Hk0:=hid hk;clear hk hk2;have Hta:=hid hta;have Htb:=hid htb;have Htc:=hid htc;have Htd:=hid htd;have Hm1:=hid hm1;have Hm2:=hid hm2;have Hmk:=hid hmk;clear hta htb htc htd hm1 hm2 hmk he ha hb hpa1 hpa2 hpb1 hpb2 hl1 hl2;go_enter Tryz.func63,Tryz.ntmps63
 go_wp2_with fail
 go_region_held3 (fun w'=>K2 57 57 57 w w' w.heap.size (.string sa) (.string sc) (w.heap.size+1) (.string sb) (.string sd) (w.heap.size+1+1)∧w'.cell? ⟨w.heap.size,0,none⟩=some (.string sa)∧w'.cell? ⟨w.heap.size,1,none⟩=some (.string sc)∧w'.cell? ⟨w.heap.size+1,0,none⟩=some (.string sb)∧w'.cell? ⟨w.heap.size+1,1,none⟩=some (.string sd)∧w'.cell? ⟨w.heap.size+1+1,0,none⟩=some (zdL w' (w.heap.size+1+1) 0)∧w'.cell? ⟨w.heap.size+1+1,1,none⟩=some (zdL w' (w.heap.size+1+1) 1)∧w'.frozen? ⟨w.heap.size+1+1,0,none⟩=false∧w'.frozen? ⟨w.heap.size+1+1,1,none⟩=false)
  (first | with_reducible exact Hk7.out.all | with_reducible exact Hk6.out.all | with_reducible exact Hk5.out.all | with_reducible exact Hk4.out.all | with_reducible exact Hk3.out.all | with_reducible exact Hk2.out.all | with_reducible exact Hk1.out.all | with_reducible exact (Hk0.out.ext ((Ext.refl V).drew)).all | with_reducible exact (Hk7.out.put (by omega) (by omega) (by omega) (.string s1) (.string s2)).all)
  (first
   | (have hpv:=Hk6;clear hpv;go_at_call 66;refine (Hmk.out _ _ _ Hk6.out.x Hw3_6.out Hw6_6.out).mono ?_;rintro e9 V7 ⟨rfl,hx7⟩;have Hk7:=hid (Hk6.out.ext hx7);have Hw1_7:=hid (Hw1_6.out.ext hx7);have Hw2_7:=hid (Hw2_6.out.ext hx7);have Hw3_7:=hid (Hw3_6.out.ext hx7);have Hw4_7:=hid (Hw4_6.out.ext hx7);have Hw5_7:=hid (Hw5_6.out.ext hx7);have Hw6_7:=hid (Hw6_6.out.ext hx7);clear hx7)
   | (have hpv:=Hk5;clear hpv;go_at_call 99;refine (Hm2.out _ _ _ Hw4_5.out Hw5_5.out).mono ?_;rintro e9 V6 ⟨v6,rfl,hw6,hx6⟩;obtain ⟨b6,a6,l6,c6,rfl,hw6⟩:=hw6.let1;have Hk6:=hid (Hk5.out.ext hx6);have Hw1_6:=hid (Hw1_5.out.ext hx6);have Hw2_6:=hid (Hw2_5.out.ext hx6);have Hw3_6:=hid (Hw3_5.out.ext hx6);have Hw4_6:=hid (Hw4_5.out.ext hx6);have Hw5_6:=hid (Hw5_5.out.ext hx6);have Hw6_6:=hid hw6;clear hw6;clear hx6)
   | (have hpv:=Hk4;clear hpv;go_at_call 56;refine (Htd.out _).mono ?_;rintro e9 V5 ⟨v5,rfl,hw5,hx5⟩;obtain ⟨b5,a5,l5,c5,rfl,hw5⟩:=hw5.let1;have Hk5:=hid (Hk4.out.ext hx5);have Hw1_5:=hid (Hw1_4.out.ext hx5);have Hw2_5:=hid (Hw2_4.out.ext hx5);have Hw3_5:=hid (Hw3_4.out.ext hx5);have Hw4_5:=hid (Hw4_4.out.ext hx5);have Hw5_5:=hid hw5;clear hw5;clear hx5)
   | (have hpv:=Hk3;clear hpv;go_at_call 56;refine (Htc.out _).mono ?_;rintro e9 V4 ⟨v4,rfl,hw4,hx4⟩;obtain ⟨b4,a4,l4,c4,rfl,hw4⟩:=hw4.let1;have Hk4:=hid (Hk3.out.ext hx4);have Hw1_4:=hid (Hw1_3.out.ext hx4);have Hw2_4:=hid (Hw2_3.out.ext hx4);have Hw3_4:=hid (Hw3_3.out.ext hx4);have Hw4_4:=hid hw4;clear hw4;clear hx4)
   | (have hpv:=Hk2;clear hpv;go_at_call 99;refine (Hm1.out _ _ _ Hw1_2.out Hw2_2.out).mono ?_;rintro e9 V3 ⟨v3,rfl,hw3,hx3⟩;obtain ⟨b3,a3,l3,c3,rfl,hw3⟩:=hw3.let1;have Hk3:=hid (Hk2.out.ext hx3);have Hw1_3:=hid (Hw1_2.out.ext hx3);have Hw2_3:=hid (Hw2_2.out.ext hx3);have Hw3_3:=hid hw3;clear hw3;clear hx3)
   | (have hpv:=Hk1;clear hpv;go_at_call 56;refine (Htb.out _).mono ?_;rintro e9 V2 ⟨v2,rfl,hw2,hx2⟩;obtain ⟨b2,a2,l2,c2,rfl,hw2⟩:=hw2.let1;have Hk2:=hid (Hk1.out.ext hx2);have Hw1_2:=hid (Hw1_1.out.ext hx2);have Hw2_2:=hid hw2;clear hw2;clear hx2)
   | (have hpv:=Hk0;clear hpv;go_at_call 56;refine (Hta.out _).mono ?_;rintro e9 V1 ⟨v1,rfl,hw1,hx1⟩;obtain ⟨b1,a1,l1,c1,rfl,hw1⟩:=hw1.let1;have Hk1:=hid (Hk0.out.ext (((Ext.refl V).drew).trans hx1));have Hw1_1:=hid hw1;clear hw1;clear hx1))
 all_goals
  obtain ⟨hb,hfx⟩:=Hk7.out.fin (by omega) (.string s1) (.string s2);have Hfx:=hid hfx;clear hfx;generalize (V7.setCell ⟨w.heap.size+1+1,0,none⟩ (.string s1)).setCell ⟨w.heap.size+1+1,1,none⟩ (.string s2)=W5 at *;have hd0:=hb.c0;have hd1:=hb.c1;go_wp2_with fail
  exact bodyPost_ret (v:=.agg #[.string s1,.string s2]) (by simp [results,Tryz.results63,go_sem,hd0,hd1]) rfl ⟨rfl,Hfx.out⟩
theorem zoQ (a b:Rat)(w:World)(he:Env w)(ha:Ft 400 a)(hb:Ft 400 b) :
  Calls Tryz.prog 88 #[Rv a,Rv b] w fun e w'=>e=.returned (Rv (a+b))∧Ext w w':=by
 have hda:=fun n (h:nDigits n≤400)=>show (decDigits n).length≤900 from by rw [decDigits_length];omega
 have hta:=fun W=>zn9 a.num W (hda _ ha.1);have htb:=fun W=>zn9 b.num W (hda _ hb.1);have htc:=fun W=>zn9 (a.den:Int) W (by rw [Int.natAbs_natCast];exact hda _ ha.2);have htd:=fun W=>zn9 (b.den:Int) W (by rw [Int.natAbs_natCast];exact hda _ hb.2);have hpa:=fun n (h:nDigits n≤400)=>show (Dec.P n).length≤400 from zoN h;have hpa1:=hpa _ ha.1;have hpa2:=hpa _ ha.2;have hpb1:=hpa _ hb.1;have hpb2:=hpa _ hb.2;clear hda hpa;by_cases hd:a.den=b.den
 ·have hl1:(Dec.P (a.num+b.num).natAbs).length≤200:=zoO (Nat.le_trans (Dec.nDigits_mono (Int.natAbs_add_le _ _)) (Nat.le_trans (zcF _ _ 400 ha.1 hb.1) (by omega)));have hl2:(Dec.P a.den).length≤200:=zoO (Nat.le_trans ha.2 (by omega));have haw:=fun W va vb (h:WB W va a.num)(k:WB W vb b.num)=>zoL va vb a.num b.num W h k (by omega) (by omega);have hmk:=fun W va vb (hE:Ext w W)(h:WB W va (a.num+b.num))(k:WB W vb (a.den:Int))=>zoH va vb (a.num+b.num) a.den W (he.ext hE) h k hl1 hl2 a.den_pos;rw [← zgD hd] at hmk;have hdi:I (b.den:Int)=I (a.den:Int):=by rw [hd]
  unfold Rv at hmk ⊢;rw [hdi];generalize I (a+b).num=s1 at *;generalize I (((a+b).den:Nat):Int)=s2 at *;generalize I a.num=sa at *;generalize I b.num=sb at *;generalize I (a.den:Int)=sc at *;clear htd hdi;obtain ⟨sd,hsd⟩:∃ sd,sd=sc:=⟨_,rfl⟩;have hk2:=zdX 57 57 57 w (.string sa) (.string sc) (.string sb) (.string sc) (.string ⟨#[]⟩) (.string ⟨#[]⟩);generalize hV:((w.alloc (.cells #[.string sa,.string sc] 57)).alloc (.cells #[.string sb,.string sc] 57)).alloc (.cells #[.string ⟨#[]⟩,.string ⟨#[]⟩] 57)=V at *;have hk:=hk2.1;have p0:=hk.a.c0;have p1:=hk.a.c1;have q0:=hk.b.c0;have q1:=hk.b.c1;have Hk0:=hid hk;clear hk hk2;clear hsd;have Hta:=hid hta;have Htb:=hid htb;have Htc:=hid htc;have Haw:=hid haw;have Hmk:=hid hmk;clear hta htb htc haw hmk he ha hb hpa1 hpa2 hpb1 hpb2 hl1 hl2 hd;go_enter Tryz.func88,Tryz.ntmps88
  go_wp2_with fail
  go_wp2_with fail
  go_region_held3 (fun w'=>K2 57 57 57 w w' w.heap.size (.string sa) (.string sc) (w.heap.size+1) (.string sb) (.string sc) (w.heap.size+1+1)∧w'.cell? ⟨w.heap.size,0,none⟩=some (.string sa)∧w'.cell? ⟨w.heap.size,1,none⟩=some (.string sc)∧w'.cell? ⟨w.heap.size+1,0,none⟩=some (.string sb)∧w'.cell? ⟨w.heap.size+1,1,none⟩=some (.string sc)∧w'.cell? ⟨w.heap.size+1+1,0,none⟩=some (zdL w' (w.heap.size+1+1) 0)∧w'.cell? ⟨w.heap.size+1+1,1,none⟩=some (zdL w' (w.heap.size+1+1) 1)∧w'.frozen? ⟨w.heap.size+1+1,0,none⟩=false∧w'.frozen? ⟨w.heap.size+1+1,1,none⟩=false)
   (first | with_reducible exact Hk5.out.all | with_reducible exact Hk4.out.all | with_reducible exact Hk3.out.all | with_reducible exact Hk2.out.all | with_reducible exact Hk1.out.all | with_reducible exact (Hk0.out.ext ((Ext.refl V).drew)).all | with_reducible exact (Hk5.out.put (by omega) (by omega) (by omega) (.string s1) (.string s2)).all)
   (first
    | (have hpv:=Hk4;clear hpv;go_at_call 66;refine (Hmk.out _ _ _ Hk4.out.x Hw3_4.out Hw4_4.out).mono ?_;rintro e9 V5 ⟨rfl,hx5⟩;have Hk5:=hid (Hk4.out.ext hx5);have Hw1_5:=hid (Hw1_4.out.ext hx5);have Hw2_5:=hid (Hw2_4.out.ext hx5);have Hw3_5:=hid (Hw3_4.out.ext hx5);have Hw4_5:=hid (Hw4_4.out.ext hx5);clear hx5)
    | (have hpv:=Hk3;clear hpv;go_at_call 56;refine (Htc.out _).mono ?_;rintro e9 V4 ⟨v4,rfl,hw4,hx4⟩;obtain ⟨b4,a4,l4,c4,rfl,hw4⟩:=hw4.let1;have Hk4:=hid (Hk3.out.ext hx4);have Hw1_4:=hid (Hw1_3.out.ext hx4);have Hw2_4:=hid (Hw2_3.out.ext hx4);have Hw3_4:=hid (Hw3_3.out.ext hx4);have Hw4_4:=hid hw4;clear hw4;clear hx4)
    | (have hpv:=Hk2;clear hpv;go_at_call 128;refine (Haw.out _ _ _ Hw1_2.out Hw2_2.out).mono ?_;rintro e9 V3 ⟨v3,rfl,hw3,hx3⟩;obtain ⟨b3,a3,l3,c3,rfl,hw3⟩:=hw3.let1;have Hk3:=hid (Hk2.out.ext hx3);have Hw1_3:=hid (Hw1_2.out.ext hx3);have Hw2_3:=hid (Hw2_2.out.ext hx3);have Hw3_3:=hid hw3;clear hw3;clear hx3)
    | (have hpv:=Hk1;clear hpv;go_at_call 56;refine (Htb.out _).mono ?_;rintro e9 V2 ⟨v2,rfl,hw2,hx2⟩;obtain ⟨b2,a2,l2,c2,rfl,hw2⟩:=hw2.let1;have Hk2:=hid (Hk1.out.ext hx2);have Hw1_2:=hid (Hw1_1.out.ext hx2);have Hw2_2:=hid hw2;clear hw2;clear hx2)
    | (have hpv:=Hk0;clear hpv;go_at_call 56;refine (Hta.out _).mono ?_;rintro e9 V1 ⟨v1,rfl,hw1,hx1⟩;obtain ⟨b1,a1,l1,c1,rfl,hw1⟩:=hw1.let1;have Hk1:=hid (Hk0.out.ext (((Ext.refl V).drew).trans hx1));have Hw1_1:=hid hw1;clear hw1;clear hx1))
  all_goals
   obtain ⟨hb,hfx⟩:=Hk5.out.fin (by omega) (.string s1) (.string s2);have Hfx:=hid hfx;clear hfx;generalize (V5.setCell ⟨w.heap.size+1+1,0,none⟩ (.string s1)).setCell ⟨w.heap.size+1+1,1,none⟩ (.string s2)=W5 at *;have hd0:=hb.c0;have hd1:=hb.c1;go_wp2_with fail
   exact bodyPost_ret (v:=.agg #[.string s1,.string s2]) (by simp [results,Tryz.results88,go_sem,hd0,hd1]) rfl ⟨rfl,Hfx.out⟩
 ·have hx1:(Dec.P (a.num * (b.den:Int)).natAbs).length≤900:=Nat.le_trans (zoM (k:=100) (by rw [Int.natAbs_mul,Int.natAbs_natCast];have:=zb6 a.num.natAbs b.den;have:=ha.1;have:=hb.2;omega)) (by omega);have hx2:(Dec.P (b.num * (a.den:Int)).natAbs).length≤900:=Nat.le_trans (zoM (k:=100) (by rw [Int.natAbs_mul,Int.natAbs_natCast];have:=zb6 b.num.natAbs a.den;have:=hb.1;have:=ha.2;omega)) (by omega);have hl1:(Dec.P (a.num * (b.den:Int)+b.num * (a.den:Int)).natAbs).length≤200:=zoO (Nat.le_trans (Dec.nDigits_mono (Int.natAbs_add_le _ _)) (Nat.le_trans (zcF _ _ 800 (by rw [Int.natAbs_mul,Int.natAbs_natCast];have:=zb6 a.num.natAbs b.den;have:=ha.1;have:=hb.2;omega) (by rw [Int.natAbs_mul,Int.natAbs_natCast];have:=zb6 b.num.natAbs a.den;have:=hb.1;have:=ha.2;omega)) (by omega)));have hl2:(Dec.P (a.den * b.den)).length≤200:=zoO (by have:=zb6 a.den b.den;have:=ha.2;have:=hb.2;omega);have hm1:=fun W va vb (h:WB W va a.num)(k:WB W vb (b.den:Int))=>zne va vb a.num (b.den:Int) W h k hpa1 (by rw [Int.natAbs_natCast];exact hpb2);have hm2:=fun W va vb (h:WB W va b.num)(k:WB W vb (a.den:Int))=>zne va vb b.num (a.den:Int) W h k hpb1 (by rw [Int.natAbs_natCast];exact hpa2);have hm3:=fun W va vb (h:WB W va (a.den:Int))(k:WB W vb (b.den:Int))=>zne va vb (a.den:Int) (b.den:Int) W h k (by rw [Int.natAbs_natCast];exact hpa2) (by rw [Int.natAbs_natCast];exact hpb2);have haw:=fun W va vb (h:WB W va (a.num * (b.den:Int)))(k:WB W vb (b.num * (a.den:Int)))=>zoL va vb (a.num * (b.den:Int)) (b.num * (a.den:Int)) W h k hx1 hx2;have hmk:=fun W va vb (hE:Ext w W)(h:WB W va (a.num * (b.den:Int)+b.num * (a.den:Int)))(k:WB W vb ((a.den:Int) * (b.den:Int)))=>zoH va vb (a.num * (b.den:Int)+b.num * (a.den:Int)) (a.den * b.den) W (he.ext hE) h (by rw [Int.natCast_mul];exact k) hl1 hl2 (Nat.mul_pos a.den_pos b.den_pos);rw [← Rat.add_def'] at hmk;have hnb:((I (a.den:Int)).toList == (I (b.den:Int)).toList)=false:=by rw [zbt];exact decide_eq_false (by omega)
  have hne:¬ (I (a.den:Int)).toList=(I (b.den:Int)).toList:=fun e=>by rw [e] at hnb;simp at hnb
  unfold Rv at hmk ⊢;generalize I (a+b).num=s1 at *;generalize I (((a+b).den:Nat):Int)=s2 at *;generalize I a.num=sa at *;generalize I b.num=sb at *;generalize I (a.den:Int)=sc at *;generalize I (b.den:Int)=sd at *;have hk2:=zdX 57 57 57 w (.string sa) (.string sc) (.string sb) (.string sd) (.string ⟨#[]⟩) (.string ⟨#[]⟩);generalize hV:((w.alloc (.cells #[.string sa,.string sc] 57)).alloc (.cells #[.string sb,.string sd] 57)).alloc (.cells #[.string ⟨#[]⟩,.string ⟨#[]⟩] 57)=V at *;have hk:=hk2.1;have p0:=hk.a.c0;have p1:=hk.a.c1;have q0:=hk.b.c0;have q1:=hk.b.c1;have Hk0:=hid hk;clear hk hk2;have Hta:=hid hta;have Htb:=hid htb;have Htc:=hid htc;have Htd:=hid htd;have Hm1:=hid hm1;have Hm2:=hid hm2;have Hm3:=hid hm3;have Haw:=hid haw;have Hmk:=hid hmk;clear hta htb htc htd hm1 hm2 hm3 haw hmk he ha hb hpa1 hpa2 hpb1 hpb2 hl1 hl2 hx1 hx2 hd;go_enter Tryz.func88,Tryz.ntmps88
  go_wp2_with fail
  go_wp2_with fail
  go_region_held3 (fun w'=>K2 57 57 57 w w' w.heap.size (.string sa) (.string sc) (w.heap.size+1) (.string sb) (.string sd) (w.heap.size+1+1)∧w'.cell? ⟨w.heap.size,0,none⟩=some (.string sa)∧w'.cell? ⟨w.heap.size,1,none⟩=some (.string sc)∧w'.cell? ⟨w.heap.size+1,0,none⟩=some (.string sb)∧w'.cell? ⟨w.heap.size+1,1,none⟩=some (.string sd)∧w'.cell? ⟨w.heap.size+1+1,0,none⟩=some (zdL w' (w.heap.size+1+1) 0)∧w'.cell? ⟨w.heap.size+1+1,1,none⟩=some (zdL w' (w.heap.size+1+1) 1)∧w'.frozen? ⟨w.heap.size+1+1,0,none⟩=false∧w'.frozen? ⟨w.heap.size+1+1,1,none⟩=false)
   (first | with_reducible exact Hk11.out.all | with_reducible exact Hk10.out.all | with_reducible exact Hk9.out.all | with_reducible exact Hk8.out.all | with_reducible exact Hk7.out.all | with_reducible exact Hk6.out.all | with_reducible exact Hk5.out.all | with_reducible exact Hk4.out.all | with_reducible exact Hk3.out.all | with_reducible exact Hk2.out.all | with_reducible exact Hk1.out.all | with_reducible exact (Hk0.out.ext ((Ext.refl V).drew)).all | with_reducible exact (Hk11.out.put (by omega) (by omega) (by omega) (.string s1) (.string s2)).all)
   (first
    | (have hpv:=Hk10;clear hpv;go_at_call 66;refine (Hmk.out _ _ _ Hk10.out.x Hw7_10.out Hw10_10.out).mono ?_;rintro e9 V11 ⟨rfl,hx11⟩;have Hk11:=hid (Hk10.out.ext hx11);have Hw1_11:=hid (Hw1_10.out.ext hx11);have Hw2_11:=hid (Hw2_10.out.ext hx11);have Hw3_11:=hid (Hw3_10.out.ext hx11);have Hw4_11:=hid (Hw4_10.out.ext hx11);have Hw5_11:=hid (Hw5_10.out.ext hx11);have Hw6_11:=hid (Hw6_10.out.ext hx11);have Hw7_11:=hid (Hw7_10.out.ext hx11);have Hw8_11:=hid (Hw8_10.out.ext hx11);have Hw9_11:=hid (Hw9_10.out.ext hx11);have Hw10_11:=hid (Hw10_10.out.ext hx11);clear hx11)
    | (have hpv:=Hk9;clear hpv;go_at_call 99;refine (Hm3.out _ _ _ Hw8_9.out Hw9_9.out).mono ?_;rintro e9 V10 ⟨v10,rfl,hw10,hx10⟩;obtain ⟨b10,a10,l10,c10,rfl,hw10⟩:=hw10.let1;have Hk10:=hid (Hk9.out.ext hx10);have Hw1_10:=hid (Hw1_9.out.ext hx10);have Hw2_10:=hid (Hw2_9.out.ext hx10);have Hw3_10:=hid (Hw3_9.out.ext hx10);have Hw4_10:=hid (Hw4_9.out.ext hx10);have Hw5_10:=hid (Hw5_9.out.ext hx10);have Hw6_10:=hid (Hw6_9.out.ext hx10);have Hw7_10:=hid (Hw7_9.out.ext hx10);have Hw8_10:=hid (Hw8_9.out.ext hx10);have Hw9_10:=hid (Hw9_9.out.ext hx10);have Hw10_10:=hid hw10;clear hw10;clear hx10)
    | (have hpv:=Hk8;clear hpv;go_at_call 56;refine (Htd.out _).mono ?_;rintro e9 V9 ⟨v9,rfl,hw9,hx9⟩;obtain ⟨b9,a9,l9,c9,rfl,hw9⟩:=hw9.let1;have Hk9:=hid (Hk8.out.ext hx9);have Hw1_9:=hid (Hw1_8.out.ext hx9);have Hw2_9:=hid (Hw2_8.out.ext hx9);have Hw3_9:=hid (Hw3_8.out.ext hx9);have Hw4_9:=hid (Hw4_8.out.ext hx9);have Hw5_9:=hid (Hw5_8.out.ext hx9);have Hw6_9:=hid (Hw6_8.out.ext hx9);have Hw7_9:=hid (Hw7_8.out.ext hx9);have Hw8_9:=hid (Hw8_8.out.ext hx9);have Hw9_9:=hid hw9;clear hw9;clear hx9)
    | (have hpv:=Hk7;clear hpv;go_at_call 56;refine (Htc.out _).mono ?_;rintro e9 V8 ⟨v8,rfl,hw8,hx8⟩;obtain ⟨b8,a8,l8,c8,rfl,hw8⟩:=hw8.let1;have Hk8:=hid (Hk7.out.ext hx8);have Hw1_8:=hid (Hw1_7.out.ext hx8);have Hw2_8:=hid (Hw2_7.out.ext hx8);have Hw3_8:=hid (Hw3_7.out.ext hx8);have Hw4_8:=hid (Hw4_7.out.ext hx8);have Hw5_8:=hid (Hw5_7.out.ext hx8);have Hw6_8:=hid (Hw6_7.out.ext hx8);have Hw7_8:=hid (Hw7_7.out.ext hx8);have Hw8_8:=hid hw8;clear hw8;clear hx8)
    | (have hpv:=Hk6;clear hpv;go_at_call 128;refine (Haw.out _ _ _ Hw3_6.out Hw6_6.out).mono ?_;rintro e9 V7 ⟨v7,rfl,hw7,hx7⟩;obtain ⟨b7,a7,l7,c7,rfl,hw7⟩:=hw7.let1;have Hk7:=hid (Hk6.out.ext hx7);have Hw1_7:=hid (Hw1_6.out.ext hx7);have Hw2_7:=hid (Hw2_6.out.ext hx7);have Hw3_7:=hid (Hw3_6.out.ext hx7);have Hw4_7:=hid (Hw4_6.out.ext hx7);have Hw5_7:=hid (Hw5_6.out.ext hx7);have Hw6_7:=hid (Hw6_6.out.ext hx7);have Hw7_7:=hid hw7;clear hw7;clear hx7)
    | (have hpv:=Hk5;clear hpv;go_at_call 99;refine (Hm2.out _ _ _ Hw4_5.out Hw5_5.out).mono ?_;rintro e9 V6 ⟨v6,rfl,hw6,hx6⟩;obtain ⟨b6,a6,l6,c6,rfl,hw6⟩:=hw6.let1;have Hk6:=hid (Hk5.out.ext hx6);have Hw1_6:=hid (Hw1_5.out.ext hx6);have Hw2_6:=hid (Hw2_5.out.ext hx6);have Hw3_6:=hid (Hw3_5.out.ext hx6);have Hw4_6:=hid (Hw4_5.out.ext hx6);have Hw5_6:=hid (Hw5_5.out.ext hx6);have Hw6_6:=hid hw6;clear hw6;clear hx6)
    | (have hpv:=Hk4;clear hpv;go_at_call 56;refine (Htc.out _).mono ?_;rintro e9 V5 ⟨v5,rfl,hw5,hx5⟩;obtain ⟨b5,a5,l5,c5,rfl,hw5⟩:=hw5.let1;have Hk5:=hid (Hk4.out.ext hx5);have Hw1_5:=hid (Hw1_4.out.ext hx5);have Hw2_5:=hid (Hw2_4.out.ext hx5);have Hw3_5:=hid (Hw3_4.out.ext hx5);have Hw4_5:=hid (Hw4_4.out.ext hx5);have Hw5_5:=hid hw5;clear hw5;clear hx5)
    | (have hpv:=Hk3;clear hpv;go_at_call 56;refine (Htb.out _).mono ?_;rintro e9 V4 ⟨v4,rfl,hw4,hx4⟩;obtain ⟨b4,a4,l4,c4,rfl,hw4⟩:=hw4.let1;have Hk4:=hid (Hk3.out.ext hx4);have Hw1_4:=hid (Hw1_3.out.ext hx4);have Hw2_4:=hid (Hw2_3.out.ext hx4);have Hw3_4:=hid (Hw3_3.out.ext hx4);have Hw4_4:=hid hw4;clear hw4;clear hx4)
    | (have hpv:=Hk2;clear hpv;go_at_call 99;refine (Hm1.out _ _ _ Hw1_2.out Hw2_2.out).mono ?_;rintro e9 V3 ⟨v3,rfl,hw3,hx3⟩;obtain ⟨b3,a3,l3,c3,rfl,hw3⟩:=hw3.let1;have Hk3:=hid (Hk2.out.ext hx3);have Hw1_3:=hid (Hw1_2.out.ext hx3);have Hw2_3:=hid (Hw2_2.out.ext hx3);have Hw3_3:=hid hw3;clear hw3;clear hx3)
    | (have hpv:=Hk1;clear hpv;go_at_call 56;refine (Htd.out _).mono ?_;rintro e9 V2 ⟨v2,rfl,hw2,hx2⟩;obtain ⟨b2,a2,l2,c2,rfl,hw2⟩:=hw2.let1;have Hk2:=hid (Hk1.out.ext hx2);have Hw1_2:=hid (Hw1_1.out.ext hx2);have Hw2_2:=hid hw2;clear hw2;clear hx2)
    | (have hpv:=Hk0;clear hpv;go_at_call 56;refine (Hta.out _).mono ?_;rintro e9 V1 ⟨v1,rfl,hw1,hx1⟩;obtain ⟨b1,a1,l1,c1,rfl,hw1⟩:=hw1.let1;have Hk1:=hid (Hk0.out.ext (((Ext.refl V).drew).trans hx1));have Hw1_1:=hid hw1;clear hw1;clear hx1))
  all_goals
   obtain ⟨hb,hfx⟩:=Hk11.out.fin (by omega) (.string s1) (.string s2);have Hfx:=hid hfx;clear hfx;generalize (V11.setCell ⟨w.heap.size+1+1,0,none⟩ (.string s1)).setCell ⟨w.heap.size+1+1,1,none⟩ (.string s2)=W5 at *;have hd0:=hb.c0;have hd1:=hb.c1;go_wp2_with fail
   exact bodyPost_ret (v:=.agg #[.string s1,.string s2]) (by simp [results,Tryz.results88,go_sem,hd0,hd1]) rfl ⟨rfl,Hfx.out⟩
end Go.Proofs.YtoehmpbipbbffaaGreatDoor
