/- Walk: schismaref03's MulW at one digit. Walks: schismaref03's little, SignW, Of. Walks: schismaref03's Make and Frac of one digit. -/
import Derived.Test.YtbkfhacmekbniaaGreatDoorPa10
set_option maxRecDepth 100000
set_option maxHeartbeats 800000
namespace Go.Proofs.YtbkfhacmekbniaaGreatDoor
open Go.RowKit Go.Lib Go.Shelf
attribute [local go_sem] Oper.semAt_some
theorem zgG {w:World}{B E s g n cap:Nat}{xs:List Value}(h:w.ownsRow B E s (.slice (some ⟨g,0,none⟩) n cap) n xs)(k:Nat):w.frozen? ⟨g,k,none⟩=false:=by
 rcases h.2 with ⟨e,_⟩ | ⟨g',cap',cur,e,hb,hg,_⟩
 ·cases e
 ·injection e with e1 _ _;injection e1 with e1;injection e1 with e1;subst e1;exact frozen_of_row _ _ _ _ _ hg
theorem zgH (va vb:Value)(x y:Int)(w:World)(ha:W1 w va x)(hb:W1 w vb y)(hxy:x.natAbs * y.natAbs<1000000000)(hx9:x.natAbs<1000000000)(hy9:y.natAbs<1000000000) :
  Calls Tryz.prog 122 #[va,vb] w fun e w'=>∃ v,e=.returned v∧W1 w' v (x * y)∧Ext w w':=by
 obtain ⟨i0,hi,hz0,hz1,hz2⟩:=info_parts zej;obtain ⟨ua,rfl,hsa⟩:=ha;obtain ⟨ub,rfl,hsb⟩:=hb;rw [zgA] at hsa hsb;have hsg:zgx (decide (x<0) != decide (y<0)) (x.natAbs * y.natAbs)=x * y:=by
  have e:((x.natAbs * y.natAbs:Nat):Int)=(x.natAbs:Int) * (y.natAbs:Int):=by simp
  unfold zgx;rw [e];rcases (by omega:x<0∨0≤x) with h1 | h1 <;> rcases (by omega:y<0∨0≤y) with h2 | h2
  ·rw [decide_eq_true h1,decide_eq_true h2,Int.ofNat_natAbs_of_nonpos (by omega),Int.ofNat_natAbs_of_nonpos (by omega)];show -x * -y=x * y;rw [Int.neg_mul_neg]
  ·rw [decide_eq_true h1,decide_eq_false (by omega),Int.ofNat_natAbs_of_nonpos (by omega),Int.natAbs_of_nonneg h2];show -(-x * y)=x * y;rw [Int.neg_mul,Int.neg_neg]
  ·rw [decide_eq_false (by omega),decide_eq_true h2,Int.natAbs_of_nonneg h1,Int.ofNat_natAbs_of_nonpos (by omega)];show -(x * -y)=x * y;rw [Int.mul_neg,Int.neg_neg]
  ·rw [decide_eq_false (by omega),decide_eq_false (by omega),Int.natAbs_of_nonneg h1,Int.natAbs_of_nonneg h2];rfl
 generalize decide (x<0)=bx at *;generalize decide (y<0)=by1 at *;have hpr:(x.natAbs:Int) * (y.natAbs:Int)<1000000000∧0≤(x.natAbs:Int) * (y.natAbs:Int):=by
  have e:((x.natAbs * y.natAbs:Nat):Int)=(x.natAbs:Int) * (y.natAbs:Int):=by simp
  omega
 have hnat:((x.natAbs * y.natAbs:Nat):Int)=(x.natAbs:Int) * (y.natAbs:Int):=by simp
 have hzx:x.natAbs=0→x.natAbs * y.natAbs=0:=fun h=>by rw [h,Nat.zero_mul]
 have hzy:y.natAbs=0→x.natAbs * y.natAbs=0:=fun h=>by rw [h,Nat.mul_zero]
 generalize x.natAbs * y.natAbs=pr at *;rw [← hnat] at hpr;generalize x.natAbs=m at *;generalize y.natAbs=n at *;have htr:=fun (W:World)(u:Value)(mm zs:Nat)(hz:zs≤100)(hmm:mm=pr)(hu:Sl W u (zak ((mm:Int)::List.replicate zs 0)))=>zgy u (bx != by1) mm zs W hu hz;rcases zg2 hsa with ⟨rfl,aa,ca,rfl,_⟩ | ⟨hm,ba,oa,ca,rfl,h1,_,_⟩
 ·have hp0:=hzx rfl;subst hp0;clear hnat hpr hzx hzy hxy;rcases zg2 hsb with ⟨rfl,ab,cb,rfl,_⟩ | ⟨hn,bb,ob,cb,rfl,h2,_,_⟩
  ·have hk2:=zdX 120 120 120 w (.bool bx) (.slice aa 0 ca) (.bool by1) (.slice ab 0 cb) (.bool false) (.slice none 0 0);generalize hV:((w.alloc (.cells #[.bool bx,.slice aa 0 ca] 120)).alloc (.cells #[.bool by1,.slice ab 0 cb] 120)).alloc (.cells #[.bool false,.slice none 0 0] 120)=V at *;obtain ⟨hk,hr⟩:=hk2;have p0:=hk.a.c0;have p1:=hk.a.c1;have q0:=hk.b.c0;have q1:=hk.b.c1;have Hk:=hid hk;have Hr:=hid hr;have Hsg:=hid hsg;clear hk hr hsa hsb hsg;go_enter Tryz.func122,Tryz.ntmps122
   go_wp2_with (at_make;refine wpList_make_full _ rfl _ _ 28 rfl w.heap.size 3 i0 _ 1 Tryz.underlying28 hi hz0 hz1 _ _ _ _ 1 rfl rfl rfl rfl (by rw [hz2];omega) (by unfold maxLen;omega) Hk.out.x.size ?_;intro w1 hown hgrow)
   have hx1:Ext V w1:=(Ext.refl V).grown hgrow (by simp);rw [show (Value.int .i64 0).cells=#[Value.int .i64 0] from rfl,toList_madeCells_one] at hown;have Hx1:=hid hx1;have Hown:=hid hown;clear hx1 hown;have p0:=Hx1.out.cell p0;have p1:=Hx1.out.cell p1;have q0:=Hx1.out.cell q0;have q1:=Hx1.out.cell q1;go_wp2_with fail
   refine wp_loop_rounds 2 ?_;rw [rounds_succ];have hsW:Sl w1 (.slice (some ⟨V.heap.size,0,none⟩) 1 1) (zak ((((0:Nat):Int))::List.replicate 0 0)):=zai Hown.out;have hkW:=Hk.out.ext Hx1.out;have hrW:=Hr.out.ext Hx1.out;have htW:=htr w1 _ 0 0 (by omega) rfl hsW;have p0:=hkW.a.c0;have q0:=hkW.b.c0;have HkW:=hid hkW;have HrW:=hid hrW;have HtW:=hid htW;clear hkW hrW htW hsW hgrow;go_wp2_with fail
   refine HtW.out.mono ?_;rintro e W9 ⟨v9,rfl,hw9,hx9⟩;obtain ⟨b9,a9,l9,c9,rfl,hw9⟩:=zgD hw9;have hk9:=HkW.out.ext hx9;have hr9:=HrW.out.ext hx9;have k0:=hk9.res.c0;have k1:=hk9.res.c1;have z0:=hk9.res.fz 0;have z1:=hk9.res.fz 1;obtain ⟨hb5,hx5⟩:=hk9.fin (by omega) (.bool b9) (.slice a9 l9 c9);have hs5:=zgE hw9 hr9 (by simp) (by simp) (.bool b9) (.slice a9 l9 c9);have Hb5:=hid hb5;have Hx5:=hid hx5;have Hs5:=hid hs5;clear hb5 hx5 hs5 hk9 hr9 hx9 hw9;go_wp2_with fail
   have hd0:=Hb5.out.c0;have hd1:=Hb5.out.c1;exact bodyPost_ret (v:=.agg #[.bool b9,.slice a9 l9 c9]) (by simp [results,Tryz.results122,go_sem,hd0,hd1]) rfl ⟨_,rfl,by rw [← Hsg.out];exact Hs5.out,Hx5.out⟩
  ·have hk2:=zdX 120 120 120 w (.bool bx) (.slice aa 0 ca) (.bool by1) (.slice (some ⟨bb,ob,none⟩) 1 cb) (.bool false) (.slice none 0 0);generalize hV:((w.alloc (.cells #[.bool bx,.slice aa 0 ca] 120)).alloc (.cells #[.bool by1,.slice (some ⟨bb,ob,none⟩) 1 cb] 120)).alloc (.cells #[.bool false,.slice none 0 0] 120)=V at *;obtain ⟨hk,hr⟩:=hk2;have p0:=hk.a.c0;have p1:=hk.a.c1;have q0:=hk.b.c0;have q1:=hk.b.c1;have Hk:=hid hk;have Hr:=hid hr;have Hsg:=hid hsg;clear hk hr hsa hsb hsg;go_enter Tryz.func122,Tryz.ntmps122
   go_wp2_with (at_make;refine wpList_make_full _ rfl _ _ 28 rfl w.heap.size 3 i0 _ 1 Tryz.underlying28 hi hz0 hz1 _ _ _ _ 2 rfl rfl rfl rfl (by rw [hz2];omega) (by unfold maxLen;omega) Hk.out.x.size ?_;intro w1 hown hgrow)
   have hx1:Ext V w1:=(Ext.refl V).grown hgrow (by simp);rw [show (Value.int .i64 0).cells=#[Value.int .i64 0] from rfl,toList_madeCells_one] at hown;have Hx1:=hid hx1;have Hown:=hid hown;clear hx1 hown;have p0:=Hx1.out.cell p0;have p1:=Hx1.out.cell p1;have q0:=Hx1.out.cell q0;have q1:=Hx1.out.cell q1;go_wp2_with fail
   refine wp_loop_rounds 2 ?_;rw [rounds_succ];have hsW:Sl w1 (.slice (some ⟨V.heap.size,0,none⟩) 2 2) (zak ((((0:Nat):Int))::List.replicate 1 0)):=zai Hown.out;have hkW:=Hk.out.ext Hx1.out;have hrW:=Hr.out.ext Hx1.out;have htW:=htr w1 _ 0 1 (by omega) rfl hsW;have p0:=hkW.a.c0;have q0:=hkW.b.c0;have HkW:=hid hkW;have HrW:=hid hrW;have HtW:=hid htW;clear hkW hrW htW hsW hgrow;go_wp2_with fail
   refine HtW.out.mono ?_;rintro e W9 ⟨v9,rfl,hw9,hx9⟩;obtain ⟨b9,a9,l9,c9,rfl,hw9⟩:=zgD hw9;have hk9:=HkW.out.ext hx9;have hr9:=HrW.out.ext hx9;have k0:=hk9.res.c0;have k1:=hk9.res.c1;have z0:=hk9.res.fz 0;have z1:=hk9.res.fz 1;obtain ⟨hb5,hx5⟩:=hk9.fin (by omega) (.bool b9) (.slice a9 l9 c9);have hs5:=zgE hw9 hr9 (by simp) (by simp) (.bool b9) (.slice a9 l9 c9);have Hb5:=hid hb5;have Hx5:=hid hx5;have Hs5:=hid hs5;clear hb5 hx5 hs5 hk9 hr9 hx9 hw9;go_wp2_with fail
   have hd0:=Hb5.out.c0;have hd1:=Hb5.out.c1;exact bodyPost_ret (v:=.agg #[.bool b9,.slice a9 l9 c9]) (by simp [results,Tryz.results122,go_sem,hd0,hd1]) rfl ⟨_,rfl,by rw [← Hsg.out];exact Hs5.out,Hx5.out⟩
 ·rcases zg2 hsb with ⟨rfl,ab,cb,rfl,_⟩ | ⟨hn,bb,ob,cb,rfl,h2,_,_⟩
  ·have hp0:=hzy rfl;subst hp0;clear hnat hpr hzx hzy hxy;have hk2:=zdX 120 120 120 w (.bool bx) (.slice (some ⟨ba,oa,none⟩) 1 ca) (.bool by1) (.slice ab 0 cb) (.bool false) (.slice none 0 0);generalize hV:((w.alloc (.cells #[.bool bx,.slice (some ⟨ba,oa,none⟩) 1 ca] 120)).alloc (.cells #[.bool by1,.slice ab 0 cb] 120)).alloc (.cells #[.bool false,.slice none 0 0] 120)=V at *;obtain ⟨hk,hr⟩:=hk2;have p0:=hk.a.c0;have p1:=hk.a.c1;have q0:=hk.b.c0;have q1:=hk.b.c1;have Hk:=hid hk;have Hr:=hid hr;have Hsg:=hid hsg;clear hk hr hsa hsb hsg;go_enter Tryz.func122,Tryz.ntmps122
   go_wp2_with (at_make;refine wpList_make_full _ rfl _ _ 28 rfl w.heap.size 3 i0 _ 1 Tryz.underlying28 hi hz0 hz1 _ _ _ _ 2 rfl rfl rfl rfl (by rw [hz2];omega) (by unfold maxLen;omega) Hk.out.x.size ?_;intro w1 hown hgrow)
   have hx1:Ext V w1:=(Ext.refl V).grown hgrow (by simp);rw [show (Value.int .i64 0).cells=#[Value.int .i64 0] from rfl,toList_madeCells_one] at hown;have Hx1:=hid hx1;have Hown:=hid hown;clear hx1 hown;have p0:=Hx1.out.cell p0;have p1:=Hx1.out.cell p1;have q0:=Hx1.out.cell q0;have q1:=Hx1.out.cell q1;go_wp2_with fail
   refine wp_loop_rounds 2 ?_;rw [rounds_succ];go_wp2_with fail
   refine wp_loop_rounds 1 ?_;rw [rounds_succ];go_wp2_with fail
   rw [rounds_succ];have hsW:Sl w1 (.slice (some ⟨V.heap.size,0,none⟩) 2 2) (zak ((((0:Nat):Int))::List.replicate 1 0)):=zai Hown.out;have hkW:=Hk.out.ext Hx1.out;have hrW:=Hr.out.ext Hx1.out;have htW:=htr w1 _ 0 1 (by omega) rfl hsW;have p0:=hkW.a.c0;have q0:=hkW.b.c0;have HkW:=hid hkW;have HrW:=hid hrW;have HtW:=hid htW;clear hkW hrW htW hsW hgrow;go_wp2_with fail
   refine HtW.out.mono ?_;rintro e W9 ⟨v9,rfl,hw9,hx9⟩;obtain ⟨b9,a9,l9,c9,rfl,hw9⟩:=zgD hw9;have hk9:=HkW.out.ext hx9;have hr9:=HrW.out.ext hx9;have k0:=hk9.res.c0;have k1:=hk9.res.c1;have z0:=hk9.res.fz 0;have z1:=hk9.res.fz 1;obtain ⟨hb5,hx5⟩:=hk9.fin (by omega) (.bool b9) (.slice a9 l9 c9);have hs5:=zgE hw9 hr9 (by simp) (by simp) (.bool b9) (.slice a9 l9 c9);have Hb5:=hid hb5;have Hx5:=hid hx5;have Hs5:=hid hs5;clear hb5 hx5 hs5 hk9 hr9 hx9 hw9;go_wp2_with fail
   have hd0:=Hb5.out.c0;have hd1:=Hb5.out.c1;exact bodyPost_ret (v:=.agg #[.bool b9,.slice a9 l9 c9]) (by simp [results,Tryz.results122,go_sem,hd0,hd1]) rfl ⟨_,rfl,by rw [← Hsg.out];exact Hs5.out,Hx5.out⟩
  ·have hk2:=zdX 120 120 120 w (.bool bx) (.slice (some ⟨ba,oa,none⟩) 1 ca) (.bool by1) (.slice (some ⟨bb,ob,none⟩) 1 cb) (.bool false) (.slice none 0 0);generalize hV:((w.alloc (.cells #[.bool bx,.slice (some ⟨ba,oa,none⟩) 1 ca] 120)).alloc (.cells #[.bool by1,.slice (some ⟨bb,ob,none⟩) 1 cb] 120)).alloc (.cells #[.bool false,.slice none 0 0] 120)=V at *;obtain ⟨hk,hr⟩:=hk2;have p0:=hk.a.c0;have p1:=hk.a.c1;have q0:=hk.b.c0;have q1:=hk.b.c1;have Hk:=hid hk;have Hr:=hid hr;have Hsg:=hid hsg;clear hk hr hsa hsb hsg;go_enter Tryz.func122,Tryz.ntmps122
   go_wp2_with (at_make;refine wpList_make_full _ rfl _ _ 28 rfl w.heap.size 3 i0 _ 1 Tryz.underlying28 hi hz0 hz1 _ _ _ _ 3 rfl rfl rfl rfl (by rw [hz2];omega) (by unfold maxLen;omega) Hk.out.x.size ?_;intro w1 hown hgrow)
   have hx1:Ext V w1:=(Ext.refl V).grown hgrow (by simp);rw [show (Value.int .i64 0).cells=#[Value.int .i64 0] from rfl,toList_madeCells_one] at hown;have Hx1:=hid hx1;have Hown:=hid hown;clear hx1 hown;have p0:=Hx1.out.cell p0;have p1:=Hx1.out.cell p1;have q0:=Hx1.out.cell q0;have q1:=Hx1.out.cell q1;have hmul:(m:Int) * (n:Int)=(pr:Int):=hnat.symm;have hrem:((pr:Int)).tmod 1000000000=(pr:Int):=Int.tmod_eq_of_lt hpr.2 hpr.1;have hquo:((pr:Int)).tdiv 1000000000=0:=Int.tdiv_eq_zero_of_lt hpr.2 hpr.1;obtain ⟨hp1,hp2⟩:=hpr;clear hnat;have hb1:=Hx1.out.cell (Hk.out.x.cell h1);have hb2:=Hx1.out.cell (Hk.out.x.cell h2);have g0:w1.cell? ⟨V.heap.size,0,none⟩=some (.int .i64 0):=(by rw [World.ownsRow.cellAt Hown.out 0 (by omega)];rfl);have gf:w1.frozen? ⟨V.heap.size,0,none⟩=false:=zgG Hown.out 0;go_wp2_with fail
   refine wp_loop_rounds 2 ?_;rw [rounds_succ];go_wp2_with fail
   refine wp_loop_rounds 2 ?_;rw [rounds_succ];go_wp2_with fail
   go_quiet (fail)
   go_wp2_with fail
   have hst:=World.ownsRow.stored (((Ext.refl w1).drewN nq).own Hown.out) 0 (.int .i64 (pr:Int));have hE5:Ext V ((w1.drewN nq).setCell ⟨V.heap.size,0,none⟩ (.int .i64 (pr:Int))):=(Hx1.out.drewN nq).setCell (Nat.le_refl _) _;have Hown5:=hid hst.1;have Hk5:=hid (Hk.out.ext hE5);have Hr5:=hid (Hr.out.ext hE5);clear hst hE5 p0 p1 q0 q1 g0 gf hb1 hb2;generalize (w1.drewN nq).setCell ⟨V.heap.size,0,none⟩ (.int .i64 (pr:Int))=W5 at *;have p0:=Hk5.out.a.c0;have p1:=Hk5.out.a.c1;have q0:=Hk5.out.b.c0;have q1:=Hk5.out.b.c1;rw [rounds_succ];go_wp2_with fail
   rw [rounds_succ];have hsW:Sl W5 (.slice (some ⟨V.heap.size,0,none⟩) 3 3) (zak ((((pr:Nat):Int))::List.replicate 2 0)):=zai Hown5.out;have hkW:=Hk5.out;have hrW:=Hr5.out;have htW:=htr W5 _ pr 2 (by omega) rfl hsW;have p0:=hkW.a.c0;have q0:=hkW.b.c0;have HkW:=hid hkW;have HrW:=hid hrW;have HtW:=hid htW;clear hkW hrW htW hsW;go_wp2_with fail
   refine HtW.out.mono ?_;rintro e W9 ⟨v9,rfl,hw9,hx9⟩;obtain ⟨b9,a9,l9,c9,rfl,hw9⟩:=zgD hw9;have hk9:=HkW.out.ext hx9;have hr9:=HrW.out.ext hx9;have k0:=hk9.res.c0;have k1:=hk9.res.c1;have z0:=hk9.res.fz 0;have z1:=hk9.res.fz 1;obtain ⟨hb5,hx5⟩:=hk9.fin (by omega) (.bool b9) (.slice a9 l9 c9);have hs5:=zgE hw9 hr9 (by simp) (by simp) (.bool b9) (.slice a9 l9 c9);have Hb5:=hid hb5;have Hx5:=hid hx5;have Hs5:=hid hs5;clear hb5 hx5 hs5 hk9 hr9 hx9 hw9;go_wp2_with fail
   have hd0:=Hb5.out.c0;have hd1:=Hb5.out.c1;exact bodyPost_ret (v:=.agg #[.bool b9,.slice a9 l9 c9]) (by simp [results,Tryz.results122,go_sem,hd0,hd1]) rfl ⟨_,rfl,by rw [← Hsg.out];exact Hs5.out,Hx5.out⟩
theorem zgI {w:World}{v:Value}{z:Int}(h:W1 w v z):(z=0∧∃ a c,v=.agg #[.bool false,.slice a 0 c])∨(z ≠ 0∧∃ b off c,v=.agg #[.bool (decide (z<0)),.slice (some ⟨b,off,none⟩) 1 c]∧w.cell? ⟨b,off,none⟩=some (.int .i64 (z.natAbs:Int))):=by
 obtain ⟨u,rfl,hs⟩:=h;rw [zgA] at hs;rcases zg2 hs with ⟨h0,a,c,rfl,_⟩ | ⟨h0,b,off,c,rfl,h1,_,_⟩
 ·left;obtain rfl:z=0:=by omega
  exact ⟨rfl,a,c,rfl⟩
 ·exact .inr ⟨by omega,b,off,c,rfl,h1⟩
theorem zgJ (v:Value)(z:Int)(w:World)(h:W1 w v z)(hz:0<z) :
  Calls Tryz.prog 78 #[v] w fun e w'=>e=.returned (.int .i64 1)∧Ext w w':=by
 rcases zgI h with ⟨h0,_⟩ | ⟨_,b,off,c,rfl,h1⟩
 ·omega
 ·rw [decide_eq_false (by omega)];have hE:Ext w (w.alloc (.cells #[.bool false,.slice (some ⟨b,off,none⟩) 1 c] 120)):=(Ext.refl w).alloc _;have b1:=zdV.new 120 w (.bool false) (.slice (some ⟨b,off,none⟩) 1 c);have q0:=b1.c0;have q1:=b1.c1;have HE:=hid hE;clear hE b1 h;go_enter Tryz.func78,Tryz.ntmps78
  go_wp2
  go_ret
  exact ⟨rfl,HE.out⟩
theorem zgK (z:Int)(w:World)(he:Env w)(h0:-1000000000<z)(h1:z<1000000000) :
  Calls Tryz.prog 98 #[.int .i64 z] w fun e w'=>∃ v,e=.returned v∧W1 w' v z∧Ext w w':=by
 have hi:=fun W (hE:Ext w W)=>zes z W (he.ext hE) (by omega) (by omega);have ht:=fun W=>zg1 z W h0 h1;have hE0:Ext w (w.alloc (.cells #[.bool false,.slice none 0 0] 120)):=(Ext.refl w).alloc _;have b1:=zdV.new 120 w (.bool false) (.slice none 0 0);generalize I z=s at *;have Hi:=hid hi;have Ht:=hid ht;have HE0:=hid hE0;have B1:=hid b1;clear hi ht hE0 b1 he;go_enter Tryz.func98,Tryz.ntmps98
 go_wp2_with fail
 refine (Hi.out _ HE0.out).mono ?_;rintro e w1 ⟨rfl,hx1⟩;have Hx1:=hid hx1;clear hx1;go_wp2_with fail
 refine (Ht.out w1).mono ?_;rintro e w9 ⟨v9,rfl,hw9,hx9⟩;obtain ⟨b9,a9,l9,c9,rfl,hw9⟩:=zgD hw9;have hx:=Hx1.out.trans hx9;have hr9:=B1.out.ext hx;have hk9:K0 120 w w9 w.heap.size:=⟨HE0.out.trans hx,_,_,hr9⟩;have k0:=hk9.res.c0;have k1:=hk9.res.c1;have z0:=hk9.res.fz 0;have z1:=hk9.res.fz 1;obtain ⟨hb5,hx5⟩:=hk9.fin (Nat.le_refl _) (.bool b9) (.slice a9 l9 c9);have hs5:=zgE hw9 hr9 (by simp) (by simp) (.bool b9) (.slice a9 l9 c9);have Hb5:=hid hb5;have Hx5:=hid hx5;have Hs5:=hid hs5;clear hb5 hx5 hs5 hk9 hr9 hx9 hw9 hx;go_wp2_with fail
 have hd0:=Hb5.out.c0;have hd1:=Hb5.out.c1;exact bodyPost_ret (v:=.agg #[.bool b9,.slice a9 l9 c9]) (by simp [results,Tryz.results98,go_sem,hd0,hd1]) rfl ⟨_,rfl,Hs5.out,Hx5.out⟩
theorem zgL (z:Int)(d:Nat)(hd:0<d):(mkRat z d).num=zgx (decide (z<0)) (z.natAbs / Nat.gcd z.natAbs d)∧(mkRat z d).den=d / Nat.gcd z.natAbs d:=by
 have e1:=zdk z d (by omega);have e2:=zdl z d (by omega);have hg:0<Nat.gcd z.natAbs d:=Nat.gcd_pos_of_pos_right _ hd;refine ⟨?_,?_⟩
 ·rw [e1];unfold zgx;rcases (by omega:z<0∨0≤z) with h | h
  ·rw [decide_eq_true h,if_pos rfl];have:z=-((z.natAbs:Nat):Int):=(by omega);generalize Nat.gcd z.natAbs d=g at *;generalize z.natAbs=m at *;rw [this,Int.neg_tdiv,Int.ofNat_tdiv]
  ·rw [decide_eq_false (by omega),if_neg (by simp)];have:z=((z.natAbs:Nat):Int):=(by omega);generalize Nat.gcd z.natAbs d=g at *;generalize z.natAbs=m at *;rw [this,Int.ofNat_tdiv]
 ·rw [← Int.ofNat_tdiv] at e2;exact Int.ofNat_inj.1 e2
theorem zgM (v:Value)(z:Int)(d:Nat)(w:World)(he:Env w)(hv:W1 w v z)(hz:z.natAbs<1000000000)(hd:0<d)(hd9:d<1000000000) :
  Calls Tryz.prog 141 #[v,.int .i64 (d:Int)] w fun e w'=>e=.returned (Rv (mkRat z d))∧Ext w w':=by
 obtain ⟨m,hm⟩:∃ m,m=z.natAbs:=⟨_,rfl⟩;obtain ⟨g,hg⟩:∃ g,g=Nat.gcd z.natAbs d:=⟨_,rfl⟩;have hgp:0<g:=by rw [hg];exact Nat.gcd_pos_of_pos_right _ hd
 have hgd:g≤d:=by rw [hg];exact Nat.gcd_le_right _ hd
 obtain ⟨e1,e2⟩:=zgL z d hd;rw [← hg,← hm] at e1;rw [← hg] at e2;unfold Rv;rw [e1,e2];have hq1:m / g≤m:=Nat.div_le_self _ _;have hq2:d / g≤d:=Nat.div_le_self _ _;have hi:=fun (z:Int)(h0:-1000000000≤z)(h1:z≤1000000000) W (hE:Ext w W)=>zes z W (he.ext hE) (by omega) (by omega);have hnat1:(m:Int).tdiv (g:Int)=((m / g:Nat):Int):=(Int.ofNat_tdiv m g).symm;have hnat2:(d:Int).tdiv (g:Int)=((d / g:Nat):Int):=(Int.ofNat_tdiv d g).symm;have hnat3:(m:Int) / (g:Int)=((m / g:Nat):Int):=by simp
 have hnat4:(d:Int) / (g:Int)=((d / g:Nat):Int):=by simp
 rw [hm] at hq1 hnat1 hnat3;rw [← hm] at hq1 hnat1 hnat3;have hw:∃ sb u,v=.agg #[.bool sb,u]∧sb=decide (z<0):=by
  obtain ⟨u,e,_⟩:=hv;exact ⟨_,u,e,rfl⟩
 have hgcd:Nat.gcd m d=g:=by rw [hm,hg]
 rw [← hm] at hz;generalize hq:m / g=q at *;generalize hr:d / g=r at *;have hm2:(m:Int)=(z.natAbs:Int):=by omega
 have Hm:=hid hm2;clear hm2 hq hr;rcases zgI hv with ⟨h0,a0,c0,rfl⟩ | ⟨h0,b0,o0,c0,rfl,h1⟩
 ·have hm0:m=0:=by omega
  clear hm Hm;subst hm0;clear hnat3 hnat4;have hnat1:(0:Int).tdiv (g:Int)=(q:Int):=hnat1;have hsq:zgx (decide (z<0)) q=(q:Int):=by unfold zgx;rw [decide_eq_false (by omega)];rfl
  rw [hsq];clear hw hsq;have hE0:Ext w ((w.alloc (.cells #[.bool false,.slice a0 0 c0] 120)).alloc (.cells #[.string ⟨#[]⟩,.string ⟨#[]⟩] 60)):=((Ext.refl w).alloc _).alloc _;have b1:=(zdV.new 120 w (.bool false) (.slice a0 0 c0)).ext ((Ext.refl _).alloc (.cells #[.string ⟨#[]⟩,.string ⟨#[]⟩] 60));have b2:=zdV.new 60 (w.alloc (.cells #[.bool false,.slice a0 0 c0] 120)) (.string ⟨#[]⟩) (.string ⟨#[]⟩);rw [World.size_alloc] at b2;skip;generalize hV:(w.alloc (.cells #[.bool false,.slice a0 0 c0] 120)).alloc (.cells #[.string ⟨#[]⟩,.string ⟨#[]⟩] 60)=V at *;have p0:=b1.c0;have p1:=b1.c1;have hk:K0 60 w V (w.heap.size+1):=⟨hE0,_,_,b2⟩;have Hk:=hid hk;have B1:=hid b1;have Hi:=hid hi;have Hgcd:=hid hgcd;clear hE0 b1 b2 hk hv hi hgcd e1 e2 hg he;go_enter Tryz.func141,Tryz.ntmps141
  go_wp2_with fail
  go_loopw [6,7] (fun v6 v7 wr=>∃ a b:Nat,v6=.int .i64 (a:Int)∧v7=.int .i64 (b:Int)∧Hid (Nat.gcd a b=g)∧a<1000000000∧b<1000000000∧Hid (Ext V wr)) (fun _ v7 _=>(zag v7).toNat)
  case atStart=>exact ⟨0,d,rfl,rfl,Hgcd,by omega,hd9,hid (Ext.refl _)⟩
  case round =>
   obtain ⟨a,b,rfl,rfl,hab,ha9,hb9,hEr⟩:=hrel;by_cases h0:0<b
   ·have hbz:(0:Int)<(b:Int):=(by omega);have hb0:¬ (b:Int)=0:=(by omega);have hbn:¬ b=0:=(by omega);have hbb:((b:Int) == 0)=false:=beq_eq_false_iff_ne.2 hb0;have hmd:(a:Int).tmod (b:Int)=((a % b:Nat):Int):=(Int.ofNat_tmod a b).symm;have hmd2:(a:Int) % (b:Int)=((a % b:Nat):Int):=(by simp);have hml:=Nat.mod_lt a h0;have hgs:Hid (Nat.gcd b (a % b)=g):=hid (by rw [← hab.out,Nat.gcd_comm a b,Nat.gcd_rec b a,Nat.gcd_comm]);obtain ⟨c,hc⟩:∃ c,a % b=c:=⟨_,rfl⟩;rw [hc] at hmd hmd2 hml hgs;have Hc:=hid hc;clear hc;have hcb:(c:Int)≤1000000000:=(by omega);go_wp2_with fail
    go_quiet (fail)
    go_wp2_with fail
    go_roundw
    case rel=>exact ⟨b,c,by first | rfl | go_num,by first | rfl | go_num,hgs,hb9,by omega,hid (hEr.out.drewN _)⟩
    case measure=>simp [zag];omega
   ·obtain rfl:b=0:=by omega
    have hag:a=g:=(by have:=hab.out;rwa [Nat.gcd_zero_right] at this);subst hag;have hg0:¬ (a:Int)=0:=(by omega);have hgn:¬ a=0:=(by omega);have hgb:((a:Int) == 0)=false:=beq_eq_false_iff_ne.2 hg0;have hkr:=Hk.out.ext hEr.out;have p0:=hEr.out.cell p0;have hqb:(q:Int)≤1000000000:=(by omega);have hrb:(r:Int)≤1000000000:=(by omega);have hi1:=fun W (hx:Ext wr W)=>Hi.out (q:Int) (by omega) (by omega) W (hkr.x.trans hx);have hi2:=fun W (hx:Ext wr W)=>Hi.out (r:Int) (by omega) (by omega) W (hkr.x.trans hx);generalize hs1:I ((q:Int))=s1 at *;generalize hs2:I (r:Int)=s2 at *;have Hs1:=hid hs1;have Hs2:=hid hs2;clear hs1 hs2;have Hkr:=hid hkr;have Hi1:=hid hi1;have Hi2:=hid hi2;clear hkr hi1 hi2 hab;go_wp2_with fail
    go_quiet (fail)
    have p0:=((Ext.refl wr).drewN nq).cell p0;go_wp2_with fail
    refine (Hi1.out _ ((Ext.refl wr).drewN _)).mono ?_;rintro e w8 ⟨rfl,hx8⟩;have Hx8:=hid (((Ext.refl wr).drewN nq).trans hx8);clear hx8 p0;go_wp2_with fail
    refine (Hi2.out w8 Hx8.out).mono ?_;rintro e w9 ⟨rfl,hx9⟩;have hk9:=Hkr.out.ext (Hx8.out.trans hx9);have k0:=hk9.res.c0;have k1:=hk9.res.c1;have z0:=hk9.res.fz 0;have z1:=hk9.res.fz 1;obtain ⟨hb5,hx5⟩:=hk9.fin (by omega) (.string s1) (.string s2);have Hb5:=hid hb5;have Hx5:=hid hx5;clear hb5 hx5 hk9 hx9;go_wp2_with fail
    have hd0:=Hb5.out.c0;have hd1:=Hb5.out.c1;exact bodyPost_ret (v:=.agg #[.string s1,.string s2]) (by simp [results,Tryz.results141,go_sem,hd0,hd1]) rfl ⟨by rw [Hs1.out,Hs2.out],Hx5.out⟩
 ·rw [← hm] at h1;clear hm;rcases (by omega:z<0∨¬ z<0) with hs | hs
  ·have hsq:zgx (decide (z<0)) q=-(q:Int):=(by unfold zgx;rw [decide_eq_true hs];rfl);rw [hsq];rw [decide_eq_true hs] at *;clear hw hsq hs;have hE0:Ext w ((w.alloc (.cells #[.bool true,.slice (some ⟨b0,o0,none⟩) 1 c0] 120)).alloc (.cells #[.string ⟨#[]⟩,.string ⟨#[]⟩] 60)):=((Ext.refl w).alloc _).alloc _;have b1:=(zdV.new 120 w (.bool true) (.slice (some ⟨b0,o0,none⟩) 1 c0)).ext ((Ext.refl _).alloc (.cells #[.string ⟨#[]⟩,.string ⟨#[]⟩] 60));have b2:=zdV.new 60 (w.alloc (.cells #[.bool true,.slice (some ⟨b0,o0,none⟩) 1 c0] 120)) (.string ⟨#[]⟩) (.string ⟨#[]⟩);rw [World.size_alloc] at b2;have hl1:=hE0.cell h1;generalize hV:(w.alloc (.cells #[.bool true,.slice (some ⟨b0,o0,none⟩) 1 c0] 120)).alloc (.cells #[.string ⟨#[]⟩,.string ⟨#[]⟩] 60)=V at *;have p0:=b1.c0;have p1:=b1.c1;have hk:K0 60 w V (w.heap.size+1):=⟨hE0,_,_,b2⟩;have Hk:=hid hk;have B1:=hid b1;have Hi:=hid hi;have Hgcd:=hid hgcd;clear hE0 b1 b2 hk hv hi hgcd e1 e2 hg he;go_enter Tryz.func141,Tryz.ntmps141
   go_wp2_with fail
   go_loopw [6,7] (fun v6 v7 wr=>∃ a b:Nat,v6=.int .i64 (a:Int)∧v7=.int .i64 (b:Int)∧Hid (Nat.gcd a b=g)∧a<1000000000∧b<1000000000∧Hid (Ext V wr)) (fun _ v7 _=>(zag v7).toNat)
   case atStart=>exact ⟨m,d,rfl,rfl,Hgcd,by omega,hd9,hid (Ext.refl _)⟩
   case round =>
    obtain ⟨a,b,rfl,rfl,hab,ha9,hb9,hEr⟩:=hrel;by_cases h0:0<b
    ·have hbz:(0:Int)<(b:Int):=(by omega);have hb0:¬ (b:Int)=0:=(by omega);have hbn:¬ b=0:=(by omega);have hbb:((b:Int) == 0)=false:=beq_eq_false_iff_ne.2 hb0;have hmd:(a:Int).tmod (b:Int)=((a % b:Nat):Int):=(Int.ofNat_tmod a b).symm;have hmd2:(a:Int) % (b:Int)=((a % b:Nat):Int):=(by simp);have hml:=Nat.mod_lt a h0;have hgs:Hid (Nat.gcd b (a % b)=g):=hid (by rw [← hab.out,Nat.gcd_comm a b,Nat.gcd_rec b a,Nat.gcd_comm]);obtain ⟨c,hc⟩:∃ c,a % b=c:=⟨_,rfl⟩;rw [hc] at hmd hmd2 hml hgs;have Hc:=hid hc;clear hc;have hcb:(c:Int)≤1000000000:=(by omega);go_wp2_with fail
     go_quiet (fail)
     go_wp2_with fail
     go_roundw
     case rel=>exact ⟨b,c,by first | rfl | go_num,by first | rfl | go_num,hgs,hb9,by omega,hid (hEr.out.drewN _)⟩
     case measure=>simp [zag];omega
    ·obtain rfl:b=0:=by omega
     have hag:a=g:=(by have:=hab.out;rwa [Nat.gcd_zero_right] at this);subst hag;have hg0:¬ (a:Int)=0:=(by omega);have hgn:¬ a=0:=(by omega);have hgb:((a:Int) == 0)=false:=beq_eq_false_iff_ne.2 hg0;have hkr:=Hk.out.ext hEr.out;have p0:=hEr.out.cell p0;have hqb:(q:Int)≤1000000000:=(by omega);have hrb:(r:Int)≤1000000000:=(by omega);have hi1:=fun W (hx:Ext wr W)=>Hi.out (-(q:Int)) (by omega) (by omega) W (hkr.x.trans hx);have hi2:=fun W (hx:Ext wr W)=>Hi.out (r:Int) (by omega) (by omega) W (hkr.x.trans hx);generalize hs1:I (-(q:Int))=s1 at *;generalize hs2:I (r:Int)=s2 at *;have Hs1:=hid hs1;have Hs2:=hid hs2;clear hs1 hs2;have Hkr:=hid hkr;have Hi1:=hid hi1;have Hi2:=hid hi2;clear hkr hi1 hi2 hab;go_wp2_with fail
     go_quiet (fail)
     have p0:=((Ext.refl wr).drewN nq).cell p0;go_wp2_with fail
     refine (Hi1.out _ ((Ext.refl wr).drewN _)).mono ?_;rintro e w8 ⟨rfl,hx8⟩;have Hx8:=hid (((Ext.refl wr).drewN nq).trans hx8);clear hx8 p0;go_wp2_with fail
     refine (Hi2.out w8 Hx8.out).mono ?_;rintro e w9 ⟨rfl,hx9⟩;have hk9:=Hkr.out.ext (Hx8.out.trans hx9);have k0:=hk9.res.c0;have k1:=hk9.res.c1;have z0:=hk9.res.fz 0;have z1:=hk9.res.fz 1;obtain ⟨hb5,hx5⟩:=hk9.fin (by omega) (.string s1) (.string s2);have Hb5:=hid hb5;have Hx5:=hid hx5;clear hb5 hx5 hk9 hx9;go_wp2_with fail
     have hd0:=Hb5.out.c0;have hd1:=Hb5.out.c1;exact bodyPost_ret (v:=.agg #[.string s1,.string s2]) (by simp [results,Tryz.results141,go_sem,hd0,hd1]) rfl ⟨by rw [Hs1.out,Hs2.out],Hx5.out⟩
  ·have hsq:zgx (decide (z<0)) q=(q:Int):=(by unfold zgx;rw [decide_eq_false hs];rfl);rw [hsq];rw [decide_eq_false hs] at *;clear hw hsq hs;have hE0:Ext w ((w.alloc (.cells #[.bool false,.slice (some ⟨b0,o0,none⟩) 1 c0] 120)).alloc (.cells #[.string ⟨#[]⟩,.string ⟨#[]⟩] 60)):=((Ext.refl w).alloc _).alloc _;have b1:=(zdV.new 120 w (.bool false) (.slice (some ⟨b0,o0,none⟩) 1 c0)).ext ((Ext.refl _).alloc (.cells #[.string ⟨#[]⟩,.string ⟨#[]⟩] 60));have b2:=zdV.new 60 (w.alloc (.cells #[.bool false,.slice (some ⟨b0,o0,none⟩) 1 c0] 120)) (.string ⟨#[]⟩) (.string ⟨#[]⟩);rw [World.size_alloc] at b2;have hl1:=hE0.cell h1;generalize hV:(w.alloc (.cells #[.bool false,.slice (some ⟨b0,o0,none⟩) 1 c0] 120)).alloc (.cells #[.string ⟨#[]⟩,.string ⟨#[]⟩] 60)=V at *;have p0:=b1.c0;have p1:=b1.c1;have hk:K0 60 w V (w.heap.size+1):=⟨hE0,_,_,b2⟩;have Hk:=hid hk;have B1:=hid b1;have Hi:=hid hi;have Hgcd:=hid hgcd;clear hE0 b1 b2 hk hv hi hgcd e1 e2 hg he;go_enter Tryz.func141,Tryz.ntmps141
   go_wp2_with fail
   go_loopw [6,7] (fun v6 v7 wr=>∃ a b:Nat,v6=.int .i64 (a:Int)∧v7=.int .i64 (b:Int)∧Hid (Nat.gcd a b=g)∧a<1000000000∧b<1000000000∧Hid (Ext V wr)) (fun _ v7 _=>(zag v7).toNat)
   case atStart=>exact ⟨m,d,rfl,rfl,Hgcd,by omega,hd9,hid (Ext.refl _)⟩
   case round =>
    obtain ⟨a,b,rfl,rfl,hab,ha9,hb9,hEr⟩:=hrel;by_cases h0:0<b
    ·have hbz:(0:Int)<(b:Int):=(by omega);have hb0:¬ (b:Int)=0:=(by omega);have hbn:¬ b=0:=(by omega);have hbb:((b:Int) == 0)=false:=beq_eq_false_iff_ne.2 hb0;have hmd:(a:Int).tmod (b:Int)=((a % b:Nat):Int):=(Int.ofNat_tmod a b).symm;have hmd2:(a:Int) % (b:Int)=((a % b:Nat):Int):=(by simp);have hml:=Nat.mod_lt a h0;have hgs:Hid (Nat.gcd b (a % b)=g):=hid (by rw [← hab.out,Nat.gcd_comm a b,Nat.gcd_rec b a,Nat.gcd_comm]);obtain ⟨c,hc⟩:∃ c,a % b=c:=⟨_,rfl⟩;rw [hc] at hmd hmd2 hml hgs;have Hc:=hid hc;clear hc;have hcb:(c:Int)≤1000000000:=(by omega);go_wp2_with fail
     go_quiet (fail)
     go_wp2_with fail
     go_roundw
     case rel=>exact ⟨b,c,by first | rfl | go_num,by first | rfl | go_num,hgs,hb9,by omega,hid (hEr.out.drewN _)⟩
     case measure=>simp [zag];omega
    ·obtain rfl:b=0:=by omega
     have hag:a=g:=(by have:=hab.out;rwa [Nat.gcd_zero_right] at this);subst hag;have hg0:¬ (a:Int)=0:=(by omega);have hgn:¬ a=0:=(by omega);have hgb:((a:Int) == 0)=false:=beq_eq_false_iff_ne.2 hg0;have hkr:=Hk.out.ext hEr.out;have p0:=hEr.out.cell p0;have hqb:(q:Int)≤1000000000:=(by omega);have hrb:(r:Int)≤1000000000:=(by omega);have hi1:=fun W (hx:Ext wr W)=>Hi.out (q:Int) (by omega) (by omega) W (hkr.x.trans hx);have hi2:=fun W (hx:Ext wr W)=>Hi.out (r:Int) (by omega) (by omega) W (hkr.x.trans hx);generalize hs1:I ((q:Int))=s1 at *;generalize hs2:I (r:Int)=s2 at *;have Hs1:=hid hs1;have Hs2:=hid hs2;clear hs1 hs2;have Hkr:=hid hkr;have Hi1:=hid hi1;have Hi2:=hid hi2;clear hkr hi1 hi2 hab;go_wp2_with fail
     go_quiet (fail)
     have p0:=((Ext.refl wr).drewN nq).cell p0;go_wp2_with fail
     refine (Hi1.out _ ((Ext.refl wr).drewN _)).mono ?_;rintro e w8 ⟨rfl,hx8⟩;have Hx8:=hid (((Ext.refl wr).drewN nq).trans hx8);clear hx8 p0;go_wp2_with fail
     refine (Hi2.out w8 Hx8.out).mono ?_;rintro e w9 ⟨rfl,hx9⟩;have hk9:=Hkr.out.ext (Hx8.out.trans hx9);have k0:=hk9.res.c0;have k1:=hk9.res.c1;have z0:=hk9.res.fz 0;have z1:=hk9.res.fz 1;obtain ⟨hb5,hx5⟩:=hk9.fin (by omega) (.string s1) (.string s2);have Hb5:=hid hb5;have Hx5:=hid hx5;clear hb5 hx5 hk9 hx9;go_wp2_with fail
     have hd0:=Hb5.out.c0;have hd1:=Hb5.out.c1;exact bodyPost_ret (v:=.agg #[.string s1,.string s2]) (by simp [results,Tryz.results141,go_sem,hd0,hd1]) rfl ⟨by rw [Hs1.out,Hs2.out],Hx5.out⟩
theorem zgN (va vb:Value)(x:Int)(d:Nat)(w:World)(he:Env w)(ha:W1 w va x)(hb:W1 w vb (d:Int))(hx:x.natAbs<1000000000)(hd:0<d)(hd9:d<1000000000) :
  Calls Tryz.prog 97 #[va,vb] w fun e w'=>e=.returned (Rv (mkRat x d))∧Ext w w':=by
 have hsg:=fun W (hE:Ext w W)=>zgJ vb (d:Int) W (hb.ext hE) (by omega);have hli:=fun W (hE:Ext w W)=>zgM va x d W (he.ext hE) (ha.ext hE) hx hd hd9;unfold Rv at hli ⊢;generalize I (mkRat x d).num=s1 at *;generalize I ((mkRat x d).den:Int)=s2 at *;obtain ⟨bx,aa,la,ca,rfl,hla⟩:∃ (bx:Bool)(aa:Option Addr)(la ca:Nat),va=.agg #[.bool bx,.slice aa la ca]∧la≤1:=by
  rcases zgI ha with ⟨_,a,c,e⟩ | ⟨_,b,o,c,e,_⟩
  ·exact ⟨_,a,0,c,e,by omega⟩
  ·exact ⟨_,_,1,c,e,by omega⟩
 rcases zgI hb with ⟨h0,_⟩ | ⟨_,b0,o0,c0,rfl,h1⟩
 ·omega
 ·rw [decide_eq_false (by omega)] at *;rw [Int.natAbs_natCast] at h1;have hk2:=zdX 120 120 60 w (.bool bx) (.slice aa la ca) (.bool false) (.slice (some ⟨b0,o0,none⟩) 1 c0) (.string ⟨#[]⟩) (.string ⟨#[]⟩);generalize hV:((w.alloc (.cells #[.bool bx,.slice aa la ca] 120)).alloc (.cells #[.bool false,.slice (some ⟨b0,o0,none⟩) 1 c0] 120)).alloc (.cells #[.string ⟨#[]⟩,.string ⟨#[]⟩] 60)=V at *;obtain ⟨hk,_⟩:=hk2;have p0:=hk.a.c0;have p1:=hk.a.c1;have q0:=hk.b.c0;have q1:=hk.b.c1;have hlai:(la:Int)≤1:=by omega
  have Hk:=hid hk;have Hsg:=hid hsg;have Hli:=hid hli;have H1:=hid h1;clear hk hsg hli h1 ha hb he hla;go_enter Tryz.func97,Tryz.ntmps97
  go_wp2_with fail
  refine (Hsg.out V Hk.out.x).mono ?_;rintro e w1 ⟨rfl,hx1⟩;have hk1:=Hk.out.ext hx1;have p0:=hk1.a.c0;have p1:=hk1.a.c1;have q0:=hk1.b.c0;have q1:=hk1.b.c1;have h1:=hk1.x.cell H1.out;have Hk1:=hid hk1;clear hk1 hx1;go_wp2_with fail
  go_region_held3 (fun w'=>w'.cell? ⟨b0,o0,none⟩=some (.int .i64 (d:Int))∧K2 120 120 60 w w' w.heap.size (.bool bx) (.slice aa la ca) (w.heap.size+1) (.bool false) (.slice (some ⟨b0,o0,none⟩) 1 c0) (w.heap.size+1+1)∧w'.cell? ⟨w.heap.size,0,none⟩=some (.bool bx)∧w'.cell? ⟨w.heap.size,1,none⟩=some (.slice aa la ca)∧w'.cell? ⟨w.heap.size+1,0,none⟩=some (.bool false)∧w'.cell? ⟨w.heap.size+1,1,none⟩=some (.slice (some ⟨b0,o0,none⟩) 1 c0)∧w'.cell? ⟨w.heap.size+1+1,0,none⟩=some (zdL w' (w.heap.size+1+1) 0)∧w'.cell? ⟨w.heap.size+1+1,1,none⟩=some (zdL w' (w.heap.size+1+1) 1)∧w'.frozen? ⟨w.heap.size+1+1,0,none⟩=false∧w'.frozen? ⟨w.heap.size+1+1,1,none⟩=false)
   (first | exact ⟨HkA.out.x.cell H1.out,HkA.out.all⟩ | exact ⟨(Hk1.out.ext ((Ext.refl w1).drew)).x.cell H1.out,(Hk1.out.ext ((Ext.refl w1).drew)).all⟩ | exact ⟨(HkA.out.put (by omega) (by omega) (by omega) (.string s1) (.string s2)).x.cell H1.out,(HkA.out.put (by omega) (by omega) (by omega) (.string s1) (.string s2)).all⟩)
   (first | (go_at_call 141;refine (Hli.out _ Hk1.out.x.drew).mono ?_;rintro e9 VA ⟨rfl,hxa⟩;have HkA:=hid (Hk1.out.ext (((Ext.refl w1).drew).trans hxa));clear hxa))
  all_goals
   obtain ⟨hb,hfx⟩:=HkA.out.fin (by omega) (.string s1) (.string s2);have Hfx:=hid hfx;clear hfx;generalize (VA.setCell ⟨w.heap.size+1+1,0,none⟩ (.string s1)).setCell ⟨w.heap.size+1+1,1,none⟩ (.string s2)=W5 at *;have hd0:=hb.c0;have hd1:=hb.c1;go_wp2_with fail
   exact bodyPost_ret (v:=.agg #[.string s1,.string s2]) (by simp [results,Tryz.results97,go_sem,hd0,hd1]) rfl ⟨rfl,Hfx.out⟩
theorem zgO (x:Int)(d:Nat)(w:World)(he:Env w)(hx:x.natAbs<1000000000)(hd:0<d)(hd9:d<1000000000) :
  Calls Tryz.prog 71 #[.int .i64 x,.int .i64 (d:Int)] w fun e w'=>e=.returned (Rv (mkRat x d))∧Ext w w':=by
 have ho1:=fun W (hE:Ext w W)=>zgK x W (he.ext hE) (by omega) (by omega);have ho2:=fun W (hE:Ext w W)=>zgK (d:Int) W (he.ext hE) (by omega) (by omega);have hmk:=fun W va vb (hE:Ext w W)(ha:W1 W va x)(hb:W1 W vb (d:Int))=>zgN va vb x d W (he.ext hE) ha hb hx hd hd9;unfold Rv at hmk ⊢;generalize I (mkRat x d).num=s1 at *;generalize I ((mkRat x d).den:Int)=s2 at *;have hE0:Ext w (w.alloc (.cells #[.string ⟨#[]⟩,.string ⟨#[]⟩] 60)):=(Ext.refl w).alloc _;have b1:=zdV.new 60 w (.string ⟨#[]⟩) (.string ⟨#[]⟩);have Ho1:=hid ho1;have Ho2:=hid ho2;have Hmk:=hid hmk;have HE0:=hid hE0;have B1:=hid b1;clear ho1 ho2 hmk hE0 b1 he;go_enter Tryz.func71,Tryz.ntmps71
 go_wp2_with fail
 refine (Ho1.out _ HE0.out).mono ?_;rintro e w1 ⟨v1,rfl,hw1,hx1⟩;obtain ⟨b7,a7,l7,c7,rfl,hw1⟩:=zgD hw1;have Hx1:=hid hx1;have Hw1:=hid hw1;clear hx1 hw1;go_wp2_with fail
 refine (Ho2.out w1 (HE0.out.trans Hx1.out)).mono ?_;rintro e w2 ⟨v2,rfl,hw2,hx2⟩;obtain ⟨b8,a8,l8,c8,rfl,hw2⟩:=zgD hw2;have hm2:=Hmk.out w2 _ _ ((HE0.out.trans Hx1.out).trans hx2) (Hw1.out.ext hx2) hw2;have Hx2:=hid (Hx1.out.trans hx2);have Hm2:=hid hm2;clear hx2 hw2 hm2;go_wp2_with fail
 refine Hm2.out.mono ?_;rintro e w3 ⟨rfl,hx3⟩;have hx:=Hx2.out.trans hx3;have hk9:K0 60 w w3 w.heap.size:=⟨HE0.out.trans hx,_,_,B1.out.ext hx⟩;have k0:=hk9.res.c0;have k1:=hk9.res.c1;have z0:=hk9.res.fz 0;have z1:=hk9.res.fz 1;obtain ⟨hb5,hx5⟩:=hk9.fin (Nat.le_refl _) (.string s1) (.string s2);have Hb5:=hid hb5;have Hx5:=hid hx5;clear hb5 hx5 hk9 hx hx3;go_wp2_with fail
 have hd0:=Hb5.out.c0;have hd1:=Hb5.out.c1;exact bodyPost_ret (v:=.agg #[.string s1,.string s2]) (by simp [results,Tryz.results71,go_sem,hd0,hd1]) rfl ⟨rfl,Hx5.out⟩
theorem zgP (x:Int)(d:Nat)(w:World)(he:Env w)(hx:x.natAbs<1000000000)(hd:0<d)(hd9:d<1000000000) :
  Calls Tryz.prog 36 #[.int .i64 x,.int .i64 (d:Int)] w fun e w'=>e=.returned (Rv (mkRat x d))∧Ext w w':=by
 have hmk:=fun W (hE:Ext w W)=>zgO x d W (he.ext hE) hx hd hd9;unfold Rv at hmk ⊢;generalize I (mkRat x d).num=s1 at *;generalize I ((mkRat x d).den:Int)=s2 at *;have hE0:Ext w (w.alloc (.cells #[.string ⟨#[]⟩,.string ⟨#[]⟩] 60)):=(Ext.refl w).alloc _;have b1:=zdV.new 60 w (.string ⟨#[]⟩) (.string ⟨#[]⟩);have Hmk:=hid hmk;have HE0:=hid hE0;have B1:=hid b1;clear hmk hE0 b1 he;go_enter Tryz.func36,Tryz.ntmps36
 go_wp2_with fail
 refine (Hmk.out _ HE0.out).mono ?_;rintro e w3 ⟨rfl,hx⟩;have hk9:K0 60 w w3 w.heap.size:=⟨HE0.out.trans hx,_,_,B1.out.ext hx⟩;have k0:=hk9.res.c0;have k1:=hk9.res.c1;have z0:=hk9.res.fz 0;have z1:=hk9.res.fz 1;obtain ⟨hb5,hx5⟩:=hk9.fin (Nat.le_refl _) (.string s1) (.string s2);have Hb5:=hid hb5;have Hx5:=hid hx5;clear hb5 hx5 hk9 hx;go_wp2_with fail
 have hd0:=Hb5.out.c0;have hd1:=Hb5.out.c1;exact bodyPost_ret (v:=.agg #[.string s1,.string s2]) (by simp [results,Tryz.results36,go_sem,hd0,hd1]) rfl ⟨rfl,Hx5.out⟩
end Go.Proofs.YtbkfhacmekbniaaGreatDoor
