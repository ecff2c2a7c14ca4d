/- Walks: law 31's primes of a world. Walks: law 31's Make. scale.note over a plain right scale. Walks: law 31's note at any index to a million. -/
import Derived.Test.YtbkfhacmekbniaaGreatDoorPa23
import Derived.Test.YtbkfhacmekbniaaGreatDoorPa19
import Derived.Test.YtbkfhacmekbniaaGreatDoorPa18
import Derived.Deep.RegionHeld3
import Derived.Test.YtbkfhacmekbniaaGreatDoorPa21
set_option maxRecDepth 100000
set_option maxHeartbeats 800000
namespace Go.Proofs.YtbkfhacmekbniaaGreatDoor
section
open Go.RowKit Go.Lib Go.Shelf
attribute [local go_sem] Oper.semAt_some
def Wl.cs (a:Wl):Array Value:=#[.bool a.three,.int .u8 a.kind,.int .u8 a.num,.int .i8 (a.xs 0).a,.int .i8 (a.xs 0).b,.int .i8 (a.xs 0).c,.int .i8 (a.xs 1).a,.int .i8 (a.xs 1).b,.int .i8 (a.xs 1).c,.int .i8 (a.xs 2).a,.int .i8 (a.xs 2).b,.int .i8 (a.xs 2).c,.int .i8 (a.xs 3).a,.int .i8 (a.xs 3).b,.int .i8 (a.xs 3).c,.int .i8 (a.xs 4).a,.int .i8 (a.xs 4).b,.int .i8 (a.xs 4).c,.int .i8 (a.xs 5).a,.int .i8 (a.xs 5).b,.int .i8 (a.xs 5).c,.int .i8 (a.xs 6).a,.int .i8 (a.xs 6).b,.int .i8 (a.xs 6).c,.int .i8 (a.xs 7).a,.int .i8 (a.xs 7).b,.int .i8 (a.xs 7).c]
def Wl.v (a:Wl):Value:=.agg a.cs
theorem zlz {w:World}{B:Nat}(T:TypeId)(xs:Array Value)(hB:B≤w.heap.size)(hm:xs.size≤maxLen):(w.alloc (.cells xs T)).ownsRow B T 1 (.slice (some ⟨w.heap.size,0,none⟩) xs.size xs.size) xs.size xs.toList :=
 ⟨by simp,.inr ⟨w.heap.size,xs.size,xs,rfl,hB,World.alloc_heap_new w _,Nat.le_refl _,hm,by simp,by rw [Nat.mul_one,← Array.length_toList,List.take_length]⟩⟩
theorem zl0 (a:Wl)(w:World) :
  Calls Tryz.prog 7 #[a.v] w fun e w'=>∃ u,e=.returned u∧w'.ownsRow w.heap.size 3 1 u a.p.length (zak a.p)∧Ext w w':=by
 obtain ⟨W1,hW1⟩:∃ W1,W1=w.alloc (.cells a.cs 26):=⟨_,rfl⟩;have hE:Ext w W1:=by rw [hW1];exact (Ext.refl w).alloc _
 have hc:W1.cell? ⟨w.heap.size,0,none⟩=some (.bool a.three):=by
  unfold World.cell?;rw [hW1];dsimp only;rw [World.alloc_heap_new w _];rfl
 have HE:=hid hE;unfold Wl.v;unfold Wl.p;clear hE
 cases h3:a.three
 ·rw [h3] at hc;unfold Wl.cs at hW1 ⊢;rw [h3] at hW1 ⊢;clear h3;go_enter Tryz.func7,Tryz.ntmps7
  go_wp2_with fail
  go_ret
  rw [← hW1];have hon:=zlz (w:=W1) (B:=w.heap.size) 3 #[.int .i64 2,.int .i64 3] HE.out.size (by unfold maxLen;simp);have hsz:W1.heap.size=w.heap.size+1:=by rw [hW1,World.size_alloc]
  rw [hsz] at hon;exact ⟨_,rfl,hon,HE.out.alloc _⟩
 ·rw [h3] at hc;unfold Wl.cs at hW1 ⊢;rw [h3] at hW1 ⊢;clear h3;go_enter Tryz.func7,Tryz.ntmps7
  go_wp2_with fail
  go_ret
  rw [← hW1];have hon:=zlz (w:=W1) (B:=w.heap.size) 3 #[.int .i64 2,.int .i64 3,.int .i64 5] HE.out.size (by unfold maxLen;simp);have hsz:W1.heap.size=w.heap.size+1:=by rw [hW1,World.size_alloc]
  rw [hsz] at hon;exact ⟨_,rfl,hon,HE.out.alloc _⟩
theorem zl1 {z:Int}(h0:-1000000≤z)(h1:z≤1000000):IntKind.i64.wrap z=z :=
 IntWalk.i64_in _ (by omega)
theorem zl2 {n:Nat}(h0:0<n)(h9:n≤9):Sn (mkRat 1 n):=by
 unfold Sn;obtain rfl | rfl | rfl | rfl | rfl | rfl | rfl | rfl | rfl:n=1∨n=2∨n=3∨n=4∨n=5∨n=6∨n=7∨n=8∨n=9:=by omega
 all_goals decide +kernel
theorem zl3 (k:Nat):∀ q∈ov k,Sn q:=by
 intro q hq;unfold ov at hq;rcases List.mem_cons.1 hq with e | e
 ·rw [e];unfold Sn;decide +kernel
 ·rw [List.eq_of_mem_replicate e];unfold Sn;decide +kernel
theorem zl4 (x:I3)(i:Nat):Sn (zkS x i):=by
 have h:=zkV (x.at i);unfold zkS;generalize (x.at i).tmod 9=z at *;have key:∀ j:Fin 17,Sn (mkRat ((j.val:Int) - 8) 1)∧Sn (mkRat ((j.val:Int) - 8) 2):=by unfold Sn;decide +kernel
 have h2:=key ⟨(z+8).toNat,by omega⟩;dsimp only at h2;rw [show (((z+8).toNat:Nat):Int) - 8=z by omega] at h2;unfold dnm;split
 ·exact h2.2
 ·exact h2.1
theorem zl5 (n:Nat)(x:I3):∀ q∈szW n x,Sn q:=by
 intro q hq;unfold szW at hq;obtain ⟨i,_,rfl⟩:=List.mem_map.1 hq;exact zl4 x i
theorem zl6 (k n:Nat)(h0:0<n)(h9:n≤9):∀ q∈zeW (ov k) (mkRat 1 n),Sn q:=by
 intro q hq;unfold zeW ov at hq;rw [List.map_cons,List.map_replicate] at hq;rcases List.mem_cons.1 hq with e | e
 ·rw [e,Rat.one_mul];exact zl2 h0 h9
 ·rw [List.eq_of_mem_replicate e,Rat.zero_mul];unfold Sn;decide +kernel
theorem zl7 {W:World}{b B:Nat}{u v x y vp vn:Value}{p:List Int}{out:List Qw}(hb:zdV 36 W b u v)(hp:W.ownsRow B 3 1 vp p.length (zak p))(hn:W.ownsRow B 32 1 vn out.length (qwc out))(hr:∀ r∈out,zf6 W B r.u r.x):ScV ((W.setCell ⟨b,0,none⟩ x).setCell ⟨b,1,none⟩ y) (.agg #[vp,vn]) p out:=by
 refine ⟨vp,vn,rfl,?_,?_,fun r h=>?_⟩
 ·have:=zgk (zdV.put0 hb x) (zgk hb hp (by decide) 0 x) (by decide) 1 y;rw [← zam] at this;exact zai this
 ·have:=zgk (zdV.put0 hb x) (zgk hb hn (by decide) 0 x) (by decide) 1 y;rw [← zf9] at this;exact zai this
 ·exact zf6.rd (zgk (zdV.put0 hb x) (zgk hb (hr r h) (by decide) 0 x) (by decide) 1 y)
theorem zl8 {W:World}{b B B':Nat}{u v x y vp vn vb:Value}{p:List Int}{o:List Rat}{out:List Qw}(hb:zdV 36 W b u v)(hp:W.ownsRow B 3 1 vp p.length (zak p))(hn:W.ownsRow B 32 1 vn out.length (qwc out))(hB:B≤B')(ho:zf6 W B vb o)(hr:∀ r∈out,(r.u=vb∧r.x=o)∨zf6 W B' r.u r.x):ScV ((W.setCell ⟨b,0,none⟩ x).setCell ⟨b,1,none⟩ y) (.agg #[vp,vn]) p out :=
 zl7 hb hp hn fun r h=>by
  rcases hr r h with ⟨e1,e2⟩ | e
  ·rw [e1,e2];exact ho
  ·exact e.mono hB
theorem zl9 {p:List Int}{l l' N:List (List Rat)}(h:l=l')(hc:zjT p l N):zjT p l' N:=by rw [← h];exact hc
theorem zlA (a:Wl)(w:World)(he:Env w)(ha:a.Ok) :
  Calls Tryz.prog 16 #[a.v] w fun e w'=>∃ v out,e=.returned v∧ScV w' v a.p out∧zjT a.p a.sizes (out.map Qw.x)∧Ext w w':=by
 have hpr:=fun W (_:Ext w W)=>zl0 a W;obtain ⟨W2,hW2⟩:∃ W2,W2=(w.alloc (.cells a.cs 26)).alloc (.cells #[.slice none 0 0,.slice none 0 0] 36):=⟨_,rfl⟩;have hE:Ext w W2:=by rw [hW2];exact ((Ext.refl w).alloc _).alloc _
 have hb:W2.heap[w.heap.size]?=some (.cells a.cs 26 (0,0)):=by
  rw [hW2];exact ((Ext.refl _).alloc _).heap (World.alloc_heap_new w _)
 have b0:zdV 36 W2 (w.heap.size+1) (.slice none 0 0) (.slice none 0 0):=by
  have:=zdV.new 36 (w.alloc (.cells a.cs 26)) (.slice none 0 0) (.slice none 0 0);rw [World.size_alloc] at this;rw [hW2];exact this
 have hcell:∀ W,Ext W2 W→∀ k,W.cell? ⟨w.heap.size,k,none⟩=a.cs[k]?:=fun W hx k=>by
  unfold World.cell?;dsimp only;rw [hx.heap hb];rfl
 have hrl:W2.rangeAt w.heap.size 0 a.cs.toList:=fun j v hj=>by
  rw [hcell W2 (Ext.refl _),Nat.zero_add,← Array.getElem?_toList];exact hj
 have hun:=Tryz.underlying26;have hin:(Tryz.prog.info? 26).map (·.size)=some a.cs.toList.length:=by
  rw [Array.length_toList];kernel_rfl
 rw [hW2] at hrl;have hn9:=a.n9;have hpw:=a.pw;have HE:=hid hE;have B0:=hid b0;have Hcell:=hid hcell;have Hpr:=hid hpr;have He:=hid he;have Ha:=hid ha;have Hpw:=hid hpw;clear hE b0 hcell hpr he ha hb hpw;have hv:a.v=.agg a.cs:=rfl;have Hv:=hid hv;rw [hv];clear hv;have hcs2:Wl.cs a=#[.bool a.three,.int .u8 a.kind,.int .u8 a.num,.int .i8 (a.xs 0).a,.int .i8 (a.xs 0).b,.int .i8 (a.xs 0).c,.int .i8 (a.xs 1).a,.int .i8 (a.xs 1).b,.int .i8 (a.xs 1).c,.int .i8 (a.xs 2).a,.int .i8 (a.xs 2).b,.int .i8 (a.xs 2).c,.int .i8 (a.xs 3).a,.int .i8 (a.xs 3).b,.int .i8 (a.xs 3).c,.int .i8 (a.xs 4).a,.int .i8 (a.xs 4).b,.int .i8 (a.xs 4).c,.int .i8 (a.xs 5).a,.int .i8 (a.xs 5).b,.int .i8 (a.xs 5).c,.int .i8 (a.xs 6).a,.int .i8 (a.xs 6).b,.int .i8 (a.xs 6).c,.int .i8 (a.xs 7).a,.int .i8 (a.xs 7).b,.int .i8 (a.xs 7).c]:=rfl;have Hrl:=hid hrl;have Hun:=hid hun;have Hin:=hid hin;clear hrl hun hin;rw [hcs2];go_enter Tryz.func16,Tryz.ntmps16
 rw [← hcs2];go_wp2_with (refine wpList_load_mid rfl 26 (.tmp 1) rfl w.heap.size 0 rfl a.cs.toList _ Hrl.out Hun.out rfl Hin.out ?_)
 rw [← hcs2,← hW2,← Hv.out];have hpw2:=Hpr.out W2 HE.out;refine hpw2.mono ?_;rintro e w1 ⟨u1,rfl,hon1,hx1⟩;clear hcs2 hW2;obtain ⟨a1,c1,rfl⟩:=zel hon1;have Hon1:=hid hon1;have Hsl1:=hid (zai hon1);have Hx1:=hid hx1;have q1:w1.cell? ⟨w.heap.size,1,none⟩=some (.int .u8 a.kind):=Hcell.out w1 hx1 1;have q2:w1.cell? ⟨w.heap.size,2,none⟩=some (.int .u8 a.num):=Hcell.out w1 hx1 2;clear hx1 hon1 hpw2;have HEw:=hid (HE.out.trans Hx1.out);have hpl:=Hpw.out;have hpl3:0<a.p.length∧a.p.length≤3:=by rcases hpl with e | e <;> rw [e] <;> decide
 have hoc:=fun W (hx:Ext w1 W)=>zkC (.slice a1 a.p.length c1) a.p W (He.out.ext (HEw.out.trans hx)) (hx.sl Hsl1.out) hpl3.1 (by omega);have hco:=fun W vb vl (rs:List Qw)(hx:Ext w1 W)(hb:Rd W vb (ov (a.p.length - 1)))(hl:RdM W vl rs)(hz:rs.map Qw.x=a.sizes)=>zkR (.slice a1 a.p.length c1) vb vl a.p 400 rs W (He.out.ext (HEw.out.trans hx)) (hx.sl Hsl1.out) hb hl (by rw [hz];exact a.lw) (by omega) (by have:=a.few;rw [← hz,List.length_map] at this;exact this);have hnn:(1:Int)+(a.num:Int) % 9=((a.n:Nat):Int):=by unfold Wl.n;omega
 have hof:=fun W (hx:Ext w1 W)=>zgP 1 a.n W (He.out.ext (HEw.out.trans hx)) (by decide) hn9.1 (by omega);have hti:=fun W va (hx:Ext w1 W)(hr:Rd W va (ov (a.p.length - 1)))=>zgZ va (ov (a.p.length - 1)) (mkRat 1 a.n) W (He.out.ext (HEw.out.trans hx)) hr (by rw [ziF];omega) (zl3 _) (zl2 hn9.1 hn9.2);have hm0:=fun W vg (hx:Ext w1 W)(hr:Rd W vg (zeW (ov (a.p.length - 1)) (mkRat 1 a.n)))=>zkZ vg _ 1 a.n W (He.out.ext (HEw.out.trans hx)) hr (by unfold zeW;rw [List.length_map,ziF];omega) (zl6 _ _ hn9.1 hn9.2) (by omega) (by omega);rw [show (1:Int)+((a.n:Nat):Int) - 1=((a.n:Nat):Int) by omega] at hm0;have hm1:=fun W vg (hx:Ext w1 W)(hr:Rd W vg (szW a.p.length (a.xs 0)))=>zkZ vg _ 0 a.n W (He.out.ext (HEw.out.trans hx)) hr (by rw [zkT];omega) (zl5 _ _) (by omega) (by omega);rw [show (0:Int)+((a.n:Nat):Int) - 1=((a.n:Nat):Int) - 1 by omega] at hm1;have hsz:=fun (i:Nat) W (hx:Ext w1 W)=>zkY (.slice a1 a.p.length c1) a.p (a.xs i) W (He.out.ext (HEw.out.trans hx)) (hx.sl Hsl1.out) (by omega) (Ha.out.xs i);unfold Rv at hof hti;have Hoc:=hid hoc;have Hco:=hid hco;have Hof:=hid hof;have Hti:=hid hti;have Hm0:=hid hm0;have Hm1:=hid hm1;have Hsz:=hid hsz;clear hoc hco hof hti hm0 hm1 hsz hpl;by_cases k0:a.kind % 3=0
 ·have t0:((a.kind:Int) % 3 == 0)=true:=by rw [beq_iff_eq];omega
  have hszs:a.sizes=zk4 (zeW (ov (a.p.length - 1)) (mkRat 1 a.n)) 1 a.n:=by unfold Wl.sizes;rw [if_pos k0]
  have Hszs:=hid hszs;clear hszs k0;go_wp2_with fail
  refine (Hoc.out w1 (Ext.refl _)).mono ?_;rintro e wa ⟨ua,rfl,hoa,hxa⟩;have Hoa:=hid hoa;have Hxa:=hid hxa;clear hoa hxa;go_wp2_with fail
  refine (Hoc.out wa Hxa.out).mono ?_;rintro e wb ⟨ub,rfl,hob,hxb⟩;have Hob:=hid hob;have Hxb:=hid (Hxa.out.trans hxb);have Hxab:=hid hxb;clear hob hxb;go_wp2_with fail
  refine (Hof.out wb Hxb.out).mono ?_;rintro e wc ⟨rfl,hxc⟩;have Hxc:=hid (Hxb.out.trans hxc);have Hobc:=hid (hxc.ownQ Hob.out);have Hxac:=hid (Hxab.out.trans hxc);clear hxc;go_wp2_with fail
  refine (Hti.out wc ub Hxc.out Hobc.out.rd).mono ?_;rintro e wd ⟨ud,rfl,hod,hxd⟩;have Hod:=hid hod;have Hxd:=hid (Hxc.out.trans hxd);have Hxad:=hid (Hxac.out.trans hxd);clear hod hxd;go_wp2_with fail
  refine (Hm0.out wd ud Hxd.out Hod.out.rd).mono ?_;rintro e wm ⟨um,rm,rfl,hom,hmm,hxm⟩;have Hom:=hid hom;have Hxm:=hid (Hxd.out.trans hxm);have Hxam:=hid (Hxad.out.trans hxm);have Hmm:=hid (hmm.trans Hszs.out.symm);clear hom hxm hmm;go_wp2_with fail
  refine (Hco.out wm ua um rm Hxm.out (Hxam.out.ownQ Hoa.out).rd Hom.out.rd Hmm.out).mono ?_;rintro e wC ⟨vn,out5,rfl,hn5,hr5,hcl5,hx5⟩;obtain ⟨avn,cvn,rfl⟩:=zel hn5;have hxC:=Hxm.out.trans hx5;have hbm:w.heap.size≤wm.heap.size:=(HEw.out.trans Hxm.out).size;have hb5:=B0.out.ext (Hx1.out.trans hxC);have r0:=hb5.c0;have r1:=hb5.c1;have z0:=hb5.fz 0;have z1:=hb5.fz 1;have hK:K0 36 w wC (w.heap.size+1):=⟨HEw.out.trans hxC,_,_,hb5⟩;have hfin:=hK.fin (by omega) (.slice a1 a.p.length c1) (.slice avn out5.length cvn);have hsv:=zl7 (B:=w.heap.size) (x:=.slice a1 a.p.length c1) (y:=.slice avn out5.length cvn) hb5 (zah (hxC.own Hon1.out) HE.out.size) (zah hn5 hbm) fun r hr=>by
   rcases hr5 r hr with ⟨e1,e2⟩ | e
   ·rw [e1,e2];exact zf6.mono ((hx5.ownQ (Hxam.out.ownQ Hoa.out))) HEw.out.size
   ·exact e.mono hbm
  have hcl5':zjT a.p a.sizes (out5.map Qw.x):=by rw [← Hmm.out];exact hcl5
  have Hfin:=hid hfin;have Hsv:=hid hsv;have Hcl5:=hid hcl5';clear hfin hsv hcl5 hcl5' hK hb5 hxC hn5 hr5 hx5 hbm;go_wp2_with fail
  obtain ⟨hb6,hx6⟩:=Hfin.out;have hd0:=hb6.c0;have hd1:=hb6.c1;exact bodyPost_ret (v:=.agg #[.slice a1 a.p.length c1,.slice avn out5.length cvn]) (by simp [results,Tryz.results16,go_sem,hd0,hd1]) rfl ⟨_,out5,rfl,Hsv.out,Hcl5.out,hx6⟩
 ·have t0:((a.kind:Int) % 3 == 0)=false:=by rw [beq_eq_false_iff_ne];omega
  by_cases k1:a.kind % 3=1
  ·have t1:((a.kind:Int) % 3 == 1)=true:=(by rw [beq_iff_eq];omega);have hszs:a.sizes=zk4 (szW a.p.length (a.xs 0)) 0 a.n:=(by unfold Wl.sizes;rw [if_neg k0,if_pos k1]);have Hszs:=hid hszs;have hsz0:=fun W (hx:Ext w1 W)=>Hsz.out 0 W hx;unfold I3.v at hsz0;have Hsz0:=hid hsz0;have hwr:IntKind.i64.wrap (((a.n:Nat):Int) - 1)=((a.n:Nat):Int) - 1:=zl1 (by omega) (by omega);have hm1:=Hm1.out;rw [← hwr] at hm1;have Hm1:=hid hm1;clear hszs k0 k1 hsz0 hm1 hwr;have q3:w1.cell? ⟨w.heap.size,3,none⟩=some (.int .i8 (a.xs 0).a):=Hcell.out w1 Hx1.out 3;have q4:w1.cell? ⟨w.heap.size,4,none⟩=some (.int .i8 (a.xs 0).b):=Hcell.out w1 Hx1.out 4;have q5:w1.cell? ⟨w.heap.size,5,none⟩=some (.int .i8 (a.xs 0).c):=Hcell.out w1 Hx1.out 5;go_wp2_with fail
   have q3:=((Ext.refl w1).drew).cell q3;have q4:=((Ext.refl w1).drew).cell q4;have q5:=((Ext.refl w1).drew).cell q5;have HX:=hid (Ext.refl w1).drew;go_region_law (first
    | (go_simp;go_at_call 10;refine (Hoc.out _ HX.out).mono ?_;rintro e V ⟨ua,rfl,ho,hx⟩;(try (have HO:=hid (hx.ownQ HO.out)));(try (have HS:=hid (hx.ownQ HS.out)));(try (have HM:=hid (hx.qwM HM.out)));have q3:=hx.cell q3;have q4:=hx.cell q4;have q5:=hx.cell q5;have HX:=hid (HX.out.trans hx);have HO:=hid (zf6.mono ho HEw.out.size);clear ho hx)
    | (go_simp;go_at_call 8;refine (Hsz0.out _ HX.out).mono ?_;rintro e V ⟨us,rfl,ho,hx⟩;(try (have HO:=hid (hx.ownQ HO.out)));(try (have HS:=hid (hx.ownQ HS.out)));(try (have HM:=hid (hx.qwM HM.out)));have q3:=hx.cell q3;have q4:=hx.cell q4;have q5:=hx.cell q5;have HX:=hid (HX.out.trans hx);have HS:=hid ho;clear ho hx)
    | (go_simp;go_at_call 13;refine (Hm1.out _ _ HX.out HS.out.rd).mono ?_;rintro e V ⟨um,rm,rfl,ho,hmm,hx⟩;(try (have HO:=hid (hx.ownQ HO.out)));(try (have HS:=hid (hx.ownQ HS.out)));(try (have HM:=hid (hx.qwM HM.out)));have q3:=hx.cell q3;have q4:=hx.cell q4;have q5:=hx.cell q5;have HX:=hid (HX.out.trans hx);have HM:=hid ho;have Hmm:=hid (hmm.trans Hszs.out.symm);clear ho hx hmm)
    | (go_simp;go_at_call 12;refine (Hco.out _ _ _ rm HX.out HO.out.rd HM.out.rd Hmm.out).mono ?_;rintro e wC ⟨vn,out5,rfl,hn5,hr5,hcl5,hx5⟩;obtain ⟨avn,cvn,rfl⟩:=zel hn5;have hxC:=HX.out.trans hx5;have hbm:=Nat.le_trans HEw.out.size HX.out.size;have hb5:=B0.out.ext (Hx1.out.trans hxC);have r0:=hb5.c0;have r1:=hb5.c1;have z0:=hb5.fz 0;have z1:=hb5.fz 1;have hK:K0 36 w wC (w.heap.size+1):=⟨HEw.out.trans hxC,_,_,hb5⟩;have Hfin:=hid (hK.fin (Nat.le_succ _) (.slice a1 a.p.length c1) (.slice avn out5.length cvn));have Hsv:=hid (zl8 (x:=.slice a1 a.p.length c1) (y:=.slice avn out5.length cvn) hb5 (zah (hxC.own Hon1.out) HE.out.size) (zah hn5 hbm) hbm (hx5.ownQ HO.out) hr5);have Hcl5:=hid (zl9 Hmm.out hcl5);clear hcl5 hK hb5 hxC hn5 hr5 hx5 hbm))
   all_goals
    go_wp2_with fail
    obtain ⟨hb6,hx6⟩:=Hfin.out;have hd0:=hb6.c0;have hd1:=hb6.c1;exact bodyPost_ret (v:=.agg #[.slice a1 a.p.length c1,.slice avn out5.length cvn]) (by simp [results,Tryz.results16,go_sem,hd0,hd1]) rfl ⟨_,out5,rfl,Hsv.out,Hcl5.out,hx6⟩
  ·have t1:((a.kind:Int) % 3 == 1)=false:=(by rw [beq_eq_false_iff_ne];omega);have hszs:a.sizes=(List.range (min a.n 8)).map fun i=>szW a.p.length (a.xs i):=(by unfold Wl.sizes;rw [if_neg k0,if_neg k1]);obtain ⟨m,hm⟩:∃ m,m=min a.n 8:=⟨_,rfl⟩;have hm8:m≤8:=(by omega);rw [← hm] at hszs;have hcx:∀ W,Ext w1 W→∀ k,k<8→W.cell? ⟨w.heap.size,3+k * 3,none⟩=some (.int .i8 (a.xs k).a)∧W.cell? ⟨w.heap.size,3+k * 3+1,none⟩=some (.int .i8 (a.xs k).b)∧W.cell? ⟨w.heap.size,3+k * 3+2,none⟩=some (.int .i8 (a.xs k).c):=fun W hx k hk=>by
    have hxx:=Hx1.out.trans hx;obtain rfl | rfl | rfl | rfl | rfl | rfl | rfl | rfl:k=0∨k=1∨k=2∨k=3∨k=4∨k=5∨k=6∨k=7:=by omega
    all_goals exact ⟨Hcell.out W hxx _,Hcell.out W hxx _,Hcell.out W hxx _⟩
   have hszk:=fun (k:Nat) W (hx:Ext w1 W)=>Hsz.out k W hx;unfold I3.v at hszk;have hmin:min ((a.n:Nat):Int) 8=(m:Int):=(by omega);obtain ⟨j0,hj,hy0,hy1,hy2⟩:=info_parts zf8;have Hszs:=hid hszs;have Hcx:=hid hcx;have Hszk:=hid hszk;have Hm:=hid hm;clear hszs k0 k1 hszk hcx hm;go_wp2_with fail
   go_loopw [5,6,46] (fun v5 v6 v46 wr=>∃ k:Nat,v46=.int .i64 k∧k≤m∧QsR w1 ((List.range k).map fun i=>szW a.p.length (a.xs i)) v5 wr) (fun _ _ v46 _=>m - (zag v46).toNat)
   case atStart=>exact ⟨0,rfl,Nat.zero_le _,[],QwM.nil _ _ _,rfl,Ext.refl _⟩
   case round =>
    obtain ⟨k,rfl,hk,⟨out,hq,hmq,hE⟩⟩:=hrel;have hol:out.length=k:=by
     have:=congrArg List.length hmq;rwa [List.length_map,List.length_map,List.length_range] at this
    obtain ⟨a6,c6,rfl⟩:=zel hq.1;by_cases hkm:k<m
    ·obtain ⟨q0,q1,q2⟩:=Hcx.out wr hE k (by omega);have hso:=Hszk.out k wr hE;have hstep:((List.range (k+1)).map fun i=>szW a.p.length (a.xs i))=((List.range k).map fun i=>szW a.p.length (a.xs i))++[szW a.p.length (a.xs k)]:=(by rw [List.range_succ,List.map_append];rfl);have hwl:=zkT a.p.length (a.xs k);have hqo:=hq.1;rw [hol] at hqo ⊢;have hk0:(0:Int)≤(k:Int):=(by omega);have hk1:(k:Int)<(m:Int):=(by omega);have hk8:(k:Int)<8:=(by omega);have hm3:k+1≤maxLen:=(by unfold maxLen;omega);have hm4:(k+1) * 24≤140737488355328:=(by omega);have Hso:=hid hso;have Hstep:=hid hstep;have Hwl:=hid hwl;have Hqo:=hid hqo;have Hq:=hid hq;have Hmq:=hid hmq;have HEr:=hid hE;have Hol:=hid hol;clear hso hstep hwl hqo hq hmq hE hol;go_wp2_with fail
     refine Hso.out.mono ?_;rintro e VA ⟨uA,rfl,hoA,hxA⟩;have hoA':=hoA;unfold zf6 at hoA';obtain ⟨au,cu,rfl⟩:=zel hoA';have hE3:=HEr.out.trans hxA;have Ho2:=hid (hoA.mono HEr.out.size);have Hq3:=hid (hxA.qwM Hq.out);have hqo:=hxA.own Hqo.out;have hbase:=hE3.size;have HE3:=hid hE3;generalize (szW a.p.length (a.xs k)).length=ml at *;clear hoA hoA' hxA hE3 q0 q1 q2;go_wp2_with (at_builtin;refine wpList_append_own _ rfl _ _ 34 rfl w1.heap.size 32 j0 (.slice none 0 0) 1 24 Tryz.underlying34 hj hy0 hy1 hy2 rfl (by decide) _ _ _ rfl (hqo.alloc _) ⟨VA.heap.size,0,none⟩ 1 1 [.slice au ml cu] rfl rfl (cell_one_new _ _ _) (by simp [Value.oneCell']) hm3 hm4 (by rw [World.size_alloc];omega) ?_;intro v7 V7 hown7 hgrow7 _)
     go_roundw
     case rel=>exact ⟨k+1,by go_num,by omega,by rw [Hstep.out];exact QsR.more HE3.out Hq3.out Hmq.out Ho2.out (by rw [Hol.out];exact hown7) (by rw [Hol.out];exact hgrow7)⟩
     case measure=>simp [zag];omega
    ·obtain rfl:k=m:=by omega
     have Hmm:=hid (hmq.trans Hszs.out.symm);have Hq:=hid hq;have HEr:=hid hE;have hoc:=Hoc.out wr hE;have Hocr:=hid hoc;clear hq hmq hE hol hoc;go_wp2_with fail
     refine Hocr.out.mono ?_;rintro e wm ⟨ua,rfl,hoa,hxa⟩;have Hoa:=hid (hoa.mono (Nat.le_trans HEw.out.size HEr.out.size));have Hxm:=hid (HEr.out.trans hxa);have Hom:=hid (hxa.qwM Hq.out);clear hoa hxa;go_wp2_with fail
     refine (Hco.out wm ua _ out Hxm.out Hoa.out.rd Hom.out.rd Hmm.out).mono ?_;rintro e wC ⟨vn,out5,rfl,hn5,hr5,hcl5,hx5⟩;obtain ⟨avn,cvn,rfl⟩:=zel hn5;have hxC:=Hxm.out.trans hx5;have hbm:=Nat.le_trans HEw.out.size Hxm.out.size;have hb5:=B0.out.ext (Hx1.out.trans hxC);have r0:=hb5.c0;have r1:=hb5.c1;have z0:=hb5.fz 0;have z1:=hb5.fz 1;have hK:K0 36 w wC (w.heap.size+1):=⟨HEw.out.trans hxC,_,_,hb5⟩;have Hfin:=hid (hK.fin (Nat.le_succ _) (.slice a1 a.p.length c1) (.slice avn out5.length cvn));have Hsv:=hid (zl8 (x:=.slice a1 a.p.length c1) (y:=.slice avn out5.length cvn) hb5 (zah (hxC.own Hon1.out) HE.out.size) (zah hn5 hbm) hbm (hx5.ownQ Hoa.out) hr5);have Hcl5:=hid (zl9 Hmm.out hcl5);clear hcl5 hK hb5 hxC hn5 hr5 hx5 hbm;go_wp2_with fail
     obtain ⟨hb6,hx6⟩:=Hfin.out;have hd0:=hb6.c0;have hd1:=hb6.c1;exact bodyPost_ret (v:=.agg #[.slice a1 a.p.length c1,.slice avn out5.length cvn]) (by simp [results,Tryz.results16,go_sem,hd0,hd1]) rfl ⟨_,out5,rfl,Hsv.out,Hcl5.out,hx6⟩
end
section
open Go.RowKit Go.Lib
section
variable {p : List Int} {N : List (List Rat)} (h : Wd p N)
include h
theorem Wd.nt_bd (k:Int):((k / (N.length:Int):Int):Rat) * 67108864≤sF p (nt p N k)∧sF p (nt p N k)≤((k / (N.length:Int):Int):Rat) * 67108864+67108864:=by
 have h0:=h.pos;have hN:(0:Int)<(N.length:Int):=by omega
 have a1:=Int.emod_nonneg k (show (N.length:Int) ≠ 0 by omega);have a2:=Int.emod_lt_of_pos k hN;rw [h.sF_nt];have:=h.zbd (i:=(k % (N.length:Int)).toNat) (by omega);grind
theorem Wd.nt_sub_quick (k l:Int)(hk0:-1000≤k)(hk1:k≤1000)(hl0:-1000≤l)(hl1:l≤1000):ziz p (zeV (nt p N k) (nt p N l)):=by
 obtain ⟨n,hn⟩:=h.dif;have h0:=h.pos;have hN:(0:Int)<(N.length:Int):=by omega
 have e1:=zi3 (a:=k) (b:=(N.length:Int)) (m:=1000) hN hk0 hk1 (by omega);have e2:=zi3 (a:=l) (b:=(N.length:Int)) (m:=1000) hN hl0 hl1 (by omega);have b1:=h.nt_bd k;have b2:=h.nt_bd l;have c1:(-1000:Rat)≤((k / (N.length:Int):Int):Rat):=Rat.intCast_le_intCast.2 e1.1;have c2:((k / (N.length:Int):Int):Rat)≤1000:=Rat.intCast_le_intCast.2 e1.2;have c3:(-1000:Rat)≤((l / (N.length:Int):Int):Rat):=Rat.intCast_le_intCast.2 e2.1;have c4:((l / (N.length:Int):Int):Rat)≤1000:=Rat.intCast_le_intCast.2 e2.2;have hs:=zeX p (nt p N k) (nt p N l) (by rw [h.ntlen,h.ntlen]);have hl:=(zj1 (x:=nt p N k) (y:=nt p N l) (by rw [h.ntlen,h.ntlen])).trans (h.ntlen k);have hc:((2001 * 67108864:Int):Rat)=2001 * 67108864:=by rw [Rat.intCast_mul];rfl
 exact zjz (c:=2001) (by rw [hl];exact h.pr) (h.nt_nic hn k l) (by omega) (by omega) (by rw [hc];grind) (by rw [hc];grind)
end
theorem zlB {n:Nat}:∀ a∈ov n,a=1∨a=0:=by
 intro a ha;unfold ov at ha;rcases List.mem_cons.1 ha with h | h
 ·exact .inl h
 ·exact .inr (List.eq_of_mem_replicate h)
theorem zlC {n:Nat}{q:Int}(hq:q.natAbs≤1001000):∀ a∈ov n,a.num.natAbs * (q:Rat).num.natAbs<1000000000∧a.den * (q:Rat).den<1000000000∧a.num.natAbs<1000000000∧(q:Rat).num.natAbs<1000000000∧a.den<1000000000∧(q:Rat).den<1000000000:=by
 intro a ha;rw [Rat.num_intCast,Rat.den_intCast];rcases zlB a ha with rfl | rfl
 ·rw [show (1:Rat).num.natAbs=1 from rfl,show (1:Rat).den=1 from rfl];omega
 ·rw [show (0:Rat).num.natAbs=0 from rfl,show (0:Rat).den=1 from rfl];omega
theorem zlD {n:Nat}{q:Int}(hq:q.natAbs≤1001000):∀ a∈zeW (ov n) (q:Rat),a.num.natAbs≤1001000∧a.den=1:=by
 intro a ha;unfold zeW at ha;obtain ⟨b,hb,rfl⟩:=List.mem_map.1 ha;rcases zlB b hb with rfl | rfl
 ·rw [show (1:Rat) * (q:Rat)=(q:Rat) by grind,Rat.num_intCast,Rat.den_intCast];exact ⟨hq,rfl⟩
 ·rw [show (0:Rat) * (q:Rat)=0 by grind];exact ⟨Nat.zero_le _,rfl⟩
theorem zlE {n:Nat}{q:Int}{y:List Rat}(hq:q.natAbs≤1001000)(hy:∀ b∈y,b.num.natAbs≤30000∧b.den≤60):∀ a∈zeW (ov n) (q:Rat),∀ b∈y,a.num.natAbs * b.den+b.num.natAbs * a.den<1000000000∧a.den * b.den<1000000000∧a.num.natAbs+b.num.natAbs<1000000000∧a.den<1000000000∧b.den<1000000000:=by
 intro a ha b hb;obtain ⟨h1,h2⟩:=zlD hq a ha;obtain ⟨h3,h4⟩:=hy b hb;have h5:a.num.natAbs * b.den≤1001000 * 60:=Nat.mul_le_mul h1 h4;rw [h2];omega
theorem zlF {n:Nat}{p:List Int}{x:List Rat}(hp:Pr p x.length)(h:Nic n x):∀ r∈x,r.den≤60:=by
 rcases h with ⟨_,hb⟩ | ⟨hn,hn9,ho⟩
 ·rcases hp with ⟨_,hl⟩ | ⟨_,hl⟩
  ·match x,hl,hb with
   | [a,b],_,⟨A,B,ha,hb2,_,_⟩ =>
    have ha2:=(zfi ha).2
    intro r hr
    simp only [List.mem_cons,List.not_mem_nil,or_false] at hr
    rcases hr with rfl | rfl
    ·omega
    ·rcases zfj hb2 with ⟨e1,_⟩ | ⟨e1,_⟩ <;> omega
  ·match x,hl,hb with
   | [a,b,d],_,⟨A,B,C,ha,hb2,hd,_⟩ =>
    have ha2:=(zfi ha).2
    have hd2:=(zfi hd).2
    intro r hr
    simp only [List.mem_cons,List.not_mem_nil,or_false] at hr
    rcases hr with rfl | rfl | rfl
    ·omega
    ·rcases zfj hb2 with ⟨e1,_⟩ | ⟨e1,_⟩ <;> omega
    ·omega
 ·rcases hp with ⟨_,hl⟩ | ⟨_,hl⟩
  ·match x,hl,ho with
   | [a,b],_,⟨hb,A,ha⟩ =>
    subst hb
    have:=(zju hn ha).1
    intro r hr
    simp only [List.mem_cons,List.not_mem_nil,or_false] at hr
    rcases hr with rfl | rfl
    ·omega
    ·decide
  ·match x,hl,ho with
   | [a,b,d],_,⟨hb,hd,A,ha⟩ =>
    subst hb hd
    have:=(zju hn ha).1
    intro r hr
    simp only [List.mem_cons,List.not_mem_nil,or_false] at hr
    rcases hr with rfl | rfl | rfl
    ·omega
    ·decide
    ·decide
theorem Wd.mem_sn2 {p:List Int}{N:List (List Rat)}(h:Wd p N){x:List Rat}(hx:x∈N):∀ r∈x,r.num.natAbs≤30000∧r.den≤60:=by
 obtain ⟨n,hn⟩:=h.dif;have hl:=h.len x hx;have hz:=hn x (List.mem_cons_of_mem _ hx) (zer p.length) (List.mem_cons_self ..);rw [← hl,zj2] at hz;have hp:Pr p x.length:=by rw [hl];exact h.pr
 obtain ⟨i,hi,e⟩:=List.mem_iff_getElem.1 hx;have hlow:=h.nt_low (i:=i+1) (by omega);have e2:zat p N (i+1)=x:=by unfold zat;rw [List.getElem?_cons_succ,List.getElem?_eq_getElem hi,e];rfl
 have hb:=h.nt_bd ((i+1:Nat):Int);rw [hlow,e2] at hb;have hq0:0≤((i+1:Nat):Int) / (N.length:Int):=Int.ediv_nonneg (by omega) (by omega);have hq1:((i+1:Nat):Int) / (N.length:Int)≤1:=by
  have h0:=h.pos;exact Int.ediv_le_of_le_mul (by omega) (by omega)
 have c1:((0:Int):Rat)≤((((i+1:Nat):Int) / (N.length:Int):Int):Rat):=Rat.intCast_le_intCast.2 hq0;have c2:((((i+1:Nat):Int) / (N.length:Int):Int):Rat)≤((1:Int):Rat):=Rat.intCast_le_intCast.2 hq1;have z0:((0:Int):Rat)=0:=rfl;have z1:((1:Int):Rat)=1:=rfl;rw [z0] at c1;rw [z1] at c2;have hc:((2 * 67108864:Int):Rat)=2 * 67108864:=by rw [Rat.intCast_mul];rfl
 have hsn:=zkG (c:=2) hp hz (by omega) (by omega) (by rw [hc];grind) (by rw [hc];grind);intro r hr;exact ⟨(hsn r hr).1,zlF hp hz r hr⟩
theorem zlG (v:Value)(p:List Int)(rs:List Qw)(k:Int)(w:World)(he:Env w)(hv:ScV w v p rs)(h:Wd p (rs.map Qw.x))(hk0:-1001000≤k)(hk1:k≤1001000) :
  Calls Tryz.prog 28 #[v,.int .i64 k] w fun e w'=>∃ u,e=.returned u∧zf6 w' w.heap.size u (nt p (rs.map Qw.x) k)∧Ext w w':=by
 have hpos:=h.pos;have hfew:=h.few;rw [List.length_map] at hpos hfew;obtain ⟨n,hn⟩:∃ n,rs.length=n+1:=⟨rs.length - 1,by omega⟩;obtain ⟨r,hr⟩:∃ r,rs[n]?=some r:=⟨_,List.getElem?_eq_getElem (by omega)⟩;have hp3:p.length≤100∧0<p.length:=by rcases h.pr with ⟨e,_⟩ | ⟨e,_⟩ <;> rw [e] <;> decide
 have hrx:r.x=ov (p.length - 1):=by
  have:=h.last;rw [List.length_map,hn,Nat.add_sub_cancel,List.getElem?_map,hr] at this;exact Option.some.inj this
 have hnq:=h.noteQ hn k;have hN:(0:Int)<(n:Int)+1:=by omega
 have htf:=zjr (k:=k) hN;have h3:=Int.emod_nonneg k (show (n:Int)+1 ≠ 0 by omega);have h4:=Int.emod_lt_of_pos k hN;have hqb:=zi3 (a:=k) (b:=(n:Int)+1) (m:=1001000) hN hk0 hk1 (by omega);have hof:=fun W (hE:Ext w W)=>zgP (k / ((n:Int)+1)) 1 W (he.ext hE) (by omega) (by decide) (by decide);rw [show mkRat (k / ((n:Int)+1)) 1=((k / ((n:Int)+1):Int):Rat) from Rat.mkRat_one _] at hof;obtain ⟨vp,vn,rfl,hp,hs,hm⟩:=hv;have hmem:=List.mem_of_getElem? hr;have hmr:=hm r hmem;have hti:=fun W (hE:Ext w W)=>zgY r.u r.x ((k / ((n:Int)+1):Int):Rat) W (he.ext hE) (hE.rd hmr) (by rw [hrx,ziF];omega) (by rw [hrx];exact zlC (by omega));obtain ⟨ap,cp,rfl,_,_,_⟩:=hp.parts;obtain ⟨an,cn,rfl,_,_,hc⟩:=hs.parts;rw [zam];rw [zf9,hn];obtain ⟨b,off,rfl,hc0⟩:=hc n r.u (by unfold qwc;rw [List.getElem?_map,hr];rfl);have hzero:k % ((n:Int)+1)=0→nt p (rs.map Qw.x) k=zeW r.x ((k / ((n:Int)+1):Int):Rat):=fun e=>by rw [← hnq];unfold noteQ;rw [hr];simp only [e,if_true];rfl
 have hadd:¬ k % ((n:Int)+1)=0→∃ (j:Nat)(s:Qw),(j:Int)=k % ((n:Int)+1) - 1∧(∃ a c,s.u=.slice a p.length c)∧w.cell? ⟨b,off+j,none⟩=some s.u ∧
   ∀ W vb,Ext w W→Rd W vb (zeW r.x ((k / ((n:Int)+1):Int):Rat))→Calls Tryz.prog 62 #[vb,s.u] W fun e w'=>∃ u,e=.returned u∧zf6 w' W.heap.size u (nt p (rs.map Qw.x) k)∧Ext W w':=fun e=>by
  obtain ⟨j,hj⟩:∃ j:Nat,(j:Int)=k % ((n:Int)+1) - 1:=⟨(k % ((n:Int)+1) - 1).toNat,by omega⟩;obtain ⟨s,hs1⟩:∃ s,rs[j]?=some s:=⟨_,List.getElem?_eq_getElem (by omega)⟩;have hsm:=List.mem_of_getElem? hs1;have hrs:=hm s hsm;obtain ⟨b2,off2,e2,hcs⟩:=hc j s.u (by unfold qwc;rw [List.getElem?_map,hs1];rfl)
  cases e2
  have hsl:s.x.length=p.length:=h.len _ (List.mem_map_of_mem hsm);have hnq2:nt p (rs.map Qw.x) k=zeU (zeW r.x ((k / ((n:Int)+1):Int):Rat)) s.x:=by
   rw [← hnq];unfold noteQ;rw [hr,if_neg e,show (k % ((n:Int)+1)).toNat - 1=j by omega,hs1];rfl
  refine ⟨j,s,hj,?_,hcs,fun W vb hE hb=>?_⟩
  ·obtain ⟨a,c,hu,_⟩:=hrs.parts;rw [hsl] at hu;exact ⟨a,c,hu⟩
  ·rw [hnq2];exact zgW vb s.u _ s.x W (he.ext hE) hb (hE.rd hrs) (by unfold zeW;rw [List.length_map,hrx,ziF,hsl];omega) (by unfold zeW;rw [List.length_map,hrx,ziF];omega) (by rw [hrx];exact zlE (by omega) (h.mem_sn2 (List.mem_map_of_mem hsm)))
 have hru:∃ a c,r.u=.slice a p.length c:=by
  obtain ⟨a,c,hu,_⟩:=hmr.parts;rw [hrx,ziF,show p.length - 1+1=p.length by omega] at hu;exact ⟨a,c,hu⟩
 obtain ⟨ra,rc',hru⟩:=hru;rw [hru] at hc0 hti;have hml:((zeW r.x ((k / ((n:Int)+1):Int):Rat))).length=p.length:=by unfold zeW;rw [List.length_map,hrx,ziF];omega
 have hcast:((n+1:Nat):Int)=(n:Int)+1:=by omega
 have hnz:((n:Int)+1) ≠ 0:=by omega
 have hn0:(0:Int)≤(n:Int):=by omega
 have hn1:(n:Int)<(n:Int)+1:=by omega
 have hn10:n<60:=by omega
 have hwn:IntKind.i64.wrap ((n:Int)+1 - 1)=(n:Int):=by rw [show (n:Int)+1 - 1=(n:Int) by omega];exact IntWalk.i64_in _ (by omega)
 have hwn2:IntKind.i64.wrap (n:Int)=(n:Int):=IntWalk.i64_in _ (by omega);have hwm:wrap64 (k % ((n:Int)+1))=k % ((n:Int)+1):=by unfold wrap64;omega
 have hE0:Ext w (w.alloc (.cells #[.slice ap p.length cp,.slice (some ⟨b,off,none⟩) (n+1) cn] 36)):=(Ext.refl w).alloc _;have b0:=zdV.new 36 w (.slice ap p.length cp) (.slice (some ⟨b,off,none⟩) (n+1) cn);unfold Rv at hof hti;generalize I (((k / ((n:Int)+1):Int):Rat)).num=s1 at *;generalize I (((((k / ((n:Int)+1):Int):Rat)).den:Nat):Int)=s2 at *;clear hp hs hm he h hmr hmem hc hnq hn hr hrx hru hfew;have Hof:=hid hof;have Hti:=hid hti;have Htf:=hid htf;have Hzero:=hid hzero;have Hadd:=hid hadd;have Hml:=hid hml;have HE0:=hid hE0;have B0:=hid b0;have Hc0:=hid hc0;clear hof hti htf hzero hadd hml hE0 b0 hc0;have hdec:k.tmod ((n:Int)+1)<0∨¬ k.tmod ((n:Int)+1)<0:=by omega
 rcases hdec with hs | hs
 case' inl=>obtain ⟨e1,e2⟩:=Htf.out.1 hs
 case' inr=>obtain ⟨e1,e2⟩:=Htf.out.2 hs
 all_goals
  go_enter Tryz.func28,Tryz.ntmps28
  go_wp2_with fail
  go_quiet (fail)
  go_wp2_with fail
  generalize hV:(w.alloc (.cells #[.slice ap p.length cp,.slice (some ⟨b,off,none⟩) (n+1) cn] 36)).drewN nq=V at *;have hEV:Ext (w.alloc (.cells #[.slice ap p.length cp,.slice (some ⟨b,off,none⟩) (n+1) cn] 36)) V:=by rw [← hV];exact (Ext.refl _).drewN _
  have q1:=(B0.out.ext hEV).c1;have hEw:=HE0.out.trans hEV;have qn:=hEw.cell Hc0.out;have HEw:=hid hEw;have HEV:=hid hEV;clear hV hEV hEw;have q1:=((Ext.refl V).drew).cell q1;have qn:=((Ext.refl V).drew).cell qn;have HX:=hid (HEw.out.drew);have HY:=hid (HEV.out.drew);go_region_law (first
   | (go_simp;go_at_call 36;refine (Hof.out _ HX.out).mono ?_;rintro e V1 ⟨rfl,hx⟩;have q1:=hx.cell q1;have qn:=hx.cell qn;have HX:=hid (HX.out.trans hx);have HY:=hid (HY.out.trans hx);clear hx)
   | (go_simp;go_at_call 48;refine (Hti.out _ HX.out).mono ?_;rintro e V2 ⟨u2,rfl,ho,hx⟩;have HO:=hid (zf6.mono ho HX.out.size);have HX:=hid (HX.out.trans hx);have HY:=hid (HY.out.trans hx);clear ho hx))
  all_goals
   clear q1 qn hwm hwn hwn2 e1 e2 hs;by_cases hi:k % ((n:Int)+1)=0
   ·have hnq:=Hzero.out hi;have Hnq:=hid hnq;clear hnq;go_wp2
    go_ret
    exact ⟨_,rfl,by rw [Hnq.out];exact HO.out,HX.out⟩
   ·obtain ⟨j,s,hj,⟨sa,sc,hsu⟩,hcs,had⟩:=Hadd.out hi;rw [hsu] at hcs had;have hcs2:=HX.out.cell hcs;have q1:=(B0.out.ext HY.out).c1;have haD:=had V2 u2 HX.out HO.out.rd;have hj0:(0:Int)≤(j:Int):=(by omega);have hj1:(j:Int)<((n+1:Nat):Int):=(by omega);clear hcs had;have hj3:(j:Int)<(n:Int)+1:=(by omega);have HaD:=hid haD;clear haD;have hjk:k % ((n:Int)+1)=(j:Int)+1:=(by omega);clear hj;generalize k % ((n:Int)+1)=iv at *;subst hjk;have hwj:IntKind.i64.wrap ((j:Int)+1 - 1)=(j:Int):=(by rw [show (j:Int)+1 - 1=(j:Int) by omega];exact IntWalk.i64_in _ (by omega));have hwj2:IntKind.i64.wrap (j:Int)=(j:Int):=IntWalk.i64_in _ (by omega);have hjn:j<n+1:=(by omega);go_wp2_with fail
    refine HaD.out.mono ?_;rintro e V3 ⟨u3,rfl,ho3,hx3⟩;have Ho3:=hid (zf6.mono ho3 HX.out.size);have Hx3:=hid (HX.out.trans hx3);clear ho3 hx3 q1 hcs2;go_wp2
    go_ret
    exact ⟨_,rfl,Ho3.out,Hx3.out⟩
end
end Go.Proofs.YtbkfhacmekbniaaGreatDoor
