/- Walks: law 31's primes of a world. Walks: law 31's Make. What the laws of worlds begin with: a world in its box. Plain: which lists of indices a subset takes, and what it is. Walk: scale.note of a right scale. scale.note over a plain right scale. Plain: modes again, the subset of all notes, the collection of a scale's own notes, the sum of the steps. -/
import Derived.Test.YtiameffonflhgaaGreatDoorPk22
import Derived.Test.YtiameffonflhgaaGreatDoorPk19
import Derived.Test.YtiameffonflhgaaGreatDoorPk20
import Derived.Test.YtiameffonflhgaaGreatDoorShelfF
import Derived.Test.YtiameffonflhgaaGreatDoorPk17
import Derived.Deep.RegionHeld3
import Derived.Test.YtiameffonflhgaaGreatDoorPk21
set_option maxRecDepth 100000
set_option maxHeartbeats 2000000
namespace Go.Proofs.YtiameffonflhgaaGreatDoor
section
open Go.RowKit Go.Lib Go.Shelf
attribute [local go_sem] Oper.semAt_some
def Wl.cs (a:Wl):Array Value:=#[.bool a.three,.int .u8 a.kind,.int .u8 a.num,.int .i8 (a.xs 0).a,.int .i8 (a.xs 0).b,.int .i8 (a.xs 0).c,.int .i8 (a.xs 1).a,.int .i8 (a.xs 1).b,.int .i8 (a.xs 1).c,.int .i8 (a.xs 2).a,.int .i8 (a.xs 2).b,.int .i8 (a.xs 2).c,.int .i8 (a.xs 3).a,.int .i8 (a.xs 3).b,.int .i8 (a.xs 3).c,.int .i8 (a.xs 4).a,.int .i8 (a.xs 4).b,.int .i8 (a.xs 4).c,.int .i8 (a.xs 5).a,.int .i8 (a.xs 5).b,.int .i8 (a.xs 5).c,.int .i8 (a.xs 6).a,.int .i8 (a.xs 6).b,.int .i8 (a.xs 6).c,.int .i8 (a.xs 7).a,.int .i8 (a.xs 7).b,.int .i8 (a.xs 7).c]
def Wl.v (a:Wl):Value:=.agg a.cs
theorem zkP {w:World}{B:Nat}(T:TypeId)(xs:Array Value)(hB:B≤w.heap.size)(hm:xs.size≤maxLen):(w.alloc (.cells xs T)).ownsRow B T 1 (.slice (some ⟨w.heap.size,0,none⟩) xs.size xs.size) xs.size xs.toList :=
 ⟨by simp,.inr ⟨w.heap.size,xs.size,xs,rfl,hB,World.alloc_heap_new w _,Nat.le_refl _,hm,by simp,by rw [Nat.mul_one,← Array.length_toList,List.take_length]⟩⟩
theorem zkQ (a:Wl)(w:World) :
  Calls Tryz.prog 83 #[a.v] w fun e w'=>∃ u,e=.returned u∧w'.ownsRow w.heap.size 3 1 u a.p.length (zaq a.p)∧Ext w w':=by
 obtain ⟨W1,hW1⟩:∃ W1,W1=w.alloc (.cells a.cs 83):=⟨_,rfl⟩;have hE:Ext w W1:=by rw [hW1];exact (Ext.refl w).alloc _
 have hc:W1.cell? ⟨w.heap.size,0,none⟩=some (.bool a.three):=by
  unfold World.cell?;rw [hW1];dsimp only;rw [World.alloc_heap_new w _];rfl
 have HE:=hid hE;unfold Wl.v;unfold Wl.p;clear hE
 cases h3:a.three
 ·rw [h3] at hc;unfold Wl.cs at hW1 ⊢;rw [h3] at hW1 ⊢;clear h3;go_enter Tryz.func83,Tryz.ntmps83
  go_wp2_with fail
  go_ret
  rw [← hW1];have hon:=zkP (w:=W1) (B:=w.heap.size) 3 #[.int .i64 2,.int .i64 3] HE.out.size (by unfold maxLen;simp);have hsz:W1.heap.size=w.heap.size+1:=by rw [hW1,World.size_alloc]
  rw [hsz] at hon;exact ⟨_,rfl,hon,HE.out.alloc _⟩
 ·rw [h3] at hc;unfold Wl.cs at hW1 ⊢;rw [h3] at hW1 ⊢;clear h3;go_enter Tryz.func83,Tryz.ntmps83
  go_wp2_with fail
  go_ret
  rw [← hW1];have hon:=zkP (w:=W1) (B:=w.heap.size) 3 #[.int .i64 2,.int .i64 3,.int .i64 5] HE.out.size (by unfold maxLen;simp);have hsz:W1.heap.size=w.heap.size+1:=by rw [hW1,World.size_alloc]
  rw [hsz] at hon;exact ⟨_,rfl,hon,HE.out.alloc _⟩
theorem zkR {z:Int}(h0:-1000000≤z)(h1:z≤1000000):IntKind.i64.wrap z=z :=
 IntWalk.i64_in _ (by omega)
theorem zkS {n:Nat}(h0:0<n)(h9:n≤9):Sn (mkRat 1 n):=by
 unfold Sn;obtain rfl | rfl | rfl | rfl | rfl | rfl | rfl | rfl | rfl:n=1∨n=2∨n=3∨n=4∨n=5∨n=6∨n=7∨n=8∨n=9:=by omega
 all_goals decide +kernel
theorem zkT (k:Nat):∀ q∈ov k,Sn q:=by
 intro q hq;unfold ov at hq;rcases List.mem_cons.1 hq with e | e
 ·rw [e];unfold Sn;decide +kernel
 ·rw [List.eq_of_mem_replicate e];unfold Sn;decide +kernel
theorem zkU (x:I3)(i:Nat):Sn (zku x i):=by
 have h:=zkx (x.at i);unfold zku;generalize (x.at i).tmod 9=z at *;have key:∀ j:Fin 17,Sn (mkRat ((j.val:Int) - 8) 1)∧Sn (mkRat ((j.val:Int) - 8) 2):=by unfold Sn;decide +kernel
 have h2:=key ⟨(z+8).toNat,by omega⟩;dsimp only at h2;rw [show (((z+8).toNat:Nat):Int) - 8=z by omega] at h2;unfold dnm;split
 ·exact h2.2
 ·exact h2.1
theorem zkV (n:Nat)(x:I3):∀ q∈szW n x,Sn q:=by
 intro q hq;unfold szW at hq;obtain ⟨i,_,rfl⟩:=List.mem_map.1 hq;exact zkU x i
theorem zkW (k n:Nat)(h0:0<n)(h9:n≤9):∀ q∈zeP (ov k) (mkRat 1 n),Sn q:=by
 intro q hq;unfold zeP ov at hq;rw [List.map_cons,List.map_replicate] at hq;rcases List.mem_cons.1 hq with e | e
 ·rw [e,Rat.one_mul];exact zkS h0 h9
 ·rw [List.eq_of_mem_replicate e,Rat.zero_mul];unfold Sn;decide +kernel
theorem zkX {W:World}{b B:Nat}{u v x y vp vn:Value}{p:List Int}{out:List Qw}(hb:zdM 28 W b u v)(hp:W.ownsRow B 3 1 vp p.length (zaq p))(hn:W.ownsRow B 41 1 vn out.length (qwc out))(hr:∀ r∈out,zf2 W B r.u r.x):ScV ((W.setCell ⟨b,0,none⟩ x).setCell ⟨b,1,none⟩ y) (.agg #[vp,vn]) p out:=by
 refine ⟨vp,vn,rfl,?_,?_,fun r h=>?_⟩
 ·have:=zgg (zdM.put0 hb x) (zgg hb hp (by decide) 0 x) (by decide) 1 y;rw [← zas] at this;exact zao this
 ·have:=zgg (zdM.put0 hb x) (zgg hb hn (by decide) 0 x) (by decide) 1 y;rw [← zf5] at this;exact zao this
 ·exact zf2.rd (zgg (zdM.put0 hb x) (zgg hb (hr r h) (by decide) 0 x) (by decide) 1 y)
theorem zkY {W:World}{b B B':Nat}{u v x y vp vn vb:Value}{p:List Int}{o:List Rat}{out:List Qw}(hb:zdM 28 W b u v)(hp:W.ownsRow B 3 1 vp p.length (zaq p))(hn:W.ownsRow B 41 1 vn out.length (qwc out))(hB:B≤B')(ho:zf2 W B vb o)(hr:∀ r∈out,(r.u=vb∧r.x=o)∨zf2 W B' r.u r.x):ScV ((W.setCell ⟨b,0,none⟩ x).setCell ⟨b,1,none⟩ y) (.agg #[vp,vn]) p out :=
 zkX hb hp hn fun r h=>by
  rcases hr r h with ⟨e1,e2⟩ | e
  ·rw [e1,e2];exact ho
  ·exact e.mono hB
theorem zkZ {p:List Int}{l l' N:List (List Rat)}(h:l=l')(hc:zjD p l N):zjD p l' N:=by rw [← h];exact hc
theorem zla (a:Wl)(w:World)(he:Env w)(ha:a.Ok) :
  Calls Tryz.prog 37 #[a.v] w fun e w'=>∃ v out,e=.returned v∧ScV w' v a.p out∧zjD a.p a.sizes (out.map Qw.x)∧Ext w w':=by
 have hpr:=fun W (_:Ext w W)=>zkQ a W;obtain ⟨W2,hW2⟩:∃ W2,W2=(w.alloc (.cells a.cs 83)).alloc (.cells #[.slice none 0 0,.slice none 0 0] 28):=⟨_,rfl⟩;have hE:Ext w W2:=by rw [hW2];exact ((Ext.refl w).alloc _).alloc _
 have hb:W2.heap[w.heap.size]?=some (.cells a.cs 83 (0,0)):=by
  rw [hW2];exact ((Ext.refl _).alloc _).heap (World.alloc_heap_new w _)
 have b0:zdM 28 W2 (w.heap.size+1) (.slice none 0 0) (.slice none 0 0):=by
  have:=zdM.new 28 (w.alloc (.cells a.cs 83)) (.slice none 0 0) (.slice none 0 0);rw [World.size_alloc] at this;rw [hW2];exact this
 have hcell:∀ W,Ext W2 W→∀ k,W.cell? ⟨w.heap.size,k,none⟩=a.cs[k]?:=fun W hx k=>by
  unfold World.cell?;dsimp only;rw [hx.heap hb];rfl
 have hrl:W2.rangeAt w.heap.size 0 a.cs.toList:=fun j v hj=>by
  rw [hcell W2 (Ext.refl _),Nat.zero_add,← Array.getElem?_toList];exact hj
 have hun:=Tryz.underlying83;have hin:(Tryz.prog.info? 83).map (·.size)=some a.cs.toList.length:=by
  rw [Array.length_toList];kernel_rfl
 rw [hW2] at hrl;have hn9:=a.n9;have hpw:=a.pw;have HE:=hid hE;have B0:=hid b0;have Hcell:=hid hcell;have Hpr:=hid hpr;have He:=hid he;have Ha:=hid ha;have Hpw:=hid hpw;clear hE b0 hcell hpr he ha hb hpw;have hv:a.v=.agg a.cs:=rfl;have Hv:=hid hv;rw [hv];clear hv;have hcs2:Wl.cs a=#[.bool a.three,.int .u8 a.kind,.int .u8 a.num,.int .i8 (a.xs 0).a,.int .i8 (a.xs 0).b,.int .i8 (a.xs 0).c,.int .i8 (a.xs 1).a,.int .i8 (a.xs 1).b,.int .i8 (a.xs 1).c,.int .i8 (a.xs 2).a,.int .i8 (a.xs 2).b,.int .i8 (a.xs 2).c,.int .i8 (a.xs 3).a,.int .i8 (a.xs 3).b,.int .i8 (a.xs 3).c,.int .i8 (a.xs 4).a,.int .i8 (a.xs 4).b,.int .i8 (a.xs 4).c,.int .i8 (a.xs 5).a,.int .i8 (a.xs 5).b,.int .i8 (a.xs 5).c,.int .i8 (a.xs 6).a,.int .i8 (a.xs 6).b,.int .i8 (a.xs 6).c,.int .i8 (a.xs 7).a,.int .i8 (a.xs 7).b,.int .i8 (a.xs 7).c]:=rfl;have Hrl:=hid hrl;have Hun:=hid hun;have Hin:=hid hin;clear hrl hun hin;rw [hcs2];go_enter Tryz.func37,Tryz.ntmps37
 rw [← hcs2];go_wp2_with (refine wpList_load_mid rfl 83 (.tmp 1) rfl w.heap.size 0 rfl a.cs.toList _ Hrl.out Hun.out rfl Hin.out ?_)
 rw [← hcs2,← hW2,← Hv.out];have hpw2:=Hpr.out W2 HE.out;refine hpw2.mono ?_;rintro e w1 ⟨u1,rfl,hon1,hx1⟩;clear hcs2 hW2;obtain ⟨a1,c1,rfl⟩:=zec hon1;have Hon1:=hid hon1;have Hsl1:=hid (zao hon1);have Hx1:=hid hx1;have q1:w1.cell? ⟨w.heap.size,1,none⟩=some (.int .u8 a.kind):=Hcell.out w1 hx1 1;have q2:w1.cell? ⟨w.heap.size,2,none⟩=some (.int .u8 a.num):=Hcell.out w1 hx1 2;clear hx1 hon1 hpw2;have HEw:=hid (HE.out.trans Hx1.out);have hpl:=Hpw.out;have hpl3:0<a.p.length∧a.p.length≤3:=by rcases hpl with e | e <;> rw [e] <;> decide
 have hoc:=fun W (hx:Ext w1 W)=>zke (.slice a1 a.p.length c1) a.p W (He.out.ext (HEw.out.trans hx)) (hx.sl Hsl1.out) hpl3.1 (by omega);have hco:=fun W vb vl (rs:List Qw)(hx:Ext w1 W)(hb:Rd W vb (ov (a.p.length - 1)))(hl:RdM W vl rs)(hz:rs.map Qw.x=a.sizes)=>zkt (.slice a1 a.p.length c1) vb vl a.p 400 rs W (He.out.ext (HEw.out.trans hx)) (hx.sl Hsl1.out) hb hl (by rw [hz];exact a.lw) (by omega) (by have:=a.few;rw [← hz,List.length_map] at this;exact this);have hnn:(1:Int)+(a.num:Int) % 9=((a.n:Nat):Int):=by unfold Wl.n;omega
 have hof:=fun W (hx:Ext w1 W)=>zgL 1 a.n W (He.out.ext (HEw.out.trans hx)) (by decide) hn9.1 (by omega);have hti:=fun W va (hx:Ext w1 W)(hr:Rd W va (ov (a.p.length - 1)))=>zgT va (ov (a.p.length - 1)) (mkRat 1 a.n) W (He.out.ext (HEw.out.trans hx)) hr (by rw [zi3];omega) (zkT _) (zkS hn9.1 hn9.2);have hm0:=fun W vg (hx:Ext w1 W)(hr:Rd W vg (zeP (ov (a.p.length - 1)) (mkRat 1 a.n)))=>zk1 vg _ 1 a.n W (He.out.ext (HEw.out.trans hx)) hr (by unfold zeP;rw [List.length_map,zi3];omega) (zkW _ _ hn9.1 hn9.2) (by omega) (by omega);rw [show (1:Int)+((a.n:Nat):Int) - 1=((a.n:Nat):Int) by omega] at hm0;have hm1:=fun W vg (hx:Ext w1 W)(hr:Rd W vg (szW a.p.length (a.xs 0)))=>zk1 vg _ 0 a.n W (He.out.ext (HEw.out.trans hx)) hr (by rw [zkv];omega) (zkV _ _) (by omega) (by omega);rw [show (0:Int)+((a.n:Nat):Int) - 1=((a.n:Nat):Int) - 1 by omega] at hm1;have hsz:=fun (i:Nat) W (hx:Ext w1 W)=>zk0 (.slice a1 a.p.length c1) a.p (a.xs i) W (He.out.ext (HEw.out.trans hx)) (hx.sl Hsl1.out) (by omega) (Ha.out.xs i);unfold Rv at hof hti;have Hoc:=hid hoc;have Hco:=hid hco;have Hof:=hid hof;have Hti:=hid hti;have Hm0:=hid hm0;have Hm1:=hid hm1;have Hsz:=hid hsz;clear hoc hco hof hti hm0 hm1 hsz hpl;by_cases k0:a.kind % 3=0
 ·have t0:((a.kind:Int) % 3 == 0)=true:=by rw [beq_iff_eq];omega
  have hszs:a.sizes=zjX (zeP (ov (a.p.length - 1)) (mkRat 1 a.n)) 1 a.n:=by unfold Wl.sizes;rw [if_pos k0]
  have Hszs:=hid hszs;clear hszs k0;go_wp2_with fail
  refine (Hoc.out w1 (Ext.refl _)).mono ?_;rintro e wa ⟨ua,rfl,hoa,hxa⟩;have Hoa:=hid hoa;have Hxa:=hid hxa;clear hoa hxa;go_wp2_with fail
  refine (Hoc.out wa Hxa.out).mono ?_;rintro e wb ⟨ub,rfl,hob,hxb⟩;have Hob:=hid hob;have Hxb:=hid (Hxa.out.trans hxb);have Hxab:=hid hxb;clear hob hxb;go_wp2_with fail
  refine (Hof.out wb Hxb.out).mono ?_;rintro e wc ⟨rfl,hxc⟩;have Hxc:=hid (Hxb.out.trans hxc);have Hobc:=hid (hxc.ownQ Hob.out);have Hxac:=hid (Hxab.out.trans hxc);clear hxc;go_wp2_with fail
  refine (Hti.out wc ub Hxc.out Hobc.out.rd).mono ?_;rintro e wd ⟨ud,rfl,hod,hxd⟩;have Hod:=hid hod;have Hxd:=hid (Hxc.out.trans hxd);have Hxad:=hid (Hxac.out.trans hxd);clear hod hxd;go_wp2_with fail
  refine (Hm0.out wd ud Hxd.out Hod.out.rd).mono ?_;rintro e wm ⟨um,rm,rfl,hom,hmm,hxm⟩;have Hom:=hid hom;have Hxm:=hid (Hxd.out.trans hxm);have Hxam:=hid (Hxad.out.trans hxm);have Hmm:=hid (hmm.trans Hszs.out.symm);clear hom hxm hmm;go_wp2_with fail
  refine (Hco.out wm ua um rm Hxm.out (Hxam.out.ownQ Hoa.out).rd Hom.out.rd Hmm.out).mono ?_;rintro e wC ⟨vn,out5,rfl,hn5,hr5,hcl5,hx5⟩;obtain ⟨avn,cvn,rfl⟩:=zec hn5;have hxC:=Hxm.out.trans hx5;have hbm:w.heap.size≤wm.heap.size:=(HEw.out.trans Hxm.out).size;have hb5:=B0.out.ext (Hx1.out.trans hxC);have r0:=hb5.c0;have r1:=hb5.c1;have z0:=hb5.fz 0;have z1:=hb5.fz 1;have hK:K0 28 w wC (w.heap.size+1):=⟨HEw.out.trans hxC,_,_,hb5⟩;have hfin:=hK.fin (by omega) (.slice a1 a.p.length c1) (.slice avn out5.length cvn);have hsv:=zkX (B:=w.heap.size) (x:=.slice a1 a.p.length c1) (y:=.slice avn out5.length cvn) hb5 (zan (hxC.own Hon1.out) HE.out.size) (zan hn5 hbm) fun r hr=>by
   rcases hr5 r hr with ⟨e1,e2⟩ | e
   ·rw [e1,e2];exact zf2.mono ((hx5.ownQ (Hxam.out.ownQ Hoa.out))) HEw.out.size
   ·exact e.mono hbm
  have hcl5':zjD a.p a.sizes (out5.map Qw.x):=by rw [← Hmm.out];exact hcl5
  have Hfin:=hid hfin;have Hsv:=hid hsv;have Hcl5:=hid hcl5';clear hfin hsv hcl5 hcl5' hK hb5 hxC hn5 hr5 hx5 hbm;go_wp2_with fail
  obtain ⟨hb6,hx6⟩:=Hfin.out;have hd0:=hb6.c0;have hd1:=hb6.c1;exact bodyPost_ret (v:=.agg #[.slice a1 a.p.length c1,.slice avn out5.length cvn]) (by simp [results,Tryz.results37,go_sem,hd0,hd1]) rfl ⟨_,out5,rfl,Hsv.out,Hcl5.out,hx6⟩
 ·have t0:((a.kind:Int) % 3 == 0)=false:=by rw [beq_eq_false_iff_ne];omega
  by_cases k1:a.kind % 3=1
  ·have t1:((a.kind:Int) % 3 == 1)=true:=(by rw [beq_iff_eq];omega);have hszs:a.sizes=zjX (szW a.p.length (a.xs 0)) 0 a.n:=(by unfold Wl.sizes;rw [if_neg k0,if_pos k1]);have Hszs:=hid hszs;have hsz0:=fun W (hx:Ext w1 W)=>Hsz.out 0 W hx;unfold I3.v at hsz0;have Hsz0:=hid hsz0;have hwr:IntKind.i64.wrap (((a.n:Nat):Int) - 1)=((a.n:Nat):Int) - 1:=zkR (by omega) (by omega);have hm1:=Hm1.out;rw [← hwr] at hm1;have Hm1:=hid hm1;clear hszs k0 k1 hsz0 hm1 hwr;have q3:w1.cell? ⟨w.heap.size,3,none⟩=some (.int .i8 (a.xs 0).a):=Hcell.out w1 Hx1.out 3;have q4:w1.cell? ⟨w.heap.size,4,none⟩=some (.int .i8 (a.xs 0).b):=Hcell.out w1 Hx1.out 4;have q5:w1.cell? ⟨w.heap.size,5,none⟩=some (.int .i8 (a.xs 0).c):=Hcell.out w1 Hx1.out 5;go_wp2_with fail
   have q3:=((Ext.refl w1).drew).cell q3;have q4:=((Ext.refl w1).drew).cell q4;have q5:=((Ext.refl w1).drew).cell q5;have HX:=hid (Ext.refl w1).drew;go_region_law (first
    | (go_simp;go_at_call 85;refine (Hoc.out _ HX.out).mono ?_;rintro e V ⟨ua,rfl,ho,hx⟩;(try (have HO:=hid (hx.ownQ HO.out)));(try (have HS:=hid (hx.ownQ HS.out)));(try (have HM:=hid (hx.qwM HM.out)));have q3:=hx.cell q3;have q4:=hx.cell q4;have q5:=hx.cell q5;have HX:=hid (HX.out.trans hx);have HO:=hid (zf2.mono ho HEw.out.size);clear ho hx)
    | (go_simp;go_at_call 89;refine (Hsz0.out _ HX.out).mono ?_;rintro e V ⟨us,rfl,ho,hx⟩;(try (have HO:=hid (hx.ownQ HO.out)));(try (have HS:=hid (hx.ownQ HS.out)));(try (have HM:=hid (hx.qwM HM.out)));have q3:=hx.cell q3;have q4:=hx.cell q4;have q5:=hx.cell q5;have HX:=hid (HX.out.trans hx);have HS:=hid ho;clear ho hx)
    | (go_simp;go_at_call 86;refine (Hm1.out _ _ HX.out HS.out.rd).mono ?_;rintro e V ⟨um,rm,rfl,ho,hmm,hx⟩;(try (have HO:=hid (hx.ownQ HO.out)));(try (have HS:=hid (hx.ownQ HS.out)));(try (have HM:=hid (hx.qwM HM.out)));have q3:=hx.cell q3;have q4:=hx.cell q4;have q5:=hx.cell q5;have HX:=hid (HX.out.trans hx);have HM:=hid ho;have Hmm:=hid (hmm.trans Hszs.out.symm);clear ho hx hmm)
    | (go_simp;go_at_call 84;refine (Hco.out _ _ _ rm HX.out HO.out.rd HM.out.rd Hmm.out).mono ?_;rintro e wC ⟨vn,out5,rfl,hn5,hr5,hcl5,hx5⟩;obtain ⟨avn,cvn,rfl⟩:=zec hn5;have hxC:=HX.out.trans hx5;have hbm:=Nat.le_trans HEw.out.size HX.out.size;have hb5:=B0.out.ext (Hx1.out.trans hxC);have r0:=hb5.c0;have r1:=hb5.c1;have z0:=hb5.fz 0;have z1:=hb5.fz 1;have hK:K0 28 w wC (w.heap.size+1):=⟨HEw.out.trans hxC,_,_,hb5⟩;have Hfin:=hid (hK.fin (Nat.le_succ _) (.slice a1 a.p.length c1) (.slice avn out5.length cvn));have Hsv:=hid (zkY (x:=.slice a1 a.p.length c1) (y:=.slice avn out5.length cvn) hb5 (zan (hxC.own Hon1.out) HE.out.size) (zan hn5 hbm) hbm (hx5.ownQ HO.out) hr5);have Hcl5:=hid (zkZ Hmm.out hcl5);clear hcl5 hK hb5 hxC hn5 hr5 hx5 hbm))
   all_goals
    go_wp2_with fail
    obtain ⟨hb6,hx6⟩:=Hfin.out;have hd0:=hb6.c0;have hd1:=hb6.c1;exact bodyPost_ret (v:=.agg #[.slice a1 a.p.length c1,.slice avn out5.length cvn]) (by simp [results,Tryz.results37,go_sem,hd0,hd1]) rfl ⟨_,out5,rfl,Hsv.out,Hcl5.out,hx6⟩
  ·have t1:((a.kind:Int) % 3 == 1)=false:=(by rw [beq_eq_false_iff_ne];omega);have hszs:a.sizes=(List.range (min a.n 8)).map fun i=>szW a.p.length (a.xs i):=(by unfold Wl.sizes;rw [if_neg k0,if_neg k1]);obtain ⟨m,hm⟩:∃ m,m=min a.n 8:=⟨_,rfl⟩;have hm8:m≤8:=(by omega);rw [← hm] at hszs;have hcx:∀ W,Ext w1 W→∀ k,k<8→W.cell? ⟨w.heap.size,3+k * 3,none⟩=some (.int .i8 (a.xs k).a)∧W.cell? ⟨w.heap.size,3+k * 3+1,none⟩=some (.int .i8 (a.xs k).b)∧W.cell? ⟨w.heap.size,3+k * 3+2,none⟩=some (.int .i8 (a.xs k).c):=fun W hx k hk=>by
    have hxx:=Hx1.out.trans hx;obtain rfl | rfl | rfl | rfl | rfl | rfl | rfl | rfl:k=0∨k=1∨k=2∨k=3∨k=4∨k=5∨k=6∨k=7:=by omega
    all_goals exact ⟨Hcell.out W hxx _,Hcell.out W hxx _,Hcell.out W hxx _⟩
   have hszk:=fun (k:Nat) W (hx:Ext w1 W)=>Hsz.out k W hx;unfold I3.v at hszk;have hmin:min ((a.n:Nat):Int) 8=(m:Int):=(by omega);obtain ⟨j0,hj,hy0,hy1,hy2⟩:=info_parts zf4;have Hszs:=hid hszs;have Hcx:=hid hcx;have Hszk:=hid hszk;have Hm:=hid hm;clear hszs k0 k1 hszk hcx hm;go_wp2_with fail
   go_loopw [5,6,46] (fun v5 v6 v46 wr=>∃ k:Nat,v46=.int .i64 k∧k≤m∧QsR w1 ((List.range k).map fun i=>szW a.p.length (a.xs i)) v5 wr) (fun _ _ v46 _=>m - (zam v46).toNat)
   case atStart=>exact ⟨0,rfl,Nat.zero_le _,[],QwM.nil _ _ _,rfl,Ext.refl _⟩
   case round =>
    obtain ⟨k,rfl,hk,⟨out,hq,hmq,hE⟩⟩:=hrel;have hol:out.length=k:=by
     have:=congrArg List.length hmq;rwa [List.length_map,List.length_map,List.length_range] at this
    obtain ⟨a6,c6,rfl⟩:=zec hq.1;by_cases hkm:k<m
    ·obtain ⟨q0,q1,q2⟩:=Hcx.out wr hE k (by omega);have hso:=Hszk.out k wr hE;have hstep:((List.range (k+1)).map fun i=>szW a.p.length (a.xs i))=((List.range k).map fun i=>szW a.p.length (a.xs i))++[szW a.p.length (a.xs k)]:=(by rw [List.range_succ,List.map_append];rfl);have hwl:=zkv a.p.length (a.xs k);have hqo:=hq.1;rw [hol] at hqo ⊢;have hk0:(0:Int)≤(k:Int):=(by omega);have hk1:(k:Int)<(m:Int):=(by omega);have hk8:(k:Int)<8:=(by omega);have hm3:k+1≤maxLen:=(by unfold maxLen;omega);have hm4:(k+1) * 24≤140737488355328:=(by omega);have Hso:=hid hso;have Hstep:=hid hstep;have Hwl:=hid hwl;have Hqo:=hid hqo;have Hq:=hid hq;have Hmq:=hid hmq;have HEr:=hid hE;have Hol:=hid hol;clear hso hstep hwl hqo hq hmq hE hol;go_wp2_with fail
     refine Hso.out.mono ?_;rintro e VA ⟨uA,rfl,hoA,hxA⟩;have hoA':=hoA;unfold zf2 at hoA';obtain ⟨au,cu,rfl⟩:=zec hoA';have hE3:=HEr.out.trans hxA;have Ho2:=hid (hoA.mono HEr.out.size);have Hq3:=hid (hxA.qwM Hq.out);have hqo:=hxA.own Hqo.out;have hbase:=hE3.size;have HE3:=hid hE3;generalize (szW a.p.length (a.xs k)).length=ml at *;clear hoA hoA' hxA hE3 q0 q1 q2;go_wp2_with (at_builtin;refine wpList_append_own _ rfl _ _ 26 rfl w1.heap.size 41 j0 (.slice none 0 0) 1 24 Tryz.underlying26 hj hy0 hy1 hy2 rfl (by decide) _ _ _ rfl (hqo.alloc _) ⟨VA.heap.size,0,none⟩ 1 1 [.slice au ml cu] rfl rfl (cell_one_new _ _ _) (by simp [Value.oneCell']) hm3 hm4 (by rw [World.size_alloc];omega) ?_;intro v7 V7 hown7 hgrow7 _)
     go_roundw
     case rel=>exact ⟨k+1,by go_num,by omega,by rw [Hstep.out];exact QsR.more HE3.out Hq3.out Hmq.out Ho2.out (by rw [Hol.out];exact hown7) (by rw [Hol.out];exact hgrow7)⟩
     case measure=>simp [zam];omega
    ·obtain rfl:k=m:=by omega
     have Hmm:=hid (hmq.trans Hszs.out.symm);have Hq:=hid hq;have HEr:=hid hE;have hoc:=Hoc.out wr hE;have Hocr:=hid hoc;clear hq hmq hE hol hoc;go_wp2_with fail
     refine Hocr.out.mono ?_;rintro e wm ⟨ua,rfl,hoa,hxa⟩;have Hoa:=hid (hoa.mono (Nat.le_trans HEw.out.size HEr.out.size));have Hxm:=hid (HEr.out.trans hxa);have Hom:=hid (hxa.qwM Hq.out);clear hoa hxa;go_wp2_with fail
     refine (Hco.out wm ua _ out Hxm.out Hoa.out.rd Hom.out.rd Hmm.out).mono ?_;rintro e wC ⟨vn,out5,rfl,hn5,hr5,hcl5,hx5⟩;obtain ⟨avn,cvn,rfl⟩:=zec hn5;have hxC:=Hxm.out.trans hx5;have hbm:=Nat.le_trans HEw.out.size Hxm.out.size;have hb5:=B0.out.ext (Hx1.out.trans hxC);have r0:=hb5.c0;have r1:=hb5.c1;have z0:=hb5.fz 0;have z1:=hb5.fz 1;have hK:K0 28 w wC (w.heap.size+1):=⟨HEw.out.trans hxC,_,_,hb5⟩;have Hfin:=hid (hK.fin (Nat.le_succ _) (.slice a1 a.p.length c1) (.slice avn out5.length cvn));have Hsv:=hid (zkY (x:=.slice a1 a.p.length c1) (y:=.slice avn out5.length cvn) hb5 (zan (hxC.own Hon1.out) HE.out.size) (zan hn5 hbm) hbm (hx5.ownQ Hoa.out) hr5);have Hcl5:=hid (zkZ Hmm.out hcl5);clear hcl5 hK hb5 hxC hn5 hr5 hx5 hbm;go_wp2_with fail
     obtain ⟨hb6,hx6⟩:=Hfin.out;have hd0:=hb6.c0;have hd1:=hb6.c1;exact bodyPost_ret (v:=.agg #[.slice a1 a.p.length c1,.slice avn out5.length cvn]) (by simp [results,Tryz.results37,go_sem,hd0,hd1]) rfl ⟨_,out5,rfl,Hsv.out,Hcl5.out,hx6⟩
end
section
open Go.RowKit Go.Lib Go.Shelf
theorem zlb (a:Wl):(Tryz.prog.info? 83).map (·.size)=some a.cs.toList.length:=by
 rw [Array.length_toList];kernel_rfl
end
section
open Go.RowKit Go.Lib
def zlc (n:Nat)(l:List Int)(k:Nat):Int :=
 if (l[k]?).getD 0<0∨(n:Int)≤(l[k]?).getD 0 then 3 else if 0<k∧(l[k]?).getD 0≤(l[k - 1]?).getD 0 then 6 else 0
def zld (n:Nat)(l:List Int)(k:Nat):Nat→Int
 | 0=>0
 | m+1=>if zlc n l k=0 then zld n l (k+1) m else zlc n l k
def zle (n:Nat)(l:List Int):Int:=if l=[] then 13 else zld n l 0 l.length
theorem zlf {n:Nat}{l:List Int}{k:Nat}(hk:k<l.length)(h:zlc n l k=0):zld n l k (l.length - k)=zld n l (k+1) (l.length - (k+1)):=by
 rw [show l.length - k=(l.length - (k+1))+1 by omega,zld,if_pos h]
theorem zlg {n:Nat}{l:List Int}{k:Nat}(hk:k<l.length)(h:zlc n l k ≠ 0):zld n l k (l.length - k)=zlc n l k:=by
 rw [show l.length - k=(l.length - (k+1))+1 by omega,zld,if_neg h]
theorem sub_all {n:Nat}{l:List Int}:∀ (m k:Nat),zld n l k m=0→∀ i,k≤i→i<k+m→zlc n l i=0
 | 0,k,_,i,h1,h2=>by omega
 | m+1,k,h,i,h1,h2=>by
  rw [zld] at h;by_cases e:zlc n l k=0
  ·rw [if_pos e] at h;by_cases hi:i=k
   ·rw [hi];exact e
   ·exact sub_all m (k+1) h i (by omega) (by omega)
  ·rw [if_neg e] at h;exact absurd h e
theorem zlh {n:Nat}{l:List Int}{k:Nat}(h:zlc n l k=0):(0≤(l[k]?).getD 0∧(l[k]?).getD 0<(n:Int))∧(0<k→(l[k - 1]?).getD 0<(l[k]?).getD 0):=by
 unfold zlc at h;split at h
 ·cases h
 ·split at h
  ·cases h
  ·rename_i h1 h2;exact ⟨by omega,fun hk=>by omega⟩
theorem zli {n:Nat}{l:List Int}(h:zld n l 0 l.length=0):(∀ x∈l,0≤x∧x<(n:Int))∧l.Pairwise (·<·):=by
 have ha:=fun i (hi:i<l.length)=>zlh (sub_all l.length 0 h i (Nat.zero_le _) (by omega));refine ⟨fun x hx=>?_,?_⟩
 ·obtain ⟨i,hi,rfl⟩:=List.mem_iff_getElem.1 hx;have:=(ha i hi).1;rw [List.getElem?_eq_getElem hi] at this;exact this
 ·rw [List.pairwise_iff_getElem];have key:∀ d i (hi:i+d+1<l.length),l[i]'(by omega)<l[i+d+1]:=by
   intro d;induction d with
   | zero =>
    intro i hi
    have:=(ha (i+1) hi).2 (by omega)
    rw [Nat.add_sub_cancel,List.getElem?_eq_getElem hi,List.getElem?_eq_getElem (by omega)] at this
    exact this
   | succ d ih =>
    intro i hi
    have h1:=ih i (by omega)
    have:=(ha (i+d+1+1) hi).2 (by omega)
    rw [Nat.add_sub_cancel,List.getElem?_eq_getElem (show i+d+1+1<l.length by omega),List.getElem?_eq_getElem (show i+d+1<l.length by omega)] at this
    exact Int.lt_trans h1 this
  intro i j hi hj hij;obtain ⟨d,rfl⟩:∃ d,j=i+d+1:=⟨j - i - 1,by omega⟩;exact key d i hj
def zlj (n:Nat)(l:List Int):List Int:=l.tail++[l.headD 0+(n:Int)]
def zlk (p:List Int)(N:List (List Rat))(l:List Int):List (List Rat):=(zlj N.length l).map fun k=>zeO (nt p N k) (nt p N (l.headD 0))
theorem zll (n:Nat){l:List Int}(h:l ≠ []):(zlj n l).length=l.length:=by
 cases l with
 | nil=>exact absurd rfl h
 | cons a l=>simp [zlj]
theorem zlm {n:Nat}{l:List Int}(h:l ≠ [])(hb:∀ x∈l,0≤x∧x<(n:Int))(hu:l.Pairwise (·<·)):(l.headD 0::zlj n l).Pairwise (·<·):=by
 cases l with
 | nil=>exact absurd rfl h
 | cons a l =>
  unfold zlj
  simp only [List.headD_cons,List.tail_cons]
  rw [List.pairwise_cons] at hu
  rw [List.pairwise_cons,List.pairwise_append]
  have ha:=hb a (List.mem_cons_self ..)
  refine ⟨fun x hx=>?_,hu.2,List.pairwise_singleton _ _,fun x hx y hy=>?_⟩
  ·rcases List.mem_append.1 hx with e | e
   ·exact hu.1 x e
   ·rw [List.mem_singleton] at e;omega
  ·rw [List.mem_singleton] at hy
   have:=hb x (List.mem_cons_of_mem _ hx)
   omega
theorem zln {p:List Int}{N:List (List Rat)}(h:Wd p N){l:List Int}(hl:l ≠ [])(hl10:l.length≤60)(hb:∀ x∈l,0≤x∧x<(N.length:Int))(hu:l.Pairwise (·<·)):Wd p (zlk p N l) :=
 h.pick (l.headD 0) (zlj N.length l) (by rw [zll _ hl];exact hl10) (zlm hl hb hu) (by
  unfold zlj;rw [List.length_append,List.length_singleton,Nat.add_sub_cancel,List.getElem?_append_right (Nat.le_refl _),Nat.sub_self];rfl)
theorem zlo (b off c:Nat)(l:List Int)(w:World)(hl:l.length≤1000000)(hc:∀ j z,l[j]?=some z→w.cell? ⟨b,off+j,none⟩=some (.int .i64 z)) :
  Calls Tryz.prog 45 #[.slice (some ⟨b,off,none⟩) l.length c] w fun e w'=>∃ u,e=.returned u∧zeb w' w.heap.size u l∧u ≠ .slice none 0 0∧Ext w w':=by
 obtain ⟨i0,hi,hz0,hz1,hz2⟩:=info_parts zea;have hcell:∀ j u,(zaq l)[j]?=some u→w.cell? ⟨b,off+j,none⟩=some u:=fun j u hu=>by
  unfold zaq at hu;rw [List.getElem?_map] at hu
  cases hz:l[j]? with
  | none=>rw [hz] at hu;cases hu
  | some z=>rw [hz] at hu;cases hu;exact hc j z hz
 refine (AnyE.slices_Clone Tryz.lCloneI i0 (.int .i64 0) 1 8 hi hz0 hz1 hz2 rfl (by decide) Tryz.sizeOf3 b off l.length c (zaq l) w (by rw [zas];omega) (by unfold maxLen;omega) (by omega) hcell (by simp [zaq,Value.oneCell'])).mono fun e w' ⟨v',he,ho,hn,hb⟩=>⟨v',he,ho,hn,hb⟩
end
section
open Go.RowKit Go.Lib
attribute [local go_sem] Oper.semAt_some
theorem zlp (v:Value)(p:List Int)(rs:List Qw)(n:Nat)(k:Int)(r:Qw)(w:World)(he:Env w)(hv:ScV w v p rs)(h:ziW p rs)(hn:rs.length=n+1)(hr:rs[n]?=some r)(hk0:-100000000≤k)(hk1:k≤100000000)
  (hq:Ft 400 ((k / ((n:Int)+1):Int):Rat)) (hf1:∀ q∈zeP r.x ((k / ((n:Int)+1):Int):Rat),Ft 30 q) (hf2:∀ q∈noteQ rs n k,Ft 30 q) :
  Calls Tryz.prog 43 #[v,.int .i64 k] w fun e w'=>∃ g,e=.returned (.tuple #[.slice (some ⟨g,0,none⟩) p.length p.length,.int .i64 0])∧zf2 w' w.heap.size (.slice (some ⟨g,0,none⟩) p.length p.length) (noteQ rs n k)∧Ext w w':=by
 have h60:=h.most;have hN:(0:Int)<(n:Int)+1:=by omega
 have htf:=ziY (k:=k) hN;have h3:=Int.emod_nonneg k (show (n:Int)+1 ≠ 0 by omega);have h4:=Int.emod_lt_of_pos k hN;have hqb:=zir (a:=k) (b:=(n:Int)+1) (m:=100000000) hN hk0 hk1 (by omega);have hpe:=fun W (hE:Ext w W)=>ziU v p rs n r W (hv.ext hE) hn (by omega) hr;have hin:=fun W (hE:Ext w W)=>ziS (k / ((n:Int)+1)) W (he.ext hE) (by omega) (by omega);obtain ⟨vp,vn,rfl,hp,hs,hm⟩:=hv;have hmem:=List.mem_of_getElem? hr;have hmr:=hm r hmem;have hsc:=fun W (hE:Ext w W)=>zij vp r.u p r.x _ W (he.ext hE) (hE.sl hp) (hE.rd hmr) h.pe (h.len r hmem) (h.ft r hmem) hq hf1;obtain ⟨ap,cp,rfl,_,_,_⟩:=hp.parts;obtain ⟨an,cn,rfl,_,_,hc⟩:=hs.parts;rw [zas] at hpe hsc ⊢;rw [zf5,hn] at hpe ⊢;obtain ⟨b,off,rfl,hc0⟩:=hc n r.u (by unfold qwc;rw [List.getElem?_map,hr];rfl);have hE0:Ext w (w.alloc (.cells #[.slice ap p.length cp,.slice (some ⟨b,off,none⟩) (n+1) cn] 28)):=(Ext.refl w).alloc _;have hzero:k % ((n:Int)+1)=0→noteQ rs n k=zeP r.x ((k / ((n:Int)+1):Int):Rat):=fun e=>by unfold noteQ;rw [hr];simp only [e,if_true];rfl
 have hadd:¬ k % ((n:Int)+1)=0→∃ (j:Nat)(s:Qw),(j:Int)=k % ((n:Int)+1) - 1∧(∃ a c,s.u=.slice a p.length c)∧w.cell? ⟨b,off+j,none⟩=some s.u ∧
   ∀ W vb,Ext w W→Rd W vb (zeP r.x ((k / ((n:Int)+1):Int):Rat))→Calls Tryz.prog 107 #[.slice ap p.length cp,vb,s.u] W fun e w'=>∃ g,e=.returned (.tuple #[.slice (some ⟨g,0,none⟩) p.length p.length,.int .i64 0])∧zf2 w' W.heap.size (.slice (some ⟨g,0,none⟩) p.length p.length) (noteQ rs n k)∧Ext W w':=fun e=>by
  obtain ⟨j,hj⟩:∃ j:Nat,(j:Int)=k % ((n:Int)+1) - 1:=⟨(k % ((n:Int)+1) - 1).toNat,by omega⟩;obtain ⟨s,hs1⟩:∃ s,rs[j]?=some s:=⟨_,List.getElem?_eq_getElem (by omega)⟩;have hsm:=List.mem_of_getElem? hs1;have hrs:=hm s hsm;obtain ⟨b2,off2,e2,hcs⟩:=hc j s.u (by unfold qwc;rw [List.getElem?_map,hs1];rfl)
  cases e2
  have hnq:noteQ rs n k=zeN (zeP r.x ((k / ((n:Int)+1):Int):Rat)) s.x:=by
   unfold noteQ;rw [hr,if_neg e,show (k % ((n:Int)+1)).toNat - 1=j by omega,hs1];rfl
  refine ⟨j,s,hj,?_,hcs,fun W vb hE hb=>?_⟩
  ·obtain ⟨a,c,hu,_⟩:=hrs.parts;rw [h.len s hsm] at hu;exact ⟨a,c,hu⟩
  ·have:=zii (.slice ap (zaq p).length cp) vb s.u p _ s.x W (he.ext hE) (hE.sl hp) hb (hE.rd hrs) h.pe (by unfold zeP;rw [List.length_map];exact h.len r hmem) (h.len s hsm) hf1 (h.ft s hsm) (by rw [← hnq];exact hf2);rw [zas,← hnq] at this;exact this
 have hcast:((n+1:Nat):Int)=(n:Int)+1:=by omega
 have hnz:((n:Int)+1) ≠ 0:=by omega
 clear hp hs hm he h hmr hmem hc hc0 hf1 hf2 hq;have bx:(w.alloc (.cells #[.slice ap p.length cp,.slice (some ⟨b,off,none⟩) (n+1) cn] 28)).heap[w.heap.size]?=some (.cells #[.slice ap p.length cp,.slice (some ⟨b,off,none⟩) (n+1) cn] 28 (0,0)):=World.alloc_heap_new w _;have hbox:∀ W,Ext (w.alloc (.cells #[.slice ap p.length cp,.slice (some ⟨b,off,none⟩) (n+1) cn] 28)) W→W.cell? ⟨w.heap.size,0,none⟩=some (.slice ap p.length cp)∧W.cell? ⟨w.heap.size,1,none⟩=some (.slice (some ⟨b,off,none⟩) (n+1) cn):=fun W hE=>by
  have hb:=hE.heap bx;unfold World.cell?;dsimp only;rw [hb];exact ⟨rfl,rfl⟩
 clear bx;have Hpe:=hid hpe;have Hin:=hid hin;have Hsc:=hid hsc;have HE0:=hid hE0;have Htf:=hid htf;have Hbox:=hid hbox;have Hzero:=hid hzero;have Hadd:=hid hadd;clear hpe hin hsc hE0 htf hbox hzero hadd;have hdec:k.tmod ((n:Int)+1)<0∨¬ k.tmod ((n:Int)+1)<0:=by omega
 rcases hdec with hs | hs
 case' inl=>obtain ⟨e1,e2⟩:=Htf.out.1 hs
 case' inr=>obtain ⟨e1,e2⟩:=Htf.out.2 hs
 all_goals
  go_enter Tryz.func43,Tryz.ntmps43
  go_wp2_with fail
  go_quiet (fail)
  go_wp2_with fail
  generalize hV:(w.alloc (.cells #[.slice ap p.length cp,.slice (some ⟨b,off,none⟩) (n+1) cn] 28)).drewN nq=V at *;have hEV:Ext (w.alloc (.cells #[.slice ap p.length cp,.slice (some ⟨b,off,none⟩) (n+1) cn] 28)) V:=by rw [← hV];exact (Ext.refl _).drewN _
  obtain ⟨q0,q1⟩:=Hbox.out V hEV;have HV:=hid (HE0.out.trans hEV);have HEV0:=hid hEV;clear hV hEV;go_region_held3 (fun w'=>Ext V w'∧w'.cell? ⟨w.heap.size,0,none⟩=some (.slice ap p.length cp)∧w'.cell? ⟨w.heap.size,1,none⟩=some (.slice (some ⟨b,off,none⟩) (n+1) cn))
   (first | (with_reducible assumption) | exact ⟨(Ext.refl V).drew,q0,q1⟩)
   (first
    | (go_at_call 105;refine (Hpe.out _ (HV.out.trans (And.left (by assumption)))).mono ?_;rintro e9 VA ⟨rfl,hxa⟩;have hEA:=((Ext.refl V).drew).trans hxa;have hS2:Ext V VA∧VA.cell? ⟨w.heap.size,0,none⟩=some (.slice ap p.length cp)∧VA.cell? ⟨w.heap.size,1,none⟩=some (.slice (some ⟨b,off,none⟩) (n+1) cn):=⟨hEA,hEA.cell q0,hEA.cell q1⟩;have HEA:=hid hEA;clear hxa hEA)
    | (go_at_call 106;refine (Hin.out _ (HV.out.trans HEA.out)).mono ?_;rintro e9 VB ⟨rfl,hxa⟩;have hEB:=HEA.out.trans hxa;have hS3:Ext V VB∧VB.cell? ⟨w.heap.size,0,none⟩=some (.slice ap p.length cp)∧VB.cell? ⟨w.heap.size,1,none⟩=some (.slice (some ⟨b,off,none⟩) (n+1) cn):=⟨hEB,hEB.cell q0,hEB.cell q1⟩;have HEB:=hid hEB;clear hxa hEB hS2)
    | (go_at_call 67;refine (Hsc.out _ (HV.out.trans HEB.out)).mono ?_;rintro e9 VC ⟨g,rfl,ho,hxa⟩;have hEC:=HEB.out.trans hxa;have hS4:Ext V VC∧VC.cell? ⟨w.heap.size,0,none⟩=some (.slice ap p.length cp)∧VC.cell? ⟨w.heap.size,1,none⟩=some (.slice (some ⟨b,off,none⟩) (n+1) cn):=⟨hEC,hEC.cell q0,hEC.cell q1⟩;have HEC:=hid hEC;have HoC:=hid (ho.mono (HV.out.trans HEB.out).size);clear hxa hEC ho hS3))
  all_goals
   clear hS4 q0 q1;by_cases hi:k % ((n:Int)+1)=0
   ·have hnq:=Hzero.out hi;have Hnq:=hid hnq;clear hnq;go_wp2
    go_ret2
    exact ⟨_,rfl,by rw [Hnq.out];exact HoC.out,HV.out.trans HEC.out⟩
   ·obtain ⟨j,s,hj,⟨sa,sc,hsu⟩,hcs,had⟩:=Hadd.out hi;rw [hsu] at hcs had;have hEV:=HV.out.trans HEC.out;have hcs2:=hEV.cell hcs;obtain ⟨q0,q1⟩:=Hbox.out VC (HEV0.out.trans HEC.out);have haD:=had VC.drew _ hEV.drew HoC.out.rd;have hj0:(0:Int)≤(j:Int):=(by omega);have hj1:(j:Int)<((n+1:Nat):Int):=(by omega);clear hcs had;have hj2:IntKind.i64.wrap (k % ((n:Int)+1) - 1)=(j:Int):=(by rw [IntWalk.i64_in _ (by omega)];exact hj.symm);have hj3:(j:Int)<(n:Int)+1:=(by omega);have hj4:k % ((n:Int)+1) - 1=(j:Int):=hj.symm;clear hj;have HaD:=hid haD;have HEV:=hid hEV;clear haD hEV;have hjk:k % ((n:Int)+1)=(j:Int)+1:=(by omega);clear hj2 hj4;generalize k % ((n:Int)+1)=iv at *;subst hjk;have hwj:IntKind.i64.wrap ((j:Int)+1 - 1)=(j:Int):=(by rw [show (j:Int)+1 - 1=(j:Int) by omega];exact IntWalk.i64_in _ (by omega));have hwj2:IntKind.i64.wrap (j:Int)=(j:Int):=IntWalk.i64_in _ (by omega);have hjn:j<n+1:=(by omega);go_wp2_with fail
    go_region_held3 (fun w'=>Ext VC w'∧w'.cell? ⟨w.heap.size,0,none⟩=some (.slice ap p.length cp)∧w'.cell? ⟨w.heap.size,1,none⟩=some (.slice (some ⟨b,off,none⟩) (n+1) cn)∧w'.cell? ⟨b,off+j,none⟩=some (.slice sa p.length sc))
     (first | (with_reducible assumption) | exact ⟨(Ext.refl VC).drew,q0,q1,hcs2⟩)
     (first
      | (go_at_call 107;refine (HaD.out).mono ?_;rintro e9 VD ⟨g2,rfl,ho2,hxa⟩;have hED:=((Ext.refl VC).drew).trans hxa;have hS5:Ext VC VD∧VD.cell? ⟨w.heap.size,0,none⟩=some (.slice ap p.length cp)∧VD.cell? ⟨w.heap.size,1,none⟩=some (.slice (some ⟨b,off,none⟩) (n+1) cn)∧VD.cell? ⟨b,off+j,none⟩=some (.slice sa p.length sc):=⟨hED,hED.cell q0,hED.cell q1,hED.cell hcs2⟩;have HED:=hid hED;have HoD:=hid (ho2.mono HEV.out.size);clear hxa hED ho2))
    all_goals
     clear hS5 q0 q1 hcs2;go_wp2
     go_ret2
     exact ⟨_,rfl,HoD.out,HEV.out.trans HED.out⟩
end
section
open Go.RowKit Go.Lib
section
variable {p : List Int} {N : List (List Rat)} (h : Wd p N)
include h
theorem Wd.nt_bd (k:Int):((k / (N.length:Int):Int):Rat) * 67108864≤sF p (nt p N k)∧sF p (nt p N k)≤((k / (N.length:Int):Int):Rat) * 67108864+67108864:=by
 have h0:=h.pos;have hN:(0:Int)<(N.length:Int):=by omega
 have a1:=Int.emod_nonneg k (show (N.length:Int) ≠ 0 by omega);have a2:=Int.emod_lt_of_pos k hN;rw [h.sF_nt];have:=h.zbd (i:=(k % (N.length:Int)).toNat) (by omega);grind
theorem Wd.nt_sub_quick (k l:Int)(hk0:-1000≤k)(hk1:k≤1000)(hl0:-1000≤l)(hl1:l≤1000):zin p (zeO (nt p N k) (nt p N l)):=by
 obtain ⟨n,hn⟩:=h.dif;have h0:=h.pos;have hN:(0:Int)<(N.length:Int):=by omega
 have e1:=zir (a:=k) (b:=(N.length:Int)) (m:=1000) hN hk0 hk1 (by omega);have e2:=zir (a:=l) (b:=(N.length:Int)) (m:=1000) hN hl0 hl1 (by omega);have b1:=h.nt_bd k;have b2:=h.nt_bd l;have c1:(-1000:Rat)≤((k / (N.length:Int):Int):Rat):=Rat.intCast_le_intCast.2 e1.1;have c2:((k / (N.length:Int):Int):Rat)≤1000:=Rat.intCast_le_intCast.2 e1.2;have c3:(-1000:Rat)≤((l / (N.length:Int):Int):Rat):=Rat.intCast_le_intCast.2 e2.1;have c4:((l / (N.length:Int):Int):Rat)≤1000:=Rat.intCast_le_intCast.2 e2.2;have hs:=zeQ p (nt p N k) (nt p N l) (by rw [h.ntlen,h.ntlen]);have hl:=(zji (x:=nt p N k) (y:=nt p N l) (by rw [h.ntlen,h.ntlen])).trans (h.ntlen k);have hc:((2001 * 67108864:Int):Rat)=2001 * 67108864:=by rw [Rat.intCast_mul];rfl
 exact zjg (c:=2001) (by rw [hl];exact h.pr) (h.nt_nic hn k l) (by omega) (by omega) (by rw [hc];grind) (by rw [hc];grind)
theorem Wd.nt_quick (k:Int)(hk0:-1000≤k)(hk1:k≤1000):zin p (nt p N k):=by
 have:=h.nt_sub_quick k 0 hk0 hk1 (by omega) (by omega);rw [h.nt_zero,← h.ntlen k,zjj] at this;exact this
end
theorem zlq {n:Nat}{q:Int}(h0:-100000<q)(h1:q<100000):∀ x∈zeP (ov n) (q:Rat),Ft 30 x:=by
 rw [zjv];unfold zer;rw [List.replicate_succ];intro x hx;simp only [shf,List.mem_cons] at hx;rcases hx with rfl | hx
 ·rw [show (0:Rat)+(q:Rat)=(q:Rat) by grind];exact (zjU (k:=5) (by show _<100000;omega) (by omega)).mono (by omega)
 ·rw [List.eq_of_mem_replicate hx];exact zhI.mono (by omega)
theorem zlr (v:Value)(p:List Int)(rs:List Qw)(k:Int)(w:World)(he:Env w)(hv:ScV w v p rs)(h:Wd p (rs.map Qw.x))(hk0:-1000≤k)(hk1:k≤1000) :
  Calls Tryz.prog 43 #[v,.int .i64 k] w fun e w'=>∃ g,e=.returned (.tuple #[.slice (some ⟨g,0,none⟩) p.length p.length,.int .i64 0])∧zf2 w' w.heap.size (.slice (some ⟨g,0,none⟩) p.length p.length) (nt p (rs.map Qw.x) k)∧Ext w w':=by
 have hpos:=h.pos;rw [List.length_map] at hpos;obtain ⟨n,hn⟩:∃ n,rs.length=n+1:=⟨rs.length - 1,by omega⟩;obtain ⟨r,hr⟩:∃ r,rs[n]?=some r:=⟨_,List.getElem?_eq_getElem (by omega)⟩;have hrx:r.x=ov (p.length - 1):=by
  have:=h.last;rw [List.length_map,hn,Nat.add_sub_cancel,List.getElem?_map,hr] at this;exact Option.some.inj this
 have hnq:=h.noteQ hn k;have hq:=h.nt_quick k hk0 hk1;have hd:=zir (a:=k) (b:=(n:Int)+1) (m:=1000) (by omega) hk0 hk1 (by omega);have:=zlp v p rs n k r w he hv h.right hn hr (by omega) (by omega) ((zjU (k:=5) (by show _<100000;omega) (by omega)).mono (by omega)) (by rw [hrx];exact zlq (by omega) (by omega)) (by rw [hnq];exact hq.1);rw [hnq] at this;exact this
end
section
def zls (n:Nat):List Int:=(List.range n).map fun (i:Nat)=>(i:Int)
theorem zlu {n:Nat}(h0:0<n):zlj n (zls n)=(List.range n).map fun (i:Nat)=>(0:Int)+(i:Int)+1:=by
 obtain ⟨m,rfl⟩:∃ m,n=m+1:=⟨n - 1,by omega⟩;have e:zls (m+1)=0::(List.range m).map fun (i:Nat)=>(i:Int)+1:=by
  unfold zls;rw [List.range_succ_eq_map,List.map_cons,List.map_map];rfl
 unfold zlj;rw [e,List.tail_cons,List.headD_cons,List.range_succ,List.map_append];have e2:((List.range m).map fun (i:Nat)=>(i:Int)+1)=(List.range m).map fun (i:Nat)=>(0:Int)+(i:Int)+1:=List.map_congr_left fun i _=>by omega
 rw [e2,List.map_singleton,show (0:Int)+((m+1:Nat):Int)=0+(m:Int)+1 by omega]
section
variable {p : List Int} {N : List (List Rat)} (h : Wd p N)
include h
omit h in
theorem zlv {i:Nat}(hi:i<N.length):N[i]?=some (zat p N (i+1)):=by
 unfold zat;rw [List.getElem?_cons_succ,List.getElem?_eq_getElem hi,Option.getD_some]
theorem Wd.md_zero : md p N 0=N:=by
 refine List.ext_getElem? fun i=>?_;by_cases hi:i<N.length
 ·have e:(0:Int)+(i:Int)+1=((i+1:Nat):Int):=by omega
  have hz:=zjj (nt p N ((i+1:Nat):Int));rw [h.ntlen] at hz;rw [zj2 hi,e,h.nt_zero,hz,h.nt_low (by omega),zlv (p:=p) hi]
 ·rw [List.getElem?_eq_none (by rw [zj1];omega),List.getElem?_eq_none (by omega)]
theorem Wd.sub_all : zlk p N (zls N.length)=N:=by
 have h0:=h.pos;have e:(zls N.length).headD 0=0:=by
  obtain ⟨m,hm⟩:∃ m,N.length=m+1:=⟨N.length - 1,by omega⟩;rw [hm];unfold zls;rw [List.range_succ_eq_map];rfl
 unfold zlk;rw [zlu h0,e];exact h.md_zero
theorem Wd.lw : Lw p 1 N:=by
 obtain ⟨n,hn⟩:=h.dif;refine ⟨h.pr,h.len,by omega,by omega,fun x hx=>?_,n,hn⟩;obtain ⟨i,hi,e⟩:=List.getElem_of_mem hx;have hz:=zlv (p:=p) hi;rw [List.getElem?_eq_getElem hi,e] at hz;rw [Option.some.inj hz,show ((1 * 67108864:Int):Rat)=67108864 from rfl];rcases Nat.lt_or_ge (i+1) N.length with g | g
 ·have:=h.zbd g;constructor <;> grind
 ·rw [show i+1=N.length by omega,h.zlast,h.sov];constructor <;> grind
end
end
end Go.Proofs.YtiameffonflhgaaGreatDoor
