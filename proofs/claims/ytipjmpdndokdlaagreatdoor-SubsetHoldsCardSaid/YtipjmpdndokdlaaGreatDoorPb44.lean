/- Walks: law 31's Make. What the laws of worlds begin with: a world in its box. Walk: scale.Steps of a right scale. Plain: the major scale is the collection of seven fifths; what reduces there. Plain: the scales of worlds, and the major scale, have nice classes. Walk: the law SubsetHolds. What the rows' condition gives the walks, and the last step of a law (the seat of chapters 31 and 32). -/
import Derived.Test.YtipjmpdndokdlaaGreatDoorPb43
import Derived.Test.YtipjmpdndokdlaaGreatDoorPb23
import Derived.Test.YtipjmpdndokdlaaGreatDoorPb20
import Derived.Test.YtipjmpdndokdlaaGreatDoorPb18
import Derived.Test.YtipjmpdndokdlaaGreatDoorPb28
import Derived.Test.YtipjmpdndokdlaaGreatDoorPb21
import Derived.Test.YtipjmpdndokdlaaGreatDoorPb27
import Derived.Test.YtipjmpdndokdlaaGreatDoorPb22
import Derived.Test.YtipjmpdndokdlaaGreatDoorPb00
import Derived.Below
import Derived.ChangeSame
import Derived.OpenShut
import Derived.LaidMore
import Derived.ProofKit
import Derived.Stop.Joined
import Derived.Laws.IdiomArrays
import Derived.Test.YtipjmpdndokdlaaGreatDoorRows
import Derived.Test.YtipjmpdndokdlaaGreatDoorTie
import Derived.Test.YtipjmpdndokdlaaGreatDoorCards
import Derived.Handy
import Derived.Lay
import Derived.SevenTiedAt
import Derived.Stop.LaidErr
import Derived.Carry
set_option maxRecDepth 100000
set_option maxHeartbeats 4000000
namespace Go.Proofs.YtipjmpdndokdlaaGreatDoor
open Go.RowKit Go.Lib Go.Shelf
attribute [local go_sem] Oper.semAt_some
theorem wrap_small {z : Int} (h0 : -1000000 ≤ z) (h1 : z ≤ 1000000) : IntKind.i64.wrap z=z :=
 IntWalk.i64_in _ (by omega)
theorem sn_part {n : Nat} (h0 : 0 < n) (h9 : n ≤ 9) : Sn (mkRat 1 n):=by
 unfold Sn
 obtain rfl | rfl | rfl | rfl | rfl | rfl | rfl | rfl | rfl:n=1 ∨ n=2 ∨ n=3 ∨ n=4 ∨ n=5 ∨ n=6 ∨ n=7 ∨ n=8 ∨ n=9:=by omega
 all_goals decide +kernel
theorem sn_ov (k : Nat) : ∀ q ∈ ov k,Sn q:=by
 intro q hq
 unfold ov at hq
 rcases List.mem_cons.1 hq with e | e
 ·rw [e];unfold Sn;decide +kernel
 ·rw [List.eq_of_mem_replicate e];unfold Sn;decide +kernel
theorem sn_spell (x : I3) (i : Nat) : Sn (spell x i):=by
 have h:=tmod9 (x.at i)
 unfold spell
 generalize (x.at i).tmod 9=z at *
 have key:∀ j:Fin 17,Sn (mkRat ((j.val:Int) - 8) 1)∧Sn (mkRat ((j.val:Int) - 8) 2):=by unfold Sn;decide +kernel
 have h2:=key ⟨(z + 8).toNat,by omega⟩
 dsimp only at h2
 rw [show (((z + 8).toNat:Nat):Int) - 8=z by omega] at h2
 unfold dnm
 split
 ·exact h2.2
 ·exact h2.1
theorem sn_szW (n : Nat) (x : I3) : ∀ q ∈ szW n x,Sn q:=by
 intro q hq
 unfold szW at hq
 obtain ⟨i,_,rfl⟩:=List.mem_map.1 hq
 exact sn_spell x i
theorem sn_oc (k n : Nat) (h0 : 0 < n) (h9 : n ≤ 9) : ∀ q ∈ mulZ (ov k) (mkRat 1 n),Sn q:=by
 intro q hq
 unfold mulZ ov at hq
 rw [List.map_cons,List.map_replicate] at hq
 rcases List.mem_cons.1 hq with e | e
 ·rw [e,Rat.one_mul];exact sn_part h0 h9
 ·rw [List.eq_of_mem_replicate e,Rat.zero_mul];unfold Sn;decide +kernel
/-- A scale that reads, behind a store into the result's box. -/
theorem scv_set {W : World} {b B : Nat} {u v x y vp vn : Value} {p : List Int} {out : List Qw} (hb : BoxT 32 W b u v) (hp : W.ownsRow B 3 1 vp p.length (i64s p)) (hn : W.ownsRow B 37 1 vn out.length (qwc out)) (hr : ∀ r ∈ out,OwnQ W B r.u r.x) : ScV ((W.setCell ⟨b,0,none⟩ x).setCell ⟨b,1,none⟩ y) (.agg #[vp,vn]) p out:=by
 refine ⟨vp,vn,rfl,?_,?_,fun r h=>?_⟩
 ·have:=own_set_apart (BoxT.put0 hb x) (own_set_apart hb hp (by decide) 0 x) (by decide) 1 y
  rw [← i64s_length] at this
  exact sl_own this
 ·have:=own_set_apart (BoxT.put0 hb x) (own_set_apart hb hn (by decide) 0 x) (by decide) 1 y
  rw [← qwc_length] at this
  exact sl_own this
 ·exact OwnQ.rd (own_set_apart (BoxT.put0 hb x) (own_set_apart hb (hr r h) (by decide) 0 x) (by decide) 1 y)
theorem scv_made {W : World} {b B B' : Nat} {u v x y vp vn vb : Value} {p : List Int} {o : List Rat} {out : List Qw} (hb : BoxT 32 W b u v) (hp : W.ownsRow B 3 1 vp p.length (i64s p)) (hn : W.ownsRow B 37 1 vn out.length (qwc out)) (hB : B ≤ B') (ho : OwnQ W B vb o) (hr : ∀ r ∈ out,(r.u=vb ∧ r.x=o) ∨ OwnQ W B' r.u r.x) : ScV ((W.setCell ⟨b,0,none⟩ x).setCell ⟨b,1,none⟩ y) (.agg #[vp,vn]) p out :=
 scv_set hb hp hn fun r h=>by
  rcases hr r h with ⟨e1,e2⟩ | e
  ·rw [e1,e2];exact ho
  ·exact e.mono hB
theorem coll_sizes {p : List Int} {l l' N : List (List Rat)} (h : l=l') (hc : Coll p l N) : Coll p l' N:=by rw [← h];exact hc
theorem lMake_c (a : Wl) (w : World) (he : Env w) (ha : a.Ok) :
  Calls Tryz.prog 19 #[a.v] w fun e w'=>∃ v out,e=.returned v∧ScV w' v a.p out∧Coll a.p a.sizes (out.map Qw.x)∧Ext w w':=by
 have hpr:=fun W (_:Ext w W)=>lPrimes_c a W
 obtain ⟨W2,hW2⟩:∃ W2,W2=(w.alloc (.cells a.cs 47)).alloc (.cells #[.slice none 0 0,.slice none 0 0] 32):=⟨_,rfl⟩
 have hE:Ext w W2:=by rw [hW2];exact ((Ext.refl w).alloc _).alloc _
 have hb:W2.heap[w.heap.size]?=some (.cells a.cs 47 (0,0)):=by
  rw [hW2]
  exact ((Ext.refl _).alloc _).heap (World.alloc_heap_new w _)
 have b0:BoxT 32 W2 (w.heap.size + 1) (.slice none 0 0) (.slice none 0 0):=by
  have:=BoxT.new 32 (w.alloc (.cells a.cs 47)) (.slice none 0 0) (.slice none 0 0)
  rw [World.size_alloc] at this
  rw [hW2]
  exact this
 have hcell:∀ W,Ext W2 W→∀ k,W.cell? ⟨w.heap.size,k,none⟩=a.cs[k]?:=fun W hx k=>by
  unfold World.cell?
  dsimp only
  rw [hx.heap hb]
  rfl
 have hrl:W2.rangeAt w.heap.size 0 a.cs.toList:=fun j v hj=>by
  rw [hcell W2 (Ext.refl _),Nat.zero_add,← Array.getElem?_toList]
  exact hj
 have hun:=Tryz.underlying47
 have hin:(Tryz.prog.info? 47).map (·.size)=some a.cs.toList.length:=by
  rw [Array.length_toList]
  kernel_rfl
 rw [hW2] at hrl
 have hn9:=a.n9
 have hpw:=a.pw
 have HE:=Lib.hid hE;have B0:=Lib.hid b0;have Hcell:=Lib.hid hcell;have Hpr:=Lib.hid hpr;have He:=Lib.hid he;have Ha:=Lib.hid ha;have Hpw:=Lib.hid hpw
 clear hE b0 hcell hpr he ha hb hpw
 have hv:a.v=.agg a.cs:=rfl
 have Hv:=Lib.hid hv
 rw [hv]
 clear hv
 have hcs2:Wl.cs a=#[.bool a.three,.int .u8 a.kind,.int .u8 a.num,.int .i8 (a.xs 0).a,.int .i8 (a.xs 0).b,.int .i8 (a.xs 0).c,.int .i8 (a.xs 1).a,.int .i8 (a.xs 1).b,.int .i8 (a.xs 1).c,.int .i8 (a.xs 2).a,.int .i8 (a.xs 2).b,.int .i8 (a.xs 2).c,.int .i8 (a.xs 3).a,.int .i8 (a.xs 3).b,.int .i8 (a.xs 3).c,.int .i8 (a.xs 4).a,.int .i8 (a.xs 4).b,.int .i8 (a.xs 4).c,.int .i8 (a.xs 5).a,.int .i8 (a.xs 5).b,.int .i8 (a.xs 5).c,.int .i8 (a.xs 6).a,.int .i8 (a.xs 6).b,.int .i8 (a.xs 6).c,.int .i8 (a.xs 7).a,.int .i8 (a.xs 7).b,.int .i8 (a.xs 7).c]:=rfl
 have Hrl:=Lib.hid hrl;have Hun:=Lib.hid hun;have Hin:=Lib.hid hin
 clear hrl hun hin
 rw [hcs2]
 go_enter Tryz.func19,Tryz.ntmps19
 rw [← hcs2]
 go_wp2_with (refine wpList_load_mid rfl 47 (.tmp 1) rfl w.heap.size 0 rfl a.cs.toList _ Hrl.out Hun.out rfl Hin.out ?_)
 rw [← hcs2,← hW2,← Hv.out]
 have hpw2:=Hpr.out W2 HE.out
 refine hpw2.mono ?_
 rintro e w1 ⟨u1,rfl,hon1,hx1⟩
 clear hcs2 hW2
 obtain ⟨a1,c1,rfl⟩:=own_shape hon1
 have Hon1:=Lib.hid hon1
 have Hsl1:=Lib.hid (sl_own hon1)
 have Hx1:=Lib.hid hx1
 have q1:w1.cell? ⟨w.heap.size,1,none⟩=some (.int .u8 a.kind):=Hcell.out w1 hx1 1
 have q2:w1.cell? ⟨w.heap.size,2,none⟩=some (.int .u8 a.num):=Hcell.out w1 hx1 2
 clear hx1 hon1 hpw2
 have HEw:=Lib.hid (HE.out.trans Hx1.out)
 have hpl:=Hpw.out
 have hpl3:0 < a.p.length∧a.p.length ≤ 3:=by rcases hpl with e | e <;> rw [e] <;> decide
 have hoc:=fun W (hx:Ext w1 W)=>octave_c (.slice a1 a.p.length c1) a.p W (He.out.ext (HEw.out.trans hx)) (hx.sl Hsl1.out) hpl3.1 (by omega)
 have hco:=fun W vb vl (rs:List Qw) (hx:Ext w1 W) (hb:Rd W vb (ov (a.p.length - 1))) (hl:RdM W vl rs) (hz:rs.map Qw.x=a.sizes)=>lCollect_c (.slice a1 a.p.length c1) vb vl a.p 400 rs W (He.out.ext (HEw.out.trans hx)) (hx.sl Hsl1.out) hb hl (by rw [hz];exact a.lw) (by omega) (by have:=a.few;rw [← hz,List.length_map] at this;exact this)
 have hnn:(1:Int) + (a.num:Int) % 9=((a.n:Nat):Int):=by unfold Wl.n;omega
 have hof:=fun W (hx:Ext w1 W)=>of_c 1 a.n W (He.out.ext (HEw.out.trans hx)) (by decide) hn9.1 (by omega)
 have hti:=fun W va (hx:Ext w1 W) (hr:Rd W va (ov (a.p.length - 1)))=>lTimes_c va (ov (a.p.length - 1)) (mkRat 1 a.n) W (He.out.ext (HEw.out.trans hx)) hr (by rw [ov_len];omega) (sn_ov _) (sn_part hn9.1 hn9.2)
 have hm0:=fun W vg (hx:Ext w1 W) (hr:Rd W vg (mulZ (ov (a.p.length - 1)) (mkRat 1 a.n)))=>lMult_c vg _ 1 a.n W (He.out.ext (HEw.out.trans hx)) hr (by unfold mulZ;rw [List.length_map,ov_len];omega) (sn_oc _ _ hn9.1 hn9.2) (by omega) (by omega)
 rw [show (1:Int) + ((a.n:Nat):Int) - 1=((a.n:Nat):Int) by omega] at hm0
 have hm1:=fun W vg (hx:Ext w1 W) (hr:Rd W vg (szW a.p.length (a.xs 0)))=>lMult_c vg _ 0 a.n W (He.out.ext (HEw.out.trans hx)) hr (by rw [szW_len];omega) (sn_szW _ _) (by omega) (by omega)
 rw [show (0:Int) + ((a.n:Nat):Int) - 1=((a.n:Nat):Int) - 1 by omega] at hm1
 have hsz:=fun (i:Nat) W (hx:Ext w1 W)=>lSize_c (.slice a1 a.p.length c1) a.p (a.xs i) W (He.out.ext (HEw.out.trans hx)) (hx.sl Hsl1.out) (by omega) (Ha.out.xs i)
 unfold Rv at hof hti
 have Hoc:=Lib.hid hoc;have Hco:=Lib.hid hco;have Hof:=Lib.hid hof;have Hti:=Lib.hid hti;have Hm0:=Lib.hid hm0;have Hm1:=Lib.hid hm1;have Hsz:=Lib.hid hsz
 clear hoc hco hof hti hm0 hm1 hsz hpl
 by_cases k0:a.kind % 3=0
 ·have t0:((a.kind:Int) % 3 == 0)=true:=by rw [beq_iff_eq];omega
  have hszs:a.sizes=mulsZ (mulZ (ov (a.p.length - 1)) (mkRat 1 a.n)) 1 a.n:=by unfold Wl.sizes;rw [if_pos k0]
  have Hszs:=Lib.hid hszs
  clear hszs k0
  go_wp2_with fail
  refine (Hoc.out w1 (Ext.refl _)).mono ?_
  rintro e wa ⟨ua,rfl,hoa,hxa⟩
  have Hoa:=Lib.hid hoa;have Hxa:=Lib.hid hxa
  clear hoa hxa
  go_wp2_with fail
  refine (Hoc.out wa Hxa.out).mono ?_
  rintro e wb ⟨ub,rfl,hob,hxb⟩
  have Hob:=Lib.hid hob;have Hxb:=Lib.hid (Hxa.out.trans hxb);have Hxab:=Lib.hid hxb
  clear hob hxb
  go_wp2_with fail
  refine (Hof.out wb Hxb.out).mono ?_
  rintro e wc ⟨rfl,hxc⟩
  have Hxc:=Lib.hid (Hxb.out.trans hxc);have Hobc:=Lib.hid (hxc.ownQ Hob.out);have Hxac:=Lib.hid (Hxab.out.trans hxc)
  clear hxc
  go_wp2_with fail
  refine (Hti.out wc ub Hxc.out Hobc.out.rd).mono ?_
  rintro e wd ⟨ud,rfl,hod,hxd⟩
  have Hod:=Lib.hid hod;have Hxd:=Lib.hid (Hxc.out.trans hxd);have Hxad:=Lib.hid (Hxac.out.trans hxd)
  clear hod hxd
  go_wp2_with fail
  refine (Hm0.out wd ud Hxd.out Hod.out.rd).mono ?_
  rintro e wm ⟨um,rm,rfl,hom,hmm,hxm⟩
  have Hom:=Lib.hid hom;have Hxm:=Lib.hid (Hxd.out.trans hxm);have Hxam:=Lib.hid (Hxad.out.trans hxm);have Hmm:=Lib.hid (hmm.trans Hszs.out.symm)
  clear hom hxm hmm
  go_wp2_with fail
  refine (Hco.out wm ua um rm Hxm.out (Hxam.out.ownQ Hoa.out).rd Hom.out.rd Hmm.out).mono ?_
  rintro e wC ⟨vn,out5,rfl,hn5,hr5,hcl5,hx5⟩
  obtain ⟨avn,cvn,rfl⟩:=own_shape hn5
  have hxC:=Hxm.out.trans hx5
  have hbm:w.heap.size ≤ wm.heap.size:=(HEw.out.trans Hxm.out).size
  have hb5:=B0.out.ext (Hx1.out.trans hxC)
  have r0:=hb5.c0;have r1:=hb5.c1;have z0:=hb5.fz 0;have z1:=hb5.fz 1
  have hK:K0 32 w wC (w.heap.size + 1):=⟨HEw.out.trans hxC,_,_,hb5⟩
  have hfin:=hK.fin (by omega) (.slice a1 a.p.length c1) (.slice avn out5.length cvn)
  have hsv:=scv_set (B:=w.heap.size) (x:=.slice a1 a.p.length c1) (y:=.slice avn out5.length cvn) hb5 (own_mono (hxC.own Hon1.out) HE.out.size) (own_mono hn5 hbm) fun r hr=>by
   rcases hr5 r hr with ⟨e1,e2⟩ | e
   ·rw [e1,e2];exact OwnQ.mono ((hx5.ownQ (Hxam.out.ownQ Hoa.out))) HEw.out.size
   ·exact e.mono hbm
  have hcl5':Coll a.p a.sizes (out5.map Qw.x):=by rw [← Hmm.out];exact hcl5
  have Hfin:=Lib.hid hfin;have Hsv:=Lib.hid hsv;have Hcl5:=Lib.hid hcl5'
  clear hfin hsv hcl5 hcl5' hK hb5 hxC hn5 hr5 hx5 hbm
  go_wp2_with fail
  obtain ⟨hb6,hx6⟩:=Hfin.out
  have hd0:=hb6.c0
  have hd1:=hb6.c1
  exact bodyPost_ret (v:=.agg #[.slice a1 a.p.length c1,.slice avn out5.length cvn]) (by simp [results,Tryz.results19,go_sem,hd0,hd1]) rfl ⟨_,out5,rfl,Hsv.out,Hcl5.out,hx6⟩
 ·have t0:((a.kind:Int) % 3 == 0)=false:=by rw [beq_eq_false_iff_ne];omega
  by_cases k1:a.kind % 3=1
  ·have t1:((a.kind:Int) % 3 == 1)=true:=by rw [beq_iff_eq];omega
   have hszs:a.sizes=mulsZ (szW a.p.length (a.xs 0)) 0 a.n:=by unfold Wl.sizes;rw [if_neg k0,if_pos k1]
   have Hszs:=Lib.hid hszs
   have hsz0:=fun W (hx:Ext w1 W)=>Hsz.out 0 W hx
   unfold I3.v at hsz0
   have Hsz0:=Lib.hid hsz0
   have hwr:IntKind.i64.wrap (((a.n:Nat):Int) - 1)=((a.n:Nat):Int) - 1:=wrap_small (by omega) (by omega)
   have hm1:=Hm1.out
   rw [← hwr] at hm1
   have Hm1:=Lib.hid hm1
   clear hszs k0 k1 hsz0 hm1 hwr
   have q3:w1.cell? ⟨w.heap.size,3,none⟩=some (.int .i8 (a.xs 0).a):=Hcell.out w1 Hx1.out 3
   have q4:w1.cell? ⟨w.heap.size,4,none⟩=some (.int .i8 (a.xs 0).b):=Hcell.out w1 Hx1.out 4
   have q5:w1.cell? ⟨w.heap.size,5,none⟩=some (.int .i8 (a.xs 0).c):=Hcell.out w1 Hx1.out 5
   go_wp2_with fail
   have q3:=((Ext.refl w1).drew).cell q3
   have q4:=((Ext.refl w1).drew).cell q4
   have q5:=((Ext.refl w1).drew).cell q5
   have HX:=Lib.hid (Ext.refl w1).drew
   go_region_law (first
    | (go_simp;go_at_call 47;refine (Hoc.out _ HX.out).mono ?_;rintro e V ⟨ua,rfl,ho,hx⟩;(try (have HO:=Lib.hid (hx.ownQ HO.out)));(try (have HS:=Lib.hid (hx.ownQ HS.out)));(try (have HM:=Lib.hid (hx.qwM HM.out)));have q3:=hx.cell q3;have q4:=hx.cell q4;have q5:=hx.cell q5;have HX:=Lib.hid (HX.out.trans hx);have HO:=Lib.hid (OwnQ.mono ho HEw.out.size);clear ho hx)
    | (go_simp;go_at_call 51;refine (Hsz0.out _ HX.out).mono ?_;rintro e V ⟨us,rfl,ho,hx⟩;(try (have HO:=Lib.hid (hx.ownQ HO.out)));(try (have HS:=Lib.hid (hx.ownQ HS.out)));(try (have HM:=Lib.hid (hx.qwM HM.out)));have q3:=hx.cell q3;have q4:=hx.cell q4;have q5:=hx.cell q5;have HX:=Lib.hid (HX.out.trans hx);have HS:=Lib.hid ho;clear ho hx)
    | (go_simp;go_at_call 48;refine (Hm1.out _ _ HX.out HS.out.rd).mono ?_;rintro e V ⟨um,rm,rfl,ho,hmm,hx⟩;(try (have HO:=Lib.hid (hx.ownQ HO.out)));(try (have HS:=Lib.hid (hx.ownQ HS.out)));(try (have HM:=Lib.hid (hx.qwM HM.out)));have q3:=hx.cell q3;have q4:=hx.cell q4;have q5:=hx.cell q5;have HX:=Lib.hid (HX.out.trans hx);have HM:=Lib.hid ho;have Hmm:=Lib.hid (hmm.trans Hszs.out.symm);clear ho hx hmm)
    | (go_simp;go_at_call 46;refine (Hco.out _ _ _ rm HX.out HO.out.rd HM.out.rd Hmm.out).mono ?_;rintro e wC ⟨vn,out5,rfl,hn5,hr5,hcl5,hx5⟩;obtain ⟨avn,cvn,rfl⟩:=own_shape hn5;have hxC:=HX.out.trans hx5;have hbm:=Nat.le_trans HEw.out.size HX.out.size;have hb5:=B0.out.ext (Hx1.out.trans hxC);have r0:=hb5.c0;have r1:=hb5.c1;have z0:=hb5.fz 0;have z1:=hb5.fz 1;have hK:K0 32 w wC (w.heap.size + 1):=⟨HEw.out.trans hxC,_,_,hb5⟩;have Hfin:=Lib.hid (hK.fin (Nat.le_succ _) (.slice a1 a.p.length c1) (.slice avn out5.length cvn));have Hsv:=Lib.hid (scv_made (x:=.slice a1 a.p.length c1) (y:=.slice avn out5.length cvn) hb5 (own_mono (hxC.own Hon1.out) HE.out.size) (own_mono hn5 hbm) hbm (hx5.ownQ HO.out) hr5);have Hcl5:=Lib.hid (coll_sizes Hmm.out hcl5);clear hcl5 hK hb5 hxC hn5 hr5 hx5 hbm))
   all_goals
    go_wp2_with fail
    obtain ⟨hb6,hx6⟩:=Hfin.out
    have hd0:=hb6.c0
    have hd1:=hb6.c1
    exact bodyPost_ret (v:=.agg #[.slice a1 a.p.length c1,.slice avn out5.length cvn]) (by simp [results,Tryz.results19,go_sem,hd0,hd1]) rfl ⟨_,out5,rfl,Hsv.out,Hcl5.out,hx6⟩
  ·have t1:((a.kind:Int) % 3 == 1)=false:=by rw [beq_eq_false_iff_ne];omega
   have hszs:a.sizes=(List.range (min a.n 8)).map fun i=>szW a.p.length (a.xs i):=by unfold Wl.sizes;rw [if_neg k0,if_neg k1]
   obtain ⟨m,hm⟩:∃ m,m=min a.n 8:=⟨_,rfl⟩
   have hm8:m ≤ 8:=by omega
   rw [← hm] at hszs
   have hcx:∀ W,Ext w1 W→∀ k,k < 8→W.cell? ⟨w.heap.size,3 + k * 3,none⟩=some (.int .i8 (a.xs k).a)∧W.cell? ⟨w.heap.size,3 + k * 3 + 1,none⟩=some (.int .i8 (a.xs k).b)∧W.cell? ⟨w.heap.size,3 + k * 3 + 2,none⟩=some (.int .i8 (a.xs k).c):=fun W hx k hk=>by
    have hxx:=Hx1.out.trans hx
    obtain rfl | rfl | rfl | rfl | rfl | rfl | rfl | rfl:k=0 ∨ k=1 ∨ k=2 ∨ k=3 ∨ k=4 ∨ k=5 ∨ k=6 ∨ k=7:=by omega
    all_goals exact ⟨Hcell.out W hxx _,Hcell.out W hxx _,Hcell.out W hxx _⟩
   have hszk:=fun (k:Nat) W (hx:Ext w1 W)=>Hsz.out k W hx
   unfold I3.v at hszk
   have hmin:min ((a.n:Nat):Int) 8=(m:Int):=by omega
   obtain ⟨j0,hj,hy0,hy1,hy2⟩:=info_parts info_size
   have Hszs:=Lib.hid hszs;have Hcx:=Lib.hid hcx;have Hszk:=Lib.hid hszk;have Hm:=Lib.hid hm
   clear hszs k0 k1 hszk hcx hm
   go_wp2_with fail
   go_loopw [5,6,46] (fun v5 v6 v46 wr=>∃ k:Nat,v46=.int .i64 k∧k ≤ m∧QsR w1 ((List.range k).map fun i=>szW a.p.length (a.xs i)) v5 wr) (fun _ _ v46 _=>m - (intOf v46).toNat)
   case atStart=>exact ⟨0,rfl,Nat.zero_le _,[],QwM.nil _ _ _,rfl,Ext.refl _⟩
   case round =>
    obtain ⟨k,rfl,hk,⟨out,hq,hmq,hE⟩⟩:=hrel
    have hol:out.length=k:=by
     have:=congrArg List.length hmq
     rwa [List.length_map,List.length_map,List.length_range] at this
    obtain ⟨a6,c6,rfl⟩:=own_shape hq.1
    by_cases hkm:k < m
    ·obtain ⟨q0,q1,q2⟩:=Hcx.out wr hE k (by omega)
     have hso:=Hszk.out k wr hE
     have hstep:((List.range (k + 1)).map fun i=>szW a.p.length (a.xs i))=((List.range k).map fun i=>szW a.p.length (a.xs i)) ++ [szW a.p.length (a.xs k)]:=by rw [List.range_succ,List.map_append];rfl
     have hwl:=szW_len a.p.length (a.xs k)
     have hqo:=hq.1
     rw [hol] at hqo ⊢
     have hk0:(0:Int) ≤ (k:Int):=by omega
     have hk1:(k:Int) < (m:Int):=by omega
     have hk8:(k:Int) < 8:=by omega
     have hm3:k + 1 ≤ maxLen:=by unfold maxLen;omega
     have hm4:(k + 1) * 24 ≤ 140737488355328:=by omega
     have Hso:=Lib.hid hso;have Hstep:=Lib.hid hstep;have Hwl:=Lib.hid hwl;have Hqo:=Lib.hid hqo;have Hq:=Lib.hid hq;have Hmq:=Lib.hid hmq;have HEr:=Lib.hid hE;have Hol:=Lib.hid hol
     clear hso hstep hwl hqo hq hmq hE hol
     go_wp2_with fail
     refine Hso.out.mono ?_
     rintro e VA ⟨uA,rfl,hoA,hxA⟩
     have hoA':=hoA
     unfold OwnQ at hoA'
     obtain ⟨au,cu,rfl⟩:=own_shape hoA'
     have hE3:=HEr.out.trans hxA
     have Ho2:=Lib.hid (hoA.mono HEr.out.size)
     have Hq3:=Lib.hid (hxA.qwM Hq.out)
     have hqo:=hxA.own Hqo.out
     have hbase:=hE3.size
     have HE3:=Lib.hid hE3
     generalize (szW a.p.length (a.xs k)).length=ml at *
     clear hoA hoA' hxA hE3 q0 q1 q2
     go_wp2_with (at_builtin;refine wpList_append_own _ rfl _ _ 30 rfl w1.heap.size 37 j0 (.slice none 0 0) 1 24 Tryz.underlying30 hj hy0 hy1 hy2 rfl (by decide) _ _ _ rfl (hqo.alloc _) ⟨VA.heap.size,0,none⟩ 1 1 [.slice au ml cu] rfl rfl (cell_one_new _ _ _) (by simp [Value.oneCell']) hm3 hm4 (by rw [World.size_alloc];omega) ?_;intro v7 V7 hown7 hgrow7 _)
     go_roundw
     case rel=>exact ⟨k + 1,by go_num,by omega,by rw [Hstep.out];exact QsR.more HE3.out Hq3.out Hmq.out Ho2.out (by rw [Hol.out];exact hown7) (by rw [Hol.out];exact hgrow7)⟩
     case measure=>simp [intOf];omega
    ·obtain rfl:k=m:=by omega
     have Hmm:=Lib.hid (hmq.trans Hszs.out.symm);have Hq:=Lib.hid hq;have HEr:=Lib.hid hE
     have hoc:=Hoc.out wr hE
     have Hocr:=Lib.hid hoc
     clear hq hmq hE hol hoc
     go_wp2_with fail
     refine Hocr.out.mono ?_
     rintro e wm ⟨ua,rfl,hoa,hxa⟩
     have Hoa:=Lib.hid (hoa.mono (Nat.le_trans HEw.out.size HEr.out.size));have Hxm:=Lib.hid (HEr.out.trans hxa);have Hom:=Lib.hid (hxa.qwM Hq.out)
     clear hoa hxa
     go_wp2_with fail
     refine (Hco.out wm ua _ out Hxm.out Hoa.out.rd Hom.out.rd Hmm.out).mono ?_
     rintro e wC ⟨vn,out5,rfl,hn5,hr5,hcl5,hx5⟩
     obtain ⟨avn,cvn,rfl⟩:=own_shape hn5
     have hxC:=Hxm.out.trans hx5
     have hbm:=Nat.le_trans HEw.out.size Hxm.out.size
     have hb5:=B0.out.ext (Hx1.out.trans hxC)
     have r0:=hb5.c0;have r1:=hb5.c1;have z0:=hb5.fz 0;have z1:=hb5.fz 1
     have hK:K0 32 w wC (w.heap.size + 1):=⟨HEw.out.trans hxC,_,_,hb5⟩
     have Hfin:=Lib.hid (hK.fin (Nat.le_succ _) (.slice a1 a.p.length c1) (.slice avn out5.length cvn))
     have Hsv:=Lib.hid (scv_made (x:=.slice a1 a.p.length c1) (y:=.slice avn out5.length cvn) hb5 (own_mono (hxC.own Hon1.out) HE.out.size) (own_mono hn5 hbm) hbm (hx5.ownQ Hoa.out) hr5)
     have Hcl5:=Lib.hid (coll_sizes Hmm.out hcl5)
     clear hcl5 hK hb5 hxC hn5 hr5 hx5 hbm
     go_wp2_with fail
     obtain ⟨hb6,hx6⟩:=Hfin.out
     have hd0:=hb6.c0
     have hd1:=hb6.c1
     exact bodyPost_ret (v:=.agg #[.slice a1 a.p.length c1,.slice avn out5.length cvn]) (by simp [results,Tryz.results19,go_sem,hd0,hd1]) rfl ⟨_,out5,rfl,Hsv.out,Hcl5.out,hx6⟩
end Go.Proofs.YtipjmpdndokdlaaGreatDoor

namespace Go.Proofs.YtipjmpdndokdlaaGreatDoor
open Go.RowKit Go.Lib Go.Shelf
theorem wl_box (a : Wl) (w W : World) (h : Ext (w.alloc (.cells a.cs 47)) W) : W.rangeAt w.heap.size 0 a.cs.toList:=fun j v hj => by
 unfold World.cell?
 dsimp only
 rw [h.heap (World.alloc_heap_new w _),Nat.zero_add]
 show a.cs[j]?=some v
 rw [← Array.getElem?_toList]
 exact hj
theorem wl_info (a : Wl) : (Tryz.prog.info? 47).map (·.size)=some a.cs.toList.length:=by
 rw [Array.length_toList]
 kernel_rfl
theorem wl_cs (a : Wl) : Wl.cs a=#[.bool a.three,.int .u8 a.kind,.int .u8 a.num,.int .i8 (a.xs 0).a,.int .i8 (a.xs 0).b,.int .i8 (a.xs 0).c,.int .i8 (a.xs 1).a,.int .i8 (a.xs 1).b,.int .i8 (a.xs 1).c,.int .i8 (a.xs 2).a,.int .i8 (a.xs 2).b,.int .i8 (a.xs 2).c,.int .i8 (a.xs 3).a,.int .i8 (a.xs 3).b,.int .i8 (a.xs 3).c,.int .i8 (a.xs 4).a,.int .i8 (a.xs 4).b,.int .i8 (a.xs 4).c,.int .i8 (a.xs 5).a,.int .i8 (a.xs 5).b,.int .i8 (a.xs 5).c,.int .i8 (a.xs 6).a,.int .i8 (a.xs 6).b,.int .i8 (a.xs 6).c,.int .i8 (a.xs 7).a,.int .i8 (a.xs 7).b,.int .i8 (a.xs 7).c]:=rfl
end Go.Proofs.YtipjmpdndokdlaaGreatDoor

namespace Go.Proofs.YtipjmpdndokdlaaGreatDoor
open Go.RowKit Go.Lib
attribute [local go_sem] Oper.semAt_some
/-- The steps of a scale. -/
def stQ (n : Nat) (rs : List Qw) (k : Nat) : List Rat:=subZ (((rs[k]?).map Qw.x).getD []) (prevQ n rs k)
def stQs (n : Nat) (rs : List Qw) (k : Nat) : List (List Rat):=(List.range k).map (stQ n rs)
theorem stQs_succ (n : Nat) (rs : List Qw) (k : Nat) : stQs n rs (k + 1)=stQs n rs k ++ [stQ n rs k]:=by unfold stQs;rw [List.range_succ,List.map_append];rfl
def StepR (w : World) (n : Nat) (rs : List Qw) (k : Nat) (u : Value) (wr : World) : Prop:=∃ out : List Qw,QwM wr w.heap.size w.heap.size u out ∧ out.map Qw.x=stQs n rs k ∧ out.length=k ∧ Ext w wr
theorem StepR.more {w W V : World} {o : Obj} {n k : Nat} {rs : List Qw} {v5 v7 u : Value} {out : List Qw} (hE : Ext w W) (h : QwM W w.heap.size w.heap.size v5 out) (hm : out.map Qw.x=stQs n rs k) (hl : out.length=k) (hr : OwnQ W w.heap.size u (stQ n rs k)) 
  (hown:V.ownsRow w.heap.size 37 1 v7 (k + 1) (qwc out ++ [u])) (hgrow:(W.alloc o).grownBy V v5.ownBlock):StepR w n rs (k + 1) v7 V:=by
 subst hl
 have:=QwM.more (r:=⟨_,u,rd_one hr.rd⟩) hE h hr hown hgrow
 exact ⟨_,this.1,by rw [List.map_append,hm,stQs_succ];rfl,by rw [List.length_append];rfl,this.2⟩
end Go.Proofs.YtipjmpdndokdlaaGreatDoor

namespace Go.Proofs.YtipjmpdndokdlaaGreatDoor
open Go.RowKit Go.Lib
/-- The steps of a right scale are short. -/
theorem Wd.step_ft {p : List Int} {rs : List Qw} (h : Wd p (rs.map Qw.x)) : ∀ k,k < rs.length → ∀ q ∈ stQ p.length rs k,Ft 30 q:=by
 intro k hk
 have hl:(rs.map Qw.x).length=rs.length:=List.length_map ..
 have hf:=h.few
 have e:stQ p.length rs k=subZ (nt p (rs.map Qw.x) ((k + 1:Nat):Int)) (nt p (rs.map Qw.x) (k:Int)):=by
  rw [h.nt_low (by omega),h.nt_low (by omega)]
  unfold stQ zat prevQ
  rw [List.getElem?_cons_succ,List.getElem?_map]
  cases k with
  | zero=>rfl
  | succ j=>rw [if_neg (by omega),List.getElem?_cons_succ,List.getElem?_map,Nat.add_sub_cancel]
 rw [e]
 exact (h.nt_sub_quick _ _ (by omega) (by omega) (by omega) (by omega)).1
end Go.Proofs.YtipjmpdndokdlaaGreatDoor

namespace Go.Proofs.YtipjmpdndokdlaaGreatDoor
theorem sz_bx2 {p : List Int} (h : Pw p) {A B C : Int} (h1 : -128 ≤ B) (h2 : B ≤ 128) (h3 : -64 ≤ C) (h4 : C ≤ 64) : Bx 128 (sz3 p A B C):=by
 rcases h with rfl | rfl
 ·exact ⟨A,B,rfl,half2 B,h1,h2⟩
 ·exact ⟨A,B,C,rfl,half2 B,rfl,h1,h2,by omega,by omega⟩
theorem d2_parts {p : List Int} (hp : Pw p) {n : Nat} (hn : 0 < n) (hn9 : n ≤ 9) : Dif2 p (mulsZ (mulZ (ov (p.length - 1)) (mkRat 1 n)) 1 n):=by
 have h2:∀ x ∈ zer p.length :: mulsZ (mulZ (ov (p.length - 1)) (mkRat 1 n)) 1 n,∃ i:Int,x=oc3 p n i:=fun x hx=>by
  rcases List.mem_cons.1 hx with e | hx
  ·exact ⟨0,by rw [e,oc_zer hp n]⟩
  ·unfold mulsZ at hx
   obtain ⟨i,_,rfl⟩:=List.mem_map.1 hx
   exact ⟨1 + (i:Int),oc_mul hp n _⟩
 refine ⟨n,fun x hx y hy=>?_⟩
 obtain ⟨i,rfl⟩:=h2 x hx
 obtain ⟨j,rfl⟩:=h2 y hy
 rw [oc3_sub hp]
 exact .inr ⟨hn,by omega,oc_oc hp hn _⟩
theorem d2_mults {p : List Int} (hp : Pw p) (x : I3) {n : Nat} (hn9 : n ≤ 9) : Dif2 p (mulsZ (szW p.length x) 0 n):=by
 obtain ⟨A,B,C,hA,hB,hC,e⟩:=szW_eq hp x
 have h2:∀ y ∈ zer p.length :: mulsZ (szW p.length x) 0 n,∃ k:Int,0 ≤ k∧k ≤ 8∧y=sz3 p (A * k) (B * k) (C * k):=fun y hy=>by
  rcases List.mem_cons.1 hy with e | hy
  ·exact ⟨0,by omega,by omega,by rw [e,sz_zer hp,Int.mul_zero,Int.mul_zero,Int.mul_zero]⟩
  ·unfold mulsZ at hy
   obtain ⟨i,hi,rfl⟩:=List.mem_map.1 hy
   rw [List.mem_range] at hi
   exact ⟨0 + (i:Int),by omega,by omega,by rw [e];exact sz_mul hp ..⟩
 refine ⟨0,fun y hy z hz=>.inl ⟨rfl,?_⟩⟩
 obtain ⟨k,k0,k1,rfl⟩:=h2 y hy
 obtain ⟨j,j0,j1,rfl⟩:=h2 z hz
 rw [sz_sub hp,← Int.mul_sub,← Int.mul_sub,← Int.mul_sub]
 have hk:-8 ≤ k - j∧k - j ≤ 8:=by omega
 generalize k - j=t at *
 have mb:∀ z b:Int,-b ≤ z→z ≤ b→0 ≤ b→-(b * 8) ≤ z * t∧z * t ≤ b * 8:=fun z b h1 h2 h3=>by
  have h4:z.natAbs ≤ b.natAbs:=by omega
  have h5:t.natAbs ≤ 8:=by omega
  have h6:=Nat.mul_le_mul h4 h5
  rw [← Int.natAbs_mul] at h6
  omega
 have m2:=mb B 16 hB.1 hB.2 (by omega)
 have m3:=mb C 8 hC.1 hC.2 (by omega)
 exact sz_bx2 hp (by omega) (by omega) (by omega) (by omega)
theorem d2_any {p : List Int} (hp : Pw p) (xs : Nat → I3) (n : Nat) : Dif2 p ((List.range n).map fun i => szW p.length (xs i)):=by
 have h2:∀ y ∈ zer p.length :: ((List.range n).map fun i=>szW p.length (xs i)),∃ A B C:Int,(-16 ≤ B∧B ≤ 16)∧(-8 ≤ C∧C ≤ 8)∧y=sz3 p A B C:=fun y hy=>by
  rcases List.mem_cons.1 hy with e | hy
  ·exact ⟨0,0,0,by omega,by omega,by rw [e,sz_zer hp]⟩
  ·obtain ⟨i,_,rfl⟩:=List.mem_map.1 hy
   obtain ⟨A,B,C,hA,hB,hC,e⟩:=szW_eq hp (xs i)
   exact ⟨A,B,C,hB,hC,e⟩
 refine ⟨0,fun y hy z hz=>.inl ⟨rfl,?_⟩⟩
 obtain ⟨A,B,C,hB,hC,rfl⟩:=h2 y hy
 obtain ⟨A',B',C',hB',hC',rfl⟩:=h2 z hz
 rw [sz_sub hp]
 exact sz_bx2 hp (by omega) (by omega) (by omega) (by omega)
theorem wl_d2 (a : Wl) : Dif2 a.p a.sizes:=by
 unfold Wl.sizes
 split
 ·exact d2_parts a.pw a.n9.1 a.n9.2
 ·split
  ·exact d2_mults a.pw _ a.n9.2
  ·exact d2_any a.pw _ _
theorem wl_wc (a : Wl) {N : List (List Rat)} (h : Coll a.p a.sizes N) : Wc a.p N:=coll_wc a.lw (wl_d2 a) h a.few
end Go.Proofs.YtipjmpdndokdlaaGreatDoor

namespace Go.Proofs.YtipjmpdndokdlaaGreatDoor
open Go.RowKit Go.Lib Go.Shelf
attribute [local go_sem] Oper.semAt_some
theorem holdsL_c (a : Wl) (P : Int) (w : World) (he : Env w) (ha : a.Ok) :
  Calls Tryz.prog 7 #[a.v,.int .i64 P] w fun e w'=>e=.returned (.bool true)∧Ext w w':=by
 have hkn:=fun W (hE:Ext w W)=>known38_c W (he.ext hE)
 have hmk:=fun W (hE:Ext w W)=>lMake_c a W (he.ext hE) ha
 have hrl:=wl_box a w
 have hun:=Tryz.underlying47
 have hin:=wl_info a
 have hE0:Ext w (w.alloc (.cells a.cs 47)):=(Ext.refl w).alloc _
 have Hkn:=Lib.hid hkn;have Hmk:=Lib.hid hmk;have Hrl:=Lib.hid hrl;have Hun:=Lib.hid hun;have Hin:=Lib.hid hin;have HE0:=Lib.hid hE0;clear hkn hmk hrl hun hin hE0
 have He:=Lib.hid he;clear he ha
 have hv:a.v=.agg a.cs:=rfl
 have Hv:=Lib.hid hv
 rw [hv]
 clear hv
 rw [wl_cs]
 go_enter Tryz.func7,Tryz.ntmps7
 rw [← wl_cs]
 go_wp2_with fail
 refine (Hkn.out _ HE0.out).mono ?_
 rintro e w1 ⟨rfl,hx1⟩
 have hrl1:=Hrl.out w1 hx1
 have Hx1:=Lib.hid (HE0.out.trans hx1);have Hrl1:=Lib.hid hrl1
 clear hx1 hrl1
 have Hmk1:=Lib.hid (Hmk.out w1 Hx1.out)
 go_wp2_with (refine wpList_load_mid rfl 47 (.tmp 2) rfl w.heap.size 0 rfl a.cs.toList _ Hrl1.out Hun.out rfl Hin.out ?_)
 rw [← Hv.out]
 refine Hmk1.out.mono ?_
 rintro e w2 ⟨v2,rs,rfl,hs2,hc2,hx2⟩
 have hw2:=wl_wc a hc2
 obtain ⟨a2,c2,b2,d2,rfl,hs2⟩:=scv_let hs2
 have hb2:=BoxT.new 32 w2 (.slice a2 a.p.length c2) (.slice b2 rs.length d2)
 have hE2:=(Ext.refl w2).alloc (.cells #[.slice a2 a.p.length c2,.slice b2 rs.length d2] 32)
 have Hx2:=Lib.hid ((Hx1.out.trans hx2).trans hE2);have Hs2:=Lib.hid (hs2.ext hE2);have Hw2:=Lib.hid hw2;have Hb2:=Lib.hid hb2
 have q0:=hb2.c0
 have q1:=hb2.c1
 clear hx2 hs2 hw2 hb2 hE2 hc2
 have hho:=holds38_c _ a.p rs P _ (He.out.ext Hx2.out) Hs2.out Hw2.out.wd (fun _ _=>Hw2.out)
 have hck:=fun W (hE:Ext (w2.alloc (.cells #[.slice a2 a.p.length c2,.slice b2 rs.length d2] 32)) W)=>scCheck_c _ a.p rs W (He.out.ext (Hx2.out.trans hE)) (Hs2.out.ext hE) Hw2.out.wd.right
 have hlh:=fun W (hE:Ext (w2.alloc (.cells #[.slice a2 a.p.length c2,.slice b2 rs.length d2] 32)) W)=>lholds_c _ a.p rs P W (He.out.ext (Hx2.out.trans hE)) (Hs2.out.ext hE) (fun _ _=>Hw2.out)
 generalize tst P a.p (rs.map Qw.x)=T at *
 have Hho:=Lib.hid hho;have Hck:=Lib.hid hck;have Hlh:=Lib.hid hlh;clear hho hck hlh
 clear Hmk1 Hkn Hmk Hrl Hrl1 Hun Hin
 go_wp2_with fail
 generalize w2.alloc (.cells #[.slice a2 a.p.length c2,.slice b2 rs.length d2] 32)=W2 at *
 by_cases hP:P < 1 ∨ 6 < P
 ·have hh:=Hho.out
  rw [hldV_no hP] at hh
  have Hh:=Lib.hid hh
  clear hh
  refine Hh.out.mono ?_
  rintro e w3 ⟨rfl,hx3⟩
  have q0:=(Hb2.out.ext hx3).c0
  have q1:=(Hb2.out.ext hx3).c1
  have Hx3:=Lib.hid hx3
  clear hx3
  go_wp2_with fail
  refine (Hck.out _ Hx3.out).mono ?_
  rintro e w4 ⟨rfl,hx4⟩
  have Hx4:=Lib.hid (Hx2.out.trans (Hx3.out.trans hx4))
  clear hx4
  by_cases h1:P < 1
  ·clear hP
   go_wp2_with fail
   go_ret
   exact ⟨rfl,Hx4.out⟩
  ·have h6:6 < P:=by omega
   clear hP
   go_wp2_with fail
   go_ret
   exact ⟨rfl,Hx4.out⟩
 ·have hh:=Hho.out
  rw [hldV_yes hP] at hh
  have Hh:=Lib.hid hh
  have h1:¬ P < 1:=by omega
  have h6:¬ 6 < P:=by omega
  clear hh hP
  refine Hh.out.mono ?_
  rintro e w3 ⟨rfl,hx3⟩
  have q0:=(Hb2.out.ext hx3).c0
  have q1:=(Hb2.out.ext hx3).c1
  have Hx3:=Lib.hid hx3
  clear hx3
  go_wp2_with fail
  refine (Hck.out _ Hx3.out).mono ?_
  rintro e w4 ⟨rfl,hx4⟩
  have q0:=(Hb2.out.ext (Hx3.out.trans hx4)).c0
  have q1:=(Hb2.out.ext (Hx3.out.trans hx4)).c1
  have Hx4:=Lib.hid (Hx3.out.trans hx4)
  clear hx4
  go_wp2_with fail
  refine (Hlh.out _ Hx4.out).mono ?_
  rintro e w5 ⟨rfl,hx5⟩
  have Hx5:=Lib.hid (Hx2.out.trans (Hx4.out.trans hx5))
  clear hx5 q0 q1
  cases T with
  | true =>
   go_wp2_with fail
   go_ret
   exact ⟨rfl,Hx5.out⟩
  | false =>
   go_wp2_with fail
   go_ret
   exact ⟨rfl,Hx5.out⟩
end Go.Proofs.YtipjmpdndokdlaaGreatDoor

namespace Go.Proofs.YtipjmpdndokdlaaGreatDoor
open Go.ChangeShapes Go.WideShapes Go.ChangeAt Go.WideMaps Go.WideElems Go.RowKit
theorem bounds_u8 {n : Int} (h : (Lit.int .u8 n).wf=true) : 0 ≤ n ∧ n ≤ 255:=by
 simp [Lit.wf,IntKind.min,IntKind.max,IntKind.signed,IntKind.bits] at h
 omega
section
variable {H : Type} {enc : TypeId × Value → H} {P : Program}
theorem post_of_below {f : Func} {s : ChangeSpec} {apart fresh handsOn again : Bool} {W W' : World} {args : Array Value} {v : Value} {ds gs : List (DataW H)} {before pa pv : List MemPlace}
  (hW:DataW.Whole enc P f.params.toList s.vars apart W args.toList ds gs before)
  (hres:∀ (b:Nat) (sp:Nat→Bool) (hd:Bool),DataW.TrodAll enc P W' b sp hd f.resultTypes.toList (v.resultList f.resultTypes.size) (s.fn H (ds ++ gs)).results [])
  (hargs:∀ sp:Nat→Bool,(∀ p ∈ before,sp p.block=true)→DataW.TrodAll enc P W' 0 sp true f.params.toList args.toList (s.fn H (ds ++ gs)).args pa)
  (hvars:∀ sp:Nat→Bool,(∀ p ∈ before,sp p.block=true)→DataW.TrodVars enc P W' sp s.vars (s.fn H (ds ++ gs)).vars pv)
  (hps:before=pa ++ pv) (hb:Below W.heap.size W W')
  (hok:∀ (j:Nat) (t:TypeId) (r:Value),f.resultTypes[j]?=some t→(v.resultList f.resultTypes.size)[j]?=some r→Value.okWide P W' .any 0 t r) :
  s.post enc P f apart fresh handsOn again W args v W':=by
 have hlt:∀ p ∈ before,p.block < W.heap.size:=fun p hp=>hW.lt p hp
 have hold:∀ p ∈ before,(fun b=>decide (b < W.heap.size)) p.block=true:=fun p hp=>by simpa using hlt p hp
 refine ⟨ds,gs,before,[],pa,pv,hW,hres _ _ _,hargs _ hold,hvars _ hold,World.keptBut_mono (fun p hp=>⟨hp,?_⟩) (hb.frame (· ∈ before)),fun _=>?_⟩
 ·rw [hps,List.mem_append] at hp
  exact Or.inr hp
 ·obtain ⟨_,_,_,_,_,hz,hn⟩:=hW
  refine ⟨hok,_,_,([] ++ pa) ++ pv,⟨[] ++ pa,pv,trodAll_append (hargs _ (fun _ _=>rfl)) (hres _ _ _),hvars _ (fun _ _=>rfl),rfl,?_,?_⟩,?_⟩
  ·intro b off hp
   have hin:MemPlace.cell b off ∈ before:=by rw [hps];simpa using hp
   rw [hb.frozen (hlt _ hin)]
   exact hz b off hin
  ·intro ha
   have:=hn ha
   rw [hps] at this
   simpa using this
  ·intro p hp _
   rw [hps]
   simpa using hp
end
theorem ownKnob_none : ownKnob Tryz.prog.godebug=none:=by kernel_rfl
theorem pow10_type : (Tryz.prog.globals[0]?).map (·.type)=some 310:=by kernel_rfl
theorem cells_u64 : Tryz.prog.cellsOf 211=1:=by kernel_rfl
theorem cells_pow10 : Tryz.prog.cellsOf 310=20:=by kernel_rfl
theorem env_of_laid {W : World} (h : laidMetH Tryz.prog [("math/bits.deBruijn32tab", Rows.laid_math_bits_deBruijn32tab), ("math/bits.deBruijn64tab", Rows.laid_math_bits_deBruijn64tab), ("internal/strconv.uint64pow10", Rows.laid_internal_strconv_uint64pow10), ("strconv.ErrRange", Rows.laid_strconv_ErrRange), ("strconv.ErrSyntax", Rows.laid_strconv_ErrSyntax)] W) : Env W := by
 rw [MakeChecks.laidMetH_plain _ _ _ (by kernel_rfl)] at h
 exact Lib.tabIs_of_head (k:=.u64) (zs:=Lib.pow10Tab) globalAt pow10_type Tryz.underlying310 Tryz.underlying211 cells_u64 cells_pow10 h.tail.tail
/-- The cells that the rows list. -/
def rowLaid : List (String × DataW Unit) := [("math/bits.deBruijn32tab", Rows.laid_math_bits_deBruijn32tab), ("math/bits.deBruijn64tab", Rows.laid_math_bits_deBruijn64tab), ("internal/strconv.uint64pow10", Rows.laid_internal_strconv_uint64pow10), ("strconv.ErrRange", Rows.laid_strconv_ErrRange), ("strconv.ErrSyntax", Rows.laid_strconv_ErrSyntax)]
theorem rows_shaped (os : Os) (args : Array Value) : ((World.laidAll Tryz.prog os rowLaid).forCall (fun _ _ => 0) ⟨#[],args,[]⟩).Shaped Tryz.prog:=World.shaped_of_ZipB (by kernel_rfl) (by kernel_rfl)
theorem rows_met (os : Os) (args : Array Value) : laidMetH Tryz.prog rowLaid ((World.laidAll Tryz.prog os rowLaid).forCall (fun _ _ => 0) ⟨#[],args,[]⟩).memory:=by
 rw [MakeChecks.laidMetH_plain _ _ _ (by kernel_rfl)];exact laidMet_laidAll _ (by kernel_rfl) (by kernel_rfl)
theorem laidOut_yes : laidOutB Tryz.prog=true:=by kernel_rfl
section
variable {H : Type} {enc : TypeId × Value → H} {W W' : World} {sp : Nat → Bool}
theorem trodAll_stays : ∀ {ts : List TypeId} {vs : List Value} {ds : List (DataW H)} {ps : List MemPlace},(∀ t ∈ ts,Tryz.prog.readableRec t=true ∧ t < Tryz.prog.types.size) →
  DataW.TrodAll enc Tryz.prog W 0 (fun _=>true) true ts vs ds ps→(∀ x ∈ ps,W.sameAt W' x)→(∀ x ∈ ps,sp x.block=true)→DataW.TrodAll enc Tryz.prog W' 0 sp true ts vs ds ps
 | [],_,_,_,_,h,_,_=>by
  obtain ⟨rfl,rfl,rfl⟩:=trodAll_nil h
  exact trodAll_mk0
 | t :: ts,vs,ds,ps,hts,h,hs,hp=>by
  obtain ⟨v,vs',d,ds',p,p',rfl,rfl,rfl,h1,h2⟩:=trodAll_cons h
  obtain ⟨hr,hw⟩:=hts t (List.mem_cons_self ..)
  exact trodAll_cons_mk (WideElems.Trod_stays laidOut_yes hr hw h1 (fun x hx=>hs x (List.mem_append_left _ hx)) (fun x hx=>hp x (List.mem_append_left _ hx)))
   (trodAll_stays (fun t ht=>hts t (List.mem_cons_of_mem _ ht)) h2 (fun x hx=>hs x (List.mem_append_right _ hx)) (fun x hx=>hp x (List.mem_append_right _ hx)))
end
/-- A law that returned true, and laid new blocks alone. -/
theorem law_post {H : Type} {enc : TypeId × Value → H} {f : Func} {s : ChangeSpec} {W W' : World} {args : Array Value} {ds : List (DataW H)} {before : List MemPlace} (hv : s.vars=[]) (hts : ∀ t ∈ f.params.toList,Tryz.prog.readableRec t=true ∧ t < Tryz.prog.types.size)
  (hres:f.resultTypes=#[4]) (hfn:s.fn H ds={ results:=[.lit (.bool true)],args:=ds })
  (hW:DataW.Whole enc Tryz.prog f.params.toList s.vars false W args.toList ds [] before) (hb:Below W.heap.size W W'):s.post enc Tryz.prog f false true false false W args (.bool true) W':=by
 have hW':=hW
 obtain ⟨p,q,hA0,hV,rfl,_,_⟩:=hW
 rw [hv] at hV
 obtain ⟨_,rfl⟩:=trodVars_none hV
 have hlt:∀ x ∈ p ++ [],x.block < W.heap.size:=fun x hx=>hW'.lt x hx
 refine post_of_below (pa:=p) (pv:=[]) hW' (fun _ _ _=>?_) (fun sp hsp=>?_) (fun _ _=>?_) rfl hb ?_
 ·rw [List.append_nil,hfn,hres]
  exact trodAll_mk1 (shut_bool Tryz.underlying4 _)
 ·rw [List.append_nil,hfn]
  exact trodAll_stays hts hA0 (fun x hx=>hb.same (hlt x (List.mem_append_left _ hx))) (fun x hx=>hsp x (List.mem_append_left _ hx))
 ·rw [List.append_nil,hfn,hv];rfl
 ·exact ok_one hres rfl (okWide_bool_mk Tryz.underlying4 _)
end Go.Proofs.YtipjmpdndokdlaaGreatDoor
