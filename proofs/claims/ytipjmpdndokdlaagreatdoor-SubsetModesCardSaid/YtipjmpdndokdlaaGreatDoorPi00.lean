/- Walk: the law SubsetModes. -/
import Derived.Test.YtipjmpdndokdlaaGreatDoorPc44
import Derived.Test.YtipjmpdndokdlaaGreatDoorPc43
import Derived.Deep.RegionHeld3
set_option maxRecDepth 100000
set_option maxHeartbeats 8000000
namespace Go.Proofs.YtipjmpdndokdlaaGreatDoor
open Go.RowKit Go.Lib Go.Shelf
attribute [local go_sem] Oper.semAt_some
/-- A scale that a search has found, where it lies. -/
theorem fnd_at {W:World}{B:Nat}{p:List Int}{N:List (List Rat)}{us:Value}{g L cap:Nat}{fs:List Fw}(h:Fnd W B p N us (.slice (some ⟨g,0,none⟩) L cap) fs){k:Nat}(hk:k<fs.length) :
  ∃ (f:Fw)(a8:Option Addr)(c8:Nat)(a9:Option Addr)(n9 c9:Nat),fs[k]?=some f∧W.cell? ⟨g,k * 2,none⟩=some (.slice a8 p.length c8)∧W.cell? ⟨g,k * 2+1,none⟩=some (.slice a9 n9 c9) ∧
   ScV W (.agg #[.slice a8 p.length c8,.slice a9 n9 c9]) p f.rs∧f.rs.map Qw.x=subN p N f.l∧Wd p (subN p N f.l):=by
 obtain ⟨f,hf⟩:∃ f,fs[k]?=some f:=⟨_,List.getElem?_eq_getElem hk⟩
 obtain ⟨_,h2,h3,h4,h5⟩:=h.all f (List.mem_of_getElem? hf)
 have hcs:=World.ownsRow.cells h.vs (g:=g) rfl
 have f0:=hcs (k * 2) _ (fwS_at hf).1
 have f1:=hcs (k * 2+1) _ (fwS_at hf).2
 rw [Addr.add_lit] at f0 f1
 rw [Nat.zero_add] at f0 f1
 obtain ⟨a8,c8,e8⟩:=own_shape h2
 obtain ⟨a9,c9,e9⟩:=own_shape h3.1
 rw [e8] at f0 h2
 rw [e9] at f1 h3
 exact ⟨f,a8,c8,a9,_,c9,hf,f0,f1,⟨_,_,rfl,sl_own h2,h3.rd⟩,h4,h5⟩
theorem fnd_form {W:World}{B:Nat}{p:List Int}{N:List (List Rat)}{us vs:Value}{fs:List Fw}(h:Fnd W B p N us vs fs):(fs=[]∧vs=.slice none 0 0)∨∃ g cap,vs=.slice (some ⟨g,0,none⟩) fs.length cap:=by
 rcases h.vs.2 with ⟨e,h0⟩ | ⟨g,cap,cur,e,_⟩
 ·exact .inl ⟨List.eq_nil_of_length_eq_zero h0,e⟩
 ·exact .inr ⟨g,cap,e⟩
theorem Box6.set5 {w:World}{k:Nat}{vp vn vm:Value}{m P:Int}{b:Bool}(h:Box6 w k vp vn m P vm b)(z:Bool):Box6 (w.setCell ⟨k,5,none⟩ (.bool z)) k vp vn m P vm z:=heap_setCell_same _ _ 5 _ _ _ h
theorem modesL_c (d:Dl)(w:World)(he:Env w)(hd:d.Ok) :
  Calls Tryz.prog 6 #[d.v] w fun e w'=>e=.returned (.bool true)∧Ext w w':=by
 obtain ⟨d0,hd0⟩:∃ d0:Dl,d0={ d with modes:=false }:=⟨_,rfl⟩
 have hok0:d0.Ok:=by rw [hd0];exact ⟨hd.wl,hd.size,hd.prop,hd.must⟩
 have hmo:d0.modes=false:=by rw [hd0]
 have hkn:=fun W (hE:Ext w W)=>known38_c W (he.ext hE)
 have hmk:=fun W (hE:Ext w W)=>lmk_c d0 W (he.ext hE) hok0
 rw [hmo] at hmk
 have hb0:=World.alloc_heap_new w (.cells d.cs 49)
 have hrl:=fun W (hE:Ext (w.alloc (.cells d.cs 49)) W)=>(show (W.cell? ⟨w.heap.size,30,none⟩=some (.bool d.modes)∧W.frozen? ⟨w.heap.size,30,none⟩=false)∧(W.setCell ⟨w.heap.size,30,none⟩ (.bool false)).rangeAt w.heap.size 0 d0.cs.toList from by
  have hb:=hE.heap hb0
  refine ⟨⟨(dl_cells hb).2.2.2.2,frozen_of_row W _ 30 _ _ hb⟩,fun j v hj=>?_⟩
  have h2:=heap_setCell_same _ _ 30 _ _ (.bool false) hb
  have hc:(W.setCell ⟨w.heap.size,30,none⟩ (.bool false)).cell? ⟨w.heap.size,j,none⟩=d0.cs[j]?:=by
   rw [cell_of_row _ _ j _ _ _ h2,hd0]
   rfl
  rw [Nat.zero_add,hc,← Array.getElem?_toList]
  exact hj)
 have hun:=Tryz.underlying49
 have hin:=dl_info d0
 have hE0:Ext w (w.alloc (.cells d.cs 49)):=(Ext.refl w).alloc _
 have Hkn:=hid hkn;have Hmk:=hid hmk;have Hrl:=hid hrl;have Hun:=hid hun;have Hin:=hid hin;have HE0:=hid hE0;clear hkn hmk hrl hun hin hE0
 have He:=hid he;clear he hd hd0 hok0 hb0 hmo
 have hv:d.v=.agg d.cs:=rfl
 have hv0:d0.v=.agg d0.cs:=rfl
 have Hv0:=hid hv0
 rw [hv]
 clear hv hv0
 rw [dl_lit]
 go_enter Tryz.func6,Tryz.ntmps6
 rw [← dl_lit]
 go_wp2_with fail
 refine (Hkn.out _ HE0.out).mono ?_
 rintro e w1 ⟨rfl,hx1⟩
 obtain ⟨⟨c30,z30⟩,hrl1⟩:=Hrl.out w1 hx1
 have Hx1:=hid (show Ext w (w1.setCell ⟨w.heap.size,30,none⟩ (.bool false)) from (HE0.out.trans hx1).setCell (Nat.le_refl _) _);have Hrl1:=hid hrl1
 clear hx1 hrl1
 have Hmk1:=hid (Hmk.out _ Hx1.out)
 go_wp2_with (refine wpList_load_mid rfl 49 (.tmp 1) rfl w.heap.size 0 rfl d0.cs.toList _ Hrl1.out Hun.out rfl Hin.out ?_)
 rw [← Hv0.out]
 refine Hmk1.out.mono ?_
 generalize w1.setCell ⟨w.heap.size,30,none⟩ (.bool false)=w1' at *
 rintro e w2 ⟨v2,rs,rfl,hq2,hc2,hx2⟩
 have hw2:=wl_wc d0.wl hc2
 obtain ⟨ap,cp,an,cn,am,cm,rfl,hs2,hm2⟩:=hq2.let
 have hpos:=hw2.wd.pos
 have hfew:=hw2.few
 have hlm:(rs.map Qw.x).length=rs.length:=List.length_map ..
 rw [hlm] at hpos hfew
 obtain ⟨hqe,hm1,hmn,hP1,hP6,hM0,hML⟩:=dl_qry d0 hpos
 have hsr:SrOk d0.wl.p (rs.map Qw.x) (d0.m rs.length) d0.P (d0.M rs.length):=SrOk.of hw2 hm1 (by rw [hlm];exact hmn) hP1 hP6 (by rw [hlm];exact hM0)
 have hcl:(cho rs.length (d0.m rs.length) (d0.M rs.length) rs.length [] 0).length≤5000:=by have:=hsr.cs;rwa [hlm] at this
 have hE3:=(Ext.refl w2).alloc (.cells #[.slice ap d0.wl.p.length cp,.slice an rs.length cn,.int .i64 (d0.m rs.length:Int),.int .i64 d0.P,.slice am (d0.M rs.length).length cm,.bool false] 39)
 have hb3:=Box6.new w2 (.slice ap d0.wl.p.length cp) (.slice an rs.length cn) (d0.m rs.length:Int) d0.P (.slice am (d0.M rs.length).length cm) false
 have hq3:=hq2.ext hE3
 have hx3:=Hx1.out.trans hx2
 have hck:=lchk_c _ d0.wl.p rs _ _ _ _ _ (He.out.ext (hx3.trans hE3)) hq3 hw2.wd (by omega) hqe
 have hsc:=fun (b:Bool) W (hx:Ext w2 W)=>scales38_c (.agg #[.slice ap d0.wl.p.length cp,.slice an rs.length cn,.int .i64 (d0.m rs.length:Int),.int .i64 d0.P,.slice am (d0.M rs.length).length cm,.bool b]) d0.wl.p rs (d0.m rs.length) d0.P (d0.M rs.length) b W (He.out.ext (hx3.trans hx)) (by
  obtain ⟨vp2,vn2,ev2,hsp2,hsn2⟩:=hs2
  injection ev2 with ev2
  injection ev2 with ev2
  injection ev2 with ev21 ev22
  injection ev22 with ev22 _
  subst ev21 ev22
  exact ⟨_,_,_,rfl,hx.sl hsp2,hx.rdM hsn2,hx.sl hm2⟩) hsr
 have him:=fun W v1 v2 (r1 r2:List Qw)(hx:Ext w2 W)(k1:ScV W v1 d0.wl.p r1)(k2:ScV W v2 d0.wl.p r2)(g1:Wd d0.wl.p (r1.map Qw.x))(g2:Wd d0.wl.p (r2.map Qw.x))=>isMode_c v1 v2 d0.wl.p r1 r2 W (He.out.ext (hx3.trans hx)) k1 k2 g1 g2
 obtain ⟨q0,q1,q2,q3,q4,q5⟩:=hb3.cs
 have Hck:=hid hck;have Hb3:=hid hb3;have Hx3:=hid hx3;have Hw2:=hid hw2;have HE3:=hid hE3;have Hsc:=hid hsc;have Him:=hid him
 clear hck hb3 hx3 hw2 hE3 hsc him hsr hs2 hm2 hq2 hq3 hx2 hc2 hM0 hML hlm hqe Hmk1 Hkn Hmk Hrl Hrl1 Hun Hin hm1 hmn hP1 hP6 c30 z30
 generalize hcs:cho rs.length (d0.m rs.length) (d0.M rs.length) rs.length [] 0=cs at *
 generalize hN:rs.map Qw.x=N at *
 generalize d0.P=P at *
 generalize (d0.M rs.length).length=ML at *
 generalize d0.wl.p=p at *
 generalize (d0.m rs.length:Int)=mI at *
 clear hcs hN
 generalize rs.length=n at *
 go_wp2_with fail
 generalize w2.alloc (.cells #[.slice ap p.length cp,.slice an n cn,.int .i64 mI,.int .i64 P,.slice am ML cm,.bool false] 39)=W3 at *
 refine Hck.out.mono ?_
 rintro e w4 ⟨rfl,hx4⟩
 obtain ⟨q0,q1,q2,q3,q4,q5⟩:=(Hb3.out.ext hx4).cs
 have Hsa:=hid (Hsc.out false w4 (HE3.out.trans hx4));have Hx4:=hid hx4
 clear hx4
 go_wp2_with fail
 have hlt3:w2.heap.size<w4.heap.size:=(Array.getElem?_eq_some_iff.1 (Hb3.out.ext Hx4.out)).1
 refine Hsa.out.mono ?_
 rintro e w5 ⟨us5,vs5,fsA,rfl,hfA,hlA,hx5⟩
 have hb5:=Hb3.out.ext (Hx4.out.trans hx5)
 have p5:=hb5.cs.2.2.2.2.2
 have z5:=hb5.fz 5
 obtain ⟨r0,r1,r2,r3,r4,r5⟩:=(hb5.set5 true).cs
 have hx6:Ext w2 (w5.setCell ⟨w2.heap.size,5,none⟩ (.bool true)):=((HE3.out.trans Hx4.out).trans hx5).setCell (Nat.le_refl _) _
 have hsb:=Hsc.out true _ hx6
 have hfA6:=hfA.grown (grown_set w5 ⟨w2.heap.size,5,none⟩ (.bool true)) (fun r e=>by cases e;exact hlt3)
 obtain ⟨avA,cvA,rfl⟩:=own_shape hfA6.vs
 have Hsb:=hid hsb;have HfA:=hid hfA6;have HlA:=hid hlA;have Hx6:=hid hx6
 clear hsb hfA6 hfA hlA hx6 hx5 hb5 q0 q1 q2 q3 q4 q5
 go_wp2_with fail
 generalize w5.setCell ⟨w2.heap.size,5,none⟩ (.bool true)=W6 at *
 refine Hsb.out.mono ?_
 rintro e w7 ⟨us7,vs7,fsB,rfl,hfB,hlB,hx7⟩
 obtain ⟨avB,cvB,rfl⟩:=own_shape hfB.vs
 have hlens:fsB.length≤fsA.length∧fsA.length≤5000:=by
  have h1:=srL_len P p N cs
  have h2:=srL_le P false p N cs
  rw [← hlB,← HlA.out,List.length_map,List.length_map] at h1
  rw [← HlA.out,List.length_map] at h2
  omega
 have hap:∀ (k i:Nat)(f g:Fw),k<i→fsB[k]?=some f→fsB[i]?=some g→rotB p (subN p N f.l) (subN p N g.l)=false:=fun k i f g hki hf hg=>by
  have h1:=srL_apart P p N cs
  rw [← hlB,List.pairwise_map,List.pairwise_iff_getElem] at h1
  obtain ⟨l1,e1⟩:=List.getElem?_eq_some_iff.1 hf
  obtain ⟨l2,e2⟩:=List.getElem?_eq_some_iff.1 hg
  rw [← e1,← e2]
  exact h1 k i l1 l2 hki
 have hhas:∀ f∈fsA,∃ (j:Nat)(g:Fw),fsB[j]?=some g∧rotB p (subN p N g.l) (subN p N f.l)=true:=fun f hf=>by
  have h1:f.l∈srL P false p N cs:=by rw [← HlA.out];exact List.mem_map_of_mem hf
  obtain ⟨a,ha,e⟩:=srL_has h1 (HfA.out.all f hf).2.2.2.2
  rw [← hlB] at ha
  obtain ⟨g,hg,rfl⟩:=List.mem_map.1 ha
  obtain ⟨j,hj,ej⟩:=List.mem_iff_getElem.1 hg
  exact ⟨j,g,by rw [List.getElem?_eq_getElem hj,ej],e⟩
 have HfA7:=hid (HfA.out.ext hx7);have HfB:=hid hfB;have Hap:=hid hap;have Hhas:=hid hhas;have Hx7:=hid (Hx6.out.trans hx7)
 have hle:¬ (fsA.length:Int)<(fsB.length:Int):=by omega
 have hleN:¬ fsA.length<fsB.length:=by omega
 clear hfB hap hhas hx7 hlB r0 r1 r2 r3 r4 r5 HfA p5 z5
 generalize hLA:fsA.length=LA at *
 generalize hLB:fsB.length=LB at *
 have HLA:=hid hLA;have HLB:=hid hLB
 clear hLA hLB
 go_wp2_with fail
 go_loopw [2,8,9] (fun v2 v8 v9 wr=>∃ i:Nat,v8=.int .i64 i∧i≤LB∧Ext w7 wr) (fun _ v8 _ _=>LB - (intOf v8).toNat)
 case atStart=>exact ⟨0,rfl,Nat.zero_le _,Ext.refl _⟩
 case round =>
  obtain ⟨i,rfl,hi,hE⟩:=hrel
  have HE:=hid hE
  clear hE
  by_cases hiL:i<LB
  ·have hi0:(0:Int)≤(i:Int):=by omega
   have hi1:(i:Int)<(LB:Int):=by omega
   rcases fnd_form (HfB.out.ext HE.out) with ⟨e0,_⟩ | ⟨gB,cB,e0⟩
   ·exact absurd HLB.out (by rw [e0];simp;omega)
   injection e0 with e1 e2 e3
   clear e2
   subst e1 e3
   obtain ⟨fi,a1,c1,a2,n2,c2,hfi,x1,x2,hs1,hm1,hw1⟩:=fnd_at (HfB.out.ext HE.out) (k:=i) (by rw [HLB.out];exact hiL)
   have X1:=hid x1;have X2:=hid x2;have Hs1:=hid hs1;have Hm1:=hid hm1;have Hw1:=hid hw1;have Hfi:=hid hfi
   clear x1 x2 hs1 hm1 hw1 hfi
   go_wp2_with fail
   go_loopw [2,9] (fun v2 v9 ws=>∃ k:Nat,v9=.int .i64 k∧k≤i∧Ext wr ws) (fun _ v9 _=>i - (intOf v9).toNat)
   case atStart=>exact ⟨0,rfl,Nat.zero_le _,Ext.refl _⟩
   case round =>
    obtain ⟨k,rfl,hk,hEs⟩:=hrel
    by_cases hki:k<i
    ·have hk0:(0:Int)≤(k:Int):=by omega
     have hk1:(k:Int)<(LB:Int):=by omega
     have hk2:(k:Int)<(i:Int):=by omega
     obtain ⟨fk,a3,c3,a4,n4,c4,hfk,y1,y2,hs3,hm3,hw3⟩:=fnd_at (HfB.out.ext (HE.out.trans hEs)) (k:=k) (by rw [HLB.out];omega)
     have x1:=hEs.cell X1.out
     have x2:=hEs.cell X2.out
     have hmo:=fun W (hx:Ext wr W)=>(show Calls Tryz.prog 18 #[.agg #[.slice a3 p.length c3,.slice a4 n4 c4],.agg #[.slice a1 p.length c1,.slice a2 n2 c2]] W fun e w'=>e=.returned (.bool false)∧Ext W w' from by
      have:=Him.out W _ _ fk.rs fi.rs ((Hx7.out.trans (HE.out.trans hEs)).trans hx) (hs3.ext hx) (Hs1.out.ext (hEs.trans hx)) (by rw [hm3];exact hw3) (by rw [Hm1.out];exact Hw1.out)
      rw [hm3,Hm1.out,Hap.out k i fk fi hki hfk Hfi.out] at this
      exact this)
     have Hmo:=hid hmo;have HEs:=hid hEs
     clear hmo hEs hs3 hm3 hw3 hfk
     go_wp2_with fail
     go_region_held3 (fun w'=>Ext wr w'∧w'.cell? ⟨gB,k * 2,none⟩=some (.slice a3 p.length c3)∧w'.cell? ⟨gB,k * 2+1,none⟩=some (.slice a4 n4 c4)∧w'.cell? ⟨gB,i * 2,none⟩=some (.slice a1 p.length c1)∧w'.cell? ⟨gB,i * 2+1,none⟩=some (.slice a2 n2 c2))
      (first | (with_reducible assumption) | exact ⟨(Ext.refl wr).drew,y1,y2,x1,x2⟩)
      (first
       | (go_at_call 18;refine (Hmo.out _ (And.left (by assumption))).mono ?_;rintro e9 VA ⟨rfl,hxa⟩;have hEA:Ext wr VA:=Ext.trans (And.left (by assumption)) hxa;have hS2:Ext wr VA∧VA.cell? ⟨gB,k * 2,none⟩=some (.slice a3 p.length c3)∧VA.cell? ⟨gB,k * 2+1,none⟩=some (.slice a4 n4 c4)∧VA.cell? ⟨gB,i * 2,none⟩=some (.slice a1 p.length c1)∧VA.cell? ⟨gB,i * 2+1,none⟩=some (.slice a2 n2 c2):=⟨hEA,hEA.cell y1,hEA.cell y2,hEA.cell x1,hEA.cell x2⟩;have HEA:=hid hEA;clear hxa hEA))
     all_goals
      clear hS2 x1 x2 y1 y2
      go_wp2_with fail
      go_roundw
      case rel=>exact ⟨k+1,by go_num,hki,HEs.out.trans HEA.out⟩
      case measure=>simp [intOf];omega
    ·obtain rfl:k=i:=by omega
     have hkn:¬ (k:Int)<(k:Int):=by omega
     have HEs:=hid (HE.out.trans hEs)
     clear hEs
     go_wp2_with fail
     go_roundw
     case rel=>exact ⟨k+1,by go_num,hiL,HEs.out⟩
     case measure=>simp [intOf];omega
  ·obtain rfl:i=LB:=by omega
   have hin:¬ (i:Int)<(i:Int):=by omega
   go_wp2_with fail
   go_loopw [10,11,12] (fun v10 v11 v12 wr=>∃ j:Nat,v10=.int .i64 j∧j≤LA∧Ext w7 wr) (fun v10 _ _ _=>LA - (intOf v10).toNat)
   case atStart=>exact ⟨0,rfl,Nat.zero_le _,HE.out⟩
   case round =>
    obtain ⟨j,rfl,hj,hE2⟩:=hrel
    have HE2:=hid hE2
    clear hE2
    by_cases hjL:j<LA
    ·have hj0:(0:Int)≤(j:Int):=by omega
     have hj1:(j:Int)<(LA:Int):=by omega
     rcases fnd_form (HfA7.out.ext HE2.out) with ⟨e0,_⟩ | ⟨gA,cA,e0⟩
     ·exact absurd HLA.out (by rw [e0];simp;omega)
     injection e0 with e1 e2 e3
     clear e2
     subst e1 e3
     obtain ⟨fj,a1,c1,a2,n2,c2,hfj,x1,x2,hs1,hm1,hw1⟩:=fnd_at (HfA7.out.ext HE2.out) (k:=j) (by rw [HLA.out];exact hjL)
     obtain ⟨jb,gb,hgb,hrb⟩:=Hhas.out fj (List.mem_of_getElem? hfj)
     have X1:=hid x1;have X2:=hid x2;have Hs1:=hid hs1;have Hm1:=hid hm1;have Hw1:=hid hw1;have Hgb:=hid hgb;have Hrb:=hid hrb
     have hjb:jb<i:=by have:=(List.getElem?_eq_some_iff.1 hgb).1;rw [HLB.out] at this;exact this
     clear x1 x2 hs1 hm1 hw1 hfj hgb hrb
     rcases fnd_form (HfB.out.ext HE2.out) with ⟨e0,_⟩ | ⟨gB,cB,e0⟩
     ·exact absurd HLB.out (by rw [e0];simp;omega)
     injection e0 with e1 e2 e3
     clear e2
     subst e1 e3
     go_wp2_with fail
     go_loopw [11,12] (fun v11 v12 ws=>∃ (k:Nat)(fd:Bool),v11=.bool fd∧v12=.int .i64 k∧k≤i∧Hid (fd=false→∀ (a:Nat)(g:Fw),a<k→fsB[a]?=some g→rotB p (subN p N g.l) (subN p N fj.l)=false)∧Ext wr ws) (fun _ v12 _=>i - (intOf v12).toNat)
     case atStart=>exact ⟨0,false,rfl,rfl,Nat.zero_le _,hid (fun _ a g h=>by omega),Ext.refl _⟩
     case round =>
      obtain ⟨k,fd,rfl,rfl,hk,HR,hEs⟩:=hrel
      have HEs:=hid hEs
      cases fd with
      | true =>
       clear hEs
       by_cases hki:k<i
       ·have hk2:(k:Int)<(i:Int):=by omega
        go_wp2_with fail
        go_roundw
        case rel=>exact ⟨j+1,by go_num,hjL,HE2.out.trans HEs.out⟩
        case measure=>simp [intOf];omega
       ·have hk2:¬ (k:Int)<(i:Int):=by omega
        go_wp2_with fail
        go_roundw
        case rel=>exact ⟨j+1,by go_num,hjL,HE2.out.trans HEs.out⟩
        case measure=>simp [intOf];omega
      | false =>
       by_cases hki:k<i
       ·have hk0:(0:Int)≤(k:Int):=by omega
        have hk2:(k:Int)<(i:Int):=by omega
        obtain ⟨fk,a3,c3,a4,n4,c4,hfk,y1,y2,hs3,hm3,hw3⟩:=fnd_at (HfB.out.ext (HE2.out.trans hEs)) (k:=k) (by rw [HLB.out];omega)
        have x1:=hEs.cell X1.out
        have x2:=hEs.cell X2.out
        have hmo:=fun W (hx:Ext wr W)=>(show Calls Tryz.prog 18 #[.agg #[.slice a3 p.length c3,.slice a4 n4 c4],.agg #[.slice a1 p.length c1,.slice a2 n2 c2]] W fun e w'=>e=.returned (.bool (rotB p (subN p N fk.l) (subN p N fj.l)))∧Ext W w' from by
         have:=Him.out W _ _ fk.rs fj.rs ((Hx7.out.trans (HE2.out.trans hEs)).trans hx) (hs3.ext hx) (Hs1.out.ext (hEs.trans hx)) (by rw [hm3];exact hw3) (by rw [Hm1.out];exact Hw1.out)
         rw [hm3,Hm1.out] at this
         exact this)
        obtain ⟨R,hR⟩:∃ R,R=rotB p (subN p N fk.l) (subN p N fj.l):=⟨_,rfl⟩
        rw [← hR] at hmo
        have HR2:=hid (show R=false→∀ (a:Nat)(g:Fw),a<k+1→fsB[a]?=some g→rotB p (subN p N g.l) (subN p N fj.l)=false from fun e a g ha hg=>by
         rcases Nat.lt_or_ge a k with h | h
         ·exact HR.out rfl a g h hg
         ·obtain rfl:a=k:=by omega
          rw [hfk] at hg
          cases hg
          rw [← hR]
          exact e)
        have Hmo:=hid hmo
        clear hmo hEs hs3 hm3 hw3 hfk hR
        go_wp2_with fail
        go_region_held3 (fun w'=>Ext wr w'∧w'.cell? ⟨gB,k * 2,none⟩=some (.slice a3 p.length c3)∧w'.cell? ⟨gB,k * 2+1,none⟩=some (.slice a4 n4 c4)∧w'.cell? ⟨gA,j * 2,none⟩=some (.slice a1 p.length c1)∧w'.cell? ⟨gA,j * 2+1,none⟩=some (.slice a2 n2 c2))
         (first | (with_reducible assumption) | exact ⟨(Ext.refl wr).drew,y1,y2,x1,x2⟩)
         (first
          | (go_at_call 18;refine (Hmo.out _ (And.left (by assumption))).mono ?_;rintro e9 VA ⟨rfl,hxa⟩;have hEA:Ext wr VA:=Ext.trans (And.left (by assumption)) hxa;have hS2:Ext wr VA∧VA.cell? ⟨gB,k * 2,none⟩=some (.slice a3 p.length c3)∧VA.cell? ⟨gB,k * 2+1,none⟩=some (.slice a4 n4 c4)∧VA.cell? ⟨gA,j * 2,none⟩=some (.slice a1 p.length c1)∧VA.cell? ⟨gA,j * 2+1,none⟩=some (.slice a2 n2 c2):=⟨hEA,hEA.cell y1,hEA.cell y2,hEA.cell x1,hEA.cell x2⟩;have HEA:=hid hEA;clear hxa hEA))
        all_goals
         clear hS2 x1 x2 y1 y2
         go_wp2_with fail
         go_roundw
         case rel=>exact ⟨k+1,R,rfl,by go_num,hki,HR2,HEs.out.trans HEA.out⟩
         case measure=>simp [intOf];omega
       ·have:=HR.out rfl jb gb (by omega) Hgb.out
        exact absurd (Hrb.out.symm.trans this) (by decide)
    ·obtain rfl:j=LA:=by omega
     have hjn:¬ (j:Int)<(j:Int):=by omega
     have HEE:=hid ((Hx3.out.trans Hx7.out).trans HE2.out)
     go_wp2_with fail
     go_ret
     exact ⟨rfl,HEE.out⟩
end Go.Proofs.YtipjmpdndokdlaaGreatDoor
