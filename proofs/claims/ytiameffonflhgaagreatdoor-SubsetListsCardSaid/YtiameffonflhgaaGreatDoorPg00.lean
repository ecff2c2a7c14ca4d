/- Walk: the law SubsetLists. -/
import Derived.Test.YtiameffonflhgaaGreatDoorPk40
import Derived.Test.YtiameffonflhgaaGreatDoorPk38
import Derived.Test.YtiameffonflhgaaGreatDoorPk37
import Derived.Test.YtiameffonflhgaaGreatDoorPk41
set_option maxRecDepth 100000
set_option maxHeartbeats 2000000
namespace Go.Proofs.YtiameffonflhgaaGreatDoor
open Go.RowKit Go.Lib Go.Shelf
attribute [local go_sem] Oper.semAt_some
theorem zsf (v1 v2:Value)(p:List Int)(rs ts:List Qw)(w:World)(h1:ScV w v1 p rs)(h2:ScV w v2 p ts)(hp:p.length≤1000)(g1:Wd p (rs.map Qw.x))(g2:Wd p (ts.map Qw.x))(he:rs.map Qw.x=ts.map Qw.x) :
  Calls Tryz.prog 34 #[v1,v2] w fun e w'=>e=.returned (.bool true)∧Ext w w':=by
 have f1:=g1.few;have f2:=g2.few;rw [List.length_map] at f1 f2;have hs:=fun W u1 u2 (hE:Ext w W)(k1:ScV W u1 p rs)(k2:ScV W u2 p ts)=>zop u1 u2 p p rs ts W k1 k2 hp hp (by omega) (by omega) (fun r hr=>by rw [g1.len _ (List.mem_map_of_mem hr)];exact hp) (fun r hr=>by rw [g2.len _ (List.mem_map_of_mem hr)];exact hp);rw [decide_eq_true he,decide_eq_true (rfl:p=p),Bool.and_self] at hs;obtain ⟨a1,c1,b1,d1,rfl,h1⟩:=zom h1;obtain ⟨a2,c2,b2,d2,rfl,h2⟩:=zom h2;obtain ⟨hb1,hb2,hE⟩:=zpI w (.slice a1 p.length c1) (.slice b1 rs.length d1) (.slice a2 p.length c2) (.slice b2 ts.length d2);have hc:=hs _ _ _ hE (h1.ext hE) (h2.ext hE);have hc0:=hs _ _ _ (Ext.refl w) h1 h2;have q0:=hb1.c0;have q1:=hb1.c1;have q2:=hb2.c0;have q3:=hb2.c1;have Hc:=hid hc;have HE:=hid hE;have Hc0:=hid hc0;clear hs hc hE h1 h2 g1 g2 he hb1 hb2 f1 f2 hc0;go_enter Tryz.func34,Tryz.ntmps34
 go_wp2_with fail
 first
  | (refine Hc.out.mono ?_
     rintro e w1 ⟨rfl,hx⟩
     have HE1:=hid (HE.out.trans hx)
     clear hx q0 q1 q2 q3
     go_wp2_with fail
     go_ret
     exact ⟨rfl,HE1.out⟩)
  | (refine Hc0.out.mono ?_
     rintro e w1 ⟨rfl,hx⟩
     have HE1:=hid hx
     clear hx q0 q1 q2 q3
     go_wp2_with fail
     go_ret
     exact ⟨rfl,HE1.out⟩)
theorem zsg (d:Dl)(w:World)(he:Env w)(hd:d.Ok) :
  Calls Tryz.prog 5 #[d.v] w fun e w'=>e=.returned (.bool true)∧Ext w w':=by
 have hkn:=fun W (hE:Ext w W)=>zqk W (he.ext hE);have hmk:=fun W (hE:Ext w W)=>zqy d W (he.ext hE) hd;have hrl:=zq2 d w;have hun:=Tryz.underlying85;have hin:=zq3 d;have hE0:Ext w (w.alloc (.cells d.cs 85)):=(Ext.refl w).alloc _;have Hkn:=hid hkn;have Hmk:=hid hmk;have Hrl:=hid hrl;have Hun:=hid hun;have Hin:=hid hin;have HE0:=hid hE0;clear hkn hmk hrl hun hin hE0;have He:=hid he;clear he hd;have hv:d.v=.agg d.cs:=rfl;have Hv:=hid hv;rw [hv];clear hv;rw [zqs];go_enter Tryz.func5,Tryz.ntmps5
 rw [← zqs];go_wp2_with fail
 refine (Hkn.out _ HE0.out).mono ?_;rintro e w1 ⟨rfl,hx1⟩;have hrl1:=Hrl.out w1 hx1;have Hx1:=hid (HE0.out.trans hx1);have Hrl1:=hid hrl1;clear hx1 hrl1;have Hmk1:=hid (Hmk.out w1 Hx1.out);go_wp2_with (refine wpList_load_mid rfl 85 (.tmp 1) rfl w.heap.size 0 rfl d.cs.toList _ Hrl1.out Hun.out rfl Hin.out ?_)
 rw [← Hv.out];refine Hmk1.out.mono ?_;rintro e w2 ⟨v2,rs,rfl,hq2,hc2,hx2⟩;have hw2:=zlI d.wl hc2;obtain ⟨ap,cp,an,cn,am,cm,rfl,hs2,hm2⟩:=hq2.let;have hpos:=hw2.wd.pos;have hfew:=hw2.few;have hlm:(rs.map Qw.x).length=rs.length:=List.length_map ..;rw [hlm] at hpos hfew;obtain ⟨hqe,hm1,hmn,hP1,hP6,hM0,hML⟩:=zq4 d hpos;have hsr:zpS d.wl.p (rs.map Qw.x) (d.m rs.length) d.P (d.M rs.length):=zpS.of hw2 hm1 (by rw [hlm];exact hmn) hP1 hP6 (by rw [hlm];exact hM0);have hso:=zli hM0;have hE3:=(Ext.refl w2).alloc (.cells #[.slice ap d.wl.p.length cp,.slice an rs.length cn,.int .i64 (d.m rs.length:Int),.int .i64 d.P,.slice am (d.M rs.length).length cm,.bool d.modes] 59);have hb3:=znK.new w2 (.slice ap d.wl.p.length cp) (.slice an rs.length cn) (d.m rs.length:Int) d.P (.slice am (d.M rs.length).length cm) d.modes;have hq3:=hq2.ext hE3;have hx3:=(Hx1.out.trans hx2).trans hE3;have hck:=zq0 _ d.wl.p rs _ _ _ _ _ (He.out.ext hx3) hq3 hw2.wd (by omega) hqe;have hal:=fun W (hx:Ext _ W)=>zrV _ d.wl.p rs (d.m rs.length) d.P (d.M rs.length) d.modes W (He.out.ext (hx3.trans hx)) (hq3.ext hx) hw2 hm1 hmn (by omega);have hAl:=fun W (hx:Ext _ W)=>zpU _ d.wl.p rs (d.m rs.length) d.P (d.M rs.length) d.modes W (He.out.ext (hx3.trans hx)) (hq3.ext hx) hsr;have hCt:=fun W (hx:Ext _ W)=>zsc _ d.wl.p rs (d.m rs.length) d.P (d.M rs.length) d.modes W (He.out.ext (hx3.trans hx)) (hq3.ext hx) hsr;have hSc:=fun W (hx:Ext _ W)=>zpV _ d.wl.p rs (d.m rs.length) d.P (d.M rs.length) d.modes W (He.out.ext (hx3.trans hx)) (hq3.ext hx) hsr;have heq:=zrv (P:=d.P) (b:=d.modes) (p:=d.wl.p) (N:=rs.map Qw.x) (n:=rs.length) (m:=d.m rs.length) hso.2 hso.1;rw [heq] at hal;have hl5:(srL d.P d.modes d.wl.p (rs.map Qw.x) (cho rs.length (d.m rs.length) (d.M rs.length) rs.length [] 0)).length≤5000:=by
  have h1:=zn1 d.P d.modes d.wl.p (rs.map Qw.x) (cho rs.length (d.m rs.length) (d.M rs.length) rs.length [] 0);have h2:=hsr.cs;rw [hlm] at h2;omega
 have hsh:∀ x∈srL d.P d.modes d.wl.p (rs.map Qw.x) (cho rs.length (d.m rs.length) (d.M rs.length) rs.length [] 0),x.length≤60∧zle rs.length x=0∧Wd d.wl.p (zlk d.wl.p (rs.map Qw.x) x):=fun x hx=>by
  have h2:=hsr.all x (by rw [hlm];exact (znz hx).1);rw [hlm] at h2;exact ⟨h2.1,h2.2.1,zp4 hw2.wd (by rw [hlm];exact h2.2.1) h2.1⟩
 have hsb:=fun W sv u (l:List Int)(hE:Ext w W)(hs:ScV W sv d.wl.p rs)(hu:Sl W u (zaq l))(h6:l.length≤60)(h0:zle rs.length l=0)=>(znJ sv u d.wl.p rs l W (He.out.ext hE) hs hw2.wd hu h6).mono fun e w' ⟨u,he,_,h2,hx⟩=>(show ∃ u out,e=Ending.returned (.tuple #[u,.int .i64 0])∧ScO w' W.heap.size u d.wl.p out∧out.map Qw.x=zlk d.wl.p (rs.map Qw.x) l∧Ext W w' by
  rw [h0] at he;obtain ⟨out,ho,hm⟩:=h2 h0;exact ⟨u,out,he,ho,hm,hx⟩)
 have hpl:d.wl.p.length≤1000:=by rcases d.wl.pw with e | e <;> rw [e] <;> simp
 have hsm:=fun W v1 v2 (r1 r2:List Qw)(k1:ScV W v1 d.wl.p r1)(k2:ScV W v2 d.wl.p r2)(g1:Wd d.wl.p (r1.map Qw.x))(g2:Wd d.wl.p (r2.map Qw.x))(ge:r1.map Qw.x=r2.map Qw.x)=>zsf v1 v2 d.wl.p r1 r2 W k1 k2 hpl g1 g2 ge;obtain ⟨q0,q1,q2,q3,q4,q5⟩:=hb3.cs;have Hck:=hid hck;have Hb3:=hid hb3;have Hx3:=hid hx3;have Hal:=hid hal;have HAl:=hid hAl;have HCt:=hid hCt;have HSc:=hid hSc;have Hsh:=hid hsh;have Hsb:=hid hsb;have Hsm:=hid hsm;have Hs3:=hid (hs2.ext hE3);clear hck hq3 hb3 hx3 hw2 hqe hML hq2 hs2 hm2 hE3 hx2 hc2 hM0 hlm Hmk1 Hkn Hmk Hrl Hrl1 Hun Hin hal hAl hCt hSc heq hsr hso hsh hm1 hmn hP1 hP6 hsb hsm hpl;generalize srL d.P d.modes d.wl.p (rs.map Qw.x) (cho rs.length (d.m rs.length) (d.M rs.length) rs.length [] 0)=SL at *;generalize (d.M rs.length).length=ML at *;generalize (d.m rs.length:Int)=mI at *;generalize hN:rs.map Qw.x=N at *;clear hN;generalize rs.length=n at *;generalize d.wl.p=p at *;go_wp2_with fail
 generalize w2.alloc (.cells #[.slice ap p.length cp,.slice an n cn,.int .i64 mI,.int .i64 d.P,.slice am ML cm,.bool d.modes] 59)=W3 at *;refine Hck.out.mono ?_;rintro e w4 ⟨rfl,hx4⟩;obtain ⟨q0,q1,q2,q3,q4,q5⟩:=(Hb3.out.ext hx4).cs;have Ha4:=hid (Hal.out w4 hx4);have Hx4:=hid hx4;clear hx4;go_wp2_with fail
 refine Ha4.out.mono ?_;rintro e w5 ⟨us5,fs,rfl,hf5,hl5b,hx5⟩;have hf5r:=hf5.r;obtain ⟨a5,c5,rfl⟩:=zec hf5.row;have hX5:=Hx4.out.trans hx5;obtain ⟨q0,q1,q2,q3,q4,q5⟩:=(Hb3.out.ext hX5).cs;have hfl:fs.length≤5000:=by rw [← hl5b,List.length_map] at hl5;exact hl5
 have Ha5:=hid (HAl.out w5 hX5);have Hf5:=hid hf5r;have Hl5:=hid hl5b;have HX5:=hid hX5;clear hf5 hf5r hx5 hX5 hl5b hl5;go_wp2_with fail
 refine Ha5.out.mono ?_;rintro e w6 ⟨us6,vs6,fsA,rfl,hfA,hlA,hx6⟩;have hfAr:=hfA.r;obtain ⟨a6,c6,rfl⟩:=zec hfA.us;have hX6:=HX5.out.trans hx6;obtain ⟨q0,q1,q2,q3,q4,q5⟩:=(Hb3.out.ext hX6).cs;have hfAl:fsA.length=fs.length:=by
  have:=congrArg List.length (hlA.trans Hl5.out.symm);rwa [List.length_map,List.length_map] at this
 have Hc6:=hid (HCt.out w6 hX6);have HfA:=hid hfAr;have HlA:=hid hlA;have HX6:=hid hX6;have Hf6:=hid (Hf5.out.ext hx6);clear hfA hfAr hx6 hX6 hlA Hf5;go_wp2_with fail
 refine Hc6.out.mono ?_;rintro e w7 ⟨rfl,hx7⟩;have hX7:=HX6.out.trans hx7;obtain ⟨q0,q1,q2,q3,q4,q5⟩:=(Hb3.out.ext hX7).cs;have Hs7:=hid (HSc.out w7 hX7);have HX7:=hid hX7;have HfA7:=hid (HfA.out.ext hx7);have Hf7:=hid (Hf6.out.ext hx7);clear hx7 hX7 HfA Hf6;have hSLn:SL.length=fs.length:=by rw [← Hl5.out,List.length_map]
 rw [hSLn];go_wp2_with fail
 refine Hs7.out.mono ?_;rintro e w8 ⟨us8,vs8,fsS,rfl,hfS,hlS,hx8⟩;obtain ⟨a8,c8,rfl⟩:=zec hfS.vs;have hfSl:fsS.length=fs.length:=by
  have:=congrArg List.length (hlS.trans Hl5.out.symm);rwa [List.length_map,List.length_map] at this
 have hsl:∀ f∈fs,f.l.length≤1000:=fun f hf=>by
  have:=(Hsh.out f.l (by rw [← Hl5.out];exact List.mem_map_of_mem hf)).1;omega
 have hslA:∀ f∈fwI fsA,f.l.length≤1000:=fun f hf=>by
  obtain ⟨g,hg,rfl⟩:=List.mem_map.1 hf;have:=(Hsh.out g.l (by rw [← HlA.out];exact List.mem_map_of_mem hg)).1;show g.l.length≤1000;omega
 have HfA7:=hid (show LsR w7 (.slice a6 fs.length c6) (fwI fsA) by rw [← hfAl];exact HfA7.out);have hsml:=fun W (hx:Ext w8 W)=>zrE _ _ (fwI fsA) fs W ((HfA7.out.ext (hx8.trans hx))) (Hf7.out.ext (hx8.trans hx)) (by rw [zrD];omega) hslA hsl;have hdec:decide ((fwI fsA).map Iw.l=fs.map Iw.l)=true:=decide_eq_true (by rw [zrC,HlA.out,Hl5.out]);rw [hdec] at hsml
 first | rw [hfAl,hfSl] | rw [hfSl]
 have HX8:=hid (HX7.out.trans hx8);have HfS:=hid hfS;have HlS:=hid hlS;have Hsml:=hid hsml;have HfA8:=hid (HfA7.out.ext hx8);have HfSl:=hid hfSl;have HfAl:=hid hfAl;clear hx8 hfS hlS hsml hsl hslA hdec hSLn q0 q1 q2 q3 q4 q5 HfA7 Hf7;rw [hfSl] at HfS;clear hfAl hfSl;go_wp2_with fail
 refine (Hsml.out _ (Ext.refl _)).mono ?_;rintro e w9 ⟨rfl,hx9⟩;have Hx9:=hid hx9;clear hx9;go_wp2_with fail
 go_loopw [12,13,14] (fun v12 v13 v14 wr=>∃ i:Nat,v12=.int .i64 i∧i≤fs.length∧Ext w9 wr) (fun v12 _ _ _=>fs.length - (zam v12).toNat)
 case atStart=>exact ⟨0,rfl,Nat.zero_le _,Ext.refl _⟩
 case round =>
  obtain ⟨i,rfl,hi,hE⟩:=hrel;obtain ⟨wa,hwa⟩:∃ wa,wa=wr:=⟨_,rfl⟩;subst hwa;by_cases hil:i<fs.length
  ·obtain ⟨f,hfi⟩:∃ f,(fwI fsA)[i]?=some f:=⟨_,List.getElem?_eq_getElem (by rw [zrD,HfAl.out];exact hil)⟩;have hsi:SL[i]?=some f.l:=(by rw [← HlA.out,← zrC,List.getElem?_map,hfi];rfl);obtain ⟨h60,hse,hwd⟩:=Hsh.out f.l (List.mem_of_getElem? hsi);obtain ⟨b1,o1,a7,c7,rfl,hc1,hs1⟩:=(HfA8.out.ext (Hx9.out.trans hE)).at' hfi;rcases zrA (HfS.out.ext (Hx9.out.trans hE)) with ⟨e0,_⟩ | ⟨gS,cS,e0⟩
   ·exact absurd HfSl.out (by rw [e0];simp;omega)
   injection e0 with e1 e2 e3;clear e2;subst e1 e3;obtain ⟨fS,a1,c1,a2,n2,c2,hfS,x1,x2,hs2,hm2,hw2⟩:=zr9 (HfS.out.ext (Hx9.out.trans hE)) (k:=i) (by rw [HfSl.out];exact hil);have hSl:fS.l=f.l:=by
    have h1:SL[i]?=some fS.l:=(by rw [← HlS.out,List.getElem?_map,hfS];rfl);rw [hsi] at h1;exact (Option.some.inj h1).symm
   have hX:=(HX8.out.trans Hx9.out).trans hE;have hXX:=(Hx3.out.trans hX);have hSQ:∀ W,Ext wa W→Ext wa W∧W.cell? ⟨b1,o1+i,none⟩=some (.slice a7 f.l.length c7)∧W.cell? ⟨w2.heap.size,0,none⟩=some (.slice ap p.length cp)∧W.cell? ⟨w2.heap.size,1,none⟩=some (.slice an n cn):=fun W hx =>
    ⟨hx,hx.cell hc1,(Hb3.out.ext (hX.trans hx)).cs.1,(Hb3.out.ext (hX.trans hx)).cs.2.1⟩
   have hsb8:=fun W (hx:Ext wa W)=>Hsb.out W _ (.slice a7 f.l.length c7) f.l (hXX.trans hx) (Hs3.out.ext (hX.trans hx)) (hx.sl hs1) h60 hse;have hi0:(0:Int)≤(i:Int):=(by omega);have hi1:(i:Int)<(fs.length:Int):=(by omega);have HSQ:=hid hSQ;have Hsb8:=hid hsb8;have Hx1':=hid x1;have Hx2':=hid x2;have Hs2:=hid hs2;have Hm2:=hid hm2;have Hw2:=hid hw2;have HSl:=hid hSl;have HE:=hid hE;have Hwd:=hid hwd;clear hSQ hsb8 x1 x2 hs2 hm2 hw2 hSl hX hXX hs1 hc1 hfS hfi hsi h60 hse hE hwd;go_upto_region 17 with (fail)
   go_cut [13,14] (fun v13 v14 wx=>zrL wa 0 p (zlk p N f.l) v13 v14 wx)
   case first =>
    have hS0:=HSQ.out _ (Ext.refl wa).drew;go_region_held3 (fun w'=>Ext wa w'∧w'.cell? ⟨b1,o1+i,none⟩=some (.slice a7 f.l.length c7)∧w'.cell? ⟨w2.heap.size,0,none⟩=some (.slice ap p.length cp)∧w'.cell? ⟨w2.heap.size,1,none⟩=some (.slice an n cn))
     (first | (with_reducible assumption) | exact HSQ.out _ ((Ext.refl wa).drew) | exact HSQ.out _ (((Ext.refl wa).drew).alloc _) | exact HSQ.out _ (HE8.out.alloc _) | exact HSQ.out _ ((HE8.out.setCell (p:=⟨wa.heap.size,0,none⟩) (Nat.le_refl _) _).setCell (p:=⟨wa.heap.size,1,none⟩) (Nat.le_refl _) _) | exact HSQ.out _ (((HE8.out.alloc _).setCell (p:=⟨V8.heap.size,0,none⟩) HE8.out.size _).setCell (p:=⟨V8.heap.size,1,none⟩) HE8.out.size _))
     (first
      | (go_at_call 10
         refine (Hsb8.out _ (And.left (by with_reducible assumption))).mono ?_
         rintro e9 V8 ⟨u8,o8,rfl,ho8,hm8,hx8⟩
         obtain ⟨vp8,vn8,rfl,hp8,hn8⟩:=ho8
         obtain ⟨a9,c9,rfl⟩:=zec hp8
         obtain ⟨b9,d9,rfl⟩:=zec hn8.1
         have hE8:Ext wa V8:=Ext.trans (And.left (by with_reducible assumption)) hx8
         have hp9:zeb V8 0 (.slice a9 p.length c9) p:=zan hp8 (Nat.zero_le _)
         have hn9:QwM V8 0 0 (.slice b9 o8.length d9) o8:=hn8.mono (Nat.zero_le _) (Nat.zero_le _)
         have hS8:=HSQ.out V8 hE8
         first
           | (have hbz:zdM 28 V8 wa.heap.size (.slice none 0 0) (.slice none 0 0):=(zdM.new 28 wa.drew (.slice none 0 0) (.slice none 0 0)).ext hx8
              have k0:=hbz.c0
              have k1:=hbz.c1
              have z0:=hbz.fz 0
              have z1:=hbz.fz 1
              have Hbz:=hid hbz
              clear hbz)
           | (have hbz:=zdM.new 28 V8 (.slice none 0 0) (.slice none 0 0)
              have k0:=hbz.c0
              have k1:=hbz.c1
              have z0:=hbz.fz 0
              have z1:=hbz.fz 1
              have Hby:=hid hbz
              clear hbz)
         have HE8:=hid hE8
         have Hm8:=hid hm8
         have Hp8:=hid hp9
         have Hn8:=hid hn9
         clear hp8 hn8 hm8 hE8 hx8 hp9 hn9))
    all_goals
     first
      | have Hfin:Hid (zrL wa 0 p (zlk p N f.l) (.pointer (some ⟨wa.heap.size,0,none⟩)) (.int .i64 0) ((V8.setCell ⟨wa.heap.size,0,none⟩ (.slice a9 p.length c9)).setCell ⟨wa.heap.size,1,none⟩ (.slice b9 o8.length d9))):=hid ⟨wa.heap.size,a9,c9,b9,d9,o8,rfl,rfl,Hbz.out.put _ _,(zrM Hbz.out Hp8.out Hn8.out).1,(zrM Hbz.out Hp8.out Hn8.out).2,Hm8.out,(HE8.out.setCell (p:=⟨wa.heap.size,0,none⟩) (Nat.le_refl _) _).setCell (p:=⟨wa.heap.size,1,none⟩) (Nat.le_refl _) _,Nat.le_refl _⟩
      | have Hfin:Hid (zrL wa 0 p (zlk p N f.l) (.pointer (some ⟨V8.heap.size,0,none⟩)) (.int .i64 0) (V8.alloc (.cells #[.slice a9 p.length c9,.slice b9 o8.length d9] 28))):=hid ⟨V8.heap.size,a9,c9,b9,d9,o8,rfl,rfl,zdM.new 28 V8 _ _,((Ext.refl V8).alloc _).ownI Hp8.out,((Ext.refl V8).alloc _).qwM Hn8.out,Hm8.out,HE8.out.alloc _,HE8.out.size⟩
     go_wp2_with fail
     go_meet
     exact Hfin.out
   case rest =>
    obtain ⟨bk,a9,c9,b9,d9,out,rfl,rfl,hb9,hp9,hn9,hm9,hx9,_⟩:=hcut;obtain ⟨wb,hwb⟩:∃ wb,wb=wc:=⟨_,rfl⟩;subst hwb;have hsc:ScV wb (.agg #[.slice a9 p.length c9,.slice b9 out.length d9]) p out:=⟨_,_,rfl,zao hp9,hn9.rd⟩;have hsm:=fun W (hx:Ext wb W)=>Hsm.out W _ _ fS.rs out (Hs2.out.ext (hx9.trans hx)) (hsc.ext hx) (by rw [Hm2.out];exact Hw2.out) (by rw [hm9];exact Hwd.out) (by rw [Hm2.out,hm9,HSl.out]);have k0:=hb9.c0;have k1:=hb9.c1;have y1:=hx9.cell Hx1'.out;have y2:=hx9.cell Hx2'.out;have Hsm9:=hid hsm;have HE9:=hid (HE.out.trans hx9);clear hb9 hp9 hn9 hm9 hx9 hsc hsm;go_wp2_with fail
    go_region_held3 (fun w'=>Ext wb w'∧w'.cell? ⟨gS,i * 2,none⟩=some (.slice a1 p.length c1)∧w'.cell? ⟨gS,i * 2+1,none⟩=some (.slice a2 n2 c2)∧w'.cell? ⟨bk,0,none⟩=some (.slice a9 p.length c9)∧w'.cell? ⟨bk,1,none⟩=some (.slice b9 out.length d9))
     (first | (with_reducible assumption) | exact ⟨(Ext.refl wb).drew,y1,y2,k0,k1⟩)
     (first
      | (go_at_call 34;refine (Hsm9.out _ (And.left (by assumption))).mono ?_;rintro e9 VC ⟨rfl,hxa⟩;have hEC:Ext wb VC:=Ext.trans (And.left (by assumption)) hxa;have hS3:Ext wb VC∧VC.cell? ⟨gS,i * 2,none⟩=some (.slice a1 p.length c1)∧VC.cell? ⟨gS,i * 2+1,none⟩=some (.slice a2 n2 c2)∧VC.cell? ⟨bk,0,none⟩=some (.slice a9 p.length c9)∧VC.cell? ⟨bk,1,none⟩=some (.slice b9 out.length d9):=⟨hEC,hEC.cell y1,hEC.cell y2,hEC.cell k0,hEC.cell k1⟩;have HEC:=hid hEC;clear hxa hEC))
    all_goals
     clear hS3 y1 y2 k0 k1;go_wp2_with fail
     go_roundw
     case rel=>first | exact ⟨i+1,by go_num,by omega,HE9.out.trans HEC.out⟩ | ((repeat apply Exists.intro);exact ⟨⟨i+1,by go_num,by omega,HE9.out.trans HEC.out⟩,rfl⟩)
     case measure=>simp [zam];omega
  ·obtain rfl:i=fs.length:=by omega
   have HEE:=hid ((Hx3.out.trans (HX8.out.trans Hx9.out)).trans hE);clear hE;go_wp2_with fail
   go_ret
   exact ⟨rfl,HEE.out⟩
end Go.Proofs.YtiameffonflhgaaGreatDoor
