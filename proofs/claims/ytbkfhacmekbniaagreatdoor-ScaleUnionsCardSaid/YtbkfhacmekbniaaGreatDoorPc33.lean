/- Walks: scale.Union. Plain: the union of two right scales. No run of the machine lets the count of draws fall: so every contract of a call may say that, too. -/
import Derived.Test.YtbkfhacmekbniaaGreatDoorPc26
import Derived.Test.YtbkfhacmekbniaaGreatDoorPc32
import Derived.Test.YtbkfhacmekbniaaGreatDoorPc27
import Derived.Test.YtbkfhacmekbniaaGreatDoorPc12
import Derived.Calls
set_option maxRecDepth 100000
set_option maxHeartbeats 3200000
namespace Go.Proofs.YtbkfhacmekbniaaGreatDoor
section
open Go.RowKit Go.Lib Go.Shelf
attribute [local go_sem] Oper.semAt_some
theorem zpv {w:World}{B e:Nat}{v:Value}{n:Nat}{xs:List Value}(h:w.ownsRow B e 1 v n xs):∃ a c,v=.slice a n c:=by
 obtain ⟨a,c,e,_⟩:=zmU h;exact ⟨a,c,e⟩
def UB (T:TypeId)(w w':World)(b0 b1 b2:Nat)(x1 y1 x2 y2:Value):Prop:=Ext w w'∧zjy T w' b0 x1 y1∧zjy T w' b1 x2 y2∧∃ x y,zjy T w' b2 x y
theorem UB.ext {T:TypeId}{w w' w2:World}{b0 b1 b2:Nat}{x1 y1 x2 y2:Value}(h:UB T w w' b0 b1 b2 x1 y1 x2 y2)(hx:Ext w' w2):UB T w w2 b0 b1 b2 x1 y1 x2 y2:=by
 obtain ⟨h0,h1,h2,x,y,h3⟩:=h;exact ⟨h0.trans hx,h1.ext hx,h2.ext hx,x,y,h3.ext hx⟩
theorem UB.set {T:TypeId}{w w':World}{b0 b1 b2:Nat}{x1 y1 x2 y2:Value}(h:UB T w w' b0 b1 b2 x1 y1 x2 y2)(hw:w.heap.size≤b2)(n0:b0 ≠ b2)(n1:b1 ≠ b2)(x y:Value):UB T w ((w'.setCell ⟨b2,0,none⟩ x).setCell ⟨b2,1,none⟩ y) b0 b1 b2 x1 y1 x2 y2:=by
 obtain ⟨h0,h1,h2,u,v,h3⟩:=h;exact ⟨(h0.setCell (p:=⟨b2,0,none⟩) hw _).setCell (p:=⟨b2,1,none⟩) hw _,h1.past n0 _ _,h2.past n1 _ _,_,_,h3.put _ _⟩
theorem zpw (w:World)(x y z u a b:Value):UB 36 w (((w.alloc (.cells #[x,y] 36)).alloc (.cells #[z,u] 36)).alloc (.cells #[a,b] 36)) w.heap.size (w.heap.size+1) (w.heap.size+2) x y z u:=by
 have h:=zj5 w x y z u;have h2:=zjy.new 36 ((w.alloc (.cells #[x,y] 36)).alloc (.cells #[z,u] 36)) a b;rw [World.size_alloc,World.size_alloc] at h2;exact ⟨h.2.2.alloc _,h.1.ext ((Ext.refl _).alloc _),h.2.1.ext ((Ext.refl _).alloc _),a,b,h2⟩
theorem zpx (v1 v2:Value)(p q:List Int)(rs ts:List Qw)(w:World)(he:Env w)(h1:ScV w v1 p rs)(h2:ScV w v2 q ts)(g1:Wd p (rs.map Qw.x))(g2:Wd q (ts.map Qw.x))(hpq:p ≠ q) :
  Calls Tryz.prog 29 #[v1,v2] w fun e w'=>e=.returned (.tuple #[.agg #[.slice none 0 0,.slice none 0 0],.int .i64 14])∧Ext w w':=by
 obtain ⟨a1,c1,b1,d1,rfl,h1⟩:=zj1 h1;obtain ⟨a2,c2,b2,d2,rfl,h2⟩:=zj1 h2;have hc1:=fun W (hE:Ext w W)=>zmZ _ _ p q rs ts W (he.ext hE) (h1.ext hE) (h2.ext hE) g1 g2 hpq;have hb:=zpw w (.slice a1 p.length c1) (.slice b1 rs.length d1) (.slice a2 q.length c2) (.slice b2 ts.length d2) (.slice none 0 0) (.slice none 0 0);generalize p.length=n1 at *;generalize q.length=n2 at *;generalize rs.length=n3 at *;generalize ts.length=n4 at *;have Hc1:=Lib.hid hc1;have Hb:=Lib.hid hb;clear hc1 hb h1 h2 g1 g2 he hpq;go_enter Tryz.func29,Tryz.ntmps29
 have q0:=Hb.out.2.1.c0;have q1:=Hb.out.2.1.c1;have r0:=Hb.out.2.2.1.c0;have r1:=Hb.out.2.2.1.c1;go_wp2_with fail
 refine (Hc1.out _ Hb.out.1).mono ?_;rintro e w1 ⟨rfl,hx1⟩;have hU1:=Hb.out.ext hx1;have hU2:=hU1.set (by omega) (by omega) (by omega) (.slice none 0 0) (.slice none 0 0);obtain ⟨u0,u1,hres⟩:=hU1.2.2.2;have k0:=hres.c0;have k1:=hres.c1;have z0:=hres.fz 0;have z1:=hres.fz 1;have hb5:=hres.put (.slice none 0 0) (.slice none 0 0);have Hb5:=Lib.hid hb5;have HU2:=Lib.hid hU2;clear hx1 hU1 hU2 hres hb5;go_wp2_with fail
 have hd0:=Hb5.out.c0;have hd1:=Hb5.out.c1;exact bodyPost_ret (v:=.tuple #[.agg #[.slice none 0 0,.slice none 0 0],.int .i64 14]) (by simp [results,Tryz.results29,go_sem,hd0,hd1]) rfl ⟨rfl,HU2.out.1⟩
theorem zpy (v1 v2:Value)(p q:List Int)(rs ts:List Qw)(w:World)(he:Env w)(h1:ScV w v1 p rs)(h2:ScV w v2 q ts)(g1:Wd p (rs.map Qw.x))(g2:Wd q (ts.map Qw.x))(hpq:p=q)(hL:Le p ((rs++ts).map Qw.x))(hrv:zgm w)(h18:rs.length+ts.length≤18) :
  Calls Tryz.prog 29 #[v1,v2] w fun e w'=>∃ v out,e=.returned (.tuple #[v,.int .i64 0])∧ScO w' w.heap.size v p out∧zn8 p ((rs++ts).map Qw.x) (out.map Qw.x)∧Ext w w':=by
 obtain ⟨a1,c1,b1,d1,rfl,h1⟩:=zj1 h1;obtain ⟨a2,c2,b2,d2,rfl,h2⟩:=zj1 h2;have hc1:=fun W (hE:Ext w W)=>zna _ _ p q rs ts W (he.ext hE) (h1.ext hE) (h2.ext hE) g1 g2 hpq;obtain ⟨m1,x1,hm1,hx1,hy1⟩:=zmY g1;obtain ⟨m2,x2,hm2,_,_⟩:=zmY g2;have hr60:=g1.few;rw [List.length_map] at hr60;have hc3:=fun W (hE:Ext w W)=>zir _ p rs m1 x1 W (h1.ext hE) hm1 (by omega) hx1;obtain ⟨_,_,hev,hs1,hn1⟩:=h1;obtain ⟨_,_,hew,hs2,hn2⟩:=h2;injection hev with hev;injection hew with hew;simp only [Array.mk.injEq,List.cons.injEq,and_true] at hev hew;rw [← hev.1] at hs1;rw [← hew.1] at hs2;rw [← hev.2] at hn1;rw [← hew.2] at hn2;have hz1:=hn1.2 x1 (List.mem_of_getElem? hx1);rw [hy1] at hz1;have hc4:=fun W g (hE:Ext w W)(k0:W.cell? ⟨g,0,none⟩=some _)(k1:W.cell? ⟨g,1,none⟩=some _)=>zmX g (.slice b1 rs.length d1) (.slice b2 ts.length d2) rs ts W k0 k1 (hE.rdM hn1) (hE.rdM hn2) (by omega) (by omega) (by omega) (by omega);have hc5:=fun W u W2 (hE:Ext w W)(hE2:Ext W W2)(hu:W2.ownsRow W.heap.size 32 1 u (rs.length+ts.length) (qwc (rs++ts)))=>zpu (.slice a1 p.length c1) x1.u u p (rs++ts) W2 (he.ext (hE.trans hE2)) ((hE.trans hE2).sl hs1) ((hE.trans hE2).rd hz1) ⟨zai hu,fun r hr=>(hE.trans hE2).rd ((List.mem_append.1 hr).elim (hn1.2 r) (hn2.2 r))⟩ hL (hrv.ext (hE.trans hE2)) (by rw [List.length_append];exact h18);have hb:=zpw w (.slice a1 p.length c1) (.slice b1 rs.length d1) (.slice a2 q.length c2) (.slice b2 ts.length d2) (.slice none 0 0) (.slice none 0 0);generalize x1.u=u1 at *;generalize (rs++ts).map Qw.x=L at *;generalize qwc (rs++ts)=cs at *;clear hz1 hx1 hy1 hn1 hn2 hm1 hm2 hr60 hs1 hs2 hev hew g1 g2 he hpq hL hrv;generalize hnp:p.length=n1 at *;generalize q.length=n2 at *;generalize rs.length=n3 at *;generalize ts.length=n4 at *;have hS:∀ W,UB 36 w W w.heap.size (w.heap.size+1) (w.heap.size+2) (.slice a1 n1 c1) (.slice b1 n3 d1) (.slice a2 n2 c2) (.slice b2 n4 d2)→(UB 36 w W w.heap.size (w.heap.size+1) (w.heap.size+2) (.slice a1 n1 c1) (.slice b1 n3 d1) (.slice a2 n2 c2) (.slice b2 n4 d2)∧W.cell? ⟨w.heap.size,0,none⟩=some (.slice a1 n1 c1)∧W.cell? ⟨w.heap.size,1,none⟩=some (.slice b1 n3 d1)∧W.cell? ⟨w.heap.size+1,0,none⟩=some (.slice a2 n2 c2)∧W.cell? ⟨w.heap.size+1,1,none⟩=some (.slice b2 n4 d2)):=fun W h=>⟨h,h.2.1.c0,h.2.1.c1,h.2.2.1.c0,h.2.2.1.c1⟩;have hSx:∀ W V,(UB 36 w W w.heap.size (w.heap.size+1) (w.heap.size+2) (.slice a1 n1 c1) (.slice b1 n3 d1) (.slice a2 n2 c2) (.slice b2 n4 d2)∧W.cell? ⟨w.heap.size,0,none⟩=some (.slice a1 n1 c1)∧W.cell? ⟨w.heap.size,1,none⟩=some (.slice b1 n3 d1)∧W.cell? ⟨w.heap.size+1,0,none⟩=some (.slice a2 n2 c2)∧W.cell? ⟨w.heap.size+1,1,none⟩=some (.slice b2 n4 d2))→Ext W V→(UB 36 w V w.heap.size (w.heap.size+1) (w.heap.size+2) (.slice a1 n1 c1) (.slice b1 n3 d1) (.slice a2 n2 c2) (.slice b2 n4 d2)∧V.cell? ⟨w.heap.size,0,none⟩=some (.slice a1 n1 c1)∧V.cell? ⟨w.heap.size,1,none⟩=some (.slice b1 n3 d1)∧V.cell? ⟨w.heap.size+1,0,none⟩=some (.slice a2 n2 c2)∧V.cell? ⟨w.heap.size+1,1,none⟩=some (.slice b2 n4 d2)):=fun W V h hx=>hS V (h.1.ext hx);have hSs:∀ W x y,(UB 36 w W w.heap.size (w.heap.size+1) (w.heap.size+2) (.slice a1 n1 c1) (.slice b1 n3 d1) (.slice a2 n2 c2) (.slice b2 n4 d2)∧W.cell? ⟨w.heap.size,0,none⟩=some (.slice a1 n1 c1)∧W.cell? ⟨w.heap.size,1,none⟩=some (.slice b1 n3 d1)∧W.cell? ⟨w.heap.size+1,0,none⟩=some (.slice a2 n2 c2)∧W.cell? ⟨w.heap.size+1,1,none⟩=some (.slice b2 n4 d2))→(UB 36 w ((W.setCell ⟨w.heap.size+2,0,none⟩ x).setCell ⟨w.heap.size+2,1,none⟩ y) w.heap.size (w.heap.size+1) (w.heap.size+2) (.slice a1 n1 c1) (.slice b1 n3 d1) (.slice a2 n2 c2) (.slice b2 n4 d2)∧((W.setCell ⟨w.heap.size+2,0,none⟩ x).setCell ⟨w.heap.size+2,1,none⟩ y).cell? ⟨w.heap.size,0,none⟩=some (.slice a1 n1 c1)∧((W.setCell ⟨w.heap.size+2,0,none⟩ x).setCell ⟨w.heap.size+2,1,none⟩ y).cell? ⟨w.heap.size,1,none⟩=some (.slice b1 n3 d1)∧((W.setCell ⟨w.heap.size+2,0,none⟩ x).setCell ⟨w.heap.size+2,1,none⟩ y).cell? ⟨w.heap.size+1,0,none⟩=some (.slice a2 n2 c2)∧((W.setCell ⟨w.heap.size+2,0,none⟩ x).setCell ⟨w.heap.size+2,1,none⟩ y).cell? ⟨w.heap.size+1,1,none⟩=some (.slice b2 n4 d2)):=fun W x y h=>hS _ (h.1.set (by omega) (by omega) (by omega) x y);have hEx:∀ W,(UB 36 w W w.heap.size (w.heap.size+1) (w.heap.size+2) (.slice a1 n1 c1) (.slice b1 n3 d1) (.slice a2 n2 c2) (.slice b2 n4 d2)∧W.cell? ⟨w.heap.size,0,none⟩=some (.slice a1 n1 c1)∧W.cell? ⟨w.heap.size,1,none⟩=some (.slice b1 n3 d1)∧W.cell? ⟨w.heap.size+1,0,none⟩=some (.slice a2 n2 c2)∧W.cell? ⟨w.heap.size+1,1,none⟩=some (.slice b2 n4 d2))→Ext w W:=fun W h=>h.1.1;have HEx:=Lib.hid hEx;clear hEx;have Hc1:=Lib.hid hc1;have Hc3:=Lib.hid hc3;have Hc4:=Lib.hid hc4;have Hc5:=Lib.hid hc5;have Hb:=Lib.hid hb;have HS:=Lib.hid hS;have HSx:=Lib.hid hSx;have HSs:=Lib.hid hSs;have Hnp:=Lib.hid hnp;clear hc1 hc3 hc4 hc5 hb hS hSx hSs hnp;go_enter Tryz.func29,Tryz.ntmps29
 have q0:=Hb.out.2.1.c0;have q1:=Hb.out.2.1.c1;have r0:=Hb.out.2.2.1.c0;have r1:=Hb.out.2.2.1.c1;go_wp2_with fail
 refine (Hc1.out _ Hb.out.1).mono ?_;rintro e w1 ⟨rfl,hx1⟩;have hS1:=HS.out w1 (Hb.out.ext hx1);have HS1:=Lib.hid hS1;clear hx1 q0 q1 r0 r1 hS1;go_wp2_with fail
 go_region_held3 (fun w'=>(UB 36 w w' w.heap.size (w.heap.size+1) (w.heap.size+2) (.slice a1 n1 c1) (.slice b1 n3 d1) (.slice a2 n2 c2) (.slice b2 n4 d2)∧w'.cell? ⟨w.heap.size,0,none⟩=some (.slice a1 n1 c1)∧w'.cell? ⟨w.heap.size,1,none⟩=some (.slice b1 n3 d1)∧w'.cell? ⟨w.heap.size+1,0,none⟩=some (.slice a2 n2 c2)∧w'.cell? ⟨w.heap.size+1,1,none⟩=some (.slice b2 n4 d2)))
    (first | (with_reducible assumption) | exact HSx.out _ _ HS1.out (Ext.refl w1).drew | exact HSx.out _ _ (by with_reducible assumption) ((Ext.refl _).alloc _) | exact HSs.out _ _ _ (by with_reducible assumption))
    (first
     | (go_at_call 53
        refine (Hc3.out _ (HEx.out _ (by with_reducible assumption))).mono ?_
        rintro e9 VA ⟨rfl,hxa⟩
        have hSA:=HSx.out _ _ (by with_reducible assumption) hxa
        first
          | (have hr:=hxa.heap (World.alloc_heap_new w1.drew (.cells #[.slice b1 n3 d1,.slice b2 n4 d2] 34));have HR:=Lib.hid hr;clear hr)
          | skip
        clear hxa)
     | (go_at_call 32
        first
          | (have hcc:=Hc4.out VA w1.heap.size (HEx.out _ hSA) (zjy.c0 (T:=34) HR.out) (zjy.c1 (T:=34) HR.out)
             have hxw:Ext w VA:=HEx.out _ hSA
             refine hcc.mono ?_)
          | (have hcc:=Hc4.out (VA.alloc (.cells #[.slice b1 n3 d1,.slice b2 n4 d2] 34)) VA.heap.size ((HEx.out _ hSA).alloc _) (zjy.c0 (T:=34) (World.alloc_heap_new VA _)) (zjy.c1 (T:=34) (World.alloc_heap_new VA _))
             have hxw:Ext w (VA.alloc (.cells #[.slice b1 n3 d1,.slice b2 n4 d2] 34)):=((HEx.out _ hSA).alloc _)
             refine hcc.mono ?_)
        rintro e9 VB ⟨u9,rfl,hu,hxb⟩
        have hSB:=HSx.out _ _ (by with_reducible assumption) hxb
        have hco:=Hc5.out _ u9 VB hxw hxb hu
        have HCo:=Lib.hid hco
        have ⟨a9,c9,hu9⟩:∃ a c,u9=.slice a (n3+n4) c:=zpv hu
        subst hu9
        clear hco hcc hxw hu hxb)
     | (go_at_call 40
        refine HCo.out.mono ?_
        rintro e9 VC ⟨v9,out,rfl,ho,hC,hxc⟩
        have hSC:=HSx.out _ _ (by with_reducible assumption) hxc
        obtain ⟨vp2,vn2,rfl,hp2,hn2⟩:=ho
        obtain ⟨a6,c6,rfl⟩:=zfl hp2
        obtain ⟨avn,cvn,rfl⟩:=zfl hn2.1
        obtain ⟨g0,g1,hbr⟩:=hSC.1.2.2.2
        have k0:=hbr.c0;have k1:=hbr.c1;have z0:=hbr.fz 0;have z1:=hbr.fz 1
        have hq4:=(hn2.set hbr 0 (.slice a6 p.length c6)).set (zjy.put0 hbr (.slice a6 p.length c6)) 1 (.slice avn out.length cvn)
        have ho4:=zga (zjy.put0 hbr (.slice a6 p.length c6)) (zga hbr hp2 (by decide) 0 (.slice a6 p.length c6)) (by decide) 1 (.slice avn out.length cvn)
        have hb5:=hbr.put (.slice a6 p.length c6) (.slice avn out.length cvn)
        have hx5:=(hSC.1.set (by omega) (by omega) (by omega) (.slice a6 p.length c6) (.slice avn out.length cvn)).1
        have hlo:=(HEx.out _ hSB).size
        have Hfin:=Lib.hid hb5;have Hq4:=Lib.hid hq4;have Ho4:=Lib.hid ho4;have HC:=Lib.hid hC;have Hx5:=Lib.hid hx5;have Hlo:=Lib.hid hlo
        clear hb5 hq4 ho4 hC hx5 hlo hp2 hn2 hbr hxc))
 all_goals
  go_wp2_with fail
  have hd0:=Hfin.out.c0;have hd1:=Hfin.out.c1;exact bodyPost_ret (v:=.tuple #[.agg #[.slice a6 p.length c6,.slice avn out.length cvn],.int .i64 0]) (by simp [results,Tryz.results29,go_sem,hd0,hd1]) rfl ⟨_,out,rfl,⟨_,_,rfl,zah Ho4.out Hlo.out,Hq4.out.mono Hlo.out Hlo.out⟩,HC.out,Hx5.out⟩
end
section
theorem zpz {p:List Int}{N:List (List Rat)}(h:Wd p N){x:List Rat}(hx:x∈N):∀ r∈x,Ft 5 r:=fun r hr=>by
 obtain ⟨h1,h2⟩:=h.mem_sn2 hx r hr;exact ⟨Dec.nDigits_le (by omega) (by show _<100000;omega),Dec.nDigits_le (by omega) (by show _<100000;omega)⟩
theorem zp0 (n:Nat):∀ r∈zer n,Ft 5 r:=fun r hr=>by
 rw [List.eq_of_mem_replicate hr];exact zhc.mono (by omega)
theorem zp1 {x y:List Rat}(hx:∀ r∈x,Ft 5 r)(hy:∀ r∈y,Ft 5 r):∀ r∈ze2 x y,Ft 30 r:=by
 intro r hr;obtain ⟨i,hi⟩:=List.getElem?_of_mem hr;unfold ze2 at hi;rw [List.getElem?_zipWith] at hi
 cases h1:x[i]? with
 | none=>rw [h1] at hi;simp at hi
 | some a =>
  cases h2:y[i]? with
  | none=>rw [h1,h2] at hi;simp at hi
  | some b =>
   rw [h1,h2] at hi
   simp at hi
   subst hi
   rw [Rat.sub_eq_add_neg]
   exact (zgX (hx a (List.mem_of_getElem? h1)) (hy b (List.mem_of_getElem? h2)).neg).mono (by omega)
theorem zp2 {p:List Int}{N:List (List Rat)}(h:Wd p N):ov (p.length - 1)∈N:=List.mem_of_getElem? h.last
theorem zp3 {p:List Int}{N:List (List Rat)}(h:Wd p N){x:List Rat}(hx:x∈N):x ≠ zer p.length:=by
 rintro rfl;have:=List.rel_of_pairwise_cons h.up hx;exact absurd this (Rat.lt_irrefl)
theorem zp4 {p:List Int}{N:List (List Rat)}(h:Wd p N){x:List Rat}(hx:x∈N):(x=ov (p.length - 1)∧rsN p x=zer p.length)∨(x ≠ ov (p.length - 1)∧rsN p x=x):=by
 obtain ⟨i,hi,e⟩:=List.mem_iff_getElem.1 hx;have e2:zat p N (i+1)=x:=by unfold zat;rw [List.getElem?_cons_succ,List.getElem?_eq_getElem hi,e];rfl
 have hz:=h.nt_low (i:=i+1) (by omega);rw [e2] at hz;obtain ⟨a,tl,ea,hp,hf⟩:=h.nt_floor ((i+1:Nat):Int);have hr:=h.nt_rest ((i+1:Nat):Int);have hl:p.length - 1=tl.length:=by have:=(ziM hp).1;omega
 have hrs:rsN p x=zat p N (((i+1:Nat):Int) % (N.length:Int)).toNat:=by
  rw [← hr,ea,← hf,hl,zpr];unfold rsN;rw [← hz,ea]
 rw [hrs];rcases Nat.lt_or_ge (i+1) N.length with g | g
 ·right;have hm:((i+1:Nat):Int) % (N.length:Int)=((i+1:Nat):Int):=Int.emod_eq_of_lt (by omega) (by omega);rw [hm];refine ⟨fun eo=>?_,by rw [Int.toNat_natCast];exact e2⟩;have:=h.zlt (i:=i+1) (j:=N.length) g (Nat.le_refl _);rw [h.zlast,e2,eo] at this;exact Rat.lt_irrefl this
 ·left;have hil:i+1=N.length:=by omega
  rw [hil,Int.emod_self];refine ⟨?_,rfl⟩;rw [← e2,hil,h.zlast]
section
variable {p : List Int} {N M : List (List Rat)} (hN : Wd p N) (hM : Wd p M)
include hN hM
theorem zp5 {x:List Rat}(hx:PlN p (N++M) x):∀ r∈x,Ft 5 r:=by
 have hz:∀ {K:List (List Rat)},Wd p K→∀ z∈K,∀ r∈rsN p z,Ft 5 r:=fun hK z hz=>by
  rcases zp4 hK hz with ⟨_,e⟩ | ⟨_,e⟩
  ·rw [e];exact zp0 _
  ·rw [e];exact zpz hK hz
 rcases hx with rfl | rfl | ⟨z,hzm,rfl⟩
 ·exact zp0 _
 ·exact zpz hN (zp2 hN)
 ·rcases List.mem_append.1 hzm with g | g
  ·exact hz hN z g
  ·exact hz hM z g
theorem zp6 : Le p (N++M) :=
 ⟨hN.pr,fun x hx=>(List.mem_append.1 hx).elim (hN.len x) (hM.len x),fun x hx q hq=>((List.mem_append.1 hx).elim (fun g=>zpz hN g q hq) (fun g=>zpz hM g q hq)).mono (by omega),fun x hx q hq=>(zp5 hN hM (.inr (.inr ⟨x,hx,rfl⟩)) q hq).mono (by omega),fun x y hx hy=>zp1 (zp5 hN hM hx) (zp5 hN hM hy)⟩
theorem zp7 {U:List (List Rat)}(hU:zn8 p (N++M) U)(x:List Rat):x∈U ↔ x∈N∨x∈M:=by
 rw [hU.2];constructor
 ·rintro (rfl | ⟨hx,y,hy,rfl⟩)
  ·exact .inl (zp2 hN)
  ·rcases List.mem_append.1 hy with g | g
   ·rcases zp4 hN g with ⟨_,e⟩ | ⟨_,e⟩
    ·exact absurd e hx
    ·rw [e];exact .inl g
   ·rcases zp4 hM g with ⟨_,e⟩ | ⟨_,e⟩
    ·exact absurd e hx
    ·rw [e];exact .inr g
 ·rintro (g | g)
  ·rcases zp4 hN g with ⟨e,_⟩ | ⟨_,e⟩
   ·exact .inl e
   ·exact .inr ⟨zp3 hN g,x,List.mem_append_left _ g,e.symm⟩
  ·rcases zp4 hM g with ⟨e,_⟩ | ⟨_,e⟩
   ·exact .inl e
   ·exact .inr ⟨zp3 hM g,x,List.mem_append_right _ g,e.symm⟩
theorem zp8 {U:List (List Rat)}(hU:zn8 p (N++M) U):U.length=M.length ↔ ∀ x∈N,x∈M:=by
 have hm:=zp7 hN hM hU;have nU:U.Nodup:=hU.1.imp fun h e=>by rw [e] at h;exact Rat.lt_irrefl h
 have nM:M.Nodup:=(List.pairwise_cons.1 hM.up).2.imp fun h e=>by rw [e] at h;exact Rat.lt_irrefl h
 have h1:M.length≤U.length:=zjb nM fun x hx=>(hm x).2 (.inr hx);constructor
 ·intro e x hx;apply Classical.byContradiction;intro hn;have hc:(x::M).Nodup:=List.nodup_cons.2 ⟨hn,nM⟩;have:=zjb hc (fun y hy=>(hm y).2 ((List.mem_cons.1 hy).elim (fun e=>.inl (e ▸ hx)) .inr));rw [List.length_cons] at this;omega
 ·intro h;have:=zjb nU (M:=M) fun x hx=>((hm x).1 hx).elim (h x) id;omega
end
theorem zp9 {rs ts:List Qw}:inB rs ts=true ↔ ∀ x∈rs.map Qw.x,x∈ts.map Qw.x:=by
 unfold inB;simp;exact ⟨fun h r hr=>(h r hr).elim fun s g=>⟨s,g.1,g.2.symm⟩,fun h r hr=>(h r hr).elim fun s g=>⟨s,g.1,g.2.symm⟩⟩
end
section
open Go
def rdr {α:Type}:Result α→Nat
 | .ok _ w=>w.drawn
 | .halt _ w=>w.drawn
theorem zpA {α:Type}(a:Ask α):∀ w:World,w.drawn≤(w.ask a).2.drawn:=by
 induction a with
 | done a=>intro w;exact Nat.le_refl _
 | ask what range k ih =>
  intro w
  unfold World.ask
  dsimp only
  split
  ·exact ih _ w
  ·exact Nat.le_trans (Nat.le_succ _) (ih _ { w with drawn:=w.drawn+1 })
theorem zpB (c:Sys)(w:World):w.drawn≤(w.sys c).2.drawn:=by
 have h:=zpA (Kernel.perform c w.os) w;unfold World.sys;generalize w.ask (Kernel.perform c w.os)=r at h;split
 ·exact Nat.le_refl _
 ·exact h
theorem zpC {p:Program}{w w':World}{t:Addr}{u:TypeId}{k:Addr}{v:Value}{b:Bool}{l:List Addr}(h:w.viewStore p t u k v b=.ok (w',l)):w'.drawn=w.drawn:=by
 unfold World.viewStore at h;simp only [bind,Except.bind,pure,Except.pure] at h;repeat' split at h
 all_goals
  cases h
  try rfl
theorem zpD {p:Program}{w w':World}{a:Addr}{v:Value}{b:Bool}{l:List Addr}(h:w.farStore p a v b=.ok (w',l)):w'.drawn=w.drawn:=by
 unfold World.farStore at h;split at h
 ·split at h
  ·rename_i hv;injection h with h;rw [h] at hv;exact zpC hv
  ·cases h
 ·cases h
theorem zpE {α:Type}(p:Program)(s:Sem α):∀ w:World,w.drawn≤rdr (s.run p w):=by
 induction s with
 | pure a=>intro w;exact Nat.le_refl _
 | load m a k ih =>
  intro w
  unfold Sem.run
  split
  ·exact ih _ w
  ·split
   ·exact ih _ w
   ·exact Nat.le_refl _
 | store m a v k ih =>
  intro w
  cases v
  case agg=>exact Nat.le_refl _
  case tuple=>exact Nat.le_refl _
  all_goals
   simp only [Sem.run]
   split
   ·split
    ·exact Nat.le_refl _
    ·exact ih (w.setCell a _)
   ·split
    ·rename_i hf
     rw [← zpD hf]
     exact ih _
    ·exact Nat.le_refl _
 | new o k ih=>intro w;unfold Sem.run;exact ih _ { w with heap:=w.heap.push o }
 | shape r k ih=>intro w;unfold Sem.run;exact ih _ w
 | freeze a n k ih =>
  intro w
  unfold Sem.run
  have h:=ih (w.freeze a n)
  have e:(w.freeze a n).drawn=w.drawn:=by unfold World.freeze;split <;> rfl
  rw [e] at h
  exact h
 | frozen a k ih=>intro w;unfold Sem.run;exact ih _ w
 | getObj r k ih =>
  intro w
  unfold Sem.run
  split
  ·exact Nat.le_refl _
  ·exact ih _ w
  ·exact Nat.le_refl _
 | setObj r o k ih =>
  intro w
  unfold Sem.run
  split
  ·exact Nat.le_refl _
  ·exact ih { w with heap:=w.heap.setIfInBounds r o }
  ·exact Nat.le_refl _
 | choose q k ih =>
  intro w
  unfold Sem.run
  split
  ·exact ih _ w
  ·exact Nat.le_trans (Nat.le_succ _) (ih _ { w with drawn:=w.drawn+1 })
 | sys c k ih=>intro w;unfold Sem.run;exact Nat.le_trans (zpB c w) (ih _ _)
 | program k ih=>intro w;unfold Sem.run;exact ih _ w
 | mark m k ih=>intro w;unfold Sem.run;exact ih w
 | halt h=>intro w;exact Nat.le_refl _
theorem zpF {α:Type}(p:Program)(s:Sem α):∀ (w:World)(es:Array Event),w.drawn≤rdr (s.runT p w es).1:=by
 induction s with
 | pure a=>intro w es;exact Nat.le_refl _
 | load m a k ih =>
  intro w es
  unfold Sem.runT
  split
  ·exact ih _ w _
  ·split
   ·exact ih _ w _
   ·exact Nat.le_refl _
 | store m a v k ih =>
  intro w es
  cases v
  case agg=>exact Nat.le_refl _
  case tuple=>exact Nat.le_refl _
  all_goals
   simp only [Sem.runT]
   split
   ·split
    ·exact Nat.le_refl _
    ·exact ih (w.setCell a _) _
   ·split
    ·rename_i hf
     rw [← zpD hf]
     exact ih _ _
    ·exact Nat.le_refl _
 | new o k ih=>intro w es;unfold Sem.runT;exact ih _ { w with heap:=w.heap.push o } _
 | shape r k ih=>intro w es;unfold Sem.runT;exact ih _ w _
 | freeze a n k ih =>
  intro w es
  unfold Sem.runT
  have h:=ih (w.freeze a n) es
  have e:(w.freeze a n).drawn=w.drawn:=by unfold World.freeze;split <;> rfl
  rw [e] at h
  exact h
 | frozen a k ih=>intro w es;unfold Sem.runT;exact ih _ w _
 | getObj r k ih =>
  intro w es
  unfold Sem.runT
  split
  ·exact Nat.le_refl _
  ·exact ih _ w _
  ·exact Nat.le_refl _
 | setObj r o k ih =>
  intro w es
  unfold Sem.runT
  split
  ·exact Nat.le_refl _
  ·exact ih { w with heap:=w.heap.setIfInBounds r o } _
  ·exact Nat.le_refl _
 | choose q k ih =>
  intro w es
  unfold Sem.runT
  split
  ·exact ih _ w _
  ·exact Nat.le_trans (Nat.le_succ _) (ih _ { w with drawn:=w.drawn+1 } _)
 | sys c k ih=>intro w es;unfold Sem.runT;exact Nat.le_trans (zpB c w) (ih _ _ _)
 | program k ih=>intro w es;unfold Sem.runT;exact ih _ w _
 | mark m k ih=>intro w es;unfold Sem.runT;exact ih w _
 | halt h=>intro w es;exact Nat.le_refl _
theorem zpG {α:Type}{p:Program}{s:Sem α}{w w':World}{v:α}(h:s.run p w=.ok v w'):w.drawn≤w'.drawn:=by
 have:=zpE p s w;rw [h] at this;exact this
theorem zpH {α:Type}{p:Program}{s:Sem α}{w w':World}{e:Halt}(h:s.run p w=.halt e w'):w.drawn≤w'.drawn:=by
 have:=zpE p s w;rw [h] at this;exact this
theorem zpI {α:Type}{p:Program}{s:Sem α}{w w':World}{v:α}{es es':Array Event}(h:s.runT p w es=(.ok v w',es')):w.drawn≤w'.drawn:=by
 have:=zpF p s w es;rw [h] at this;exact this
theorem zpJ {α:Type}{p:Program}{s:Sem α}{w w':World}{e:Halt}{es es':Array Event}(h:s.runT p w es=(.halt e w',es')):w.drawn≤w'.drawn:=by
 have:=zpF p s w es;rw [h] at this;exact this
def gdr : GStep→Nat
 | .go _ w _=>w.drawn
 | .comm _ _ _ _ w _=>w.drawn
 | .spawn _ _ w _=>w.drawn
 | .count _ w _=>w.drawn
 | .timer _ _ w _=>w.drawn
 | .alone _ _ w _=>w.drawn
 | .newcoro _ _ _ w _=>w.drawn
 | .coroswitch _ _ _ w _=>w.drawn
 | .collect _ w _=>w.drawn
 | .watch _ w _=>w.drawn
 | .ended _ w _=>w.drawn
theorem zpK (es:Array Event)(s:GStep):gdr (GStep.after es s)=gdr s:=by cases s <;> rfl
theorem zpL (w:World)(fd:Nat)(text:ByteArray)(o:Outcome):w.drawn≤gdr (endWith w fd text o):=by
 have h:=zpB (.write fd text) w;unfold endWith;dsimp only;generalize w.sys (.write fd text)=r at h;obtain ⟨x,w1⟩:=r;dsimp only at h ⊢;split
 ·rename_i heq;injection heq with _ e;subst e;split <;> exact h
 ·rename_i heq;injection heq with _ e;subst e;exact h
 ·rename_i heq;injection heq with _ e;subst e;exact h
theorem zpM (p:Program)(fr:Frame)(cs:List Frame)(d:Option Dying)(m:String)(w:World):w.drawn≤gdr (endFatal p fr cs d m w):=by
 unfold endFatal;dsimp only;split
 ·exact zpG (by assumption)
 ·exact zpH (by assumption)
 ·exact zpH (by assumption)
theorem zpN (p:Program)(main:Bool)(fr:Frame)(cs:List Frame)(d:Option Dying)(v:Value)(w:World):w.drawn≤gdr (doReturn p main fr cs d v w):=by
 unfold doReturn;repeat' split
 all_goals exact Nat.le_refl _
theorem zpO (p:Program)(fr:Frame)(cs:List Frame)(dy:Option Dying)(d:Deferred)(w:World):w.drawn≤gdr (callDeferred p fr cs dy d w):=by
 have hif:∀ (c:Prop)[Decidable c](a b:GStep),w.drawn≤gdr a→w.drawn≤gdr b→w.drawn≤gdr (if c then a else b):=fun c _ a b h1 h2=>by split <;> assumption
 unfold callDeferred;refine hif _ _ _ (Nat.le_refl _) ?_
 ·clear hif;dsimp only;have h:=zpF p (invoke d.target d.args) w #[];generalize (invoke d.target d.args).runT p w #[]=r at h ⊢;obtain ⟨r,es⟩:=r;dsimp only at h ⊢;rw [zpK];repeat' split
  all_goals first | exact h | exact Nat.le_trans h (zpM ..)
theorem zpP (p:Program)(fr:Frame)(v:Value)(w:World):w.drawn≤gdr (endPrinting p fr v w):=by
 unfold endPrinting;dsimp only;split
 ·exact Nat.le_refl _
 ·exact Nat.le_refl _
theorem zpQ (p:Program)(main:Bool)(fr:Frame)(cs:List Frame)(dy:Option Dying)(w:World):w.drawn≤gdr (unwind p main fr cs dy w):=by
 unfold unwind;split
 ·rename_i block _ ds _;have h:=zpF p (Instr.takeDeferred block) w #[];dsimp only;generalize (Instr.takeDeferred block).runT p w #[]=r at h ⊢;obtain ⟨r,es⟩:=r;dsimp only at h ⊢;rw [zpK]
  cases r <;> exact h
 ·exact zpO ..
 ·split
  ·exact Nat.le_refl _
  ·split
   ·exact Nat.le_refl _
   ·split
    ·exact Nat.le_refl _
    ·split
     ·split
      ·exact Nat.le_refl _
      ·rename_i chain _ _ _ _ _;have h:=zpE p (reportChain chain false) w;generalize (reportChain chain false).run p w=r at h ⊢;repeat' split
       all_goals exact h
     ·split
      ·exact zpP ..
      ·exact Nat.le_refl _
  ·split
   ·exact zpN ..
   ·rename_i fn _;have h:=zpF p (results fn fr.tmps) w #[];dsimp only;generalize (results fn fr.tmps).runT p w #[]=r at h ⊢;obtain ⟨r,es⟩:=r;dsimp only at h ⊢;rw [zpK];repeat' split
    ·exact Nat.le_trans h (zpN ..)
    ·exact h
    ·exact h
theorem zpR (p:Program)(fr:Frame)(d:Dying)(f:Fatal)(w:World):w.drawn≤gdr (writeOn p fr d f w):=by
 unfold writeOn;dsimp only;split
 ·exact Nat.le_refl _
 ·split
  ·exact zpI (by assumption)
  ·exact zpJ (by assumption)
  ·exact zpJ (by assumption)
  ·exact zpJ (by assumption)
theorem zpS (p:Program)(fr:Frame)(d:Dying)(w:World):w.drawn≤gdr (die p fr d w):=by
 unfold die;split
 ·exact zpR ..
 ·split
  ·split
   ·exact Nat.le_refl _
   ·exact zpL ..
  ·dsimp only;split
   ·exact Nat.le_refl _
   ·split
    ·exact zpG (by assumption)
    ·exact zpH (by assumption)
   ·rename_i t recv name _;have h:=zpF p (invoke (.fn (.method name) #[]) #[.iface t recv]) w #[];generalize (invoke (.fn (.method name) #[]) #[.iface t recv]).runT p w #[]=r at h ⊢;obtain ⟨r,es⟩:=r;dsimp only at h ⊢;rw [zpK];repeat' split
    all_goals first | exact h | exact Nat.le_trans h (zpP ..) | exact Nat.le_refl _
   ·exact Nat.le_refl _
theorem zpT (p:Program)(fr:Frame)(cs:List Frame)(dy:Option Dying)(g:Nat)(w:World):w.drawn≤gdr (early p fr cs dy g w):=by
 have hn:∀ w1:World,w.drawn≤w1.drawn→w.drawn≤gdr (match w1.heap[g]? with
  | some (.pending c elem)=>GStep.go { frame:=fr,callers:=cs,status:=.running,dying:=dy } { w1 with heap:=w1.heap.setIfInBounds g (.cells c elem) }
  | _ => .ended (.stuck "early: the variable does not wait" (fr.pos p)) w1) := fun w1 h => by
  split <;> exact h
 unfold early;dsimp only;repeat' split
 all_goals first
  | exact Nat.le_refl _
  | exact hn _ (Nat.le_refl _)
  | (have h3:=zpG ‹Sem.run p (choose (Question.early g)) w=Result.ok _ _›
     exact h3)
  | (have h3:=zpH ‹Sem.run p (choose (Question.early g)) w=Result.halt _ _›
     exact h3)
theorem zpU (p:Program)(listen:Bool)(fr:Frame)(cs:List Frame)(dy:Option Dying)(s:Sem Next)(w:World):w.drawn≤gdr (stepG.apply p listen fr cs dy s w):=by
 unfold stepG.apply;have h1:=zpE p s w;have h2:=zpF p s w #[];have h:w.drawn≤rdr (if listen then s.runT p w #[] else (s.run p w,#[])).1:=by split <;> assumption
 dsimp only;generalize (if listen then s.runT p w #[] else (s.run p w,#[]))=r at h ⊢;obtain ⟨r,es⟩:=r;dsimp only at h ⊢;rw [zpK];clear h1 h2
 cases r with
 | ok n w1 =>
  have h:w.drawn≤w1.drawn:=h
  cases n <;> ((try dsimp only);repeat' split) <;> exact h
 | halt e w1 =>
  have h:w.drawn≤w1.drawn:=h
  cases e
  case unsupported u=>cases u <;> first | exact h | exact Nat.le_trans h (zpT ..)
  all_goals first | exact h | exact Nat.le_trans h (zpM ..)
theorem zpV (p:Program)(listen:Bool)(fr:Frame)(cs:List Frame)(dy:Option Dying)(w:World):w.drawn≤gdr (stepG.oper p listen fr cs dy w):=by
 unfold stepG.oper;repeat' split
 all_goals first | exact Nat.le_refl _ | exact zpU ..
theorem zpW {α:Type}(o:Option α)(a:GStep)(f:α→GStep)(d:Nat)(h1:d≤gdr a)(h2:∀ x,d≤gdr (f x)):d≤gdr (o.elim a f):=by
 cases o
 ·exact h1
 ·exact h2 _
theorem zpX (p:Program)(main:Bool)(listen:Bool)(fr:Frame)(cs:List Frame)(dy:Option Dying)(w:World):w.drawn≤gdr (stepG.exec p main listen fr cs dy w):=by
 have hl:∀ jump:Option Code,w.drawn≤gdr (match fr.roundOf with
  | none => if jump matches none | some .ret then GStep.go { frame := { fr with mode := .returning }, callers := cs, status := .running, dying := dy } w else .ended (.stuck "exit, goto: no such block or label" (fr.pos p)) w
  | some l =>
   match (Instr.endRound l jump).runT p w #[] with
   | (r,es)=>GStep.after (seen p fr.fn es) (match r with
     | .ok v w=>doReturn p main fr cs dy v w
     | .halt _ w => .ended (.stuck "range over a function: no such loop" (fr.pos p)) w)) := fun jump => by
  split
  ·split <;> exact Nat.le_refl _
  ·rename_i l _
   have h:=zpF p (Instr.endRound l jump) w #[]
   generalize (Instr.endRound l jump).runT p w #[]=r at h ⊢
   obtain ⟨r,es⟩:=r
   dsimp only at h ⊢
   rw [zpK]
   cases r
   ·exact Nat.le_trans h (zpN ..)
   ·exact h
 unfold stepG.exec;dsimp only;split
 ·exact hl none
 ·exact hl (some .ret)
 ·exact Nat.le_refl _
 ·exact Nat.le_refl _
 ·exact Nat.le_refl _
 ·exact Nat.le_refl _
 ·exact Nat.le_refl _
 ·split <;> exact Nat.le_refl _
 ·exact Nat.le_refl _
 ·exact Nat.le_refl _
 ·exact Nat.le_refl _
 ·exact Nat.le_refl _
 ·exact zpW _ _ _ _ (hl (some (.exit _))) fun _=>Nat.le_refl _
 ·exact zpW _ _ _ _ (hl (some (.goto _))) fun _=>Nat.le_refl _
 ·rename_i f params assign body k _;have h:=zpF p (Instr.enterLoop fr.fn fr.tmps params assign body fr.roundOf) w #[];generalize (Instr.enterLoop fr.fn fr.tmps params assign body fr.roundOf).runT p w #[]=r at h ⊢;obtain ⟨r,es⟩:=r;dsimp only at h ⊢;rw [zpK];split
  ·exact Nat.le_trans h (zpU ..)
  ·exact h
 ·exact Nat.le_refl _
 ·exact zpU ..
 ·rename_i l k _;have h:=zpF p (Instr.endLoop l) w #[];generalize (Instr.endLoop l).runT p w #[]=r at h ⊢;obtain ⟨r,es⟩:=r;dsimp only at h ⊢;rw [zpK];split <;> exact h
 ·exact Nat.le_refl _
 ·exact zpU ..
 ·exact zpW _ _ _ _ (Nat.le_refl _) fun _=>zpU ..
 ·rename_i id ops draw k _;split
  ·exact Nat.le_refl _
  ·have h:=zpE p (choose (.order fr.fn id)) w;generalize (choose (.order fr.fn id)).run p w=r at h ⊢;split <;> exact h
 ·exact Nat.le_refl _
 ·split
  ·exact zpV ..
  ·exact Nat.le_refl _
theorem zpY (p:Program)(main:Bool)(g:Goroutine)(w:World)(listen:Bool):w.drawn≤gdr (stepG p main g w listen):=by
 unfold stepG;dsimp only;split
 ·exact zpS ..
 ·exact zpX ..
 ·exact zpQ ..
def sle (d:Nat):Stepped→Prop
 | .next m=>d≤m.world.drawn
 | .ended _ _=>True
theorem sle.mono {d e:Nat}{s:Stepped}(h:d≤e)(k:sle e s):sle d s:=by
 cases s
 ·exact Nat.le_trans h k
 ·trivial
theorem zpZ (p:Program)(gs:Array Goroutine)(rest:Rest)(w:World):sle w.drawn (look p gs rest w):=by
 unfold look;split
 ·dsimp only;split
  ·trivial
  ·split
   ·trivial
   ·split
    ·rename_i h;have h3:=zpG h;exact h3
    ·trivial
    ·trivial
 ·trivial
theorem zqa (p:Program)(rest:Rest)(gs:Array Goroutine)(i:Nat)(g:Goroutine)(cases_:Array CommCase)(blocking:Bool)(shape:CommShape)(w:World):sle w.drawn (communicate p rest gs i g cases_ blocking shape w).1:=by
 unfold communicate;dsimp only;split
 ·trivial
 ·split
  ·split
   ·split
    ·rename_i w1 h;have e:w1.drawn=w.drawn:=by
      unfold waitingAt at h;split at h
      ·split at h
       ·injection h with h;rw [← h]
       ·cases h
      ·injection h with h;rw [← h]
     exact Nat.le_of_eq e.symm
    ·trivial
   ·exact Nat.le_refl _
  ·split
   ·trivial
   ·rename_i h;have h3:=zpG h;split
    ·split
     ·rename_i h5;have h6:=zpH h5;exact Nat.le_trans h3 h6
     ·trivial
    ·exact h3
    ·exact h3
    ·split
     ·exact h3
     ·split
      ·rename_i h4;have h6:=zpG h4;exact Nat.le_trans h3 h6
      ·trivial
    ·exact h3
    ·exact h3
    ·trivial
theorem zqb (m:Machine)(k:Nat)(t:Timer)(a b:Nat):(retime m k t a b).2.world.drawn=m.world.drawn:=by
 unfold retime;dsimp only;split
 ·unfold drain;split <;> rfl
 ·rfl
theorem zqc {m m':Machine}{op:TimerOp}{v:Value}(h:timerOp m op=.ok (v,m')):m'.world.drawn=m.world.drawn:=by
 have hn:∀ (m1:Machine)(var:Addr)(f:Nat→Timer→Value × Machine),(∀ k t,(f k t).2.world.drawn=m1.world.drawn)→∀ r,timerOp.named m1 var f=.ok r→r.2.world.drawn=m1.world.drawn:=fun m1 var f hf r h=>by
  unfold timerOp.named at h;split at h
  ·injection h with h;rw [← h];exact hf _ _
  ·cases h
 unfold timerOp at h;split at h
 ·split at h
  ·injection h with h;injection h with _ h;rw [← h];rfl
  ·split at h
   ·split at h
    ·cases h
    ·injection h with h;injection h with _ h;rw [← h]
   ·cases h
 ·exact hn _ _ _ (fun _ _=>zqb ..) _ h
 ·split at h
  ·rename_i m1 ho;have e:m1.world.drawn=m.world.drawn:=by
    unfold timerOp.opened at ho;split at ho
    ·split at ho
     ·injection ho with ho;rw [← ho]
     ·cases ho
    ·injection ho with ho;rw [← ho]
   have h2:=hn m _ _ (fun _ _=>(zqb ..).trans e) _ h;exact h2
  ·cases h
 ·injection h with h;injection h with _ h;rw [← h];rfl
theorem zqd (p:Program)(m:Machine)(i:Nat)(listen:Bool):sle m.world.drawn (runT p m i listen).1:=by
 unfold runT;dsimp only;have h:=zpY p (i == 0) (m.gs.swapAt! i { (default:Goroutine) with status:=.finished }).1 m.world listen;generalize stepG p (i == 0) (m.gs.swapAt! i { (default:Goroutine) with status:=.finished }).1 m.world listen=s at h ⊢
 cases s
 case ended=>trivial
 case comm=>exact sle.mono h (zqa ..)
 case go=>exact h
 case spawn=>exact h
 case count =>
  dsimp only;split
  ·trivial
  ·exact h
 case alone=>exact h
 case collect=>exact sle.mono h (zpZ ..)
 case watch=>exact h
 case newcoro=>exact h
 case coroswitch =>
  dsimp only;split
  ·exact h
  ·exact h
  ·trivial
 case timer =>
  dsimp only;split
  ·rename_i ho;have:=zqc ho;exact Nat.le_trans h (Nat.le_of_eq this.symm)
  ·exact h
  ·trivial
  ·trivial
def mle (d:Nat):Move→Prop
 | .goroutine m _=>d≤m.world.drawn
 | .machine s _=>sle d s
theorem zqe (p:Program)(m:Machine)(k:Nat):sle m.world.drawn (serve p m k):=by
 unfold serve;split
 ·trivial
 ·exact Nat.le_refl _
 ·dsimp only;split
  ·trivial
  ·exact Nat.le_refl _
theorem zqf (p:Program)(m:Machine):mle m.world.drawn (askOn p m):=by
 have hp:∀ m1:Machine,m.world.drawn≤m1.world.drawn→mle m.world.drawn (match (choose (.sched (runnable m.gs m.world.os.mono).length)).run p m1.world with
   | .halt _ w => .machine (.ended (.stuck "sched" "") w)
   | .ok k world =>
    if (runnable m.gs m.world.os.mono).length≤1 then .goroutine { m1 with world } ((runnable m.gs m.world.os.mono).getD k 0) else
    match (choose (.extern "sched.slice" 65536)).run p world with
    | .halt _ w => .machine (.ended (.stuck "sched.slice" "") w)
    | .ok n world=>.goroutine { m1 with world,rest:={ m1.rest with slice:=if n=0 then none else some ((runnable m.gs m.world.os.mono).getD k 0,n) } } ((runnable m.gs m.world.os.mono).getD k 0)):=fun m1 h=>by
  split
  ·trivial
  ·rename_i heq;have h1:=zpG heq;split
   ·exact Nat.le_trans h h1
   ·split
    ·trivial
    ·rename_i heq2;have h2:=zpG heq2;exact Nat.le_trans h (Nat.le_trans h1 h2)
 unfold askOn;dsimp only
 have h1 := zpE p (if (due m.rest.timers m.world.os.mono).isEmpty then pure 0 else choose (.extern "timer.serve" ((due m.rest.timers m.world.os.mono).length + (if (runnable m.gs m.world.os.mono).isEmpty && (ahead m false).isNone then 0 else 1))) : Sem Nat) m.world
 split
 ·trivial
 ·rename_i k w1 heq;rw [heq] at h1;have h1:m.world.drawn≤w1.drawn:=h1;split
  ·exact sle.mono h1 (zqe ..)
  ·split
   ·split
    ·exact h1
    ·split
     ·exact h1
     ·split <;> trivial
   ·split
    ·exact hp { m with world:=w1 } h1
    ·split
     ·trivial
     ·rename_i w2 heq2;have h3:=zpG heq2;exact hp { m with world:=w2 } (Nat.le_trans h1 h3)
     ·rename_i w2 heq2;have h3:=zpG heq2;exact Nat.le_trans h1 h3
     ·rename_i k2 w2 heq2;have h3:=zpG heq2;exact hp (Machine.advanceTo { m with world:=w2 } _) (Nat.le_trans h1 h3)
theorem zqg (p:Program)(m:Machine):mle m.world.drawn (ask p m):=by
 unfold ask;split
 ·have h := zpE p (choose (.extern "collector.look" 2)) m.world
  split
  ·trivial
  ·rename_i w1 heq;rw [heq] at h;have h4:=zpZ p m.gs m.rest w1;split
   ·rename_i m2 heq2;rw [heq2] at h4;have h5:=zqf p m2;revert h5;generalize askOn p m2=s;intro h5
    cases s
    ·exact Nat.le_trans h (Nat.le_trans h4 h5)
    ·exact sle.mono (Nat.le_trans h h4) h5
   ·exact sle.mono h h4
  ·rename_i w1 _ heq;rw [heq] at h;have h5:=zqf p { m with world:=w1 };revert h5;generalize askOn p { m with world:=w1 }=s;intro h5
   cases s
   ·exact Nat.le_trans h h5
   ·exact sle.mono h h5
 ·exact zqf p m
theorem zqh (p:Program)(m:Machine):mle m.world.drawn (move p m):=by
 unfold move;split
 ·split
  ·exact Nat.le_refl _
  ·trivial
 ·split
  ·split
   ·exact Nat.le_refl _
   ·exact zqg p { m with rest:={ m.rest with slice:=none } }
  ·exact zqg p m
theorem zqi (p:Program)(m:Machine):sle m.world.drawn (step p m):=by
 unfold step stepT;have h:=zqh p m;split
 ·rename_i m1 i heq;rw [heq] at h;exact sle.mono h (zqd ..)
 ·rename_i s _ heq;rw [heq] at h;exact h
theorem zqj {p:Program}{m m':Machine}(h:Steps p m m'):m.world.drawn≤m'.world.drawn:=by
 obtain ⟨n,hn⟩:=h;induction n generalizing m with
 | zero=>injection hn with hn;rw [hn];exact Nat.le_refl _
 | succ n ih =>
  have h:=zqi p m
  unfold runN at hn
  cases hs:step p m with
  | next m1 =>
   rw [hs] at hn h
   exact Nat.le_trans h (ih hn)
  | ended o w=>rw [hs] at hn;cases hn
theorem Calls.drawn {P:Program}{f:FuncId}{args:Array Value}{w:World}{R:Ending→World→Prop}(h:Calls P f args w R) :
  Calls P f args w fun e w'=>R e w'∧((∃ v,e=.returned v)→w.drawn≤w'.drawn):=by
 intro cs;obtain ⟨e,w',fr,hr,hc,hf,hl⟩:=h cs;refine ⟨e,w',fr,⟨hr,?_⟩,hc,hf,hl⟩;rintro ⟨v,rfl⟩;exact zqj hc
end
end Go.Proofs.YtbkfhacmekbniaaGreatDoor
