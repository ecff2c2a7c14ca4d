/- Walk: law 31's Major. Walk: scale.Note of a right scale. Walk: scale.Steps of a right scale. Plain: the major scale is the collection of seven fifths; what reduces there. Walk: law 31's known. -/
import Derived.Test.YtebabancfnmfjaaGreatDoorPm21
import Derived.Test.YtebabancfnmfjaaGreatDoorPm17
import Derived.Test.YtebabancfnmfjaaGreatDoorPm18
import Derived.Test.YtebabancfnmfjaaGreatDoorPm19
import Derived.Test.YtebabancfnmfjaaGreatDoorPm15
set_option maxRecDepth 100000
set_option maxHeartbeats 4000000
namespace Go.Proofs.YtebabancfnmfjaaGreatDoor
section
open Go.RowKit Go.Lib Go.Shelf
attribute [local go_sem] Oper.semAt_some
theorem zkl {W:World}{g off n cp:Nat}{us:List Value}{c:Nat}(h:Sl W (.slice (some ⟨g,off,none⟩) n cp) us)(hne:g ≠ c)(k:Nat)(x:Value):Sl (W.setCell ⟨c,k,none⟩ x) (.slice (some ⟨g,off,none⟩) n cp) us:=by
 rcases h with ⟨a,cap,e,hm,h0⟩ | ⟨b,off',cap,e,h1,h2,hc⟩
 ·exact .inl ⟨a,cap,e,hm,h0⟩
 ·refine .inr ⟨b,off',cap,e,h1,h2,fun i q hq=>?_⟩;injection e with e1 _ _;injection e1 with e1;injection e1 with e1 e2;subst e1;subst e2;rw [World.cell?_setCell_other _ _ _ _ (by intro e';simp only [Addr.mk.injEq] at e';exact hne e'.1.symm)];exact hc i q hq
theorem zkm {T:TypeId}{W:World}{c:Nat}{u v s:Value}{xs:List Rat}(hs:Rd W s xs)(hb:zic T W c u v)(hu:∀ z,u ≠ .string z)(hv:∀ z,v ≠ .string z)(x y:Value):Rd ((W.setCell ⟨c,0,none⟩ x).setCell ⟨c,1,none⟩ y) s xs:=by
 rcases hs with hn | ⟨b,off,cap,e,h1,h2,hc⟩
 ·exact .inl hn
 ·have hno:∀ k z,W.cell? ⟨b,k,none⟩=some (.string z)→b ≠ c:=by
   rintro k z h rfl;unfold World.cell? at h;dsimp only at h;rw [hb] at h;rcases (by omega:k=0∨k=1∨2≤k) with g | g | g
   ·rw [g] at h;exact hu z (Option.some.inj h)
   ·rw [g] at h;exact hv z (Option.some.inj h)
   ·have:(#[u,v]:Array Value)[k]?=none:=Array.getElem?_eq_none (by simpa using g);simp [this] at h
  have hk:∀ k z,W.cell? ⟨b,k,none⟩=some (.string z)→((W.setCell ⟨c,0,none⟩ x).setCell ⟨c,1,none⟩ y).cell? ⟨b,k,none⟩=some (.string z):=fun k z h=>by
   have hbc:=hno k z h;rw [World.cell?_setCell_other _ _ _ _ (by intro e';simp only [Addr.mk.injEq] at e';exact hbc e'.1.symm),World.cell?_setCell_other _ _ _ _ (by intro e';simp only [Addr.mk.injEq] at e';exact hbc e'.1.symm)];exact h
  exact .inr ⟨b,off,cap,e,h1,h2,fun i r hr=>⟨hk _ _ (hc i r hr).1,hk _ _ (hc i r hr).2⟩⟩
def zkn : List (List Int):=[[-3,2],[-6,4],[2,-1],[-1,1],[-4,3],[-7,5],[1,0]]
def zko : List (List Rat):=zkn.map zkh
theorem zkp (w:World)(he:Env w) :
  Calls Tryz.prog 86 #[] w fun e w'=>∃ v rs,e=.returned v∧ScV w' v [2,3] rs∧rs.map Qw.x=zko∧Ext w w':=by
 have hwh:=fun W v (l:List Int)(hE:Ext w W)(hv:Sl W v (zaq l))(h9:l.length≤1000)(hl:∀ z∈l,z.natAbs<1000000000)=>zkk v l W (he.ext hE) hv h9 hl;have hw2:=fun W (a b:Int)(hE:Ext w W)(ha:a.natAbs<1000000000)(hb:b.natAbs<1000000000)=>hwh (W.alloc (.cells #[.int .i64 a,.int .i64 b] 3)) (.slice (some ⟨W.heap.size,0,none⟩) 2 2) [a,b] (hE.alloc _) (zhq (us:=[.int .i64 a,.int .i64 b]) (World.alloc_heap_new W _) (by unfold maxLen;simp)) (by simp) (fun z hz=>by
  simp only [List.mem_cons,List.not_mem_nil,or_false] at hz;rcases hz with rfl | rfl <;> assumption)
 have hb0:=zic.new 28 w (.slice none 0 0) (.slice none 0 0);have hE0:Ext w (w.alloc (.cells #[.slice none 0 0,.slice none 0 0] 28)):=(Ext.refl w).alloc _;have Hw2:=hid hw2;have HB0:=hid hb0;have HE0:=hid hE0;clear hwh hw2 hb0 hE0 he;go_enter Tryz.func86,Tryz.ntmps86
 obtain ⟨W0,hW0⟩:∃ W0,W0=(w.alloc (.cells #[.slice none 0 0,.slice none 0 0] 28)).alloc (.cells #[.int .i64 2,.int .i64 3] 3):=⟨_,rfl⟩;have hpr:Sl W0 (.slice (some ⟨w.heap.size+1,0,none⟩) 2 2) (zaq [2,3]):=by
  have:=zhq (us:=[.int .i64 2,.int .i64 3]) (World.alloc_heap_new (w.alloc (.cells #[.slice none 0 0,.slice none 0 0] 28)) (.cells #[.int .i64 2,.int .i64 3] 3)) (by unfold maxLen;simp);rw [World.size_alloc] at this;rw [hW0];exact this
 have hxw:Ext (w.alloc (.cells #[.slice none 0 0,.slice none 0 0] 28)) W0:=by rw [hW0];exact (Ext.refl _).alloc _
 have hsz0:W0.heap.size=w.heap.size+1+1:=by rw [hW0,World.size_alloc,World.size_alloc]
 have hc1:=Hw2.out W0 (-3) (2) (HE0.out.trans hxw) (by decide) (by decide);rw [hsz0] at hc1;have Hc1:=hid hc1;clear hc1 hsz0;have Hpr:=hid hpr;have Hx0:=hid hxw;clear hpr hxw;go_wp2_with fail
 rw [← hW0];clear hW0;refine Hc1.out.mono ?_;rintro e w1 ⟨u1,rfl,ho1,hx1⟩;obtain ⟨a1,c1,rfl,_,_,_⟩:=ho1.rd.parts;rw [show (zkh [-3,2]).length=2 from rfl] at *;have hy1:=((Ext.refl W0).alloc (.cells #[.int .i64 (-3),.int .i64 (2)] 3)).trans hx1;have Hx1:=hid (Hx0.out.trans hy1);have Hr1:=hid ho1.rd;have Hpr:=hid (hy1.sl Hpr.out);clear ho1 hx1 hy1;go_wp2_with fail
 refine (Hw2.out w1 (-6) (4) (HE0.out.trans Hx1.out) (by decide) (by decide)).mono ?_;rintro e w2 ⟨u2,rfl,ho2,hx2⟩;obtain ⟨a2,c2,rfl,_,_,_⟩:=ho2.rd.parts;rw [show (zkh [-6,4]).length=2 from rfl] at *;have hy2:=((Ext.refl w1).alloc (.cells #[.int .i64 (-6),.int .i64 (4)] 3)).trans hx2;have Hx2:=hid (Hx1.out.trans hy2);have Hr2:=hid ho2.rd;have Hr1:=hid (hy2.rd Hr1.out);have Hpr:=hid (hy2.sl Hpr.out);clear ho2 hx2 hy2;go_wp2_with fail
 refine (Hw2.out w2 (2) (-1) (HE0.out.trans Hx2.out) (by decide) (by decide)).mono ?_;rintro e w3 ⟨u3,rfl,ho3,hx3⟩;obtain ⟨a3,c3,rfl,_,_,_⟩:=ho3.rd.parts;rw [show (zkh [2,-1]).length=2 from rfl] at *;have hy3:=((Ext.refl w2).alloc (.cells #[.int .i64 (2),.int .i64 (-1)] 3)).trans hx3;have Hx3:=hid (Hx2.out.trans hy3);have Hr3:=hid ho3.rd;have Hr1:=hid (hy3.rd Hr1.out);have Hr2:=hid (hy3.rd Hr2.out);have Hpr:=hid (hy3.sl Hpr.out);clear ho3 hx3 hy3;go_wp2_with fail
 refine (Hw2.out w3 (-1) (1) (HE0.out.trans Hx3.out) (by decide) (by decide)).mono ?_;rintro e w4 ⟨u4,rfl,ho4,hx4⟩;obtain ⟨a4,c4,rfl,_,_,_⟩:=ho4.rd.parts;rw [show (zkh [-1,1]).length=2 from rfl] at *;have hy4:=((Ext.refl w3).alloc (.cells #[.int .i64 (-1),.int .i64 (1)] 3)).trans hx4;have Hx4:=hid (Hx3.out.trans hy4);have Hr4:=hid ho4.rd;have Hr1:=hid (hy4.rd Hr1.out);have Hr2:=hid (hy4.rd Hr2.out);have Hr3:=hid (hy4.rd Hr3.out);have Hpr:=hid (hy4.sl Hpr.out);clear ho4 hx4 hy4;go_wp2_with fail
 refine (Hw2.out w4 (-4) (3) (HE0.out.trans Hx4.out) (by decide) (by decide)).mono ?_;rintro e w5 ⟨u5,rfl,ho5,hx5⟩;obtain ⟨a5,c5,rfl,_,_,_⟩:=ho5.rd.parts;rw [show (zkh [-4,3]).length=2 from rfl] at *;have hy5:=((Ext.refl w4).alloc (.cells #[.int .i64 (-4),.int .i64 (3)] 3)).trans hx5;have Hx5:=hid (Hx4.out.trans hy5);have Hr5:=hid ho5.rd;have Hr1:=hid (hy5.rd Hr1.out);have Hr2:=hid (hy5.rd Hr2.out);have Hr3:=hid (hy5.rd Hr3.out);have Hr4:=hid (hy5.rd Hr4.out);have Hpr:=hid (hy5.sl Hpr.out);clear ho5 hx5 hy5;go_wp2_with fail
 refine (Hw2.out w5 (-7) (5) (HE0.out.trans Hx5.out) (by decide) (by decide)).mono ?_;rintro e w6 ⟨u6,rfl,ho6,hx6⟩;obtain ⟨a6,c6,rfl,_,_,_⟩:=ho6.rd.parts;rw [show (zkh [-7,5]).length=2 from rfl] at *;have hy6:=((Ext.refl w5).alloc (.cells #[.int .i64 (-7),.int .i64 (5)] 3)).trans hx6;have Hx6:=hid (Hx5.out.trans hy6);have Hr6:=hid ho6.rd;have Hr1:=hid (hy6.rd Hr1.out);have Hr2:=hid (hy6.rd Hr2.out);have Hr3:=hid (hy6.rd Hr3.out);have Hr4:=hid (hy6.rd Hr4.out);have Hr5:=hid (hy6.rd Hr5.out);have Hpr:=hid (hy6.sl Hpr.out);clear ho6 hx6 hy6;go_wp2_with fail
 refine (Hw2.out w6 (1) (0) (HE0.out.trans Hx6.out) (by decide) (by decide)).mono ?_;rintro e w7 ⟨u7,rfl,ho7,hx7⟩;obtain ⟨a7,c7,rfl,_,_,_⟩:=ho7.rd.parts;rw [show (zkh [1,0]).length=2 from rfl] at *;have hy7:=((Ext.refl w6).alloc (.cells #[.int .i64 (1),.int .i64 (0)] 3)).trans hx7;have Hx7:=hid (Hx6.out.trans hy7);have Hr7:=hid ho7.rd;have Hr1:=hid (hy7.rd Hr1.out);have Hr2:=hid (hy7.rd Hr2.out);have Hr3:=hid (hy7.rd Hr3.out);have Hr4:=hid (hy7.rd Hr4.out);have Hr5:=hid (hy7.rd Hr5.out);have Hr6:=hid (hy7.rd Hr6.out);have Hpr:=hid (hy7.sl Hpr.out);clear ho7 hx7 hy7;have hE9:Ext w7 (w7.alloc (.cells #[.slice a1 2 c1,.slice a2 2 c2,.slice a3 2 c3,.slice a4 2 c4,.slice a5 2 c5,.slice a6 2 c6,.slice a7 2 c7] 41)):=(Ext.refl w7).alloc _;have hn9:Sl (w7.alloc (.cells #[.slice a1 2 c1,.slice a2 2 c2,.slice a3 2 c3,.slice a4 2 c4,.slice a5 2 c5,.slice a6 2 c6,.slice a7 2 c7] 41)) (.slice (some ⟨w7.heap.size,0,none⟩) 7 7) [.slice a1 2 c1,.slice a2 2 c2,.slice a3 2 c3,.slice a4 2 c4,.slice a5 2 c5,.slice a6 2 c6,.slice a7 2 c7]:=zhq (us:=[.slice a1 2 c1,.slice a2 2 c2,.slice a3 2 c3,.slice a4 2 c4,.slice a5 2 c5,.slice a6 2 c6,.slice a7 2 c7]) (World.alloc_heap_new w7 _) (by unfold maxLen;simp);have hk9:K0 28 w (w7.alloc (.cells #[.slice a1 2 c1,.slice a2 2 c2,.slice a3 2 c3,.slice a4 2 c4,.slice a5 2 c5,.slice a6 2 c6,.slice a7 2 c7] 41)) w.heap.size:=⟨(HE0.out.trans Hx7.out).trans hE9,_,_,HB0.out.ext (Hx7.out.trans hE9)⟩;have hb9:=HB0.out.ext (Hx7.out.trans hE9);have k0:=hk9.res.c0;have k1:=hk9.res.c1;have z0:=hk9.res.fz 0;have z1:=hk9.res.fz 1;obtain ⟨hb5,hx5⟩:=hk9.fin (Nat.le_refl _) (.slice (some ⟨w.heap.size+1,0,none⟩) 2 2) (.slice (some ⟨w7.heap.size,0,none⟩) 7 7);have Hb5:=hid hb5;have Hx5:=hid hx5;have HE9:=hid hE9;have Hn9:=hid hn9;have Hb9:=hid hb9;clear hb5 hx5 hk9 hE9 hn9 hb9;go_wp2_with fail
 have hd0:=Hb5.out.c0;have hd1:=Hb5.out.c1;have hne:w7.heap.size ≠ w.heap.size:=by
  have:=(HE0.out.trans Hx7.out).size;have:=HB0.out.lt;have:=Hx7.out.size;omega
 have hp5:=zjG (HE9.out.sl Hpr.out) Hb9.out (by simp) (by simp) (.slice (some ⟨w.heap.size+1,0,none⟩) 2 2) (.slice (some ⟨w7.heap.size,0,none⟩) 7 7);have hn5:=zkl (zkl Hn9.out hne 0 (.slice (some ⟨w.heap.size+1,0,none⟩) 2 2)) hne 1 (.slice (some ⟨w7.heap.size,0,none⟩) 7 7);have hrp:=fun s xs (h:Rd w7 s xs)=>zkm (HE9.out.rd h) Hb9.out (by simp) (by simp) (.slice (some ⟨w.heap.size+1,0,none⟩) 2 2) (.slice (some ⟨w7.heap.size,0,none⟩) 7 7);exact bodyPost_ret (v:=.agg #[.slice (some ⟨w.heap.size+1,0,none⟩) 2 2,.slice (some ⟨w7.heap.size,0,none⟩) 7 7]) (by simp [results,Tryz.results86,go_sem,hd0,hd1]) rfl ⟨_,[⟨zkh [-3,2],.slice a1 2 c1,rfl⟩,⟨zkh [-6,4],.slice a2 2 c2,rfl⟩,⟨zkh [2,-1],.slice a3 2 c3,rfl⟩,⟨zkh [-1,1],.slice a4 2 c4,rfl⟩,⟨zkh [-4,3],.slice a5 2 c5,rfl⟩,⟨zkh [-7,5],.slice a6 2 c6,rfl⟩,⟨zkh [1,0],.slice a7 2 c7,rfl⟩],rfl,⟨_,_,rfl,hp5,hn5,by
  intro r hr;simp only [List.mem_cons,List.not_mem_nil,or_false] at hr;rcases hr with rfl | rfl | rfl | rfl | rfl | rfl | rfl
  ·exact hrp _ _ Hr1.out
  ·exact hrp _ _ Hr2.out
  ·exact hrp _ _ Hr3.out
  ·exact hrp _ _ Hr4.out
  ·exact hrp _ _ Hr5.out
  ·exact hrp _ _ Hr6.out
  ·exact hrp _ _ Hr7.out⟩,rfl,Hx5.out⟩
end
section
open Go.RowKit Go.Lib
attribute [local go_sem] Oper.semAt_some
theorem zkq (v:Value)(p:List Int)(rs:List Qw)(n:Nat)(k:Int)(r:Qw)(w:World)(he:Env w)(hv:ScV w v p rs)(h:ziy p rs)(hn:rs.length=n+1)(hr:rs[n]?=some r)(hk0:-1000000≤k)(hk1:k≤1000000)
  (hq:Ft 400 ((k / ((n:Int)+1):Int):Rat)) (hf1:∀ q∈zey r.x ((k / ((n:Int)+1):Int):Rat),Ft 30 q) (hf2:∀ q∈noteQ rs n k,Ft 30 q) :
  Calls Tryz.prog 14 #[v,.int .i64 k] w fun e w'=>∃ g,e=.returned (.tuple #[.slice (some ⟨g,0,none⟩) p.length p.length,.int .i64 0])∧zfx w' w.heap.size (.slice (some ⟨g,0,none⟩) p.length p.length) (noteQ rs n k)∧Ext w w':=by
 have h1:=fun W (hE:Ext w W)=>ziz v p rs W (he.ext hE) (hv.ext hE) h;have h2:=fun W (hE:Ext w W)=>ziW v p rs n k r W (he.ext hE) (hv.ext hE) h hn hr (by omega) (by omega) hq hf1 hf2;obtain ⟨vp,vn,rfl,hp,hs,hm⟩:=hv;obtain ⟨ap,cp,rfl,_,_,_⟩:=hp.parts;obtain ⟨an,cn,rfl,_,_,_⟩:=hs.parts;generalize (zaq p).length=n1 at *;generalize (qwc rs).length=n2 at *;have bx:(w.alloc (.cells #[.slice ap n1 cp,.slice an n2 cn] 28)).heap[w.heap.size]?=some (.cells #[.slice ap n1 cp,.slice an n2 cn] 28 (0,0)):=World.alloc_heap_new w _;have hE0:Ext w (w.alloc (.cells #[.slice ap n1 cp,.slice an n2 cn] 28)):=(Ext.refl w).alloc _;have hbox:∀ W,Ext (w.alloc (.cells #[.slice ap n1 cp,.slice an n2 cn] 28)) W→W.cell? ⟨w.heap.size,0,none⟩=some (.slice ap n1 cp)∧W.cell? ⟨w.heap.size,1,none⟩=some (.slice an n2 cn):=fun W hE=>by
  have hb:=hE.heap bx;unfold World.cell?;dsimp only;rw [hb];exact ⟨rfl,rfl⟩
 clear hp hs hm he h bx hq hf1 hf2 hn hr;have H1:=hid h1;have H2:=hid h2;have HE0:=hid hE0;have Hbox:=hid hbox;clear h1 h2 hE0 hbox;go_enter Tryz.func14,Tryz.ntmps14
 go_wp2_with fail
 refine (H1.out _ HE0.out).mono ?_;rintro e w1 ⟨rfl,hx1⟩;obtain ⟨q0,q1⟩:=Hbox.out w1 hx1;have Hx1:=hid (HE0.out.trans hx1);clear hx1;go_wp2_with fail
 refine (H2.out w1 Hx1.out).mono ?_;rintro e w2 ⟨g,rfl,ho,hx2⟩;have Ho:=hid (ho.mono Hx1.out.size);have Hx2:=hid (Hx1.out.trans hx2);clear ho hx2 q0 q1;go_wp2
 go_ret2
 exact ⟨g,rfl,Ho.out,Hx2.out⟩
def stQ (n:Nat)(rs:List Qw)(k:Nat):List Rat:=zex (((rs[k]?).map Qw.x).getD []) (zix n rs k)
def zkr (n:Nat)(rs:List Qw)(k:Nat):List (List Rat):=(List.range k).map (stQ n rs)
theorem zks (n:Nat)(rs:List Qw)(k:Nat):zkr n rs (k+1)=zkr n rs k++[stQ n rs k]:=by unfold zkr;rw [List.range_succ,List.map_append];rfl
def zkt (w:World)(n:Nat)(rs:List Qw)(k:Nat)(u:Value)(wr:World):Prop:=∃ out:List Qw,QwM wr w.heap.size w.heap.size u out∧out.map Qw.x=zkr n rs k∧out.length=k∧Ext w wr
theorem zkt.more {w W V:World}{o:Obj}{n k:Nat}{rs:List Qw}{v5 v7 u:Value}{out:List Qw}(hE:Ext w W)(h:QwM W w.heap.size w.heap.size v5 out)(hm:out.map Qw.x=zkr n rs k)(hl:out.length=k)(hr:zfx W w.heap.size u (stQ n rs k)) 
  (hown:V.ownsRow w.heap.size 41 1 v7 (k+1) (qwc out++[u])) (hgrow:(W.alloc o).grownBy V v5.ownBlock):zkt w n rs (k+1) v7 V:=by
 subst hl;have:=QwM.more (r:=⟨_,u,zf1 hr.rd⟩) hE h hr hown hgrow;exact ⟨_,this.1,by rw [List.map_append,hm,zks];rfl,by rw [List.length_append];rfl,this.2⟩
theorem zku (v:Value)(p:List Int)(rs:List Qw)(w:World)(he:Env w)(hv:ScV w v p rs)(h:ziy p rs)(hp0:0<p.length)(hres:∀ k,k<rs.length→∀ q∈stQ p.length rs k,Ft 30 q) :
  Calls Tryz.prog 84 #[v] w fun e w'=>∃ u,e=.returned (.tuple #[u,.int .i64 0])∧zkt w p.length rs rs.length u w':=by
 obtain ⟨j0,hj,hy0,hy1,hy2⟩:=info_parts zfz;have h60:=h.most;have h1:=fun W (hE:Ext w W)=>ziz v p rs W (he.ext hE) (hv.ext hE) h;have hcl:=fun W u x (hx:Rd W u x)(hl:x.length=p.length)=>zjv u x W hx (by have:=h.few;omega) (by intro e;rw [e] at hl;simp at hl;omega);obtain ⟨vp,vn,rfl,hp,hs,hm⟩:=hv;have hsub:=fun (k:Nat)(r s:Qw)(hr:rs[k+1]?=some r)(hs:rs[k]?=some s) W (hE:Ext w W)=>zhx vp r.u s.u p r.x s.x W (he.ext hE) (hE.sl hp) (hE.rd (hm r (List.mem_of_getElem? hr))) (hE.rd (hm s (List.mem_of_getElem? hs))) h.pe (h.len r (List.mem_of_getElem? hr)) (h.len s (List.mem_of_getElem? hs)) (h.ft r (List.mem_of_getElem? hr)) (h.ft s (List.mem_of_getElem? hs)) (by
  have:=hres (k+1) (List.getElem?_eq_some_iff.1 hr).1;unfold stQ zix at this;rw [if_neg (by omega),hr,Nat.add_sub_cancel,hs] at this;exact this)
 have hst0:∀ r,rs[0]?=some r→stQ p.length rs 0=r.x:=fun r hr=>by
  unfold stQ zix;rw [if_pos rfl,hr];show zex r.x (List.replicate p.length 0)=r.x;rw [← h.len r (List.mem_of_getElem? hr)];exact ziD r.x
 have hst1:∀ k r s,rs[k+1]?=some r→rs[k]?=some s→stQ p.length rs (k+1)=zex r.x s.x:=fun k r s hr hs=>by
  unfold stQ zix;rw [if_neg (by omega),hr,Nat.add_sub_cancel,hs];rfl
 have hln:=h.len;have hone:=fun (r:Qw)(hr:r∈rs)=>(hm r hr).parts;have hrd:=fun (r:Qw)(hr:r∈rs) W (hE:Ext w W)=>hE.rd (hm r hr);obtain ⟨ap,cp,rfl,_,_,_⟩:=hp.parts;obtain ⟨an,cn,rfl,_,_,hc⟩:=hs.parts;rw [zas] at *;rw [zf0] at *;generalize hn:rs.length=n at *;have Hn:=hid hn;have bx:(w.alloc (.cells #[.slice ap p.length cp,.slice an n cn] 28)).heap[w.heap.size]?=some (.cells #[.slice ap p.length cp,.slice an n cn] 28 (0,0)):=World.alloc_heap_new w _;have hE0:Ext w (w.alloc (.cells #[.slice ap p.length cp,.slice an n cn] 28)):=(Ext.refl w).alloc _;have hbox:∀ W,Ext (w.alloc (.cells #[.slice ap p.length cp,.slice an n cn] 28)) W→W.cell? ⟨w.heap.size,0,none⟩=some (.slice ap p.length cp)∧W.cell? ⟨w.heap.size,1,none⟩=some (.slice an n cn):=fun W hE=>by
  have hb:=hE.heap bx;unfold World.cell?;dsimp only;rw [hb];exact ⟨rfl,rfl⟩
 clear hp hs hm he h bx hres hn;have H1:=hid h1;have Hcl:=hid hcl;have Hsub:=hid hsub;have Hst0:=hid hst0;have Hst1:=hid hst1;have Hln:=hid hln;have Hone:=hid hone;have Hrd:=hid hrd;have Hc:=hid hc;have HE0:=hid hE0;have Hbox:=hid hbox;clear h1 hcl hsub hst0 hst1 hln hone hrd hc hE0 hbox;go_enter Tryz.func84,Tryz.ntmps84
 go_wp2_with fail
 refine (H1.out _ HE0.out).mono ?_;rintro e w1 ⟨rfl,hx1⟩;obtain ⟨q0,q1⟩:=Hbox.out w1 hx1;have Hx1:=hid hx1;clear hx1;go_wp2_with fail
 go_loopw [5,6,7,8,17] (fun v5 v6 v7 v8 v17 wr=>∃ k:Nat,v17=.int .i64 k∧k≤n∧zkt w1 p.length rs k v5 wr) (fun _ _ _ _ v17 _=>n - (zam v17).toNat)
 case atStart=>exact ⟨0,rfl,Nat.zero_le _,⟨[],QwM.nil _ _ _,rfl,rfl,Ext.refl _⟩⟩
 case round =>
  clear q0 q1;obtain ⟨k,rfl,hk,⟨out,hq,hmq,hlq,hE⟩⟩:=hrel;have hEw:=(HE0.out.trans Hx1.out).trans hE;obtain ⟨a5,c5,rfl⟩:=zfj hq.1;rw [hlq] at hq;rw [hlq];by_cases hkn:k<n
  ·obtain ⟨r,hr⟩:∃ r,rs[k]?=some r:=⟨_,List.getElem?_eq_getElem (by rw [Hn.out];exact hkn)⟩;have hmem:=List.mem_of_getElem? hr;obtain ⟨b,off,rfl,hc0⟩:=Hc.out k r.u (by unfold qwc;rw [List.getElem?_map,hr];rfl);obtain ⟨ar,cr,hru,_,_,_⟩:=Hone.out r hmem;have hcu:=hEw.cell hc0;have hrl:r.x.length=p.length:=Hln.out r hmem;rw [hru,hrl] at hcu;have hrr:=Hrd.out r hmem wr hEw;rw [hru,hrl] at hrr;have hk0:(0:Int)≤(k:Int):=(by omega);have hk1:(k:Int)<(n:Int):=(by omega);have hm3:k+1≤maxLen:=(by unfold maxLen;omega);have hm4:(k+1) * 24≤140737488355328:=(by omega);have hqo:=hq.1;rw [hlq] at hqo;obtain ⟨q0,q1⟩:=Hbox.out wr (Hx1.out.trans hE);by_cases hkz:0<k
   ·obtain ⟨j,hkj⟩:∃ j,k=j+1:=⟨k - 1,by omega⟩;obtain ⟨s,hs⟩:∃ s,rs[j]?=some s:=⟨_,List.getElem?_eq_getElem (by rw [Hn.out];omega)⟩;have hsm:=List.mem_of_getElem? hs;obtain ⟨b',off',e',hc2⟩:=Hc.out j s.u (by unfold qwc;rw [List.getElem?_map,hs];rfl)
    cases e'
    obtain ⟨as',cs,hsu,_,_,_⟩:=Hone.out s hsm;have hsl:s.x.length=p.length:=Hln.out s hsm;have hcs:=hEw.cell hc2;rw [hsu,hsl] at hcs;have hst:stQ p.length rs k=zex r.x s.x:=by
     subst hkj;exact Hst1.out j r s hr hs
    have hsb:=fun W (hx:Ext wr W)=>Hsub.out j r s (by rw [← hkj];exact hr) hs W (hEw.trans hx);rw [hru,hsu,hrl,hsl] at hsb;have hsxl:(zex r.x s.x).length=p.length:=(ziC (hrl.trans hsl.symm)).trans hrl;have hclo:=fun W g ho=>Hcl.out W (.slice (some ⟨g,0,none⟩) p.length p.length) (zex r.x s.x) ho hsxl;have hz1:(0:Int)<(k:Int):=(by omega);have hwj:IntKind.i64.wrap ((k:Int) - 1)=(j:Int):=(by rw [IntKind.wrap_i64];omega);have hj0:(0:Int)≤(j:Int):=(by omega);have hj1:(j:Int)<(n:Int):=(by omega);have Hsb:=hid hsb;have Hclo:=hid hclo;have Hst:=hid hst;have Hq:=hid hq;have Hmq:=hid hmq;have Hlq:=hid hlq;have HEw:=hid hEw;have HE:=hid hE;have Hkj:=hid hkj;have Hsxl:=hid hsxl;clear hsb hclo hst hq hmq hlq hEw hE hrr hc0 hc2 hr hs hmem hsm hrl hsl hru hsu hqo hkj hsxl;go_wp2_with fail
    go_region_held3 (fun w'=>Ext wr w'∧w'.cell? ⟨w.heap.size,0,none⟩=some (.slice ap p.length cp)∧w'.cell? ⟨w.heap.size,1,none⟩=some (.slice (some ⟨b,off,none⟩) n cn)∧w'.cell? ⟨b,off+j,none⟩=some (.slice as' p.length cs))
     (first | (with_reducible assumption) | exact ⟨(Ext.refl wr).drew,q0,q1,hcs⟩)
     (first | (go_at_call 38;refine (Hsb.out _ (And.left (by assumption))).mono ?_;rintro e9 VA ⟨g2,rfl,ho2,hxa⟩;have hEA:=((Ext.refl wr).drew).trans hxa;have hS2:Ext wr VA∧VA.cell? ⟨w.heap.size,0,none⟩=some (.slice ap p.length cp)∧VA.cell? ⟨w.heap.size,1,none⟩=some (.slice (some ⟨b,off,none⟩) n cn)∧VA.cell? ⟨b,off+j,none⟩=some (.slice as' p.length cs):=⟨hEA,hEA.cell q0,hEA.cell q1,hEA.cell hcs⟩;have HEA:=hid hEA;have Ho2:=hid ho2.rd;clear hxa hEA ho2))
    all_goals
     clear hS2 q0 q1 hcs hcu;have hcl2:=Hclo.out VA _ Ho2.out;have Hcl2:=hid hcl2;clear hcl2;go_wp2_with fail
     refine Hcl2.out.mono ?_;rintro e W3 ⟨u3,rfl,ho3,hx3⟩;have hrd3:=ho3.rd;obtain ⟨a3,c3,rfl,_,_,_⟩:=hrd3.parts;have hx13:=HEA.out.trans hx3;have hq3:=hx13.qwM Hq.out;have hE3:=HE.out.trans hx13;have hqo:=hq3.1;rw [Hlq.out] at hqo;have hbase:=hE3.size;have ho4:zfx W3 w1.heap.size (.slice a3 (zex r.x s.x).length c3) (zex r.x s.x):=ho3.mono (HE.out.trans HEA.out).size;have Ho3:=hid ho4;have Hq3:=hid hq3;have HE3:=hid hE3;rw [Hsxl.out] at Ho3;rw [Hsxl.out];clear ho3 ho4 hx3 hx13 hrd3 hq3 hE3;go_wp2_with (at_builtin;refine wpList_append_own _ rfl _ _ 26 rfl w1.heap.size 41 j0 (.slice none 0 0) 1 24 Tryz.underlying26 hj hy0 hy1 hy2 rfl (by decide) _ _ _ rfl (hqo.alloc _) ⟨W3.heap.size,0,none⟩ 1 1 [.slice a3 p.length c3] rfl rfl (cell_one_new _ _ _) (by simp [Value.oneCell']) hm3 hm4 (by rw [World.size_alloc];omega) ?_;intro v7 V7 hown7 hgrow7 _)
     go_roundw
     case rel=>exact ⟨k+1,by go_num,by omega,zkt.more HE3.out Hq3.out Hmq.out Hlq.out (by rw [Hst.out];exact Ho3.out) hown7 hgrow7⟩
     case measure=>simp [zam];omega
   ·have hst:stQ p.length rs k=r.x:=by
     obtain rfl:k=0:=by omega
     exact Hst0.out r hr
    have hz1:¬ (0:Int)<(k:Int):=(by omega);have hclo:=Hcl.out wr _ r.x hrr hrl;have Hclo:=hid hclo;have Hst:=hid hst;have Hq:=hid hq;have Hmq:=hid hmq;have Hlq:=hid hlq;have HEw:=hid hEw;have HE:=hid hE;clear hclo hst hq hmq hlq hEw hE hrr hc0 hr hmem hrl hru hqo;go_wp2_with fail
    refine Hclo.out.mono ?_;rintro e W3 ⟨u3,rfl,ho3,hx3⟩;have hrd3:=ho3.rd;obtain ⟨a3,c3,rfl,_,_,_⟩:=hrd3.parts;have hq3:=hx3.qwM Hq.out;have hE3:=HE.out.trans hx3;have hqo:=hq3.1;rw [Hlq.out] at hqo;have hbase:=hE3.size;have Ho3:=hid (ho3.mono HE.out.size);have Hq3:=hid hq3;have HE3:=hid hE3;clear ho3 hx3 hrd3 hq3 hE3 q0 q1 hcu;go_wp2_with (at_builtin;refine wpList_append_own _ rfl _ _ 26 rfl w1.heap.size 41 j0 (.slice none 0 0) 1 24 Tryz.underlying26 hj hy0 hy1 hy2 rfl (by decide) _ _ _ rfl (hqo.alloc _) ⟨W3.heap.size,0,none⟩ 1 1 [.slice a3 r.x.length c3] rfl rfl (cell_one_new _ _ _) (by simp [Value.oneCell']) hm3 hm4 (by rw [World.size_alloc];omega) ?_;intro v7 V7 hown7 hgrow7 _)
    go_roundw
    case rel=>exact ⟨k+1,by go_num,by omega,zkt.more HE3.out Hq3.out Hmq.out Hlq.out (by rw [Hst.out];exact Ho3.out) hown7 hgrow7⟩
    case measure=>simp [zam];omega
  ·obtain rfl:n=k:=by omega
   have Hq:=hid hq;have Hmq:=hid hmq;have Hlq:=hid hlq;have HEw:=hid hEw;clear hq hmq hlq hEw;go_wp2
   go_ret2
   exact ⟨_,rfl,_,Hq.out.mono (HE0.out.trans Hx1.out).size (HE0.out.trans Hx1.out).size,Hmq.out,Hlq.out,HEw.out⟩
end
section
open Go.RowKit Go.Lib
def zkv (k:Int):List Rat:=[((-k:Int):Rat),(k:Rat)]
theorem zkw : zkd (zkh [-1,1]) (-1) 7=[zkv (-1),zkv 0,zkv 1,zkv 2,zkv 3,zkv 4,zkv 5]:=by decide +kernel
theorem zkx (k:Int):sF [2,3] (zkv k)=((k * 39256168:Int):Rat):=by
 unfold zkv;simp only [sF,lgs.1,lgs.2.1];rw [Rat.intCast_mul,Rat.intCast_neg];have h1:((106365032:Int):Rat)=((67108864:Int):Rat)+((39256168:Int):Rat):=by rw [← Rat.intCast_add];rfl
 rw [h1];grind
theorem zky (k l:Int):zex (zkv k) (zkv l)=zkv (k - l):=by
 unfold zkv zex;simp only [List.zipWith_cons_cons,List.zipWith_nil_left];rw [← Rat.intCast_sub,← Rat.intCast_sub,show -k - -l=-(k - l) by omega]
theorem zkz {k:Int}(h0:-100≤k)(h1:k≤100):Bx 256 (zkv k) :=
 ⟨-k,2 * k,rfl,by rw [Rat.intCast_mul,show ((2:Int):Rat)=2 from rfl];grind,by omega,by omega⟩
theorem zk0 (l:List (List Rat))(h:∀ x∈l,∃ k:Int,-10≤k∧k≤10∧x=zkv k):Lw [2,3] 10 l:=by
 have hz:zer [(2:Int),3].length=zkv 0:=by decide +kernel
 have h2:∀ x∈zer [(2:Int),3].length::l,∃ k:Int,-10≤k∧k≤10∧x=zkv k:=fun x hx=>by
  rcases List.mem_cons.1 hx with e | e
  ·exact ⟨0,by omega,by omega,by rw [e,hz]⟩
  ·exact h x e
 refine ⟨.inl ⟨rfl,rfl⟩,fun x hx=>?_,by omega,by omega,fun x hx=>?_,0,fun x hx y hy=>?_⟩
 ·obtain ⟨k,_,_,rfl⟩:=h x hx;rfl
 ·obtain ⟨k,k0,k1,rfl⟩:=h x hx;rw [zkx,← Rat.intCast_neg];exact ⟨Rat.intCast_le_intCast.2 (by omega),Rat.intCast_le_intCast.2 (by omega)⟩
 ·obtain ⟨k,k0,k1,rfl⟩:=h2 x hx;obtain ⟨j,j0,j1,rfl⟩:=h2 y hy;rw [zky];exact .inl ⟨rfl,zkz (by omega) (by omega)⟩
theorem zk1 : Lw [2,3] 10 (zkd (zkh [-1,1]) (-1) 7):=by
 rw [zkw];refine zk0 _ fun x hx=>?_;simp only [List.mem_cons,List.not_mem_nil,or_false] at hx;rcases hx with rfl | rfl | rfl | rfl | rfl | rfl | rfl
 ·exact ⟨-1,by omega,by omega,rfl⟩
 ·exact ⟨0,by omega,by omega,rfl⟩
 ·exact ⟨1,by omega,by omega,rfl⟩
 ·exact ⟨2,by omega,by omega,rfl⟩
 ·exact ⟨3,by omega,by omega,rfl⟩
 ·exact ⟨4,by omega,by omega,rfl⟩
 ·exact ⟨5,by omega,by omega,rfl⟩
theorem zk2 : ziY [2,3] [] (zkd (zkh [-1,1]) (-1) 7)=[zkh [2,-1],zkh [-1,1],zkh [-3,2],zkh [-4,3],zkh [-6,4],zkh [-7,5]]:=by decide +kernel
theorem zk3 : zjh [2,3] (zkd (zkh [-1,1]) (-1) 7) zko:=by
 have h:=zjn (N:=[zkh [-3,2],zkh [-6,4],zkh [2,-1],zkh [-1,1],zkh [-4,3],zkh [-7,5]]) zk1 (by rw [zk2];decide +kernel) (by decide +kernel);have e:zko=[zkh [-3,2],zkh [-6,4],zkh [2,-1],zkh [-1,1],zkh [-4,3],zkh [-7,5]]++[ov ([(2:Int),3].length - 1)]:=by decide +kernel
 rw [e];exact h
theorem zk4 : Wd [2,3] zko:=zjm zk1 zk3 (by rw [zkf];omega)
theorem zk5 : flP [2,3] (zkh [0,-1])=-2:=by decide +kernel
theorem zk6 : rst [2,3] (zkh [0,-1])=zkh [2,-1]:=by decide +kernel
theorem zk7 : zex (zkh [2,-1]) (zkh [-6,4])=zkh [8,-5]:=by decide +kernel
theorem zk8 : Lw [2,3] 10 [zkh [0,-1]]:=by
 have e:zkh [0,-1]=[((0:Int):Rat),((-1:Int):Rat)]:=rfl;refine ⟨.inl ⟨rfl,rfl⟩,fun x hx=>?_,by omega,by omega,fun x hx=>?_,0,fun x hx y hy=>?_⟩
 ·rw [List.mem_singleton] at hx;subst hx;rfl
 ·rw [List.mem_singleton] at hx;subst hx;decide +kernel
 ·have hb:∀ z∈zer [(2:Int),3].length::[zkh [0,-1]],∃ k:Int,-1≤k∧k≤0∧z=[((0:Int):Rat),(k:Rat)]:=fun z hz=>by
   rcases List.mem_cons.1 hz with e | e
   ·exact ⟨0,by omega,by omega,by rw [e];rfl⟩
   ·rw [List.mem_singleton] at e;exact ⟨-1,by omega,by omega,by rw [e];rfl⟩
  obtain ⟨k,k0,k1,rfl⟩:=hb x hx;obtain ⟨j,j0,j1,rfl⟩:=hb y hy;refine .inl ⟨rfl,0,2 * (k - j),?_,?_,by omega,by omega⟩
  ·show ((0:Int):Rat) - ((0:Int):Rat)=_;grind
  ·show ((k:Rat) - (j:Rat)) * 2=_;rw [Rat.intCast_mul,Rat.intCast_sub,show ((2:Int):Rat)=2 from rfl];grind
theorem Wd.step_ft {p:List Int}{rs:List Qw}(h:Wd p (rs.map Qw.x)):∀ k,k<rs.length→∀ q∈stQ p.length rs k,Ft 30 q:=by
 intro k hk;have hl:(rs.map Qw.x).length=rs.length:=List.length_map ..;have hf:=h.few;have e:stQ p.length rs k=zex (nt p (rs.map Qw.x) ((k+1:Nat):Int)) (nt p (rs.map Qw.x) (k:Int)):=by
  rw [h.nt_low (by omega),h.nt_low (by omega)];unfold stQ zat zix;rw [List.getElem?_cons_succ,List.getElem?_map]
  cases k with
  | zero=>rfl
  | succ j=>rw [if_neg (by omega),List.getElem?_cons_succ,List.getElem?_map,Nat.add_sub_cancel]
 rw [e];exact (h.nt_sub_quick _ _ (by omega) (by omega) (by omega) (by omega)).1
end
section
open Go.RowKit Go.Lib Go.Shelf
attribute [local go_sem] Oper.semAt_some
theorem zk9 {w:World}{v:Value}{x:List Rat}{n:Nat}(h:Rd w v x)(hn:x.length=n):∃ a c,v=.slice a n c∧Rd w (.slice a n c) x:=by
 obtain ⟨a,c,rfl,_,_,_⟩:=h.parts;rw [hn] at *;exact ⟨a,c,rfl,h⟩
theorem zkA (w:World)(he:Env w) :
  Calls Tryz.prog 32 #[] w fun e w'=>e=.returned (.bool true)∧Ext w w':=by
 have hwh:=fun W v (l:List Int)(hE:Ext w W)(hv:Sl W v (zaq l))(h9:l.length≤1000)(hl:∀ z∈l,z.natAbs<1000000000)=>zkk v l W (he.ext hE) hv h9 hl;have hw2:=fun W (a b:Int)(hE:Ext w W)(ha:a.natAbs<1000000000)(hb:b.natAbs<1000000000)=>hwh (W.alloc (.cells #[.int .i64 a,.int .i64 b] 3)) (.slice (some ⟨W.heap.size,0,none⟩) 2 2) [a,b] (hE.alloc _) (zhq (us:=[.int .i64 a,.int .i64 b]) (World.alloc_heap_new W _) (by unfold maxLen;simp)) (by simp) (fun z hz=>by
  simp only [List.mem_cons,List.not_mem_nil,or_false] at hz;rcases hz with rfl | rfl <;> assumption)
 have hch:=fun W vp vb vg (hE:Ext w W)(hp:Sl W vp (zaq [2,3]))(hb:Rd W vb (zkh [1,0]))(hg:Rd W vg (zkh [-1,1]))=>zkg vp vb vg [2,3] 10 (zkh [-1,1]) (-1) 6 W (he.ext hE) hp hb hg rfl (fun q hq=>(zk1.quick (zkh [-1,1]) (by rw [zkw];decide +kernel)).1 q hq) (by omega) (by omega) (by omega) (by omega) zk1;have hst:=fun W v rs (hE:Ext w W)(hv:ScV W v [2,3] rs)(hx:rs.map Qw.x=zko)=>zku v [2,3] rs W (he.ext hE) hv (Wd.right (by rw [hx];exact zk4)) (by decide) (Wd.step_ft (by rw [hx];exact zk4));have hmj:=fun W (hE:Ext w W)=>zkp W (he.ext hE);have hre:=fun W v rs va (hE:Ext w W)(hv:ScV W v [2,3] rs)(hx:rs.map Qw.x=zko)(ha:Rd W va (zkh [0,-1]))=>(show Calls Tryz.prog 85 #[v,va] W fun e w'=>∃ g,e=.returned (.tuple #[.slice (some ⟨g,0,none⟩) 2 2,.string ⟨#[45,50]⟩,.int .i64 0])∧Rd w' (.slice (some ⟨g,0,none⟩) 2 2) (zkh [2,-1])∧Ext W w' from by
  have hlen:rs.length=6+1:=by have:=congrArg List.length hx;rw [List.length_map] at this;exact this
  obtain ⟨r,hr⟩:∃ r,rs[6]?=some r:=⟨_,List.getElem?_eq_getElem (by omega)⟩;have hro:r.x=ov 1:=by
   have:=congrArg (fun l=>l[6]?) hx;simp only [List.getElem?_map,hr,Option.map_some] at this;exact (Option.some.inj this).trans (by decide +kernel)
  have hred:=zk8.red (x:=zkh [0,-1]) (by simp);obtain ⟨a,tl,e,hk⟩:=hred;have e2:a=((0:Int):Rat)∧tl=[((-1:Int):Rat)]:=by
   have:zkh [0,-1]=((0:Int):Rat)::[((-1:Int):Rat)]:=rfl;rw [this] at e;injection e with e3 e4;exact ⟨e3.symm,e4.symm⟩
  obtain ⟨rfl,rfl⟩:=e2;have:=zi1 v va [2,3] rs 6 r ((0:Int):Rat) [((-1:Int):Rat)] W (he.ext hE) hv (Wd.right (by rw [hx];exact zk4)) hlen hr hro ha hk.pr hk.ft hk.qf hk.fk hk.fit (by rw [hk.eq];exact hk.res);rw [hk.eq,show flP [2,3] (((0:Int):Rat)::[((-1:Int):Rat)])=-2 from zk5,show rst [2,3] (((0:Int):Rat)::[((-1:Int):Rat)])=zkh [2,-1] from zk6] at this;refine this.mono ?_;rintro e w' ⟨g,rfl,ho,hx⟩;exact ⟨g,by rw [show I (-2)=⟨#[45,50]⟩ from by decide +kernel];rfl,ho.rd,hx⟩)
 have Hw2:=hid hw2;have Hch:=hid hch;have Hst:=hid hst;have Hmj:=hid hmj;have Hre:=hid hre;clear hw2 hch hst hmj hre he;obtain ⟨W0,hW0⟩:∃ W0,W0=w.alloc (.cells #[.int .i64 2,.int .i64 3] 3):=⟨_,rfl⟩;have hpr:Sl W0 (.slice (some ⟨w.heap.size,0,none⟩) 2 2) (zaq [2,3]):=by
  rw [hW0];exact zhq (us:=[.int .i64 2,.int .i64 3]) (World.alloc_heap_new w _) (by unfold maxLen;simp)
 have hx0:Ext w W0:=by rw [hW0];exact (Ext.refl w).alloc _
 have hsz0:W0.heap.size=w.heap.size+1:=by rw [hW0,World.size_alloc]
 have hc1:=Hw2.out W0 1 0 hx0 (by decide) (by decide);rw [hsz0] at hc1;have Hc1:=hid hc1;have Hpr:=hid hpr;have Hx0:=hid hx0;clear hc1 hpr hx0 hsz0;go_enter Tryz.func32,Tryz.ntmps32
 go_wp2_with fail
 rw [← hW0];clear hW0;refine Hc1.out.mono ?_;rintro e w1 ⟨u1,rfl,ho1,hx1⟩;obtain ⟨a1,c1,rfl,_,_,_⟩:=ho1.rd.parts;rw [show (zkh [1,0]).length=2 from rfl] at *;have Hx1:=hid (Hx0.out.trans (((Ext.refl W0).alloc _).trans hx1));have Hr1:=hid ho1.rd;have Hpr:=hid ((((Ext.refl W0).alloc (.cells #[.int .i64 1,.int .i64 0] 3)).trans hx1).sl Hpr.out);clear ho1 hx1;go_wp2_with fail
 refine (Hw2.out w1 (-1) 1 Hx1.out (by decide) (by decide)).mono ?_;rintro e w2 ⟨u2,rfl,ho2,hx2⟩;obtain ⟨a2,c2,rfl,_,_,_⟩:=ho2.rd.parts;rw [show (zkh [-1,1]).length=2 from rfl] at *;have hy2:=((Ext.refl w1).alloc (.cells #[.int .i64 (-1),.int .i64 1] 3)).trans hx2;have hch2:=Hch.out w2 (.slice (some ⟨w.heap.size,0,none⟩) 2 2) (.slice a1 2 c1) (.slice a2 2 c2) (Hx1.out.trans hy2) (hy2.sl Hpr.out) (hy2.rd Hr1.out) ho2.rd;rw [show (-1:Int)+((6:Nat):Int)=5 from rfl] at hch2;have Hx2:=hid (Hx1.out.trans hy2);have Hch2:=hid hch2;clear ho2 hx2 hy2 hch2;go_wp2_with fail
 refine Hch2.out.mono ?_;rintro e w3 ⟨v3,out3,rfl,hs3,hc3,hx3⟩;have hm3:=zji hc3 zk3;obtain ⟨vp3,vn3,rfl,hop3,hqn3⟩:=hs3;obtain ⟨a3,c3,rfl⟩:=zfj hop3;obtain ⟨a4,c4,rfl⟩:=zfj hqn3.1;have hl3:out3.length=7:=by have:=congrArg List.length hm3;rw [List.length_map] at this;exact this
 have hsv3:ScV w3 (.agg #[.slice a3 2 c3,.slice a4 7 c4]) [2,3] out3:=by
  refine ⟨_,_,rfl,zao hop3,?_⟩;have:=hqn3.rd;rw [hl3] at this;exact this
 rw [hl3] at hqn3 ⊢;have hb3:=zic.new 28 w3 (.slice a3 2 c3) (.slice a4 7 c4);have hE3:Ext w3 (w3.alloc (.cells #[.slice a3 2 c3,.slice a4 7 c4] 28)):=(Ext.refl w3).alloc _;have hst3:=Hst.out _ _ out3 ((Hx2.out.trans hx3).trans hE3) (hsv3.ext hE3) hm3;rw [hl3] at hst3;have Hx3:=hid ((Hx2.out.trans hx3).trans hE3);have Hsv3:=hid (hsv3.ext hE3);have Hm3:=hid hm3;have Hb3:=hid hb3;have Hst3:=hid hst3;clear hx3 hsv3 hm3 hb3 hE3 hst3 hc3 hop3 hqn3 hl3;go_wp2_with fail
 refine Hst3.out.mono ?_;rintro e w5 ⟨u5,rfl,⟨out5,hq5,hm5,hl5,hx5⟩⟩;obtain ⟨a5,c5,rfl⟩:=zfj hq5.1;have hr5:=hq5.rd;rw [hl5] at hr5 ⊢;have hb5:=Hb3.out.ext hx5;have Hx5:=hid (Hx3.out.trans hx5);have Hsv5:=hid (Hsv3.out.ext hx5);have Hb5:=hid hb5;have Hr5:=hid hr5;have Hm5:=hid hm5;have Hl5:=hid hl5;clear hq5 hm5 hl5 hx5 hr5 hb5;go_wp2_with fail
 refine (Hmj.out w5 Hx5.out).mono ?_;rintro e w6 ⟨v6,rs6,rfl,hs6,hm6,hx6⟩;obtain ⟨vp6,vn6,rfl,hp6,hn6⟩:=hs6;obtain ⟨a6,c6,rfl,_,_,_⟩:=hp6.parts;obtain ⟨a7,c7,rfl,_,_,_⟩:=hn6.1.parts;have hl6:rs6.length=7:=by have:=congrArg List.length hm6;rw [List.length_map] at this;exact this
 have hq6:(qwc rs6).length=7:=by rw [zf0];exact hl6
 rw [hq6] at hn6 ⊢;rw [show (zaq [2,3]).length=2 from rfl] at hp6 ⊢;clear hq6;have hsv6:ScV w6 (.agg #[.slice a6 2 c6,.slice a7 7 c7]) [2,3] rs6:=⟨_,_,rfl,hp6,hn6⟩;have Hx6:=hid (Hx5.out.trans hx6);have Hsv6:=hid hsv6;have Hm6:=hid hm6;have Hy6:=hid hx6;clear hp6 hn6 hl6 hsv6 hm6 hx6;go_wp2_with fail
 refine (Hw2.out w6 0 (-1) Hx6.out (by decide) (by decide)).mono ?_;rintro e w7 ⟨u7,rfl,ho7,hx7⟩;obtain ⟨a8,c8,rfl,_,_,_⟩:=ho7.rd.parts;rw [show (zkh [0,-1]).length=2 from rfl] at *;have hy7:=((Ext.refl w6).alloc (.cells #[.int .i64 0,.int .i64 (-1)] 3)).trans hx7;have hre7:=Hre.out w7 _ rs6 (.slice a8 2 c8) (Hx6.out.trans hy7) (Hsv6.out.ext hy7) Hm6.out ho7.rd;have Hx7:=hid (Hx6.out.trans hy7);have Hre7:=hid hre7;have Hy7:=hid (Hy6.out.trans hy7);clear ho7 hx7 hy7 hre7;go_wp2_with fail
 refine Hre7.out.mono ?_;rintro e w9 ⟨g9,rfl,hr9,hx9⟩;have hy9:=Hy7.out.trans hx9;have hb9:=Hb5.out.ext hy9;have hrm9:=hy9.rdM Hr5.out;obtain ⟨s,hs⟩:∃ s,out5[2]?=some s:=⟨_,List.getElem?_eq_getElem (by rw [Hl5.out];omega)⟩;have hsx:s.x=zkh [8,-5]:=by
  have h1:=congrArg (fun l=>l[2]?) Hm5.out;simp only [List.getElem?_map,hs,Option.map_some] at h1;have h2:(zkr 2 out3 7)[2]?=some (stQ 2 out3 2):=rfl;have h3:stQ 2 out3 2=zkh [8,-5]:=by
   have e2:=congrArg (fun l=>l[2]?) Hm3.out;have e1:=congrArg (fun l=>l[1]?) Hm3.out;simp only [List.getElem?_map] at e1 e2;unfold stQ zix;rw [if_neg (by omega),e2];show zex _ ((Option.map Qw.x out3[1]?).getD [])=_;rw [e1];exact zk7
  rw [← h3];exact Option.some.inj (h1.trans h2)
 have hrs:=hrm9.2 s (List.mem_of_getElem? hs);rw [hsx] at hrs;obtain ⟨ae,ce,hsu,_,_,_⟩:=hrs.parts;rw [show (zkh [8,-5]).length=2 from rfl] at hsu;obtain ⟨_,_,e1,_,_,hcl⟩:=hrm9.1.parts;injection e1 with e1 e2 e3;subst e1;clear e2 e3;obtain ⟨be,oe,rfl,hce⟩:=hcl 2 s.u (by unfold qwc;rw [List.getElem?_map,hs];rfl);rw [hsu] at hrs hce;have q0:=hb9.c0;have q1:=hb9.c1;have hsv9:=Hsv5.out.ext hy9;have hsame:=fun W v rs (hE:Ext w9 W)(hv:ScV W v [2,3] rs)(hm:rs.map Qw.x=zko)=>(show Calls Tryz.prog 87 #[.agg #[.slice a3 2 c3,.slice a4 7 c4],v] W fun e w'=>e=.returned (.bool true)∧Ext W w' from by
  have hlm:∀ ts:List Qw,ts.map Qw.x=zko→ts.length=7∧∀ r∈ts,r.x.length≤1000:=fun ts h=>by
   refine ⟨by have:=congrArg List.length h;rw [List.length_map] at this;exact this,fun r hr=>?_⟩;have:=List.mem_map_of_mem (f:=Qw.x) hr;rw [h] at this;have:=zk4.len _ this;rw [this];decide
  have h1:=hlm out3 Hm3.out;have h2:=hlm rs hm;have:=zii (.agg #[.slice a3 2 c3,.slice a4 7 c4]) v [2,3] [2,3] out3 rs W (hsv9.ext hE) hv (by decide) (by decide) (by omega) (by omega) h1.2 h2.2;rw [decide_eq_true rfl,decide_eq_true (Hm3.out.trans hm.symm)] at this;exact this)
 have heq1:=fun W vb (hE:Ext w9 W)(hb:Rd W vb (zkh [8,-5]))=>(show Calls Tryz.prog 15 #[.slice ae 2 ce,vb] W fun e w'=>e=.returned (.bool true)∧Ext W w' from by
  have:=zfK (.slice ae 2 ce) vb (zkh [8,-5]) (zkh [8,-5]) W (hE.rd hrs) hb (by decide) (by decide);rwa [decide_eq_true rfl] at this)
 have heq2:=fun W vb (hE:Ext w9 W)(hb:Rd W vb (zkh [2,-1]))=>(show Calls Tryz.prog 15 #[.slice (some ⟨g9,0,none⟩) 2 2,vb] W fun e w'=>e=.returned (.bool true)∧Ext W w' from by
  have:=zfK (.slice (some ⟨g9,0,none⟩) 2 2) vb (zkh [2,-1]) (zkh [2,-1]) W (hE.rd hr9) hb (by decide) (by decide);rwa [decide_eq_true rfl] at this)
 have hS:=fun W (h:Ext w9 W)=>(⟨h,h.cell q0,h.cell q1,h.cell hce⟩:Ext w9 W∧W.cell? _=_∧W.cell? _=_∧W.cell? _=_);have Hx9:=hid (Hx7.out.trans hx9);have Hsame:=hid hsame;have Heq1:=hid heq1;have Heq2:=hid heq2;have HS:=hid hS;have Hwh:=hid hwh;clear hx9 hy9 hb9 hrm9 hs hsx hrs hsu hcl hsv9 hsame heq1 heq2 hS hr9 hwh;go_wp2_with fail
 have H0:Hid (Ext w9 w9):=hid (Ext.refl w9);go_region_held3 (fun w'=>Ext w9 w'∧w'.cell? ⟨w3.heap.size,0,none⟩=some (.slice a3 2 c3)∧w'.cell? ⟨w3.heap.size,1,none⟩=some (.slice a4 7 c4)∧w'.cell? ⟨be,oe+2,none⟩=some (.slice ae 2 ce))
  (first | with_reducible exact HS.out _ HF.out | with_reducible exact HS.out _ HE'.out | with_reducible exact HS.out _ (HD.out.alloc _) | with_reducible exact HS.out _ HD.out | with_reducible exact HS.out _ HC.out | with_reducible exact HS.out _ (HB.out.alloc _) | with_reducible exact HS.out _ HB.out | with_reducible exact HS.out _ HA.out | with_reducible exact HS.out _ (H0.out.drew))
  (first
   | (have hpv:=HE';clear hpv;go_at_call 15;refine (Heq2.out _ _ HE'.out HrE.out).mono ?_;rintro e9 VF ⟨rfl,hxf⟩;have HF:=hid (HE'.out.trans hxf);clear hxf)
   | (have hpv:=HD;clear hpv;go_at_call 83;refine (Hw2.out VD 2 (-1) (Hx9.out.trans HD.out) (by decide) (by decide)).mono ?_;rintro e9 VE ⟨uE,rfl,hoE,hxe⟩;obtain ⟨aE,cE,rfl,hrE⟩:=zk9 hoE.rd rfl;have HE':=hid ((HD.out.alloc _).trans hxe);have HrE:=hid hrE;clear hxe hoE hrE)
   | (have hpv:=HC;clear hpv;go_at_call 15;refine (Heq1.out _ _ HC.out HrC.out).mono ?_;rintro e9 VD ⟨rfl,hxd⟩;have HD:=hid (HC.out.trans hxd);clear hxd)
   | (have hpv:=HB;clear hpv;go_at_call 83;refine (Hw2.out VB 8 (-5) (Hx9.out.trans HB.out) (by decide) (by decide)).mono ?_;rintro e9 VC ⟨uC,rfl,hoC,hxc⟩;obtain ⟨aC,cC,rfl,hrC⟩:=zk9 hoC.rd rfl;have HC:=hid ((HB.out.alloc _).trans hxc);have HrC:=hid hrC;clear hxc hoC hrC)
   | (have hpv:=HA;clear hpv;go_at_call 87;refine (Hsame.out _ _ rsA HA.out HsA.out HmA.out).mono ?_;rintro e9 VB ⟨rfl,hxb⟩;have HB:=hid (HA.out.trans hxb);clear hxb)
   | (go_at_call 86;refine (Hmj.out _ Hx9.out.drew).mono ?_;rintro e9 VA ⟨vA,rsA,rfl,hsA,hmA,hxa⟩;obtain ⟨b7,b8,b9,b10,rfl,hsA⟩:=zif hsA;have HA:=hid (H0.out.drew.trans hxa);have HsA:=hid hsA;have HmA:=hid hmA;clear hxa hsA hmA))
 all_goals
  go_wp2
  go_ret
  exact ⟨rfl,Hx9.out.trans HF.out⟩
end
end Go.Proofs.YtebabancfnmfjaaGreatDoor
