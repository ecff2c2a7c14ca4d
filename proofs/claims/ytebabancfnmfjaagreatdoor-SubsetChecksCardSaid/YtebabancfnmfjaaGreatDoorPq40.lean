/- Walk: the law SubsetChecks. What the rows' condition gives the walks, and the last step of a law (the seat of chapters 31 and 32). -/
import Derived.Test.YtebabancfnmfjaaGreatDoorPq37
import Derived.Test.YtebabancfnmfjaaGreatDoorPq38
import Derived.Test.YtebabancfnmfjaaGreatDoorPq33
import Derived.Test.YtebabancfnmfjaaGreatDoorPq39
import Derived.Test.YtebabancfnmfjaaGreatDoorPq35
import Derived.Deep.RegionLawGrows
import Derived.Test.YtebabancfnmfjaaGreatDoorPq00
import Derived.Below
import Derived.ChangeSame
import Derived.OpenShut
import Derived.LaidMore
import Derived.ProofKit
import Derived.Stop.Joined
import Derived.Laws.IdiomArrays
import Derived.Test.YtebabancfnmfjaaGreatDoorRows
import Derived.Test.YtebabancfnmfjaaGreatDoorTie
import Derived.Test.YtebabancfnmfjaaGreatDoorCards
import Derived.Handy
import Derived.Lay
import Derived.SevenTiedAt
import Derived.Stop.LaidErr
import Derived.Carry
set_option maxRecDepth 100000
set_option maxHeartbeats 2000000
namespace Go.Proofs.YtebabancfnmfjaaGreatDoor
section
open Go.RowKit Go.Lib Go.Shelf
attribute [local go_sem] Oper.semAt_some
def zq9 (p:List Int)(rs:List Qw)(ce:Int):Prop:=(ce=0∧Wd p (rs.map Qw.x))∨(ce=6∧∃ j,zpE p rs j)
theorem zqA {p:List Int}{rs:List Qw}{ce:Int}(h:zq9 p rs ce)(v:Value)(w:World)(he:Env w)(hv:ScV w v p rs):Calls Tryz.prog 34 #[v] w fun e w'=>e=.returned (.int .i64 ce)∧Ext w w':=by
 rcases h with ⟨rfl,h⟩ | ⟨rfl,j,h⟩
 ·exact zik v p rs w he hv h.right
 ·exact zpF v p rs j w he hv h
def zqB (w:World)(b:Nat)(x y z:Int):Prop:=w.heap[b]?=some (.cells #[.int .i64 x,.int .i64 y,.int .i64 z] 84 (0,0))
theorem zqB.c {w:World}{b:Nat}{x y z:Int}(h:zqB w b x y z):w.cell? ⟨b,0,none⟩=some (.int .i64 x)∧w.cell? ⟨b,1,none⟩=some (.int .i64 y)∧w.cell? ⟨b,2,none⟩=some (.int .i64 z):=by
 refine ⟨?_,?_,?_⟩ <;> (unfold World.cell?;dsimp only;rw [h];rfl)
theorem zqC {w W:World}{k:Nat}{arr:Array Value}{T:TypeId}{v:Value}{us:List Value}(hk:w.heap[k]?=some (.cells arr T (0,0)))(h:Sl w v us)(hn:∀ u∈us,∀ x∈arr.toList,x ≠ u)(hW:∀ b o u,b ≠ k→w.cell? ⟨b,o,none⟩=some u→W.cell? ⟨b,o,none⟩=some u):Sl W v us:=by
 rcases h with h | ⟨b,off,cap,e,h1,h2,hc⟩
 ·exact .inl h
 ·exact .inr ⟨b,off,cap,e,h1,h2,fun i u hu=>hW _ _ _ (zq6 hk (hc i u hu) (hn u (List.mem_of_getElem? hu))) (hc i u hu)⟩
theorem zqD {w W:World}{k:Nat}{arr:Array Value}{T:TypeId}{v:Value}{rs:List Qw}(hk:w.heap[k]?=some (.cells arr T (0,0)))(h:RdM w v rs)(hs:∀ s,Value.string s ∉ arr.toList)(hn:∀ a n c,0<n→Value.slice a n c ∉ arr.toList)(hl:∀ r∈rs,0<r.x.length)(hW:∀ b o u,b ≠ k→w.cell? ⟨b,o,none⟩=some u→W.cell? ⟨b,o,none⟩=some u):RdM W v rs:=by
 refine ⟨zqC hk h.1 (fun u hu x hx e=>?_) hW,fun r hr=>?_⟩
 ·unfold qwc at hu;obtain ⟨r,hr,rfl⟩:=List.mem_map.1 hu;obtain ⟨a,c,e2,_⟩:=(h.2 r hr).parts;rw [e2] at e;exact hn a r.x.length c (hl r hr) (e ▸ hx)
 ·rcases h.2 r hr with h | ⟨b,off,cap,e,h1,h2,hc⟩
  ·exact .inl h
  ·exact .inr ⟨b,off,cap,e,h1,h2,fun i r hr=>by
    have h3:=hc i r hr;have hb:=zq6 hk h3.1 (fun x hx e=>hs _ (e ▸ hx));exact ⟨hW _ _ _ hb h3.1,hW _ _ _ hb h3.2⟩⟩
def zqE (W:World)(p:List Int)(l:List (List Rat))(x0 x1:Int)(vm:Value)(v7:Value)(wx:World):Prop :=
 ∃ bk ap cp an cn rs,v7=.pointer (some ⟨bk,0,none⟩)∧zno wx bk (.slice ap p.length cp) (.slice an (rs:List Qw).length cn) x0 x1 vm false∧(∀ W':World,(∀ b o u,b ≠ bk→wx.cell? ⟨b,o,none⟩=some u→W'.cell? ⟨b,o,none⟩=some u)→ScV W' (.agg #[.slice ap p.length cp,.slice an rs.length cn]) p rs)∧ziQ p l (rs.map Qw.x)∧Ext W wx∧W.heap.size≤bk
theorem zqF {w:World}{a:Option Addr}{n c:Nat}{xs:List Value}(h:Sl w (.slice a n c) xs):n=xs.length∧n≤c∧c≤maxLen∧∀ i u,xs[i]?=some u→∃ b off,a=some ⟨b,off,none⟩∧w.cell? ⟨b,off+i,none⟩=some u:=by
 obtain ⟨a',c',e,h1,h2,h3⟩:=h.parts;injection e with e1 e2 e3;subst e1 e2 e3;exact ⟨rfl,h2,h1,h3⟩
theorem zqG {a:Wl}{w1 U:World}{bk:Nat}{ap an vm:Value}{rs:List Qw}{x0 x1:Int}{a1:Option Addr}{c1:Nat}{b1:Option Addr}{d1:Nat}(ha:ap=.slice a1 a.p.length c1)(hn:an=.slice b1 rs.length d1)
  (hb:zno U bk (.slice none 0 0) (.slice none 0 0) 0 0 (.slice none 0 0) false) (hs:ScV U (.agg #[ap,an]) a.p rs) (hc:ziQ a.p a.sizes (rs.map Qw.x)) (hx:Ext w1 U) (hk:w1.heap.size≤bk) :
  zqE w1 a.p a.sizes x0 x1 vm (.pointer (some ⟨bk,0,none⟩)) ((((((U.setCell ⟨bk,0,none⟩ ap).setCell ⟨bk,1,none⟩ an).setCell ⟨bk,2,none⟩ (.int .i64 x0)).setCell ⟨bk,3,none⟩ (.int .i64 x1)).setCell ⟨bk,4,none⟩ vm).setCell ⟨bk,5,none⟩ (.bool false)):=by
 subst ha hn;have b0:=heap_setCell_same _ _ 0 _ _ (.slice a1 a.p.length c1) hb;have b1':=heap_setCell_same _ _ 1 _ _ (.slice b1 rs.length d1) b0;have b2':=heap_setCell_same _ _ 2 _ _ (.int .i64 x0) b1';have b3:=heap_setCell_same _ _ 3 _ _ (.int .i64 x1) b2';have b4:=heap_setCell_same _ _ 4 _ _ vm b3;have b5:=heap_setCell_same _ _ 5 _ _ (.bool false) b4;generalize hWE:((((((U.setCell ⟨bk,0,none⟩ (.slice a1 a.p.length c1)).setCell ⟨bk,1,none⟩ (.slice b1 rs.length d1)).setCell ⟨bk,2,none⟩ (.int .i64 x0)).setCell ⟨bk,3,none⟩ (.int .i64 x1)).setCell ⟨bk,4,none⟩ vm).setCell ⟨bk,5,none⟩ (.bool false))=WE at *;have hoth:∀ b o,b ≠ bk→WE.cell? ⟨b,o,none⟩=U.cell? ⟨b,o,none⟩:=fun b o hb=>by
  rw [← hWE];refine World.cell?_of_block ?_;dsimp only;rw [heap_setCell_other _ _ _ _ hb,heap_setCell_other _ _ _ _ hb,heap_setCell_other _ _ _ _ hb,heap_setCell_other _ _ _ _ hb,heap_setCell_other _ _ _ _ hb,heap_setCell_other _ _ _ _ hb]
 have hEE:Ext w1 WE:=by
  rw [← hWE];exact (((((hx.setCell hk _).setCell hk _).setCell hk _).setCell hk _).setCell hk _).setCell hk _
 obtain ⟨vp3,vn3,ev3,hsp3,hsn3⟩:=hs;injection ev3 with ev3;injection ev3 with ev3;injection ev3 with ev31 ev32;injection ev32 with ev32 _;subst ev31 ev32;have hlen:∀ r∈rs,0<r.x.length:=fun r hr=>by
  have h1:=(zq2 a hc).wd.len r.x (List.mem_map_of_mem hr);rw [h1];rcases a.pw with e | e <;> rw [e] <;> decide
 have hpz:∀ u∈zap a.p,∀ x∈(#[.slice none 0 0,.slice none 0 0,.int .i64 0,.int .i64 0,.slice none 0 0,.bool false]:Array Value).toList,x ≠ u:=fun u hu x hx e=>by
  subst e;rcases a.pw with e | e <;> rw [e] at hu <;> simp [zap] at hu hx <;> rcases hx with rfl | rfl | rfl | rfl | rfl | rfl <;> simp at hu
 refine ⟨bk,a1,c1,b1,d1,rs,rfl,b5,fun W' hW=>?_,hc,hEE,hk⟩;have hW2:∀ b o u,b ≠ bk→U.cell? ⟨b,o,none⟩=some u→W'.cell? ⟨b,o,none⟩=some u:=fun b o u hb h=>hW b o u hb ((hoth b o hb).trans h);exact ⟨_,_,rfl,zqC hb hsp3 hpz hW2,zqD hb hsn3 (by simp) (by intro a n c h;simp;omega) hlen hW2⟩
theorem zqH (a:Wl)(x0 x1 x2:Int)(vm:Value)(M:List Int)(w:World)(he:Env w)(ha:a.Ok)(hm:Sl w vm (zap M)) :
  Calls Tryz.prog 5 #[a.v,.agg #[.int .i64 x0,.int .i64 x1,.int .i64 x2],vm] w fun e w'=>e=.returned (.bool true)∧Ext w w':=by
 have hkn:=fun W (hE:Ext w W)=>zpB W (he.ext hE);have hmk:=fun W (hE:Ext w W)=>zql a W (he.ext hE) ha;have hE0:Ext w ((w.alloc (.cells a.cs 83)).alloc (.cells #[.int .i64 x0,.int .i64 x1,.int .i64 x2] 84)):=((Ext.refl w).alloc _).alloc _;have hrl:=fun W (hE:Ext ((w.alloc (.cells a.cs 83)).alloc (.cells #[.int .i64 x0,.int .i64 x1,.int .i64 x2] 84)) W)=>zqm a w W (((Ext.refl _).alloc _).trans hE);have hb3:zqB ((w.alloc (.cells a.cs 83)).alloc (.cells #[.int .i64 x0,.int .i64 x1,.int .i64 x2] 84)) (w.heap.size+1) x0 x1 x2:=by
  have:=World.alloc_heap_new (w.alloc (.cells a.cs 83)) (.cells #[.int .i64 x0,.int .i64 x1,.int .i64 x2] 84);rw [World.size_alloc] at this;exact this
 have hun:=Tryz.underlying83;have hin:=zqn a;obtain ⟨am,cm,rfl,_,_,_⟩:=hm.parts;rw [zar] at *;have Hm:=Lib.hid hm;have Hkn:=Lib.hid hkn;have Hmk:=Lib.hid hmk;have Hrl:=Lib.hid hrl;have Hun:=Lib.hid hun;have Hin:=Lib.hid hin;have HE0:=Lib.hid hE0;have Hb3:=Lib.hid hb3;clear hkn hmk hrl hun hin hE0 hb3;have He:=Lib.hid he;clear he ha hm;have hv:a.v=.agg a.cs:=rfl;have Hv:=Lib.hid hv;rw [hv];clear hv;obtain ⟨L,hL⟩:∃ L,L=M.length:=⟨_,rfl⟩;rw [← hL] at Hm ⊢;have HL:=Lib.hid hL;clear hL;rw [zqo];go_enter Tryz.func5,Tryz.ntmps5
 rw [← zqo];by_cases hL4:4<L
 ·have hLi:(4:Int)<(L:Int):=by omega
  go_wp2_with fail
  refine (Hkn.out _ HE0.out).mono ?_;rintro e w1 ⟨rfl,hx1⟩;have Hx1:=Lib.hid (HE0.out.trans hx1);clear hx1;go_wp2_with fail
  refine (Hkn.out _ Hx1.out).mono ?_;rintro e w2 ⟨rfl,hx2⟩;have Hx2:=Lib.hid (Hx1.out.trans hx2);clear hx2;go_wp2_with fail
  go_ret
  exact ⟨rfl,Hx2.out⟩
 ·have hLi:¬ (4:Int)<(L:Int):=by omega
  go_wp2_with fail
  refine (Hkn.out _ HE0.out).mono ?_;generalize ((w.alloc (.cells a.cs 83)).alloc (.cells #[.int .i64 x0,.int .i64 x1,.int .i64 x2] 84))=W0 at *;rintro e w1 ⟨rfl,hx1⟩;have Hx1:=Lib.hid hx1;clear hx1;have hma:∀ W,Ext w W→Calls Tryz.prog 28 #[.agg a.cs.toList.toArray] W fun e w'=>∃ v out,e=.returned v∧ScV w' v a.p out∧ziQ a.p a.sizes (out.map Qw.x)∧Ext W w':=fun W hE=>Hmk.out W hE;have Hma:=Lib.hid hma;clear hma;have hS:=fun W (hE:Ext w1 W)=>(show Ext w1 W∧W.rangeAt w.heap.size 0 a.cs.toList∧W.cell? ⟨w.heap.size+1,0,none⟩=some (.int .i64 x0)∧W.cell? ⟨w.heap.size+1,1,none⟩=some (.int .i64 x1) from
   ⟨hE,Hrl.out W (Hx1.out.trans hE),(show zqB W _ _ _ _ from (Hx1.out.trans hE).heap Hb3.out).c.1,(show zqB W _ _ _ _ from (Hx1.out.trans hE).heap Hb3.out).c.2.1⟩)
  have HS:=Lib.hid hS;clear hS;go_upto_region 3 with (fail)
  go_cut [7] (fun v7 wx=>zqE w1 a.p a.sizes x0 x1 (.slice am L cm) v7 wx)
  case first =>
   refine zfT 9 (fun w'=>Ext w1 w'∧w'.rangeAt w.heap.size 0 a.cs.toList∧w'.cell? ⟨w.heap.size+1,0,none⟩=some (.int .i64 x0)∧w'.cell? ⟨w.heap.size+1,1,none⟩=some (.int .i64 x1)) (by kernel_rfl) (HS.out _ (Ext.refl w1).drew) (fun hHeld=>?_);refine zfP (i:=0) (v:=.agg a.cs.toList.toArray) rfl (by kernel_rfl) (by kernel_rfl) (by kernel_rfl) (by kernel_rfl) (fun _ _ _ h=>h) (yieldsIf_load_mid (by rfl) 83 (.tmp 3) rfl w.heap.size 0 rfl a.cs.toList _ (fun w h=>h.2.1) Hun.out rfl Hin.out) hHeld ?_;refine zfP (i:=2) (v:=?va2) rfl (by kernel_rfl) (by kernel_rfl) (by kernel_rfl) (by kernel_rfl) (fun _ _ _ h=>h) (Or.inl ⟨by rfl,?ya2⟩) hHeld ?ra2
   case ya2=>(intro w hSw;(try dsimp only at hSw);go_simp;try with_reducible rfl)
   case ra2 =>
   refine zfP (i:=3) (v:=?va3) rfl (by kernel_rfl) (by kernel_rfl) (by kernel_rfl) (by kernel_rfl) (fun _ _ _ h=>h) (Or.inl ⟨by rfl,?ya3⟩) hHeld ?ra3
   case ya3=>(intro w hSw;(try dsimp only at hSw);go_simp;try with_reducible rfl)
   case ra3 =>
   refine zfP (i:=4) (v:=?va4) rfl (by kernel_rfl) (by kernel_rfl) (by kernel_rfl) (by kernel_rfl) (fun _ _ _ h=>h) (Or.inl ⟨by rfl,?ya4⟩) hHeld ?ra4
   case ya4=>(intro w hSw;(try dsimp only at hSw);go_simp;try with_reducible rfl)
   case ra4 =>
   refine zfP (i:=5) (v:=?va5) rfl (by kernel_rfl) (by kernel_rfl) (by kernel_rfl) (by kernel_rfl) (fun _ _ _ h=>h) (Or.inl ⟨by rfl,?ya5⟩) hHeld ?ra5
   case ya5=>(intro w hSw;(try dsimp only at hSw);go_simp;try with_reducible rfl)
   case ra5 =>
   refine zfP (i:=6) (v:=?va6) rfl (by kernel_rfl) (by kernel_rfl) (by kernel_rfl) (by kernel_rfl) (fun _ _ _ h=>h) (Or.inl ⟨by rfl,?ya6⟩) hHeld ?ra6
   case ya6=>(intro w hSw;(try dsimp only at hSw);go_simp;try with_reducible rfl)
   case ra6 =>
   have HX:=Lib.hid (Ext.refl w1).drew;refine zpj (i:=1) (j:=8) (by kernel_rfl) rfl rfl (fun K hK=>?_) (fun K hK=>?_)
   ·skip;go_simp
    go_at_call 28
    refine (Hma.out _ ((HE0.out.trans Hx1.out).trans HX.out)).mono ?_;rintro e9 V1 ⟨va,o1,rfl,hs9,hc9,hx9⟩;obtain ⟨a1,c1,b1,d1,rfl,hs9⟩:=znG hs9;have HX:=Lib.hid (HX.out.trans hx9);have HA:=Lib.hid hs9;have HcA:=Lib.hid hc9;clear hs9 hc9 hx9;refine hK.out _ _ (HS.out _ HX.out) (fun hHeld=>?_);clear hK K;refine zfP (i:=7) (v:=?vc1) rfl (by kernel_rfl) (by kernel_rfl) (by kernel_rfl) (by kernel_rfl) (fun _ _ _ h=>h) (Or.inl ⟨by rfl,?yc1⟩) hHeld ?rc1
    case yc1=>(intro w hSw;(try dsimp only at hSw);go_simp;try with_reducible rfl)
    case rc1 =>
    refine zfQ (i:=8) (by kernel_rfl) rfl (fun K hK=>?_);go_simp
    have HB:=Lib.hid (zno.new V1 (.slice none 0 0) (.slice none 0 0) 0 0 (.slice none 0 0) false);have HBK:=Lib.hid HX.out.size;have HX:=Lib.hid (HX.out.alloc (.cells #[.slice none 0 0,.slice none 0 0,.int .i64 0,.int .i64 0,.slice none 0 0,.bool false] 59));have HA:=Lib.hid (HA.out.ext ((Ext.refl V1).alloc (.cells #[.slice none 0 0,.slice none 0 0,.int .i64 0,.int .i64 0,.slice none 0 0,.bool false] 59)));refine hK.out _ _ (HS.out _ HX.out) (fun hHeld=>?_);clear hK K;generalize hU:V1.alloc (.cells #[.slice none 0 0,.slice none 0 0,.int .i64 0,.int .i64 0,.slice none 0 0,.bool false] 59)=U at *;clear hU hHeld;obtain ⟨c0,c1',c2,c3,c4,c5⟩:=HB.out.cs;have z0:=frozen_of_row U V1.heap.size 0 _ _ HB.out;have z1:=frozen_of_row U V1.heap.size 1 _ _ HB.out;have z2:=frozen_of_row U V1.heap.size 2 _ _ HB.out;have z3:=frozen_of_row U V1.heap.size 3 _ _ HB.out;have z4:=frozen_of_row U V1.heap.size 4 _ _ HB.out;have z5:=frozen_of_row U V1.heap.size 5 _ _ HB.out;refine zfR (i:=9) (by kernel_rfl) (by decide) rfl (fun K hK=>?_);go_simp
    refine hK.out _ _ ?_;clear hK K c0 c1' c2 c3 c4 c5 z0 z1 z2 z3 z4 z5;refine zfS (by kernel_rfl) ?_;go_wp2_with fail
    go_meet
    exact zqG rfl rfl HB.out HA.out HcA.out HX.out HBK.out
   ·skip;go_simp
    have HB:=Lib.hid (zno.new w1.drew (.slice none 0 0) (.slice none 0 0) 0 0 (.slice none 0 0) false);have HBK:=Lib.hid (Nat.le_refl w1.heap.size);have HX:=Lib.hid (HX.out.alloc (.cells #[.slice none 0 0,.slice none 0 0,.int .i64 0,.int .i64 0,.slice none 0 0,.bool false] 59));refine hK.out _ _ (HS.out _ HX.out) (fun hHeld=>?_);clear hK K;refine zfQ (i:=1) (by kernel_rfl) rfl (fun K hK=>?_);go_simp
    go_at_call 28
    refine (Hma.out _ ((HE0.out.trans Hx1.out).trans HX.out)).mono ?_;rintro e9 U ⟨va,o1,rfl,hs9,hc9,hx9⟩;obtain ⟨a1,c1,b1,d1,rfl,hs9⟩:=znG hs9;have HX:=Lib.hid (HX.out.trans hx9);have HA:=Lib.hid hs9;have HcA:=Lib.hid hc9;have HB:=Lib.hid (show zno U w1.heap.size _ _ _ _ _ _ from hx9.heap HB.out);clear hs9 hc9 hx9;refine hK.out _ _ (HS.out _ HX.out) (fun hHeld=>?_);clear hK K;refine zfP (i:=7) (v:=?vc2) rfl (by kernel_rfl) (by kernel_rfl) (by kernel_rfl) (by kernel_rfl) (fun _ _ _ h=>h) (Or.inl ⟨by rfl,?yc2⟩) hHeld ?rc2
    case yc2=>(intro w hSw;(try dsimp only at hSw);go_simp;try with_reducible rfl)
    case rc2 =>
    obtain ⟨c0,c1',c2,c3,c4,c5⟩:=HB.out.cs;have z0:=frozen_of_row U w1.heap.size 0 _ _ HB.out;have z1:=frozen_of_row U w1.heap.size 1 _ _ HB.out;have z2:=frozen_of_row U w1.heap.size 2 _ _ HB.out;have z3:=frozen_of_row U w1.heap.size 3 _ _ HB.out;have z4:=frozen_of_row U w1.heap.size 4 _ _ HB.out;have z5:=frozen_of_row U w1.heap.size 5 _ _ HB.out;refine zfR (i:=9) (by kernel_rfl) (by decide) rfl (fun K hK=>?_);go_simp
    refine hK.out _ _ ?_;clear hK K c0 c1' c2 c3 c4 c5 z0 z1 z2 z3 z4 z5;refine zfS (by kernel_rfl) ?_;go_wp2_with fail
    go_meet
    exact zqG rfl rfl HB.out HA.out HcA.out HX.out HBK.out
  case rest =>
   obtain ⟨bk,ap,cp,an,cn,rs,rfl,hb,hfar,hc,hx,hbk⟩:=hcut;have hs:=hfar wc fun b o u _ h=>h;obtain ⟨wa,hwa⟩:∃ wa,wa=wc:=⟨_,rfl⟩;subst hwa;have hw:=zq2 a hc;have hnine:=zqw a hc;have hpos:=hw.wd.pos;rw [List.length_map] at hnine hpos;have hlp:a.p.length=2∨a.p.length=3:=by rcases a.pw with e | e <;> rw [e] <;> simp
   have hX:=(HE0.out.trans Hx1.out).trans hx;have hbk0:w.heap.size≤bk:=Nat.le_trans (HE0.out.trans Hx1.out).size hbk;have c2:=(show zqB wa _ _ _ _ from (Hx1.out.trans hx).heap Hb3.out).c.2.2;have hb1:=hb.cs.2.1;have Hx:=Lib.hid hX;have Hw:=Lib.hid hw;have Hb:=Lib.hid hb;have Hs:=Lib.hid hs;have Hfar:=Lib.hid hfar;clear hs hc hx hw hbk Hma HS hfar;by_cases hx2:x2=1
   case' neg =>
    have hx3:(x2 == 1)=false:=(by simpa using hx2);obtain ⟨W5,an5,cn5,rs5,ce,hW5,hb5,hs5,hck,hl5,hx5⟩:∃ (W5:World)(an5:Option Addr)(cn5:Nat)(rs5:List Qw)(ce:Int),Hid (W5=wa)∧zno W5 bk (.slice ap a.p.length cp) (.slice an5 rs5.length cn5) x0 x1 (.slice am L cm) false∧ScV W5 (.agg #[.slice ap a.p.length cp,.slice an5 rs5.length cn5]) a.p rs5∧zq9 a.p rs5 ce∧rs5.length≤12∧Ext w W5 :=
     ⟨wa,an,cn,rs,0,Lib.hid rfl,Hb.out,Hs.out,.inl ⟨rfl,Hw.out.wd⟩,by omega,Hx.out⟩
    have hW:=hW5.out;subst hW;obtain ⟨q0,q1,q2,q3,q4,q5⟩:=hb5.cs;have Hb5:=Lib.hid hb5;have Hs5:=Lib.hid hs5;have Hck:=Lib.hid hck;have Hx5:=Lib.hid hx5;clear hb5 hs5 hck hx5 hb1;go_wp2_with fail
   case' pos =>
    have hx3:(x2 == 1)=true:=(by simpa using hx2);have hni:(0:Int)<(rs.length:Int):=(by omega);obtain ⟨r0,hr0⟩:∃ r,rs[0]?=some r:=⟨_,List.getElem?_eq_getElem hpos⟩;have hwr:zpE a.p (rs++[r0]) rs.length:=Hw.out.wd.wrong r0 (by rw [hr0];rfl) (by omega);obtain ⟨vpx,vnx,evx,hpl,hrm⟩:=Hs.out;injection evx with evx;injection evx with evx;injection evx with ev1 ev2;injection ev2 with ev2 _;subst ev1 ev2;obtain ⟨hz9,hnc,hcap,hcc⟩:=zqF hrm.1;clear hz9;obtain ⟨bn,on,rfl,hr0c⟩:=hcc 0 r0.u (by unfold qwc;rw [List.getElem?_map,hr0];rfl);rw [Nat.add_zero] at hr0c;have hr0d:=hrm.2 r0 (List.mem_of_getElem? hr0);have hr0l:r0.x.length=a.p.length:=Hw.out.wd.len _ (List.mem_map_of_mem (List.mem_of_getElem? hr0));obtain ⟨r0a,r0c,hr0u,_⟩:=hr0d.parts;rw [hr0l] at hr0u;rw [hr0u] at hr0c;obtain ⟨j0,hj,hy0,hy1,hy2⟩:=info_parts zfy;have hcells:∀ j u,(qwc rs)[j]?=some u→wa.cell? ⟨bn,on+j,none⟩=some u:=fun j u hu=>by
     obtain ⟨b9,o9,e9,h9⟩:=hcc j u hu;injection e9 with e9;injection e9 with e9 e10;subst e9 e10;exact h9
    have hql:(qwc rs).length=rs.length * 1:=(by rw [zfz,Nat.mul_one]);have Hwr:=Lib.hid hwr;have Hr0:=Lib.hid hr0;have Hr0u:=Lib.hid hr0u;have Hpl:=Lib.hid hpl;have Hrm:=Lib.hid hrm;have Hcells:=Lib.hid hcells;have Hql:=Lib.hid hql;clear hwr hr0 hr0u hpl hrm hcells hcc hr0d hr0l hql Hs;generalize hn:rs.length=n at *;have Hn:=Lib.hid hn;clear hn;have h63:n+1≤maxLen:=(by unfold maxLen;omega);have h24:(n+1) * 24≤140737488355328:=(by omega);have hnn:n<n+1:=(by omega);go_wp2_with fail
    refine zfT 21 (fun W'=>W'.cell? ⟨bk,1,none⟩=some (.slice (some ⟨bn,on,none⟩) n cn)∧W'.cell? ⟨bn,on,none⟩=some (.slice r0a a.p.length r0c)) (by kernel_rfl) ⟨(Ext.refl wa).drew.cell hb1,(Ext.refl wa).drew.cell hr0c⟩ (fun hHeld=>?_);refine zfP (i:=0) (v:=?wa0) rfl (by kernel_rfl) (by kernel_rfl) (by kernel_rfl) (by kernel_rfl) (fun _ _ _ h=>h) (Or.inl ⟨by rfl,?wy0⟩) hHeld ?wr0
    case wy0=>(intro w hSw;(try dsimp only at hSw);go_simp;try with_reducible rfl)
    case' wr0 =>
    refine zfP (i:=1) (v:=?wa1) rfl (by kernel_rfl) (by kernel_rfl) (by kernel_rfl) (by kernel_rfl) (fun _ _ _ h=>h) (Or.inl ⟨by rfl,?wy1⟩) hHeld ?wr1
    case wy1=>(intro w hSw;(try dsimp only at hSw);go_simp;try with_reducible rfl)
    case' wr1 =>
    refine zfP (i:=2) (v:=?wa2) rfl (by kernel_rfl) (by kernel_rfl) (by kernel_rfl) (by kernel_rfl) (fun _ _ _ h=>h) (Or.inl ⟨by rfl,?wy2⟩) hHeld ?wr2
    case wy2=>(intro w hSw;(try dsimp only at hSw);go_simp;try with_reducible rfl)
    case' wr2 =>
    refine zfP (i:=3) (v:=?wa3) rfl (by kernel_rfl) (by kernel_rfl) (by kernel_rfl) (by kernel_rfl) (fun _ _ _ h=>h) (Or.inl ⟨by rfl,?wy3⟩) hHeld ?wr3
    case wy3=>(intro w hSw;(try dsimp only at hSw);go_simp;try with_reducible rfl)
    case' wr3 =>
    refine zfP (i:=4) (v:=?wa4) rfl (by kernel_rfl) (by kernel_rfl) (by kernel_rfl) (by kernel_rfl) (fun _ _ _ h=>h) (Or.inl ⟨by rfl,?wy4⟩) hHeld ?wr4
    case wy4=>(intro w hSw;(try dsimp only at hSw);go_simp;try with_reducible rfl)
    case' wr4 =>
    refine zfP (i:=5) (v:=?wa5) rfl (by kernel_rfl) (by kernel_rfl) (by kernel_rfl) (by kernel_rfl) (fun _ _ _ h=>h) (Or.inl ⟨by rfl,?wy5⟩) hHeld ?wr5
    case wy5=>(intro w hSw;(try dsimp only at hSw);go_simp;try with_reducible rfl)
    case' wr5 =>
    refine zfP (i:=6) (v:=?wa6) rfl (by kernel_rfl) (by kernel_rfl) (by kernel_rfl) (by kernel_rfl) (fun _ _ _ h=>h) (Or.inl ⟨by rfl,?wy6⟩) hHeld ?wr6
    case wy6=>(intro w hSw;(try dsimp only at hSw);go_simp;try with_reducible rfl)
    case' wr6 =>
    refine zfP (i:=7) (v:=?wa7) rfl (by kernel_rfl) (by kernel_rfl) (by kernel_rfl) (by kernel_rfl) (fun _ _ _ h=>h) (Or.inl ⟨by rfl,?wy7⟩) hHeld ?wr7
    case wy7=>(intro w hSw;(try dsimp only at hSw);go_simp;try with_reducible rfl)
    case' wr7 =>
    refine zfP (i:=8) (v:=?wa8) rfl (by kernel_rfl) (by kernel_rfl) (by kernel_rfl) (by kernel_rfl) (fun _ _ _ h=>h) (Or.inl ⟨by rfl,?wy8⟩) hHeld ?wr8
    case wy8=>(intro w hSw;(try dsimp only at hSw);go_simp;try with_reducible rfl)
    case' wr8 =>
    refine zfP (i:=9) (v:=?wa9) rfl (by kernel_rfl) (by kernel_rfl) (by kernel_rfl) (by kernel_rfl) (fun _ _ _ h=>h) (Or.inl ⟨by rfl,?wy9⟩) hHeld ?wr9
    case wy9=>(intro w hSw;(try dsimp only at hSw);go_simp;try with_reducible rfl)
    case' wr9 =>
    refine zfP (i:=10) (v:=?wa10) rfl (by kernel_rfl) (by kernel_rfl) (by kernel_rfl) (by kernel_rfl) (fun _ _ _ h=>h) (Or.inl ⟨by rfl,?wy10⟩) hHeld ?wr10
    case wy10=>(intro w hSw;(try dsimp only at hSw);go_simp;try with_reducible rfl)
    case' wr10 =>
    refine zfP (i:=11) (v:=?wa11) rfl (by kernel_rfl) (by kernel_rfl) (by kernel_rfl) (by kernel_rfl) (fun _ _ _ h=>h) (Or.inl ⟨by rfl,?wy11⟩) hHeld ?wr11
    case wy11=>(intro w hSw;(try dsimp only at hSw);go_simp;try with_reducible rfl)
    case' wr11 =>
    refine zfP (i:=12) (v:=?wa12) rfl (by kernel_rfl) (by kernel_rfl) (by kernel_rfl) (by kernel_rfl) (fun _ _ _ h=>h) (Or.inl ⟨by rfl,?wy12⟩) hHeld ?wr12
    case wy12=>(intro w hSw;(try dsimp only at hSw);go_simp;try with_reducible rfl)
    case' wr12 =>
    refine zfP (i:=13) (v:=?wa13) rfl (by kernel_rfl) (by kernel_rfl) (by kernel_rfl) (by kernel_rfl) (fun _ _ _ h=>h) (Or.inl ⟨by rfl,?wy13⟩) hHeld ?wr13
    case wy13=>(intro w hSw;(try dsimp only at hSw);go_simp;try with_reducible rfl)
    case' wr13 =>
    refine zfP (i:=14) (v:=?wa14) rfl (by kernel_rfl) (by kernel_rfl) (by kernel_rfl) (by kernel_rfl) (fun _ _ _ h=>h) (Or.inl ⟨by rfl,?wy14⟩) hHeld ?wr14
    case wy14=>(intro w hSw;(try dsimp only at hSw);go_simp;try with_reducible rfl)
    case' wr14 =>
    refine zfP (i:=15) (v:=?wa15) rfl (by kernel_rfl) (by kernel_rfl) (by kernel_rfl) (by kernel_rfl) (fun _ _ _ h=>h) (Or.inl ⟨by rfl,?wy15⟩) hHeld ?wr15
    case wy15=>(intro w hSw;(try dsimp only at hSw);go_simp;try with_reducible rfl)
    case' wr15 =>
    refine zfP (i:=16) (v:=?wa16) rfl (by kernel_rfl) (by kernel_rfl) (by kernel_rfl) (by kernel_rfl) (fun _ _ _ h=>h) (Or.inl ⟨by rfl,?wy16⟩) hHeld ?wr16
    case wy16=>(intro w hSw;(try dsimp only at hSw);go_simp;try with_reducible rfl)
    case' wr16 =>
    refine zfQ (i:=17) (by kernel_rfl) rfl (fun K hK=>?_);go_simp
    have HX7:=Lib.hid ((Ext.refl wa).alloc (.cells #[.slice r0a a.p.length r0c] 41)).drew;refine hK.out _ _ ⟨HX7.out.cell hb1,HX7.out.cell hr0c⟩ (fun hHeld=>?_);clear hK K;refine zfQ (i:=18) (by kernel_rfl) rfl (fun K hK=>?_);refine step_append_grows rfl (.tmp 59) (.tmp 65) 26 rfl 41 j0 (.slice none 0 0) 1 24 Tryz.underlying26 hj hy0 hy1 hy2 rfl (by decide) (some ⟨bn,on,none⟩) n n (qwc rs) (by rfl) (fun h=>by cases h) Hql.out (fun b h j u hu=>by cases h;rw [Addr.add_lit];exact HX7.out.cell (Hcells.out j u hu)) ⟨wa.heap.size,0,none⟩ 1 1 [.slice r0a a.p.length r0c] (by rfl) rfl (fun j u hu=>(Ext.refl _).drew.cell (cell_one_new wa _ _ j u hu)) (by simp [Value.oneCell']) hnn h63 h24 ?_;intro v8 wB ho8 hg8;obtain ⟨a8,c8,rfl⟩:=zfi ho8;have HxB:=Lib.hid (HX7.out.grown hg8 (fun r e=>by cases e));have Ho8:=Lib.hid ho8;clear ho8 hg8;refine hK.out _ _ ⟨HxB.out.cell hb1,HxB.out.cell hr0c⟩ (fun hHeld=>?_);clear hK K;refine zfP (i:=19) (v:=?wa19) rfl (by kernel_rfl) (by kernel_rfl) (by kernel_rfl) (by kernel_rfl) (fun _ _ _ h=>h) (Or.inl ⟨by rfl,?wy19⟩) hHeld ?wr19
    case wy19=>(intro w hSw;(try dsimp only at hSw);go_simp;try with_reducible rfl)
    case' wr19 =>
    refine zfP (i:=20) (v:=?wa20) rfl (by kernel_rfl) (by kernel_rfl) (by kernel_rfl) (by kernel_rfl) (fun _ _ _ h=>h) (Or.inl ⟨by rfl,?wy20⟩) hHeld ?wr20
    case wy20=>(intro w hSw;(try dsimp only at hSw);go_simp;try with_reducible rfl)
    case' wr20 =>
    have hbB:zno wB bk (.slice ap a.p.length cp) (.slice (some ⟨bn,on,none⟩) n cn) x0 x1 (.slice am L cm) false:=HxB.out.heap Hb.out;have cB:=hbB.cs.2.1;have zB9:=frozen_of_row wB bk 1 _ _ hbB;have HbB:=Lib.hid hbB;clear hbB;refine zfR (i:=21) (by kernel_rfl) (by decide) rfl (fun K hK=>?_);go_simp
    refine hK.out _ _ ?_;clear hK K cB zB9 hHeld;refine zfS (by kernel_rfl) ?_;obtain ⟨W5,an5,cn5,rs5,ce,hW5,hb5,hs5,hck,hl5,hx5⟩:∃ (W5:World)(an5:Option Addr)(cn5:Nat)(rs5:List Qw)(ce:Int),Hid (W5=wB.setCell ⟨bk,1,none⟩ (.slice a8 (n+1) c8))∧zno W5 bk (.slice ap a.p.length cp) (.slice an5 rs5.length cn5) x0 x1 (.slice am L cm) false∧ScV W5 (.agg #[.slice ap a.p.length cp,.slice an5 rs5.length cn5]) a.p rs5∧zq9 a.p rs5 ce∧rs5.length≤12∧Ext w W5:=by
     have hl9:(rs++[r0]).length=n+1:=(by rw [List.length_append,List.length_singleton,Hn.out]);have hb9:zno (wB.setCell ⟨bk,1,none⟩ (.slice a8 (n+1) c8)) bk (.slice ap a.p.length cp) (.slice a8 (n+1) c8) x0 x1 (.slice am L cm) false:=heap_setCell_same _ _ 1 _ _ (.slice a8 (n+1) c8) HbB.out;have hsv:=Hfar.out (wB.setCell ⟨bk,1,none⟩ (.slice a8 (n+1) c8)) fun b o u hb h=>by
      rw [World.cell?_of_block (show (wB.setCell ⟨bk,1,none⟩ (.slice a8 (n+1) c8)).heap[b]?=wB.heap[b]? from heap_setCell_other _ _ _ _ hb)];exact HxB.out.cell h
     obtain ⟨vp9,vn9,ev9,hp9,hn9⟩:=hsv;injection ev9 with ev9;injection ev9 with ev9;injection ev9 with ev1 ev2;injection ev2 with ev2 _;subst ev1 ev2;have ho9:=zga HbB.out Ho8.out (by decide) 1 (.slice a8 (n+1) c8);refine ⟨_,a8,c8,rs++[r0],6,Lib.hid rfl,by rw [hl9];exact hb9,⟨_,_,rfl,hp9,?_,?_⟩,.inr ⟨rfl,_,Hwr.out⟩,by omega,(Hx.out.trans HxB.out).setCell hbk0 _⟩
     ·have h1:=zan ho9;rw [hl9,show qwc (rs++[r0])=qwc rs++[.slice r0a a.p.length r0c] by unfold qwc;rw [List.map_append,← Hr0u.out];rfl];exact h1
     ·intro r hr;rcases List.mem_append.1 hr with h | h
      ·exact hn9.2 r h
      ·rw [List.mem_singleton] at h;subst h;exact hn9.2 r (List.mem_of_getElem? Hr0.out)
    have hW:=hW5.out;rw [← hW];obtain ⟨q0,q1,q2,q3,q4,q5⟩:=hb5.cs;have Hb5:=Lib.hid hb5;have Hs5:=Lib.hid hs5;have Hck:=Lib.hid hck;have Hx5:=Lib.hid hx5;clear hb5 hs5 hck hx5 hb1 hW hr0c hni;go_wp2_with fail
   all_goals
    clear q0 q1 q2 q3 q4 q5;have hqv:QyV W5 (.agg #[.slice ap a.p.length cp,.slice an5 rs5.length cn5,.int .i64 x0,.int .i64 x1,.slice am L cm,.bool false]) a.p rs5 x0 x1 M false:=by
     obtain ⟨vp9,vn9,ev9,hp9,hn9⟩:=Hs5.out;injection ev9 with ev9;injection ev9 with ev9;injection ev9 with ev1 ev2;injection ev2 with ev2 _;subst ev1 ev2;exact ⟨_,_,_,rfl,hp9,hn9,Hx5.out.sl Hm.out⟩
    have hML:M.length≤1000000:=(by have:=HL.out;omega);have hlc:=fun W (hE:Ext W5 W)=>zpD _ a.p rs5 x0 x1 M false ce W (hqv.ext hE) hML (fun W' sv hx hs=>zqA Hck.out sv W' (He.out.ext (Hx5.out.trans (hE.trans hx))) hs);have hqc:=fun W (hE:Ext W5 W)=>znt _ a.p rs5 x0 x1 M false ce W (hqv.ext hE) hML (fun W' sv hx hs=>zqA Hck.out sv W' (He.out.ext (Hx5.out.trans (hE.trans hx))) hs);obtain ⟨E,hE⟩:∃ E,E=orE ce (znq rs5.length x0 x1 M):=⟨_,rfl⟩;rw [← hE] at hlc hqc;have HE:=Lib.hid hE;have Hqv:=Lib.hid hqv;have Hlc:=Lib.hid hlc;have Hqc:=Lib.hid hqc;clear hE hqv hlc hqc hML;generalize hn5:rs5.length=n5 at *;have Hn5:=Lib.hid hn5;clear hn5;refine (Hlc.out _ (Ext.refl _)).mono ?_;rintro e w6 ⟨rfl,hx6⟩;obtain ⟨q0,q1,q2,q3,q4,q5⟩:=(Hb5.out.ext hx6).cs;have Hx6:=Lib.hid hx6;clear hx6;go_wp2_with fail
    refine (Hqc.out _ Hx6.out).mono ?_;rintro e w7 ⟨rfl,hx7⟩;obtain ⟨q0,q1,q2,q3,q4,q5⟩:=(Hb5.out.ext (Hx6.out.trans hx7)).cs;have Hx7:=Lib.hid (Hx6.out.trans hx7);clear hx7;have hEE:(E == E)=true:=beq_self_eq_true E;have hEN:(E != E)=false:=(by simp);by_cases hE0:E=0
    ·obtain ⟨hce,hqe⟩:ce=0∧znq rs5.length x0 x1 M=0:=by
      have h:=HE.out;rw [hE0,Hn5.out.symm] at h;rcases Hck.out with ⟨rfl,_⟩ | ⟨rfl,_⟩
      ·rw [znr,Hn5.out] at h;rw [Hn5.out];exact ⟨rfl,h.symm⟩
      ·rw [zns _ (by decide)] at h;exact absurd h (by decide)
     have hwd:Wd a.p (rs5.map Qw.x):=by
      rcases Hck.out with ⟨_,h⟩ | ⟨e,_⟩
      ·exact h
      ·rw [hce] at e;exact absurd e (by decide)
     obtain ⟨g1,g2,gM⟩:¬ x0<1∧¬ (rs5.length:Int)<x0∧zj3 rs5.length M 0 M.length=0:=by
      have hq:=hqe;unfold znq at hq;split at hq
      ·cases hq
      ·split at hq
       ·cases hq
       ·rename_i a _;exact ⟨fun e=>a (.inl e),fun e=>a (.inr e),hq⟩
     have hso:=zj8 gM;have hMn:M.length≤rs5.length:=zpz hso.1 hso.2;have hl6:rs5.length≤12:=(by rw [Hn5.out];exact hl5);have hcd:=fun W (hE:Ext W5 W)=>zo5 _ a.p rs5 x0 x1 M false W (He.out.ext (Hx5.out.trans hE)) (Hqv.out.ext hE) hwd (by omega) (by omega) (by omega) hMn hqe;have hcf:=fun W (hE:Ext W5 W)=>zpZ (rs5.length - M.length) (x0 - (M.length:Int)) W (He.out.ext (Hx5.out.trans hE)) (by omega) (by omega);rw [show ((rs5.length - M.length:Nat):Int)=(rs5.length:Int) - (M.length:Int) by omega] at hcf;have hcn:(if x0 - (M.length:Int)<0 then (0:Int) else zn2 ((rs5.length:Int) - (M.length:Int)) (x0 - (M.length:Int)).toNat)=zn9 rs5.length x0 M.length:=by
      unfold zn9;rw [show ((rs5.length - M.length:Nat):Int)=(rs5.length:Int) - (M.length:Int) by omega]
     rw [hcn] at hcf;rw [← HL.out] at hcd hcf hMn;rw [Hn5.out] at hcd hcf g2 hMn;generalize I (zn9 n5 x0 L)=S at *;have hw1:IntKind.i64.wrap ((n5:Int) - (L:Int))=(n5:Int) - (L:Int):=IntWalk.i64_in _ (by omega);have hw2:IntKind.i64.wrap (x0 - (L:Int))=x0 - (L:Int):=IntWalk.i64_in _ (by omega);have Hcd:=Lib.hid hcd;have Hcf:=Lib.hid hcf;clear hcd hcf hcn hso hwd hqe hce gM;subst hE0;go_wp2_with fail
     refine (Hcd.out _ Hx7.out).mono ?_;rintro e w8 ⟨rfl,hx8⟩;have Hx8:=Lib.hid (Hx7.out.trans hx8);obtain ⟨q0,q1,q2,q3,q4,q5⟩:=(Hb5.out.ext Hx8.out).cs;clear hx8;go_wp2_with fail
     refine (Hcf.out _ Hx8.out).mono ?_;rintro e w9 ⟨rfl,hx9⟩;have Hx9:=Lib.hid (Hx5.out.trans (Hx8.out.trans hx9));clear hx9 q0 q1 q2 q3 q4 q5;go_wp2_with fail
     go_ret
     exact ⟨by simp,Hx9.out⟩
    ·have hz1:(E == 0)=false:=(by simpa using hE0);have hz2:(E != 0)=true:=(by simpa using hE0);have hbq:=fun W (hE:Ext W5 W)=>(show zpH W (.agg #[.slice ap a.p.length cp,.slice an5 n5 cn5,.int .i64 x0,.int .i64 x1,.slice am L cm,.bool false]) E from ⟨hE0,fun W' hx=>Hqc.out W' (hE.trans hx)⟩);have hqs:QyS (.agg #[.slice ap a.p.length cp,.slice an5 n5 cn5,.int .i64 x0,.int .i64 x1,.slice am L cm,.bool false]):=⟨_,_,_,_,_,_,_,_,_,_,_,_,rfl⟩;have Hcd:=Lib.hid (fun W (hE:Ext W5 W)=>zpO _ E W hqs (hbq W hE));have Hft:=Lib.hid (fun W vl (hE:Ext W5 W)(hl:∃ al L cl,vl=Value.slice al L cl)=>zpP _ vl E W hqs (hbq W hE) hl);have Hal:=Lib.hid (fun W (hE:Ext W5 W)=>zpK _ E W hqs ((hbq W hE).s hqs));have Hct:=Lib.hid (fun W (hE:Ext W5 W)=>zpM _ E W hqs ((hbq W hE).s hqs));have Hnx:=Lib.hid (fun W (hE:Ext W5 W)=>zpN _ (.slice none 0 0) E W hqs ((hbq W hE).s hqs) ⟨_,_,_,rfl⟩ hE0);have Hsc:=Lib.hid (fun W (hE:Ext W5 W)=>zpL _ E W hqs ((hbq W hE).s hqs));clear hbq hqs hE0;go_wp2_with fail
     refine (Hcd.out _ Hx7.out).mono ?_;rintro e w8 ⟨rfl,hx8⟩;have Hx8:=Lib.hid (Hx7.out.trans hx8);have HxA:=Lib.hid ((Hx7.out.trans hx8).alloc (.cells #[.int .i64 0] 3));obtain ⟨q0,q1,q2,q3,q4,q5⟩:=(Hb5.out.ext Hx8.out).cs;clear hx8;go_wp2_with fail
     refine (Hft.out _ _ HxA.out ⟨_,_,_,rfl⟩).mono ?_;rintro e w9 ⟨rfl,hx9⟩;have Hx9:=Lib.hid (HxA.out.trans hx9);obtain ⟨q0,q1,q2,q3,q4,q5⟩:=(Hb5.out.ext Hx9.out).cs;clear hx9;go_wp2_with fail
     refine (Hal.out _ Hx9.out).mono ?_;rintro e w10 ⟨rfl,hx10⟩;have Hx10:=Lib.hid (Hx9.out.trans hx10);obtain ⟨q0,q1,q2,q3,q4,q5⟩:=(Hb5.out.ext Hx10.out).cs;clear hx10;go_wp2_with fail
     refine (Hct.out _ Hx10.out).mono ?_;rintro e w11 ⟨rfl,hx11⟩;have Hx11:=Lib.hid (Hx10.out.trans hx11);obtain ⟨q0,q1,q2,q3,q4,q5⟩:=(Hb5.out.ext Hx11.out).cs;clear hx11;go_wp2_with fail
     refine (Hnx.out _ Hx11.out).mono ?_;rintro e w12 ⟨rfl,hx12⟩;have Hx12:=Lib.hid (Hx11.out.trans hx12);obtain ⟨q0,q1,q2,q3,q4,q5⟩:=(Hb5.out.ext Hx12.out).cs;clear hx12;go_wp2_with fail
     refine (Hsc.out _ Hx12.out).mono ?_;rintro e w13 ⟨rfl,hx13⟩;have Hx13:=Lib.hid (Hx5.out.trans (Hx12.out.trans hx13));clear hx13 q0 q1 q2 q3 q4 q5;go_wp2_with fail
     go_ret
     exact ⟨by simp,Hx13.out⟩
end
section
open Go.ChangeShapes Go.WideShapes Go.ChangeAt Go.WideMaps Go.WideElems Go.RowKit
theorem zqI {n:Int}(h:(Lit.int .u8 n).wf=true):0≤n∧n≤255:=by
 simp [Lit.wf,IntKind.min,IntKind.max,IntKind.signed,IntKind.bits] at h;omega
section
variable {H : Type} {enc : TypeId × Value → H} {P : Program}
theorem zqJ {f:Func}{s:ChangeSpec}{apart fresh handsOn again:Bool}{W W':World}{args:Array Value}{v:Value}{ds gs:List (DataW H)}{before pa pv:List MemPlace}
  (hW:DataW.Whole enc P f.params.toList s.vars apart W args.toList ds gs before)
  (hres:∀ (b:Nat)(sp:Nat→Bool)(hd:Bool),DataW.TrodAll enc P W' b sp hd f.resultTypes.toList (v.resultList f.resultTypes.size) (s.fn H (ds++gs)).results [])
  (hargs:∀ sp:Nat→Bool,(∀ p∈before,sp p.block=true)→DataW.TrodAll enc P W' 0 sp true f.params.toList args.toList (s.fn H (ds++gs)).args pa)
  (hvars:∀ sp:Nat→Bool,(∀ p∈before,sp p.block=true)→DataW.TrodVars enc P W' sp s.vars (s.fn H (ds++gs)).vars pv)
  (hps:before=pa++pv) (hb:Below W.heap.size W W')
  (hok:∀ (j:Nat)(t:TypeId)(r:Value),f.resultTypes[j]?=some t→(v.resultList f.resultTypes.size)[j]?=some r→Value.okWide P W' .any 0 t r) :
  s.post enc P f apart fresh handsOn again W args v W':=by
 have hlt:∀ p∈before,p.block<W.heap.size:=fun p hp=>hW.lt p hp;have hold:∀ p∈before,(fun b=>decide (b<W.heap.size)) p.block=true:=fun p hp=>by simpa using hlt p hp
 refine ⟨ds,gs,before,[],pa,pv,hW,hres _ _ _,hargs _ hold,hvars _ hold,World.keptBut_mono (fun p hp=>⟨hp,?_⟩) (hb.frame (·∈before)),fun _=>?_⟩
 ·rw [hps,List.mem_append] at hp;exact Or.inr hp
 ·obtain ⟨_,_,_,_,_,hz,hn⟩:=hW;refine ⟨hok,_,_,([]++pa)++pv,⟨[]++pa,pv,trodAll_append (hargs _ (fun _ _=>rfl)) (hres _ _ _),hvars _ (fun _ _=>rfl),rfl,?_,?_⟩,?_⟩
  ·intro b off hp;have hin:MemPlace.cell b off∈before:=(by rw [hps];simpa using hp);rw [hb.frozen (hlt _ hin)];exact hz b off hin
  ·intro ha;have:=hn ha;rw [hps] at this;simpa using this
  ·intro p hp _;rw [hps];simpa using hp
end
theorem zqK : ownKnob Tryz.prog.godebug=none:=by kernel_rfl
theorem zqL : (Tryz.prog.globals[0]?).map (·.type)=some 322:=by kernel_rfl
theorem zqM : Tryz.prog.cellsOf 221=1:=by kernel_rfl
theorem zqN : Tryz.prog.cellsOf 322=20:=by kernel_rfl
theorem zqO {W : World} (h : laidMetH Tryz.prog [("math/bits.deBruijn32tab", Rows.laid_math_bits_deBruijn32tab), ("math/bits.deBruijn64tab", Rows.laid_math_bits_deBruijn64tab), ("internal/strconv.uint64pow10", Rows.laid_internal_strconv_uint64pow10), ("strconv.ErrRange", Rows.laid_strconv_ErrRange), ("strconv.ErrSyntax", Rows.laid_strconv_ErrSyntax)] W) : Env W := by
 rw [MakeChecks.laidMetH_plain _ _ _ (by kernel_rfl)] at h;exact Lib.tabIs_of_head (k:=.u64) (zs:=Lib.pow10Tab) za3 zqL Tryz.underlying322 Tryz.underlying221 zqM zqN h.tail.tail
def zqP : List (String × DataW Unit) := [("math/bits.deBruijn32tab", Rows.laid_math_bits_deBruijn32tab), ("math/bits.deBruijn64tab", Rows.laid_math_bits_deBruijn64tab), ("internal/strconv.uint64pow10", Rows.laid_internal_strconv_uint64pow10), ("strconv.ErrRange", Rows.laid_strconv_ErrRange), ("strconv.ErrSyntax", Rows.laid_strconv_ErrSyntax)]
theorem zqQ (os:Os)(args:Array Value):((World.laidAll Tryz.prog os zqP).forCall (fun _ _=>0) ⟨#[],args,[]⟩).Shaped Tryz.prog:=World.shaped_of_ZipB (by kernel_rfl) (by kernel_rfl)
theorem zqR (os:Os)(args:Array Value):laidMetH Tryz.prog zqP ((World.laidAll Tryz.prog os zqP).forCall (fun _ _=>0) ⟨#[],args,[]⟩).memory:=by
 rw [MakeChecks.laidMetH_plain _ _ _ (by kernel_rfl)];exact laidMet_laidAll _ (by kernel_rfl) (by kernel_rfl)
theorem zqS : laidOutB Tryz.prog=true:=by kernel_rfl
section
variable {H : Type} {enc : TypeId × Value → H} {W W' : World} {sp : Nat → Bool}
theorem zqT : ∀ {ts:List TypeId}{vs:List Value}{ds:List (DataW H)}{ps:List MemPlace},(∀ t∈ts,Tryz.prog.readableRec t=true∧t<Tryz.prog.types.size) →
  DataW.TrodAll enc Tryz.prog W 0 (fun _=>true) true ts vs ds ps→(∀ x∈ps,W.sameAt W' x)→(∀ x∈ps,sp x.block=true)→DataW.TrodAll enc Tryz.prog W' 0 sp true ts vs ds ps
 | [],_,_,_,_,h,_,_=>by
  obtain ⟨rfl,rfl,rfl⟩:=trodAll_nil h;exact trodAll_mk0
 | t::ts,vs,ds,ps,hts,h,hs,hp=>by
  obtain ⟨v,vs',d,ds',p,p',rfl,rfl,rfl,h1,h2⟩:=trodAll_cons h;obtain ⟨hr,hw⟩:=hts t (List.mem_cons_self ..);exact trodAll_cons_mk (WideElems.Trod_stays zqS hr hw h1 (fun x hx=>hs x (List.mem_append_left _ hx)) (fun x hx=>hp x (List.mem_append_left _ hx)))
   (zqT (fun t ht=>hts t (List.mem_cons_of_mem _ ht)) h2 (fun x hx=>hs x (List.mem_append_right _ hx)) (fun x hx=>hp x (List.mem_append_right _ hx)))
end
theorem zqU {H:Type}{enc:TypeId × Value→H}{f:Func}{s:ChangeSpec}{W W':World}{args:Array Value}{ds:List (DataW H)}{before:List MemPlace}(hv:s.vars=[])(hts:∀ t∈f.params.toList,Tryz.prog.readableRec t=true∧t<Tryz.prog.types.size)
  (hres:f.resultTypes=#[4]) (hfn:s.fn H ds={ results:=[.lit (.bool true)],args:=ds })
  (hW:DataW.Whole enc Tryz.prog f.params.toList s.vars false W args.toList ds [] before) (hb:Below W.heap.size W W'):s.post enc Tryz.prog f false true false false W args (.bool true) W':=by
 have hW':=hW;obtain ⟨p,q,hA0,hV,rfl,_,_⟩:=hW;rw [hv] at hV;obtain ⟨_,rfl⟩:=trodVars_none hV;have hlt:∀ x∈p++[],x.block<W.heap.size:=fun x hx=>hW'.lt x hx;refine zqJ (pa:=p) (pv:=[]) hW' (fun _ _ _=>?_) (fun sp hsp=>?_) (fun _ _=>?_) rfl hb ?_
 ·rw [List.append_nil,hfn,hres];exact trodAll_mk1 (shut_bool Tryz.underlying4 _)
 ·rw [List.append_nil,hfn];exact zqT hts hA0 (fun x hx=>hb.same (hlt x (List.mem_append_left _ hx))) (fun x hx=>hsp x (List.mem_append_left _ hx))
 ·rw [List.append_nil,hfn,hv];rfl
 ·exact ok_one hres rfl (okWide_bool_mk Tryz.underlying4 _)
end
end Go.Proofs.YtebabancfnmfjaaGreatDoor
