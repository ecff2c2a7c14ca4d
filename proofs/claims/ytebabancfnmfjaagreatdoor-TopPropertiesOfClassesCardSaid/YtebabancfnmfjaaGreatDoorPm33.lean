/- Walks: subset: the number of candidates, and whether there are few. Walks: slices.IndexFunc and slices.ContainsFunc at ints, with a closure that makes memory; slices.Contains at ints. What a round of a search leaves where a subset is added. A region that draws, within a round of a loop over a function, at the wide fence: by the walk that holds a statement. Walks: scale.two, scale.Same. Walks: scale.Rotation. -/
import Derived.Test.YtebabancfnmfjaaGreatDoorPm29
import Derived.Test.YtebabancfnmfjaaGreatDoorPm32
import Derived.Test.YtebabancfnmfjaaGreatDoorPm28
import Derived.Test.YtebabancfnmfjaaGreatDoorShelfH
import Derived.Shelf.SlicesE.Index
import Derived.Shelf.Abstract
import Derived.Test.YtebabancfnmfjaaGreatDoorPm10
import Derived.Test.YtebabancfnmfjaaGreatDoorPm00
import Derived.Deep.RegionHeld3
import Derived.Test.YtebabancfnmfjaaGreatDoorPm08
import Derived.Test.YtebabancfnmfjaaGreatDoorPm23
import Derived.Test.YtebabancfnmfjaaGreatDoorPm15
set_option maxRecDepth 100000
set_option maxHeartbeats 2000000
namespace Go.Proofs.YtebabancfnmfjaaGreatDoor
section
open Go.RowKit Go.Lib Go.Shelf
attribute [local go_sem] Oper.semAt_some
theorem zoH : I 0=⟨#[48]⟩:=by decide +kernel
theorem zoI : I 1=⟨#[49]⟩:=by decide +kernel
theorem zoJ {z:Int}(h0:-100000000000000000000≤z)(h1:z≤100000000000000000000):Fit z :=
 Nat.le_trans (Dec.nDigits_le (k:=21) (by omega) (show z.natAbs<1000000000000000000000 by omega)) (by omega)
def zoK (n:Nat)(m:Int)(L:Nat):Int:=if m - (L:Int)<0 then 0 else zo9 (((n - L:Nat):Int)) (m - (L:Int)).toNat
theorem zoL {n L:Nat}{m:Int}(hn:n≤60)(hm:m≤n)(hL:L≤n):0≤zoK n m L∧zoK n m L≤1000000000000000000:=by
 unfold zoK;split
 ·omega
 ·exact zoB (n - L) (by omega) _ (by omega)
theorem zoM (v:Value)(p:List Int)(rs:List Qw)(m P:Int)(M:List Int)(b:Bool)(w:World)(he:Env w)(hv:QyV w v p rs m P M b)(hn:rs.length≤60)(hm0:0≤m)(hm:m≤rs.length)(hM:M.length≤rs.length) :
  Calls Tryz.prog 61 #[v] w fun e w'=>e=.returned (.string (I (zoK rs.length m M.length)))∧Ext w w':=by
 obtain ⟨ap,cp,an,cn,am,cm,rfl,hs,hmm⟩:=hv.let;have hE0:Ext w (w.alloc (.cells #[.slice ap p.length cp,.slice an rs.length cn,.int .i64 m,.int .i64 P,.slice am M.length cm,.bool b] 59)):=(Ext.refl w).alloc _;have hb:=znn.new w (.slice ap p.length cp) (.slice an rs.length cn) m P (.slice am M.length cm) b;have hof:=fun (z:Int)(h0:-1000≤z)(h1:z≤1000) W (hE:Ext w W)=>zaR z (by omega) (by omega) W (he.ext hE);have hmu:=fun (x y:Int)(h0:0≤x)(h1:x≤1000000000000000000)(g0:-1000≤y)(g1:y≤1000) W (hE:Ext w W)=>zca x y W (he.ext hE) (zoJ (by omega) (by omega)) (zoJ (by omega) (by omega));have hdm:=fun (x y:Int)(h0:0≤x)(h1:x≤100000000000000000000)(g0:0<y)(g1:y≤1000) W (hE:Ext w W)=>zd4 x y W (he.ext hE) (by omega) (zoJ (by omega) (by omega)) (zoJ (by omega) (by omega));have hcd:zoK rs.length m M.length=if m - (M.length:Int)<0 then 0 else zo9 (((rs.length - M.length:Nat):Int)) (m - (M.length:Int)).toNat:=rfl;have Hof:=Lib.hid hof;have Hmu:=Lib.hid hmu;have Hdm:=Lib.hid hdm;have HE0:=Lib.hid hE0;have Hb:=Lib.hid hb;have Hcd:=Lib.hid hcd;clear hs hmm hof hmu hdm hE0 hb hcd hv he;generalize zoK rs.length m M.length=Z at *;generalize rs.length=n at *;generalize M.length=L at *;obtain ⟨N,hN⟩:∃ N,N=n - L:=⟨_,rfl⟩;have hw1:IntKind.i64.wrap ((n:Int) - (L:Int))=(N:Int):=by rw [IntWalk.i64_in _ (by omega)];omega
 have hw2:IntKind.i64.wrap (m - (L:Int))=m - (L:Int):=IntWalk.i64_in _ (by omega);have Hw1:=Lib.hid hw1;have Hw2:=Lib.hid hw2;have HN:=Lib.hid hN;clear hw1 hw2;go_enter Tryz.func61,Tryz.ntmps61
 obtain ⟨q0,q1,q2,q3,q4,_⟩:=Hb.out.cs;go_wp2_with fail
 go_quiet (fail)
 by_cases hneg:m - (L:Int)<0
 ·go_wp2_with fail
  go_ret
  exact ⟨by rw [Hcd.out,if_pos hneg,zoH] <;> rfl,HE0.out.drewN _⟩
 ·obtain ⟨K,hK⟩:∃ K:Nat,(K:Int)=m - (L:Int):=⟨(m - (L:Int)).toNat,by omega⟩;have hcd2:Z=zo9 (N:Int) K:=by rw [Hcd.out,if_neg hneg,← HN.out,← hK,Int.toNat_natCast]
  have Hcd2:=Lib.hid hcd2;have hKN:K≤N:=by omega
  have hN60:N≤60:=by omega
  have hKm:m - (L:Int)=(K:Int):=hK.symm;have hbd:∀ i:Nat,i<K+1→0≤zo9 (N:Int) i∧zo9 (N:Int) i≤1000000000000000000:=fun i hi=>zoB N (by omega) i (by omega);have hst:∀ i:Nat,zo9 (N:Int) (i+1)=zo9 (N:Int) i * ((N:Int) - (i:Int)) / ((i:Int)+1):=fun i=>rfl;have h01:zo9 (N:Int) 0=1:=rfl;have Hbd:=Lib.hid hbd;have Hst:=Lib.hid hst;have H01:=Lib.hid h01;have hNL:(n:Int) - (L:Int)=(N:Int):=by omega
  rw [hKm,hNL];clear hNL hcd2 hneg hm0 hm hM hn hK hKm hN q0 q1 q2 q3 q4 hbd hst h01;have hk0:¬ (K:Int)<0:=by omega
  go_wp2_with fail
  go_loopw [5,6,24] (fun v5 v6 v24 wr=>∃ i:Nat,v24=.int .i64 (i:Int)∧i≤K∧v5=.string (I (zo9 (N:Int) i))∧Hid (Ext w wr)) (fun _ _ v24 _=>K - (zam v24).toNat)
  case atStart=>exact ⟨0,rfl,Nat.zero_le _,by rw [H01.out,zoI],Lib.hid (HE0.out.drewN _)⟩
  case round =>
   obtain ⟨i,rfl,hi,rfl,HE⟩:=hrel;by_cases hik:i<K
   ·have hbi:=Hbd.out i (by omega);have hsi:=Hst.out i;have hw3:IntKind.i64.wrap ((N:Int) - (i:Int))=(N:Int) - (i:Int):=IntWalk.i64_in _ (by omega);have ho1:=Hof.out ((N:Int) - (i:Int)) (by omega) (by omega) wr HE.out;have ho2:=Hof.out ((i:Int)+1) (by omega) (by omega);have hm1:=Hmu.out (zo9 (N:Int) i) ((N:Int) - (i:Int)) hbi.1 hbi.2 (by omega) (by omega);have hpr:0≤zo9 (N:Int) i * ((N:Int) - (i:Int))∧zo9 (N:Int) i * ((N:Int) - (i:Int))≤100000000000000000000:=by
     refine ⟨Int.mul_nonneg hbi.1 (by omega),?_⟩;have h1:=Int.mul_le_mul_of_nonneg_left (show (N:Int) - (i:Int)≤60 by omega) hbi.1;omega
    have hd1:=Hdm.out (zo9 (N:Int) i * ((N:Int) - (i:Int))) ((i:Int)+1) hpr.1 hpr.2 (by omega) (by omega);have hfd:fdv (zo9 (N:Int) i * ((N:Int) - (i:Int))) ((i:Int)+1)=zo9 (N:Int) (i+1):=(by unfold fdv;rw [if_pos (by omega),hsi]);rw [hfd] at hd1;generalize hz2:zo9 (N:Int) (i+1)=z2 at *;have Hz2:=Lib.hid hz2;clear hz2;generalize fmd (zo9 (N:Int) i * ((N:Int) - (i:Int))) ((i:Int)+1)=r2 at *;generalize zo9 (N:Int) i * ((N:Int) - (i:Int))=z1 at *;generalize zo9 (N:Int) i=z0 at *;have Ho1:=Lib.hid ho1;have Ho2:=Lib.hid ho2;have Hm1:=Lib.hid hm1;have Hd1:=Lib.hid hd1;have hi0:(0:Int)≤(i:Int):=(by omega);have hi1:(i:Int)<(K:Int):=(by omega);clear hbi hsi ho1 ho2 hm1 hpr hd1 hfd;go_wp2_with fail
    refine Ho1.out.mono ?_;rintro e w1 ⟨rfl,hx1⟩;have HE1:=Lib.hid (HE.out.trans hx1);clear hx1;go_wp2_with fail
    refine (Hm1.out _ HE1.out).mono ?_;rintro e w2 ⟨rfl,hx2⟩;have HE2:=Lib.hid (HE1.out.trans hx2);clear hx2;go_wp2_with fail
    refine (Ho2.out _ HE2.out).mono ?_;rintro e w3 ⟨rfl,hx3⟩;have HE3:=Lib.hid (HE2.out.trans hx3);clear hx3;go_wp2_with fail
    refine (Hd1.out _ HE3.out).mono ?_;rintro e w4 ⟨rfl,hx4⟩;have HE4:=Lib.hid (HE3.out.trans hx4);clear hx4;go_wp2_with fail
    go_roundw
    case rel=>exact ⟨i+1,by go_num,by omega,by rw [Hz2.out],HE4⟩
    case measure=>simp [zam];omega
   ·obtain rfl:i=K:=by omega
    have hi1:¬ (i:Int)<(i:Int):=(by omega);go_wp2_with fail
    go_ret
    exact ⟨by rw [Hcd2.out] <;> rfl,HE.out⟩
theorem zoN (v:Value)(p:List Int)(rs:List Qw)(m P:Int)(M:List Int)(b:Bool)(w:World)(he:Env w)(hv:QyV w v p rs m P M b)(hn:rs.length≤60)(hm0:0≤m)(hm:m≤rs.length)(hM:M.length≤rs.length) :
  Calls Tryz.prog 114 #[v] w fun e w'=>e=.returned (.bool (decide (zoK rs.length m M.length≤5000)))∧Ext w w':=by
 have hca:=fun W u (hE:Ext w W)(hu:QyV W u p rs m P M b)=>zoM u p rs m P M b W (he.ext hE) hu hn hm0 hm hM;have hof:=fun W (hE:Ext w W)=>zaR 5000 (by omega) (by omega) W (he.ext hE);have hcb:=zoL hn hm hM;have hcm:=fun W=>zbV (zoK rs.length m M.length) 5000 W (zoJ (by omega) (by omega)) (zoJ (by omega) (by omega));obtain ⟨ap,cp,an,cn,am,cm,rfl,hs,hmm⟩:=hv.let;have hE0:Ext w (w.alloc (.cells #[.slice ap p.length cp,.slice an rs.length cn,.int .i64 m,.int .i64 P,.slice am M.length cm,.bool b] 59)):=(Ext.refl w).alloc _;have hb:=znn.new w (.slice ap p.length cp) (.slice an rs.length cn) m P (.slice am M.length cm) b;have hc:=hca _ _ hE0 (hv.ext hE0);have Hc:=Lib.hid hc;have Hof:=Lib.hid hof;have Hcm:=Lib.hid hcm;have HE0:=Lib.hid hE0;have Hb:=Lib.hid hb;clear hca hof hcm hs hmm hE0 hb hc hv he hcb hM hm hm0 hn;generalize zoK rs.length m M.length=Z at *;generalize rs.length=n at *;generalize M.length=L at *;obtain ⟨q0,q1,q2,q3,q4,q5⟩:=Hb.out.cs;by_cases hz:Z≤5000
 ·have hdz:=decide_eq_true hz;have hcz:zbk Z 5000≤0:=by unfold zbk;split <;> (try split) <;> omega
  have Hdz:=Lib.hid hdz;generalize hcc:zbk Z 5000=C at *;clear hdz hz hcc;go_enter Tryz.func114,Tryz.ntmps114
  go_wp2_with fail
  refine Hc.out.mono ?_;rintro e w1 ⟨rfl,hx1⟩;have HE1:=Lib.hid (HE0.out.trans hx1);clear hx1 q0 q1 q2 q3 q4 q5;go_wp2_with fail
  refine (Hof.out _ HE1.out).mono ?_;rintro e w2 ⟨rfl,hx2⟩;have HE2:=Lib.hid (HE1.out.trans hx2);clear hx2;go_wp2_with fail
  refine (Hcm.out _).mono ?_;rintro e w3 ⟨rfl,hx3⟩;have HE3:=Lib.hid (HE2.out.trans hx3);clear hx3;go_wp2_with fail
  go_ret
  exact ⟨by rw [Hdz.out] <;> simp_all,HE3.out⟩
 ·have hdz:=decide_eq_false hz;have hcz:¬ zbk Z 5000≤0:=by unfold zbk;rw [if_neg (by omega),if_neg (by omega)];omega
  have Hdz:=Lib.hid hdz;generalize hcc:zbk Z 5000=C at *;clear hdz hz hcc;go_enter Tryz.func114,Tryz.ntmps114
  go_wp2_with fail
  refine Hc.out.mono ?_;rintro e w1 ⟨rfl,hx1⟩;have HE1:=Lib.hid (HE0.out.trans hx1);clear hx1 q0 q1 q2 q3 q4 q5;go_wp2_with fail
  refine (Hof.out _ HE1.out).mono ?_;rintro e w2 ⟨rfl,hx2⟩;have HE2:=Lib.hid (HE1.out.trans hx2);clear hx2;go_wp2_with fail
  refine (Hcm.out _).mono ?_;rintro e w3 ⟨rfl,hx3⟩;have HE3:=Lib.hid (HE2.out.trans hx3);clear hx3;go_wp2_with fail
  go_ret
  exact ⟨by rw [Hdz.out] <;> simp_all,HE3.out⟩
end
section
open Go.RowKit Go.Lib Go.Shelf
def zoO (P:Int→Bool)(rs:List Int)(z:Int):Prop:=(z=-1∧∀ r∈rs,P r=false)∨∃ (k:Nat)(r:Int),z=k∧rs[k]?=some r∧P r=true∧∀ s∈rs.take k,P s=false
theorem zoO.any {P:Int→Bool}{rs:List Int}{z:Int}(h:zoO P rs z):rs.any (fun r=>P r)=decide (0≤z):=by
 rcases h with ⟨rfl,h⟩ | ⟨k,r,rfl,h1,h2,_⟩
 ·rw [show decide ((0:Int)≤-1)=false by decide,List.any_eq_false];intro r hr;rw [h r hr];simp
 ·rw [show decide ((0:Int)≤(k:Int))=true from decide_eq_true (by omega),List.any_eq_true];exact ⟨r,List.mem_of_getElem? h1,h2⟩
theorem zoP (W:World)(B:Nat)(v:Value):W.grownBy (W.setCell ⟨B,0,none⟩ v) (some B) :=
 have h:Below 0 W (W.setCell ⟨B,0,none⟩ v):=(Below.refl 0 W).setCell (Nat.zero_le _) v
 ⟨h.os,h.tape,h.output,h.size,fun k _ hk=>Below.heap_setCell W ⟨B,0,none⟩ v k (fun e=>hk (by rw [e]))⟩
theorem zoQ (a:Addr)(j:Nat):(a.add j).block=a.block:=by
 unfold Addr.add;split <;> rfl
theorem zoR {A C:World}{row:Option Nat}{k:Nat}{us:List Value}(hg:A.grownBy C row)(h:∀ j u,us[j]?=some u→A.cell? ((⟨k,0,none⟩:Addr).add j)=some u)(hr:∀ r,row=some r→r<k):∀ j u,us[j]?=some u→C.cell? ((⟨k,0,none⟩:Addr).add j)=some u :=
 fun j u hj=>hg.cell (h j u hj) fun e=>by have:=hr _ e.symm;rw [zoQ] at this;exact absurd this (Nat.lt_irrefl _)
theorem zoS (W:World)(x:Value)(t:TypeId)(o:Obj):∀ j u,[x][j]?=some u→((W.alloc (.cells #[x] t)).alloc o).drew.cell? ((⟨W.heap.size,0,none⟩:Addr).add j)=some u :=
 fun j u hj=>((Ext.refl (W.alloc (.cells #[x] t))).alloc o).drew.cell (cell_one_new W x t j u hj)
theorem zoT (W:World)(x y:Value)(t:TypeId)(o:Obj):∀ j u,[x,y][j]?=some u→((W.alloc (.cells #[x,y] t)).alloc o).drew.cell? ((⟨W.heap.size,0,none⟩:Addr).add j)=some u :=
 fun j u hj=>((Ext.refl (W.alloc (.cells #[x,y] t))).alloc o).drew.cell (cell_two_new W x y t j u hj)
theorem zoU (W:World)(o:Obj)(x:Value)(t:TypeId):∀ j u,[x][j]?=some u→((W.alloc o).alloc (.cells #[x] t)).drew.cell? ((⟨W.heap.size+1,0,none⟩:Addr).add j)=some u:=by
 have h:=cell_one_new (W.alloc o) x t;rw [World.size_alloc] at h;exact h
theorem zoV (W:World)(o:Obj)(x y:Value)(t:TypeId):∀ j u,[x,y][j]?=some u→((W.alloc o).alloc (.cells #[x,y] t)).drew.cell? ((⟨W.heap.size+1,0,none⟩:Addr).add j)=some u:=by
 have h:=cell_two_new (W.alloc o) x y t;rw [World.size_alloc] at h;exact h
theorem zoW {w W WA wB WB wC:World}{u v:Option Nat}{B:Nat}(h0:Ext w W)(h1:Ext W WA)(g1:WA.grownBy wB u)(h2:Ext wB WB)(g2:WB.grownBy wC v)(hu:∀ r,u=some r→B≤r)(hv:∀ r,v=some r→B≤r)(hB:w.heap.size≤B) :
  Ext w wC∧W.heap.size≤wC.heap.size∧∀ k o,k<B→W.heap[k]?=some o→wC.heap[k]?=some o:=by
 have e1:Ext w wB:=(h0.trans h1).grown g1 fun k e=>by have:=hu k e;omega
 refine ⟨(e1.trans h2).grown g2 fun k e=>by have:=hv k e;omega,Nat.le_trans (Nat.le_trans h1.size g1.size) (Nat.le_trans h2.size g2.size),fun k o hk ho=>?_⟩;have a1:=h1.heap ho;have a2:=(g1.block k (Array.getElem?_eq_some_iff.1 a1).1 fun e=>by have:=hu k e.symm;omega).trans a1;have a3:=h2.heap a2;exact (g2.block k (Array.getElem?_eq_some_iff.1 a3).1 fun e=>by have:=hv k e.symm;omega).trans a3
theorem zoX {w W wC:World}{d2 D:Nat}{p:List Int}{N:List (List Rat)}{vp vn vm us vs us2 vs2:Value}{m P:Int}{b:Bool}{pre:List Iw}{fs2:List Fw}
  (hd0:w.heap.size+4≤d2) (hD:D=d2+2) (hx:Ext w wC) (hsz:W.heap.size≤wC.heap.size) (hlow:∀ k o,k<D+2+3→W.heap[k]?=some o→wC.heap[k]?=some o)
  (h6:znn W w.heap.size vp vn m P vm b) (h3:Boxed W (w.heap.size+1+1+1) 31 (.int .i64 0)) (h1:Boxed W (w.heap.size+1) 55 us) (h2:Boxed W (w.heap.size+1+1) 74 vs)
  (hF:Fnd wC (D+2+3) p N us2 vs2 fs2) (hl:fs2.map Fw.l=srL P b p N (pre.map Iw.l)) :
  znt (fun r=>(r<w.heap.size∨r=d2∨r=d2+1∨(D+2≤r∧r<D+5))∨r=D∨r=D+1) W ((wC.setCell ⟨w.heap.size+1,0,none⟩ us2).setCell ⟨w.heap.size+1+1,0,none⟩ vs2) ∧
   SrI w (D+2+3) p N vp vn vm m P b pre ((wC.setCell ⟨w.heap.size+1,0,none⟩ us2).setCell ⟨w.heap.size+1+1,0,none⟩ vs2):=by
 have o1:=fun k (hk:k ≠ w.heap.size+1)=>Below.heap_setCell wC ⟨w.heap.size+1,0,none⟩ us2 k hk;have o2:=fun k (hk:k ≠ w.heap.size+1+1)=>Below.heap_setCell (wC.setCell ⟨w.heap.size+1,0,none⟩ us2) ⟨w.heap.size+1+1,0,none⟩ vs2 k hk;have g1:=zoP wC (w.heap.size+1) us2;have g2:=zoP (wC.setCell ⟨w.heap.size+1,0,none⟩ us2) (w.heap.size+1+1) vs2;have b1:Boxed wC (w.heap.size+1) 55 us:=hlow _ _ (by omega) h1;have b2:Boxed wC (w.heap.size+1+1) 74 vs:=hlow _ _ (by omega) h2;have n1:Boxed _ (w.heap.size+1) 55 us2:=(o2 _ (by omega)).trans (Boxed.set us2 b1);have n2:Boxed _ (w.heap.size+1+1) 74 vs2:=Boxed.set vs2 (show Boxed _ _ _ _ from (o1 _ (by omega)).trans b2);refine ⟨⟨Nat.le_trans hsz (Nat.le_trans g1.size g2.size),fun r hr hlt=>?_⟩,(hx.grown g1 fun k e=>by cases e;omega).grown g2 fun k e=>by cases e;omega,?_,?_,us2,vs2,fs2,n1,n2,(hF.grown g1 fun k e=>by cases e;omega).grown g2 fun k e=>by cases e;omega,hl⟩
 ·obtain ⟨o,ho⟩:∃ o,W.heap[r]?=some o:=⟨_,Array.getElem?_eq_getElem hlt⟩;rw [ho,o2 r (by omega),o1 r (by omega)];exact hlow r o (by omega) ho
 ·exact (o2 _ (by omega)).trans ((o1 _ (by omega)).trans (hlow _ _ (by omega) h6))
 ·exact (o2 _ (by omega)).trans ((o1 _ (by omega)).trans (hlow _ _ (by omega) h3))
end
section
open Go
section
variable {n l : Nat} {P : Program} {ops : Array Oper} {Q : Exit → Act → World → Prop} {md : Region.Mode}
theorem zoY {o:Oper}{a:Act}{w:World}{K:Act→World→Prop}(h:o.wp P a w K Q):o.wpIn Fence.wide n P a w K Q:=by
 unfold Oper.wp at h;refine ⟨fun _ _=>trivial,?_⟩;show o.uponIn Fence.wide n P a K Q ((execOp a.eval o).run P w);generalize (execOp a.eval o).run P w=r at h;unfold Oper.upon at h;unfold Oper.uponIn;split at h
 ·exact h
 ·exact h
 ·exact h
 ·exact ⟨fun g=>absurd g (by simp [Fence.wide]),callsIn_wide.2 h⟩
 ·exact ⟨fun g=>absurd g (by simp [Fence.wide]),fun c cs _=>let ⟨v,w',r,s⟩:=h c cs;⟨v,w',r,stepsIn_wide.2 s⟩⟩
 ·exact h
 ·exact h.elim
theorem zoZ (hL:¬ LetsOut Q):∀ (fuel:Nat)(listed:Array Bool)(a:Act)(w:World),wpAny P md ops Q fuel listed a w→wpAnyIn Fence.wide n P md ops Q fuel listed a w
 | 0,_,_,_,h=>h
 | fuel+1,listed,a,w,h=>⟨h.1,fun i hi=>by
   have hi2:=h.2 i hi;unfold wpOp at hi2;unfold wpOpIn
   cases ho:ops[i]? with
   | none=>rw [ho] at hi2;exact zoZ hL fuel _ a w hi2
   | some o =>
    rw [ho] at hi2
    dsimp only at hi2 ⊢
    split at hi2
    ·rename_i hw
     rw [if_pos hw]
     rcases hi2 with g | ⟨_,g⟩
     ·exact Oper.wpIn_mono (fun a w k=>zoZ hL fuel _ a w k) (zoY g)
     ·exact absurd g hL
    ·rename_i hw
     rw [if_neg hw]
     exact ⟨fun _ _=>trivial,zoZ hL fuel _ _ w hi2⟩⟩
theorem zpa {id:Nat}{a:Act}{w:World}(z:Nat)(S:World→Prop)(hm:P.follows .mixedOrders=true)(h:zgA ops=true)(hL:¬ LetsOut (NoPanic Q))(hS:S w.drew)
  (H:S w.drew→zfL P .any ops (NoPanic Q) S z ops.size (Array.replicate ops.size false) a w.drew):(Code.region id ops true).wpIn (Fence.wide.inRound l) n P Q a w :=
 zgE (F:=Fence.wide) hm h (zoZ hL _ _ _ _ (zfL.any (H hS)))
theorem zpb {S:World→Prop}{z i j:Nat}{o u:Oper}{f:Nat}{ls:Array Bool}{a:Act}{w:World}(hr:Region.ready md ops ls=[i,j])(ho:ops[i]?=some o)(hu:ops[j]?=some u)
  (h1:∀ K:Act→World→Prop,Shut (∀ a w,S w→(S w→zfL P md ops Q S z f (ls.setIfInBounds i true) a w)→K a w)→if Region.wanted o (yielded ops a.tmps)=true then Oper.wp P o a w K Q else K (a.put o.dst undef) w)
  (h2:∀ K:Act→World→Prop,Shut (∀ a w,S w→(S w→zfL P md ops Q S z f (ls.setIfInBounds j true) a w)→K a w)→if Region.wanted u (yielded ops a.tmps)=true then Oper.wp P u a w K Q else K (a.put u.dst undef) w):zfL P md ops Q S z (f+1) ls a w:=by
 refine ⟨fun e=>(by rw [hr] at e;cases e),fun k hk=>?_⟩;rw [hr] at hk;rcases List.mem_cons.1 hk with rfl | hk
 ·exact wpOp_step ho fun K hK=>h1 K fun a w hS g=>hK a w ⟨fun _=>hS,g hS⟩
 ·rw [List.mem_singleton] at hk;subst hk;exact wpOp_step hu fun K hK=>h2 K fun a w hS g=>hK a w ⟨fun _=>hS,g hS⟩
end
end
section
open Go.RowKit Go.Lib Go.Shelf
attribute [local go_sem] Oper.semAt_some
theorem zpc (w:World)(x y z u:Value):zic 28 ((w.alloc (.cells #[x,y] 28)).alloc (.cells #[z,u] 28)) w.heap.size x y∧zic 28 ((w.alloc (.cells #[x,y] 28)).alloc (.cells #[z,u] 28)) (w.heap.size+1) z u∧Ext w ((w.alloc (.cells #[x,y] 28)).alloc (.cells #[z,u] 28)):=by
 refine ⟨(zic.new 28 w x y).ext ((Ext.refl _).alloc _),?_,((Ext.refl w).alloc _).alloc _⟩;have:=zic.new 28 (w.alloc (.cells #[x,y] 28)) z u;rwa [World.size_alloc] at this
theorem zpd (v1 v2:Value)(p q:List Int)(rs ts:List Qw)(w:World)(he:Env w)(h1:ScV w v1 p rs)(h2:ScV w v2 q ts)(g1:ziy p rs)(g2:ziy q ts) :
  Calls Tryz.prog 176 #[v1,v2] w fun e w'=>e=.returned (.int .i64 0)∧Ext w w':=by
 obtain ⟨a1,c1,b1,d1,rfl,h1⟩:=zif h1;obtain ⟨a2,c2,b2,d2,rfl,h2⟩:=zif h2;have hc1:=fun W (hE:Ext w W)=>ziz _ p rs W (he.ext hE) (h1.ext hE) g1;have hc2:=fun W (hE:Ext w W)=>ziz _ q ts W (he.ext hE) (h2.ext hE) g2;have hb:=zpc w (.slice a1 p.length c1) (.slice b1 rs.length d1) (.slice a2 q.length c2) (.slice b2 ts.length d2);have Hc1:=Lib.hid hc1;have Hc2:=Lib.hid hc2;have Hb:=Lib.hid hb;clear hc1 hc2 hb h1 h2 g1 g2 he;go_enter Tryz.func176,Tryz.ntmps176
 have q0:=Hb.out.1.c0;have q1:=Hb.out.1.c1;go_wp2_with fail
 refine (Hc1.out _ Hb.out.2.2).mono ?_;rintro e w1 ⟨rfl,hx1⟩;have r0:=(Hb.out.2.1.ext hx1).c0;have r1:=(Hb.out.2.1.ext hx1).c1;have Hx1:=Lib.hid (Hb.out.2.2.trans hx1);clear hx1 q0 q1;go_wp2_with fail
 refine (Hc2.out _ Hx1.out).mono ?_;rintro e w2 ⟨rfl,hx2⟩;have Hx2:=Lib.hid (Hx1.out.trans hx2);clear hx2;go_wp2
 go_ret
 exact ⟨rfl,Hx2.out⟩
def zpe (p q:List Int)(N M:List (List Rat))(k:Int)(b:Bool):Prop :=
 (b=false∧k=0∧∀ i:Nat,i<N.length→¬ (p=q∧md p N (i:Int)=M))∨(b=true∧∃ i:Nat,k=i∧i<N.length∧p=q∧md p N (i:Int)=M∧∀ j:Nat,j<i→¬ (p=q∧md p N (j:Int)=M))
theorem zpf (v1 v2:Value)(p q:List Int)(rs ts:List Qw)(w:World)(he:Env w)(h1:ScV w v1 p rs)(h2:ScV w v2 q ts)(g1:Wd p (rs.map Qw.x))(g2:Wd q (ts.map Qw.x)) :
  Calls Tryz.prog 116 #[v1,v2] w fun e w'=>∃ k b,e=.returned (.tuple #[.int .i64 k,.bool b,.int .i64 0])∧zpe p q (rs.map Qw.x) (ts.map Qw.x) k b∧Ext w w':=by
 obtain ⟨a1,c1,b1,d1,rfl,h1⟩:=zif h1;obtain ⟨a2,c2,b2,d2,rfl,h2⟩:=zif h2;have hp:=ziS g1.pr;have hq:=ziS g2.pr;have hp3:p.length≤3:=by rcases g1.pr with ⟨e,_⟩ | ⟨e,_⟩ <;> rw [e] <;> decide
 have hq3:q.length≤3:=by rcases g2.pr with ⟨e,_⟩ | ⟨e,_⟩ <;> rw [e] <;> decide
 have hr:=g1.few;have ht:=g2.few;have hN:(rs.map Qw.x).length=rs.length:=List.length_map ..;rw [List.length_map] at hr ht;have hc1:=fun W (hE:Ext w W)=>zpd _ _ p q rs ts W (he.ext hE) (h1.ext hE) (h2.ext hE) g1.right g2.right;have hmo:=fun (m:Nat)(hm:m<rs.length) W (hE:Ext w W)=>zkH _ p rs (m:Int) W (he.ext hE) (h1.ext hE) g1 (by omega) (by omega);have hsa:=fun (m:Nat) W v out (hE:Ext w W)(hv:ScV W v p out)(hm:out.map Qw.x=md p (rs.map Qw.x) (m:Int))=>(show Calls Tryz.prog 178 #[v,.agg #[.slice a2 q.length c2,.slice b2 ts.length d2]] W fun e w'=>e=.returned (.bool (decide (p=q) && decide (md p (rs.map Qw.x) (m:Int)=ts.map Qw.x)))∧Ext W w' by
  have hw:=g1.mode (m:Int);have hol:out.length≤60:=by have:=hw.few;rw [← hm,List.length_map] at this;exact this
  have:=zij v _ p q out ts W hv (h2.ext hE) (by omega) (by omega) (by omega) (by omega) (fun r hr=>by rw [hw.len _ (by rw [← hm];exact List.mem_map_of_mem hr)];omega) (fun r hr=>by rw [g2.len _ (List.mem_map_of_mem hr)];omega);rw [hm] at this;exact this)
 have hb:=zpc w (.slice a1 p.length c1) (.slice b1 rs.length d1) (.slice a2 q.length c2) (.slice b2 ts.length d2);have hra:zpe p q (rs.map Qw.x) (ts.map Qw.x)=zpe p q (rs.map Qw.x) (ts.map Qw.x):=rfl;have Hc1:=Lib.hid hc1;have Hmo:=Lib.hid hmo;have Hsa:=Lib.hid hsa;have Hb:=Lib.hid hb;have HN:=Lib.hid hN;clear hc1 hmo hsa hb h1 h2 g1 g2 he hp hq hN hra;generalize hn:rs.length=n at *;have Hn:=Lib.hid hn;clear hn;go_enter Tryz.func116,Tryz.ntmps116
 have q0:=Hb.out.1.c0;have q1:=Hb.out.1.c1;have r0:=Hb.out.2.1.c0;have r1:=Hb.out.2.1.c1;go_wp2_with fail
 refine (Hc1.out _ Hb.out.2.2).mono ?_;rintro e w1 ⟨rfl,hx1⟩;have HB1:=Lib.hid (Hb.out.1.ext hx1);have HB2:=Lib.hid (Hb.out.2.1.ext hx1);have q1:=HB1.out.c1;have Hx1:=Lib.hid (Hb.out.2.2.trans hx1);clear hx1 q0 r0 r1;go_wp2_with fail
 go_loopw [8,9,10,20] (fun v8 v9 v10 v20 wr=>∃ k:Nat,v20=.int .i64 k∧k≤n∧Hid (∀ j:Nat,j<k→¬ (p=q∧md p (rs.map Qw.x) (j:Int)=ts.map Qw.x))∧Ext w1 wr) (fun _ _ _ v20 _=>n - (zam v20).toNat)
 case atStart=>exact ⟨0,rfl,Nat.zero_le _,Lib.hid (fun j h=>absurd h (Nat.not_lt_zero j)),Ext.refl _⟩
 case round =>
  obtain ⟨k,rfl,hk,Hj,hEr⟩:=hrel;by_cases hkn:k<n
  ·have hk0:(0:Int)≤(k:Int):=(by omega);have hk1:(k:Int)<(n:Int):=(by omega);have hmk:=Hmo.out k hkn wr (Hx1.out.trans hEr);have q0:=(HB1.out.ext hEr).c0;have q1:=(HB1.out.ext hEr).c1;have Hmk:=Lib.hid hmk;have HEr:=Lib.hid hEr;clear hmk hEr;go_wp2_with fail
   refine Hmk.out.mono ?_;rintro e w2 ⟨u2,out,rfl,ho2,hm2,hx2⟩;obtain ⟨a5,c5,b5,d5,rfl,hs5⟩:=zif ho2.scV;have hb5:=zic.new 28 w2 (.slice a5 p.length c5) (.slice b5 out.length d5);have hE5:=(Ext.refl w2).alloc (.cells #[.slice a5 p.length c5,.slice b5 out.length d5] 28);have hx5:=HEr.out.trans (hx2.trans hE5);have hsa5:=Hsa.out k _ _ out (Hx1.out.trans hx5) (hs5.ext hE5) hm2;have k0:=hb5.c0;have k1:=hb5.c1;have r0:=(HB2.out.ext hx5).c0;have r1:=(HB2.out.ext hx5).c1;have Hsa5:=Lib.hid hsa5;have Hx5:=Lib.hid hx5;clear hsa5 hx5 hb5 hE5 hs5 ho2 hm2 hx2 q0 q1;go_wp2_with fail
   refine Hsa5.out.mono ?_;rintro e w6 ⟨rfl,hx6⟩;have Hx6:=Lib.hid (Hx5.out.trans hx6);clear hx6 k0 k1 r0 r1;by_cases hyes:p=q∧md p (rs.map Qw.x) (k:Int)=ts.map Qw.x
   ·have hB:(decide (p=q) && decide (md p (rs.map Qw.x) (k:Int)=ts.map Qw.x))=true:=(by rw [decide_eq_true hyes.1,decide_eq_true hyes.2];rfl);have Hyes:=Lib.hid hyes;rw [hB];clear hB hyes;go_wp2_with fail
    exact bodyPost_ret (v:=.tuple #[.int .i64 (k:Int),.bool true,.int .i64 0]) (by simp [results,Tryz.results116,go_sem]) rfl ⟨_,_,rfl,.inr ⟨rfl,k,rfl,by rw [HN.out];exact hkn,Hyes.out.1,Hyes.out.2,Hj.out⟩,Hx1.out.trans Hx6.out⟩
   ·have hB:(decide (p=q) && decide (md p (rs.map Qw.x) (k:Int)=ts.map Qw.x))=false:=by
     rw [Bool.and_eq_false_iff];by_cases e:p=q
     ·exact .inr (decide_eq_false fun e2=>hyes ⟨e,e2⟩)
     ·exact .inl (decide_eq_false e)
    have Hno:=Lib.hid hyes;rw [hB];clear hB hyes;go_wp2_with fail
    go_roundw
    case rel=>exact ⟨k+1,by go_num,by omega,Lib.hid (fun j hj=>by
     rcases (by omega:j<k∨j=k) with e | e
     ·exact Hj.out j e
     ·rw [e];exact Hno.out),Hx6.out⟩
    case measure=>simp [zam];omega
  ·obtain rfl:k=n:=by omega
   have HEr:=Lib.hid hEr;clear hEr;go_wp2_with fail
   exact bodyPost_ret (v:=.tuple #[.int .i64 0,.bool false,.int .i64 0]) (by simp [results,Tryz.results116,go_sem]) rfl ⟨_,_,rfl,.inl ⟨rfl,rfl,fun i hi=>Hj.out i (by rw [HN.out] at hi;exact hi)⟩,Hx1.out.trans HEr.out⟩
end
end Go.Proofs.YtebabancfnmfjaaGreatDoor
