/- Walks: the law ScaleFinds. What the rows' condition gives the walks, and the last step of a law (the seat of chapters 31 and 32). A world that came in. What the rows' condition gives of strconv.ErrRange (the seat of chapter 31). -/
import Derived.Test.YtbkfhacmekbniaaGreatDoorPa35
import Derived.Test.YtbkfhacmekbniaaGreatDoorPa36
import Derived.Test.YtbkfhacmekbniaaGreatDoorPa37
import Derived.Test.YtbkfhacmekbniaaGreatDoorPa24
import Derived.Test.YtbkfhacmekbniaaGreatDoorPa38
import Derived.Deep.DeepCutAuto
import Derived.Laws.AppendOwnNone
import Derived.Test.YtbkfhacmekbniaaGreatDoorPa00
import Derived.Below
import Derived.ChangeSame
import Derived.OpenShut
import Derived.LaidMore
import Derived.ProofKit
import Derived.Stop.Joined
import Derived.Laws.IdiomArrays
import Derived.Test.YtbkfhacmekbniaaGreatDoorRows
import Derived.Test.YtbkfhacmekbniaaGreatDoorTie
import Derived.Test.YtbkfhacmekbniaaGreatDoorCards
import Derived.Handy
import Derived.Lay
import Derived.SevenTiedAt
import Derived.Stop.LaidErr
import Derived.Carry
import Derived.Lib.SmallJoins
import Derived.Test.YtbkfhacmekbniaaGreatDoorPa12
set_option maxRecDepth 100000
set_option maxHeartbeats 4000000
namespace Go.Proofs.YtbkfhacmekbniaaGreatDoor
section
open Go.RowKit Go.Lib Go.Shelf
attribute [local go_sem] Oper.semAt_some
def zq1 (W:World)(n:Nat)(s:ByteArray)(x:List Rat)(v13 v14:Value)(wx:World):Prop:=∃ bk ao co,v13=.pointer (some ⟨bk,0,none⟩)∧v14=.string s∧Boxed wx bk 32 (.slice ao n co)∧Rd wx (.slice ao n co) x∧Ext W wx
def zq2 (W:World)(R:List Rat)(n:Nat)(rs:List Qw)(v:Value)(wx:World):Prop:=∃ (z2:Int)(qz:Qw),v=.int .i64 z2∧qz.x=zer n∧zkt (fun t=>decide (t=R)) (qz::rs) z2∧Ext W wx
theorem zq3 {W W1 W2:World}{E s n:Nat}{v:Value}{xs:List Value}(h:Ext W W1)(ho:W1.ownsRow W.heap.size E s v n xs)(hg:W1.grownBy W2 v.ownBlock):Ext W W2:=h.grown hg (fun r e=>(World.ownsRow.lt ho r e).1)
theorem zq4 {r:Rat}(h:¬ Ft 30 r):lng 30 (rp r)=true:=by
 unfold lng rp;rw [Bool.or_eq_true,decide_eq_true_eq,decide_eq_true_eq];have h1:nDigits r.num.natAbs≤(I r.num).size:=by
  rcases (by omega:r.num<0∨0≤r.num) with g | g
  ·obtain ⟨m,hm⟩:∃ m:Nat,r.num=-(m:Int):=⟨r.num.natAbs,by omega⟩;rw [hm,zbp m (by omega),Int.natAbs_neg,Int.natAbs_natCast];omega
  ·obtain ⟨m,hm⟩:∃ m:Nat,r.num=(m:Int):=⟨r.num.toNat,by omega⟩;rw [hm,zav,zau,Int.natAbs_natCast];exact Nat.le_refl _
 have h2:(I (r.den:Int)).size=nDigits r.den:=zdH _;unfold Ft at h;show 30<(I r.num).size∨30<(I (r.den:Int)).size;rw [h2];omega
theorem zq5 (bk:Nat)(va vb:Value)(x y:List Rat)(w:World)(hb:Boxed w bk 32 va)(ha:Rd w va x)(hy:Rd w vb y)(hx9:x.length≤1000)(hy9:y.length≤1000) :
  Calls Tryz.prog 26 #[vb,.pointer (some ⟨bk,0,none⟩)] w fun e w'=>e=.returned (.bool (decide (y=x)))∧Ext w w':=by
 have h:=zkk vb va y x w hy ha hy9 hx9;have hc:=hb.cell;obtain ⟨aa,ca,rfl,_,_,_⟩:=ha.parts;obtain ⟨ab,cb,rfl,_,_,_⟩:=hy.parts;generalize x.length=n1 at *;generalize y.length=n2 at *;generalize decide (y=x)=b at *;have H:=Lib.hid h;clear h ha hy hb;go_enter Tryz.func26,Tryz.ntmps26
 go_wp2_with fail
 refine H.out.mono ?_;rintro e w1 ⟨rfl,hx1⟩;have Hx1:=Lib.hid hx1;clear hx1;go_wp2
 go_ret
 exact ⟨rfl,Hx1.out⟩
theorem zq6 (a:Wl)(vx:Value)(l:List (ByteArray × ByteArray))(w:World)(he:Env w)(hrv:zhf w)(ha:a.Ok)(hx:Rb w vx l)(hl:l.length≤9223372036854775807) :
  Calls Tryz.prog 4 #[a.v,vx] w fun e w'=>e=.returned (.bool true)∧Ext w w':=by
 have hkn:=fun W (hE:Ext w W)=>zqz W (he.ext hE);have hmk:=fun W (hE:Ext w W)=>zlA a W (he.ext hE) ha;have hsh:=fun W (hE:Ext w W)=>zpO vx l W (hE.rb hx) hl;have hrl:=zpS a w;have hun:=Tryz.underlying26;have hin:=zpT a;have hE0:Ext w (w.alloc (.cells a.cs 26)):=(Ext.refl w).alloc _;have Hrb:=Lib.hid hx;obtain ⟨m,hm⟩:∃ m,l.length=m:=⟨_,rfl⟩;have hshp:∃ ax cx,vx=.slice ax m cx:=by obtain ⟨ax,cx,e,_⟩:=hx;exact ⟨ax,cx,by rw [e,hm]⟩
 obtain ⟨ax,cx,rfl⟩:=hshp;have Hm:=Lib.hid hm;clear hm;have Hkn:=Lib.hid hkn;have Hmk:=Lib.hid hmk;have Hrl:=Lib.hid hrl;have Hun:=Lib.hid hun;have Hin:=Lib.hid hin;have HE0:=Lib.hid hE0;have He:=Lib.hid he;have Hrv:=Lib.hid hrv;have Hsh:=Lib.hid hsh;clear hkn hmk hrl hun hin hE0 he ha hrv hsh hx;have hv:a.v=.agg a.cs:=rfl;have Hv:=Lib.hid hv;rw [hv];clear hv;have hcs2:=zpU a;rw [hcs2];have hst:zpM l=true→l.length≤4∧∀ e∈l,e.1.size≤40∧e.2.size≤40:=zpN;have Hst:=Lib.hid hst;clear hst;generalize hS:zpM l=S at *;clear hS
 cases S with
 | false =>
  go_enter Tryz.func4,Tryz.ntmps4
  rw [← hcs2]
  go_wp2_with fail
  refine (Hkn.out _ HE0.out).mono ?_
  rintro e w1 ⟨rfl,hx1⟩
  have Hx1:=Lib.hid (HE0.out.trans hx1);clear hx1
  go_wp2_with fail
  refine (Hsh.out _ Hx1.out).mono ?_
  rintro e w2 ⟨rfl,hx2⟩
  have Hx2:=Lib.hid (Hx1.out.trans hx2);clear hx2
  go_wp2_with fail
  refine (Hkn.out _ Hx2.out).mono ?_
  rintro e w3 ⟨rfl,hx3⟩
  have Hx3:=Lib.hid (Hx2.out.trans hx3);clear hx3
  go_wp2_with fail
  go_ret
  exact ⟨rfl,Hx3.out⟩
 | true =>
  obtain ⟨h4,h9⟩:=Hst.out rfl
  go_enter Tryz.func4,Tryz.ntmps4
  rw [← hcs2]
  go_wp2_with fail
  refine (Hkn.out _ HE0.out).mono ?_
  rintro e w1 ⟨rfl,hx1⟩
  have Hx1:=Lib.hid (HE0.out.trans hx1);have HK1:=Lib.hid hx1;clear hx1
  go_wp2_with fail
  refine (Hsh.out _ Hx1.out).mono ?_
  rintro e w2 ⟨rfl,hx2⟩
  have hrl1:=Hrl.out w2 (HK1.out.trans hx2)
  have Hx2:=Lib.hid (Hx1.out.trans hx2);have Hrl1:=Lib.hid hrl1
  clear hx2 hrl1
  have Hmk1:=Lib.hid (Hmk.out w2 Hx2.out)
  go_wp2_with (refine wpList_load_mid rfl 26 (.tmp 2) rfl w.heap.size 0 rfl a.cs.toList _ Hrl1.out Hun.out rfl Hin.out ?_)
  rw [← hcs2,← Hv.out]
  refine Hmk1.out.mono ?_
  rintro e w3 ⟨v2,rs,rfl,hs2,hc2,hx3⟩
  have hw2:=zpV a hc2
  have hnine:=zqa a hc2
  have hpos:=hw2.pos
  rw [List.length_map] at hnine hpos
  have hlp:a.p.length=2∨a.p.length=3:=by rcases a.pw with e | e <;> rw [e] <;> simp
  have hpr:=a.pw.pr
  obtain ⟨a2,c2,b2,d2,rfl,hs2⟩:=zqu hs2
  have hb2:=zdV.new 36 w3 (.slice a2 a.p.length c2) (.slice b2 rs.length d2)
  have hE2:=(Ext.refl w3).alloc (.cells #[.slice a2 a.p.length c2,.slice b2 rs.length d2] 36)
  have Hx3:=Lib.hid ((Hx2.out.trans hx3).trans hE2);have Hs2:=Lib.hid (hs2.ext hE2);have Hw2:=Lib.hid hw2;have Hb2:=Lib.hid hb2
  clear hx3 hs2 hw2 hE2 hc2 hcs2
  generalize hN:rs.length=N at *
  have q1:=hb2.c1
  have q0:=hb2.c0
  have HN:=Lib.hid hN
  obtain ⟨V,hV⟩:∃ V,V=w3.alloc (.cells #[.slice a2 a.p.length c2,.slice b2 N d2] 36):=⟨_,rfl⟩
  have HV:=Lib.hid hV
  rw [← hV] at q0 q1
  have HxV:Hid (Ext w V):=Lib.hid (by rw [hV];exact Hx3.out)
  have HsV:Hid (ScV V (.agg #[.slice a2 a.p.length c2,.slice b2 N d2]) a.p rs):=Lib.hid (by rw [hV];exact Hs2.out)
  have HbV:Hid (zdV 36 V w3.heap.size (.slice a2 a.p.length c2) (.slice b2 N d2)):=Lib.hid (by rw [hV];exact Hb2.out)
  have HrV:Hid (Rb V (.slice ax m cx) l):=Lib.hid (HxV.out.rb Hrb.out)
  have hpV:Sl V (.slice a2 a.p.length c2) (zak a.p):=by
   obtain ⟨vp,vn,e,g,_⟩:=HsV.out;simp only [Value.agg.injEq,Array.mk.injEq,List.cons.injEq,and_true] at e;rw [e.1];exact g
  have hck:=fun W (hE:Ext V W)=>zpG _ _ a.p l W (He.out.ext (HxV.out.trans hE)) (hE.sl hpV) (hE.rb HrV.out) Hw2.out.right.pe (by omega) h9
  have Hck:=Lib.hid hck;have Hpv:=Lib.hid hpV
  clear hN hb2 hV hck hpV hpos hnine
  by_cases hk0:ckU a.p.length l=0
  ·obtain ⟨hlen,hfr⟩:=zpA hk0
   obtain ⟨x,hlx,hf⟩:=rps hfr
   have hrd0:Rd V (.slice ax m cx) x:=zp5 (hlx ▸ HrV.out)
   have hxl:x.length=a.p.length:=by rw [← hlen,hlx,List.length_map]
   obtain ⟨a0,tl,hx0⟩:∃ a0 tl,x=a0::tl:=by
    cases x with
    | nil=>simp at hxl;omega
    | cons a0 tl=>exact ⟨_,_,rfl⟩
   rw [hx0] at hf hxl hrd0
   have htl:tl.length=a.p.length - 1:=by rw [List.length_cons] at hxl;omega
   have hpr1:Pr a.p (tl.length+1):=by rw [show tl.length+1=a.p.length from hxl];exact hpr
   have hpos:=Hw2.out.pos
   rw [List.length_map,HN.out] at hpos
   obtain ⟨n,hn⟩:∃ n,N=n+1:=⟨N - 1,by omega⟩
   obtain ⟨r,hr⟩:∃ r,rs[n]?=some r:=⟨_,List.getElem?_eq_getElem (by rw [HN.out];omega)⟩
   have hrx:r.x=ov tl.length:=by
    have:=Hw2.out.last;rw [List.length_map,HN.out,hn,Nat.add_sub_cancel,List.getElem?_map,hr] at this;rw [htl];exact Option.some.inj this
   have hrn:rs.length=n+1:=by rw [HN.out,hn]
   have hN60:N≤60:=by have:=Hw2.out.few;rw [List.length_map,HN.out] at this;omega
   obtain ⟨q,hq⟩:∃ q,flN a.p (a0::tl)=q:=⟨_,rfl⟩
   have hqb:q.natAbs≤6 * HH:=by rw [← hq];exact zoW hpr1 hf
   have hkm:Ft 200 ((-q:Int):Rat):=zoX (by rw [Int.natAbs_neg];exact hqb)
   have hkp:Ft 200 ((q:Int):Rat):=zoX hqb
   have hfit:Fit q:=zoY hqb
   obtain ⟨R,hR⟩:∃ R,zeU (a0::tl) (zeW (ov tl.length) ((-q:Int):Rat))=R:=⟨_,rfl⟩
   have hRft:∀ s∈R,Ft 231 s:=by rw [← hR];exact zoZ hf hkm
   have hRl:R.length=a.p.length:=by rw [← hR];unfold zeU zeW;rw [List.length_zipWith,List.length_map,ziF,List.length_cons,Nat.min_self,htl];omega
   -- the note that is the period
   have hcell:∃ bb oo,b2=some ⟨bb,oo,none⟩∧V.cell? ⟨bb,oo+n,none⟩=some r.u∧Rd V r.u (ov tl.length)∧RdM V (.slice b2 N d2) rs:=by
    obtain ⟨vp,vn,e,hp,hnn,hmr⟩:=HsV.out;simp only [Value.agg.injEq,Array.mk.injEq,List.cons.injEq,and_true] at e;obtain ⟨rfl,rfl⟩:=e;obtain ⟨a',c',e1,_,_,hcc⟩:=hnn.parts;have e2:=e1;injection e2 with e3 _ _;obtain ⟨bb,oo,e4,hc⟩:=hcc n r.u (by unfold qwc;rw [List.getElem?_map,hr];rfl);exact ⟨bb,oo,by rw [e3,e4],hc,by rw [← hrx];exact hmr r (List.mem_of_getElem? hr),hnn,hmr⟩
   obtain ⟨bb,oo,rfl,hcn,hrdp,hrm⟩:=hcell
   obtain ⟨ra,rc,hru,hrdp⟩:=zkQ hrdp (show (ov tl.length).length=a.p.length by rw [ziF];omega)
   rw [hru] at hcn
   have hlre:=fun W (hE:Ext V W)=>zoU (.slice a2 a.p.length c2) (.slice ra a.p.length rc) (.slice ax m cx) a.p a0 tl W (He.out.ext (HxV.out.trans hE)) (hE.sl Hpv.out) (hE.rd hrdp) (hE.rd hrd0) Hw2.out.right.pe hpr1 hf (Hrv.out.ext (HxV.out.trans hE)) (by rw [hq];exact hkp)
   rw [hq,hR] at hlre
   have hre:=zns _ _ a.p rs n r a0 tl V (He.out.ext HxV.out) HsV.out Hw2.out.right hrn hr hrx hrd0 hpr1 hf (Hrv.out.ext HxV.out) (by rw [hq];exact hkm.mono (by omega)) (by rw [hq];exact hfit)
   have hfi:=fun W (hE:Ext V W)=>znz _ _ a.p rs n r a0 tl W (He.out.ext (HxV.out.trans hE)) (HsV.out.ext hE) Hw2.out.right hrn hr hrx (hE.rd hrd0) hpr1 hf (Hrv.out.ext (HxV.out.trans hE)) (by rw [hq];exact hkm.mono (by omega)) (by rw [hq];exact hfit)
   have hreX:=fun (hall:∀ s∈R,Ft 100000 s)(hx:∃ s∈R,¬ Ft 30 s)=>zpn _ _ a.p rs n r a0 tl V (He.out.ext HxV.out) HsV.out Hw2.out.right hrn hr hrx hrd0 hpr1 hf (Hrv.out.ext HxV.out) (by rw [hq];exact hkm.mono (by omega)) (by rw [hq];exact hfit) (by rw [hq,hR];exact hall) (by rw [hq,hR];exact hx)
   have hfiX:=fun W (hE:Ext V W)(hall:∀ s∈R,Ft 100000 s)(hx:∃ s∈R,¬ Ft 30 s)=>zpo _ _ a.p rs n r a0 tl W (He.out.ext (HxV.out.trans hE)) (HsV.out.ext hE) Hw2.out.right hrn hr hrx (hE.rd hrd0) hpr1 hf (Hrv.out.ext (HxV.out.trans hE)) (by rw [hq];exact hkm.mono (by omega)) (by rw [hq];exact hfit) (by rw [hq,hR];exact hall) (by rw [hq,hR];exact hx)
   rw [hq,hR] at hre hfi
   have hnt:=fun (i:Nat)(hi:i≤N)(h:R=zat a.p (rs.map Qw.x) i)=>Hw2.out.fin_nt (i:=i) (by rw [List.length_map,HN.out];exact hi) (by rw [hR];exact h)
   rw [List.length_map,HN.out] at hnt
   have hzw:IntKind.i64.wrap ((N:Int) - 1)=(n:Int):=by rw [show (N:Int) - 1=(n:Int) by omega];exact IntWalk.i64_in _ (by omega)
   have hn0:(0:Int)≤(n:Int):=by omega
   have hn1:(n:Int)<(N:Int):=by omega
   have hS:∀ W,Ext V W→W.cell? ⟨w3.heap.size,0,none⟩=some (.slice a2 a.p.length c2)∧W.cell? ⟨w3.heap.size,1,none⟩=some (.slice (some ⟨bb,oo,none⟩) N d2)∧W.cell? ⟨bb,oo+n,none⟩=some (.slice ra a.p.length rc):=fun W hE=>⟨(HbV.out.ext hE).c0,(HbV.out.ext hE).c1,hE.cell hcn⟩
   have hpl1000:a.p.length≤1000:=by omega
   have hckz:=fun W (hE:Ext V W)=>Hck.out W hE
   rw [hk0] at hckz
   have HS:=Lib.hid hS;have Hlre:=Lib.hid hlre;have Hnt:=Lib.hid hnt;have HRft:=Lib.hid hRft;have HRl:=Lib.hid hRl;have Hckz:=Lib.hid hckz;have Hrm:=Lib.hid hrm;have Hrd0:=Lib.hid hrd0;have Hre:=Lib.hid hre;have Hfi:=Lib.hid hfi;have HreX:=Lib.hid hreX;have HfiX:=Lib.hid hfiX;have Hlp:=Lib.hid hlp
   generalize hsq:I q=sq at *
   have Hsq:=Lib.hid hsq;have Hfit:=Lib.hid hfit
   clear hS hlre hnt hRft hRl hckz hrm hre hfi hreX hfiX hlp hsq hfit hk0 hrd0 hrdp hcn hru hrx hrn hr hn hpr1 htl hxl hf hlen hfr hlx hx0 hkm hkp hqb hq hR hpos h9 hpr
   by_cases hres:∀ s∈R,Ft 30 s
   ·have hre:=Hre.out hres
    have hfi:=fun W hE=>Hfi.out W hE hres
    have Hre2:=Lib.hid hre;have Hfi2:=Lib.hid hfi;have Hres:=Lib.hid hres
    clear hre hfi hres Hre Hfi HreX HfiX
    go_wp2_with fail
    rw [← HV.out]
    refine Hre2.out.mono ?_
    rintro e w4 ⟨g4,rfl,ho4,hx4⟩
    have s4:=HS.out w4 hx4
    obtain ⟨q0,q1,q2⟩:=s4
    have H4:=Lib.hid hx4;have Hr4:=Lib.hid ho4.rd
    clear hx4 ho4
    go_wp2_with fail
    refine (Hfi2.out w4 H4.out).mono ?_
    rintro e w5 ⟨z,hz,rfl,hx5⟩
    have s5:=HS.out w5 (H4.out.trans hx5)
    obtain ⟨q0,q1,q2⟩:=s5
    have H5:=Lib.hid (H4.out.trans hx5);have Hr5:=Lib.hid (hx5.rd Hr4.out);have Hz:=Lib.hid hz
    clear hx5 hz
    rw [HN.out]
    generalize hk1:(findA N (z+1) q (decide (R=List.replicate a.p.length 0))).1=kk
    generalize hk2:(findA N (z+1) q (decide (R=List.replicate a.p.length 0))).2=fnd
    have Hk1:=Lib.hid hk1;have Hk2:=Lib.hid hk2
    clear hk1 hk2
    go_wp2_with fail
    refine (Hckz.out w5 H5.out).mono ?_
    rintro e w6 ⟨rfl,hx6⟩
    have s6:=HS.out w6 (H5.out.trans hx6)
    obtain ⟨q0,q1,q2⟩:=s6
    have H6:=Lib.hid (H5.out.trans hx6);have Hr6:=Lib.hid (hx6.rd Hr5.out)
    clear hx6
    have hSQ:∀ W,Ext w6 W→Ext w6 W∧W.cell? ⟨w3.heap.size,0,none⟩=some (.slice a2 a.p.length c2)∧W.cell? ⟨w3.heap.size,1,none⟩=some (.slice (some ⟨bb,oo,none⟩) N d2)∧W.cell? ⟨bb,oo+n,none⟩=some (.slice ra a.p.length rc):=fun W hE=>⟨hE,HS.out W (H6.out.trans hE)⟩
    have HSQ:=Lib.hid hSQ
    clear hSQ
    go_upto_region 9 with (fail)
    go_cut [13,14] (fun v13 v14 wx=>zq1 w6 a.p.length sq R v13 v14 wx)
    case first =>
     go_region_held3 (fun w'=>Ext w6 w'∧w'.cell? ⟨w3.heap.size,0,none⟩=some (.slice a2 a.p.length c2)∧w'.cell? ⟨w3.heap.size,1,none⟩=some (.slice (some ⟨bb,oo,none⟩) N d2)∧w'.cell? ⟨bb,oo+n,none⟩=some (.slice ra a.p.length rc))
      (first | (with_reducible assumption) | exact HSQ.out _ (Ext.refl w6).drew | exact HSQ.out _ (((Ext.refl w6).drew).alloc _) | exact HSQ.out _ (HE8.out.setCell (p:=⟨w6.heap.size,0,none⟩) (Nat.le_refl _) _) | exact HSQ.out _ (HE8.out.alloc _))
      (first
       | (go_at_call 20
          refine (Hlre.out _ (H6.out.trans (And.left (by with_reducible assumption)))).mono ?_
          rintro e9 V8 ⟨u8,rfl,ho,hxa⟩
          have ho8:V8.ownsRow _ 60 2 u8 R.length (rcs R):=ho
          rw [HRl.out] at ho8
          obtain ⟨ao,co,rfl⟩:=zel ho8
          have hE8:Ext w6 V8:=Ext.trans (And.left (by with_reducible assumption)) hxa
          have hS8:=HSQ.out V8 hE8
          first
            | (have hbB:Boxed V8 w6.heap.size 32 (.slice none 0 0):=hxa.heap (World.alloc_heap_new w6.drew _)
               have k0:=hbB.cell
               have z0:=hbB.frozen
               have HbB:=Lib.hid hbB
               clear hbB)
            | skip
          have HE8:=Lib.hid hE8
          have Ho8:=Lib.hid ho
          clear hxa hE8 ho8 ho))
     all_goals
      go_wp2_with fail
      go_meet
      unfold zq1
      first
       | exact ⟨w6.heap.size,ao,co,rfl,rfl,Boxed.set _ HbB.out,zf6.rd (zgk HbB.out Ho8.out (by decide) 0 _),HE8.out.setCell (p:=⟨w6.heap.size,0,none⟩) (Nat.le_refl _) _⟩
       | exact ⟨V8.heap.size,ao,co,rfl,rfl,Boxed.new V8 _ _,((Ext.refl V8).alloc _).rd Ho8.out.rd,HE8.out.alloc _⟩
    case rest =>
     obtain ⟨bk,ao,co,rfl,rfl,hb,hrd,hx9⟩:=hcut
     obtain ⟨q0,q1,q2⟩:=HS.out _ (H6.out.trans hx9)
     have heq:=zkk _ _ R R _ (hx9.rd Hr6.out) hrd (by rw [HRl.out];omega) (by rw [HRl.out];omega)
     rw [decide_eq_true rfl] at heq
     have k9:=hb.cell
     have H9:=Lib.hid (H6.out.trans hx9);have Hb9:=Lib.hid hb;have Hr9:=Lib.hid hrd;have Heq:=Lib.hid heq
     clear hb hrd hx9 heq
     go_wp2_with fail
     refine Heq.out.mono ?_
     rintro e w10 ⟨rfl,hx10⟩
     obtain ⟨q0,q1,q2⟩:=HS.out w10 (H9.out.trans hx10)
     have hb10:Boxed w10 bk 32 (.slice ao a.p.length co):=hx10.heap Hb9.out
     have k9:=hb10.cell
     have H10:=Lib.hid (H9.out.trans hx10);have Hb10:=Lib.hid hb10;have Hr10:=Lib.hid (hx10.rd Hr9.out)
     clear hb10 hx10
     go_wp2_with fail
     obtain ⟨j0,hj,hy0,hy1,hy2⟩:=info_parts zf8
     have hj9:=Tryz.underlying34
     have hb1:1+N≤maxLen:=by unfold maxLen;omega
     have hb2:(1+N) * 24≤140737488355328:=by omega
     have hSK:∀ W,Ext w10 W→Ext w10 W∧W.cell? ⟨w3.heap.size,0,none⟩=some (.slice a2 a.p.length c2)∧W.cell? ⟨w3.heap.size,1,none⟩=some (.slice (some ⟨bb,oo,none⟩) N d2)∧W.cell? ⟨bk,0,none⟩=some (.slice ao a.p.length co):=fun W hE=>⟨hE,(HS.out W (H10.out.trans hE)).1,(HS.out W (H10.out.trans hE)).2.1,hE.cell k9⟩
     have hle:=fun W (hE:Ext w10 W)=>zoT (.slice ao a.p.length co) (.slice ao a.p.length co) R R W (He.out.ext (HxV.out.trans (H10.out.trans hE))) (hE.rd Hr10.out) (hE.rd Hr10.out) rfl (by rw [HRl.out];omega) (fun s hs=>(HRft.out s hs).mono (by omega)) (fun s hs=>(HRft.out s hs).mono (by omega))
     rw [zj3,HRl.out] at hle
     have hrow:∀ W,Ext w10 W→∀ j u,(qwc rs)[j]?=some u→W.cell? ((⟨bb,oo,none⟩:Addr).add j)=some u:=fun W hE j u hu=>by
      obtain ⟨a',c',e1,_,_,hc⟩:=Hrm.out.1.parts;injection e1 with e1 _ _;obtain ⟨b',o',e4,hcc⟩:=hc j u hu;rw [e4] at e1
      cases e1
      rw [show ((⟨bb,oo,none⟩:Addr).add j)=⟨bb,oo+j,none⟩ by unfold Addr.add;split <;> simp_all]
      exact (H10.out.trans hE).cell hcc
     have hone:∀ u∈qwc rs,u.oneCell'=true:=fun u hu=>by
      obtain ⟨s,_,rfl⟩:=List.mem_map.1 hu;exact s.hu
     have hql:(qwc rs).length=N * 1:=by rw [zf9,HN.out,Nat.mul_one]
     have hidx:=fun W u0 (hu0:u0.oneCell'=true) v (hE:Ext w10 W)(h0:Rd W u0 (zer a.p.length))(hv:Sl W v ([u0]++qwc rs))=>zku 26 #[.pointer (some ⟨bk,0,none⟩)] v (⟨zer a.p.length,u0,hu0⟩::rs) (fun t=>decide (t=R)) W hv (by rw [List.length_cons,HN.out];omega) (fun _ _=>rfl) (fun W2 hE2 s hs=>zq5 bk (.slice ao a.p.length co) s.u R s.x W2 (hE2.heap (hE.heap Hb10.out)) ((hE.trans hE2).rd Hr10.out) (by
      rcases List.mem_cons.1 hs with rfl | hs
      ·exact hE2.rd h0
      ·exact (H10.out.trans (hE.trans hE2)).rd (Hrm.out.2 s hs)) (by rw [HRl.out];omega) (by
      rcases List.mem_cons.1 hs with rfl | hs
      ·show (zer a.p.length).length≤1000;rw [zj0];omega
      ·have:=Hw2.out.len _ (List.mem_map_of_mem hs);omega))
     have HSK:=Lib.hid hSK;have Hle:=Lib.hid hle;have Hrow:=Lib.hid hrow;have Hone:=Lib.hid hone;have Hql:=Lib.hid hql;have Hidx:=Lib.hid hidx
     clear hSK hle hrow hone hql hidx
     go_cut [15] (fun v15 wx=>zq2 w10 R a.p.length rs v15 wx)
     case first =>
      go_region_held3 (fun w'=>Ext w10 w'∧w'.cell? ⟨w3.heap.size,0,none⟩=some (.slice a2 a.p.length c2)∧w'.cell? ⟨w3.heap.size,1,none⟩=some (.slice (some ⟨bb,oo,none⟩) N d2)∧w'.cell? ⟨bk,0,none⟩=some (.slice ao a.p.length co))
       (first | (with_reducible assumption) | exact HSK.out _ (Ext.refl w10).drew | exact HSK.out _ (HEA.out.alloc _))
       (first
        | (go_at_call 25
           refine (Hle.out _ (And.left (by with_reducible assumption))).mono ?_
           rintro e9 VA ⟨u9,rfl,ho,hxa⟩
           have ho8:VA.ownsRow _ 60 2 u9 (zer a.p.length).length (rcs (zer a.p.length)):=ho
           rw [zj0] at ho8
           obtain ⟨az,cz,rfl⟩:=zel ho8
           have hEA:Ext w10 VA:=Ext.trans (And.left (by with_reducible assumption)) hxa
           have hSA:=HSK.out VA hEA
           have hlit:=zlz (w:=VA) (B:=w10.heap.size) 32 #[.slice az a.p.length cz] hEA.size (by show 1≤maxLen;unfold maxLen;omega)
           have hEA2:=hEA.alloc (.cells #[.slice az a.p.length cz] 32)
           have HEA:=Lib.hid hEA;have Hrz:=Lib.hid ho.rd;have Hlit:=Lib.hid hlit;have HEA2:=Lib.hid hEA2
           clear hxa hEA ho8 ho hlit hEA2)
        | (refine zq0 (VA.alloc (.cells #[.slice az a.p.length cz] 32)) rfl (.tmp 110) (.tmp 112) 34 rfl w10.heap.size 32 j0 (.slice none 0 0) 1 24 hj9 hj hy0 hy1 hy2 rfl (by decide) (.slice (some ⟨VA.heap.size,0,none⟩) 1 1) 1 [.slice az a.p.length cz] (by with_unfolding_all rfl) Hlit.out (some ⟨bb,oo,none⟩) N d2 (qwc rs) (by with_unfolding_all rfl) (fun h=>by cases h) Hql.out (fun ad h=>by cases h;exact Hrow.out _ HEA2.out) Hone.out hb1 hb2 HEA2.out.size ?_
           intro v8 VB hown hgrow
           have hEB:=zq3 HEA2.out Hlit.out hgrow
           have hSB:=HSK.out VB hEB
           obtain ⟨a8,c8,rfl⟩:=zel hown
           have hrB:=zq3 ((Ext.refl VA).alloc (.cells #[.slice az a.p.length cz] 32)) (zlz (w:=VA) (B:=VA.heap.size) 32 #[.slice az a.p.length cz] (Nat.le_refl _) (by show 1≤maxLen;unfold maxLen;omega)) hgrow
           have hrB2:Rd VB (.slice az a.p.length cz) (zer a.p.length):=hrB.rd Hrz.out
           have hid2:=Hidx.out VB (.slice az a.p.length cz) rfl _ hEB hrB2 (zai hown)
           have Hid2:=Lib.hid hid2;have HEB:=Lib.hid hEB
           clear hown hgrow hrB hrB2 hid2 hEB)
        | (go_at_call 24
           refine Hid2.out.mono ?_
           rintro e9 VC ⟨z2,rfl,hz2,hxa⟩
           have HEC:=Lib.hid (HEB.out.trans hxa);have Hz2:=Lib.hid hz2
           have hSC:=HSK.out VC (HEB.out.trans hxa)
           clear hxa hz2))
      all_goals
       go_wp2_with fail
       go_meet
       unfold zq2
       exact ⟨z2,_,rfl,rfl,Hz2.out,HEC.out⟩
     case rest =>
      obtain ⟨z2,qz,rfl,hqz,hz2,hx15⟩:=hcut
      have htwo:=Hw2.out.idx_two hqz Hz.out hz2
      obtain ⟨q0,q1,q2⟩:=HS.out _ (H10.out.trans hx15)
      have H15:=Lib.hid (H10.out.trans hx15);have Hx15:=Lib.hid (HxV.out.trans (H10.out.trans hx15))
      clear hqz hz2 hx15 k9
      have hfit:=Hfit.out
      cases fnd with
      | false =>
       obtain ⟨hka,hkb⟩:=zpc Hk2.out
       have hkk:kk=0:=Hk1.out.symm.trans hka
       subst hkk
       rcases htwo with ⟨_,_,hz2e⟩ | ⟨hz2e,hz20,hz21,hzy⟩
       ·subst hz2e
        clear hka hkb
        go_wp2
        go_ret
        exact ⟨rfl,Hx15.out⟩
       ·obtain ⟨i,rfl⟩:∃ i:Nat,z2=i:=⟨z2.toNat,by omega⟩
        have hiN:i≤60:=by rw [HN.out] at hz21;omega
        have hfar:=zpg q i N _ (Hrv.out.ext Hx15.out) hfit hiN hN60
        have hft:zpb q (i:Int) (N:Int)=true:=by
         rcases hkb with ⟨h1,h2⟩ | h
         ·exfalso;have hi0:i=0:=(by omega);subst hi0;exact (of_decide_eq_false h2) hzy
         ·rw [← hz2e] at h;exact h
        rw [hft,Hsq.out] at hfar
        have Hfar:=Lib.hid hfar
        have hzn:¬ (i:Int)<0:=by omega
        clear hka hkb hfar hft hz2e hzy hz21 hz20 hfit
        go_wp2_with fail
        refine Hfar.out.mono ?_
        rintro e w16 ⟨rfl,hx16⟩
        have Hx16:=Lib.hid (Hx15.out.trans hx16)
        clear hx16
        go_wp2
        go_ret
        exact ⟨rfl,Hx16.out⟩
      | true =>
       obtain ⟨hka,hkb,hkc,hkd⟩:=zpd Hk2.out
       have hkk:kk=q * (N:Int)+(z+1):=Hk1.out.symm.trans hka
       rcases htwo with ⟨hz1,hne,_⟩ | ⟨hz2e,hz20,hz21,hzy⟩
       ·exact absurd ⟨by omega,decide_eq_false hne⟩ hkb
       ·obtain ⟨i,rfl⟩:∃ i:Nat,z2=i:=⟨z2.toNat,by omega⟩
        rw [HN.out] at hz21
        have hntx:=Hnt.out i (by omega) hzy
        rw [← hz2e] at hkk hkc hkd
        rw [← hkk] at hntx hkc hkd
        have hk9a:-1000000≤kk:=hkc
        have hk9b:kk≤1000000:=hkd
        have hno:=zlG _ a.p rs kk _ (He.out.ext Hx15.out) (HsV.out.ext H15.out) Hw2.out (by omega) (by omega)
        rw [hntx] at hno
        have Hno:=Lib.hid hno;have Hrx:=Lib.hid (H15.out.rd Hrd0.out)
        have hlx:(a0::tl).length≤1000:=by
         have h:=Hw2.out.ntlen kk;rw [hntx] at h;omega
        have Hlx:=Lib.hid hlx
        clear hka hkb hno hntx hkk hz2e hzy hz21 hz20 hfit hlx hkc hkd
        go_wp2_with fail
        refine Hno.out.mono ?_
        rintro e w16 ⟨u16,rfl,ho16,hx16⟩
        have heq:=zkk _ _ _ _ w16 ho16.rd (hx16.rd Hrx.out) Hlx.out Hlx.out
        rw [decide_eq_true rfl] at heq
        obtain ⟨a16,c16,rfl,_,_,_⟩:=ho16.rd.parts
        have Heq2:=Lib.hid heq;have Hx16:=Lib.hid (Hx15.out.trans hx16)
        clear heq ho16 hx16 q0 q1 q2
        generalize (a0::tl).length=nx at *
        go_wp2_with fail
        refine Heq2.out.mono ?_
        rintro e w17 ⟨rfl,hx17⟩
        have Hx17:=Lib.hid (Hx16.out.trans hx17)
        clear hx17
        go_wp2
        go_ret
        exact ⟨rfl,Hx17.out⟩
   ·have hex:∃ s∈R,¬ Ft 30 s:=Classical.byContradiction fun h=>hres fun s hs=>Classical.byContradiction fun g=>h ⟨s,hs,g⟩
    have hall:∀ s∈R,Ft 100000 s:=fun s hs=>(HRft.out s hs).mono (by omega)
    have hre:=HreX.out hall hex
    have hfi:=fun W hE=>HfiX.out W hE hall hex
    have Hre2:=Lib.hid hre;have Hfi2:=Lib.hid hfi;have Hex:=Lib.hid hex
    clear hre hfi hres hall hex Hre Hfi HreX HfiX
    go_wp2_with fail
    rw [← HV.out]
    refine Hre2.out.mono ?_
    rintro e w4 ⟨rfl,hx4⟩
    have s4:=HS.out w4 hx4
    obtain ⟨q0,q1,q2⟩:=s4
    have H4:=Lib.hid hx4
    clear hx4
    go_wp2_with fail
    refine (Hfi2.out w4 H4.out).mono ?_
    rintro e w5 ⟨rfl,hx5⟩
    have s5:=HS.out w5 (H4.out.trans hx5)
    obtain ⟨q0,q1,q2⟩:=s5
    have H5:=Lib.hid (H4.out.trans hx5)
    clear hx5
    go_wp2_with fail
    refine (Hckz.out w5 H5.out).mono ?_
    rintro e w6 ⟨rfl,hx6⟩
    have s6:=HS.out w6 (H5.out.trans hx6)
    obtain ⟨q0,q1,q2⟩:=s6
    have H6:=Lib.hid (H5.out.trans hx6)
    clear hx6
    have hSQ:∀ W,Ext w6 W→Ext w6 W∧W.cell? ⟨w3.heap.size,0,none⟩=some (.slice a2 a.p.length c2)∧W.cell? ⟨w3.heap.size,1,none⟩=some (.slice (some ⟨bb,oo,none⟩) N d2)∧W.cell? ⟨bb,oo+n,none⟩=some (.slice ra a.p.length rc):=fun W hE=>⟨hE,HS.out W (H6.out.trans hE)⟩
    have HSQ:=Lib.hid hSQ
    clear hSQ
    go_upto_region 9 with (fail)
    go_cut [13,14] (fun v13 v14 wx=>zq1 w6 a.p.length sq R v13 v14 wx)
    case first =>
     go_region_held3 (fun w'=>Ext w6 w'∧w'.cell? ⟨w3.heap.size,0,none⟩=some (.slice a2 a.p.length c2)∧w'.cell? ⟨w3.heap.size,1,none⟩=some (.slice (some ⟨bb,oo,none⟩) N d2)∧w'.cell? ⟨bb,oo+n,none⟩=some (.slice ra a.p.length rc))
      (first | (with_reducible assumption) | exact HSQ.out _ (Ext.refl w6).drew | exact HSQ.out _ (((Ext.refl w6).drew).alloc _) | exact HSQ.out _ (HE8.out.setCell (p:=⟨w6.heap.size,0,none⟩) (Nat.le_refl _) _) | exact HSQ.out _ (HE8.out.alloc _))
      (first
       | (go_at_call 20
          refine (Hlre.out _ (H6.out.trans (And.left (by with_reducible assumption)))).mono ?_
          rintro e9 V8 ⟨u8,rfl,ho,hxa⟩
          have ho8:V8.ownsRow _ 60 2 u8 R.length (rcs R):=ho
          rw [HRl.out] at ho8
          obtain ⟨ao,co,rfl⟩:=zel ho8
          have hE8:Ext w6 V8:=Ext.trans (And.left (by with_reducible assumption)) hxa
          have hS8:=HSQ.out V8 hE8
          first
            | (have hbB:Boxed V8 w6.heap.size 32 (.slice none 0 0):=hxa.heap (World.alloc_heap_new w6.drew _)
               have k0:=hbB.cell
               have z0:=hbB.frozen
               have HbB:=Lib.hid hbB
               clear hbB)
            | skip
          have HE8:=Lib.hid hE8
          have Ho8:=Lib.hid ho
          clear hxa hE8 ho8 ho))
     all_goals
      go_wp2_with fail
      go_meet
      unfold zq1
      first
       | exact ⟨w6.heap.size,ao,co,rfl,rfl,Boxed.set _ HbB.out,zf6.rd (zgk HbB.out Ho8.out (by decide) 0 _),HE8.out.setCell (p:=⟨w6.heap.size,0,none⟩) (Nat.le_refl _) _⟩
       | exact ⟨V8.heap.size,ao,co,rfl,rfl,Boxed.new V8 _ _,((Ext.refl V8).alloc _).rd Ho8.out.rd,HE8.out.alloc _⟩
    case rest =>
     obtain ⟨bk,ao,co,rfl,rfl,hb,hrd,hx9⟩:=hcut
     have k9:=hb.cell
     have hct:=zpJ 22 (.slice ao a.p.length co) (R.map rp) (lng 30) _ (zpH hrd) (by rw [List.length_map,HRl.out];omega) (fun _ _=>rfl) (fun W _ e _=>zpL e W)
     have hany:(R.map rp).any (lng 30)=true:=by
      obtain ⟨s,hs,hn⟩:=Hex.out;rw [List.any_eq_true];exact ⟨rp s,List.mem_map_of_mem hs,zq4 hn⟩
     rw [hany] at hct
     have Hct:=Lib.hid hct;have H9:=Lib.hid (HxV.out.trans (H6.out.trans hx9))
     clear hb hrd hx9 hct hany
     go_wp2_with fail
     refine Hct.out.mono ?_
     rintro e w10 ⟨rfl,hx10⟩
     have H10:=Lib.hid (H9.out.trans hx10)
     clear hx10
     go_wp2
     go_ret
     exact ⟨rfl,H10.out⟩
  ·have hk:ckU a.p.length l=2∨ckU a.p.length l=4∨ckU a.p.length l=5:=by rcases zpB a.p.length l with h | h | h | h <;> omega
   have hre:=zpQ _ _ a.p rs l V (He.out.ext HxV.out) HsV.out Hw2.out.right HrV.out (by omega) h9 _ hk rfl
   have hfi:=fun W (hE:Ext V W)=>zpR _ _ a.p rs l W (He.out.ext (HxV.out.trans hE)) (HsV.out.ext hE) Hw2.out.right (hE.rb HrV.out) (by omega) h9 _ hk rfl
   have hkb:((ckU a.p.length l) == 0)=false:=beq_eq_false_iff_ne.2 hk0
   generalize ckU a.p.length l=k at *
   have Hre:=Lib.hid hre;have Hfi:=Lib.hid hfi
   clear hre hfi h9
   go_wp2_with fail
   rw [← HV.out]
   refine Hre.out.mono ?_
   rintro e w4 ⟨rfl,hx4⟩
   have b4:=HbV.out.ext hx4
   have q0:=b4.c0;have q1:=b4.c1
   have H4:=Lib.hid hx4
   clear hx4 b4
   go_wp2_with fail
   refine (Hfi.out w4 H4.out).mono ?_
   rintro e w5 ⟨rfl,hx5⟩
   have b5:=HbV.out.ext (H4.out.trans hx5)
   have q0:=b5.c0;have q1:=b5.c1
   have H5:=Lib.hid (H4.out.trans hx5)
   clear hx5 b5
   go_wp2_with fail
   refine (Hck.out w5 H5.out).mono ?_
   rintro e w6 ⟨rfl,hx6⟩
   have H6:=Lib.hid (HxV.out.trans (H5.out.trans hx6))
   clear hx6 q0 q1
   go_wp2
   go_ret
   exact ⟨rfl,H6.out⟩
end
section
open Go.ChangeShapes Go.WideShapes Go.ChangeAt Go.WideMaps Go.WideElems Go.RowKit
theorem zq7 {n:Int}(h:(Lit.int .u8 n).wf=true):0≤n∧n≤255:=by
 simp [Lit.wf,IntKind.min,IntKind.max,IntKind.signed,IntKind.bits] at h;omega
section
variable {H : Type} {enc : TypeId × Value → H} {P : Program}
theorem zq8 {f:Func}{s:ChangeSpec}{apart fresh handsOn again:Bool}{W W':World}{args:Array Value}{v:Value}{ds gs:List (DataW H)}{before pa pv:List MemPlace}
  (hW:DataW.Whole enc P f.params.toList s.vars apart W args.toList ds gs before)
  (hres:∀ (b:Nat)(sp:Nat→Bool)(hd:Bool),DataW.TrodAll enc P W' b sp hd f.resultTypes.toList (v.resultList f.resultTypes.size) (s.fn H (ds++gs)).results [])
  (hargs:∀ sp:Nat→Bool,(∀ p∈before,sp p.block=true)→DataW.TrodAll enc P W' 0 sp true f.params.toList args.toList (s.fn H (ds++gs)).args pa)
  (hvars:∀ sp:Nat→Bool,(∀ p∈before,sp p.block=true)→DataW.TrodVars enc P W' sp s.vars (s.fn H (ds++gs)).vars pv)
  (hps:before=pa++pv) (hb:Below W.heap.size W W')
  (hok:∀ (j:Nat)(t:TypeId)(r:Value),f.resultTypes[j]?=some t→(v.resultList f.resultTypes.size)[j]?=some r→Value.okWide P W' .any 0 t r) :
  s.post enc P f apart fresh handsOn again W args v W':=by
 have hlt:∀ p∈before,p.block<W.heap.size:=fun p hp=>hW.lt p hp;have hold:∀ p∈before,(fun b=>decide (b<W.heap.size)) p.block=true:=fun p hp=>by simpa using hlt p hp
 refine ⟨ds,gs,before,[],pa,pv,hW,hres _ _ _,hargs _ hold,hvars _ hold,World.keptBut_mono (fun p hp=>⟨hp,?_⟩) (hb.frame (·∈before)),fun _=>?_⟩
 ·rw [hps,List.mem_append] at hp;exact Or.inr hp
 ·obtain ⟨_,_,_,_,_,hz,hn⟩:=hW;refine ⟨hok,_,_,([]++pa)++pv,⟨[]++pa,pv,trodAll_append (hargs _ (fun _ _=>rfl)) (hres _ _ _),hvars _ (fun _ _=>rfl),rfl,?_,?_⟩,?_⟩
  ·intro b off hp;have hin:MemPlace.cell b off∈before:=(by rw [hps];simpa using hp);rw [hb.frozen (hlt _ hin)];exact hz b off hin
  ·intro ha;have:=hn ha;rw [hps] at this;simpa using this
  ·intro p hp _;rw [hps];simpa using hp
end
theorem zq9 : ownKnob Tryz.prog.godebug=none:=by kernel_rfl
theorem zqA : (Tryz.prog.globals[2]?).map (·.type)=some 273:=by kernel_rfl
theorem zqB : Tryz.prog.cellsOf 160=1:=by kernel_rfl
theorem zqC : Tryz.prog.cellsOf 273=20:=by kernel_rfl
theorem zqD {W : World} (h : laidMetH Tryz.prog [("math/bits.deBruijn32tab", Rows.laid_math_bits_deBruijn32tab), ("math/bits.deBruijn64tab", Rows.laid_math_bits_deBruijn64tab), ("internal/strconv.uint64pow10", Rows.laid_internal_strconv_uint64pow10), ("strconv.ErrRange", Rows.laid_strconv_ErrRange), ("strconv.ErrSyntax", Rows.laid_strconv_ErrSyntax)] W) : Env W := by
 rw [MakeChecks.laidMetH_plain _ _ _ (by kernel_rfl)] at h;exact Lib.tabIs_of_head (k:=.u64) (zs:=Lib.pow10Tab) zaw zqA Tryz.underlying273 Tryz.underlying160 zqB zqC h.tail.tail
def zqE : List (String × DataW Unit) := [("math/bits.deBruijn32tab", Rows.laid_math_bits_deBruijn32tab), ("math/bits.deBruijn64tab", Rows.laid_math_bits_deBruijn64tab), ("internal/strconv.uint64pow10", Rows.laid_internal_strconv_uint64pow10), ("strconv.ErrRange", Rows.laid_strconv_ErrRange), ("strconv.ErrSyntax", Rows.laid_strconv_ErrSyntax)]
theorem zqF (os:Os)(args:Array Value):((World.laidAll Tryz.prog os zqE).forCall (fun _ _=>0) ⟨#[],args,[]⟩).Shaped Tryz.prog:=World.shaped_of_ZipB (by kernel_rfl) (by kernel_rfl)
theorem zqG (os:Os)(args:Array Value):laidMetH Tryz.prog zqE ((World.laidAll Tryz.prog os zqE).forCall (fun _ _=>0) ⟨#[],args,[]⟩).memory:=by
 rw [MakeChecks.laidMetH_plain _ _ _ (by kernel_rfl)];exact laidMet_laidAll _ (by kernel_rfl) (by kernel_rfl)
theorem zqH : laidOutB Tryz.prog=true:=by kernel_rfl
section
variable {H : Type} {enc : TypeId × Value → H} {W W' : World} {sp : Nat → Bool}
theorem zqI : ∀ {ts:List TypeId}{vs:List Value}{ds:List (DataW H)}{ps:List MemPlace},(∀ t∈ts,Tryz.prog.readableRec t=true∧t<Tryz.prog.types.size) →
  DataW.TrodAll enc Tryz.prog W 0 (fun _=>true) true ts vs ds ps→(∀ x∈ps,W.sameAt W' x)→(∀ x∈ps,sp x.block=true)→DataW.TrodAll enc Tryz.prog W' 0 sp true ts vs ds ps
 | [],_,_,_,_,h,_,_=>by
  obtain ⟨rfl,rfl,rfl⟩:=trodAll_nil h;exact trodAll_mk0
 | t::ts,vs,ds,ps,hts,h,hs,hp=>by
  obtain ⟨v,vs',d,ds',p,p',rfl,rfl,rfl,h1,h2⟩:=trodAll_cons h;obtain ⟨hr,hw⟩:=hts t (List.mem_cons_self ..);exact trodAll_cons_mk (WideElems.Trod_stays zqH hr hw h1 (fun x hx=>hs x (List.mem_append_left _ hx)) (fun x hx=>hp x (List.mem_append_left _ hx)))
   (zqI (fun t ht=>hts t (List.mem_cons_of_mem _ ht)) h2 (fun x hx=>hs x (List.mem_append_right _ hx)) (fun x hx=>hp x (List.mem_append_right _ hx)))
end
theorem zqJ {H:Type}{enc:TypeId × Value→H}{f:Func}{s:ChangeSpec}{W W':World}{args:Array Value}{ds:List (DataW H)}{before:List MemPlace}(hv:s.vars=[])(hts:∀ t∈f.params.toList,Tryz.prog.readableRec t=true∧t<Tryz.prog.types.size)
  (hres:f.resultTypes=#[4]) (hfn:s.fn H ds={ results:=[.lit (.bool true)],args:=ds })
  (hW:DataW.Whole enc Tryz.prog f.params.toList s.vars false W args.toList ds [] before) (hb:Below W.heap.size W W'):s.post enc Tryz.prog f false true false false W args (.bool true) W':=by
 have hW':=hW;obtain ⟨p,q,hA0,hV,rfl,_,_⟩:=hW;rw [hv] at hV;obtain ⟨_,rfl⟩:=trodVars_none hV;have hlt:∀ x∈p++[],x.block<W.heap.size:=fun x hx=>hW'.lt x hx;refine zq8 (pa:=p) (pv:=[]) hW' (fun _ _ _=>?_) (fun sp hsp=>?_) (fun _ _=>?_) rfl hb ?_
 ·rw [List.append_nil,hfn,hres];exact trodAll_mk1 (shut_bool Tryz.underlying4 _)
 ·rw [List.append_nil,hfn];exact zqI hts hA0 (fun x hx=>hb.same (hlt x (List.mem_append_left _ hx))) (fun x hx=>hsp x (List.mem_append_left _ hx))
 ·rw [List.append_nil,hfn,hv];rfl
 ·exact ok_one hres rfl (okWide_bool_mk Tryz.underlying4 _)
theorem zqK : Tryz.prog.cellsOf 4=1:=by kernel_rfl
theorem zqL : Tryz.prog.cellsOf 5=1:=by kernel_rfl
theorem zqM : Tryz.prog.cellsOf 22=1:=by kernel_rfl
theorem zqN : Tryz.prog.cellsOf 23=3:=by kernel_rfl
theorem zqO : Tryz.prog.cellsOf 24=24:=by kernel_rfl
theorem zqP : Tryz.prog.cellsOf 26=27:=by kernel_rfl
section
variable {H : Type} {enc : TypeId × Value → H} {w : World} {base : Nat} {spare : Nat → Bool} {held : Bool}
theorem zqQ {fuel:Nat}{c0 c1 c2:Value}{x:DataW H × List MemPlace}(h:DataW.trod enc Tryz.prog w base spare held fuel 23 [c0,c1,c2]=some x) :
  ∃ z:I3,c0=.int .i8 z.a∧c1=.int .i8 z.b∧c2=.int .i8 z.c∧z.ok:=by
 obtain ⟨y0,y1,y2,n,rfl,h0,h1,h2⟩:=trod_array3 Tryz.underlying23 zqM h;obtain ⟨a,ha,rfl,wa⟩:=DataW.trod_int Tryz.underlying22 h0;obtain ⟨b,hb,rfl,wb⟩:=DataW.trod_int Tryz.underlying22 h1;obtain ⟨c,hc,rfl,wc⟩:=DataW.trod_int Tryz.underlying22 h2;simp only [List.cons.injEq,and_true] at ha hb hc;have ba:=bounds_i8 wa;have bb:=bounds_i8 wb;have bc:=bounds_i8 wc;refine ⟨⟨a,b,c⟩,ha,hb,hc,fun i=>?_⟩;match i with
 | 0=>exact ba
 | 1=>exact bb
 | _+2=>exact bc
theorem zqR {n:Int}(h:(Lit.int .u8 n).wf=true):∃ k:Nat,n=k∧k<256:=by
 have:=zq7 h;exact ⟨n.toNat,by omega,by omega⟩
def zqS (z0 z1 z2 z3 z4 z5 z6 z7:I3):Nat→I3
 | 0=>z0
 | 1=>z1
 | 2=>z2
 | 3=>z3
 | 4=>z4
 | 5=>z5
 | 6=>z6
 | 7=>z7
 | _=>⟨0,0,0⟩
theorem zqT {r:Reach}{b0:Nat}{v:Value}{d:DataW H}{p:List MemPlace}(hv:Value.okWide Tryz.prog w r b0 26 v)(h:DataW.Trod enc Tryz.prog w base spare held 26 v d p) :
  ∃ a:Wl,v=a.v∧a.Ok:=by
 obtain ⟨cs,rfl,hsz⟩:=okWide_struct Tryz.underlying26 hv;rw [zqP] at hsz;obtain ⟨l⟩:=cs;match l,hsz with
 | [c0,c1,c2,c3,c4,c5,c6,c7,c8,c9,c10,c11,c12,c13,c14,c15,c16,c17,c18,c19,c20,c21,c22,c23,c24,c25,c26],_ =>
  obtain ⟨fuel,hf⟩:=h
  obtain ⟨y0,y1,y2,y3,k,hx,_,h0,h1,h2,h3⟩:=Go.Joins.trod_struct4 Tryz.underlying26 hf
  simp only [Value.cells,zqK,zqL,zqO,List.drop_zero,List.take_succ_cons,List.take_zero,List.drop_succ_cons] at h0 h1 h2 h3
  obtain ⟨b,hb,rfl⟩:=DataW.trod_bool Tryz.underlying4 h0
  obtain ⟨n,hn,rfl,wn⟩:=DataW.trod_int Tryz.underlying5 h1
  obtain ⟨m,hm,rfl,wm⟩:=DataW.trod_int Tryz.underlying5 h2
  simp only [List.cons.injEq,and_true] at hb hn hm
  obtain ⟨n',rfl,n1⟩:=zqR wn
  obtain ⟨m',rfl,m1⟩:=zqR wm
  obtain ⟨xs,j,_,_,_,hxl,hg⟩:=DataW.trod_array Tryz.underlying24 h3
  obtain ⟨q0,hq0⟩:∃ q,xs[0]?=some q:=⟨_,List.getElem?_eq_getElem (by omega)⟩
  have g0:=hg 0 (by omega)
  rw [hq0,zqN] at g0
  simp only [Nat.reduceMul,List.drop_zero,List.take_succ_cons,List.take_zero] at g0
  obtain ⟨z0,e0a,e0b,e0c,o0⟩:=zqQ g0
  obtain ⟨q1,hq1⟩:∃ q,xs[1]?=some q:=⟨_,List.getElem?_eq_getElem (by omega)⟩
  have g1:=hg 1 (by omega)
  rw [hq1,zqN] at g1
  simp only [Nat.reduceMul,List.drop_zero,List.take_succ_cons,List.take_zero,List.drop_succ_cons] at g1
  obtain ⟨z1,e1a,e1b,e1c,o1⟩:=zqQ g1
  obtain ⟨q2,hq2⟩:∃ q,xs[2]?=some q:=⟨_,List.getElem?_eq_getElem (by omega)⟩
  have g2:=hg 2 (by omega)
  rw [hq2,zqN] at g2
  simp only [Nat.reduceMul,List.drop_zero,List.take_succ_cons,List.take_zero,List.drop_succ_cons] at g2
  obtain ⟨z2,e2a,e2b,e2c,o2⟩:=zqQ g2
  obtain ⟨q3,hq3⟩:∃ q,xs[3]?=some q:=⟨_,List.getElem?_eq_getElem (by omega)⟩
  have g3:=hg 3 (by omega)
  rw [hq3,zqN] at g3
  simp only [Nat.reduceMul,List.drop_zero,List.take_succ_cons,List.take_zero,List.drop_succ_cons] at g3
  obtain ⟨z3,e3a,e3b,e3c,o3⟩:=zqQ g3
  obtain ⟨q4,hq4⟩:∃ q,xs[4]?=some q:=⟨_,List.getElem?_eq_getElem (by omega)⟩
  have g4:=hg 4 (by omega)
  rw [hq4,zqN] at g4
  simp only [Nat.reduceMul,List.drop_zero,List.take_succ_cons,List.take_zero,List.drop_succ_cons] at g4
  obtain ⟨z4,e4a,e4b,e4c,o4⟩:=zqQ g4
  obtain ⟨q5,hq5⟩:∃ q,xs[5]?=some q:=⟨_,List.getElem?_eq_getElem (by omega)⟩
  have g5:=hg 5 (by omega)
  rw [hq5,zqN] at g5
  simp only [Nat.reduceMul,List.drop_zero,List.take_succ_cons,List.take_zero,List.drop_succ_cons] at g5
  obtain ⟨z5,e5a,e5b,e5c,o5⟩:=zqQ g5
  obtain ⟨q6,hq6⟩:∃ q,xs[6]?=some q:=⟨_,List.getElem?_eq_getElem (by omega)⟩
  have g6:=hg 6 (by omega)
  rw [hq6,zqN] at g6
  simp only [Nat.reduceMul,List.drop_zero,List.take_succ_cons,List.take_zero,List.drop_succ_cons] at g6
  obtain ⟨z6,e6a,e6b,e6c,o6⟩:=zqQ g6
  obtain ⟨q7,hq7⟩:∃ q,xs[7]?=some q:=⟨_,List.getElem?_eq_getElem (by omega)⟩
  have g7:=hg 7 (by omega)
  rw [hq7,zqN] at g7
  simp only [Nat.reduceMul,List.drop_zero,List.take_succ_cons,List.take_zero,List.drop_succ_cons] at g7
  obtain ⟨z7,e7a,e7b,e7c,o7⟩:=zqQ g7
  refine ⟨⟨b,n',m',zqS z0 z1 z2 z3 z4 z5 z6 z7⟩,?_,n1,m1,fun i=>?_⟩
  ·rw [hb,hn,hm,e0a,e0b,e0c,e1a,e1b,e1c,e2a,e2b,e2c,e3a,e3b,e3c,e4a,e4b,e4c,e5a,e5b,e5c,e6a,e6b,e6c,e7a,e7b,e7c]
   rfl
  ·match i with
   | 0=>exact o0
   | 1=>exact o1
   | 2=>exact o2
   | 3=>exact o3
   | 4=>exact o4
   | 5=>exact o5
   | 6=>exact o6
   | 7=>exact o7
   | _+8=>exact fun k=>(match k with | 0=>(by decide:-128≤(0:Int)∧(0:Int)≤127) | 1=>(by decide:-128≤(0:Int)∧(0:Int)≤127) | _+2=>(by decide:-128≤(0:Int)∧(0:Int)≤127):-128≤(⟨0,0,0⟩:I3).at k∧(⟨0,0,0⟩:I3).at k≤127)
end
theorem zqU : (Tryz.prog.globals[1]?).map (·.type)=some 102:=by kernel_rfl
theorem zqV : Tryz.prog.globalNamed "strconv.ErrRange" = some 1 := by kernel_rfl
theorem zqW : "*" ++ "errors.errorString" = "*errors.errorString" := by decide
theorem zqX (u : TypeId) (h : Tryz.prog.typeName? 3 u = some "*errors.errorString") : u = 248 :=
 typeName_ptr_named (nm := "errors.errorString") (by rw [zqW]; kernel_rfl) (by kernel_rfl) (by decide) u (by rw [zqW]; exact h)
theorem zqY {W : World} (h : laidMetH Tryz.prog [("math/bits.deBruijn32tab", Rows.laid_math_bits_deBruijn32tab), ("math/bits.deBruijn64tab", Rows.laid_math_bits_deBruijn64tab), ("internal/strconv.uint64pow10", Rows.laid_internal_strconv_uint64pow10), ("strconv.ErrRange", Rows.laid_strconv_ErrRange), ("strconv.ErrSyntax", Rows.laid_strconv_ErrSyntax)] W) : zhf W := by
 rw [MakeChecks.laidMetH_plain _ _ _ (by kernel_rfl)] at h;obtain ⟨a0,s0,hv,_⟩:=laid_sentinel h.tail.tail.tail zqV zqU Tryz.underlying102 zqX Tryz.underlying248 Tryz.underlying250 rfl rfl Tryz.underlying9 (by kernel_rfl) (by kernel_rfl);exact ⟨_,_,hv⟩
end
end Go.Proofs.YtbkfhacmekbniaaGreatDoor
