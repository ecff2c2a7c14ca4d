/- Walk: the law EpimorphismNotes. (KEEPALL) A plan of chapter 37 that came in, read. (KEEPALL) What the rows' condition gives the walks, and the last step of a law (the seat of chapters 31 and 32). -/
import Derived.Test.YtipkdebkdnbieaaGreatDoorPa32
import Derived.Test.YtipkdebkdnbieaaGreatDoorPa33
import Derived.Test.YtipkdebkdnbieaaGreatDoorPa36
import Derived.Test.YtipkdebkdnbieaaGreatDoorPa29
import Derived.Deep.RegionHeld3
import Derived.Test.YtipkdebkdnbieaaGreatDoorPa35
import Derived.Test.YtipkdebkdnbieaaGreatDoorPa12
import Derived.ChangeSlices
import Derived.WideShapes
import Derived.ChangeShapes
import Derived.ChangeSame
import Derived.DataReads
import Derived.Deep.Matrix
import Derived.OpenShut
import Derived.Laws.IdiomArrays
import Derived.Lib.SmallJoins
import Derived.Deep.Slices
import Derived.Test.YtipkdebkdnbieaaGreatDoorPa00
import Derived.Below
import Derived.LaidMore
import Derived.ProofKit
import Derived.Stop.Joined
import Derived.Test.YtipkdebkdnbieaaGreatDoorRows
import Derived.Test.YtipkdebkdnbieaaGreatDoorTie
import Derived.Test.YtipkdebkdnbieaaGreatDoorCards
import Derived.Handy
import Derived.Lay
import Derived.SevenTiedAt
import Derived.Stop.LaidErr
import Derived.Carry
set_option maxRecDepth 100000
set_option maxHeartbeats 8000000
namespace Go.Proofs.YtipkdebkdnbieaaGreatDoor
section
open Go.RowKit Go.Lib Go.Shelf
theorem zrX (n:Nat)(l:List (List Int))(m i:Nat):(zqf n l m i).length=i:=by unfold zqf;simp
theorem zrY (n i:Nat):0≤zas (zhN n) i∧zas (zhN n) i≤1:=by
 unfold zhN
 cases n with
 | zero=>unfold zas zhd bmp;simp
 | succ n =>
  show 0≤zas ((0+1:Int)::zhd n) i∧zas ((0+1:Int)::zhd n) i≤1
  cases i with
  | zero=>unfold zas;simp
  | succ i =>
   have:zas ((0+1:Int)::zhd n) (i+1)=zas (zhd n) i:=rfl
   rw [this,zkA]
   omega
theorem zlL.of {p:List Int}{rs:List (List Int)}{n:Nat}(h0:0<rs.length)(h9:rs.length≤9)(hb:zrC p rs)(hl:rs.getD (rs.length - 1) []=zhN p.length)(hn:p.length=n):zlL n rs :=
 ⟨h0,h9,fun x hx=>by rw [(hb x hx).1,hn],fun x hx=>(hb x hx).2.1,fun i=>by rw [hl];exact zrY _ i⟩
theorem zrZ (n o cm:Nat)(M:Bool)(am:Option Addr)(Q:List Q4)(ix at0:Int)(w:World)(he:Env w)(hn:n<256)(ho:o<256)(hQ:QIn w am Q)(hb:zry Q)(hat:-9223372036854775808≤at0∧at0≤9223372036854775807) :
  Calls Tryz.prog 5 #[.agg #[.int .u8 n,.slice am Q.length cm,.bool M,.int .u8 o],.int .i8 ix,.int .i64 at0] w fun e w'=>e=.returned (.bool true)∧Ext w w':=by
 obtain ⟨j0,hj,hy0,hy1,hy2⟩:=info_parts zns;have hkn:=fun W (hE:Ext w W)=>zqL W (he.ext hE);have hft:=fun W=>zrW n o Q.length cm M am W;have hmk:=fun (h8:Q.length≤8) W (hE:Ext w W)=>zrF n o Q.length cm M am Q W (he.ext hE) hn ho (hQ.ext hE) rfl h8 hb;obtain ⟨k,hk⟩:∃ k,Q.length=k:=⟨_,rfl⟩;simp only [hk] at hft hmk ⊢;have hp0:=World.alloc_heap_new w (.cells #[.int .u8 n,.slice am k cm,.bool M,.int .u8 o] 24);have hX0:=(Ext.refl w).alloc (.cells #[.int .u8 n,.slice am k cm,.bool M,.int .u8 o] 24);have hpl:∀ V,Ext (w.alloc (.cells #[.int .u8 n,.slice am k cm,.bool M,.int .u8 o] 24)) V→V.cell? ⟨w.heap.size,0,none⟩=some (.int .u8 n)∧V.cell? ⟨w.heap.size,1,none⟩=some (.slice am k cm)∧V.cell? ⟨w.heap.size,2,none⟩=some (.bool M)∧V.cell? ⟨w.heap.size,3,none⟩=some (.int .u8 o):=fun V hE=>by
  have h:=hE.heap hp0;unfold World.cell?;dsimp only;rw [h];exact ⟨rfl,rfl,rfl,rfl⟩
 obtain ⟨kx,hkx⟩:∃ kx,ix.tmod 101=kx:=⟨_,rfl⟩;have hkb:-100≤kx∧kx≤100:=by
  have h1:=Int.tmod_lt_of_pos ix (show (0:Int)<101 by omega);have h2:=Int.lt_tmod_of_pos ix (show (0:Int)<101 by omega);omega
 have hk8:IntKind.i8.wrap kx=kx:=IntWalk.i8_in _ (by omega);have hk64:IntKind.i64.wrap kx=kx:=IntWalk.i64_in _ (by omega);clear hp0;have Hkn:=Lib.hid hkn;have Hft:=Lib.hid hft;have Hmk:=Lib.hid hmk;have HX0:=Lib.hid hX0;have Hpl:=Lib.hid hpl;have Hkb:=Lib.hid hkb;clear hkn hft hmk hX0 hpl hkb;by_cases h8:k≤8
 ·have h8d:decide (k≤8)=true:=decide_eq_true h8;have hft:=Hft.out;rw [h8d] at hft;have hmk:=Hmk.out h8;clear Hmk Hft hQ hb;have Hft:=Lib.hid hft;have Hmk:=Lib.hid hmk;clear hft hmk;go_enter Tryz.func5,Tryz.ntmps5
  go_wp2_with fail
  refine (Hkn.out _ HX0.out).mono ?_;rintro e w1 ⟨rfl,hx1⟩;obtain ⟨q0,q1,q2,q3⟩:=Hpl.out w1 hx1;have Hx1:=Lib.hid hx1;clear hx1;go_wp2_with fail
  refine (Hft.out _).mono ?_;rintro e w2 ⟨rfl,hx2⟩;have hx2:=Hx1.out.trans hx2;clear q0 q1 q2 q3 Hx1;obtain ⟨q0,q1,q2,q3⟩:=Hpl.out w2 hx2;have Hx2:=Lib.hid hx2;clear hx2;go_wp2_with fail
  refine (Hmk.out _ (HX0.out.trans Hx2.out)).mono ?_;rintro e w3 ⟨vp,vl,rfl,p,rs,hp3,hl3,hpk,hep,hr0,hr9,hrb,⟨rr,hpr⟩,hlst,hx3⟩;have hp4:=hpk.len;obtain ⟨np,hnp⟩:∃ np,p.length=np:=⟨_,rfl⟩;obtain ⟨K,hK⟩:∃ K,rs.length=K:=⟨_,rfl⟩;have hX3:=(HX0.out.trans Hx2.out).trans hx3;have he3:=he.ext hX3;have hS:zlL np rs:=zlL.of hr0 hr9 hrb hlst hnp;have hone:∀ x∈rs,zgu p x=0:=(zp6 hep).2.2.2;have hrl:∀ x∈rs,x.length=np:=hS.len;have hscl:=fun W (hE:Ext w3 W)=>zqu vp vl p rs np K W (he3.ext hE) (hE.sl hp3) (hE.mat hl3) hep hnp hK (by omega) (by omega) (by omega) hrl hone;obtain ⟨r0,hr0K,qx,hkq,hqx⟩:∃ r0:Nat,r0<K∧∃ qx:Int,kx=qx * (K:Int)+(r0:Int)∧-200≤qx∧qx≤200:=by
   have hkb:=Hkb.out;have h1:=Int.emod_nonneg kx (show (K:Int) ≠ 0 by omega);have h2:=Int.emod_lt_of_pos kx (show (0:Int)<(K:Int) by omega);have h3:=Int.mul_ediv_add_emod kx (K:Int);have h4:=Int.natAbs_ediv_le_natAbs kx (K:Int);exact ⟨(kx % (K:Int)).toNat,by omega,kx / (K:Int),by rw [Int.mul_comm];omega,by omega,by omega⟩
  have hent:=fun W (hE:Ext w3 W)=>zn6 vp vl p rs np K r0 qx kx W (he3.ext hE) (hE.sl hp3) (hE.mat hl3) hep hnp hK (by omega) (by omega) hS hr0K hkq hqx;have hfar:=fun W (hE:Ext w3 W)=>zn7 vp vl p rs np K W (he3.ext hE) (hE.sl hp3) (hE.mat hl3) hep hnp hK (by omega) hS;have hstp:=fun W (hE:Ext w3 W)=>zql vp vl p rs np K W (he3.ext hE) (hE.sl hp3) (hE.mat hl3) hep hnp hK (by omega) (by omega) hS;have hmod:=fun W (hE:Ext w3 W)=>zqk vp vl p rs np K at0 W (he3.ext hE) (hE.sl hp3) (hE.mat hl3) hep hnp hK (by omega) (by omega) hS;have hlnx:=fun W (hE:Ext w3 W)=>znG vp vl p rs np K r0 qx kx W (hE.sl hp3) (hE.mat hl3) hnp hK (by omega) hS hr0K hkq hqx;have hln:∀ (i:Nat) W,i<2 * K→Ext w3 W→Calls Tryz.prog 22 #[.agg #[vp,vl],.int .i64 (i:Int)] W fun e w'=>∃ v,e=.returned v∧zc2 w' W.heap.size v (ntI np rs i)∧Ext W w':=fun i W hi hE=>by
   have hdm:=Nat.div_add_mod i K;have hq2:i / K<2:=Nat.div_lt_of_lt_mul (by omega);have hq3:-200≤((i / K:Nat):Int)∧((i / K:Nat):Int)≤200:=by
    generalize i / K=d at *;omega
   have:=znG vp vl p rs np K (i % K) ((i / K:Nat):Int) (i:Int) W (hE.sl hp3) (hE.mat hl3) hnp hK (by omega) hS (Nat.mod_lt _ (by omega)) (by rw [← Int.natCast_mul,← Int.natCast_add,Nat.mul_comm,hdm]) hq3;rw [← hK,hS.two (i:=i) (by omega)] at this;exact this
  have hnl:∀ i,i<2 * K→(ntI np rs i).length=np∧∀ j,j<np→-500≤zas (ntI np rs i) j∧zas (ntI np rs i) j≤500:=fun i hi=>hS.nt (by omega);have hsub:∀ (a b:Nat) W u v,a<2 * K→b<2 * K→Sl W u (zap (ntI np rs a))→Sl W v (zap (ntI np rs b))→Calls Tryz.prog 24 #[u,v] W fun e w'=>∃ v,e=.returned (.tuple #[v,.int .i64 0])∧zc2 w' W.heap.size v (zlI (ntI np rs a) (ntI np rs b))∧Ext W w':=fun a b W u v ha hb hu hv =>
   znE u v _ _ W hu hv (by rw [(hnl a ha).1,(hnl b hb).1]) (by rw [(hnl a ha).1];omega) (fun j hj=>by rw [(hnl a ha).1] at hj;have:=(hnl a ha).2 j hj;omega) (fun j hj=>by rw [(hnl b hb).1] at hj;have:=(hnl b hb).2 j hj;omega)
  have hszo:∀ i u W,i<K→Ext w3 W→Sl W u (zap (rs.getD i []))→Calls Tryz.prog 23 #[vp,u] W fun e w'=>∃ v,e=.returned (.tuple #[v,.int .i64 0])∧zfe w' W.heap.size v (ziS (rs.getD i []))∧Ext W w':=fun i u W hi hE hu =>
   zjz vp u p (rs.getD i []) W (he3.ext hE) (hE.sl hp3) hu (hone _ (hS.mem (by omega)))
  have hrgt:∀ qs:List Qw,qs.map Qw.x=rs.map ziS→zrH p qs:=fun qs hq=>zrV hpr hpk hep (by omega) (by omega) hrb hq;have hsck:=fun v (qs:List Qw) W (hE:Ext w3 W)(hv:ScV W v p qs)(hq:qs.map Qw.x=rs.map ziS)=>zrI v p qs W (he3.ext hE) hv (hrgt qs hq);have hstep:=fun i (hi:i<K)=>hS.step (i:=i) (by omega);have hmdr:=fun (m i:Nat)(hm:m<K)(h1:1≤i)(hi:i≤K)=>hS.mod (m:=m) (i:=i) (by omega) h1 (by omega);have hrq:=hS.nlen (q:=qx) (r:=r0) (by omega);have hp3':=hp3;obtain ⟨ap,cp,rfl,_,_,_⟩:=hp3.parts;obtain ⟨vs,hvl2,hvs2,hrows⟩:=hl3;obtain ⟨al,cl,rfl,_,_,hcl⟩:=hvs2.parts;simp only [zar,hvl2,hnp,hK] at hscl hent hfar hstp hmod hlnx hln hszo hcl hp3' ⊢;have hbS:=zmh.new 31 w3 (.slice ap np cp) (.slice al K cl);have hx4:=(Ext.refl w3).alloc (.cells #[.slice ap np cp,.slice al K cl] 31);have c0:=hbS.c0;have c1:=hbS.c1;have hcc:∀ i,i<K→∃ u bl off,al=some ⟨bl,off,none⟩∧w3.cell? ⟨bl,off+i,none⟩=some u∧Sl w3 u (zap (rs.getD i [])):=fun i hi=>by
   obtain ⟨u,hu⟩:∃ u,vs[i]?=some u:=⟨_,List.getElem?_eq_getElem (by omega)⟩;obtain ⟨bl,off,e,h⟩:=hcl i u hu;exact ⟨u,bl,off,e,h,hrows i u hu⟩
  have hK9:K≤9:=by omega
  have hK0:0<K:=by omega
  have hn4:np≤4:=by omega
  have Hscl:=Lib.hid hscl;have Hent:=Lib.hid hent;have Hfar:=Lib.hid hfar;have Hstp:=Lib.hid hstp;have Hmod:=Lib.hid hmod;have Hlnx:=Lib.hid hlnx;have Hln:=Lib.hid hln;have Hnl:=Lib.hid hnl;have Hsub:=Lib.hid hsub;have Hszo:=Lib.hid hszo;have Hsck:=Lib.hid hsck;have Hstep:=Lib.hid hstep;have Hmdr:=Lib.hid hmdr;have Hrq:=Lib.hid hrq;have HX3:=Lib.hid hX3;have HbS:=Lib.hid hbS;have Hx4:=Lib.hid hx4;have Hcc:=Lib.hid hcc;have HK:=Lib.hid hK;have Hp3':=Lib.hid hp3';have Hone:=Lib.hid hone;have Hrl:=Lib.hid hrl;clear hscl hent hfar hstp hmod hlnx hln hnl hsub hszo hsck hstep hmdr hrq hX3 hbS hx4 hcc hK hp3' hone hrl;clear Hmk hp3 hx3 hrows hcl hvs2 hvl2 Hx2 hrb Hkn Hpl q0 q1 q2 q3 hrgt hS hep hpk hpr hlst hkq he he3 hr0 hr9 hp4;go_wp2_with fail
  have h5:=Hscl.out _ Hx4.out;have H5:=Lib.hid h5;clear h5;refine H5.out.mono ?_;rintro e w5 ⟨sv,rfl,qs,hsv,hqx5,hx5⟩;obtain ⟨vsp,vsn,rfl,hs1,hs2⟩:=hsv;have hqK:qs.length=K:=by
   have:=congrArg List.length hqx5;rw [List.length_map,List.length_map,HK.out] at this;exact this
  obtain ⟨asp,csp,esp,_,_,_⟩:=hs1.parts;obtain ⟨asn,csn,esn,_,_,hcsn⟩:=hs2.1.parts;rw [zar,hnp] at esp;rw [zfh,hqK] at esn;subst esp esn;have hbA:=zmh.new 53 w5 (.slice asp np csp) (.slice asn K csn);have hxA:=(Ext.refl w5).alloc (.cells #[.slice asp np csp,.slice asn K csn] 53);have hY5:=hx5.trans hxA;have hb7:=zmh.ext hY5 HbS.out;have d0:=hb7.c0;have d1:=hb7.c1;have hScV:ScV w5 (.agg #[.slice asp np csp,.slice asn K csn]) p qs:=⟨_,_,rfl,hs1,hs2⟩;have h6:=Hent.out _ (Hx4.out.trans hY5);have HbA:=Lib.hid hbA;have HxA:=Lib.hid hxA;have HY5:=Lib.hid hY5;have Hs2:=Lib.hid hs2;have HScV:=Lib.hid hScV;have Hqx5:=Lib.hid hqx5;have Hcsn:=Lib.hid hcsn;have HqK:=Lib.hid hqK;have H6:=Lib.hid h6;clear hbA hxA hY5 hs2 hScV hqx5 hcsn hqK h6;clear c0 c1 hb7 hx5 H5 hs1;go_wp2_with fail
  refine H6.out.mono ?_;rintro e w6 ⟨vb,rfl,hob,hx6⟩;have hY6:=HY5.out.trans hx6;have hb7:=zmh.ext hY6 HbS.out;have e0:=hb7.c0;have e1:=hb7.c1;have h7:=Hstp.out _ (Hx4.out.trans hY6);have Hx6:=Lib.hid hx6;have HY6:=Lib.hid hY6;have Hob:=Lib.hid hob;have H7:=Lib.hid h7;clear hx6 hY6 hob h7;clear d0 d1 hb7 H6;go_wp2_with fail
  refine H7.out.mono ?_;rintro e w7 ⟨vc,rfl,rc,hrc,hrcx,hx7⟩;have hcK:rc.length=K:=by
   have:=congrArg List.length hrcx;rw [List.length_map,zlU] at this;exact this
  obtain ⟨ac,cc,ec⟩:=zc3 hrc.1;rw [hcK] at ec;subst ec;have hY7:=HY6.out.trans hx7;have hb7:=zmh.ext hY7 HbS.out;have d0:=hb7.c0;have d1:=hb7.c1;have h8':=Hmod.out _ (Hx4.out.trans hY7);have Hx7:=Lib.hid hx7;have HY7:=Lib.hid hY7;have Hrc:=Lib.hid hrc;have Hrcx:=Lib.hid hrcx;have HcK:=Lib.hid hcK;have H8':=Lib.hid h8';clear hx7 hY7 hrc hrcx hcK h8';clear e0 e1 hb7 H7;go_wp2_with fail
  refine H8'.out.mono ?_;rintro e w8 ⟨aD,kD,cD,aE,kE,cE,eh,rfl,hm1,hm2,hx8⟩;have hbD:=zmh.new 31 w8 (.slice aD kD cD) (.slice aE kE cE);have hxD:=(Ext.refl w8).alloc (.cells #[.slice aD kD cD,.slice aE kE cE] 31);have hY8:=(HY7.out.trans hx8).trans hxD;have hb7:=zmh.ext hY8 HbS.out;have e0:=hb7.c0;have e1:=hb7.c1;have h9:=Hfar.out _ (Hx4.out.trans hY8);have Hx8:=Lib.hid hx8;have HbD:=Lib.hid hbD;have HxD:=Lib.hid hxD;have HY8:=Lib.hid hY8;have Hm1:=Lib.hid hm1;have Hm2:=Lib.hid hm2;have H9:=Lib.hid h9;clear hx8 hbD hxD hY8 hm1 hm2 h9;clear d0 d1 hb7 H8';go_wp2_with fail
  refine H9.out.mono ?_;rintro e w9 ⟨rfl,hx9⟩;have hY9:=HY8.out.trans hx9;have hb7:=zmh.ext hY9 HbS.out;have d0:=hb7.c0;have d1:=hb7.c1;have hA9:=((Hx6.out.trans Hx7.out).trans (Hx8.out.trans HxD.out)).trans hx9;have hb9:=zmh.ext hA9 HbA.out;have d2:=hb9.c0;have d3:=hb9.c1;have h10:=Hsck.out _ qs w9 (Hx4.out.trans hY9) (HScV.out.ext (HxA.out.trans hA9)) Hqx5.out;have Hx9:=Lib.hid hx9;have HY9:=Lib.hid hY9;have HA9:=Lib.hid hA9;have H10:=Lib.hid h10;clear hx9 hY9 hA9 h10;clear e0 e1 hb7 hb9 H9;go_wp2_with fail
  refine H10.out.mono ?_;rintro e w10 ⟨rfl,hx10⟩;have hY10:=HY9.out.trans hx10;have hb7:=zmh.ext hY10 HbS.out;have e0:=hb7.c0;have e1:=hb7.c1;have h11:=Hlnx.out _ (Hx4.out.trans hY10);have Hx10:=Lib.hid hx10;have HY10:=Lib.hid hY10;have H11:=Lib.hid h11;clear hx10 hY10 h11;clear d0 d1 d2 d3 hb7 H10;go_wp2_with fail
  refine H11.out.mono ?_;rintro e w11 ⟨vn,rfl,hon,hx11⟩;have hB11:=(Hx7.out.trans (Hx8.out.trans HxD.out)).trans ((Hx9.out.trans Hx10.out).trans hx11);have h12:=zlv vb vn _ _ w11 (hB11.ownI Hob.out).sl hon.sl (by rw [Hrq.out];omega) (by rw [Hrq.out];omega);rw [decide_eq_true rfl] at h12;have hY11:=HY10.out.trans hx11;have H12:=Lib.hid h12;have HY11:=Lib.hid hY11;have Hx11:=Lib.hid hx11;have Hon:=Lib.hid hon;clear h12 hY11 hx11 hon;clear e0 e1 hB11 H11;go_wp2_with fail
  refine H12.out.mono ?_;rintro e w12 ⟨rfl,hx12⟩;have hY12:=HY11.out.trans hx12.ext;have hZ12:=(((Hx8.out.trans HxD.out).trans (Hx9.out.trans Hx10.out)).trans Hx11.out).trans hx12.ext;have hA12:=(HA9.out.trans Hx10.out).trans (Hx11.out.trans hx12.ext);have hD12:=((Hx9.out.trans Hx10.out).trans Hx11.out).trans hx12.ext;have HY12:=Lib.hid hY12;have HZ12:=Lib.hid hZ12;have HA12:=Lib.hid hA12;have HD12:=Lib.hid hD12;clear hY12 hZ12 hA12 hD12;clear H12 Hent Hfar Hstp Hmod Hlnx Hscl Hsck HY5 HY6 HY7 HY8 HY9 HY10 HY11 HA9 Hob Hrq Hkb Hon;go_wp2_with fail
  go_loopw [19] (fun v19 wr=>∃ i:Nat,v19=.int .i64 i∧i≤K∧Hid (Ext w12 wr)) (fun v19 _=>K - (zal v19).toNat)
  case atStart=>exact ⟨0,rfl,Nat.zero_le _,Lib.hid (Ext.refl _)⟩
  case round =>
   obtain ⟨i,rfl,hiK,HE⟩:=hrel;have hYr:=HY12.out.trans HE.out;have hbr:=zmh.ext hYr HbS.out;have c0:=hbr.c0;have c1:=hbr.c1;by_cases hin:i<K
   ·obtain ⟨u,bl,off,rfl,g1,g2⟩:=Hcc.out i hin;obtain ⟨au,cu,rfl,_,_,_⟩:=g2.parts;have hXr:=Hx4.out.trans hYr;have g3:=hXr.cell g1;have h15:=fun W (hE:Ext wr W)=>Hszo.out i _ W hin (hXr.trans hE) ((hXr.trans hE).sl g2);have hn1:=fun W (hE:Ext wr W)=>Hln.out (i+1) W (by omega) (hXr.trans hE);rw [show ((i+1:Nat):Int)=(i:Int)+1 by omega] at hn1;have hn0:=fun W (hE:Ext wr W)=>Hln.out i W (by omega) (hXr.trans hE);have hsb:=fun W u v hu hv=>Hsub.out (i+1) i W u v (by omega) (by omega) hu hv;have hstp:=Hstep.out i hin;obtain ⟨rq,hrq⟩:∃ r,qs[i]?=some r:=⟨_,List.getElem?_eq_getElem (by rw [HqK.out];exact hin)⟩;have hrqx:rq.x=ziS (rs.getD i []):=by
     have:=congrArg (fun l=>l[i]?) Hqx5.out;simp only [List.getElem?_map,hrq,Option.map_some] at this;rw [List.getElem?_eq_getElem (by rw [HK.out];exact hin),Option.map_some] at this;rw [List.getD_eq_getElem?_getD,List.getElem?_eq_getElem (by rw [HK.out];exact hin)];exact Option.some.inj this
    obtain ⟨bq,oq,rfl,hcq⟩:=Hcsn.out i rq.u (by unfold qwc;rw [List.getElem?_map,hrq];rfl);have hrd:=Hs2.out.2 rq (List.mem_of_getElem? hrq);rw [hrqx] at hrd;obtain ⟨rv,hrv⟩:∃ r,rc[i]?=some r:=⟨_,List.getElem?_eq_getElem (by rw [HcK.out];exact hin)⟩;have hrvx:rv.x=zlI (ntI np rs (i+1)) (ntI np rs i):=by
     have:=congrArg (fun l=>l[i]?) Hrcx.out;unfold zlS at this;simp only [List.getElem?_map,hrv,Option.map_some,List.getElem?_range hin] at this;rw [hstp];exact Option.some.inj this
    obtain ⟨_,_,ecc,_,_,hcc7⟩:=(zan Hrc.out.1).parts;obtain ⟨bv,ov,eac,hcv⟩:=hcc7 i rv.u (by unfold rwc;rw [List.getElem?_map,hrv];rfl);rw [← (Value.slice.inj ecc).1] at eac;subst eac;have hrs:=(Hrc.out.2 rv (List.mem_of_getElem? hrv)).1.sl;rw [hrvx] at hrs;have hlz:(ziS (rs.getD i [])).length≤1000:=by
     unfold ziS;rw [List.length_map,Hrl.out _ (by rw [List.getD_eq_getElem?_getD,List.getElem?_eq_getElem (by rw [HK.out];exact hin)];exact List.getElem_mem _)];omega
    have hlx:=Hnl.out (i+1) (by omega);have hdl:(zlI (ntI np rs (i+1)) (ntI np rs i)).length≤1000000:=(by rw [znB,hlx.1];omega);generalize hlu:(zap (rs.getD i [])).length=lu at *;have hi0:(0:Int)≤(i:Int):=(by omega);have hi1:(i:Int)<(K:Int):=(by omega);have hwi:IntKind.i64.wrap ((i:Int)+1)=(i:Int)+1:=IntWalk.i64_in _ (by omega);have H15:=Lib.hid h15;have Hn1:=Lib.hid hn1;have Hn0:=Lib.hid hn0;have Hsb:=Lib.hid hsb;have Hcq:=Lib.hid hcq;have Hrd:=Lib.hid hrd;have Hcv:=Lib.hid hcv;have Hrs:=Lib.hid hrs;have HXr:=Lib.hid hXr;have HYr:=Lib.hid hYr;have Hlz:=Lib.hid hlz;have Hdl:=Lib.hid hdl;have Hlu:=Lib.hid hlu;clear h15 hn1 hn0 hsb hcq hrd hcv hrs hXr hYr hlz hdl hlu;clear g1 g2 hbr hstp hrqx hrvx hrq hrv ecc hcc7 hlx;go_wp2_with fail
    go_region_held3 (fun w'=>Ext wr w'∧w'.cell? ⟨w3.heap.size,0,none⟩=some (.slice ap np cp)∧w'.cell? ⟨w3.heap.size,1,none⟩=some (.slice (some ⟨bl,off,none⟩) K cl)∧w'.cell? ⟨bl,off+i,none⟩=some (.slice au lu cu))
     (first | (with_reducible assumption) | exact ⟨(Ext.refl wr).drew,c0,c1,g3⟩)
     (first | (go_at_call 23;refine (H15.out _ (And.left (by assumption))).mono ?_;rintro e9 VA ⟨v20,rfl,ho20,hxa⟩;have hEA:=((Ext.refl wr).drew).trans hxa;have hS2:Ext wr VA∧VA.cell? ⟨w3.heap.size,0,none⟩=some (.slice ap np cp)∧VA.cell? ⟨w3.heap.size,1,none⟩=some (.slice (some ⟨bl,off,none⟩) K cl)∧VA.cell? ⟨bl,off+i,none⟩=some (.slice au lu cu):=⟨hEA,hEA.cell c0,hEA.cell c1,hEA.cell g3⟩;have HEA:=Lib.hid hEA;have HQ:=Lib.hid ho20.rd;clear hxa hEA ho20))
    have k0:=hS2.2.1;have k1:=hS2.2.2.1;have HN1:=Lib.hid fun W (hE:Ext VA W)=>Hn1.out W (HEA.out.trans hE);have HN0:=Lib.hid fun W (hE:Ext VA W)=>Hn0.out W (HEA.out.trans hE);clear hS2 c0 c1 g3 H15 Hn1 Hn0;go_wp2_with fail
    go_region_held3 (fun w'=>Ext VA w'∧w'.cell? ⟨w3.heap.size,0,none⟩=some (.slice ap np cp)∧w'.cell? ⟨w3.heap.size,1,none⟩=some (.slice (some ⟨bl,off,none⟩) K cl))
     (first | (with_reducible assumption) | exact ⟨(Ext.refl VA).drew,k0,k1⟩)
     (first
      | (go_at_call 24;refine (Hsb.out _ _ _ HO1b.out HO0.out).mono ?_;rintro e9 VD ⟨v22,rfl,ho22,hxd⟩;have hED:=HEC.out.trans hxd;have hS5:Ext VA VD∧VD.cell? ⟨w3.heap.size,0,none⟩=some (.slice ap np cp)∧VD.cell? ⟨w3.heap.size,1,none⟩=some (.slice (some ⟨bl,off,none⟩) K cl):=⟨hED,hED.cell k0,hED.cell k1⟩;have HED:=Lib.hid hED;have HO22:=Lib.hid ho22.sl;clear hxd hED ho22)
      | (go_at_call 22;with_reducible refine (HN1.out _ (And.left (by assumption))).mono ?_;rintro e9 VB ⟨v1,rfl,ho1,hxb⟩;have hEB:=((Ext.refl VA).drew).trans hxb;have hS3:Ext VA VB∧VB.cell? ⟨w3.heap.size,0,none⟩=some (.slice ap np cp)∧VB.cell? ⟨w3.heap.size,1,none⟩=some (.slice (some ⟨bl,off,none⟩) K cl):=⟨hEB,hEB.cell k0,hEB.cell k1⟩;have HO1:=Lib.hid ho1.sl;have HEB:=Lib.hid hEB;clear hxb hEB ho1)
      | (go_at_call 22;with_reducible refine (HN0.out _ (And.left (by assumption))).mono ?_;rintro e9 VC ⟨v0,rfl,ho0,hxc⟩;have hEC:=HEB.out.trans hxc;have hS4:Ext VA VC∧VC.cell? ⟨w3.heap.size,0,none⟩=some (.slice ap np cp)∧VC.cell? ⟨w3.heap.size,1,none⟩=some (.slice (some ⟨bl,off,none⟩) K cl):=⟨hEC,hEC.cell k0,hEC.cell k1⟩;have HO1b:=Lib.hid (hxc.sl HO1.out);have HO0:=Lib.hid ho0.sl;have HEC:=Lib.hid hEC;clear hxc hEC ho0))
    have hEV:=HE.out.trans (HEA.out.trans HED.out);have q1:=(zmh.ext (HA12.out.trans hEV) HbA.out).c1;have hW5:=HxA.out.trans (HA12.out.trans hEV);have q2:=hW5.cell Hcq.out;have h17:=zpF rq.u v20 _ _ VD (hW5.rd Hrd.out) (HED.out.rd HQ.out) Hlz.out Hlz.out;rw [decide_eq_true rfl] at h17;have H17:=Lib.hid h17;have HEV:=Lib.hid hEV;clear h17 hEV;clear hS5 hW5 k0 k1 HO1 HO1b HO0 HN1 HN0 Hsb;go_wp2_with fail
    refine H17.out.mono ?_;rintro e VE ⟨rfl,hxe⟩;have hEE:=HEV.out.trans hxe;have hW7:=HZ12.out.trans hEE;have q3:=hW7.cell Hcv.out;have h18:=zlv rv.u v22 _ _ VE (hW7.sl Hrs.out) (hxe.sl HO22.out) Hdl.out Hdl.out;rw [decide_eq_true rfl] at h18;have H18:=Lib.hid h18;have HEE:=Lib.hid hEE;clear h18 hEE;clear q1 q2 hW7 hxe H17;go_wp2_with fail
    refine H18.out.mono ?_;rintro e VF ⟨rfl,hxf⟩;have HEF:=Lib.hid (HEE.out.trans hxf.ext);clear hxf q3 H18;go_wp2_with fail
    go_roundw
    case rel=>exact ⟨i+1,by go_num,hin,HEF⟩
    case measure=>simp [zal];omega
   ·have hnl2:¬ (i:Int)<(K:Int):=(by omega);have hbd:=zmh.ext (HD12.out.trans HE.out) HbD.out;have hEd:=HxD.out.trans (HD12.out.trans HE.out);have f0:=hbd.c0;have f1:=hbd.c1;have hXr:=Hx4.out.trans hYr;by_cases hfr:at0<0∨(K:Int)≤at0
    ·obtain ⟨rfl,hs8,hm8⟩:=Hm2.out hfr;have hsm:=zqN (.slice aD kD cD) (.slice aE kE cE) (.slice none 0 0) (.slice none 0 0) [] [] 0 wr (hEd.sl hs8) (zqi _) (by simp) (hEd.mat hm8) ⟨[],rfl,zqi _,fun i u hu=>by simp at hu⟩ rfl (by omega) (fun x hx=>by cases hx);have Hsm:=Lib.hid hsm;have HXr:=Lib.hid hXr;clear hsm hXr;clear hs8 hm8 hEd hbr hYr;by_cases h0:at0<0
     ·have hd1:decide (at0<0)=true:=decide_eq_true h0;clear hfr h0;go_wp2_with fail
      refine Hsm.out.mono ?_;rintro e w20 ⟨rfl,hx20⟩;have Hx20:=Lib.hid hx20;clear hx20;clear f0 f1;go_wp2_with fail
      go_ret
      exact ⟨rfl,HX3.out.trans (HXr.out.trans Hx20.out)⟩
     ·have hd1:decide (at0<0)=false:=decide_eq_false h0;have hd2:decide (at0 ≥ (K:Int))=true:=decide_eq_true (by omega);clear hfr h0;go_wp2_with fail
      refine Hsm.out.mono ?_;rintro e w20 ⟨rfl,hx20⟩;have Hx20:=Lib.hid hx20;clear hx20;clear f0 f1;go_wp2_with fail
      go_ret
      exact ⟨rfl,HX3.out.trans (HXr.out.trans Hx20.out)⟩
    ·obtain ⟨m,rfl⟩:∃ m:Nat,at0=(m:Int):=⟨at0.toNat,by omega⟩;have hmK:m<K:=(by omega);obtain ⟨rfl,hs8,hm8⟩:=Hm1.out m rfl hmK;have hd1:decide ((m:Int)<0)=false:=decide_eq_false (by omega);have hd2:decide ((m:Int) ≥ (K:Int))=false:=decide_eq_false (by omega);obtain ⟨wq,hwq⟩:∃ wq,wq=wr:=⟨_,rfl⟩;subst hwq;have hb6:=zmh.new 31 wq (.slice ap np cp) (.slice none 0 0);have hx6:=(Ext.refl wq).alloc (.cells #[.slice ap np cp,.slice none 0 0] 31);have hM0:M37 wq wq.heap.size (.slice ap np cp) (zqf np rs m 0) (.slice none 0 0) [] (wq.alloc (.cells #[.slice ap np cp,.slice none 0 0] 31)):=⟨hb6,⟨World.ownsRow_nil _ _ _ 1,fun r h=>by cases h⟩,rfl,hx6⟩;have hsE:=hEd.sl hs8;have hmE:=hEd.mat hm8;have hpE:=hXr.sl Hp3'.out;have hbQ:=hbd;have HM0:=Lib.hid hM0;have HXr:=Lib.hid hXr;have HsE:=Lib.hid hsE;have HmE:=Lib.hid hmE;have HpE:=Lib.hid hpE;have HbQ:=Lib.hid hbQ;have HYr:=Lib.hid hYr;clear hM0 hXr hsE hmE hpE hbQ hYr;clear hs8 hm8 hEd hbr hb6 hx6 hbd f0 f1 hfr;go_upto_region 22 with fail
     generalize hW7:wq.alloc (.cells #[.slice ap np cp,.slice none 0 0] 31)=W7 at *;clear hW7;go_wp2_with fail
     clear c0 c1;go_loopw [25] (fun v25 wr=>∃ (i t:Nat)(vn:Value)(rs':List Rw),v25=.int .i64 t∧t=i+1∧i≤K∧rs'.length=i∧Hid (M37 wq wq.heap.size (.slice ap np cp) (zqf np rs m i) vn rs' wr)) (fun v25 _=>K+1 - (zal v25).toNat)
     case atStart=>exact ⟨0,1,_,_,rfl,rfl,Nat.zero_le _,rfl,HM0⟩
     case round =>
      obtain ⟨i2,t,vn2,rs',rfl,ht,hi2,hri,HM⟩:=hrel;obtain ⟨av2,cv2,ev2⟩:=zc3 HM.out.q.1;subst ev2;have hYq:=HYr.out.trans HM.out.x;have hXq:=HXr.out.trans HM.out.x;have hb7:=zmh.ext hYq HbS.out;have k0:=hb7.c0;have k1:=hb7.c1;by_cases hin2:i2<K
      ·have hle:(t:Int)≤(K:Int):=(by omega);have hn1:=fun W (hE:Ext wr W)=>Hln.out (m+t) W (by omega) (hXq.trans hE);rw [show ((m+t:Nat):Int)=(m:Int)+(t:Int) by omega] at hn1;have hn0:=fun W (hE:Ext wr W)=>Hln.out m W (by omega) (hXq.trans hE);have hlm:=(Hnl.out (m+t) (by omega)).1;have hsb:∀ W u v,Sl W u (zap (ntI np rs (m+t)))→Sl W v (zap (ntI np rs m))→Calls Tryz.prog 24 #[u,v] W fun e w'=>∃ a c,e=.returned (.tuple #[.slice a np c,.int .i64 0])∧zc2 w' W.heap.size (.slice a np c) (zlI (ntI np rs (m+t)) (ntI np rs m))∧Ext W w':=by
        intro W u v hu hv;have h9:=Hsub.out (m+t) m W u v (by omega) (by omega) hu hv;refine h9.mono ?_;rintro e9 W9 ⟨v9,h1,h2,h3⟩;obtain ⟨a9,c9,e9'⟩:=zc3 h2;rw [znB,hlm] at e9';subst e9';exact ⟨a9,c9,h1,h2,h3⟩
       have hmz:=Hmdr.out m t hmK (by omega) (by omega);have hzt:=zqg np rs m i2;rw [show znH np rs m (i2+1)=zlI (ntI np rs (m+t)) (ntI np rs m) from by rw [← ht];exact hmz] at hzt;have hdl:(zlI (ntI np rs (m+t)) (ntI np rs m)).length=np:=(by rw [znB];exact (Hnl.out (m+t) (by omega)).1);have hwi:IntKind.i64.wrap ((m:Int)+(t:Int))=(m:Int)+(t:Int):=IntWalk.i64_in _ (by omega);have Hht:=Lib.hid ht;have Hri:=Lib.hid hri;have Hn1:=Lib.hid hn1;have Hn0:=Lib.hid hn0;have Hsb:=Lib.hid hsb;have Hzt:=Lib.hid hzt;have Hdl:=Lib.hid hdl;have HYq:=Lib.hid hYq;have HXq:=Lib.hid hXq;clear hn1 hn0 hsb hzt hdl hYq hXq;clear hmz hb7 ht hri hlm;go_wp2_with fail
       go_region_held3 (fun w'=>Ext wr w'∧w'.cell? ⟨w3.heap.size,0,none⟩=some (.slice ap np cp)∧w'.cell? ⟨w3.heap.size,1,none⟩=some (.slice al K cl))
        (first | (with_reducible assumption) | exact ⟨(Ext.refl wr).drew,k0,k1⟩)
        (first
         | (go_at_call 24;refine (Hsb.out _ _ _ HO1b.out HO0.out).mono ?_;rintro e9 VD ⟨a26,c26,rfl,ho26,hxd⟩;have hED:=HEC.out.trans hxd;have hS5:Ext wr VD∧VD.cell? ⟨w3.heap.size,0,none⟩=some (.slice ap np cp)∧VD.cell? ⟨w3.heap.size,1,none⟩=some (.slice al K cl):=⟨hED,hED.cell k0,hED.cell k1⟩;have HO26:=Lib.hid (zam ho26 (HM.out.x.trans HEC.out).size);have HED:=Lib.hid hED;clear hxd hED ho26)
         | (go_at_call 22;with_reducible refine (Hn1.out _ (And.left (by assumption))).mono ?_;rintro e9 VB ⟨v1,rfl,ho1,hxb⟩;have hEB:=((Ext.refl wr).drew).trans hxb;have hS3:Ext wr VB∧VB.cell? ⟨w3.heap.size,0,none⟩=some (.slice ap np cp)∧VB.cell? ⟨w3.heap.size,1,none⟩=some (.slice al K cl):=⟨hEB,hEB.cell k0,hEB.cell k1⟩;have HO1:=Lib.hid ho1.sl;have HEB:=Lib.hid hEB;clear hxb hEB ho1)
         | (go_at_call 22;with_reducible refine (Hn0.out _ (And.left (by assumption))).mono ?_;rintro e9 VC ⟨v0,rfl,ho0,hxc⟩;have hEC:=HEB.out.trans hxc;have hS4:Ext wr VC∧VC.cell? ⟨w3.heap.size,0,none⟩=some (.slice ap np cp)∧VC.cell? ⟨w3.heap.size,1,none⟩=some (.slice al K cl):=⟨hEC,hEC.cell k0,hEC.cell k1⟩;have HO1b:=Lib.hid (hxc.sl HO1.out);have HO0:=Lib.hid ho0.sl;have HEC:=Lib.hid hEC;clear hxc hEC ho0))
       have hM6:=HM.out.ext HED.out;have hqo:=hM6.q.1;have hb6:=hM6.b;have q1:=hb6.c1;have hbase:=hM6.x.size;have hm3:rs'.length+1≤maxLen:=(by unfold maxLen;have:=Hri.out;omega);have hm4:(rs'.length+1) * 24≤140737488355328:=(by have:=Hri.out;omega);have hO:=HO26.out;have HM6:=Lib.hid hM6;clear hM6;have HO:=Lib.hid hO;clear hS5 k0 k1 HO1 HO1b HO0 Hn1 Hn0 Hsb HO26 hO;go_wp2_with (at_builtin;refine wpList_append_own _ rfl _ _ 29 rfl wq.heap.size 33 j0 (.slice none 0 0) 1 24 Tryz.underlying29 hj hy0 hy1 hy2 rfl (by decide) _ _ _ rfl (hqo.alloc _) ⟨VD.heap.size,0,none⟩ 1 1 [.slice a26 np c26] rfl rfl (cell_one_new _ _ _) (by simp [Value.oneCell']) hm3 hm4 (by rw [World.size_alloc];omega) ?_;intro v7 V7 hown7 hgrow7 _;obtain ⟨a7,c7,e7⟩:=zc3 hown7;subst e7;have hbV:zmh 31 V7 wq.heap.size (.slice ap np cp) (.slice av2 rs'.length cv2):=zf7 (((Ext.refl VD).alloc (.cells #[.slice a26 np c26] 33)).heap hb6) (World.ownsRow.alloc hqo _) zpP hgrow7;have q1V:=hbV.c1;have zV:=hbV.fz 1)
       go_roundw
       case rel =>
        have hmo:=HM6.out.more (r:=⟨zlI (ntI np rs (m+t)) (ntI np rs m),.slice a26 np c26,rfl⟩) (Nat.le_refl _) (by exact HO.out) (by show (zlI (ntI np rs (m+t)) (ntI np rs m)).length≤1000000;rw [Hdl.out];omega) hown7 hgrow7;exact ⟨i2+1,t+1,_,rs'++[⟨zlI (ntI np rs (m+t)) (ntI np rs m),.slice a26 np c26,rfl⟩],by go_num,by have:=Hht.out;omega,hin2,by rw [List.length_append,Hri.out];rfl,Lib.hid (by rw [Hzt.out];exact hmo)⟩
       case measure =>
        have:=Hht.out;simp [zal];omega
      ·have hnle:¬ (t:Int)≤(K:Int):=(by omega);have hie:i2=K:=(by omega);subst hie;have hb15:=zmh.ext HM.out.x HbQ.out;have f0:=hb15.c0;have f1:=hb15.c1;have g0:=HM.out.b.c0;have g1:=HM.out.b.c1;have hml:=zrX np rs m i2;have hmr:∀ x∈zqf np rs m i2,x.length≤1000:=fun x hx=>by
        unfold zqf at hx;obtain ⟨j,_,rfl⟩:=List.mem_map.1 hx;rw [znI];omega
       have hmat:=HM.out.q.reads;rw [HM.out.m,hri] at hmat;have hsm:=zqN (.slice aD kD cD) (.slice aE kE cE) (.slice ap np cp) (.slice av2 i2 cv2) p (zqf np rs m i2) i2 wr (HM.out.x.sl HsE.out) (HM.out.x.sl HpE.out) (by rw [hnp];omega) (HM.out.x.mat HmE.out) hmat hml (by omega) hmr;have Hsm:=Lib.hid hsm;have HXq:=Lib.hid hXq;clear hsm hXq;clear hb15 hml hmr hmat hb7 hYq;go_wp2_with fail
       refine Hsm.out.mono ?_;rintro e w20 ⟨rfl,hx20⟩;have Hx20:=Lib.hid hx20;clear hx20;clear f0 f1 g0 g1 k0 k1;go_wp2_with fail
       go_ret
       exact ⟨rfl,HX3.out.trans (HXq.out.trans Hx20.out)⟩
 ·have h8d:decide (k≤8)=false:=decide_eq_false h8;have hft:=Hft.out;rw [h8d] at hft;clear Hmk Hft hQ hb;have Hft:=Lib.hid hft;clear hft;go_enter Tryz.func5,Tryz.ntmps5
  go_wp2_with fail
  refine (Hkn.out _ HX0.out).mono ?_;rintro e w1 ⟨rfl,hx1⟩;obtain ⟨q0,q1,q2,q3⟩:=Hpl.out w1 hx1;have Hx1:=Lib.hid hx1;clear hx1;go_wp2_with fail
  refine (Hft.out _).mono ?_;rintro e w2 ⟨rfl,hx2⟩;have hx2:=Hx1.out.trans hx2;clear q0 q1 q2 q3 Hx1;have h3:=Hkn.out _ (HX0.out.trans hx2);have Hx2:=Lib.hid hx2;have H3:=Lib.hid h3;clear hx2 h3;go_wp2_with fail
  refine H3.out.mono ?_;rintro e w3 ⟨rfl,hx3⟩;have hEr:=(HX0.out.trans Hx2.out).trans hx3;have HEr:=Lib.hid hEr;clear hEr;clear hx3;go_wp2_with fail
  go_ret
  exact ⟨rfl,HEr.out⟩
end
section
open Go.ChangeShapes Go.WideShapes Go.ChangeAt Go.WideMaps Go.WideElems Go.RowKit Go.Lib Go.Joins
section
variable {H : Type} {enc : TypeId × Value → H} {w : World} {base : Nat} {spare : Nat → Bool} {held : Bool}
theorem zsa {n:Int}(h:(Lit.int .u8 n).wf=true):∃ k:Nat,n=(k:Int)∧k<256:=by
 have h2:0≤n∧n≤255:=by
  simp [Lit.wf,IntKind.min,IntKind.max,IntKind.signed,IntKind.bits] at h;omega
 exact ⟨n.toNat,by omega,by omega⟩
theorem zsb {fuel:Nat}{c0 c1 c2 c3:Value}{x:DataW H × List MemPlace}(h:DataW.trod enc Tryz.prog w base spare held fuel 119 [c0,c1,c2,c3]=some x) :
  ∃ e:Q4,c0=.int .i8 e.1∧c1=.int .i8 e.2.1∧c2=.int .i8 e.2.2.1∧c3=.int .i8 e.2.2.2∧∀ z∈q4l e,-128≤z∧z≤127:=by
 obtain ⟨y0,y1,y2,y3,n,rfl,h0,h1,h2,h3⟩:=trod_array4 Tryz.underlying119 (show Tryz.prog.cellsOf 50=1 by kernel_rfl) h;obtain ⟨a,ha,rfl,wa⟩:=DataW.trod_int Tryz.underlying50 h0;obtain ⟨b,hb,rfl,wb⟩:=DataW.trod_int Tryz.underlying50 h1;obtain ⟨c,hc,rfl,wc⟩:=DataW.trod_int Tryz.underlying50 h2;obtain ⟨d,hd,rfl,wd⟩:=DataW.trod_int Tryz.underlying50 h3;simp only [List.cons.injEq,and_true] at ha hb hc hd;refine ⟨(a,b,c,d),ha,hb,hc,hd,fun z hz=>?_⟩;unfold q4l at hz;simp only [List.mem_cons,List.not_mem_nil,or_false] at hz;rcases hz with rfl | rfl | rfl | rfl
 ·exact bounds_i8 wa
 ·exact bounds_i8 wb
 ·exact bounds_i8 wc
 ·exact bounds_i8 wd
theorem zsc {w:World}{a:Addr}{cs:List Value}(h:w.cells? 0 a 4=some cs):∃ c0 c1 c2 c3,cs=[c0,c1,c2,c3]∧w.cell? (a.add 0)=some c0∧w.cell? (a.add 1)=some c1∧w.cell? (a.add 2)=some c2∧w.cell? (a.add 3)=some c3:=by
 obtain ⟨_,hl,hg⟩:=World.cells?_some h;match cs,hl,hg with
 | [c0,c1,c2,c3],_,hg=>exact ⟨c0,c1,c2,c3,rfl,hg 0 (by omega),hg 1 (by omega),hg 2 (by omega),hg 3 (by omega)⟩
theorem zsd {c:Value}{fuel:Nat}{x:DataW H × List MemPlace}(hf:DataW.trod enc Tryz.prog w 0 (fun _=>true) held fuel 22 [c]=some x) :
  ∃ (am:Option Addr)(Q:List Q4)(cm:Nat),c=.slice am Q.length cm∧QIn w am Q∧zry Q:=by
 rcases Go.Deep.open_slice Tryz.underlying22 hf with ⟨h1,_⟩ | ⟨a,len0,cap0,m,n,D,Pl,h1,_,hl,hm,hmm,_,hel⟩
 ·obtain rfl:c=.slice none 0 0:=by simpa using h1
  exact ⟨none,[],0,rfl,fun i e he=>by simp at he,fun e he=>by cases he⟩
 ·obtain rfl:c=.slice (some a) len0 cap0:=by simpa using h1
  have hml:len0≤m:=by rw [hmm];split <;> omega
  have each:∀ i,i<len0→∃ e:Q4,(w.cell? ((a.add (i * 4)).add 0)=some (.int .i8 e.1)∧w.cell? ((a.add (i * 4)).add 1)=some (.int .i8 e.2.1)∧w.cell? ((a.add (i * 4)).add 2)=some (.int .i8 e.2.2.1)∧w.cell? ((a.add (i * 4)).add 3)=some (.int .i8 e.2.2.2))∧∀ z∈q4l e,-128≤z∧z≤127:=by
   intro i hi;obtain ⟨cs',h2,h3⟩:=hel i (by omega);rw [show Tryz.prog.cellsOf 119=4 by kernel_rfl] at h2;obtain ⟨c0,c1,c2,c3,rfl,g0,g1,g2,g3⟩:=zsc h2;obtain ⟨e,rfl,rfl,rfl,rfl,hs⟩:=zsb h3;exact ⟨e,⟨g0,g1,g2,g3⟩,hs⟩
  let f:Nat→Q4:=fun i=>if h:i<len0 then Classical.choose (each i h) else (0,0,0,0);have hf':∀ i (h:i<len0),f i=Classical.choose (each i h):=fun i h=>by show (if h:i<len0 then _ else _)=_;rw [dif_pos h]
  refine ⟨some a,(List.range len0).map f,cap0,by rw [List.length_map,List.length_range],?_,?_⟩
  ·intro i e he;rw [List.getElem?_map] at he;have hi:i<len0:=by
    rcases Nat.lt_or_ge i len0 with g | g
    ·exact g
    ·rw [List.getElem?_eq_none (by rw [List.length_range];exact g)] at he;cases he
   rw [List.getElem?_range hi] at he;simp only [Option.map_some,Option.some.injEq] at he;have hc:=(Classical.choose_spec (each i hi)).1;rw [← hf' i hi,he] at hc;obtain ⟨bb,off,sp⟩:=a;obtain ⟨g0,g1,g2,g3⟩:=hc;obtain ⟨_,⟨f0,_,_,_⟩,_⟩:=each 0 (by omega);have hs:=World.cell?_spot f0;have hs':sp=none:=(by simpa [Addr.add] using hs);subst hs';have ha:∀ k,((⟨bb,off,none⟩:Addr).add (i * 4)).add k=⟨bb,off+i * 4+k,none⟩:=fun k=>by
    rw [Addr.add_lit,Addr.add_lit]
   rw [ha] at g0 g1 g2 g3;exact ⟨bb,off,rfl,g0,g1,g2,g3⟩
  ·intro e he;obtain ⟨i,hi,rfl⟩:=List.mem_map.1 he;have hi:=List.mem_range.1 hi;rw [hf' i hi];exact (Classical.choose_spec (each i hi)).2
theorem zse {r:Reach}{b0:Nat}{v:Value}{d:DataW H}{p:List MemPlace}(hv:Value.okWide Tryz.prog w r b0 24 v)(h:DataW.Trod enc Tryz.prog w 0 (fun _=>true) held 24 v d p) :
  ∃ (n o cm:Nat)(M:Bool)(am:Option Addr)(Q:List Q4),v=.agg #[.int .u8 n,.slice am Q.length cm,.bool M,.int .u8 o]∧n<256∧o<256∧QIn w am Q∧zry Q:=by
 obtain ⟨cs,rfl,hsz⟩:=okWide_struct Tryz.underlying24 hv;rw [show Tryz.prog.cellsOf 24=4 by kernel_rfl] at hsz;obtain ⟨l⟩:=cs;match l,hsz with
 | [c0,c1,c2,c3],_ =>
  obtain ⟨fuel,hf⟩:=h
  obtain ⟨y0,y1,y2,y3,k,hx,_,h0,h1,h2,h3⟩:=trod_struct4 Tryz.underlying24 hf
  simp only [Value.cells,show Tryz.prog.cellsOf 5=1 by kernel_rfl,show Tryz.prog.cellsOf 22=1 by kernel_rfl,show Tryz.prog.cellsOf 4=1 by kernel_rfl,List.drop_zero,List.take_succ_cons,List.take_zero,List.drop_succ_cons] at h0 h1 h2 h3
  obtain ⟨n,hn,_,wn⟩:=DataW.trod_int Tryz.underlying5 h0
  obtain ⟨am,Q,cm,rfl,hQ,hb⟩:=zsd h1
  obtain ⟨M,hM,_⟩:=DataW.trod_bool Tryz.underlying4 h2
  obtain ⟨o,ho,_,wo⟩:=DataW.trod_int Tryz.underlying5 h3
  simp only [List.cons.injEq,and_true] at hn hM ho
  subst hn hM ho
  obtain ⟨n',rfl,hn'⟩:=zsa wn
  obtain ⟨o',rfl,ho'⟩:=zsa wo
  exact ⟨n',o',cm,M,am,Q,rfl,hn',ho',hQ,hb⟩
end
end
section
open Go.ChangeShapes Go.WideShapes Go.ChangeAt Go.WideMaps Go.WideElems Go.RowKit
section
variable {H : Type} {enc : TypeId × Value → H} {P : Program}
theorem zsf {f:Func}{s:ChangeSpec}{apart fresh handsOn again:Bool}{W W':World}{args:Array Value}{v:Value}{ds gs:List (DataW H)}{before pa pv:List MemPlace}
  (hW:DataW.Whole enc P f.params.toList s.vars apart W args.toList ds gs before)
  (hres:∀ (b:Nat)(sp:Nat→Bool)(hd:Bool),DataW.TrodAll enc P W' b sp hd f.resultTypes.toList (v.resultList f.resultTypes.size) (s.fn H (ds++gs)).results [])
  (hargs:∀ sp:Nat→Bool,(∀ p∈before,sp p.block=true)→DataW.TrodAll enc P W' 0 sp true f.params.toList args.toList (s.fn H (ds++gs)).args pa)
  (hvars:∀ sp:Nat→Bool,(∀ p∈before,sp p.block=true)→DataW.TrodVars enc P W' sp s.vars (s.fn H (ds++gs)).vars pv)
  (hps:before=pa++pv) (hb:Below W.heap.size W W')
  (hok:∀ (j:Nat)(t:TypeId)(r:Value),f.resultTypes[j]?=some t→(v.resultList f.resultTypes.size)[j]?=some r→Value.okWide P W' .any 0 t r) :
  s.post enc P f apart fresh handsOn again W args v W':=by
 have hlt:∀ p∈before,p.block<W.heap.size:=fun p hp=>hW.lt p hp;have hold:∀ p∈before,(fun b=>decide (b<W.heap.size)) p.block=true:=fun p hp=>by simpa using hlt p hp
 refine ⟨ds,gs,before,[],pa,pv,hW,hres _ _ _,hargs _ hold,hvars _ hold,World.keptBut_mono (fun p hp=>⟨hp,?_⟩) (hb.frame (·∈before)),fun _=>?_⟩
 ·rw [hps,List.mem_append] at hp;exact Or.inr hp
 ·obtain ⟨_,_,_,_,_,hz,hn⟩:=hW;refine ⟨hok,_,_,([]++pa)++pv,⟨[]++pa,pv,trodAll_append (hargs _ (fun _ _=>rfl)) (hres _ _ _),hvars _ (fun _ _=>rfl),rfl,?_,?_⟩,?_⟩
  ·intro b off hp;have hin:MemPlace.cell b off∈before:=(by rw [hps];simpa using hp);rw [hb.frozen (hlt _ hin)];exact hz b off hin
  ·intro ha;have:=hn ha;rw [hps] at this;simpa using this
  ·intro p hp _;rw [hps];simpa using hp
end
theorem zsg : ownKnob Tryz.prog.godebug=none:=by kernel_rfl
theorem zsh : (Tryz.prog.globals[2]?).map (·.type)=some 288:=by kernel_rfl
theorem zsi : Tryz.prog.cellsOf 181=1:=by kernel_rfl
theorem zsj : Tryz.prog.cellsOf 288=20:=by kernel_rfl
theorem zsk {W : World} (h : laidMetH Tryz.prog [("math/bits.deBruijn32tab", Rows.laid_math_bits_deBruijn32tab), ("math/bits.deBruijn64tab", Rows.laid_math_bits_deBruijn64tab), ("internal/strconv.uint64pow10", Rows.laid_internal_strconv_uint64pow10), ("strconv.ErrRange", Rows.laid_strconv_ErrRange), ("strconv.ErrSyntax", Rows.laid_strconv_ErrSyntax)] W) : Env W := by
 rw [MakeChecks.laidMetH_plain _ _ _ (by kernel_rfl)] at h;exact Lib.tabIs_of_head (k:=.u64) (zs:=Lib.pow10Tab) za3 zsh Tryz.underlying288 Tryz.underlying181 zsi zsj h.tail.tail
def zsl : List (String × DataW Unit) := [("math/bits.deBruijn32tab", Rows.laid_math_bits_deBruijn32tab), ("math/bits.deBruijn64tab", Rows.laid_math_bits_deBruijn64tab), ("internal/strconv.uint64pow10", Rows.laid_internal_strconv_uint64pow10), ("strconv.ErrRange", Rows.laid_strconv_ErrRange), ("strconv.ErrSyntax", Rows.laid_strconv_ErrSyntax)]
theorem zsm (os:Os)(args:Array Value):((World.laidAll Tryz.prog os zsl).forCall (fun _ _=>0) ⟨#[],args,[]⟩).Shaped Tryz.prog:=World.shaped_of_ZipB (by kernel_rfl) (by kernel_rfl)
theorem zsn (os:Os)(args:Array Value):laidMetH Tryz.prog zsl ((World.laidAll Tryz.prog os zsl).forCall (fun _ _=>0) ⟨#[],args,[]⟩).memory:=by
 rw [MakeChecks.laidMetH_plain _ _ _ (by kernel_rfl)];exact laidMet_laidAll _ (by kernel_rfl) (by kernel_rfl)
theorem zso : laidOutB Tryz.prog=true:=by kernel_rfl
section
variable {H : Type} {enc : TypeId × Value → H} {W W' : World} {sp : Nat → Bool}
theorem zsp : ∀ {ts:List TypeId}{vs:List Value}{ds:List (DataW H)}{ps:List MemPlace},(∀ t∈ts,Tryz.prog.readableRec t=true∧t<Tryz.prog.types.size) →
  DataW.TrodAll enc Tryz.prog W 0 (fun _=>true) true ts vs ds ps→(∀ x∈ps,W.sameAt W' x)→(∀ x∈ps,sp x.block=true)→DataW.TrodAll enc Tryz.prog W' 0 sp true ts vs ds ps
 | [],_,_,_,_,h,_,_=>by
  obtain ⟨rfl,rfl,rfl⟩:=trodAll_nil h;exact trodAll_mk0
 | t::ts,vs,ds,ps,hts,h,hs,hp=>by
  obtain ⟨v,vs',d,ds',p,p',rfl,rfl,rfl,h1,h2⟩:=trodAll_cons h;obtain ⟨hr,hw⟩:=hts t (List.mem_cons_self ..);exact trodAll_cons_mk (WideElems.Trod_stays zso hr hw h1 (fun x hx=>hs x (List.mem_append_left _ hx)) (fun x hx=>hp x (List.mem_append_left _ hx)))
   (zsp (fun t ht=>hts t (List.mem_cons_of_mem _ ht)) h2 (fun x hx=>hs x (List.mem_append_right _ hx)) (fun x hx=>hp x (List.mem_append_right _ hx)))
end
theorem zsq {H:Type}{enc:TypeId × Value→H}{f:Func}{s:ChangeSpec}{W W':World}{args:Array Value}{ds:List (DataW H)}{before:List MemPlace}(hv:s.vars=[])(hts:∀ t∈f.params.toList,Tryz.prog.readableRec t=true∧t<Tryz.prog.types.size)
  (hres:f.resultTypes=#[4]) (hfn:s.fn H ds={ results:=[.lit (.bool true)],args:=ds })
  (hW:DataW.Whole enc Tryz.prog f.params.toList s.vars false W args.toList ds [] before) (hb:Below W.heap.size W W'):s.post enc Tryz.prog f false true false false W args (.bool true) W':=by
 have hW':=hW;obtain ⟨p,q,hA0,hV,rfl,_,_⟩:=hW;rw [hv] at hV;obtain ⟨_,rfl⟩:=trodVars_none hV;have hlt:∀ x∈p++[],x.block<W.heap.size:=fun x hx=>hW'.lt x hx;refine zsf (pa:=p) (pv:=[]) hW' (fun _ _ _=>?_) (fun sp hsp=>?_) (fun _ _=>?_) rfl hb ?_
 ·rw [List.append_nil,hfn,hres];exact trodAll_mk1 (shut_bool Tryz.underlying4 _)
 ·rw [List.append_nil,hfn];exact zsp hts hA0 (fun x hx=>hb.same (hlt x (List.mem_append_left _ hx))) (fun x hx=>hsp x (List.mem_append_left _ hx))
 ·rw [List.append_nil,hfn,hv];rfl
 ·exact ok_one hres rfl (okWide_bool_mk Tryz.underlying4 _)
end
end Go.Proofs.YtipkdebkdnbieaaGreatDoor
