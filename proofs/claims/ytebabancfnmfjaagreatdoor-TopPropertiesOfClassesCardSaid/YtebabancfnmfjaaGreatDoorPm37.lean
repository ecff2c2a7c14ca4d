/- Walk: the law TopPropertiesOfClasses. What the rows' condition gives the walks, and the last step of a law (the seat of chapters 31 and 32). A world that came in. A pair of bytes that came in; sixteen bits that came in. -/
import Derived.Test.YtebabancfnmfjaaGreatDoorPm23
import Derived.Test.YtebabancfnmfjaaGreatDoorPm35
import Derived.Test.YtebabancfnmfjaaGreatDoorPm36
import Derived.Test.YtebabancfnmfjaaGreatDoorPm32
import Derived.Test.YtebabancfnmfjaaGreatDoorShelfI
import Derived.Shelf.SlicesG.Cmp
import Derived.Test.YtebabancfnmfjaaGreatDoorPm00
import Derived.Below
import Derived.ChangeSame
import Derived.OpenShut
import Derived.LaidMore
import Derived.ProofKit
import Derived.Stop.Joined
import Derived.Laws.IdiomArrays
import Derived.Test.YtebabancfnmfjaaGreatDoorRows
import Derived.Test.YtebabancfnmfjaaGreatDoorTie
import Derived.Test.YtebabancfnmfjaaGreatDoorCards
import Derived.Handy
import Derived.Lay
import Derived.SevenTiedAt
import Derived.Stop.LaidErr
import Derived.Carry
import Derived.Lib.SmallJoins
set_option maxRecDepth 100000
set_option maxHeartbeats 2000000
namespace Go.Proofs.YtebabancfnmfjaaGreatDoor
section
open Go.RowKit Go.Lib Go.Shelf
attribute [local go_sem] Oper.semAt_some
structure zqp (W0 W:World)(n:Nat)(S:List Int)(b1 b2:Nat)(u1 u2 x1 x2 vS:Value)(rs1 rs2:List Qw):Prop where
 x:Ext W0 W
 c1:zic 28 W b1 u1 u2
 c2:zic 28 W b2 x1 x2
 s1:ScV W (.agg #[u1,u2]) [2,3] rs1
 s2:ScV W (.agg #[x1,x2]) [2,3] rs2
 s:Sl W vS (zaq S)
theorem zqp.ext {W0 W W':World}{n:Nat}{S:List Int}{b1 b2:Nat}{u1 u2 x1 x2 vS:Value}{rs1 rs2:List Qw}(h:zqp W0 W n S b1 b2 u1 u2 x1 x2 vS rs1 rs2)(hx:Ext W W'):zqp W0 W' n S b1 b2 u1 u2 x1 x2 vS rs1 rs2 :=
 ⟨h.x.trans hx,h.c1.ext hx,h.c2.ext hx,h.s1.ext hx,h.s2.ext hx,hx.sl h.s⟩
theorem zqq {k d:Nat}{S:List Int}(h0:0<k)(h12:k≤12)(hS:S ≠ [])(hb:∀ x∈S,0≤x∧x<(k:Int))(hu:S.Pairwise (·<·))(hd:d≤S.length):∀ x∈spc k S (d:Int),0≤x∧x≤(k:Int):=by
 intro x hx;obtain ⟨i,_,rfl⟩:=zpC.1 hx;have hfull:ivE k S (i:Int) (S.length:Int)=k:=by
  unfold ivE;rw [zpv (List.length_pos_iff.2 hS)];omega
 have hzero:ivE k S (i:Int) 0=0:=by
  unfold ivE;rw [Int.add_zero];omega
 constructor
 ·rcases Nat.eq_zero_or_pos d with rfl | g
  ·rw [show ((0:Nat):Int)=0 from rfl,hzero];exact Int.le_refl _
  ·have:=zpO h0 h12 hS hb hu (i:=(i:Int)) (show (0:Int)<(d:Int) by omega);omega
 ·rcases Nat.lt_or_ge d S.length with g | g
  ·have:=zpO h0 h12 hS hb hu (i:=(i:Int)) (show (d:Int)<(S.length:Int) by omega);omega
  ·rw [show d=S.length by omega,hfull];exact Int.le_refl _
theorem zqr (x:Int):∀ l:List Int,(zp7 x l).length≤l.length+1
 | []=>by simp [zp7]
 | y::t=>by
  unfold zp7;split
  ·rw [List.length_cons,List.length_cons];have:=zqr x t;omega
  ·split
   ·rw [List.length_cons];omega
   ·rw [List.length_cons,List.length_cons];omega
theorem zqs (n:Nat)(S:List Int)(d:Int):∀ m,(zpB n S d m).length≤m
 | 0=>Nat.le_refl _
 | m+1=>by
  have h1:=zqr (ivE n S (m:Int) d) (zpB n S d m);have h2:=zqs n S d m;show (zp7 (ivE n S (m:Int) d) (zpB n S d m)).length≤m+1;omega
theorem zqt {w:World}{av:Option Addr}{nl cv k:Nat}{Y:List Int}{rs:List Qw}(h:RdM w (.slice av nl cv) rs)(hm:rs.map Qw.x=Y.map (oc3 [2,3] k)){i:Nat}(hi:i<Y.length) :
  ∃ b off ai ci,av=some ⟨b,off,none⟩∧w.cell? ⟨b,off+i,none⟩=some (.slice ai 2 ci)∧Rd w (.slice ai 2 ci) (oc3 [2,3] k ((Y[i]?).getD 0)):=by
 obtain ⟨a,cap,e,_,_,hc⟩:=h.1.parts;injection e with e1 e2 e3;subst e1;obtain ⟨y,hy⟩:∃ y,Y[i]?=some y:=⟨_,List.getElem?_eq_getElem hi⟩;have hx:(Y.map (oc3 [2,3] k))[i]?=some (oc3 [2,3] k y):=by rw [List.getElem?_map,hy];rfl
 rw [← hm,List.getElem?_map] at hx;obtain ⟨r,hr,hrx⟩:=Option.map_eq_some_iff.1 hx;have hrd:=h.2 r (List.mem_of_getElem? hr);rw [hrx] at hrd;obtain ⟨ai,ci,hu,_,_,_⟩:=hrd.parts;rw [zmI (.inl rfl)] at hu;have hu:r.u=.slice ai 2 ci:=hu;obtain ⟨b,off,rfl,hcell⟩:=hc i r.u (by unfold qwc;rw [List.getElem?_map,hr];rfl);rw [hu] at hcell hrd;rw [hy];exact ⟨b,off,ai,ci,rfl,hcell,hrd⟩
theorem zqu (x y z:Nat)(w:World)(he:Env w)(hx:x<256)(hy:y<65536)(hz:z<256) :
  Calls Tryz.prog 3 #[.int .u8 (x:Int),.int .u16 (y:Int),.int .u8 (z:Int)] w fun e w'=>e=.returned (.bool true)∧Ext w w':=by
 have hkn:=zkD w he;obtain ⟨n,hn⟩:∃ n:Nat,n=1+x % 10:=⟨_,rfl⟩;have hnc:(1:Int)+(x:Int) % 10=(n:Int):=by omega
 have hn1:1≤n∧n≤10:=by omega
 obtain ⟨P,hP⟩:∃ P:Nat,P=1+z % 6:=⟨_,rfl⟩;have hPc:(1:Int)+(z:Int) % 6=(P:Int):=by omega
 have hP1:1≤P∧P≤6:=by omega
 obtain ⟨q,hq⟩:∃ q:Nat→Bool,q=fun i=>decide (i=0) || y.testBit i:=⟨_,rfl⟩;have Hkn:=Lib.hid hkn;have He:=Lib.hid he;have Hq:=Lib.hid hq;have HP:=Lib.hid hP1;clear hkn he hn hP hq hP1;go_enter Tryz.func3,Tryz.ntmps3
 go_wp2_with fail
 refine Hkn.out.mono ?_;rintro e w1 ⟨rfl,hx1⟩;have Hx1:=Lib.hid hx1;obtain ⟨i0,hj,hz0,hz1,hz2⟩:=info_parts zfh;clear hx1;go_wp2_with fail
 go_loopw [8,9] (fun v8 v9 wr=>∃ k:Nat,v9=.int .i64 k∧1≤k∧k≤n∧zfi wr w.heap.size v8 (zpw k q)∧Ext w wr) (fun _ v9 _=>n - (zam v9).toNat)
 case atStart =>
  have hb1:zpw 1 q=[0]:=by
   rw [zpz,Hq.out];rfl
  refine ⟨1,rfl,Nat.le_refl _,hn1.1,?_,Hx1.out.alloc _⟩;rw [hb1];exact zoE 3 #[.int .i64 0] Hx1.out.size (by unfold maxLen;simp)
 case round =>
  obtain ⟨k,rfl,hk1,hk,ho,hE⟩:=hrel;obtain ⟨al,cl,rfl⟩:=zfj ho;have hLk:=zp1 k q;have hsp:=zpz k q;have ha:=ho;unfold zfi at ha;have hwr:=hE.size;by_cases hkn:k<n
  ·generalize hla:(zpw k q).length=L at *;have Hla:=Lib.hid hla;have Ho:=Lib.hid ho;have HE:=Lib.hid hE;have Ha:=Lib.hid ha;clear hla ho hE ha;have hk0:(k:Int)<(n:Int):=(by omega);have hq1:=zpy y k hy;rw [show y.testBit k=q k by rw [Hq.out];simp;omega] at hq1
   cases hb1:q k with
   | true =>
    have Hs1:=Lib.hid (show zpw (k+1) q=zpw k q++[(k:Int)] by rw [hsp,hb1];simp)
    rw [hb1] at hq1
    have hm3:L+1≤maxLen:=by unfold maxLen;omega
    have hm4:(L+1) * 8≤140737488355328:=by omega
    clear hsp
    go_wp2_with (at_builtin;refine wpList_append_own _ rfl _ _ 24 rfl w.heap.size 3 i0 (.int .i64 0) 1 8 Tryz.underlying24 hj hz0 hz1 hz2 rfl (by decide) _ _ _ rfl (Ha.out.alloc _) ⟨wr.heap.size,0,none⟩ 1 1 [.int .i64 (k:Int)] rfl rfl (cell_one_new _ _ _) (by simp [Value.oneCell']) hm3 hm4 (by rw [World.size_alloc];omega) ?_;intro v7 V7 hown7 hgrow7 _)
    go_roundw
    case rel=>exact ⟨k+1,by go_num,by omega,hkn,by rw [Hs1.out];unfold zfi;rw [List.length_append,List.length_singleton,Hla.out,zaq,List.map_append];exact hown7,(HE.out.alloc _).grown hgrow7 fun k hk=>(World.ownsRow.lt Ha.out k hk).1⟩
    case measure=>simp [zam];omega
   | false =>
    have Hs1:=Lib.hid (show zpw (k+1) q=zpw k q by rw [hsp,hb1];simp)
    rw [hb1] at hq1
    clear hsp
    go_wp2_with fail
    go_roundw
    case rel=>exact ⟨k+1,by go_num,by omega,hkn,by rw [Hs1.out];exact Ho.out,HE.out⟩
    case measure=>simp [zam];omega
  ·obtain rfl:k=n:=by omega
   have hkn2:¬ (k:Int)<(k:Int):=(by omega);clear hsp ha hj hz0 hz1 hz2;obtain ⟨hSb,hSu⟩:=zp0 k q;have hS0:(0:Int)∈zpw k q:=by
    unfold zpw;exact List.mem_map.2 ⟨0,List.mem_filter.2 ⟨List.mem_range.2 (by omega),by rw [Hq.out];rfl⟩,rfl⟩
   obtain ⟨S,hS⟩:∃ S,S=zpw k q:=⟨_,rfl⟩;rw [← hS] at hSb hSu hS0 hLk ho ⊢;have hSne:S ≠ []:=fun e=>by rw [e] at hS0;cases hS0
   have hpos:=List.length_pos_iff.2 hSne;have hev:EvS k S:=⟨by omega,by omega,hpos,hSb,hSu⟩;have hwd:=znd (show 0<k by omega) (show k≤60 by omega);have hwc:=zne (show 0<k by omega) (show k≤12 by omega);have hw2:=zpN (show 0<k by omega) (show k≤12 by omega) hSne hSb hSu;have htl:=zpK (n:=k) hSne;have htc:=zpM (show 0<k by omega) (show k≤12 by omega) hSne;have hte:=zpP (show 0<k by omega) (show k≤12 by omega) hSne hSb hSu;have hsE:=zpp hSne hSb hSu;have hdv:=fun W (hx:Ext w W)=>zp6 k W (He.out.ext hx) (by omega) (by omega);have hsl:=zao ho;have hE:=hE;have hbd:=fun (d:Nat)(hd:d≤S.length)=>zqq (show 0<k by omega) (show k≤12 by omega) hSne hSb hSu hd;have hfind:=fun p N=>zpU (P:=(P:Int)) (p:=p) (N:=N) hS0 hSb hSu;have hsr:zpl [2,3] (eqN k) S.length (P:Int) [0]:=zpl.of hwc hpos (by rw [zmY];omega) (by have:=HP.out;omega) (by have:=HP.out;omega) (by rw [zmY];exact zpo (by intro x hx;rw [List.mem_singleton] at hx;omega) (List.pairwise_singleton _ _));clear ho;generalize hSl:S.length=L at *;have Hev:=Lib.hid hev;have Hwd:=Lib.hid hwd;have Hwc:=Lib.hid hwc;have Hw2:=Lib.hid hw2;have Htl:=Lib.hid htl;have Htc:=Lib.hid htc;have Hte:=Lib.hid hte;have HsE:=Lib.hid hsE;have Hdv:=Lib.hid hdv;have Hsl:=Lib.hid hsl;have HE:=Lib.hid hE;have Hfd:=Lib.hid hfind;have Hsr:=Lib.hid hsr;have Hbd:=Lib.hid hbd;have HSl:=Lib.hid hSl;clear hev hwd hwc hw2 htl htc hte hsE hdv hsl hE hfind hsr hbd hSl hSb hSu hS0 hSne hS hwr Hkn;go_wp2_with fail
   refine (Hdv.out _ HE.out).mono ?_;rintro e w2 ⟨u2,out1,rfl,ho2,hm1,hx2⟩;obtain ⟨vp,vn,rfl,hp2,hn2⟩:=ho2;obtain ⟨a1,c1,rfl⟩:=zfj hp2;obtain ⟨b1,d1,rfl⟩:=zfj hn2.1;have hl1:=zps hm1 (zmY k);have hs1:ScV w2 (.agg #[.slice a1 2 c1,.slice b1 k d1]) [2,3] out1:=by
    rw [← hl1];exact ⟨_,_,rfl,zao hp2,hn2.rd⟩
   rw [hl1];have hE3:=(Ext.refl w2).alloc (.cells #[.slice a1 2 c1,.slice b1 k d1] 28);have hbx:=zic.new 28 w2 (.slice a1 2 c1) (.slice b1 k d1);have hsub:=fun W (hx:Ext (w2.alloc (.cells #[.slice a1 2 c1,.slice b1 k d1] 28)) W)=>znm _ (.slice al L cl) [2,3] out1 S W (He.out.ext ((HE.out.trans hx2).trans (hE3.trans hx))) (hs1.ext (hE3.trans hx)) (by rw [hm1];exact Hwd.out) ((hx2.trans (hE3.trans hx)).sl Hsl.out) (by have:=HSl.out;omega);rw [hl1,HsE.out] at hsub;have Hsb:=Lib.hid hsub;have Hb3:=Lib.hid hbx;have Hx3:=Lib.hid (hx2.trans hE3);have Hs1:=Lib.hid (hs1.ext hE3);have Hm1:=Lib.hid hm1;have Hl1:=Lib.hid hl1;have q0:=hbx.c0;have q1:=hbx.c1;clear hsub hbx hx2 hE3 hs1 hm1 hp2 hn2 hl1;go_wp2_with fail
   refine (Hsb.out _ (Ext.refl _)).mono ?_;rintro e w4 ⟨u4,rfl,_,hu4,hx4⟩;obtain ⟨out2,ho4,hm2⟩:=(by first | exact hu4 rfl | exact hu4 trivial);rw [Hm1.out] at hm2;obtain ⟨vp,vn,rfl,hp4,hn4⟩:=ho4;obtain ⟨a2,c2,rfl⟩:=zfj hp4;obtain ⟨b2,d2,rfl⟩:=zfj hn4.1;have hl2:=zps hm2 Htl.out;have hs2:ScV w4 (.agg #[.slice a2 2 c2,.slice b2 L d2]) [2,3] out2:=by
    rw [← hl2];exact ⟨_,_,rfl,zao hp4,hn4.rd⟩
   rw [hl2];have hE5:=(Ext.refl w4).alloc (.cells #[.slice a2 2 c2,.slice b2 L d2] 28);have hbx:=zic.new 28 w4 (.slice a2 2 c2) (.slice b2 L d2);have hX:=(HE.out.trans Hx3.out).trans (hx4.trans hE5);have hT:zqp w (w4.alloc (.cells #[.slice a2 2 c2,.slice b2 L d2] 28)) k S w2.heap.size w4.heap.size (.slice a1 2 c1) (.slice b1 k d1) (.slice a2 2 c2) (.slice b2 L d2) (.slice al L cl) out1 out2 :=
    ⟨hX,Hb3.out.ext (hx4.trans hE5),hbx,Hs1.out.ext (hx4.trans hE5),hs2.ext hE5,(Hx3.out.trans (hx4.trans hE5)).sl Hsl.out⟩
   have hiev:=fun W (hT:zqp w W k S w2.heap.size w4.heap.size (.slice a1 2 c1) (.slice b1 k d1) (.slice a2 2 c2) (.slice b2 L d2) (.slice al L cl) out1 out2)=>zqm (.slice al L cl) k S W hT.s Hev.out;have hkd:=fun W (hT:zqp w W k S w2.heap.size w4.heap.size (.slice a1 2 c1) (.slice b1 k d1) (.slice a2 2 c2) (.slice b2 L d2) (.slice al L cl) out1 out2)=>znJ _ _ _ W (He.out.ext hT.x) hT.s2 (by rw [hm2];exact Hw2.out);have hpr:=fun W (hT:zqp w W k S w2.heap.size w4.heap.size (.slice a1 2 c1) (.slice b1 k d1) (.slice a2 2 c2) (.slice b2 L d2) (.slice al L cl) out1 out2)=>zoG _ _ _ W (He.out.ext hT.x) hT.s2 (by rw [hm2];exact Hw2.out);rw [hm2] at hkd hpr;have Hiev:=Lib.hid hiev;have Hkd:=Lib.hid hkd;have Hpr:=Lib.hid hpr;have HT:=Lib.hid hT;have Hm2:=Lib.hid hm2;have Hl2:=Lib.hid hl2;have q0:=hT.c2.c0;have q1:=hT.c2.c1;clear hiev hkd hpr hT hm2 hl2 hX hs2 hbx hE5 hp4 hn4 hx4 hu4 Hsb Hb3 Hs1 Hx3 Hdv HE Hsl;go_wp2_with fail
   generalize w4.alloc (.cells #[.slice a2 2 c2,.slice b2 L d2] 28)=W5 at *;refine (Hiev.out _ HT.out).mono ?_;rintro e w6 ⟨⟨b,j0,j1,j2,rfl,hbe⟩,hx6⟩;have HT6:=Lib.hid (HT.out.ext hx6);have Hbe:=Lib.hid hbe;have HU:=Lib.hid ((Ext.refl w6).alloc (.cells #[.int .i64 j0,.int .i64 j1,.int .i64 j2] 35));have q0:=(HT6.out.ext HU.out).c2.c0;have q1:=(HT6.out.ext HU.out).c2.c1;have HT7:=Lib.hid (HT6.out.ext HU.out);clear hx6 hbe HU;go_wp2_with fail
   generalize w6.alloc (.cells #[.int .i64 j0,.int .i64 j1,.int .i64 j2] 35)=W7 at *;refine (Hkd.out _ HT7.out).mono ?_;rintro e w8 ⟨rfl,hx8⟩;have HT8:=Lib.hid (HT7.out.ext hx8);have q0:=HT8.out.c2.c0;have q1:=HT8.out.c2.c1;clear hx8;go_wp2_with fail
   refine (Hpr.out _ HT8.out).mono ?_;rintro e w9 ⟨⟨g1,g2,a3,n3,c3,a4,n4,c4,rfl⟩,hx9⟩;have HT9:=Lib.hid (HT8.out.ext (hx9.trans ((Ext.refl w9).alloc (.cells #[.int .i64 g1,.int .i64 g2,.slice a3 n3 c3,.slice a4 n4 c4] 43))));clear hx9;have hb4:b=true→tst 4 [2,3] (zlb [2,3] (eqN k) S)=true∧¬ kd [2,3] (zlb [2,3] (eqN k) S)=3:=fun e=>by
    obtain ⟨h1,h2⟩:=Hte.out (Hbe.out e);rw [zob];exact ⟨decide_eq_true h1,h2⟩
   have Hb4:=Lib.hid hb4;clear hb4;generalize htv:tst 4 [2,3] (zlb [2,3] (eqN k) S)=T4 at *;generalize hkv:kd [2,3] (zlb [2,3] (eqN k) S)=K at *;clear htv hkv;go_upto_region 15 with (fail)
   go_cut [113] (fun v113 wx=>v113=.bool false∧wx=w9.alloc (.cells #[.int .i64 g1,.int .i64 g2,.slice a3 n3 c3,.slice a4 n4 c4] 43))
   case first =>
    cases b with
    | true =>
     obtain ⟨rfl,hK⟩:=Hb4.out rfl
     go_wp2_with fail
     go_meet
     exact ⟨by simp [hK],rfl⟩
    | false =>
     go_wp2_with fail
     go_meet
     exact ⟨rfl,rfl⟩
   case rest =>
    obtain ⟨rfl,rfl⟩:=hcut;clear Hb4 Hbe Hte HT HT6 HT7 HT8 Hiev Hkd Hpr HsE;clear q0 q1;go_wp2_with fail
    generalize w9.alloc (.cells #[.int .i64 g1,.int .i64 g2,.slice a3 n3 c3,.slice a4 n4 c4] 43)=W10 at *;go_loopw [22,23,24,25,26,27,28,29] (fun v22 v23 v24 v25 v26 v27 v28 v29 wr=>∃ d:Nat,v22=.int .i64 d∧1≤d∧d≤L∧zqp w wr k S w2.heap.size w4.heap.size (.slice a1 2 c1) (.slice b1 k d1) (.slice a2 2 c2) (.slice b2 L d2) (.slice al L cl) out1 out2) (fun v22 _ _ _ _ _ _ _ _=>L - (zam v22).toNat)
    case atStart=>exact ⟨1,rfl,Nat.le_refl _,hpos,HT9.out⟩
    case round =>
     obtain ⟨d,rfl,hd1,hdL,hTr⟩:=hrel;have HTr:=Lib.hid hTr;clear hTr;by_cases hdl:d<L
     ·have hd0:(d:Int)<(L:Int):=(by omega);have q0:=HTr.out.c2.c0;have q1:=HTr.out.c2.c1;have hcs:=zqo _ [2,3] out2 d wr (He.out.ext HTr.out.x) HTr.out.s2 (by rw [Hm2.out];exact Hw2.out) (by rw [Hl2.out];exact hdL);rw [Hm2.out,Htc.out] at hcs;have hes:=fun W (hx:Ext wr W)=>zqh (.slice al L cl) k d S W (HTr.out.ext hx).s Hev.out (by rw [HSl.out];exact hdL);have hbd:=Hbd.out d (by omega);obtain ⟨Y,hY⟩:∃ Y,Y=spc k S (d:Int):=⟨_,rfl⟩;have hYl:Y.length≤L:=by
       have:=zqs k S (d:Int) S.length;rw [hY];unfold spc;rw [HSl.out] at this;rw [HSl.out];exact this
      rw [← hY] at hcs hes hbd;have Hcs:=Lib.hid hcs;have Hes:=Lib.hid hes;have Hbd:=Lib.hid hbd;clear hcs hes hbd hY;go_wp2_with fail
      refine Hcs.out.mono ?_;rintro e wb ⟨u5,out5,rfl,ho5,hm5,hx5⟩;obtain ⟨a5,c5,rfl⟩:=zfj ho5.1;have hl5:out5.length=Y.length:=by
       have:=congrArg List.length hm5;rwa [List.length_map,List.length_map] at this
      have Hr5:=ho5.rd;rw [hl5] at Hr5 ⊢;have Hr5:=Lib.hid Hr5;have Hm5:=Lib.hid hm5;have Hx5:=Lib.hid hx5;clear ho5 hm5 hx5 hl5 q0 q1;go_wp2_with fail
      refine (Hes.out _ Hx5.out).mono ?_;rintro e wc ⟨u6,rfl,ho6,hx6⟩;obtain ⟨a6,c6,rfl⟩:=zfj ho6;have Hs6:=Lib.hid (zao ho6);have Hr6:=Lib.hid (hx6.rdM Hr5.out);have HT6:=Lib.hid (HTr.out.ext (Hx5.out.trans hx6));clear ho6 hx6 Hr5 Hx5 Hes Hcs;generalize hM:Y.length=M at *;have HM:=Lib.hid hM;clear hM;go_wp2_with fail
      go_loopw [27,28,29] (fun v27 v28 v29 wx=>∃ i:Nat,v27=.int .i64 i∧i≤M∧Ext wc wx) (fun v27 _ _ _=>M - (zam v27).toNat)
      case atStart=>exact ⟨0,rfl,Nat.zero_le _,Ext.refl _⟩
      case round =>
       obtain ⟨i,rfl,hi,hE⟩:=hrel;have HE:=Lib.hid hE;clear hE;obtain ⟨wd,hwdq⟩:∃ wd,wd=wr:=⟨_,rfl⟩;subst hwdq;by_cases hil:i<M
       ·obtain ⟨s1,o1,rfl,hc1⟩:=zoF (HE.out.sl Hs6.out) i (by rw [HM.out];exact hil);obtain ⟨s2,o2,a7,c7,rfl,hc2,hrd⟩:=zqt (HE.out.rdM Hr6.out) Hm5.out (i:=i) (by rw [HM.out];exact hil);obtain ⟨X,hX⟩:∃ X,X=(Y[i]?).getD 0:=⟨_,rfl⟩;have hXb:0≤X∧X≤(k:Int):=Hbd.out X (by
         rw [hX,List.getElem?_eq_getElem (by rw [HM.out];exact hil)];exact List.getElem_mem _)
        rw [← hX] at hc1 hrd;have hnt:=fun W (hx:Ext wd W)=>zkE (.agg #[.slice a1 2 c1,.slice b1 k d1]) [2,3] out1 X W (He.out.ext ((HT6.out.ext HE.out).ext hx).x) ((HT6.out.ext HE.out).ext hx).s1 (by rw [Hm1.out];exact Hwd.out) (by omega) (by omega);rw [Hm1.out,znf (by omega) (by omega)] at hnt;have hsq:=fun W g (hx:Ext wd W)(hg:Rd W (.slice (some ⟨g,0,none⟩) 2 2) (oc3 [2,3] k X))=>zfK (.slice (some ⟨g,0,none⟩) 2 2) (.slice a7 2 c7) _ _ W hg (hx.rd hrd) (by rw [zmI (.inl rfl)];decide) (by rw [zmI (.inl rfl)];decide);have hSQ:∀ W,Ext wd W→Ext wd W∧W.cell? ⟨s1,o1+i,none⟩=some (.int .i64 X)∧W.cell? ⟨w2.heap.size,0,none⟩=some (.slice a1 2 c1)∧W.cell? ⟨w2.heap.size,1,none⟩=some (.slice b1 k d1):=fun W hx =>
         ⟨hx,hx.cell hc1,((HT6.out.ext HE.out).ext hx).c1.c0,((HT6.out.ext HE.out).ext hx).c1.c1⟩
        have hi0:(0:Int)≤(i:Int):=(by omega);have hi1:(i:Int)<(M:Int):=(by omega);have Hnt:=Lib.hid hnt;have Hsq:=Lib.hid hsq;have HSQ:=Lib.hid hSQ;have Hc2:=Lib.hid hc2;clear hnt hsq hSQ hc2 hrd hX hXb;go_wp2_with fail
        have hS0:=HSQ.out _ (Ext.refl wd).drew;go_region_held3 (fun w'=>Ext wd w'∧w'.cell? ⟨s1,o1+i,none⟩=some (.int .i64 X)∧w'.cell? ⟨w2.heap.size,0,none⟩=some (.slice a1 2 c1)∧w'.cell? ⟨w2.heap.size,1,none⟩=some (.slice b1 k d1))
         (first | (with_reducible assumption) | exact HSQ.out _ ((Ext.refl wd).drew))
         (first
          | (go_at_call 14
             refine (Hnt.out _ (And.left (by with_reducible assumption))).mono ?_
             rintro e9 V8 ⟨g8,rfl,ho8,hx8⟩
             have hE8:Ext wd V8:=Ext.trans (And.left (by with_reducible assumption)) hx8
             have hS8:=HSQ.out V8 hE8
             have Hq8:=Lib.hid (fun W (hx:Ext V8 W)=>Hsq.out W g8 (hE8.trans hx) (hx.rd ho8.rd))
             have HE8:=Lib.hid hE8
             clear ho8 hx8 hE8))
        all_goals
         clear hS8 hS0;have y2:=HE8.out.cell Hc2.out;go_wp2_with fail
         refine (Hq8.out _ (Ext.refl _)).mono ?_;rintro e9 V9 ⟨rfl,hx9⟩;have HE9:=Lib.hid hx9;clear hx9 y2;go_wp2_with fail
         go_roundw
         case rel=>first | exact ⟨i+1,by go_num,by omega,(HE.out.trans HE8.out).trans HE9.out⟩ | ((repeat apply Exists.intro);exact ⟨⟨i+1,by go_num,by omega,(HE.out.trans HE8.out).trans HE9.out⟩,rfl⟩)
         case measure=>simp [zam];omega
       ·obtain rfl:i=M:=by omega
        have HT7:=Lib.hid (HT6.out.ext HE.out);go_wp2_with fail
        go_roundw
        case rel=>exact ⟨d+1,by go_num,by omega,hdl,HT7.out⟩
        case measure=>simp [zam];omega
     ·obtain rfl:d=L:=by omega
      have q0:=HTr.out.c2.c0;have q1:=HTr.out.c2.c1;have hho:=zoq _ [2,3] out2 (P:Int) wr (He.out.ext HTr.out.x) HTr.out.s2 (by rw [Hm2.out];exact Hw2.out.wd) (fun _ _=>by rw [Hm2.out];exact Hw2.out);rw [zop (by have:=HP.out;omega),Hm2.out] at hho;have Hho:=Lib.hid hho;clear hho HT9 Htc Hbd Hev;have hfd:=Hfd.out [2,3] (eqN k);generalize tst (P:Int) [2,3] (zlb [2,3] (eqN k) S)=T at *;have Hfd:=Lib.hid hfd;clear hfd;go_wp2_with fail
      refine Hho.out.mono ?_;rintro e wb ⟨rfl,hxb⟩;have HTb:=Lib.hid (HTr.out.ext hxb);have q0:=HTb.out.c1.c0;have q1:=HTb.out.c1.c1;have HEb:=(Ext.refl wb).alloc (.cells #[.int .i64 0] 3);have hsl0:Sl (wb.alloc (.cells #[.int .i64 0] 3)) (.slice (some ⟨wb.heap.size,0,none⟩) 1 1) (zaq [0]) :=
       zao (show zfi (wb.alloc (.cells #[.int .i64 0] 3)) wb.heap.size (.slice (some ⟨wb.heap.size,0,none⟩) 1 1) [0] from zoE 3 #[.int .i64 0] (Nat.le_refl _) (by unfold maxLen;simp))
      obtain ⟨vp,vn,ev,hsp,hsn⟩:=(HTb.out.ext HEb).s1;injection ev with ev;injection ev with ev;injection ev with ev1 ev2;injection ev2 with ev2 _;subst ev1 ev2;have hqy:QyV (wb.alloc (.cells #[.int .i64 0] 3)) (.agg #[.slice a1 2 c1,.slice b1 k d1,.int .i64 (d:Int),.int .i64 (P:Int),.slice (some ⟨wb.heap.size,0,none⟩) 1 1,.bool false]) [2,3] out1 (d:Int) (P:Int) [0] false:=⟨_,_,_,rfl,hsp,hsn,hsl0⟩;have hal:=zpn _ [2,3] out1 d (P:Int) [0] false _ (He.out.ext (HTb.out.ext HEb).x) hqy (by rw [Hm1.out];exact Hsr.out);rw [Hm1.out,Hl1.out,zkS (List.pairwise_singleton _ _) (by intro x hx;rw [List.mem_singleton] at hx;omega)] at hal;have Hal:=Lib.hid hal;have HTc:=Lib.hid (HTb.out.ext HEb);clear hal hqy hsp hsn hsl0 HEb hxb;go_wp2_with fail
      generalize wb.alloc (.cells #[.int .i64 0] 3)=Wc at *;refine Hal.out.mono ?_;rintro e wc ⟨us,vs,fs,rfl,hf,hlf,hxc⟩;have HR:=Lib.hid hf.r;obtain ⟨a8,c8,rfl⟩:=zfj hf.us;have HTd:=Lib.hid (HTc.out.ext hxc);have Hlf:=Lib.hid hlf;have hrw:=fun W (f:Iw) uf (hs:Sl W uf (zaq f.l))(hx:Ext wc W)(h1:f.l.length≤1000)=>zkC uf (.slice al d cl) f.l S W hs (HTd.out.ext hx).s h1 (by have:=HSl.out;omega);have hlen:∀ f∈fwI fs,f.l.length≤1000:=fun f hf=>by
       obtain ⟨g,hg,rfl⟩:=List.mem_map.1 hf;have h1:g.l∈fs.map Fw.l:=List.mem_map_of_mem hg;rw [Hlf.out] at h1;have h2:=(zmV h1).1;have h3:=(zpr h2).1;show g.l.length≤1000;omega
      have hcnt:(fwI fs).countP (fun f=>decide (f.l=S))=if T=true then 1 else 0:=by
       rw [← Hfd.out,← Hlf.out,List.countP_map];unfold fwI;rw [List.countP_map];rfl
      have hfl:fs.length=(fwI fs).length:=(zp3 fs).symm;have hfb:(fwI fs).length≤5000:=by
       rw [← hfl];have h1:=zmX (P:Int) false [2,3] (eqN k) (zkR k d [0]);rw [← Hlf.out,List.length_map] at h1;have h2:=Hsr.out.cs;rw [zmY,zkS (List.pairwise_singleton _ _) (by intro x hx;rw [List.mem_singleton] at hx;omega)] at h2;omega
      rw [hfl];rw [hfl] at HR;generalize fwI fs=gs at *;have Hrw:=Lib.hid hrw;have Hlen:=Lib.hid hlen;have Hcnt:=Lib.hid hcnt;clear hrw hlen hcnt hfl hf hlf hxc q0 q1;go_wp2_with fail
      go_loopw [33,34] (fun v33 v34 wr=>∃ i:Nat,v34=.int .i64 i∧i≤gs.length∧v33=.int .i64 ((gs.take i).countP (fun f=>decide (f.l=S)))∧Ext wc wr) (fun _ v34 _=>gs.length - (zam v34).toNat)
      case atStart=>exact ⟨0,rfl,Nat.zero_le _,rfl,Ext.refl _⟩
      case round =>
       obtain ⟨i,rfl,hi,rfl,hE⟩:=hrel;have HE:=Lib.hid hE;by_cases hil:i<gs.length
       ·obtain ⟨f,hfi⟩:∃ f,gs[i]?=some f:=⟨_,List.getElem?_eq_getElem hil⟩;obtain ⟨s1,o1,a9,c9,rfl,hc1,hs1⟩:=(HR.out.ext hE).at' hfi;have hcl:=Hrw.out _ f _ hs1 hE (Hlen.out f (List.mem_of_getElem? hfi));have hnx:(gs.take (i+1)).countP (fun f=>decide (f.l=S))=(gs.take i).countP (fun f=>decide (f.l=S))+if decide (f.l=S)=true then 1 else 0:=by
         rw [List.take_add_one,hfi];simp [List.countP_append]
        have hcb:(gs.take i).countP (fun f=>decide (f.l=S))≤i:=Nat.le_trans List.countP_le_length (by rw [List.length_take];omega);have hi0:(0:Int)≤(i:Int):=(by omega);have hi1:(i:Int)<(gs.length:Int):=(by omega);have Hcl:=Lib.hid hcl;have Hnx:=Lib.hid hnx;clear hcl hnx hs1 hE hfi;generalize (gs.take i).countP (fun f=>decide (f.l=S))=C at *;generalize decide (f.l=S)=D at *;go_wp2_with fail
        refine Hcl.out.mono ?_;rintro e wd ⟨rfl,hxd⟩;have HE9:=Lib.hid (HE.out.trans hxd);clear hxd
        cases D with
        | true =>
         have Hn1:Hid ((gs.take (i+1)).countP (fun f=>decide (f.l=S))=C+1):=Lib.hid (by rw [Hnx.out];rfl)
         go_wp2_with fail
         go_roundw
         case rel=>exact ⟨i+1,by go_num,hil,by rw [Hn1.out];go_num,HE9.out⟩
         case measure=>simp [zam];omega
        | false =>
         have Hn1:Hid ((gs.take (i+1)).countP (fun f=>decide (f.l=S))=C):=Lib.hid (by rw [Hnx.out];simp)
         go_wp2_with fail
         go_roundw
         case rel=>exact ⟨i+1,by go_num,hil,by rw [Hn1.out],HE9.out⟩
         case measure=>simp [zam];omega
       ·obtain rfl:i=gs.length:=by omega
        have hfin:=Hcnt.out;rw [List.take_of_length_le (Nat.le_refl gs.length)];rw [hfin];have HF:=Lib.hid (HTd.out.x.trans hE);clear hE hfin
        cases T with
        | true =>
         go_wp2_with fail
         go_ret
         exact ⟨rfl,HF.out⟩
        | false =>
         go_wp2_with fail
         go_ret
         exact ⟨rfl,HF.out⟩
end
section
open Go.ChangeShapes Go.WideShapes Go.ChangeAt Go.WideMaps Go.WideElems Go.RowKit
theorem zqv {n:Int}(h:(Lit.int .u8 n).wf=true):0≤n∧n≤255:=by
 simp [Lit.wf,IntKind.min,IntKind.max,IntKind.signed,IntKind.bits] at h;omega
section
variable {H : Type} {enc : TypeId × Value → H} {P : Program}
theorem zqw {f:Func}{s:ChangeSpec}{apart fresh handsOn again:Bool}{W W':World}{args:Array Value}{v:Value}{ds gs:List (DataW H)}{before pa pv:List MemPlace}
  (hW:DataW.Whole enc P f.params.toList s.vars apart W args.toList ds gs before)
  (hres:∀ (b:Nat)(sp:Nat→Bool)(hd:Bool),DataW.TrodAll enc P W' b sp hd f.resultTypes.toList (v.resultList f.resultTypes.size) (s.fn H (ds++gs)).results [])
  (hargs:∀ sp:Nat→Bool,(∀ p∈before,sp p.block=true)→DataW.TrodAll enc P W' 0 sp true f.params.toList args.toList (s.fn H (ds++gs)).args pa)
  (hvars:∀ sp:Nat→Bool,(∀ p∈before,sp p.block=true)→DataW.TrodVars enc P W' sp s.vars (s.fn H (ds++gs)).vars pv)
  (hps:before=pa++pv) (hb:Below W.heap.size W W')
  (hok:∀ (j:Nat)(t:TypeId)(r:Value),f.resultTypes[j]?=some t→(v.resultList f.resultTypes.size)[j]?=some r→Value.okWide P W' .any 0 t r) :
  s.post enc P f apart fresh handsOn again W args v W':=by
 have hlt:∀ p∈before,p.block<W.heap.size:=fun p hp=>hW.lt p hp;have hold:∀ p∈before,(fun b=>decide (b<W.heap.size)) p.block=true:=fun p hp=>by simpa using hlt p hp
 refine ⟨ds,gs,before,[],pa,pv,hW,hres _ _ _,hargs _ hold,hvars _ hold,World.keptBut_mono (fun p hp=>⟨hp,?_⟩) (hb.frame (·∈before)),fun _=>?_⟩
 ·rw [hps,List.mem_append] at hp;exact Or.inr hp
 ·obtain ⟨_,_,_,_,_,hz,hn⟩:=hW;refine ⟨hok,_,_,([]++pa)++pv,⟨[]++pa,pv,trodAll_append (hargs _ (fun _ _=>rfl)) (hres _ _ _),hvars _ (fun _ _=>rfl),rfl,?_,?_⟩,?_⟩
  ·intro b off hp;have hin:MemPlace.cell b off∈before:=(by rw [hps];simpa using hp);rw [hb.frozen (hlt _ hin)];exact hz b off hin
  ·intro ha;have:=hn ha;rw [hps] at this;simpa using this
  ·intro p hp _;rw [hps];simpa using hp
end
theorem zqx : ownKnob Tryz.prog.godebug=none:=by kernel_rfl
theorem zqy : (Tryz.prog.globals[0]?).map (·.type)=some 322:=by kernel_rfl
theorem zqz : Tryz.prog.cellsOf 221=1:=by kernel_rfl
theorem zq0 : Tryz.prog.cellsOf 322=20:=by kernel_rfl
theorem zq1 {W : World} (h : laidMetH Tryz.prog [("math/bits.deBruijn32tab", Rows.laid_math_bits_deBruijn32tab), ("math/bits.deBruijn64tab", Rows.laid_math_bits_deBruijn64tab), ("internal/strconv.uint64pow10", Rows.laid_internal_strconv_uint64pow10), ("strconv.ErrRange", Rows.laid_strconv_ErrRange), ("strconv.ErrSyntax", Rows.laid_strconv_ErrSyntax)] W) : Env W := by
 rw [MakeChecks.laidMetH_plain _ _ _ (by kernel_rfl)] at h;exact Lib.tabIs_of_head (k:=.u64) (zs:=Lib.pow10Tab) za4 zqy Tryz.underlying322 Tryz.underlying221 zqz zq0 h.tail.tail
def zq2 : List (String × DataW Unit) := [("math/bits.deBruijn32tab", Rows.laid_math_bits_deBruijn32tab), ("math/bits.deBruijn64tab", Rows.laid_math_bits_deBruijn64tab), ("internal/strconv.uint64pow10", Rows.laid_internal_strconv_uint64pow10), ("strconv.ErrRange", Rows.laid_strconv_ErrRange), ("strconv.ErrSyntax", Rows.laid_strconv_ErrSyntax)]
theorem zq3 (os:Os)(args:Array Value):((World.laidAll Tryz.prog os zq2).forCall (fun _ _=>0) ⟨#[],args,[]⟩).Shaped Tryz.prog:=World.shaped_of_ZipB (by kernel_rfl) (by kernel_rfl)
theorem zq4 (os:Os)(args:Array Value):laidMetH Tryz.prog zq2 ((World.laidAll Tryz.prog os zq2).forCall (fun _ _=>0) ⟨#[],args,[]⟩).memory:=by
 rw [MakeChecks.laidMetH_plain _ _ _ (by kernel_rfl)];exact laidMet_laidAll _ (by kernel_rfl) (by kernel_rfl)
theorem zq5 : laidOutB Tryz.prog=true:=by kernel_rfl
section
variable {H : Type} {enc : TypeId × Value → H} {W W' : World} {sp : Nat → Bool}
theorem zq6 : ∀ {ts:List TypeId}{vs:List Value}{ds:List (DataW H)}{ps:List MemPlace},(∀ t∈ts,Tryz.prog.readableRec t=true∧t<Tryz.prog.types.size) →
  DataW.TrodAll enc Tryz.prog W 0 (fun _=>true) true ts vs ds ps→(∀ x∈ps,W.sameAt W' x)→(∀ x∈ps,sp x.block=true)→DataW.TrodAll enc Tryz.prog W' 0 sp true ts vs ds ps
 | [],_,_,_,_,h,_,_=>by
  obtain ⟨rfl,rfl,rfl⟩:=trodAll_nil h;exact trodAll_mk0
 | t::ts,vs,ds,ps,hts,h,hs,hp=>by
  obtain ⟨v,vs',d,ds',p,p',rfl,rfl,rfl,h1,h2⟩:=trodAll_cons h;obtain ⟨hr,hw⟩:=hts t (List.mem_cons_self ..);exact trodAll_cons_mk (WideElems.Trod_stays zq5 hr hw h1 (fun x hx=>hs x (List.mem_append_left _ hx)) (fun x hx=>hp x (List.mem_append_left _ hx)))
   (zq6 (fun t ht=>hts t (List.mem_cons_of_mem _ ht)) h2 (fun x hx=>hs x (List.mem_append_right _ hx)) (fun x hx=>hp x (List.mem_append_right _ hx)))
end
theorem zq7 {H:Type}{enc:TypeId × Value→H}{f:Func}{s:ChangeSpec}{W W':World}{args:Array Value}{ds:List (DataW H)}{before:List MemPlace}(hv:s.vars=[])(hts:∀ t∈f.params.toList,Tryz.prog.readableRec t=true∧t<Tryz.prog.types.size)
  (hres:f.resultTypes=#[4]) (hfn:s.fn H ds={ results:=[.lit (.bool true)],args:=ds })
  (hW:DataW.Whole enc Tryz.prog f.params.toList s.vars false W args.toList ds [] before) (hb:Below W.heap.size W W'):s.post enc Tryz.prog f false true false false W args (.bool true) W':=by
 have hW':=hW;obtain ⟨p,q,hA0,hV,rfl,_,_⟩:=hW;rw [hv] at hV;obtain ⟨_,rfl⟩:=trodVars_none hV;have hlt:∀ x∈p++[],x.block<W.heap.size:=fun x hx=>hW'.lt x hx;refine zqw (pa:=p) (pv:=[]) hW' (fun _ _ _=>?_) (fun sp hsp=>?_) (fun _ _=>?_) rfl hb ?_
 ·rw [List.append_nil,hfn,hres];exact trodAll_mk1 (shut_bool Tryz.underlying4 _)
 ·rw [List.append_nil,hfn];exact zq6 hts hA0 (fun x hx=>hb.same (hlt x (List.mem_append_left _ hx))) (fun x hx=>hsp x (List.mem_append_left _ hx))
 ·rw [List.append_nil,hfn,hv];rfl
 ·exact ok_one hres rfl (okWide_bool_mk Tryz.underlying4 _)
section
variable {H : Type} {enc : TypeId × Value → H} {w : World} {base : Nat} {spare : Nat → Bool} {held : Bool}
theorem zq8 {n:Int}(h:(Lit.int .u8 n).wf=true):∃ k:Nat,n=k∧k<256:=by
 have:=zqv h;exact ⟨n.toNat,by omega,by omega⟩
end
theorem zq9 {n:Int}(h:(Lit.int .u16 n).wf=true):∃ k:Nat,n=k∧k<65536:=by
 have:=bounds_u16 h;exact ⟨n.toNat,by omega,by omega⟩
end
end Go.Proofs.YtebabancfnmfjaaGreatDoor
