/- What the laws of worlds begin with: a world in its box. Walk: the law ScaleChains. What the rows' condition gives the walks, and the last step of a law (the seat of chapters 31 and 32). A world that came in. What the rows' condition gives of strconv.ErrRange (the seat of chapter 31). -/
import Derived.Test.YtoehmpbipbbffaaGreatDoorPa27
import Derived.Test.YtoehmpbipbbffaaGreatDoorPa24
import Derived.Test.YtoehmpbipbbffaaGreatDoorPa35
import Derived.Test.YtoehmpbipbbffaaGreatDoorPa36
import Derived.Test.YtoehmpbipbbffaaGreatDoorPa00
import Derived.Below
import Derived.ChangeSame
import Derived.OpenShut
import Derived.LaidMore
import Derived.ProofKit
import Derived.Stop.Joined
import Derived.Laws.IdiomArrays
import Derived.Test.YtoehmpbipbbffaaGreatDoorRows
import Derived.Test.YtoehmpbipbbffaaGreatDoorTie
import Derived.Test.YtoehmpbipbbffaaGreatDoorCards
import Derived.Handy
import Derived.Lay
import Derived.SevenTiedAt
import Derived.Stop.LaidErr
import Derived.Carry
import Derived.Test.YtoehmpbipbbffaaGreatDoorPa26
import Derived.Lib.SmallJoins
import Derived.Test.YtoehmpbipbbffaaGreatDoorPa11
set_option maxRecDepth 100000
set_option maxHeartbeats 4000000
namespace Go.Proofs.YtoehmpbipbbffaaGreatDoor
section
open Go.RowKit Go.Lib Go.Shelf
theorem zqt (a:Wl)(w W:World)(h:Ext (w.alloc (.cells a.cs 26)) W):W.rangeAt w.heap.size 0 a.cs.toList:=fun j v hj=>by
 unfold World.cell?;dsimp only;rw [h.heap (World.alloc_heap_new w _),Nat.zero_add];show a.cs[j]?=some v;rw [← Array.getElem?_toList];exact hj
theorem zqu (a:Wl):(Tryz.prog.info? 26).map (·.size)=some a.cs.toList.length:=by
 rw [Array.length_toList];kernel_rfl
theorem zqv (a:Wl):Wl.cs a=#[.bool a.three,.int .u8 a.kind,.int .u8 a.num,.int .i8 (a.xs 0).a,.int .i8 (a.xs 0).b,.int .i8 (a.xs 0).c,.int .i8 (a.xs 1).a,.int .i8 (a.xs 1).b,.int .i8 (a.xs 1).c,.int .i8 (a.xs 2).a,.int .i8 (a.xs 2).b,.int .i8 (a.xs 2).c,.int .i8 (a.xs 3).a,.int .i8 (a.xs 3).b,.int .i8 (a.xs 3).c,.int .i8 (a.xs 4).a,.int .i8 (a.xs 4).b,.int .i8 (a.xs 4).c,.int .i8 (a.xs 5).a,.int .i8 (a.xs 5).b,.int .i8 (a.xs 5).c,.int .i8 (a.xs 6).a,.int .i8 (a.xs 6).b,.int .i8 (a.xs 6).c,.int .i8 (a.xs 7).a,.int .i8 (a.xs 7).b,.int .i8 (a.xs 7).c]:=rfl
end
section
open Go.RowKit Go.Lib Go.Shelf
attribute [local go_sem] Oper.semAt_some
theorem zmq.pl {p:List Int}{l N:List (List Rat)}(h:zmq p l N){x:List Rat}(hx:x∈N):PlN p l x:=by
 rcases (h.2 x).1 hx with e | ⟨_,g⟩
 ·exact .inr (.inl e)
 ·exact .inr (.inr g)
theorem zqw {p:List Int}(hp:Pw p)(x:I3):∀ q∈szW p.length x,Ft 30 q:=by
 obtain ⟨A,B,C,hA,hB,hC,e⟩:=zkr hp x;rw [e];exact zmw hp (by omega) (by omega) (by omega)
def zqx (w:World)(p:List Int)(g:List Rat)(f t:Int)(e:Ending)(w':World):Prop :=
 ((f < -1000∨0<f∨t<0∨1000<t)∧e=.returned (.tuple #[.agg #[.slice none 0 0,.slice none 0 0],.int .i64 3])∧Ext w w') ∨
 (¬ (f < -1000∨0<f∨t<0∨1000<t)∧∃ n:Nat,t=f+(n:Int)∧zpf w p (zjN g f (n+1)) e w')
theorem zqy (a:Wl)(vp vb vg:Value)(f t:Int)(w:World)(hrv:zgJ w)(he:Env w)(hp:Sl w vp (zak a.p))(hb:Rd w vb (ov (a.p.length - 1)))(hg:Rd w vg (szW a.p.length (a.xs 0))) :
  Calls Tryz.prog 7 #[.agg #[vp,vb,vg,.int .i64 f,.int .i64 t]] w fun e w'=>zqx w a.p (szW a.p.length (a.xs 0)) f t e w':=by
 by_cases h:f < -1000∨0<f∨t<0∨1000<t
 ·exact (zpR vp vb vg a.p _ f t w he hp hb hg (zke _ _) (zqw a.pw _) a.pw.pr h).mono fun e w' g=>.inl ⟨h,g.1,g.2⟩
 ·obtain ⟨n,hn⟩:∃ n:Nat,t=f+(n:Int):=⟨(t - f).toNat,by omega⟩;subst hn;exact (zpQ vp vb vg a.p _ f n w hrv he hp hb hg (zke _ _) (zqw a.pw _) (by omega) (by omega) (by omega) (by omega) (zm4 a.pw _ (by omega) (by omega))).mono fun e w' g=>.inr ⟨h,n,rfl,g⟩
theorem zqz (a:Wl)(f t:Int)(w:World)(he:Env w)(hrv:zgJ w)(ha:a.Ok) :
  Calls Tryz.prog 3 #[a.v,.int .i64 f,.int .i64 t] w fun e w'=>e=.returned (.bool true)∧Ext w w':=by
 have hkn:=fun W (hE:Ext w W)=>zqr W (hrv.ext hE) (he.ext hE);have hrl:=zqt a w;have hun:=Tryz.underlying26;have hin:=zqu a;have hE0:Ext w (w.alloc (.cells a.cs 26)):=(Ext.refl w).alloc _;have hcell:∀ W,Ext (w.alloc (.cells a.cs 26)) W→∀ k,W.cell? ⟨w.heap.size,k,none⟩=a.cs[k]?:=fun W hx k=>by
  unfold World.cell?;dsimp only;rw [hx.heap (World.alloc_heap_new w _)];rfl
 have Hkn:=Lib.hid hkn;have Hrl:=Lib.hid hrl;have Hun:=Lib.hid hun;have Hin:=Lib.hid hin;have HE0:=Lib.hid hE0;have He:=Lib.hid he;have Hrv:=Lib.hid hrv;have Ha:=Lib.hid ha;have Hcell:=Lib.hid hcell;clear hkn hrl hun hin hE0 he ha hrv hcell;have hv:a.v=.agg a.cs:=rfl;have Hv:=Lib.hid hv;rw [hv];clear hv;have hcs2:=zqv a;rw [hcs2];go_enter Tryz.func3,Tryz.ntmps3
 rw [← hcs2];go_wp2_with fail
 refine (Hkn.out _ HE0.out).mono ?_;rintro e w1 ⟨rfl,hx1⟩;have hrl1:=Hrl.out w1 hx1;have hpr:=znr a w1;have Hx0:=Lib.hid hx1;have Hx1:=Lib.hid (HE0.out.trans hx1);have Hrl1:=Lib.hid hrl1;have Hpr:=Lib.hid hpr;clear hx1 hrl1 hpr;go_wp2_with (refine wpList_load_mid rfl 26 (.tmp 3) rfl w.heap.size 0 rfl a.cs.toList _ Hrl1.out Hun.out rfl Hin.out ?_)
 rw [← hcs2,← Hv.out];refine Hpr.out.mono ?_;rintro e w2 ⟨u1,rfl,hon1,hx2⟩;obtain ⟨a1,c1,rfl⟩:=zel hon1;have hx02:=Hx0.out.trans hx2;have q3:w2.cell? ⟨w.heap.size,3,none⟩=some (.int .i8 (a.xs 0).a):=Hcell.out w2 hx02 3;have q4:w2.cell? ⟨w.heap.size,4,none⟩=some (.int .i8 (a.xs 0).b):=Hcell.out w2 hx02 4;have q5:w2.cell? ⟨w.heap.size,5,none⟩=some (.int .i8 (a.xs 0).c):=Hcell.out w2 hx02 5;have Hsl2:=Lib.hid (zai hon1);have Hx2:=Lib.hid (Hx1.out.trans hx2);have hpl3:0<a.p.length∧a.p.length≤3:=by rcases a.pw with e | e <;> rw [e] <;> decide
 have hpl2:2≤a.p.length:=by rcases a.pw with e | e <;> rw [e] <;> decide
 have hsz0:=zkj (.slice a1 a.p.length c1) a.p (a.xs 0) w2 (He.out.ext Hx2.out) Hsl2.out (by omega) (Ha.out.xs 0);unfold I3.v at hsz0;have Hsz0:=Lib.hid hsz0;clear hx2 hx02 hon1 hsz0 hcs2;go_wp2_with fail
 refine Hsz0.out.mono ?_;rintro e w3 ⟨ug,rfl,hog,hx3⟩;have hgl:(szW a.p.length (a.xs 0)).length=a.p.length:=zke _ _;obtain ⟨ag,cg,rfl,_,_,_⟩:=hog.rd.parts;have Hg3:=Lib.hid hog.rd;have Hx3:=Lib.hid (Hx2.out.trans hx3);have Hsl3:=Lib.hid (hx3.sl Hsl2.out);have hoc:=fun W (hx:Ext w3 W)=>zjU (.slice a1 a.p.length c1) a.p W (He.out.ext (Hx3.out.trans hx)) (hx.sl Hsl3.out) hpl3.1 (by omega);have hch:=fun W vb (hx:Ext w3 W)(hb:Rd W vb (ov (a.p.length - 1)))=>zqy a (.slice a1 a.p.length c1) vb (.slice ag (szW a.p.length (a.xs 0)).length cg) f t W (Hrv.out.ext (Hx3.out.trans hx)) (He.out.ext (Hx3.out.trans hx)) (hx.sl Hsl3.out) hb (hx.rd Hg3.out);have hcl:=fun W (hx:Ext w3 W)=>znH (.slice a1 a.p.length c1) (.slice ag (szW a.p.length (a.xs 0)).length cg) a.p _ W (hx.sl Hsl3.out) (hx.rd Hg3.out) (by rw [hgl];exact hpl2) (by rw [hgl];omega) (fun q hq=>(zqw a.pw _ q hq).mono (by omega));have Hoc:=Lib.hid hoc;have Hch:=Lib.hid hch;have Hcl:=Lib.hid hcl;have Hgl:=Lib.hid hgl;clear hx3 hog hoc hch hcl hgl q3 q4 q5;go_wp2_with fail
 refine (Hoc.out w3 (Ext.refl _)).mono ?_;rintro e w4 ⟨ub,rfl,hob,hx4⟩;obtain ⟨ab,cb,rfl,_,_,_⟩:=hob.rd.parts;have Hx4:=Lib.hid hx4;have hch4:=Hch.out w4 _ hx4 hob.rd;have Hch4:=Lib.hid hch4;clear hob hx4 hch4;go_wp2_with fail
 refine Hch4.out.mono ?_;intro e w5 hce;rcases hce with ⟨hbad,rfl,hx5⟩ | ⟨hin,n,hn,hco⟩
 ·-- out of range
  have hE6:Ext w5 (w5.alloc (.cells #[.slice none 0 0,.slice none 0 0] 36)):=(Ext.refl w5).alloc _
  have b6:=zdV.new 36 w5 (.slice none 0 0) (.slice none 0 0)
  have k1:=b6.c1
  have Hx6:=Lib.hid (Hx3.out.trans (Hx4.out.trans (hx5.trans hE6)))
  clear hx5 hE6 b6 Hch4
  have hcase:(f < -1000)∨(¬ f < -1000∧0<f)∨(¬ f < -1000∧¬ 0<f∧t<0)∨(¬ f < -1000∧¬ 0<f∧¬ t<0∧1000<t):=by omega
  clear hbad
  rcases hcase with t1 | ⟨t1,t2⟩ | ⟨t1,t2,t3⟩ | ⟨t1,t2,t3,t4⟩
  all_goals
   go_wp2_with fail
   go_ret
   exact ⟨rfl,Hx6.out⟩
 have t1:¬ f < -1000:=by omega
 have t2:¬ 0<f:=by omega
 have t3:¬ t<0:=by omega
 have t4:¬ 1000<t:=by omega
 have hL:=zm4 a.pw (a.xs 0) (a:=f) (m:=n+1) (by omega) (by omega)
 have HL:=Lib.hid hL;have Hn:=Lib.hid hn
 clear hin hn hL Hch4
 by_cases h70:70<t - f
 ·have hn70:Hid (70<n):=Lib.hid (by have:=Hn.out;omega)
  have hmany:=fun (ht:tlZ (szW a.p.length (a.xs 0))=false)=>zm7 (p:=a.p) f (n+1) ht
  have hnone:=fun (ht:tlZ (szW a.p.length (a.xs 0))=true)=>zm8 a.pw (a.xs 0) (a:=f) (m:=n+1) ht
  rcases hco with ⟨h60,rfl,hx5⟩ | ⟨h60,v5,out,rfl,hsc5,hcl5,hx5⟩
  ·have hE6:Ext w5 (w5.alloc (.cells #[.slice none 0 0,.slice none 0 0] 36)):=(Ext.refl w5).alloc _
   have b6:=zdV.new 36 w5 (.slice none 0 0) (.slice none 0 0)
   have k1:=b6.c1
   have Hx6:=Lib.hid (Hx3.out.trans (Hx4.out.trans (hx5.trans hE6)))
   clear hx5 hE6 b6 hmany hnone h60
   go_wp2_with fail
   go_ret
   exact ⟨rfl,Hx6.out⟩
  ·have htl:tlZ (szW a.p.length (a.xs 0))=true:=by
    cases h:tlZ (szW a.p.length (a.xs 0)) with
    | true=>rfl
    | false=>have:=hmany h;have:=hn70.out;omega
   have hlen:=zm9 HL.out hcl5
   rw [hnone htl,List.length_map,List.length_nil] at hlen
   obtain ⟨vp5,vn5,rfl,hop5,hqn5⟩:=hsc5
   obtain ⟨a7,c7,rfl⟩:=zel hop5
   obtain ⟨a8,c8,rfl⟩:=zel hqn5.1
   have hE6:Ext w5 (w5.alloc (.cells #[.slice a7 a.p.length c7,.slice a8 out.length c8] 36)):=(Ext.refl w5).alloc _
   have b6:=zdV.new 36 w5 (.slice a7 a.p.length c7) (.slice a8 out.length c8)
   have k1:=b6.c1
   have hx36:=Hx4.out.trans (hx5.trans hE6)
   have hcl6:=Hcl.out _ hx36
   rw [htl] at hcl6
   have Hx6:=Lib.hid (Hx3.out.trans hx36);have Hcl6:=Lib.hid hcl6
   have hl60:out.length≤60:=by omega
   clear hx5 hE6 b6 hmany hnone h60 hop5 hqn5 hx36 hcl6 hlen htl hcl5
   generalize out.length=m at *
   go_wp2_with fail
   refine Hcl6.out.mono ?_
   rintro e w7 ⟨rfl,hx7⟩
   have Hx7:=Lib.hid (Hx6.out.trans hx7)
   clear hx7
   go_wp2_with fail
   go_ret
   exact ⟨rfl,Hx7.out⟩
 ·have hn70:Hid (n≤70):=Lib.hid (by have:=Hn.out;omega)
  have hmu:=fun W (hx:Ext w3 W)=>(show Calls Tryz.prog 11 #[.slice ag (szW a.p.length (a.xs 0)).length cg,.int .i64 f,.int .i64 t] W fun e w'=>∃ u rs,e=.returned u∧QwM w' W.heap.size W.heap.size u rs∧rs.map Qw.x=zjN (szW a.p.length (a.xs 0)) f (n+1)∧Ext W w' from by
   have:=zqs (.slice ag (szW a.p.length (a.xs 0)).length cg) _ f (n+1) W (He.out.ext (Hx3.out.trans hx)) (hx.rd Hg3.out) (by rw [Hgl.out];omega) (znJ _ _) (by omega) (by have:=Hn.out;omega);rw [show f+((n+1:Nat):Int) - 1=t by have:=Hn.out;omega] at this;exact this)
  have hcq:=fun W vb vl (rs:List Qw)(hx:Ext w3 W)(hb:Rd W vb (ov (a.p.length - 1)))(hl:RdM W vl rs)(hz:rs.map Qw.x=zjN (szW a.p.length (a.xs 0)) f (n+1))=>zpO (.slice a1 a.p.length c1) vb vl a.p rs W (He.out.ext (Hx3.out.trans hx)) (hx.sl Hsl3.out) hb hl (by rw [hz];exact HL.out) (Hrv.out.ext (Hx3.out.trans hx)) (by
   have:=congrArg List.length hz;rw [List.length_map,zjP] at this;have:=hn70.out;omega)
  have Hmu:=Lib.hid hmu;have Hcq:=Lib.hid hcq
  clear hmu hcq
  rcases hco with ⟨h60,rfl,hx5⟩ | ⟨h60,v5,out,rfl,hsc5,hcl5,hx5⟩
  ·have hE6:Ext w5 (w5.alloc (.cells #[.slice none 0 0,.slice none 0 0] 36)):=(Ext.refl w5).alloc _
   have b6:=zdV.new 36 w5 (.slice none 0 0) (.slice none 0 0)
   have Hb6:=Lib.hid b6
   have Hx6:=Lib.hid (Hx4.out.trans (hx5.trans hE6))
   have H60:=Lib.hid h60
   clear hx5 hE6 b6 h60
   go_wp2_with fail
   refine (Hoc.out _ Hx6.out).mono ?_
   rintro e w7 ⟨ub7,rfl,hob7,hx7⟩
   have Hob7:=Lib.hid hob7;have Hx7:=Lib.hid (Hx6.out.trans hx7);have H67:=Lib.hid hx7
   clear hob7 hx7
   go_wp2_with fail
   refine (Hmu.out w7 Hx7.out).mono ?_
   rintro e w8 ⟨um,rm,rfl,hom,hmm,hx8⟩
   have Hom:=Lib.hid hom;have Hmm:=Lib.hid hmm;have Hx8:=Lib.hid (Hx7.out.trans hx8);have Hob8:=Lib.hid (hx8.ownQ Hob7.out);have H68:=Lib.hid (H67.out.trans hx8)
   clear hom hmm hx8
   go_wp2_with fail
   refine (Hcq.out w8 ub7 um rm Hx8.out Hob8.out.rd Hom.out.rd Hmm.out).mono ?_
   rintro e w9 ⟨vn,out2,rfl,hn5,hr5,hcl5,hx9⟩
   obtain ⟨avn,cvn,rfl⟩:=zel hn5
   have hlen:=zm9 (by rw [Hmm.out];exact HL.out) hcl5
   rw [Hmm.out,List.length_map] at hlen
   have hl60:60<out2.length:=by have:=H60.out;omega
   have hlz:(60:Int)<(out2.length:Int):=by omega
   have hE9:Ext w9 (w9.alloc (.cells #[.slice a1 a.p.length c1,.slice avn out2.length cvn] 36)):=(Ext.refl w9).alloc _
   have b9:=zdV.new 36 w9 (.slice a1 a.p.length c1) (.slice avn out2.length cvn)
   have k1:=b9.c1
   have b6:=(Hb6.out.ext (H68.out.trans hx9)).ext hE9
   have k2:=b6.c1
   have Hx9:=Lib.hid (Hx3.out.trans (Hx8.out.trans (hx9.trans hE9)))
   clear hn5 hr5 hcl5 hx9 hE9 b9 b6 hlen hl60
   generalize out2.length=m at *
   go_wp2_with fail
   go_ret
   exact ⟨rfl,Hx9.out⟩
  ·have hlen1:=zm9 HL.out hcl5
   have hplen:=fun x (hx:x∈out.map Qw.x)=>HL.out.plen (hcl5.pl hx)
   have hsv:=hsc5.scV
   obtain ⟨a7,d7,a8,d8,rfl,hsv⟩:=zqm hsv
   have hE6:Ext w5 (w5.alloc (.cells #[.slice a7 a.p.length d7,.slice a8 out.length d8] 36)):=(Ext.refl w5).alloc _
   have b6:=zdV.new 36 w5 (.slice a7 a.p.length d7) (.slice a8 out.length d8)
   have Hb6:=Lib.hid b6
   have Hx6:=Lib.hid (Hx4.out.trans (hx5.trans hE6))
   have H60:=Lib.hid h60;have Hlen1:=Lib.hid hlen1;have Hplen:=Lib.hid hplen;have Hsv:=Lib.hid (hsv.ext hE6);have Hcl5:=Lib.hid hcl5
   clear hx5 hE6 b6 h60 hlen1 hplen hsv hsc5 hcl5
   go_wp2_with fail
   refine (Hoc.out _ Hx6.out).mono ?_
   rintro e w7 ⟨ub7,rfl,hob7,hx7⟩
   have Hob7:=Lib.hid hob7;have Hx7:=Lib.hid (Hx6.out.trans hx7);have H67:=Lib.hid hx7
   clear hob7 hx7
   go_wp2_with fail
   refine (Hmu.out w7 Hx7.out).mono ?_
   rintro e w8 ⟨um,rm,rfl,hom,hmm,hx8⟩
   have Hom:=Lib.hid hom;have Hmm:=Lib.hid hmm;have Hx8:=Lib.hid (Hx7.out.trans hx8);have Hob8:=Lib.hid (hx8.ownQ Hob7.out);have H68:=Lib.hid (H67.out.trans hx8)
   clear hom hmm hx8
   go_wp2_with fail
   refine (Hcq.out w8 ub7 um rm Hx8.out Hob8.out.rd Hom.out.rd Hmm.out).mono ?_
   rintro e w9 ⟨vn,out2,rfl,hn5,hr5,hcl5,hx9⟩
   obtain ⟨avn,cvn,rfl⟩:=zel hn5
   have hcl2:zmq a.p (zjN (szW a.p.length (a.xs 0)) f (n+1)) (out2.map Qw.x):=by rw [← Hmm.out];exact hcl5
   have heq:out.map Qw.x=out2.map Qw.x:=zmr Hcl5.out hcl2
   have hll:out.length=out2.length:=by have:=congrArg List.length heq;rwa [List.length_map,List.length_map] at this
   have hl60:out2.length≤60:=by have:=H60.out;have:=Hlen1.out;rw [List.length_map] at this;omega
   have hlz:¬ (60:Int)<(out2.length:Int):=by omega
   have hE9:Ext w9 (w9.alloc (.cells #[.slice a1 a.p.length c1,.slice avn out2.length cvn] 36)):=(Ext.refl w9).alloc _
   have b9:=zdV.new 36 w9 (.slice a1 a.p.length c1) (.slice avn out2.length cvn)
   have k0:=b9.c0
   have k1:=b9.c1
   have hx69:=(H68.out.trans hx9).trans hE9
   have b6:=Hb6.out.ext hx69
   have j0:=b6.c0
   have j1:=b6.c1
   have hs2:ScV w9 (.agg #[.slice a1 a.p.length c1,.slice avn out2.length cvn]) a.p out2:=⟨_,_,rfl,(Hx8.out.trans hx9).sl Hsl3.out,zai hn5,fun r hr=>by
    rcases hr5 r hr with ⟨e1,e2⟩ | e
    ·rw [e1,e2];exact (hx9.ownQ Hob8.out).rd
    ·exact e.rd⟩
   have hsame:=zqp _ _ a.p a.p out out2 _ (Hsv.out.ext hx69) (hs2.ext hE9) (by omega) (by omega) (by omega) (by omega) (fun r hr=>by rw [Hplen.out _ (List.mem_map_of_mem hr)];omega) (fun r hr=>by rw [Hplen.out _ (by rw [heq];exact List.mem_map_of_mem hr)];omega)
   rw [heq,decide_eq_true rfl,decide_eq_true rfl,Bool.true_and] at hsame
   have Hsame:=Lib.hid hsame
   have Hx9:=Lib.hid (Hx3.out.trans (Hx8.out.trans (hx9.trans hE9)))
   clear hn5 hr5 hcl5 hcl2 hx9 hE9 b9 b6 hsame hs2 hx69 heq hll
   generalize out2.length=m at *
   go_wp2_with fail
   refine Hsame.out.mono ?_
   rintro e w10 ⟨rfl,hx10⟩
   have Hx10:=Lib.hid (Hx9.out.trans hx10)
   clear hx10
   go_wp2_with fail
   go_ret
   exact ⟨rfl,Hx10.out⟩
end
section
open Go.ChangeShapes Go.WideShapes Go.ChangeAt Go.WideMaps Go.WideElems Go.RowKit
theorem zq0 {n:Int}(h:(Lit.int .u8 n).wf=true):0≤n∧n≤255:=by
 simp [Lit.wf,IntKind.min,IntKind.max,IntKind.signed,IntKind.bits] at h;omega
section
variable {H : Type} {enc : TypeId × Value → H} {P : Program}
theorem zq1 {f:Func}{s:ChangeSpec}{apart fresh handsOn again:Bool}{W W':World}{args:Array Value}{v:Value}{ds gs:List (DataW H)}{before pa pv:List MemPlace}
  (hW:DataW.Whole enc P f.params.toList s.vars apart W args.toList ds gs before)
  (hres:∀ (b:Nat)(sp:Nat→Bool)(hd:Bool),DataW.TrodAll enc P W' b sp hd f.resultTypes.toList (v.resultList f.resultTypes.size) (s.fn H (ds++gs)).results [])
  (hargs:∀ sp:Nat→Bool,(∀ p∈before,sp p.block=true)→DataW.TrodAll enc P W' 0 sp true f.params.toList args.toList (s.fn H (ds++gs)).args pa)
  (hvars:∀ sp:Nat→Bool,(∀ p∈before,sp p.block=true)→DataW.TrodVars enc P W' sp s.vars (s.fn H (ds++gs)).vars pv)
  (hps:before=pa++pv) (hb:Below W.heap.size W W')
  (hok:∀ (j:Nat)(t:TypeId)(r:Value),f.resultTypes[j]?=some t→(v.resultList f.resultTypes.size)[j]?=some r→Value.okWide P W' .any 0 t r) :
  s.post enc P f apart fresh handsOn again W args v W':=by
 have hlt:∀ p∈before,p.block<W.heap.size:=fun p hp=>hW.lt p hp;have hold:∀ p∈before,(fun b=>decide (b<W.heap.size)) p.block=true:=fun p hp=>by simpa using hlt p hp
 refine ⟨ds,gs,before,[],pa,pv,hW,hres _ _ _,hargs _ hold,hvars _ hold,World.keptBut_mono (fun p hp=>⟨hp,?_⟩) (hb.frame (·∈before)),fun _=>?_⟩
 ·rw [hps,List.mem_append] at hp;exact Or.inr hp
 ·obtain ⟨_,_,_,_,_,hz,hn⟩:=hW;refine ⟨hok,_,_,([]++pa)++pv,⟨[]++pa,pv,trodAll_append (hargs _ (fun _ _=>rfl)) (hres _ _ _),hvars _ (fun _ _=>rfl),rfl,?_,?_⟩,?_⟩
  ·intro b off hp;have hin:MemPlace.cell b off∈before:=(by rw [hps];simpa using hp);rw [hb.frozen (hlt _ hin)];exact hz b off hin
  ·intro ha;have:=hn ha;rw [hps] at this;simpa using this
  ·intro p hp _;rw [hps];simpa using hp
end
theorem zq2 : ownKnob Tryz.prog.godebug=none:=by kernel_rfl
theorem zq3 : (Tryz.prog.globals[2]?).map (·.type)=some 254:=by kernel_rfl
theorem zq4 : Tryz.prog.cellsOf 142=1:=by kernel_rfl
theorem zq5 : Tryz.prog.cellsOf 254=20:=by kernel_rfl
theorem zq6 {W : World} (h : laidMetH Tryz.prog [("math/bits.deBruijn32tab", Rows.laid_math_bits_deBruijn32tab), ("math/bits.deBruijn64tab", Rows.laid_math_bits_deBruijn64tab), ("internal/strconv.uint64pow10", Rows.laid_internal_strconv_uint64pow10), ("strconv.ErrRange", Rows.laid_strconv_ErrRange), ("strconv.ErrSyntax", Rows.laid_strconv_ErrSyntax)] W) : Env W := by
 rw [MakeChecks.laidMetH_plain _ _ _ (by kernel_rfl)] at h;exact Lib.tabIs_of_head (k:=.u64) (zs:=Lib.pow10Tab) zaw zq3 Tryz.underlying254 Tryz.underlying142 zq4 zq5 h.tail.tail
def zq7 : List (String × DataW Unit) := [("math/bits.deBruijn32tab", Rows.laid_math_bits_deBruijn32tab), ("math/bits.deBruijn64tab", Rows.laid_math_bits_deBruijn64tab), ("internal/strconv.uint64pow10", Rows.laid_internal_strconv_uint64pow10), ("strconv.ErrRange", Rows.laid_strconv_ErrRange), ("strconv.ErrSyntax", Rows.laid_strconv_ErrSyntax)]
theorem zq8 (os:Os)(args:Array Value):((World.laidAll Tryz.prog os zq7).forCall (fun _ _=>0) ⟨#[],args,[]⟩).Shaped Tryz.prog:=World.shaped_of_ZipB (by kernel_rfl) (by kernel_rfl)
theorem zq9 (os:Os)(args:Array Value):laidMetH Tryz.prog zq7 ((World.laidAll Tryz.prog os zq7).forCall (fun _ _=>0) ⟨#[],args,[]⟩).memory:=by
 rw [MakeChecks.laidMetH_plain _ _ _ (by kernel_rfl)];exact laidMet_laidAll _ (by kernel_rfl) (by kernel_rfl)
theorem zqA : laidOutB Tryz.prog=true:=by kernel_rfl
section
variable {H : Type} {enc : TypeId × Value → H} {W W' : World} {sp : Nat → Bool}
theorem zqB : ∀ {ts:List TypeId}{vs:List Value}{ds:List (DataW H)}{ps:List MemPlace},(∀ t∈ts,Tryz.prog.readableRec t=true∧t<Tryz.prog.types.size) →
  DataW.TrodAll enc Tryz.prog W 0 (fun _=>true) true ts vs ds ps→(∀ x∈ps,W.sameAt W' x)→(∀ x∈ps,sp x.block=true)→DataW.TrodAll enc Tryz.prog W' 0 sp true ts vs ds ps
 | [],_,_,_,_,h,_,_=>by
  obtain ⟨rfl,rfl,rfl⟩:=trodAll_nil h;exact trodAll_mk0
 | t::ts,vs,ds,ps,hts,h,hs,hp=>by
  obtain ⟨v,vs',d,ds',p,p',rfl,rfl,rfl,h1,h2⟩:=trodAll_cons h;obtain ⟨hr,hw⟩:=hts t (List.mem_cons_self ..);exact trodAll_cons_mk (WideElems.Trod_stays zqA hr hw h1 (fun x hx=>hs x (List.mem_append_left _ hx)) (fun x hx=>hp x (List.mem_append_left _ hx)))
   (zqB (fun t ht=>hts t (List.mem_cons_of_mem _ ht)) h2 (fun x hx=>hs x (List.mem_append_right _ hx)) (fun x hx=>hp x (List.mem_append_right _ hx)))
end
theorem zqC {H:Type}{enc:TypeId × Value→H}{f:Func}{s:ChangeSpec}{W W':World}{args:Array Value}{ds:List (DataW H)}{before:List MemPlace}(hv:s.vars=[])(hts:∀ t∈f.params.toList,Tryz.prog.readableRec t=true∧t<Tryz.prog.types.size)
  (hres:f.resultTypes=#[4]) (hfn:s.fn H ds={ results:=[.lit (.bool true)],args:=ds })
  (hW:DataW.Whole enc Tryz.prog f.params.toList s.vars false W args.toList ds [] before) (hb:Below W.heap.size W W'):s.post enc Tryz.prog f false true false false W args (.bool true) W':=by
 have hW':=hW;obtain ⟨p,q,hA0,hV,rfl,_,_⟩:=hW;rw [hv] at hV;obtain ⟨_,rfl⟩:=trodVars_none hV;have hlt:∀ x∈p++[],x.block<W.heap.size:=fun x hx=>hW'.lt x hx;refine zq1 (pa:=p) (pv:=[]) hW' (fun _ _ _=>?_) (fun sp hsp=>?_) (fun _ _=>?_) rfl hb ?_
 ·rw [List.append_nil,hfn,hres];exact trodAll_mk1 (shut_bool Tryz.underlying4 _)
 ·rw [List.append_nil,hfn];exact zqB hts hA0 (fun x hx=>hb.same (hlt x (List.mem_append_left _ hx))) (fun x hx=>hsp x (List.mem_append_left _ hx))
 ·rw [List.append_nil,hfn,hv];rfl
 ·exact ok_one hres rfl (okWide_bool_mk Tryz.underlying4 _)
theorem zqD : Tryz.prog.cellsOf 4=1:=by kernel_rfl
theorem zqE : Tryz.prog.cellsOf 5=1:=by kernel_rfl
theorem zqF : Tryz.prog.cellsOf 22=1:=by kernel_rfl
theorem zqG : Tryz.prog.cellsOf 23=3:=by kernel_rfl
theorem zqH : Tryz.prog.cellsOf 24=24:=by kernel_rfl
theorem zqI : Tryz.prog.cellsOf 26=27:=by kernel_rfl
section
variable {H : Type} {enc : TypeId × Value → H} {w : World} {base : Nat} {spare : Nat → Bool} {held : Bool}
theorem zqJ {fuel:Nat}{c0 c1 c2:Value}{x:DataW H × List MemPlace}(h:DataW.trod enc Tryz.prog w base spare held fuel 23 [c0,c1,c2]=some x) :
  ∃ z:I3,c0=.int .i8 z.a∧c1=.int .i8 z.b∧c2=.int .i8 z.c∧z.ok:=by
 obtain ⟨y0,y1,y2,n,rfl,h0,h1,h2⟩:=trod_array3 Tryz.underlying23 zqF h;obtain ⟨a,ha,rfl,wa⟩:=DataW.trod_int Tryz.underlying22 h0;obtain ⟨b,hb,rfl,wb⟩:=DataW.trod_int Tryz.underlying22 h1;obtain ⟨c,hc,rfl,wc⟩:=DataW.trod_int Tryz.underlying22 h2;simp only [List.cons.injEq,and_true] at ha hb hc;have ba:=bounds_i8 wa;have bb:=bounds_i8 wb;have bc:=bounds_i8 wc;refine ⟨⟨a,b,c⟩,ha,hb,hc,fun i=>?_⟩;match i with
 | 0=>exact ba
 | 1=>exact bb
 | _+2=>exact bc
theorem zqK {n:Int}(h:(Lit.int .u8 n).wf=true):∃ k:Nat,n=k∧k<256:=by
 have:=zq0 h;exact ⟨n.toNat,by omega,by omega⟩
def zqL (z0 z1 z2 z3 z4 z5 z6 z7:I3):Nat→I3
 | 0=>z0
 | 1=>z1
 | 2=>z2
 | 3=>z3
 | 4=>z4
 | 5=>z5
 | 6=>z6
 | 7=>z7
 | _=>⟨0,0,0⟩
theorem zqM {r:Reach}{b0:Nat}{v:Value}{d:DataW H}{p:List MemPlace}(hv:Value.okWide Tryz.prog w r b0 26 v)(h:DataW.Trod enc Tryz.prog w base spare held 26 v d p) :
  ∃ a:Wl,v=a.v∧a.Ok:=by
 obtain ⟨cs,rfl,hsz⟩:=okWide_struct Tryz.underlying26 hv;rw [zqI] at hsz;obtain ⟨l⟩:=cs;match l,hsz with
 | [c0,c1,c2,c3,c4,c5,c6,c7,c8,c9,c10,c11,c12,c13,c14,c15,c16,c17,c18,c19,c20,c21,c22,c23,c24,c25,c26],_ =>
  obtain ⟨fuel,hf⟩:=h
  obtain ⟨y0,y1,y2,y3,k,hx,_,h0,h1,h2,h3⟩:=Go.Joins.trod_struct4 Tryz.underlying26 hf
  simp only [Value.cells,zqD,zqE,zqH,List.drop_zero,List.take_succ_cons,List.take_zero,List.drop_succ_cons] at h0 h1 h2 h3
  obtain ⟨b,hb,rfl⟩:=DataW.trod_bool Tryz.underlying4 h0
  obtain ⟨n,hn,rfl,wn⟩:=DataW.trod_int Tryz.underlying5 h1
  obtain ⟨m,hm,rfl,wm⟩:=DataW.trod_int Tryz.underlying5 h2
  simp only [List.cons.injEq,and_true] at hb hn hm
  obtain ⟨n',rfl,n1⟩:=zqK wn
  obtain ⟨m',rfl,m1⟩:=zqK wm
  obtain ⟨xs,j,_,_,_,hxl,hg⟩:=DataW.trod_array Tryz.underlying24 h3
  obtain ⟨q0,hq0⟩:∃ q,xs[0]?=some q:=⟨_,List.getElem?_eq_getElem (by omega)⟩
  have g0:=hg 0 (by omega)
  rw [hq0,zqG] at g0
  simp only [Nat.reduceMul,List.drop_zero,List.take_succ_cons,List.take_zero] at g0
  obtain ⟨z0,e0a,e0b,e0c,o0⟩:=zqJ g0
  obtain ⟨q1,hq1⟩:∃ q,xs[1]?=some q:=⟨_,List.getElem?_eq_getElem (by omega)⟩
  have g1:=hg 1 (by omega)
  rw [hq1,zqG] at g1
  simp only [Nat.reduceMul,List.drop_zero,List.take_succ_cons,List.take_zero,List.drop_succ_cons] at g1
  obtain ⟨z1,e1a,e1b,e1c,o1⟩:=zqJ g1
  obtain ⟨q2,hq2⟩:∃ q,xs[2]?=some q:=⟨_,List.getElem?_eq_getElem (by omega)⟩
  have g2:=hg 2 (by omega)
  rw [hq2,zqG] at g2
  simp only [Nat.reduceMul,List.drop_zero,List.take_succ_cons,List.take_zero,List.drop_succ_cons] at g2
  obtain ⟨z2,e2a,e2b,e2c,o2⟩:=zqJ g2
  obtain ⟨q3,hq3⟩:∃ q,xs[3]?=some q:=⟨_,List.getElem?_eq_getElem (by omega)⟩
  have g3:=hg 3 (by omega)
  rw [hq3,zqG] at g3
  simp only [Nat.reduceMul,List.drop_zero,List.take_succ_cons,List.take_zero,List.drop_succ_cons] at g3
  obtain ⟨z3,e3a,e3b,e3c,o3⟩:=zqJ g3
  obtain ⟨q4,hq4⟩:∃ q,xs[4]?=some q:=⟨_,List.getElem?_eq_getElem (by omega)⟩
  have g4:=hg 4 (by omega)
  rw [hq4,zqG] at g4
  simp only [Nat.reduceMul,List.drop_zero,List.take_succ_cons,List.take_zero,List.drop_succ_cons] at g4
  obtain ⟨z4,e4a,e4b,e4c,o4⟩:=zqJ g4
  obtain ⟨q5,hq5⟩:∃ q,xs[5]?=some q:=⟨_,List.getElem?_eq_getElem (by omega)⟩
  have g5:=hg 5 (by omega)
  rw [hq5,zqG] at g5
  simp only [Nat.reduceMul,List.drop_zero,List.take_succ_cons,List.take_zero,List.drop_succ_cons] at g5
  obtain ⟨z5,e5a,e5b,e5c,o5⟩:=zqJ g5
  obtain ⟨q6,hq6⟩:∃ q,xs[6]?=some q:=⟨_,List.getElem?_eq_getElem (by omega)⟩
  have g6:=hg 6 (by omega)
  rw [hq6,zqG] at g6
  simp only [Nat.reduceMul,List.drop_zero,List.take_succ_cons,List.take_zero,List.drop_succ_cons] at g6
  obtain ⟨z6,e6a,e6b,e6c,o6⟩:=zqJ g6
  obtain ⟨q7,hq7⟩:∃ q,xs[7]?=some q:=⟨_,List.getElem?_eq_getElem (by omega)⟩
  have g7:=hg 7 (by omega)
  rw [hq7,zqG] at g7
  simp only [Nat.reduceMul,List.drop_zero,List.take_succ_cons,List.take_zero,List.drop_succ_cons] at g7
  obtain ⟨z7,e7a,e7b,e7c,o7⟩:=zqJ g7
  refine ⟨⟨b,n',m',zqL z0 z1 z2 z3 z4 z5 z6 z7⟩,?_,n1,m1,fun i=>?_⟩
  ·rw [hb,hn,hm,e0a,e0b,e0c,e1a,e1b,e1c,e2a,e2b,e2c,e3a,e3b,e3c,e4a,e4b,e4c,e5a,e5b,e5c,e6a,e6b,e6c,e7a,e7b,e7c]
   rfl
  ·match i with
   | 0=>exact o0
   | 1=>exact o1
   | 2=>exact o2
   | 3=>exact o3
   | 4=>exact o4
   | 5=>exact o5
   | 6=>exact o6
   | 7=>exact o7
   | _+8=>exact fun k=>(match k with | 0=>(by decide:-128≤(0:Int)∧(0:Int)≤127) | 1=>(by decide:-128≤(0:Int)∧(0:Int)≤127) | _+2=>(by decide:-128≤(0:Int)∧(0:Int)≤127):-128≤(⟨0,0,0⟩:I3).at k∧(⟨0,0,0⟩:I3).at k≤127)
end
theorem zqN : (Tryz.prog.globals[1]?).map (·.type)=some 125:=by kernel_rfl
theorem zqO : Tryz.prog.globalNamed "strconv.ErrRange" = some 1 := by kernel_rfl
theorem zqP : "*" ++ "errors.errorString" = "*errors.errorString" := by decide
theorem zqQ (u : TypeId) (h : Tryz.prog.typeName? 3 u = some "*errors.errorString") : u = 258 :=
 typeName_ptr_named (nm := "errors.errorString") (by rw [zqP]; kernel_rfl) (by kernel_rfl) (by decide) u (by rw [zqP]; exact h)
theorem zqR {W : World} (h : laidMetH Tryz.prog [("math/bits.deBruijn32tab", Rows.laid_math_bits_deBruijn32tab), ("math/bits.deBruijn64tab", Rows.laid_math_bits_deBruijn64tab), ("internal/strconv.uint64pow10", Rows.laid_internal_strconv_uint64pow10), ("strconv.ErrRange", Rows.laid_strconv_ErrRange), ("strconv.ErrSyntax", Rows.laid_strconv_ErrSyntax)] W) : zgJ W := by
 rw [MakeChecks.laidMetH_plain _ _ _ (by kernel_rfl)] at h;obtain ⟨a0,s0,hv,_⟩:=laid_sentinel h.tail.tail.tail zqO zqN Tryz.underlying125 zqQ Tryz.underlying258 Tryz.underlying260 rfl rfl Tryz.underlying9 (by kernel_rfl) (by kernel_rfl);exact ⟨_,_,hv⟩
end
end Go.Proofs.YtoehmpbipbbffaaGreatDoor
