/- Walk: the law SubsetNext. A slice of ints that came in, read. -/
import Derived.Test.YtiameffonflhgaaGreatDoorPk40
import Derived.Test.YtiameffonflhgaaGreatDoorPk38
import Derived.Test.YtiameffonflhgaaGreatDoorPk37
import Derived.Test.YtiameffonflhgaaGreatDoorPk41
import Derived.Test.YtiameffonflhgaaGreatDoorPk00
import Derived.ChangeSlices
import Derived.WideShapes
import Derived.ChangeShapes
import Derived.DataReads
set_option maxRecDepth 100000
set_option maxHeartbeats 8000000
namespace Go.Proofs.YtiameffonflhgaaGreatDoor
section
open Go.RowKit Go.Lib Go.Shelf
attribute [local go_sem] Oper.semAt_some
theorem zsf : ∀ x y:List Int,zrF x y=decide (0<zrW x y)
 | [],[]=>rfl
 | [],_::_=>rfl
 | _::_,[]=>rfl
 | a::x,b::y=>by
  rw [zrF,zrW];rcases Int.lt_trichotomy a b with h | h | h
  ·rw [if_neg (by omega),if_pos h];simp;omega
  ·rw [if_pos h,if_neg (by omega),if_neg (by omega)];exact zsf x y
  ·rw [if_neg (by omega),if_neg (by omega),if_pos h];simp;omega
theorem zsg {W:World}{L:List (List Int)}{y:List Int}{e:Ending}(h:NxV W L y e):∃ (a:Option Addr)(l c:Nat)(b:Bool),e=.returned (.tuple #[.slice a l c,.bool b,.int .i64 0]) ∧
  ((b=true∧∃ x,L.find? (fun x=>zrF x y)=some x∧Sl W (.slice a l c) (zaq x)∧x.length=l)∨(b=false∧l=0∧L.find? (fun x=>zrF x y)=none)):=by
 have e9:(fun x=>zrF x y)=fun x=>decide (0<zrW x y):=funext fun x=>zsf x y;rw [e9];obtain ⟨u,h⟩:=h;rcases h with ⟨x,hf,hs,rfl⟩ | ⟨hf,rfl⟩
 ·obtain ⟨a,c,rfl,_⟩:=hs.parts;rw [zas] at *;exact ⟨a,_,c,true,rfl,.inl ⟨rfl,x,hf,hs,rfl⟩⟩
 ·exact ⟨none,0,0,false,rfl,.inr ⟨rfl,rfl,hf⟩⟩
theorem zsh (d:Dl)(vl:Value)(l:List Int)(w:World)(he:Env w)(hd:d.Ok)(hvl:Sl w vl (zaq l)) :
  Calls Tryz.prog 6 #[d.v,vl] w fun e w'=>e=.returned (.bool true)∧Ext w w':=by
 have hkn:=fun W (hE:Ext w W)=>zqk W (he.ext hE);have hmk:=fun W (hE:Ext w W)=>zqy d W (he.ext hE) hd;have hrl:=zq2 d w;have hun:=Tryz.underlying85;have hin:=zq3 d;obtain ⟨al,cl,rfl,hcl,_,_⟩:=hvl.parts;rw [zas] at *;have hE0:Ext w (w.alloc (.cells d.cs 85)):=(Ext.refl w).alloc _;have Hvl:=hid hvl;have Hkn:=hid hkn;have Hmk:=hid hmk;have Hrl:=hid hrl;have Hun:=hid hun;have Hin:=hid hin;have HE0:=hid hE0;clear hkn hmk hrl hun hin hE0;have He:=hid he;clear he hd hvl;have hv:d.v=.agg d.cs:=rfl;have Hv:=hid hv;rw [hv];clear hv;obtain ⟨L,hL⟩:∃ L,L=l.length:=⟨_,rfl⟩;rw [← hL] at Hvl ⊢;have HL:=hid hL;clear hL;rw [zqs];go_enter Tryz.func6,Tryz.ntmps6
 rw [← zqs];by_cases hL9:9<L
 ·have hLi:(9:Int)<(L:Int):=by omega
  go_wp2_with fail
  refine (Hkn.out _ HE0.out).mono ?_;rintro e w1 ⟨rfl,hx1⟩;have Hx1:=hid (HE0.out.trans hx1);clear hx1;go_wp2_with fail
  refine (Hkn.out _ Hx1.out).mono ?_;rintro e w2 ⟨rfl,hx2⟩;have Hx2:=hid (Hx1.out.trans hx2);clear hx2;go_wp2_with fail
  go_ret
  exact ⟨rfl,Hx2.out⟩
 ·have hLi:¬ (9:Int)<(L:Int):=by omega
  go_wp2_with fail
  refine (Hkn.out _ HE0.out).mono ?_;rintro e w1 ⟨rfl,hx1⟩;have hrl1:=Hrl.out w1 hx1;have Hx1:=hid (HE0.out.trans hx1);have Hrl1:=hid hrl1;clear hx1 hrl1;have Hmk1:=hid (Hmk.out w1 Hx1.out);go_wp2_with (refine wpList_load_mid rfl 85 (.tmp 2) rfl w.heap.size 0 rfl d.cs.toList _ Hrl1.out Hun.out rfl Hin.out ?_)
  rw [← Hv.out];refine Hmk1.out.mono ?_;rintro e w2 ⟨v2,rs,rfl,hq2,hc2,hx2⟩;have hw2:=zlI d.wl hc2;obtain ⟨ap,cp,an,cn,am,cm,rfl,hs2,hm2⟩:=hq2.let;have hpos:=hw2.wd.pos;have hfew:=hw2.few;have hlm:(rs.map Qw.x).length=rs.length:=List.length_map ..;rw [hlm] at hpos hfew;obtain ⟨hqe,hm1,hmn,hP1,hP6,hM0,hML⟩:=zq4 d hpos;have hsr:zpS d.wl.p (rs.map Qw.x) (d.m rs.length) d.P (d.M rs.length):=zpS.of hw2 hm1 (by rw [hlm];exact hmn) hP1 hP6 (by rw [hlm];exact hM0);have hso:=zli hM0;have hE3:=(Ext.refl w2).alloc (.cells #[.slice ap d.wl.p.length cp,.slice an rs.length cn,.int .i64 (d.m rs.length:Int),.int .i64 d.P,.slice am (d.M rs.length).length cm,.bool d.modes] 59);have hb3:=znK.new w2 (.slice ap d.wl.p.length cp) (.slice an rs.length cn) (d.m rs.length:Int) d.P (.slice am (d.M rs.length).length cm) d.modes;have hq3:=hq2.ext hE3;have hx3:=(Hx1.out.trans hx2).trans hE3;have hvl3:=hx3.sl Hvl.out;have hck:=zq0 _ d.wl.p rs _ _ _ _ _ (He.out.ext hx3) hq3 hw2.wd (by omega) hqe;have hal:=fun W (hx:Ext _ W)=>zrV _ d.wl.p rs (d.m rs.length) d.P (d.M rs.length) d.modes W (He.out.ext (hx3.trans hx)) (hq3.ext hx) hw2 hm1 hmn (by omega);have hnx:=fun W (hx:Ext _ W)=>zse _ (.slice al L cl) d.wl.p rs (d.m rs.length) d.P (d.M rs.length) d.modes l W (He.out.ext (hx3.trans hx)) (hq3.ext hx) (hx.sl hvl3) (by rw [← HL.out];omega) hsr;have heq:=zrv (P:=d.P) (b:=d.modes) (p:=d.wl.p) (N:=rs.map Qw.x) (n:=rs.length) (m:=d.m rs.length) hso.2 hso.1;rw [heq] at hal;have hl5:(srL d.P d.modes d.wl.p (rs.map Qw.x) (cho rs.length (d.m rs.length) (d.M rs.length) rs.length [] 0)).length≤5000:=by
   have h1:=zn1 d.P d.modes d.wl.p (rs.map Qw.x) (cho rs.length (d.m rs.length) (d.M rs.length) rs.length [] 0);have h2:=hsr.cs;rw [hlm] at h2;omega
  have hsh:∀ x∈srL d.P d.modes d.wl.p (rs.map Qw.x) (cho rs.length (d.m rs.length) (d.M rs.length) rs.length [] 0),x.length≤60:=fun x hx=>by
   have h2:=hsr.all x (by rw [hlm];exact (znz hx).1);exact h2.1
  obtain ⟨q0,q1,q2,q3,q4,q5⟩:=hb3.cs;have Hck:=hid hck;have Hb3:=hid hb3;have Hx3:=hid hx3;have Hvl3:=hid hvl3;have Hal:=hid hal;have Hnx:=hid hnx;have Hsh:=hid hsh;clear hck hq3 hb3 hx3 hvl3 hw2 hqe hML hq2 hs2 hm2 hE3 hx2 hc2 hM0 hlm Hmk1 Hkn Hmk Hrl Hrl1 Hun Hin hal hnx heq hsr hso hsh hm1 hmn hP1 hP6;generalize srL d.P d.modes d.wl.p (rs.map Qw.x) (cho rs.length (d.m rs.length) (d.M rs.length) rs.length [] 0)=SL at *;generalize (d.M rs.length).length=ML at *;generalize (d.m rs.length:Int)=mI at *;generalize rs.length=n at *;go_wp2_with fail
  generalize w2.alloc (.cells #[.slice ap d.wl.p.length cp,.slice an n cn,.int .i64 mI,.int .i64 d.P,.slice am ML cm,.bool d.modes] 59)=W3 at *;refine Hck.out.mono ?_;rintro e w4 ⟨rfl,hx4⟩;obtain ⟨q0,q1,q2,q3,q4,q5⟩:=(Hb3.out.ext hx4).cs;have Ha4:=hid (Hal.out w4 hx4);have Hx4:=hid hx4;clear hx4;go_wp2_with fail
  refine Ha4.out.mono ?_;rintro e w5 ⟨us5,fs,rfl,hf5,hl5b,hx5⟩;have hf5r:=hf5.r;obtain ⟨a5,c5,rfl⟩:=zec hf5.row;have hX5:=Hx4.out.trans hx5;obtain ⟨q0,q1,q2,q3,q4,q5⟩:=(Hb3.out.ext hX5).cs;have hfl:fs.length≤5000:=by rw [← hl5b,List.length_map] at hl5;exact hl5
  have Hn5:=hid (Hnx.out w5 hX5);have Hf5:=hid hf5r;have Hl5:=hid hl5b;have HX5:=hid hX5;clear hf5 hf5r hx5 hX5 hl5b hl5;go_wp2_with fail
  refine Hn5.out.mono ?_;rintro e w6 ⟨hnv,hx6⟩;obtain ⟨a6,l6,c6,fb,rfl,hres⟩:=zsg hnv;have Hres:=hid hres;have HX6:=hid (HX5.out.trans hx6);have Hf6:=hid (Hf5.out.ext hx6);clear hnv hres hx6 q0 q1 q2 q3 q4 q5 Hf5;go_wp2_with fail
  go_loopw [11] (fun v11 wr=>∃ i:Nat,v11=.int .i64 i∧i≤fs.length∧Hid (SL.find? (fun x=>zrF x l)=(SL.drop i).find? (fun x=>zrF x l))∧Ext w6 wr) (fun v11 _=>fs.length - (zam v11).toNat)
  case atStart=>exact ⟨0,rfl,Nat.zero_le _,hid (by rw [List.drop_zero]),Ext.refl _⟩
  case round =>
   obtain ⟨i,rfl,hi,HT,hE⟩:=hrel;have HE:=hid hE;by_cases hil:i<fs.length
   ·obtain ⟨f,hfi⟩:∃ f,fs[i]?=some f:=⟨_,List.getElem?_eq_getElem hil⟩;have hsi:SL[i]?=some f.l:=(by rw [← Hl5.out,List.getElem?_map,hfi];rfl);have hfd:=zsd (q:=fun x=>zrF x l) hsi;have hf60:=Hsh.out f.l (List.mem_of_getElem? hsi);obtain ⟨b1,o1,a7,c7,rfl,hc1,hs1⟩:=(Hf6.out.ext hE).at' hfi;have hbh:=zrI _ _ f.l l wr hs1 ((HX6.out.trans hE).sl Hvl3.out) (by omega) (by rw [← HL.out];omega);have hi0:(0:Int)≤(i:Int):=(by omega);have hi1:(i:Int)<(fs.length:Int):=(by omega);have hsm:=fun W (x:List Int)(hx:Ext wr W)(h1:Sl W (.slice a6 l6 c6) (zaq x))(h2:x.length≤1000)=>zqe (.slice a6 l6 c6) (.slice a7 f.l.length c7) x f.l W h1 (hx.sl hs1) h2 (by omega);have Hc1:=hid hc1;obtain ⟨B,hB⟩:∃ B,B=zrF f.l l:=⟨_,rfl⟩;rw [← hB] at hbh hfd;have Hbh:=hid hbh;have Hfd:=hid hfd;have Hs1:=hid hs1;have Hsm:=hid hsm;clear hbh hfd hE hs1 hfi hsi hB hsm
    cases B with
    | true =>
     have hfo:SL.find? (fun x=>zrF x l)=some f.l:=by rw [HT.out,Hfd.out,if_pos rfl]
     rcases Hres.out with ⟨rfl,x,hx1,hx2,hx3⟩ | ⟨_,_,hx1⟩
     ·rw [hfo] at hx1
      have hxe:=Option.some.inj hx1
      subst hxe
      have hs2:=fun W (hx:Ext wr W)=>Hsm.out W f.l hx ((HE.out.trans hx).sl hx2) (by omega)
      rw [decide_eq_true rfl] at hs2
      have Hs2:=hid hs2
      clear hs2 hx1 hx2 hx3 hfo
      go_wp2_with fail
      refine Hbh.out.mono ?_
      rintro e w7 ⟨rfl,hx7⟩
      have hc7:=hx7.cell Hc1.out
      have Hx7:=hid hx7
      clear hx7 hc1
      go_wp2_with fail
      refine (Hs2.out _ Hx7.out).mono ?_
      rintro e w8 ⟨rfl,hx8⟩
      have HX8:=hid ((Hx3.out.trans HX6.out).trans ((HE.out.trans Hx7.out).trans hx8))
      clear hx8 hc7
      go_wp2_with fail
      go_ret
      exact ⟨rfl,HX8.out⟩
     ·rw [hfo] at hx1
      cases hx1
    | false =>
     have HN:=hid (show SL.find? (fun x=>zrF x l)=(SL.drop (i+1)).find? (fun x=>zrF x l) by rw [HT.out,Hfd.out,if_neg (by simp)])
     go_wp2_with fail
     refine Hbh.out.mono ?_
     rintro e w7 ⟨rfl,hx7⟩
     have HE7:=hid (HE.out.trans hx7)
     clear hx7 hc1
     go_wp2_with fail
     go_roundw
     case rel=>exact ⟨i+1,by go_num,by omega,HN,HE7.out⟩
     case measure=>simp [zam];omega
   ·obtain rfl:i=fs.length:=by omega
    have hfo:SL.find? (fun x=>zrF x l)=none:=by
     rw [HT.out,List.drop_eq_nil_of_le (by rw [← Hl5.out,List.length_map];omega)];rfl
    have HXE:=hid ((Hx3.out.trans HX6.out).trans hE);clear hE;rcases Hres.out with ⟨_,x,hx1,_,_⟩ | ⟨rfl,rfl,_⟩
    ·rw [hfo] at hx1
     cases hx1
    ·clear hfo;go_wp2_with fail
     go_ret
     exact ⟨rfl,HXE.out⟩
end
section
open Go.ChangeShapes Go.WideShapes Go.RowKit Go.Lib
theorem zsi {H:Type}{enc:TypeId × Value→H}{r:Reach}{b0:Nat}{w:World}{base:Nat}{spare:Nat→Bool}{held:Bool}{t:TypeId}{v:Value}{d:DataW H}{p:List MemPlace}(ht:Tryz.prog.underlying t=some (.slice 3))(hv:Value.okWide Tryz.prog w r b0 t v)(h:DataW.Trod enc Tryz.prog w base spare held t v d p) :
  ∃ xs:List Int,Sl w v (zaq xs)∧∀ z∈xs,(Lit.int .i64 z).wf=true:=by
 obtain ⟨a,len,cap,rfl⟩:=okWide_slice ht hv;obtain ⟨fuel,hf⟩:=h;rcases open_ints ht Tryz.underlying3 (by kernel_rfl) hf with ⟨h1,_⟩ | ⟨a',len',cap',zs,h1,_,hl,hm,hz,_,hc,hw⟩
 ·simp only [Value.cells,List.cons.injEq,Value.slice.injEq,and_true] at h1;obtain ⟨rfl,rfl,rfl⟩:=h1;exact ⟨[],.inl ⟨none,0,rfl,Nat.zero_le _,rfl⟩,fun z h=>by cases h⟩
 ·simp only [Value.cells,List.cons.injEq,Value.slice.injEq,and_true] at h1;obtain ⟨rfl,rfl,rfl⟩:=h1;have hzl:len≤zs.length:=by rw [hz];split <;> omega
  refine ⟨zs.take len,?_,fun z h=>hw z (List.mem_of_mem_take h)⟩;rcases Nat.eq_zero_or_pos len with h0 | h0
  ·subst h0;exact .inl ⟨_,cap,rfl,hm,by simp [zaq]⟩
  ·have h00:=hc 0 (by omega);obtain ⟨b,off,sp⟩:=a';have hs:=World.cell?_spot h00;have hs':sp=none:=by
    cases sp with
    | none=>rfl
    | some s=>simp [Addr.add] at hs
   subst hs';refine .inr ⟨b,off,cap,?_,?_,hm,fun i u hu=>?_⟩
   ·rw [zas,List.length_take,Nat.min_eq_left hzl]
   ·rw [zas,List.length_take,Nat.min_eq_left hzl];exact hl
   ·have hi:i<(zs.take len).length:=by
     have:=(List.getElem?_eq_some_iff.1 hu).1;rwa [zas] at this
    rw [zaw hi] at hu;have hi2:i<len:=(by rw [List.length_take] at hi;omega);have:=hc i (by omega);have e:zau (zs.take len) i=zs.getD i 0:=by
     unfold zau;rw [List.getD_eq_getElem?_getD,List.getElem?_take_of_lt hi2,List.getD_eq_getElem?_getD]
    rw [← e,Option.some.inj hu] at this;rwa [show ((⟨b,off,none⟩:Addr).add i)=⟨b,off+i,none⟩ by unfold Addr.add;split <;> simp_all] at this
end
end Go.Proofs.YtiameffonflhgaaGreatDoor
