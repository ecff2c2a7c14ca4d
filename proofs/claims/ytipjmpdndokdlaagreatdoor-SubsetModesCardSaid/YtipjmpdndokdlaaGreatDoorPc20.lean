/- Walk: dividing fractions (by a positive one). Walk: size.ratio where the second size is the octave. Walks: floor, Floor, Remainder by the octave. -/
import Derived.Test.YtipjmpdndokdlaaGreatDoorPc08
import Derived.Deep.RegionHeld3
import Derived.Test.YtipjmpdndokdlaaGreatDoorPc19
set_option maxRecDepth 100000
set_option maxHeartbeats 4000000
namespace Go.Proofs.YtipjmpdndokdlaaGreatDoor
open Go.RowKit Go.Lib
theorem rat_ne {n:Nat}(h:0<n):((n:Nat):Rat) ≠ 0:=by
 intro e
 have:=Rat.natCast_inj.1 (show ((n:Nat):Rat)=((0:Nat):Rat) from e)
 omega
theorem rat_nd (a:Rat):a * (a.den:Rat)=(a.num:Rat):=by
 have h:=Rat.mkRat_eq_div a.num a.den
 rw [Rat.mkRat_self] at h
 have:=Rat.div_mul_cancel (a:=(a.num:Rat)) (rat_ne a.den_pos)
 rw [← h] at this
 exact this
theorem div_mk (a b:Rat)(n:Nat)(hb:b.num=(n:Int))(hn:0<n):mkRat (a.num * (b.den:Int)) (a.den * n)=a / b:=by
 rw [Rat.mkRat_eq_div]
 have e1:=rat_nd a
 have e2:=rat_nd b
 rw [hb,Rat.intCast_natCast] at e2
 have h1:=rat_ne a.den_pos
 have h2:=rat_ne b.den_pos
 have h3:=rat_ne hn
 have hb0:b ≠ 0:=by
  intro h
  rw [h,Rat.zero_mul] at e2
  exact h3 e2.symm
 rw [Rat.intCast_mul,Rat.natCast_mul,Rat.intCast_natCast,← e1,← e2]
 grind
theorem frDiv_c (a b:Rat)(w:World)(he:Env w)(ha:Ft 100000 a)(hb:Ft 100000 b)(hp:0<b.num) :
  Calls Tryz.prog 237 #[Rv a,Rv b] w fun e w'=>e=.returned (.tuple #[Rv (a / b),.int .i64 0])∧Ext w w':=by
 obtain ⟨n,hn⟩:∃ n:Nat,b.num=(n:Int):=⟨b.num.toNat,by omega⟩
 have hn0:0<n:=by omega
 have fa1:=ha.num (by omega);have fa2:=ha.den (by omega);have fb1:=hb.num (by omega);have fb2:=hb.den (by omega)
 have hda:nDigits ((a.den:Int)).natAbs≤100000:=by rw [Int.natAbs_natCast];exact ha.2
 have hdb:nDigits ((b.den:Int)).natAbs≤100000:=by rw [Int.natAbs_natCast];exact hb.2
 have g1:nDigits (a.num * (b.den:Int)).natAbs≤200000:=nd_mul ha.1 hdb
 have g3:nDigits ((a.den:Int) * b.num).natAbs≤200000:=nd_mul hda hb.1
 have hk0:=kp2_new w (.string (I a.num)) (.string (I (a.den:Int))) (.string (I b.num)) (.string (I (b.den:Int)))
 have hsg:=fun W=>frSign_c b W fb1
 have hc1:cmpI b.num 0=1:=by unfold cmpI;(repeat' split) <;> omega
 rw [hc1] at hsg
 have hm1:=fun W (h:Ext w W)=>mul_c a.num (b.den:Int) W (he.ext h) fa1 fb2
 have hm3:=fun W (h:Ext w W)=>mul_c (a.den:Int) b.num W (he.ext h) fa2 fb1
 have hlo:=fun W (h:Ext w W)=>frlow_c (a.num * (b.den:Int)) (a.den * n) W (he.ext h) (by unfold Fit;omega) (by rw [Int.natCast_mul,← hn];unfold Fit;omega) (Nat.mul_pos a.den_pos hn0)
 rw [div_mk a b n hn hn0,Int.natCast_mul,← hn] at hlo
 unfold Rv at hsg hlo ⊢
 generalize I (a.num * (b.den:Int))=sm at *
 generalize I ((a.den:Int) * b.num)=so at *
 generalize I (a / b).num=st at *
 generalize I (((a / b).den:Nat):Int)=su at *
 generalize I a.num=sa at *
 generalize I b.num=sb at *
 generalize I (a.den:Int)=sc at *
 generalize I (b.den:Int)=sd at *
 clear g1 g3 fa1 fa2 fb1 fb2 hda hdb he ha hb hn hn0 hp hc1
 have Hk0:=hid hk0;have Hsg:=hid hsg;have Hm1:=hid hm1;have Hm3:=hid hm3;have Hlo:=hid hlo;clear hk0 hsg hm1 hm3 hlo
 go_enter Tryz.func237,Tryz.ntmps237
 go_wp2_with fail
 generalize hV:((w.alloc (.cells #[.string sa,.string sc] 27)).alloc (.cells #[.string sb,.string sd] 27)).alloc (.cells #[.string ⟨#[]⟩,.string ⟨#[]⟩] 27)=V at *
 refine (Hsg.out _).mono ?_
 rintro e W2 ⟨rfl,hxa⟩
 have hK:=Hk0.out.ext hxa
 have HK:=hid hK;clear hK
 clear hxa
 go_wp2_with fail
 go_region_held3 (fun w'=>Kp2 w w' w.heap.size (.string sa) (.string sc) (w.heap.size+1) (.string sb) (.string sd) (w.heap.size+1+1)∧w'.cell? ⟨w.heap.size,0,none⟩=some (.string sa)∧w'.cell? ⟨w.heap.size,1,none⟩=some (.string sc)∧w'.cell? ⟨w.heap.size+1,0,none⟩=some (.string sb)∧w'.cell? ⟨w.heap.size+1,1,none⟩=some (.string sd)∧w'.cell? ⟨w.heap.size+1+1,0,none⟩=some (valAt w' (w.heap.size+1+1) 0)∧w'.cell? ⟨w.heap.size+1+1,1,none⟩=some (valAt w' (w.heap.size+1+1) 1)∧w'.frozen? ⟨w.heap.size+1+1,0,none⟩=false∧w'.frozen? ⟨w.heap.size+1+1,1,none⟩=false)
  (first | exact (Kp2.ext HK.out ((Ext.refl _).drew)).all | exact (Kp2.ext (And.left (by assumption)) hxa).all | exact (Kp2.put (And.left (by assumption)) (by omega) (by omega) (by omega) _ _).all)
  (first
   | (go_at_call_of 102 (Value.string sa);refine (Hm1.out _ (And.left (And.left (by assumption)))).mono ?_;rintro e9 V4 ⟨rfl,hxa⟩;have hkk:=Kp2.ext (And.left (by assumption)) hxa)
   | (go_at_call_of 102 (Value.string sc);refine (Hm3.out _ (And.left (And.left (by assumption)))).mono ?_;rintro e9 V4 ⟨rfl,hxa⟩;have hkk:=Kp2.ext (And.left (by assumption)) hxa)
   | (go_at_call 106;refine (Hlo.out _ (And.left (And.left (by assumption)))).mono ?_;rintro e9 V4 ⟨rfl,hxa⟩;have hkk:=Kp2.ext (And.left (by assumption)) hxa))
 all_goals
  obtain ⟨hb,hfx⟩:=(hkk).fin (by omega) (.string st) (.string su)
  have Hfx:=hid hfx;clear hfx hxa hkk
  generalize (V4.setCell ⟨w.heap.size+1+1,0,none⟩ (.string st)).setCell ⟨w.heap.size+1+1,1,none⟩ (.string su)=W5 at *
  have hd0:=hb.c0
  have hd1:=hb.c1
  go_wp2_with fail
  exact bodyPost_ret (v:=.tuple #[.agg #[.string st,.string su],.int .i64 0]) (by simp [results,Tryz.results237,go_sem,hd0,hd1]) rfl ⟨rfl,Hfx.out⟩
end Go.Proofs.YtipjmpdndokdlaaGreatDoor

namespace Go.Proofs.YtipjmpdndokdlaaGreatDoor
open Go.RowKit Go.Lib
theorem Kp2.allA {w w':World}{b1 b2 c:Nat}{u1 v1 u2 v2 x y:Value}{p q:Addr}(h:Kp2 w w' b1 u1 v1 b2 u2 v2 c)(hp:w.cell? p=some x)(hq:w.cell? q=some y) :
  Kp2 w w' b1 u1 v1 b2 u2 v2 c∧w'.cell? p=some x∧w'.cell? q=some y∧w'.cell? ⟨b1,0,none⟩=some u1∧w'.cell? ⟨b1,1,none⟩=some v1∧w'.cell? ⟨b2,0,none⟩=some u2∧w'.cell? ⟨b2,1,none⟩=some v2∧w'.cell? ⟨c,0,none⟩=some (valAt w' c 0)∧w'.cell? ⟨c,1,none⟩=some (valAt w' c 1)∧w'.frozen? ⟨c,0,none⟩=false∧w'.frozen? ⟨c,1,none⟩=false :=
 ⟨h,h.1.cell hp,h.1.cell hq,h.2.1.c0,h.2.1.c1,h.2.2.1.c0,h.2.2.1.c1,h.res.c0,h.res.c1,h.res.fz 0,h.res.fz 1⟩
/-- The octave's coefficients. -/
def ov (n : Nat) : List Rat:=1::List.replicate n 0
theorem ov_at {n i:Nat}{r:Rat}(h:(ov n)[i]?=some r):(i=0∧r=1)∨(0<i∧r=0):=by
 unfold ov at h
 cases i with
 | zero=>left;simp at h;exact ⟨rfl,h.symm⟩
 | succ i=>right;rw [List.getElem?_cons_succ,List.getElem?_replicate] at h;split at h <;> simp at h;exact ⟨by omega,h.symm⟩
theorem ratio_c (va vb:Value)(a0:Rat)(tl:List Rat)(w:World)(he:Env w)(ha:Rd w va (a0::tl))(hb:Rd w vb (ov tl.length))(hn:tl.length≤99)(hf:∀ q∈a0::tl,Ft 1000 q) :
  Calls Tryz.prog 204 #[va,vb] w fun e w'=>e=.returned (.tuple #[Rv a0,.bool (tl.all (· == 0))])∧Ext w w':=by
 have hnum:=fun W (h:Ext w W)=>number_c 0 W (he.ext h) (by omega) (by omega)
 obtain ⟨aa,ca,rfl,_,_,hca⟩:=ha.parts
 obtain ⟨ab,cb,rfl,_,_,hcb⟩:=hb.parts
 have hbl:(ov tl.length).length=tl.length+1:=by unfold ov;simp
 rw [hbl]
 have hal:(a0::tl).length=tl.length+1:=by simp
 rw [hal]
 have hdv:=fun (x y:Rat) W (h:Ext w W)(hx:Ft 1000 x)(hy:Ft 1000 y)(hp:0<y.num)=>frDiv_c x y W (he.ext h) (hx.mono (by omega)) (hy.mono (by omega)) hp
 have hmu:=fun (x y:Rat) W (h:Ext w W)(hx:Ft 1000 x)(hy:Ft 1000 y)=>frMul_c x y W (he.ext h) (hx.mono (by omega)) (hy.mono (by omega))
 generalize hn1:tl.length+1=n at hbl hal ⊢
 have hnb:n≤100:=by omega
 clear ha hb
 have b4:=Box2.new w (.string ⟨#[]⟩) (.string ⟨#[]⟩)
 have hE0:Ext w (w.alloc (.cells #[.string ⟨#[]⟩,.string ⟨#[]⟩] 27)):=(Ext.refl w).alloc _
 rw [Rv_int] at hnum
 have e0:I 0=⟨#[48]⟩:=by kernel_rfl
 have e1:I 1=⟨#[49]⟩:=by kernel_rfl
 rw [e0] at hnum
 have Hnum:=hid hnum;have Hca:=hid hca;have Hcb:=hid hcb;have Hdv:=hid hdv;have Hmu:=hid hmu;have B4:=hid b4;have HE0:=hid hE0;have Hf:=hid hf;have Hbl:=hid hbl;have Hal:=hid hal;have Hn1:=hid hn1;have Hn:=hid hn;clear hnum hca hcb hdv hmu b4 hE0 hf hbl hal hn1 hn
 go_enter Tryz.func204,Tryz.ntmps204
 go_wp2_with fail
 refine (Hnum.out _ HE0.out).mono ?_
 rintro e w1 ⟨rfl,hx1⟩
 have hh:Box2 w1 w.heap.size (.string ⟨#[]⟩) (.string ⟨#[]⟩):=B4.out.ext hx1
 have hlt:=hh.lt
 have b6:Box2 (w1.alloc (.cells #[.string ⟨#[48]⟩,.string ⟨#[49]⟩] 27)) w1.heap.size (.string ⟨#[48]⟩) (.string ⟨#[49]⟩):=Box2.new _ _ _
 have hE1:Ext w (w1.alloc (.cells #[.string ⟨#[48]⟩,.string ⟨#[49]⟩] 27)):=(HE0.out.trans hx1).alloc _
 have hh1:Box2 (w1.alloc (.cells #[.string ⟨#[48]⟩,.string ⟨#[49]⟩] 27)) w.heap.size (.string ⟨#[]⟩) (.string ⟨#[]⟩):=hh.ext ((Ext.refl w1).alloc _)
 clear hh hx1
 have B6:=hid b6;have HE1:=hid hE1;have Hh1:=hid hh1;clear b6 hE1 hh1
 go_wp2_with fail
 go_loopw [7,8,14] (fun v7 v8 v14 wr=>∃ i:Nat,v14=.int .i64 i∧i≤n∧Box2 wr w1.heap.size (.string (I (if i=0 then (0:Rat) else a0).num)) (.string (I (((if i=0 then (0:Rat) else a0).den:Nat):Int)))∧Box2 wr w.heap.size (.string ⟨#[]⟩) (.string ⟨#[]⟩)∧Ext w wr) (fun _ _ v14 _=>n - (intOf v14).toNat)
 case atStart=>exact ⟨0,rfl,Nat.zero_le _,by rw [if_pos rfl];show Box2 _ _ (.string (I 0)) (.string (I 1));rw [e0,e1];exact B6.out,Hh1.out,HE1.out⟩
 case round =>
  obtain ⟨i,rfl,hi,hb6,hh,hE⟩:=hrel
  by_cases hin:i<n
  ·obtain ⟨r,hr⟩:∃ r,(ov tl.length)[i]?=some r:=⟨_,List.getElem?_eq_getElem (by rw [Hbl.out];exact hin)⟩
   obtain ⟨q,hq⟩:∃ q,(a0::tl)[i]?=some q:=⟨_,List.getElem?_eq_getElem (by rw [Hal.out];exact hin)⟩
   obtain ⟨bb,ob,rfl,hx0,hx1⟩:=Hcb.out i r hr
   obtain ⟨ba,oa,rfl,hy0,hy1⟩:=Hca.out i q hq
   have hor:=ov_at hr
   have hx0':=hE.cell hx0
   have hx1':=hE.cell hx1
   have hi0:(0:Int)≤(i:Int):=by omega
   have hi1:(i:Int)<(n:Int):=by omega
   have hb8:Box2 (wr.alloc (.cells #[.string (I r.num),.string (I (r.den:Int))] 27)) wr.heap.size (.string (I r.num)) (.string (I (r.den:Int))):=Box2.new _ _ _
   have hE2:Ext w (wr.alloc (.cells #[.string (I r.num),.string (I (r.den:Int))] 27)):=hE.alloc _
   have hb62:=hb6.ext ((Ext.refl wr).alloc (.cells #[.string (I r.num),.string (I (r.den:Int))] 27))
   have hh2:=hh.ext ((Ext.refl wr).alloc (.cells #[.string (I r.num),.string (I (r.den:Int))] 27))
   have hl6:=hb6.lt
   have hlh:=hh.lt
   have hk:Kp2 w (wr.alloc (.cells #[.string (I r.num),.string (I (r.den:Int))] 27)) w.heap.size (.string ⟨#[]⟩) (.string ⟨#[]⟩) wr.heap.size (.string (I r.num)) (.string (I (r.den:Int))) w1.heap.size:=⟨hE2,hh2,hb8,_,_,hb62⟩
   rcases hor with ⟨h0,h1⟩ | ⟨h0,h1⟩
   ·subst h1
    obtain rfl:a0=q:=by rw [h0] at hq;simpa using hq
    have hd:=fun W (h:Ext w W)=>Hdv.out a0 1 W h (Hf.out a0 (List.mem_cons_self ..)) (ft_one.mono (by omega)) (by decide)
    rw [show a0 / 1=a0 by rw [Rat.div_def];grind] at hd
    unfold Rv at hd
    rw [show I (1:Rat).num=⟨#[49]⟩ from e1] at *
    rw [show I (((1:Rat).den:Nat):Int)=⟨#[49]⟩ from e1] at *
    generalize hs1:I a0.num=s1 at *
    generalize hs2:I (a0.den:Int)=s2 at *
    clear hb6 hh hE2 hb62 hh2 hx0 hx1 hr hq
    have Hd:=hid hd;have Hk:=hid hk;have Hb8:=hid hb8;have HE:=hid hE;have Hs1:=hid hs1;have Hs2:=hid hs2;have H0:=hid h0;clear hd hk hb8 hE hs1 hs2 h0
    go_wp2_with fail
    generalize hV:wr.alloc (.cells #[.string ⟨#[49]⟩,.string ⟨#[49]⟩] 27)=V at *
    have hy00:=hy0;have hy11:=hy1
    have Hy00:=hid hy00;have Hy11:=hid hy11;clear hy00 hy11
    go_region_held3 (fun w'=>Kp2 w w' w.heap.size (.string ⟨#[]⟩) (.string ⟨#[]⟩) wr.heap.size (.string ⟨#[49]⟩) (.string ⟨#[49]⟩) w1.heap.size∧w'.cell? ⟨ba,oa+i * 2,none⟩=some (.string s1)∧w'.cell? ⟨ba,oa+i * 2+1,none⟩=some (.string s2)∧w'.cell? ⟨w.heap.size,0,none⟩=some (.string ⟨#[]⟩)∧w'.cell? ⟨w.heap.size,1,none⟩=some (.string ⟨#[]⟩)∧w'.cell? ⟨wr.heap.size,0,none⟩=some (.string ⟨#[49]⟩)∧w'.cell? ⟨wr.heap.size,1,none⟩=some (.string ⟨#[49]⟩)∧w'.cell? ⟨w1.heap.size,0,none⟩=some (valAt w' w1.heap.size 0)∧w'.cell? ⟨w1.heap.size,1,none⟩=some (valAt w' w1.heap.size 1)∧w'.frozen? ⟨w1.heap.size,0,none⟩=false∧w'.frozen? ⟨w1.heap.size,1,none⟩=false)
     (first | exact (Kp2.ext Hk.out ((Ext.refl _).drew)).allA Hy00.out Hy11.out | exact (Kp2.ext (And.left (by assumption)) hxa).allA Hy00.out Hy11.out | exact (Kp2.put (And.left (by assumption)) (by omega) (by omega) (by omega) _ _).allA Hy00.out Hy11.out)
     (first
      | (go_at_call 237;refine (Hd.out _ (And.left (And.left (by assumption)))).mono ?_;rintro e9 V4 ⟨rfl,hxa⟩;have hkk:=Kp2.ext (And.left (by assumption)) hxa))
    all_goals
     have hpu:=hkk.put (by omega) (by omega) (by omega) (.string s1) (.string s2)
     obtain ⟨hb,hfx⟩:=(hkk).fin (by omega) (.string s1) (.string s2)
     clear hxa hkk
     generalize (V4.setCell ⟨w1.heap.size,0,none⟩ (.string s1)).setCell ⟨w1.heap.size,1,none⟩ (.string s2)=W5 at *
     have Hb:=hid hb;have Hfx:=hid hfx;have Hpu:=hid hpu;clear hb hfx hpu
     go_wp2_with fail
     go_roundw
     case rel=>exact ⟨i+1,by go_num,by omega,by rw [if_neg (by omega),Hs1.out,Hs2.out];exact Hb.out,Hpu.out.2.1,Hfx.out⟩
     case measure=>simp [intOf];omega
   ·subst h1
    rw [show I (0:Rat).num=⟨#[48]⟩ from e0] at *
    rw [show I (((0:Rat).den:Nat):Int)=⟨#[49]⟩ from e1] at *
    have hi1':(if i=0 then (0:Rat) else a0)=(if i+1=0 then (0:Rat) else a0):=by rw [if_neg (by omega),if_neg (by omega)]
    rw [hi1'] at hb62
    clear hb6 hh hx0 hx1 hr hq hy0 hy1 hi1'
    have Hk:=hid hk;have Hb8:=hid hb8;have HE:=hid hE;have HE2:=hid hE2;have Hb62:=hid hb62;have Hh2:=hid hh2;clear hk hb8 hE hE2 hb62 hh2
    go_wp2_with fail
    go_roundw
    case rel=>exact ⟨i+1,by go_num,by omega,Hb62.out,Hh2.out,HE2.out⟩
    case measure=>simp [intOf];omega
  ·obtain rfl:n=i:=by omega
   rw [if_neg (by have:=Hn1.out;omega)] at hb6
   have hall:∀ k q,k<0→(a0::tl)[k]?=some q→k=0∨q=0:=fun k q h _=>by omega
   obtain ⟨wa,hwa⟩:∃ wa,wa=wr:=⟨_,rfl⟩
   subst hwa
   have Hb6:=hid hb6;have Hh:=hid hh;have HE:=hid hE;have Hall:=hid hall;clear hb6 hh hE hall
   go_wp2_with fail
   go_loopw [9,10,34] (fun v9 v10 v34 wr=>∃ j:Nat,v34=.int .i64 j∧j≤n∧(∀ k q,k<j→(a0::tl)[k]?=some q→k=0∨q=0)∧Box2 wr w1.heap.size (.string (I a0.num)) (.string (I (a0.den:Int)))∧Res wr w.heap.size∧Ext w wr) (fun _ _ v34 _=>n - (intOf v34).toNat)
   case atStart=>exact ⟨0,rfl,Nat.zero_le _,Hall.out,Hb6.out,⟨_,_,Hh.out⟩,HE.out⟩
   case round =>
    clear Hb6 Hh HE Hall
    obtain ⟨j,rfl,hj,hall,hb6,hh,hE⟩:=hrel
    by_cases hjn:j<n
    ·obtain ⟨r,hr⟩:∃ r,(ov tl.length)[j]?=some r:=⟨_,List.getElem?_eq_getElem (by rw [Hbl.out];exact hjn)⟩
     obtain ⟨q,hq⟩:∃ q,(a0::tl)[j]?=some q:=⟨_,List.getElem?_eq_getElem (by rw [Hal.out];exact hjn)⟩
     obtain ⟨bb,ob,rfl,hx0,hx1⟩:=Hcb.out j r hr
     obtain ⟨ba,oa,rfl,hy0,hy1⟩:=Hca.out j q hq
     have hor:=ov_at hr
     have hx0':=hE.cell hx0
     have hx1':=hE.cell hx1
     have hj0:(0:Int)≤(j:Int):=by omega
     have hj1:(j:Int)<(n:Int):=by omega
     have hb8:Box2 (wr.alloc (.cells #[.string (I r.num),.string (I (r.den:Int))] 27)) wr.heap.size (.string (I r.num)) (.string (I (r.den:Int))):=Box2.new _ _ _
     have hE2:Ext w (wr.alloc (.cells #[.string (I r.num),.string (I (r.den:Int))] 27)):=hE.alloc _
     have hb62:=hb6.ext ((Ext.refl wr).alloc (.cells #[.string (I r.num),.string (I (r.den:Int))] 27))
     have hh2:=hh.ext ((Ext.refl wr).alloc (.cells #[.string (I r.num),.string (I (r.den:Int))] 27))
     have hl6:=hb6.lt
     have hlh:w.heap.size<wr.heap.size:=by obtain ⟨_,_,h⟩:=hh;exact h.lt
     have hk:Kp2 w (wr.alloc (.cells #[.string (I r.num),.string (I (r.den:Int))] 27)) w1.heap.size (.string (I a0.num)) (.string (I (a0.den:Int))) wr.heap.size (.string (I r.num)) (.string (I (r.den:Int))) w.heap.size:=⟨hE2,hb62,hb8,hh2⟩
     have hrf:Ft 1000 r:=by
      rcases hor with ⟨_,rfl⟩ | ⟨_,rfl⟩
      ·exact ft_one.mono (by omega)
      ·exact ft_zero.mono (by omega)
     have hm:=fun W (h:Ext w W)=>Hmu.out a0 r W h (Hf.out a0 (List.mem_cons_self ..)) hrf
     clear hb6 hh hE2 hb62 hh2 hx0 hx1 hrf
     by_cases hqe:j=0∨q=0
     ·have hnx:∀ k q,k<j+1→(a0::tl)[k]?=some q→k=0∨q=0:=fun k q' hk h=>by
       rcases Nat.lt_or_ge k j with g | g
       ·exact hall k q' g h
       ·obtain rfl:k=j:=by omega
        rw [hq] at h
        obtain rfl:=Option.some.inj h
        exact hqe
      have hmq:a0 * r=q:=by
       rcases hor with ⟨h0,rfl⟩ | ⟨h0,rfl⟩
       ·rw [h0] at hq
        have:a0=q:=by simpa using hq
        rw [← this,Rat.mul_one]
       ·rcases hqe with h | h
        ·omega
        ·rw [h,Rat.mul_zero]
      rw [hmq] at hm
      unfold Rv at hm
      generalize I q.num=s3 at *
      generalize I (q.den:Int)=s4 at *
      generalize I a0.num=s1 at *
      generalize I (a0.den:Int)=s2 at *
      generalize I r.num=s5 at *
      generalize I (r.den:Int)=s6 at *
      clear hall hqe hmq hor hr hq
      have Hm:=hid hm;have Hk:=hid hk;have Hb8:=hid hb8;have HE:=hid hE;have Hnx:=hid hnx;have Hy0:=hid hy0;have Hy1:=hid hy1;clear hm hk hb8 hE hnx hy0 hy1
      go_wp2_with fail
      generalize hV:wr.alloc (.cells #[.string s5,.string s6] 27)=V at *
      go_region_held3 (fun w'=>Kp2 w w' w1.heap.size (.string s1) (.string s2) wr.heap.size (.string s5) (.string s6) w.heap.size∧w'.cell? ⟨ba,oa+j * 2,none⟩=some (.string s3)∧w'.cell? ⟨ba,oa+j * 2+1,none⟩=some (.string s4)∧w'.cell? ⟨w1.heap.size,0,none⟩=some (.string s1)∧w'.cell? ⟨w1.heap.size,1,none⟩=some (.string s2)∧w'.cell? ⟨wr.heap.size,0,none⟩=some (.string s5)∧w'.cell? ⟨wr.heap.size,1,none⟩=some (.string s6)∧w'.cell? ⟨w.heap.size,0,none⟩=some (valAt w' w.heap.size 0)∧w'.cell? ⟨w.heap.size,1,none⟩=some (valAt w' w.heap.size 1)∧w'.frozen? ⟨w.heap.size,0,none⟩=false∧w'.frozen? ⟨w.heap.size,1,none⟩=false)
       (first | exact (Kp2.ext Hk.out ((Ext.refl _).drew)).allA Hy0.out Hy1.out | exact (Kp2.ext (And.left (by assumption)) hxa).allA Hy0.out Hy1.out)
       (first
        | (go_at_call 151;refine (Hm.out _ (And.left (And.left (by assumption)))).mono ?_;rintro e9 V4 ⟨rfl,hxa⟩;have hkk:=Kp2.ext (And.left (by assumption)) hxa))
      all_goals
       clear hxa
       have Hkk:=hid hkk;clear hkk
       go_wp2_with fail
       go_roundw
       case rel=>exact ⟨j+1,by go_num,by omega,Hnx.out,Hkk.out.2.1,Hkk.out.res,Hkk.out.1⟩
       case measure=>simp [intOf];omega
     ·have hr0:r=0:=by
       rcases hor with ⟨h0,_⟩ | ⟨_,h⟩
       ·exact absurd (Or.inl h0) hqe
       ·exact h
      have hq0:q ≠ 0:=fun h=>hqe (Or.inr h)
      have hne:¬ ((⟨#[48]⟩:ByteArray)=I q.num∧(⟨#[49]⟩:ByteArray)=I (q.den:Int)):=by
       rintro ⟨h1,h2⟩
       refine hq0 (Rv_inj ?_)
       unfold Rv
       rw [← h1,← h2,show I (0:Rat).num=⟨#[48]⟩ from e0,show I (((0:Rat).den:Nat):Int)=⟨#[49]⟩ from e1]
      have hbad:tl.all (· == 0)=false:=by
       rw [Bool.eq_false_iff]
       intro h
       obtain ⟨j',rfl⟩:∃ j',j=j'+1:=⟨j - 1,by have:j ≠ 0:=fun h=>hqe (Or.inl h);omega⟩
       rw [List.getElem?_cons_succ] at hq
       have:=List.all_eq_true.1 h q (List.mem_of_getElem? hq)
       exact hq0 (by simpa using this)
      subst hr0
      rw [Rat.mul_zero] at hm
      unfold Rv at hm
      rw [show I (0:Rat).num=⟨#[48]⟩ from e0] at *
      rw [show I (((0:Rat).den:Nat):Int)=⟨#[49]⟩ from e1] at *
      generalize I q.num=s3 at *
      generalize I (q.den:Int)=s4 at *
      generalize hs1:I a0.num=s1 at *
      generalize hs2:I (a0.den:Int)=s2 at *
      clear hall hqe hor hr hq hq0
      have Hm:=hid hm;have Hk:=hid hk;have Hb8:=hid hb8;have HE:=hid hE;have Hy0:=hid hy0;have Hy1:=hid hy1;have Hbad:=hid hbad;have Hs1:=hid hs1;have Hs2:=hid hs2;clear hm hk hb8 hE hy0 hy1 hbad hs1 hs2
      have hneT:[(48:UInt8)]=s3.toList→¬ [(49:UInt8)]=s4.toList:=fun h1 h2=>hne ⟨by rw [Lib.toList_data] at h1;exact ByteArray.ext (Array.toList_inj.1 h1),by rw [Lib.toList_data] at h2;exact ByteArray.ext (Array.toList_inj.1 h2)⟩
      clear hne
      have hpart:¬ [(48:UInt8)]=s3.toList∨(s3.toList=[48]∧¬ [(49:UInt8)]=s4.toList):=by
       by_cases g:[(48:UInt8)]=s3.toList
       ·exact Or.inr ⟨g.symm,hneT g⟩
       ·exact Or.inl g
      clear hneT
      rcases hpart with g | ⟨g,g2⟩
      all_goals
       go_wp2_with fail
       generalize hV:wr.alloc (.cells #[.string ⟨#[48]⟩,.string ⟨#[49]⟩] 27)=V at *
       go_region_held3 (fun w'=>Kp2 w w' w1.heap.size (.string s1) (.string s2) wr.heap.size (.string ⟨#[48]⟩) (.string ⟨#[49]⟩) w.heap.size∧w'.cell? ⟨ba,oa+j * 2,none⟩=some (.string s3)∧w'.cell? ⟨ba,oa+j * 2+1,none⟩=some (.string s4)∧w'.cell? ⟨w1.heap.size,0,none⟩=some (.string s1)∧w'.cell? ⟨w1.heap.size,1,none⟩=some (.string s2)∧w'.cell? ⟨wr.heap.size,0,none⟩=some (.string ⟨#[48]⟩)∧w'.cell? ⟨wr.heap.size,1,none⟩=some (.string ⟨#[49]⟩)∧w'.cell? ⟨w.heap.size,0,none⟩=some (valAt w' w.heap.size 0)∧w'.cell? ⟨w.heap.size,1,none⟩=some (valAt w' w.heap.size 1)∧w'.frozen? ⟨w.heap.size,0,none⟩=false∧w'.frozen? ⟨w.heap.size,1,none⟩=false)
        (first | exact (Kp2.ext Hk.out ((Ext.refl _).drew)).allA Hy0.out Hy1.out | exact (Kp2.ext (And.left (by assumption)) hxa).allA Hy0.out Hy1.out)
        (first
         | (go_at_call 151;refine (Hm.out _ (And.left (And.left (by assumption)))).mono ?_;rintro e9 V4 ⟨rfl,hxa⟩;have hkk:=Kp2.ext (And.left (by assumption)) hxa))
       all_goals
        clear hxa
        have Hkk:=hid hkk;clear hkk
        have hc6:=Hkk.out.2.1.c0;have hc7:=Hkk.out.2.1.c1
        have hz0:=Hkk.out.res.fz 0;have hz1:=Hkk.out.res.fz 1
        have hr0:=Hkk.out.res.c0;have hr1:=Hkk.out.res.c1
        obtain ⟨hb,hfx⟩:=(Hkk.out).fin (Nat.le_refl _) (.string s1) (.string s2)
        have Hb:=hid hb;have Hfx:=hid hfx;clear hb hfx
        go_wp2_with fail
        have hd0:=Hb.out.c0
        have hd1:=Hb.out.c1
        exact bodyPost_ret (v:=.tuple #[.agg #[.string s1,.string s2],.bool false]) (by simp [results,Tryz.results204,go_sem,hd0,hd1]) rfl ⟨by unfold Rv;rw [Hs1.out,Hs2.out,Hbad.out],Hfx.out⟩
    ·obtain rfl:n=j:=by omega
     have hgood:tl.all (· == 0)=true:=by
      rw [List.all_eq_true]
      intro q hq
      obtain ⟨k,hk⟩:=List.getElem?_of_mem hq
      have hkl:k<tl.length:=(List.getElem?_eq_some_iff.1 hk).1
      have:=hall (k+1) q (by have:=Hn1.out;omega) (by rw [List.getElem?_cons_succ];exact hk)
      rcases this with h | h
      ·omega
      ·simp [h]
     generalize hs1:I a0.num=s1 at *
     generalize hs2:I (a0.den:Int)=s2 at *
     have hk:Kp1 w wr w1.heap.size (.string s1) (.string s2) w.heap.size:=⟨hE,hb6,hh⟩
     clear hall hb6 hh hE
     have hc6:=hk.2.1.c0;have hc7:=hk.2.1.c1
     have hz0:=hk.res.fz 0;have hz1:=hk.res.fz 1
     have hr0:=hk.res.c0;have hr1:=hk.res.c1
     obtain ⟨hb,hfx⟩:=(hk).fin (Nat.le_refl _) (.string s1) (.string s2)
     have Hb:=hid hb;have Hfx:=hid hfx;have Hgood:=hid hgood;have Hk:=hid hk;have Hs1:=hid hs1;have Hs2:=hid hs2;clear hb hfx hgood hk hs1 hs2
     go_wp2_with fail
     have hd0:=Hb.out.c0
     have hd1:=Hb.out.c1
     exact bodyPost_ret (v:=.tuple #[.agg #[.string s1,.string s2],.bool true]) (by simp [results,Tryz.results204,go_sem,hd0,hd1]) rfl ⟨by unfold Rv;rw [Hs1.out,Hs2.out,Hgood.out],Hfx.out⟩
end Go.Proofs.YtipjmpdndokdlaaGreatDoor

namespace Go.Proofs.YtipjmpdndokdlaaGreatDoor
open Go.RowKit Go.Lib
attribute [local go_sem] Oper.semAt_some
/-- The floor of a size over the octave, as the program finds it. -/
def flP (p : List Int) (x : List Rat) : Int:=if x.tail.all (· == 0) then (x.headD 0).floor else lowT (tms p (dn x) x) / (67108864 * ((dn x : Nat) : Int))
/-- The few bits decide. -/
def QF (p : List Int) (x : List Rat) : Prop:=x.tail.all (· == 0)=true∨((∀ e∈tms p (dn x) x,okE 100000 e) ∧ dn x≤10000 ∧ lowT (tms p (dn x) x) / (67108864 * ((dn x : Nat) : Int))=higT (tms p (dn x) x) / (67108864 * ((dn x : Nat) : Int)))
theorem ov_tms {p:List Int}{n:Nat}(hp:Pr p (n+1)):tms p (dn (ov n)) (ov n)=[(2,1)]∧dn (ov n)=1:=by
 rcases hp with ⟨rfl,h⟩ | ⟨rfl,h⟩
 ·obtain rfl:n=1:=by omega
  exact ⟨by decide +kernel,by decide +kernel⟩
 ·obtain rfl:n=2:=by omega
  exact ⟨by decide +kernel,by decide +kernel⟩
theorem pr_len {p:List Int}{n:Nat}(hp:Pr p n):p.length=n:=by rcases hp with ⟨rfl,rfl⟩ | ⟨rfl,rfl⟩ <;> rfl
theorem ov_ft {n:Nat}:∀ q∈ov n,Ft 1 q:=by
 intro q hq
 unfold ov at hq
 rcases List.mem_cons.1 hq with rfl | h
 ·exact ft_one1
 ·obtain rfl:=List.eq_of_mem_replicate h
  exact ft_zero
theorem ov_len (n:Nat):(ov n).length=n+1:=by unfold ov;simp
theorem floor_c (vp va vb:Value)(p:List Int)(a0:Rat)(tl:List Rat)(w:World)(he:Env w)(hp:Sl w vp (i64s p))(ha:Rd w va (a0::tl))(hb:Rd w vb (ov tl.length))(hpr:Pr p (tl.length+1))(hf:∀ q∈a0::tl,Ft 30 q)(hq:QF p (a0::tl)) :
  Calls Tryz.prog 156 #[vp,va,vb] w fun e w'=>e=.returned (.string (I (flP p (a0::tl))))∧Ext w w':=by
 have hpl:=pr_len hpr
 have hpl3:p.length≤3:=by rcases hpr with ⟨rfl,_⟩ | ⟨rfl,_⟩ <;> simp
 have hra:=ratio_c va vb a0 tl w he ha hb (by omega) (fun q h=>(hf q h).mono (by omega))
 have hov:=ov_tms hpr
 by_cases ht:tl.all (· == 0)=true
 ·have hfp:flP p (a0::tl)=a0.floor:=by unfold flP;rw [List.tail_cons,if_pos ht];rfl
  rw [ht] at hra
  have h0:=hf a0 (List.mem_cons_self ..)
  have hfl:=fun W (h:Ext w W)=>frFloor_c a0 W (he.ext h) (h0.num (by omega)) (h0.den (by omega))
  rw [hfp]
  generalize I a0.floor=sf at *
  unfold Rv at hra hfl
  generalize I a0.num=s1 at *
  generalize I (a0.den:Int)=s2 at *
  obtain ⟨ap,cp,rfl,_,_,_⟩:=hp.parts
  obtain ⟨aa,ca,rfl,_,_,_⟩:=ha.parts
  obtain ⟨ab,cb,rfl,_,_,_⟩:=hb.parts
  clear hp ha hb hov hpr hf hq hfp ht h0 he hpl hpl3
  have Hra:=hid hra;have Hfl:=hid hfl;clear hra hfl
  go_enter Tryz.func156,Tryz.ntmps156
  go_wp2_with fail
  refine Hra.out.mono ?_
  rintro e w1 ⟨rfl,hx1⟩
  have HE:Hid (Ext w (w1.alloc (.cells #[.string s1,.string s2] 27))):=hid (hx1.alloc _)
  clear hx1
  go_wp2_with fail
  refine (Hfl.out _ HE.out).mono ?_
  rintro e w2 ⟨rfl,hx2⟩
  have Hx2:=hid (HE.out.trans hx2);clear hx2
  go_wp2
  try rw [Exit.noGoto_ret]
  go_ret
  exact ⟨rfl,Hx2.out⟩
 ·have hfp:flP p (a0::tl)=lowT (tms p (dn (a0::tl)) (a0::tl)) / (67108864 * ((dn (a0::tl):Nat):Int)):=by unfold flP;rw [List.tail_cons,if_neg ht]
  rw [Bool.eq_false_iff.2 ht] at hra
  obtain ⟨q1,q2,q3⟩:(∀ e∈tms p (dn (a0::tl)) (a0::tl),okE 100000 e)∧dn (a0::tl)≤10000∧_:=hq.resolve_left ht
  have hl:(tms p (dn (a0::tl)) (a0::tl)).length≤100:=by
   have:=tms_le (p:=p) (d:=dn (a0::tl)) (x:=a0::tl)
   simp only [List.length_cons] at this
   omega
  have h1:=fun W (h:Ext w W)=>termsOf_c vp va p (a0::tl) W (he.ext h) (h.sl hp) (h.rd ha) (by omega) (by rw [hpl];rfl) hf
  have h2:=fun W (h:Ext w W)=>termsOf_c vp vb p (ov tl.length) W (he.ext h) (h.sl hp) (h.rd hb) (by omega) (by rw [ov_len,hpl]) (fun q h=>(ov_ft q h).mono (by omega))
  rw [hov.1,hov.2] at h2
  have h3:=fun W tx ty (hx:TmV W tx (tms p (dn (a0::tl)) (a0::tl)) (dn (a0::tl)))(hy:TmV W ty [(2,1)] 1)=>quotient_c tx ty _ _ W hx hy hl q1 (dn_pos _) q2 q3
  have hbd:=sum_bd (fun e he=>okE_mono (q1 e he) (show (100000:Int)≤10000000 by omega))
  have hd0:=dn_pos (a0::tl)
  rw [hfp]
  generalize tms p (dn (a0::tl)) (a0::tl)=l at *
  generalize dn (a0::tl)=d at *
  have hll:(l.length:Int)≤100:=by omega
  have hqb:=div_bd (a:=lowT l) (b:=67108864 * (d:Int)) (m:=155821957000000000) (by omega) (by omega) (by omega) (by omega)
  generalize lowT l / (67108864 * (d:Int))=q at *
  have h4:=fun W (h:Ext w W)=>wholeOf_c q (by omega) (by omega) W (he.ext h)
  generalize I q=sq at *
  unfold Rv at hra
  generalize I a0.num=s1 at *
  generalize I (a0.den:Int)=s2 at *
  obtain ⟨ap,cp,rfl,_,_,_⟩:=hp.parts
  obtain ⟨aa,ca,rfl,_,_,_⟩:=ha.parts
  obtain ⟨ab,cb,rfl,_,_,_⟩:=hb.parts
  clear hp ha hb hov hpr hf hq hfp ht he hpl hpl3 q1 q2 q3 hbd hll hqb hl hd0
  have Hra:=hid hra;have H1:=hid h1;have H2:=hid h2;have H3:=hid h3;have H4:=hid h4;clear hra h1 h2 h3 h4
  go_enter Tryz.func156,Tryz.ntmps156
  go_wp2_with fail
  refine Hra.out.mono ?_
  rintro e w1 ⟨rfl,hx1⟩
  have HE:Hid (Ext w (w1.alloc (.cells #[.string s1,.string s2] 27))):=hid (hx1.alloc _)
  clear hx1
  go_wp2_with fail
  refine (H1.out _ HE.out).mono ?_
  rintro e w2 ⟨tx,rfl,hx,hx2⟩
  have Hx2:=hid (HE.out.trans hx2)
  clear hx2
  obtain ⟨vc,vd,rfl,hp1,hf1⟩:=hx
  obtain ⟨ac,cc,rfl,_,_,_⟩:=hp1.parts
  obtain ⟨ad,cd,rfl,_,_,_⟩:=hf1.parts
  have htx:TmV w2 (.agg #[.slice ac (i64s (l.map Prod.fst)).length cc,.slice ad (strs (l.map Prod.snd)).length cd,.string (I (d:Int))]) l d:=⟨_,_,rfl,hp1,hf1⟩
  clear hp1 hf1
  generalize (i64s (l.map Prod.fst)).length=n1 at *
  generalize (strs (l.map Prod.snd)).length=n2 at *
  generalize I (d:Int)=sd at *
  have Htx:=hid htx;clear htx
  go_wp2_with fail
  refine (H2.out _ Hx2.out).mono ?_
  rintro e w3 ⟨ty,rfl,hy,hx3⟩
  have Hx3:=hid (Hx2.out.trans hx3)
  have Htx3:=hid (Htx.out.ext hx3)
  clear hx3
  obtain ⟨ve,vf,rfl,hp1,hf1⟩:=hy
  obtain ⟨ae,ce,rfl,_,_,_⟩:=hp1.parts
  obtain ⟨af,cf,rfl,_,_,_⟩:=hf1.parts
  have hty:TmV w3 (.agg #[.slice ae (i64s (([(2,1)]:List (Int × Int)).map Prod.fst)).length ce,.slice af (strs (([(2,1)]:List (Int × Int)).map Prod.snd)).length cf,.string (I ((1:Nat):Int))]) [(2,1)] 1:=⟨_,_,rfl,hp1,hf1⟩
  clear hp1 hf1
  generalize (i64s (([(2,1)]:List (Int × Int)).map Prod.fst)).length=n3 at *
  generalize (strs (([(2,1)]:List (Int × Int)).map Prod.snd)).length=n4 at *
  generalize I ((1:Nat):Int)=se at *
  have hE4:Ext w3 ((w3.alloc (.cells #[.slice ac n1 cc,.slice ad n2 cd,.string sd] 152)).alloc (.cells #[.slice ae n3 ce,.slice af n4 cf,.string se] 152)):=((Ext.refl w3).alloc _).alloc _
  have HE4:=hid (Hx3.out.trans hE4)
  have H5:=hid (H3.out _ _ _ (Htx3.out.ext hE4) (hty.ext hE4))
  clear hE4 hty
  go_wp2_with fail
  refine H5.out.mono ?_
  rintro e w5 ⟨rfl,hx5⟩
  have Hx5:=hid (HE4.out.trans hx5);clear hx5
  go_wp2_with fail
  refine (H4.out _ Hx5.out).mono ?_
  rintro e w6 ⟨rfl,hx6⟩
  have Hx6:=hid (Hx5.out.trans hx6);clear hx6
  go_wp2
  try rw [Exit.noGoto_ret]
  go_ret
  exact ⟨rfl,Hx6.out⟩
end Go.Proofs.YtipjmpdndokdlaaGreatDoor
