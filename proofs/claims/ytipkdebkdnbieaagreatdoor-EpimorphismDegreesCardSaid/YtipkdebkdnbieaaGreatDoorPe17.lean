/- Walks: size's Zero, Combine, Sub, Add, Scale. Walks: downward, quotient: the floor of a quotient by the octave from a few bits. Walk: dividing fractions (by a positive one). Walk: size.ratio where the second size is the octave. Walks: floor, Floor, Remainder by the octave. Walks: checkQuotient, Floor, Remainder by the octave. -/
import Derived.Test.YtipkdebkdnbieaaGreatDoorPe14
import Derived.Test.YtipkdebkdnbieaaGreatDoorPe16
import Derived.Test.YtipkdebkdnbieaaGreatDoorPe08
import Derived.Deep.RegionHeld3
set_option maxRecDepth 100000
set_option maxHeartbeats 4000000
namespace Go.Proofs.YtipkdebkdnbieaaGreatDoor
section
open Go.RowKit Go.Lib
theorem zj9 {w:World}{b:Nat}{us:List Value}{t:TypeId}(h:w.heap[b]?=some (.cells us.toArray t (0,0)))(hm:us.length≤maxLen):Sl w (.slice (some ⟨b,0,none⟩) us.length us.length) us :=
 .inr ⟨b,0,us.length,rfl,Nat.le_refl _,hm,fun i u hu=>by rw [Nat.zero_add];exact zc7 h hu⟩
theorem zjA : Ft 1 (1:Rat):=⟨Dec.nDigits_le (by omega) (by decide),Dec.nDigits_le (by omega) (by decide)⟩
theorem zjB : Ft 400 (1:Rat):=zjA.mono (by omega)
end
section
open Go.RowKit Go.Lib
attribute [local go_sem] Oper.semAt_some
theorem zjC (a b:Int)(hb:0<b):(-a+b - 1) / b=-(a / b):=by
 have h1:=Int.mul_ediv_add_emod a b;have h2:=Int.emod_nonneg a (show b ≠ 0 by omega);have h3:=Int.emod_lt_of_pos a hb;have e:-a+b - 1=(b - 1 - a % b)+b * (-(a / b)):=by rw [Int.mul_neg];omega
 rw [e,Int.add_mul_ediv_left _ _ (by omega),Int.ediv_eq_zero_of_lt (by omega) (by omega)];omega
theorem zjD {a b:Int}{m:Int}(hb:0<b)(h0:-m≤a)(h1:a≤m)(hm:0≤m):-m≤a / b∧a / b≤m:=by
 constructor
 ·rw [Int.le_ediv_iff_mul_le hb];have:=Int.mul_le_mul_of_nonneg_left (show (1:Int)≤b by omega) hm;rw [Int.neg_mul];omega
 ·have:a / b≤m / b:=Int.ediv_le_ediv hb h1;have h2:m / b≤m:=Int.ediv_le_self _ hm;omega
theorem zjE (a b:Int)(w:World)(h0:-1000000000000000000≤a)(h1:a≤1000000000000000000)(h2:0<b)(h3:b≤1000000000000000000) :
  Calls Tryz.prog 209 #[.int .i64 a,.int .i64 b] w fun e w'=>e=.returned (.int .i64 (a / b))∧w=w':=by
 have hbd:=zjD h2 h0 h1 (by omega);by_cases ha:a<0
 ·have hq:(-a+b - 1).tdiv b=-(a / b):=by rw [Int.tdiv_eq_ediv_of_nonneg (by omega),zjC a b h2]
  generalize a / b=q at *;go_enter Tryz.func209,Tryz.ntmps209
  go_wp2
  go_ret
  exact ⟨by simp,rfl⟩
 ·have hq:a.tdiv b=a / b:=Int.tdiv_eq_ediv_of_nonneg (by omega);generalize a / b=q at *;go_enter Tryz.func209,Tryz.ntmps209
  go_wp2
  go_ret
  exact ⟨rfl,rfl⟩
theorem zjF (tx ty:Value)(l:List (Int × Int))(d:Nat)(w:World)(hx:TmV w tx l d)(hy:TmV w ty [(2,1)] 1)(hl:l.length≤100)(hok:∀ e∈l,okE 100000 e)(hd0:0<d)(hd:d≤10000)
  (hfl:zeP l / (67108864 * (d:Int))=zeQ l / (67108864 * (d:Int))) :
  Calls Tryz.prog 178 #[tx,ty] w fun e w'=>e=.returned (.tuple #[.int .i64 (zeP l / (67108864 * (d:Int))),.bool true])∧Ext w w':=by
 have hn1:=fun W (hE:Ext w W)=>zj8 tx l d 100000 W (hx.ext hE) hl (by omega) (by omega) hok;have hn2:=fun W (hE:Ext w W)=>zj8 ty [(2,1)] 1 100000 W (hy.ext hE) (by decide) (by omega) (by omega) (by intro e he;rw [List.mem_singleton] at he;subst he;exact ⟨.inl rfl,by decide,by decide⟩);rw [show zeP [(2,1)]=67108864 by decide,show zeQ [(2,1)]=67108864 by decide] at hn2;have hs1:=fun W=>zfN (d:Int) W (by omega) (by omega);have hs2:=fun W=>zfN ((1:Nat):Int) W (by decide) (by decide);have hbd:=zjw (fun e he=>zjx (hok e he) (show (100000:Int)≤10000000 by omega));have hll:(l.length:Int)≤100:=by omega
 have b1:-248332306000000000≤zeP l∧zeP l≤248332306000000000:=by omega
 have b2:-248332306000000000≤zeQ l∧zeQ l≤248332306000000000:=by omega
 have hq1:=fun W=>zjE (zeP l) (67108864 * (d:Int)) W (by omega) (by omega) (by omega) (by omega);have hq2:=fun W=>zjE (zeQ l) (67108864 * (d:Int)) W (by omega) (by omega) (by omega) (by omega);rw [← hfl] at hq2;obtain ⟨va,vb,rfl,hp1,hf1⟩:=hx;obtain ⟨vc,vd,rfl,hp2,hf2⟩:=hy;obtain ⟨aa,ca,rfl,_,_,_⟩:=hp1.parts;obtain ⟨ab,cb,rfl,_,_,_⟩:=hf1.parts;obtain ⟨ac,cc,rfl,_,_,_⟩:=hp2.parts;obtain ⟨ad,cd,rfl,_,_,_⟩:=hf2.parts;clear hp1 hf1 hp2 hf2 hok hfl hbd hll;generalize (zap (l.map Prod.fst)).length=n1 at *;generalize (zf1 (l.map Prod.snd)).length=n2 at *;generalize (zap (([(2,1)]:List (Int × Int)).map Prod.fst)).length=n3 at *;generalize (zf1 (([(2,1)]:List (Int × Int)).map Prod.snd)).length=n4 at *;generalize zeP l / (67108864 * (d:Int))=q at *;generalize zeP l=lo at *;generalize zeQ l=hi at *;generalize hsd:I ((d:Nat):Int)=sd at *;generalize hs1':I ((1:Nat):Int)=se at *;have bx1:=zf4.new w (.slice aa n1 ca) (.slice ab n2 cb) (.string sd);have bx2:=zf4.new (w.alloc (.cells #[.slice aa n1 ca,.slice ab n2 cb,.string sd] 174)) (.slice ac n3 cc) (.slice ad n4 cd) (.string se);have hE0:Ext w ((w.alloc (.cells #[.slice aa n1 ca,.slice ab n2 cb,.string sd] 174)).alloc (.cells #[.slice ac n3 cc,.slice ad n4 cd,.string se] 174)):=((Ext.refl w).alloc _).alloc _;have bx1':=bx1.ext ((Ext.refl _).alloc (.cells #[.slice ac n3 cc,.slice ad n4 cd,.string se] 174));rw [World.size_alloc] at bx2;clear bx1 hsd hs1';have Hn1:=hid hn1;have Hn2:=hid hn2;have Hs1:=hid hs1;have Hs2:=hid hs2;have Hq1:=hid hq1;have Hq2:=hid hq2;have HE0:=hid hE0;have Bx1':=hid bx1';have Bx2:=hid bx2;clear hn1 hn2 hs1 hs2 hq1 hq2 hE0 bx1' bx2;clear hl;go_enter Tryz.func178,Tryz.ntmps178
 go_wp2_with fail
 refine (Hn1.out _ HE0.out).mono ?_;rintro e w1 ⟨rfl,hx1⟩;have Hx1:=hid (HE0.out.trans hx1);have h2b:=(Bx2.out.ext hx1);obtain ⟨c0,c1,c2,_⟩:=h2b.c;have H1b:=hid (Bx1'.out.ext hx1);have H2b:=hid h2b;clear hx1 h2b;go_wp2_with fail
 refine (Hn2.out _ Hx1.out).mono ?_;rintro e w2 ⟨rfl,hx2⟩;have Hx2:=hid (Hx1.out.trans hx2);have h1c:=H1b.out.ext hx2;obtain ⟨d0,d1,d2,_⟩:=h1c.c;have H2c:=hid (H2b.out.ext hx2);clear hx2 h1c c0 c1 c2;go_wp2_with fail
 refine (Hs1.out _).mono ?_;rintro e w3 ⟨rfl,hx3⟩;have Hx3:=hid (Hx2.out.trans hx3);have h2d:=H2c.out.ext hx3;obtain ⟨f0,f1,f2,_⟩:=h2d.c;clear hx3 h2d d0 d1 d2;go_wp2_with fail
 refine (Hs2.out _).mono ?_;rintro e w4 ⟨rfl,hx4⟩;have Hx4:=hid (Hx3.out.trans hx4);clear hx4 f0 f1 f2;go_wp2_with fail
 all_goals
  refine (Hq1.out _).mono ?_;rintro e w' ⟨rfl,rfl⟩;go_wp2_with fail
 all_goals
  refine (Hq2.out _).mono ?_;rintro e w' ⟨rfl,rfl⟩;go_wp2
 all_goals
  go_ret2
  exact ⟨by simp,Hx4.out⟩
end
section
open Go.RowKit Go.Lib
theorem zjG {n:Nat}(h:0<n):((n:Nat):Rat) ≠ 0:=by
 intro e;have:=Rat.natCast_inj.1 (show ((n:Nat):Rat)=((0:Nat):Rat) from e);omega
theorem zjH (a:Rat):a * (a.den:Rat)=(a.num:Rat):=by
 have h:=Rat.mkRat_eq_div a.num a.den;rw [Rat.mkRat_self] at h;have:=Rat.div_mul_cancel (a:=(a.num:Rat)) (zjG a.den_pos);rw [← h] at this;exact this
theorem zjI (a b:Rat)(n:Nat)(hb:b.num=(n:Int))(hn:0<n):mkRat (a.num * (b.den:Int)) (a.den * n)=a / b:=by
 rw [Rat.mkRat_eq_div];have e1:=zjH a;have e2:=zjH b;rw [hb,Rat.intCast_natCast] at e2;have h1:=zjG a.den_pos;have h2:=zjG b.den_pos;have h3:=zjG hn;have hb0:b ≠ 0:=by
  intro h;rw [h,Rat.zero_mul] at e2;exact h3 e2.symm
 rw [Rat.intCast_mul,Rat.natCast_mul,Rat.intCast_natCast,← e1,← e2];grind
theorem zjJ (a b:Rat)(w:World)(he:Env w)(ha:Ft 100000 a)(hb:Ft 100000 b)(hp:0<b.num) :
  Calls Tryz.prog 151 #[Rv a,Rv b] w fun e w'=>e=.returned (.tuple #[Rv (a / b),.int .i64 0])∧Ext w w':=by
 obtain ⟨n,hn⟩:∃ n:Nat,b.num=(n:Int):=⟨b.num.toNat,by omega⟩;have hn0:0<n:=by omega
 have fa1:=ha.num (by omega);have fa2:=ha.den (by omega);have fb1:=hb.num (by omega);have fb2:=hb.den (by omega);have hda:nDigits ((a.den:Int)).natAbs≤100000:=by rw [Int.natAbs_natCast];exact ha.2
 have hdb:nDigits ((b.den:Int)).natAbs≤100000:=by rw [Int.natAbs_natCast];exact hb.2
 have g1:nDigits (a.num * (b.den:Int)).natAbs≤200000:=ze4 ha.1 hdb;have g3:nDigits ((a.den:Int) * b.num).natAbs≤200000:=ze4 hda hb.1;have hk0:=zev w (.string (I a.num)) (.string (I (a.den:Int))) (.string (I b.num)) (.string (I (b.den:Int)));have hsg:=fun W=>zeC b W fb1;have hc1:zbj b.num 0=1:=by unfold zbj;(repeat' split) <;> omega
 rw [hc1] at hsg;have hm1:=fun W (h:Ext w W)=>zca a.num (b.den:Int) W (he.ext h) fa1 fb2;have hm3:=fun W (h:Ext w W)=>zca (a.den:Int) b.num W (he.ext h) fa2 fb1;have hlo:=fun W (h:Ext w W)=>ze3 (a.num * (b.den:Int)) (a.den * n) W (he.ext h) (by unfold Fit;omega) (by rw [Int.natCast_mul,← hn];unfold Fit;omega) (Nat.mul_pos a.den_pos hn0);rw [zjI a b n hn hn0,Int.natCast_mul,← hn] at hlo;unfold Rv at hsg hlo ⊢;generalize I (a.num * (b.den:Int))=sm at *;generalize I ((a.den:Int) * b.num)=so at *;generalize I (a / b).num=st at *;generalize I (((a / b).den:Nat):Int)=su at *;generalize I a.num=sa at *;generalize I b.num=sb at *;generalize I (a.den:Int)=sc at *;generalize I (b.den:Int)=sd at *;clear g1 g3 fa1 fa2 fb1 fb2 hda hdb he ha hb hn hn0 hp hc1;have Hk0:=hid hk0;have Hsg:=hid hsg;have Hm1:=hid hm1;have Hm3:=hid hm3;have Hlo:=hid hlo;clear hk0 hsg hm1 hm3 hlo;go_enter Tryz.func151,Tryz.ntmps151
 go_wp2_with fail
 generalize hV:((w.alloc (.cells #[.string sa,.string sc] 102)).alloc (.cells #[.string sb,.string sd] 102)).alloc (.cells #[.string ⟨#[]⟩,.string ⟨#[]⟩] 102)=V at *;refine (Hsg.out _).mono ?_;rintro e W2 ⟨rfl,hxa⟩;have hK:=Hk0.out.ext hxa;have HK:=hid hK;clear hK;clear hxa;go_wp2_with fail
 go_region_held3 (fun w'=>Kp2 w w' w.heap.size (.string sa) (.string sc) (w.heap.size+1) (.string sb) (.string sd) (w.heap.size+1+1)∧w'.cell? ⟨w.heap.size,0,none⟩=some (.string sa)∧w'.cell? ⟨w.heap.size,1,none⟩=some (.string sc)∧w'.cell? ⟨w.heap.size+1,0,none⟩=some (.string sb)∧w'.cell? ⟨w.heap.size+1,1,none⟩=some (.string sd)∧w'.cell? ⟨w.heap.size+1+1,0,none⟩=some (zet w' (w.heap.size+1+1) 0)∧w'.cell? ⟨w.heap.size+1+1,1,none⟩=some (zet w' (w.heap.size+1+1) 1)∧w'.frozen? ⟨w.heap.size+1+1,0,none⟩=false∧w'.frozen? ⟨w.heap.size+1+1,1,none⟩=false)
  (first | exact (Kp2.ext HK.out ((Ext.refl _).drew)).all | exact (Kp2.ext (And.left (by assumption)) hxa).all | exact (Kp2.put (And.left (by assumption)) (by omega) (by omega) (by omega) _ _).all)
  (first
   | (go_at_call_of 165 (Value.string sa);refine (Hm1.out _ (And.left (And.left (by assumption)))).mono ?_;rintro e9 V4 ⟨rfl,hxa⟩;have hkk:=Kp2.ext (And.left (by assumption)) hxa)
   | (go_at_call_of 165 (Value.string sc);refine (Hm3.out _ (And.left (And.left (by assumption)))).mono ?_;rintro e9 V4 ⟨rfl,hxa⟩;have hkk:=Kp2.ext (And.left (by assumption)) hxa)
   | (go_at_call 192;refine (Hlo.out _ (And.left (And.left (by assumption)))).mono ?_;rintro e9 V4 ⟨rfl,hxa⟩;have hkk:=Kp2.ext (And.left (by assumption)) hxa))
 all_goals
  obtain ⟨hb,hfx⟩:=(hkk).fin (by omega) (.string st) (.string su);have Hfx:=hid hfx;clear hfx hxa hkk;generalize (V4.setCell ⟨w.heap.size+1+1,0,none⟩ (.string st)).setCell ⟨w.heap.size+1+1,1,none⟩ (.string su)=W5 at *;have hd0:=hb.c0;have hd1:=hb.c1;go_wp2_with fail
  exact bodyPost_ret (v:=.tuple #[.agg #[.string st,.string su],.int .i64 0]) (by simp [results,Tryz.results151,go_sem,hd0,hd1]) rfl ⟨rfl,Hfx.out⟩
theorem Kp2.allA {w w':World}{b1 b2 c:Nat}{u1 v1 u2 v2 x y:Value}{p q:Addr}(h:Kp2 w w' b1 u1 v1 b2 u2 v2 c)(hp:w.cell? p=some x)(hq:w.cell? q=some y) :
  Kp2 w w' b1 u1 v1 b2 u2 v2 c∧w'.cell? p=some x∧w'.cell? q=some y∧w'.cell? ⟨b1,0,none⟩=some u1∧w'.cell? ⟨b1,1,none⟩=some v1∧w'.cell? ⟨b2,0,none⟩=some u2∧w'.cell? ⟨b2,1,none⟩=some v2∧w'.cell? ⟨c,0,none⟩=some (zet w' c 0)∧w'.cell? ⟨c,1,none⟩=some (zet w' c 1)∧w'.frozen? ⟨c,0,none⟩=false∧w'.frozen? ⟨c,1,none⟩=false :=
 ⟨h,h.1.cell hp,h.1.cell hq,h.2.1.c0,h.2.1.c1,h.2.2.1.c0,h.2.2.1.c1,h.res.c0,h.res.c1,h.res.fz 0,h.res.fz 1⟩
def ov (n:Nat):List Rat:=1::List.replicate n 0
theorem zjK {n i:Nat}{r:Rat}(h:(ov n)[i]?=some r):(i=0∧r=1)∨(0<i∧r=0):=by
 unfold ov at h
 cases i with
 | zero=>left;simp at h;exact ⟨rfl,h.symm⟩
 | succ i=>right;rw [List.getElem?_cons_succ,List.getElem?_replicate] at h;split at h <;> simp at h;exact ⟨by omega,h.symm⟩
theorem zjL (va vb:Value)(a0:Rat)(tl:List Rat)(w:World)(he:Env w)(ha:Rd w va (a0::tl))(hb:Rd w vb (ov tl.length))(hn:tl.length≤99)(hf:∀ q∈a0::tl,Ft 1000 q) :
  Calls Tryz.prog 176 #[va,vb] w fun e w'=>e=.returned (.tuple #[Rv a0,.bool (tl.all (· == 0))])∧Ext w w':=by
 have hnum:=fun W (h:Ext w W)=>zfj 0 W (he.ext h) (by omega) (by omega);obtain ⟨aa,ca,rfl,_,_,hca⟩:=ha.parts;obtain ⟨ab,cb,rfl,_,_,hcb⟩:=hb.parts;have hbl:(ov tl.length).length=tl.length+1:=by unfold ov;simp
 rw [hbl];have hal:(a0::tl).length=tl.length+1:=by simp
 rw [hal];have hdv:=fun (x y:Rat) W (h:Ext w W)(hx:Ft 1000 x)(hy:Ft 1000 y)(hp:0<y.num)=>zjJ x y W (he.ext h) (hx.mono (by omega)) (hy.mono (by omega)) hp;have hmu:=fun (x y:Rat) W (h:Ext w W)(hx:Ft 1000 x)(hy:Ft 1000 y)=>ze9 x y W (he.ext h) (hx.mono (by omega)) (hy.mono (by omega));generalize hn1:tl.length+1=n at hbl hal ⊢;have hnb:n≤100:=by omega
 clear ha hb;have b4:=zes.new w (.string ⟨#[]⟩) (.string ⟨#[]⟩);have hE0:Ext w (w.alloc (.cells #[.string ⟨#[]⟩,.string ⟨#[]⟩] 102)):=(Ext.refl w).alloc _;rw [zfi] at hnum;have e0:I 0=⟨#[48]⟩:=by kernel_rfl
 have e1:I 1=⟨#[49]⟩:=by kernel_rfl
 rw [e0] at hnum;have Hnum:=hid hnum;have Hca:=hid hca;have Hcb:=hid hcb;have Hdv:=hid hdv;have Hmu:=hid hmu;have B4:=hid b4;have HE0:=hid hE0;have Hf:=hid hf;have Hbl:=hid hbl;have Hal:=hid hal;have Hn1:=hid hn1;have Hn:=hid hn;clear hnum hca hcb hdv hmu b4 hE0 hf hbl hal hn1 hn;go_enter Tryz.func176,Tryz.ntmps176
 go_wp2_with fail
 refine (Hnum.out _ HE0.out).mono ?_;rintro e w1 ⟨rfl,hx1⟩;have hh:zes w1 w.heap.size (.string ⟨#[]⟩) (.string ⟨#[]⟩):=B4.out.ext hx1;have hlt:=hh.lt;have b6:zes (w1.alloc (.cells #[.string ⟨#[48]⟩,.string ⟨#[49]⟩] 102)) w1.heap.size (.string ⟨#[48]⟩) (.string ⟨#[49]⟩):=zes.new _ _ _;have hE1:Ext w (w1.alloc (.cells #[.string ⟨#[48]⟩,.string ⟨#[49]⟩] 102)):=(HE0.out.trans hx1).alloc _;have hh1:zes (w1.alloc (.cells #[.string ⟨#[48]⟩,.string ⟨#[49]⟩] 102)) w.heap.size (.string ⟨#[]⟩) (.string ⟨#[]⟩):=hh.ext ((Ext.refl w1).alloc _);clear hh hx1;have B6:=hid b6;have HE1:=hid hE1;have Hh1:=hid hh1;clear b6 hE1 hh1;go_wp2_with fail
 go_loopw [7,8,14] (fun v7 v8 v14 wr=>∃ i:Nat,v14=.int .i64 i∧i≤n∧zes wr w1.heap.size (.string (I (if i=0 then (0:Rat) else a0).num)) (.string (I (((if i=0 then (0:Rat) else a0).den:Nat):Int)))∧zes wr w.heap.size (.string ⟨#[]⟩) (.string ⟨#[]⟩)∧Ext w wr) (fun _ _ v14 _=>n - (zal v14).toNat)
 case atStart=>exact ⟨0,rfl,Nat.zero_le _,by rw [if_pos rfl];show zes _ _ (.string (I 0)) (.string (I 1));rw [e0,e1];exact B6.out,Hh1.out,HE1.out⟩
 case round =>
  obtain ⟨i,rfl,hi,hb6,hh,hE⟩:=hrel;by_cases hin:i<n
  ·obtain ⟨r,hr⟩:∃ r,(ov tl.length)[i]?=some r:=⟨_,List.getElem?_eq_getElem (by rw [Hbl.out];exact hin)⟩;obtain ⟨q,hq⟩:∃ q,(a0::tl)[i]?=some q:=⟨_,List.getElem?_eq_getElem (by rw [Hal.out];exact hin)⟩;obtain ⟨bb,ob,rfl,hx0,hx1⟩:=Hcb.out i r hr;obtain ⟨ba,oa,rfl,hy0,hy1⟩:=Hca.out i q hq;have hor:=zjK hr;have hx0':=hE.cell hx0;have hx1':=hE.cell hx1;have hi0:(0:Int)≤(i:Int):=(by omega);have hi1:(i:Int)<(n:Int):=(by omega);have hb8:zes (wr.alloc (.cells #[.string (I r.num),.string (I (r.den:Int))] 102)) wr.heap.size (.string (I r.num)) (.string (I (r.den:Int))):=zes.new _ _ _;have hE2:Ext w (wr.alloc (.cells #[.string (I r.num),.string (I (r.den:Int))] 102)):=hE.alloc _;have hb62:=hb6.ext ((Ext.refl wr).alloc (.cells #[.string (I r.num),.string (I (r.den:Int))] 102));have hh2:=hh.ext ((Ext.refl wr).alloc (.cells #[.string (I r.num),.string (I (r.den:Int))] 102));have hl6:=hb6.lt;have hlh:=hh.lt;have hk:Kp2 w (wr.alloc (.cells #[.string (I r.num),.string (I (r.den:Int))] 102)) w.heap.size (.string ⟨#[]⟩) (.string ⟨#[]⟩) wr.heap.size (.string (I r.num)) (.string (I (r.den:Int))) w1.heap.size:=⟨hE2,hh2,hb8,_,_,hb62⟩;rcases hor with ⟨h0,h1⟩ | ⟨h0,h1⟩
   ·subst h1;obtain rfl:a0=q:=by rw [h0] at hq;simpa using hq
    have hd:=fun W (h:Ext w W)=>Hdv.out a0 1 W h (Hf.out a0 (List.mem_cons_self ..)) (zjB.mono (by omega)) (by decide);rw [show a0 / 1=a0 by rw [Rat.div_def];grind] at hd;unfold Rv at hd;rw [show I (1:Rat).num=⟨#[49]⟩ from e1] at *;rw [show I (((1:Rat).den:Nat):Int)=⟨#[49]⟩ from e1] at *;generalize hs1:I a0.num=s1 at *;generalize hs2:I (a0.den:Int)=s2 at *;clear hb6 hh hE2 hb62 hh2 hx0 hx1 hr hq;have Hd:=hid hd;have Hk:=hid hk;have Hb8:=hid hb8;have HE:=hid hE;have Hs1:=hid hs1;have Hs2:=hid hs2;have H0:=hid h0;clear hd hk hb8 hE hs1 hs2 h0;go_wp2_with fail
    generalize hV:wr.alloc (.cells #[.string ⟨#[49]⟩,.string ⟨#[49]⟩] 102)=V at *;have hy00:=hy0;have hy11:=hy1;have Hy00:=hid hy00;have Hy11:=hid hy11;clear hy00 hy11;go_region_held3 (fun w'=>Kp2 w w' w.heap.size (.string ⟨#[]⟩) (.string ⟨#[]⟩) wr.heap.size (.string ⟨#[49]⟩) (.string ⟨#[49]⟩) w1.heap.size∧w'.cell? ⟨ba,oa+i * 2,none⟩=some (.string s1)∧w'.cell? ⟨ba,oa+i * 2+1,none⟩=some (.string s2)∧w'.cell? ⟨w.heap.size,0,none⟩=some (.string ⟨#[]⟩)∧w'.cell? ⟨w.heap.size,1,none⟩=some (.string ⟨#[]⟩)∧w'.cell? ⟨wr.heap.size,0,none⟩=some (.string ⟨#[49]⟩)∧w'.cell? ⟨wr.heap.size,1,none⟩=some (.string ⟨#[49]⟩)∧w'.cell? ⟨w1.heap.size,0,none⟩=some (zet w' w1.heap.size 0)∧w'.cell? ⟨w1.heap.size,1,none⟩=some (zet w' w1.heap.size 1)∧w'.frozen? ⟨w1.heap.size,0,none⟩=false∧w'.frozen? ⟨w1.heap.size,1,none⟩=false)
     (first | exact (Kp2.ext Hk.out ((Ext.refl _).drew)).allA Hy00.out Hy11.out | exact (Kp2.ext (And.left (by assumption)) hxa).allA Hy00.out Hy11.out | exact (Kp2.put (And.left (by assumption)) (by omega) (by omega) (by omega) _ _).allA Hy00.out Hy11.out)
     (first
      | (go_at_call 151;refine (Hd.out _ (And.left (And.left (by assumption)))).mono ?_;rintro e9 V4 ⟨rfl,hxa⟩;have hkk:=Kp2.ext (And.left (by assumption)) hxa))
    all_goals
     have hpu:=hkk.put (by omega) (by omega) (by omega) (.string s1) (.string s2);obtain ⟨hb,hfx⟩:=(hkk).fin (by omega) (.string s1) (.string s2);clear hxa hkk;generalize (V4.setCell ⟨w1.heap.size,0,none⟩ (.string s1)).setCell ⟨w1.heap.size,1,none⟩ (.string s2)=W5 at *;have Hb:=hid hb;have Hfx:=hid hfx;have Hpu:=hid hpu;clear hb hfx hpu;go_wp2_with fail
     go_roundw
     case rel=>exact ⟨i+1,by go_num,by omega,by rw [if_neg (by omega),Hs1.out,Hs2.out];exact Hb.out,Hpu.out.2.1,Hfx.out⟩
     case measure=>simp [zal];omega
   ·subst h1;rw [show I (0:Rat).num=⟨#[48]⟩ from e0] at *;rw [show I (((0:Rat).den:Nat):Int)=⟨#[49]⟩ from e1] at *;have hi1':(if i=0 then (0:Rat) else a0)=(if i+1=0 then (0:Rat) else a0):=(by rw [if_neg (by omega),if_neg (by omega)]);rw [hi1'] at hb62;clear hb6 hh hx0 hx1 hr hq hy0 hy1 hi1';have Hk:=hid hk;have Hb8:=hid hb8;have HE:=hid hE;have HE2:=hid hE2;have Hb62:=hid hb62;have Hh2:=hid hh2;clear hk hb8 hE hE2 hb62 hh2;go_wp2_with fail
    go_roundw
    case rel=>exact ⟨i+1,by go_num,by omega,Hb62.out,Hh2.out,HE2.out⟩
    case measure=>simp [zal];omega
  ·obtain rfl:n=i:=by omega
   rw [if_neg (by have:=Hn1.out;omega)] at hb6;have hall:∀ k q,k<0→(a0::tl)[k]?=some q→k=0∨q=0:=fun k q h _=>by omega
   obtain ⟨wa,hwa⟩:∃ wa,wa=wr:=⟨_,rfl⟩;subst hwa;have Hb6:=hid hb6;have Hh:=hid hh;have HE:=hid hE;have Hall:=hid hall;clear hb6 hh hE hall;go_wp2_with fail
   go_loopw [9,10,34] (fun v9 v10 v34 wr=>∃ j:Nat,v34=.int .i64 j∧j≤n∧(∀ k q,k<j→(a0::tl)[k]?=some q→k=0∨q=0)∧zes wr w1.heap.size (.string (I a0.num)) (.string (I (a0.den:Int)))∧Res wr w.heap.size∧Ext w wr) (fun _ _ v34 _=>n - (zal v34).toNat)
   case atStart=>exact ⟨0,rfl,Nat.zero_le _,Hall.out,Hb6.out,⟨_,_,Hh.out⟩,HE.out⟩
   case round =>
    clear Hb6 Hh HE Hall;obtain ⟨j,rfl,hj,hall,hb6,hh,hE⟩:=hrel;by_cases hjn:j<n
    ·obtain ⟨r,hr⟩:∃ r,(ov tl.length)[j]?=some r:=⟨_,List.getElem?_eq_getElem (by rw [Hbl.out];exact hjn)⟩;obtain ⟨q,hq⟩:∃ q,(a0::tl)[j]?=some q:=⟨_,List.getElem?_eq_getElem (by rw [Hal.out];exact hjn)⟩;obtain ⟨bb,ob,rfl,hx0,hx1⟩:=Hcb.out j r hr;obtain ⟨ba,oa,rfl,hy0,hy1⟩:=Hca.out j q hq;have hor:=zjK hr;have hx0':=hE.cell hx0;have hx1':=hE.cell hx1;have hj0:(0:Int)≤(j:Int):=(by omega);have hj1:(j:Int)<(n:Int):=(by omega);have hb8:zes (wr.alloc (.cells #[.string (I r.num),.string (I (r.den:Int))] 102)) wr.heap.size (.string (I r.num)) (.string (I (r.den:Int))):=zes.new _ _ _;have hE2:Ext w (wr.alloc (.cells #[.string (I r.num),.string (I (r.den:Int))] 102)):=hE.alloc _;have hb62:=hb6.ext ((Ext.refl wr).alloc (.cells #[.string (I r.num),.string (I (r.den:Int))] 102));have hh2:=hh.ext ((Ext.refl wr).alloc (.cells #[.string (I r.num),.string (I (r.den:Int))] 102));have hl6:=hb6.lt;have hlh:w.heap.size<wr.heap.size:=(by obtain ⟨_,_,h⟩:=hh;exact h.lt);have hk:Kp2 w (wr.alloc (.cells #[.string (I r.num),.string (I (r.den:Int))] 102)) w1.heap.size (.string (I a0.num)) (.string (I (a0.den:Int))) wr.heap.size (.string (I r.num)) (.string (I (r.den:Int))) w.heap.size:=⟨hE2,hb62,hb8,hh2⟩;have hrf:Ft 1000 r:=by
      rcases hor with ⟨_,rfl⟩ | ⟨_,rfl⟩
      ·exact zjB.mono (by omega)
      ·exact zir.mono (by omega)
     have hm:=fun W (h:Ext w W)=>Hmu.out a0 r W h (Hf.out a0 (List.mem_cons_self ..)) hrf;clear hb6 hh hE2 hb62 hh2 hx0 hx1 hrf;by_cases hqe:j=0∨q=0
     ·have hnx:∀ k q,k<j+1→(a0::tl)[k]?=some q→k=0∨q=0:=fun k q' hk h=>by
       rcases Nat.lt_or_ge k j with g | g
       ·exact hall k q' g h
       ·obtain rfl:k=j:=by omega
        rw [hq] at h;obtain rfl:=Option.some.inj h;exact hqe
      have hmq:a0 * r=q:=by
       rcases hor with ⟨h0,rfl⟩ | ⟨h0,rfl⟩
       ·rw [h0] at hq;have:a0=q:=(by simpa using hq);rw [← this,Rat.mul_one]
       ·rcases hqe with h | h
        ·omega
        ·rw [h,Rat.mul_zero]
      rw [hmq] at hm;unfold Rv at hm;generalize I q.num=s3 at *;generalize I (q.den:Int)=s4 at *;generalize I a0.num=s1 at *;generalize I (a0.den:Int)=s2 at *;generalize I r.num=s5 at *;generalize I (r.den:Int)=s6 at *;clear hall hqe hmq hor hr hq;have Hm:=hid hm;have Hk:=hid hk;have Hb8:=hid hb8;have HE:=hid hE;have Hnx:=hid hnx;have Hy0:=hid hy0;have Hy1:=hid hy1;clear hm hk hb8 hE hnx hy0 hy1;go_wp2_with fail
      generalize hV:wr.alloc (.cells #[.string s5,.string s6] 102)=V at *;go_region_held3 (fun w'=>Kp2 w w' w1.heap.size (.string s1) (.string s2) wr.heap.size (.string s5) (.string s6) w.heap.size∧w'.cell? ⟨ba,oa+j * 2,none⟩=some (.string s3)∧w'.cell? ⟨ba,oa+j * 2+1,none⟩=some (.string s4)∧w'.cell? ⟨w1.heap.size,0,none⟩=some (.string s1)∧w'.cell? ⟨w1.heap.size,1,none⟩=some (.string s2)∧w'.cell? ⟨wr.heap.size,0,none⟩=some (.string s5)∧w'.cell? ⟨wr.heap.size,1,none⟩=some (.string s6)∧w'.cell? ⟨w.heap.size,0,none⟩=some (zet w' w.heap.size 0)∧w'.cell? ⟨w.heap.size,1,none⟩=some (zet w' w.heap.size 1)∧w'.frozen? ⟨w.heap.size,0,none⟩=false∧w'.frozen? ⟨w.heap.size,1,none⟩=false)
       (first | exact (Kp2.ext Hk.out ((Ext.refl _).drew)).allA Hy0.out Hy1.out | exact (Kp2.ext (And.left (by assumption)) hxa).allA Hy0.out Hy1.out)
       (first
        | (go_at_call 150;refine (Hm.out _ (And.left (And.left (by assumption)))).mono ?_;rintro e9 V4 ⟨rfl,hxa⟩;have hkk:=Kp2.ext (And.left (by assumption)) hxa))
      all_goals
       clear hxa;have Hkk:=hid hkk;clear hkk;go_wp2_with fail
       go_roundw
       case rel=>exact ⟨j+1,by go_num,by omega,Hnx.out,Hkk.out.2.1,Hkk.out.res,Hkk.out.1⟩
       case measure=>simp [zal];omega
     ·have hr0:r=0:=by
       rcases hor with ⟨h0,_⟩ | ⟨_,h⟩
       ·exact absurd (Or.inl h0) hqe
       ·exact h
      have hq0:q ≠ 0:=fun h=>hqe (Or.inr h);have hne:¬ ((⟨#[48]⟩:ByteArray)=I q.num∧(⟨#[49]⟩:ByteArray)=I (q.den:Int)):=by
       rintro ⟨h1,h2⟩;refine hq0 (zdJ ?_);unfold Rv;rw [← h1,← h2,show I (0:Rat).num=⟨#[48]⟩ from e0,show I (((0:Rat).den:Nat):Int)=⟨#[49]⟩ from e1]
      have hbad:tl.all (· == 0)=false:=by
       rw [Bool.eq_false_iff];intro h;obtain ⟨j',rfl⟩:∃ j',j=j'+1:=⟨j - 1,by have:j ≠ 0:=fun h=>hqe (Or.inl h);omega⟩;rw [List.getElem?_cons_succ] at hq;have:=List.all_eq_true.1 h q (List.mem_of_getElem? hq);exact hq0 (by simpa using this)
      subst hr0;rw [Rat.mul_zero] at hm;unfold Rv at hm;rw [show I (0:Rat).num=⟨#[48]⟩ from e0] at *;rw [show I (((0:Rat).den:Nat):Int)=⟨#[49]⟩ from e1] at *;generalize I q.num=s3 at *;generalize I (q.den:Int)=s4 at *;generalize hs1:I a0.num=s1 at *;generalize hs2:I (a0.den:Int)=s2 at *;clear hall hqe hor hr hq hq0;have Hm:=hid hm;have Hk:=hid hk;have Hb8:=hid hb8;have HE:=hid hE;have Hy0:=hid hy0;have Hy1:=hid hy1;have Hbad:=hid hbad;have Hs1:=hid hs1;have Hs2:=hid hs2;clear hm hk hb8 hE hy0 hy1 hbad hs1 hs2;have hneT:[(48:UInt8)]=s3.toList→¬ [(49:UInt8)]=s4.toList:=fun h1 h2=>hne ⟨by rw [Lib.toList_data] at h1;exact ByteArray.ext (Array.toList_inj.1 h1),by rw [Lib.toList_data] at h2;exact ByteArray.ext (Array.toList_inj.1 h2)⟩;clear hne;have hpart:¬ [(48:UInt8)]=s3.toList∨(s3.toList=[48]∧¬ [(49:UInt8)]=s4.toList):=by
       by_cases g:[(48:UInt8)]=s3.toList
       ·exact Or.inr ⟨g.symm,hneT g⟩
       ·exact Or.inl g
      clear hneT;rcases hpart with g | ⟨g,g2⟩
      all_goals
       go_wp2_with fail
       generalize hV:wr.alloc (.cells #[.string ⟨#[48]⟩,.string ⟨#[49]⟩] 102)=V at *;go_region_held3 (fun w'=>Kp2 w w' w1.heap.size (.string s1) (.string s2) wr.heap.size (.string ⟨#[48]⟩) (.string ⟨#[49]⟩) w.heap.size∧w'.cell? ⟨ba,oa+j * 2,none⟩=some (.string s3)∧w'.cell? ⟨ba,oa+j * 2+1,none⟩=some (.string s4)∧w'.cell? ⟨w1.heap.size,0,none⟩=some (.string s1)∧w'.cell? ⟨w1.heap.size,1,none⟩=some (.string s2)∧w'.cell? ⟨wr.heap.size,0,none⟩=some (.string ⟨#[48]⟩)∧w'.cell? ⟨wr.heap.size,1,none⟩=some (.string ⟨#[49]⟩)∧w'.cell? ⟨w.heap.size,0,none⟩=some (zet w' w.heap.size 0)∧w'.cell? ⟨w.heap.size,1,none⟩=some (zet w' w.heap.size 1)∧w'.frozen? ⟨w.heap.size,0,none⟩=false∧w'.frozen? ⟨w.heap.size,1,none⟩=false)
        (first | exact (Kp2.ext Hk.out ((Ext.refl _).drew)).allA Hy0.out Hy1.out | exact (Kp2.ext (And.left (by assumption)) hxa).allA Hy0.out Hy1.out)
        (first
         | (go_at_call 150;refine (Hm.out _ (And.left (And.left (by assumption)))).mono ?_;rintro e9 V4 ⟨rfl,hxa⟩;have hkk:=Kp2.ext (And.left (by assumption)) hxa))
       all_goals
        clear hxa;have Hkk:=hid hkk;clear hkk;have hc6:=Hkk.out.2.1.c0;have hc7:=Hkk.out.2.1.c1;have hz0:=Hkk.out.res.fz 0;have hz1:=Hkk.out.res.fz 1;have hr0:=Hkk.out.res.c0;have hr1:=Hkk.out.res.c1;obtain ⟨hb,hfx⟩:=(Hkk.out).fin (Nat.le_refl _) (.string s1) (.string s2);have Hb:=hid hb;have Hfx:=hid hfx;clear hb hfx;go_wp2_with fail
        have hd0:=Hb.out.c0;have hd1:=Hb.out.c1;exact bodyPost_ret (v:=.tuple #[.agg #[.string s1,.string s2],.bool false]) (by simp [results,Tryz.results176,go_sem,hd0,hd1]) rfl ⟨by unfold Rv;rw [Hs1.out,Hs2.out,Hbad.out],Hfx.out⟩
    ·obtain rfl:n=j:=by omega
     have hgood:tl.all (· == 0)=true:=by
      rw [List.all_eq_true];intro q hq;obtain ⟨k,hk⟩:=List.getElem?_of_mem hq;have hkl:k<tl.length:=(List.getElem?_eq_some_iff.1 hk).1;have:=hall (k+1) q (by have:=Hn1.out;omega) (by rw [List.getElem?_cons_succ];exact hk);rcases this with h | h
      ·omega
      ·simp [h]
     generalize hs1:I a0.num=s1 at *;generalize hs2:I (a0.den:Int)=s2 at *;have hk:Kp1 w wr w1.heap.size (.string s1) (.string s2) w.heap.size:=⟨hE,hb6,hh⟩;clear hall hb6 hh hE;have hc6:=hk.2.1.c0;have hc7:=hk.2.1.c1;have hz0:=hk.res.fz 0;have hz1:=hk.res.fz 1;have hr0:=hk.res.c0;have hr1:=hk.res.c1;obtain ⟨hb,hfx⟩:=(hk).fin (Nat.le_refl _) (.string s1) (.string s2);have Hb:=hid hb;have Hfx:=hid hfx;have Hgood:=hid hgood;have Hk:=hid hk;have Hs1:=hid hs1;have Hs2:=hid hs2;clear hb hfx hgood hk hs1 hs2;go_wp2_with fail
     have hd0:=Hb.out.c0;have hd1:=Hb.out.c1;exact bodyPost_ret (v:=.tuple #[.agg #[.string s1,.string s2],.bool true]) (by simp [results,Tryz.results176,go_sem,hd0,hd1]) rfl ⟨by unfold Rv;rw [Hs1.out,Hs2.out,Hgood.out],Hfx.out⟩
end
section
open Go.RowKit Go.Lib
attribute [local go_sem] Oper.semAt_some
def flP (p:List Int)(x:List Rat):Int:=if x.tail.all (· == 0) then (x.headD 0).floor else zeP (tms p (dn x) x) / (67108864 * ((dn x:Nat):Int))
def QF (p:List Int)(x:List Rat):Prop:=x.tail.all (· == 0)=true∨((∀ e∈tms p (dn x) x,okE 100000 e)∧dn x≤10000∧zeP (tms p (dn x) x) / (67108864 * ((dn x:Nat):Int))=zeQ (tms p (dn x) x) / (67108864 * ((dn x:Nat):Int)))
theorem zjM {p:List Int}{n:Nat}(hp:Pr p (n+1)):tms p (dn (ov n)) (ov n)=[(2,1)]∧dn (ov n)=1:=by
 rcases hp with ⟨rfl,h⟩ | ⟨rfl,h⟩
 ·obtain rfl:n=1:=by omega
  exact ⟨by decide +kernel,by decide +kernel⟩
 ·obtain rfl:n=2:=by omega
  exact ⟨by decide +kernel,by decide +kernel⟩
theorem zjN {p:List Int}{n:Nat}(hp:Pr p n):p.length=n:=by rcases hp with ⟨rfl,rfl⟩ | ⟨rfl,rfl⟩ <;> rfl
theorem zjO {n:Nat}:∀ q∈ov n,Ft 1 q:=by
 intro q hq;unfold ov at hq;rcases List.mem_cons.1 hq with rfl | h
 ·exact zjA
 ·obtain rfl:=List.eq_of_mem_replicate h;exact zir
theorem zjP (n:Nat):(ov n).length=n+1:=by unfold ov;simp
theorem zjQ (vp va vb:Value)(p:List Int)(a0:Rat)(tl:List Rat)(w:World)(he:Env w)(hp:Sl w vp (zap p))(ha:Rd w va (a0::tl))(hb:Rd w vb (ov tl.length))(hpr:Pr p (tl.length+1))(hf:∀ q∈a0::tl,Ft 30 q)(hq:QF p (a0::tl)) :
  Calls Tryz.prog 128 #[vp,va,vb] w fun e w'=>e=.returned (.string (I (flP p (a0::tl))))∧Ext w w':=by
 have hpl:=zjN hpr;have hpl3:p.length≤3:=by rcases hpr with ⟨rfl,_⟩ | ⟨rfl,_⟩ <;> simp
 have hra:=zjL va vb a0 tl w he ha hb (by omega) (fun q h=>(hf q h).mono (by omega));have hov:=zjM hpr;by_cases ht:tl.all (· == 0)=true
 ·have hfp:flP p (a0::tl)=a0.floor:=by unfold flP;rw [List.tail_cons,if_pos ht];rfl
  rw [ht] at hra;have h0:=hf a0 (List.mem_cons_self ..);have hfl:=fun W (h:Ext w W)=>zeB a0 W (he.ext h) (h0.num (by omega)) (h0.den (by omega));rw [hfp];generalize I a0.floor=sf at *;unfold Rv at hra hfl;generalize I a0.num=s1 at *;generalize I (a0.den:Int)=s2 at *;obtain ⟨ap,cp,rfl,_,_,_⟩:=hp.parts;obtain ⟨aa,ca,rfl,_,_,_⟩:=ha.parts;obtain ⟨ab,cb,rfl,_,_,_⟩:=hb.parts;clear hp ha hb hov hpr hf hq hfp ht h0 he hpl hpl3;have Hra:=hid hra;have Hfl:=hid hfl;clear hra hfl;go_enter Tryz.func128,Tryz.ntmps128
  go_wp2_with fail
  refine Hra.out.mono ?_;rintro e w1 ⟨rfl,hx1⟩;have HE:Hid (Ext w (w1.alloc (.cells #[.string s1,.string s2] 102))):=hid (hx1.alloc _);clear hx1;go_wp2_with fail
  refine (Hfl.out _ HE.out).mono ?_;rintro e w2 ⟨rfl,hx2⟩;have Hx2:=hid (HE.out.trans hx2);clear hx2;go_wp2
  try rw [Exit.noGoto_ret]
  go_ret
  exact ⟨rfl,Hx2.out⟩
 ·have hfp:flP p (a0::tl)=zeP (tms p (dn (a0::tl)) (a0::tl)) / (67108864 * ((dn (a0::tl):Nat):Int)):=by unfold flP;rw [List.tail_cons,if_neg ht]
  rw [Bool.eq_false_iff.2 ht] at hra;obtain ⟨q1,q2,q3⟩:(∀ e∈tms p (dn (a0::tl)) (a0::tl),okE 100000 e)∧dn (a0::tl)≤10000∧_:=hq.resolve_left ht;have hl:(tms p (dn (a0::tl)) (a0::tl)).length≤100:=by
   have:=zfF (p:=p) (d:=dn (a0::tl)) (x:=a0::tl);simp only [List.length_cons] at this;omega
  have h1:=fun W (h:Ext w W)=>zfJ vp va p (a0::tl) W (he.ext h) (h.sl hp) (h.rd ha) (by omega) (by rw [hpl];rfl) hf;have h2:=fun W (h:Ext w W)=>zfJ vp vb p (ov tl.length) W (he.ext h) (h.sl hp) (h.rd hb) (by omega) (by rw [zjP,hpl]) (fun q h=>(zjO q h).mono (by omega));rw [hov.1,hov.2] at h2;have h3:=fun W tx ty (hx:TmV W tx (tms p (dn (a0::tl)) (a0::tl)) (dn (a0::tl)))(hy:TmV W ty [(2,1)] 1)=>zjF tx ty _ _ W hx hy hl q1 (zeY _) q2 q3;have hbd:=zjw (fun e he=>zjx (q1 e he) (show (100000:Int)≤10000000 by omega));have hd0:=zeY (a0::tl);rw [hfp];generalize tms p (dn (a0::tl)) (a0::tl)=l at *;generalize dn (a0::tl)=d at *;have hll:(l.length:Int)≤100:=by omega
  have hqb:=zjD (a:=zeP l) (b:=67108864 * (d:Int)) (m:=248332306000000000) (by omega) (by omega) (by omega) (by omega);generalize zeP l / (67108864 * (d:Int))=q at *;have h4:=fun W (h:Ext w W)=>zaQ q (by omega) (by omega) W (he.ext h);generalize I q=sq at *;unfold Rv at hra;generalize I a0.num=s1 at *;generalize I (a0.den:Int)=s2 at *;obtain ⟨ap,cp,rfl,_,_,_⟩:=hp.parts;obtain ⟨aa,ca,rfl,_,_,_⟩:=ha.parts;obtain ⟨ab,cb,rfl,_,_,_⟩:=hb.parts;clear hp ha hb hov hpr hf hq hfp ht he hpl hpl3 q1 q2 q3 hbd hll hqb hl hd0;have Hra:=hid hra;have H1:=hid h1;have H2:=hid h2;have H3:=hid h3;have H4:=hid h4;clear hra h1 h2 h3 h4;go_enter Tryz.func128,Tryz.ntmps128
  go_wp2_with fail
  refine Hra.out.mono ?_;rintro e w1 ⟨rfl,hx1⟩;have HE:Hid (Ext w (w1.alloc (.cells #[.string s1,.string s2] 102))):=hid (hx1.alloc _);clear hx1;go_wp2_with fail
  refine (H1.out _ HE.out).mono ?_;rintro e w2 ⟨tx,rfl,hx,hx2⟩;have Hx2:=hid (HE.out.trans hx2);clear hx2;obtain ⟨vc,vd,rfl,hp1,hf1⟩:=hx;obtain ⟨ac,cc,rfl,_,_,_⟩:=hp1.parts;obtain ⟨ad,cd,rfl,_,_,_⟩:=hf1.parts;have htx:TmV w2 (.agg #[.slice ac (zap (l.map Prod.fst)).length cc,.slice ad (zf1 (l.map Prod.snd)).length cd,.string (I (d:Int))]) l d:=⟨_,_,rfl,hp1,hf1⟩;clear hp1 hf1;generalize (zap (l.map Prod.fst)).length=n1 at *;generalize (zf1 (l.map Prod.snd)).length=n2 at *;generalize I (d:Int)=sd at *;have Htx:=hid htx;clear htx;go_wp2_with fail
  refine (H2.out _ Hx2.out).mono ?_;rintro e w3 ⟨ty,rfl,hy,hx3⟩;have Hx3:=hid (Hx2.out.trans hx3);have Htx3:=hid (Htx.out.ext hx3);clear hx3;obtain ⟨ve,vf,rfl,hp1,hf1⟩:=hy;obtain ⟨ae,ce,rfl,_,_,_⟩:=hp1.parts;obtain ⟨af,cf,rfl,_,_,_⟩:=hf1.parts;have hty:TmV w3 (.agg #[.slice ae (zap (([(2,1)]:List (Int × Int)).map Prod.fst)).length ce,.slice af (zf1 (([(2,1)]:List (Int × Int)).map Prod.snd)).length cf,.string (I ((1:Nat):Int))]) [(2,1)] 1:=⟨_,_,rfl,hp1,hf1⟩;clear hp1 hf1;generalize (zap (([(2,1)]:List (Int × Int)).map Prod.fst)).length=n3 at *;generalize (zf1 (([(2,1)]:List (Int × Int)).map Prod.snd)).length=n4 at *;generalize I ((1:Nat):Int)=se at *;have hE4:Ext w3 ((w3.alloc (.cells #[.slice ac n1 cc,.slice ad n2 cd,.string sd] 174)).alloc (.cells #[.slice ae n3 ce,.slice af n4 cf,.string se] 174)):=((Ext.refl w3).alloc _).alloc _;have HE4:=hid (Hx3.out.trans hE4);have H5:=hid (H3.out _ _ _ (Htx3.out.ext hE4) (hty.ext hE4));clear hE4 hty;go_wp2_with fail
  refine H5.out.mono ?_;rintro e w5 ⟨rfl,hx5⟩;have Hx5:=hid (HE4.out.trans hx5);clear hx5;go_wp2_with fail
  refine (H4.out _ Hx5.out).mono ?_;rintro e w6 ⟨rfl,hx6⟩;have Hx6:=hid (Hx5.out.trans hx6);clear hx6;go_wp2
  try rw [Exit.noGoto_ret]
  go_ret
  exact ⟨rfl,Hx6.out⟩
theorem zjR (vp va vb:Value)(p:List Int)(a:List Rat)(n:Nat)(w:World)(he:Env w)(hp:Sl w vp (zap p))(ha:Rd w va a)(hb:Rd w vb (ov n))(hpe:zcw p=0)(hpr:Pr p (n+1))(hal:a.length=n+1)(hf:∀ q∈a,Ft 30 q) :
  Calls Tryz.prog 127 #[vp,va,vb] w fun e w'=>e=.returned (.int .i64 0)∧Ext w w':=by
 have hpl:=zjN hpr;have hov:=zjM hpr;have hua:=zfh ha;have hub:=zfh hb;have hpl3:p.length≤3:=by rcases hpr with ⟨rfl,_⟩ | ⟨rfl,_⟩ <;> simp
 have h2:=fun W (h:Ext w W)=>zfJ vp vb p (ov n) W (he.ext h) (h.sl hp) (h.rd hb) (by omega) (by rw [zjP,hpl]) (fun q h=>(zjO q h).mono (by omega));rw [hov.1,hov.2] at h2;have hl3:RdM (w.alloc (.cells #[va,vb] 65)) (.slice (some ⟨w.heap.size,0,none⟩) 2 2) [⟨a,va,hua⟩,⟨ov n,vb,hub⟩] :=
  ⟨zj9 (us:=[va,vb]) (World.alloc_heap_new w _) (by unfold maxLen;simp),by
   intro r hr;rcases List.mem_cons.1 hr with rfl | hr
   ·exact ((Ext.refl w).alloc _).rd ha
   ·rw [List.mem_singleton] at hr;subst hr;exact ((Ext.refl w).alloc _).rd hb⟩
 have hbl:Ext w (w.alloc (.cells #[va,vb] 65)):=(Ext.refl w).alloc _;have h1:=zfo vp _ p [⟨a,va,hua⟩,⟨ov n,vb,hub⟩] _ (he.ext hbl) (hbl.sl hp) hl3 hpe (by simp) (by
   intro r hr;rcases List.mem_cons.1 hr with rfl | hr
   ·exact ⟨by rw [hpl];exact hal,hf⟩
   ·rw [List.mem_singleton] at hr;subst hr;exact ⟨by rw [hpl];exact zjP n,fun q h=>(zjO q h).mono (by omega)⟩)
 obtain ⟨ap,cp,rfl,_,_,_⟩:=hp.parts;obtain ⟨aa,ca,rfl,_,_,_⟩:=ha.parts;obtain ⟨ab,cb,rfl,_,_,_⟩:=hb.parts;clear hp ha hb he hpe hpr hf hov hl3 hua hub hpl hpl3 hal;have H1:=hid h1;have H2:=hid h2;have Hbl:=hid hbl;clear h1 h2 hbl;go_enter Tryz.func127,Tryz.ntmps127
 go_wp2_with fail
 refine H1.out.mono ?_;rintro e w1 ⟨rfl,hx1⟩;have Hx1:=hid (Hbl.out.trans hx1);clear hx1;go_wp2_with fail
 refine (H2.out w1 Hx1.out).mono ?_;rintro e w2 ⟨tv,rfl,ht,hx2⟩;have Hx2:=hid (Hx1.out.trans hx2);obtain ⟨vc,vd,rfl,hp1,hf1⟩:=ht;obtain ⟨ac,cc,rfl,_,_,_⟩:=hp1.parts;obtain ⟨ad,cd,rfl,_,_,_⟩:=hf1.parts;rw [show (zap (([(2,1)]:List (Int × Int)).map Prod.fst)).length=1 from rfl];clear hp1 hf1 hx2;have hfield:∀ (u v x:Value) W,(Instr.field 174 (.agg #[u,v,x]) 0).run Tryz.prog W=.ok u W:=fun u v x W=>rfl;rw [show (zf1 (([(2,1)]:List (Int × Int)).map Prod.snd)).length=1 from rfl];go_wp2
 go_ret
 exact ⟨rfl,Hx2.out⟩
theorem zjS (vp va vb:Value)(p:List Int)(a0:Rat)(tl:List Rat)(w:World)(he:Env w)(hp:Sl w vp (zap p))(ha:Rd w va (a0::tl))(hb:Rd w vb (ov tl.length))(hpe:zcw p=0)(hpr:Pr p (tl.length+1))(hf:∀ q∈a0::tl,Ft 30 q)(hq:QF p (a0::tl)) :
  Calls Tryz.prog 96 #[vp,va,vb] w fun e w'=>e=.returned (.tuple #[.string (I (flP p (a0::tl))),.int .i64 0])∧Ext w w':=by
 have h1:=zjR vp va vb p (a0::tl) tl.length w he hp ha hb hpe hpr rfl hf;have h2:=fun W (h:Ext w W)=>zjQ vp va vb p a0 tl W (he.ext h) (h.sl hp) (h.rd ha) (h.rd hb) hpr hf hq;generalize I (flP p (a0::tl))=sf at *;obtain ⟨ap,cp,rfl,_,_,_⟩:=hp.parts;obtain ⟨aa,ca,rfl,_,_,_⟩:=ha.parts;obtain ⟨ab,cb,rfl,_,_,_⟩:=hb.parts;clear hp ha hb he hpe hpr hf hq;have H1:=hid h1;have H2:=hid h2;clear h1 h2;go_enter Tryz.func96,Tryz.ntmps96
 go_wp2_with fail
 refine (H1.out).mono ?_;rintro e w1 ⟨rfl,hx1⟩;have Hx1:=hid hx1;clear hx1;go_wp2_with fail
 refine (H2.out w1 Hx1.out).mono ?_;rintro e w2 ⟨rfl,hx2⟩;have Hx2:=hid (Hx1.out.trans hx2);clear hx2;go_wp2
 go_ret2
 exact ⟨rfl,Hx2.out⟩
end
end Go.Proofs.YtipkdebkdnbieaaGreatDoor
