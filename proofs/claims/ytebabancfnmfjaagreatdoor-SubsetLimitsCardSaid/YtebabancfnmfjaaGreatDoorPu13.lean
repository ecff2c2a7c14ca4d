/- Walks: comparing sizes. Walks: downward, quotient: the floor of a quotient by the octave from a few bits. Walk: size.ratio where the second size is the octave. Walks: floor, Floor, Remainder by the octave. Plain: the floor over the octave, found from a few bits, is the floor of the linear form. Plain: sizes of the box with few octaves have small numbers. Plain: an insertion sort by a key; lists in order. Walks: scale's integer and reduce. Walks: scale's checkPeriod at the octave. Walks: a scale as a value; its period. Walk: scale.Check of a right scale. Walk: scale.note of a right scale. -/
import Derived.Test.YtebabancfnmfjaaGreatDoorPu12
import Derived.Test.YtebabancfnmfjaaGreatDoorPu06
import Derived.Deep.RegionHeld3
import Derived.Test.YtebabancfnmfjaaGreatDoorPu07
import Derived.Deep.DeepCutAuto
set_option maxRecDepth 100000
set_option maxHeartbeats 4000000
namespace Go.Proofs.YtebabancfnmfjaaGreatDoor
section
open Go.RowKit Go.Lib
attribute [local go_sem] Oper.semAt_some
def zht (p:List Int)(x:List Rat):Prop:=(∀ r∈x,Ft 30 r)∧(∀ e∈tms p (dn x) x,okE 10000000 e)∧zey (tms p (dn x) x)
theorem zhu (vp va vb:Value)(p:List Int)(x y:List Rat)(w:World)(he:Env w)(hp:Sl w vp (zal p))(ha:Rd w va x)(hb:Rd w vb y)(hpl:p.length≤100)(hx:x.length=p.length)(hy:y.length=p.length)(hxf:∀ q∈x,Ft 400 q)(hyf:∀ q∈y,Ft 400 q)(hq:zht p (zen x y)) :
  Calls Tryz.prog 151 #[vp,va,vb] w fun e w'=>e=.returned (.int .i64 (zex (tms p (dn (zen x y)) (zen x y))))∧Ext w w':=by
 have hua:=zfs ha;have hub:=zfs hb;have hsum:zgK p.length [x,y] [1,-1] 2=zen x y:=zgW hx hy;have hsl:(zen x y).length=p.length:=by unfold zen;rw [List.length_zipWith];omega
 have hco:∀ W vl vf,Ext w W→RdM W vl [⟨x,va,hua⟩,⟨y,vb,hub⟩]→Rd W vf [1,-1]→Calls Tryz.prog 156 #[.int .i64 (p.length:Int),vl,vf] W fun e w'=>∃ g,e=.returned (.slice (some ⟨g,0,none⟩) p.length p.length)∧zfo w' W.heap.size (.slice (some ⟨g,0,none⟩) p.length p.length) (zen x y)∧Ext W w':=by
  intro W vl vf hE hl hf;have:=zhf p.length vl vf [⟨x,va,hua⟩,⟨y,vb,hub⟩] [1,-1] W (he.ext hE) hl hf (by omega) (by simp) (by simp) (by
   intro r hr;rcases List.mem_cons.1 hr with rfl | hr
   ·exact ⟨hx,hxf⟩
   ·rw [List.mem_singleton] at hr;subst hr;exact ⟨hy,hyf⟩) (by
   intro f hf;simp only [List.mem_cons,List.not_mem_nil,or_false] at hf;rcases hf with rfl | rfl
   ·exact zhl
   ·exact zhm)
  change Calls _ _ _ _ fun e w'=>e=.returned (.slice (some ⟨W.heap.size,0,none⟩) p.length p.length)∧zfo w' W.heap.size (.slice (some ⟨W.heap.size,0,none⟩) p.length p.length) (zgK p.length [x,y] [1,-1] 2)∧Ext W w' at this;rw [hsum] at this;exact this.mono fun e w' h=>⟨_,h⟩
 have hn1:=fun W (h:Ext w W)=>zfu 1 W (he.ext h) (by omega) (by omega);have hn2:=fun W (h:Ext w W)=>zfu (-1) W (he.ext h) (by omega) (by omega);rw [zft] at hn1 hn2;have hlt:=zfZ (p:=p) (d:=dn (zen x y)) (x:=zen x y);rw [hsl] at hlt;have htm:=fun W v (hE:Ext w W)(hv:Rd W v (zen x y))=>zgd vp v p (zen x y) W (he.ext hE) (hE.sl hp) hv hpl hsl hq.1;have hts:=fun W tv (ht:TmV W tv (tms p (dn (zen x y)) (zen x y)) (dn (zen x y)))=>zhr tv _ _ W ht (by have:=hlt;omega) hq.2.1 hq.2.2;generalize zex (tms p (dn (zen x y)) (zen x y))=sg at *;have hra:=fun W (h:Ext w W)=>h.rd ha;have hrb:=fun W (h:Ext w W)=>h.rd hb;have hbl:Ext w (w.alloc (.cells #[va,vb] 41)):=(Ext.refl w).alloc _;have hbc:(w.alloc (.cells #[va,vb] 41)).heap[w.heap.size]?=some (.cells ([va,vb]:List Value).toArray 41 (0,0)):=World.alloc_heap_new w _;have hone:rcs [1,-1]=[.string (I 1),.string ⟨#[49]⟩,.string (I (-1)),.string ⟨#[49]⟩]:=by
  show [Value.string (I 1),.string (I ((1:Nat):Int)),.string (I (-1)),.string (I ((1:Nat):Int))]=_;rw [zaw,zbm]
 obtain ⟨ap,cp,rfl,_,_,_⟩:=hp.parts;obtain ⟨aa,ca,rfl,_,_,_⟩:=ha.parts;obtain ⟨ab,cb,rfl,_,_,_⟩:=hb.parts;rw [zan] at htm ⊢;generalize I 1=s1 at *;generalize I (-1)=s2 at *;clear hp ha hb he hxf hyf hq hsum hsl hlt;clear hpl;have Hxl:=hid hx;have Hyl:=hid hy;clear hx hy;have Hco:=hid hco;have Hn1:=hid hn1;have Hn2:=hid hn2;have Hra:=hid hra;have Hrb:=hid hrb;have Hbl:=hid hbl;have Hbc:=hid hbc;have Hone:=hid hone;have Htm:=hid htm;have Hts:=hid hts;clear hco hn1 hn2 hra hrb hbl hbc hone htm hts;go_enter Tryz.func151,Tryz.ntmps151
 go_wp2_with fail
 refine (Hn1.out _ Hbl.out).mono ?_;rintro e w1 ⟨rfl,hx1⟩;have Hx1:=hid (Hbl.out.trans hx1);have Hb1:=hid (hx1.heap Hbc.out);clear hx1;go_wp2_with fail
 refine (Hn2.out w1 Hx1.out).mono ?_;rintro e w2 ⟨rfl,hx2⟩;have hx3:Ext w2 (w2.alloc (.cells #[.string s1,.string ⟨#[49]⟩,.string s2,.string ⟨#[49]⟩] 65)):=(Ext.refl w2).alloc _;have hE3:Ext w (w2.alloc (.cells #[.string s1,.string ⟨#[49]⟩,.string s2,.string ⟨#[49]⟩] 65)):=(Hx1.out.trans hx2).trans hx3;have hl3:RdM (w2.alloc (.cells #[.string s1,.string ⟨#[49]⟩,.string s2,.string ⟨#[49]⟩] 65)) (.slice (some ⟨w.heap.size,0,none⟩) 2 2) [⟨x,.slice aa x.length ca,hua⟩,⟨y,.slice ab y.length cb,hub⟩] :=
  ⟨zhg ((hx2.trans hx3).heap Hb1.out) (by unfold maxLen;simp),by
   intro r hr;rcases List.mem_cons.1 hr with rfl | hr
   ·exact Hra.out _ hE3
   ·rw [List.mem_singleton] at hr;subst hr;exact Hrb.out _ hE3⟩
 have hf3:Rd (w2.alloc (.cells #[.string s1,.string ⟨#[49]⟩,.string s2,.string ⟨#[49]⟩] 65)) (.slice (some ⟨w2.heap.size,0,none⟩) 2 2) [1,-1] :=
  zhh (x:=[1,-1]) (by rw [Hone.out];exact World.alloc_heap_new w2 _) (by unfold maxLen;simp)
 have hcc:=Hco.out _ _ _ hE3 hl3 hf3;have Hcc:=hid hcc;have HE3:=hid hE3;clear hx2 hx3 hl3 hf3 hcc hE3;go_wp2_with fail
 refine Hcc.out.mono ?_;rintro e w4 ⟨g,rfl,ho4,hx4⟩;have Ho4:=hid ho4.rd;have Hx4:=hid (HE3.out.trans hx4);clear ho4 hx4;go_wp2_with fail
 refine (Htm.out w4 _ Hx4.out Ho4.out).mono ?_;rintro e w5 ⟨tv,rfl,ht,hx5⟩;have Hx5:=hid (Hx4.out.trans hx5);have H6:=hid (Hts.out w5 tv ht);obtain ⟨_,_,rfl,_,_⟩:=ht;clear hx5;go_wp2_with fail
 refine (H6.out).mono ?_;rintro e w6 ⟨rfl,hx6⟩;have Hx6:=hid (Hx5.out.trans hx6);clear hx6;go_wp2
 go_ret
 exact ⟨rfl,Hx6.out⟩
theorem zhv (vp va vb:Value)(p:List Int)(x y:List Rat)(w:World)(he:Env w)(hp:Sl w vp (zal p))(ha:Rd w va x)(hb:Rd w vb y)(hpe:zeT p=0)(hpl:p.length≤100)(hx:x.length=p.length)(hy:y.length=p.length)(hxf:∀ q∈x,Ft 30 q)(hyf:∀ q∈y,Ft 30 q)(hq:zht p (zen x y)) :
  Calls Tryz.prog 92 #[vp,va,vb] w fun e w'=>e=.returned (.tuple #[.int .i64 (zex (tms p (dn (zen x y)) (zen x y))),.int .i64 0])∧Ext w w':=by
 have hua:=zfs ha;have hub:=zfs hb;have h1:=fun W vl (hE:Ext w W)(hl:RdM W vl [⟨x,va,hua⟩,⟨y,vb,hub⟩])=>zf9 vp vl p [⟨x,va,hua⟩,⟨y,vb,hub⟩] W (he.ext hE) (hE.sl hp) hl hpe (by simp) (by
   intro r hr;rcases List.mem_cons.1 hr with rfl | hr
   ·exact ⟨hx,hxf⟩
   ·rw [List.mem_singleton] at hr;subst hr;exact ⟨hy,hyf⟩)
 have h2:=fun W (hE:Ext w W)=>zhu vp va vb p x y W (he.ext hE) (hE.sl hp) (hE.rd ha) (hE.rd hb) hpl hx hy (fun q h=>(hxf q h).mono (by omega)) (fun q h=>(hyf q h).mono (by omega)) hq;generalize zex (tms p (dn (zen x y)) (zen x y))=sg at *;have hl3:RdM (w.alloc (.cells #[va,vb] 41)) (.slice (some ⟨w.heap.size,0,none⟩) 2 2) [⟨x,va,hua⟩,⟨y,vb,hub⟩] :=
  ⟨zhg (us:=[va,vb]) (World.alloc_heap_new w _) (by unfold maxLen;simp),by
   intro r hr;rcases List.mem_cons.1 hr with rfl | hr
   ·exact ((Ext.refl w).alloc _).rd ha
   ·rw [List.mem_singleton] at hr;subst hr;exact ((Ext.refl w).alloc _).rd hb⟩
 have hbl:Ext w (w.alloc (.cells #[va,vb] 41)):=(Ext.refl w).alloc _;have h3:=h1 _ _ hbl hl3;clear h1 hl3;obtain ⟨ap,cp,rfl,_,_,_⟩:=hp.parts;obtain ⟨aa,ca,rfl,_,_,_⟩:=ha.parts;obtain ⟨ab,cb,rfl,_,_,_⟩:=hb.parts;clear hp ha hb he hxf hyf hq hpe;have Hxl:=hid hx;have Hyl:=hid hy;clear hx hy;have H2:=hid h2;have H3:=hid h3;have Hbl:=hid hbl;clear h2 h3 hbl;go_enter Tryz.func92,Tryz.ntmps92
 go_wp2_with fail
 refine H3.out.mono ?_;rintro e w1 ⟨rfl,hx1⟩;have Hx1:=hid (Hbl.out.trans hx1);clear hx1;go_wp2_with fail
 refine (H2.out w1 Hx1.out).mono ?_;rintro e w2 ⟨rfl,hx2⟩;have Hx2:=hid (Hx1.out.trans hx2);clear hx2;go_wp2
 go_ret2
 exact ⟨rfl,Hx2.out⟩
theorem zhw {a b:Int}{m:Int}(hb:0<b)(h0:-m≤a)(h1:a≤m)(hm:0≤m):-m≤a / b∧a / b≤m:=by
 constructor
 ·rw [Int.le_ediv_iff_mul_le hb];have:=Int.mul_le_mul_of_nonneg_left (show (1:Int)≤b by omega) hm;rw [Int.neg_mul];omega
 ·have:a / b≤m / b:=Int.ediv_le_ediv hb h1;have h2:m / b≤m:=Int.ediv_le_self _ hm;omega
end
section
open Go.RowKit Go.Lib
def ov (n:Nat):List Rat:=1::List.replicate n 0
end
section
open Go.RowKit Go.Lib
attribute [local go_sem] Oper.semAt_some
def flP (p:List Int)(x:List Rat):Int:=if x.tail.all (· == 0) then (x.headD 0).floor else zdZ (tms p (dn x) x) / (67108864 * ((dn x:Nat):Int))
theorem zhx {p:List Int}{n:Nat}(hp:Pr p (n+1)):tms p (dn (ov n)) (ov n)=[(2,1)]∧dn (ov n)=1:=by
 rcases hp with ⟨rfl,h⟩ | ⟨rfl,h⟩
 ·obtain rfl:n=1:=by omega
  exact ⟨by decide +kernel,by decide +kernel⟩
 ·obtain rfl:n=2:=by omega
  exact ⟨by decide +kernel,by decide +kernel⟩
theorem zhy {p:List Int}{n:Nat}(hp:Pr p n):p.length=n:=by rcases hp with ⟨rfl,rfl⟩ | ⟨rfl,rfl⟩ <;> rfl
theorem zhz {n:Nat}:∀ q∈ov n,Ft 1 q:=by
 intro q hq;unfold ov at hq;rcases List.mem_cons.1 hq with rfl | h
 ·exact zhk
 ·obtain rfl:=List.eq_of_mem_replicate h;exact zgN
theorem zh0 (n:Nat):(ov n).length=n+1:=by unfold ov;simp
end
section
theorem zh1 {a:Rat}(h:a.den=1)(tl:List Rat):dn (a::tl)=tl.foldl (fun d r=>Nat.lcm d r.den) 1:=by
 unfold dn;rw [List.foldl_cons,h];rfl
theorem zh2 {ps:List Int}{a:Rat}{tl:List Rat}{A:Int}(hA:a=A)(m:Int) :
  dn ((a - (m:Rat))::tl)=dn (a::tl) ∧
  zeb ((2::ps).zip (fcd (dn (a::tl)) ((a - (m:Rat))::tl)))=zeb ((2::ps).zip (fcd (dn (a::tl)) (a::tl))) - m * (67108864 * (dn (a::tl):Int)) ∧
  zec ((2::ps).zip (fcd (dn (a::tl)) ((a - (m:Rat))::tl)))=zec ((2::ps).zip (fcd (dn (a::tl)) (a::tl))):=by
 have hm:a - (m:Rat)=((A - m:Int):Rat):=by rw [hA,Rat.intCast_sub]
 obtain ⟨n1,d1⟩:=ze1 hA;obtain ⟨n2,d2⟩:=ze1 hm;refine ⟨by rw [zh1 d1,zh1 d2],?_,?_⟩
 ·simp only [fcd,List.map_cons,List.zip_cons_cons,zeb,n1,n2,d1,d2,Nat.div_one];rw [show lg 2=67108864 by decide,Int.sub_mul,Int.sub_mul,Int.mul_comm 67108864,← Int.mul_assoc];omega
 ·simp only [fcd,List.map_cons,List.zip_cons_cons,zec,if_pos]
theorem zh3 {M E D lo hi:Int}(hD:0<D)(h1:M - E≤lo)(h2:lo≤M)(h3:M≤hi)(h4:hi≤M+E)(_:0≤E)(hf:∀ m:Int,E<(M - m * D).natAbs) :
  lo / D=M / D∧hi / D=M / D:=by
 have e1:=Int.mul_ediv_add_emod M D;have e2:=Int.emod_nonneg M (show D ≠ 0 by omega);have e3:=Int.emod_lt_of_pos M hD;have f1:=hf (M / D);have f2:=hf (M / D+1);generalize hq:M / D=q at *;generalize M % D=r at *;have g1:M - q * D=r:=by rw [Int.mul_comm q D];omega
 have g2:M - (q+1) * D=r - D:=by rw [Int.add_mul,Int.one_mul,Int.mul_comm q D];omega
 rw [g1] at f1;rw [g2] at f2;constructor
 ·have:lo=(r - (M - lo))+D * q:=by omega
  rw [this,Int.add_mul_ediv_left _ _ (by omega),Int.ediv_eq_zero_of_lt (by omega) (by omega)];omega
 ·have:hi=(r+(hi - M))+D * q:=by omega
  rw [this,Int.add_mul_ediv_left _ _ (by omega),Int.ediv_eq_zero_of_lt (by omega) (by omega)];omega
theorem zh4 (l:List (Int × Int)):0≤zec l:=by
 induction l with
 | nil=>simp [zec]
 | cons e l ih =>
  simp only [zec]
  split <;> omega
theorem zh5 {p:List Int}{a:Rat}{tl:List Rat}(hp:Pr p (a::tl).length)(hb:Bx 256 (a::tl))(hne:¬ ∀ r∈tl,r=0) :
  zdZ (tms p (dn (a::tl)) (a::tl)) / (67108864 * ((dn (a::tl):Nat):Int))=zeb (p.zip (fcd (dn (a::tl)) (a::tl))) / (67108864 * ((dn (a::tl):Nat):Int)) ∧
  zea (tms p (dn (a::tl)) (a::tl)) / (67108864 * ((dn (a::tl):Nat):Int))=zeb (p.zip (fcd (dn (a::tl)) (a::tl))) / (67108864 * ((dn (a::tl):Nat):Int)):=by
 obtain ⟨ps,hps⟩:∃ ps,p=2::ps:=by rcases hp with ⟨rfl,_⟩ | ⟨rfl,_⟩ <;> exact ⟨_,rfl⟩
 obtain ⟨A,hA⟩:∃ A:Int,a=A:=by
  rcases hp with ⟨_,h⟩ | ⟨_,h⟩
  ·match tl,h,hb with
   | [b],_,⟨A,_,h1,_⟩=>exact ⟨A,h1⟩
  ·match tl,h,hb with
   | [b,c],_,⟨A,_,_,h1,_⟩=>exact ⟨A,h1⟩
 have hbm:∀ m:Int,Bx 256 ((a - (m:Rat))::tl):=fun m=>by
  have hm:a - (m:Rat)=((A - m:Int):Rat):=by rw [hA,Rat.intCast_sub]
  rcases hp with ⟨_,h⟩ | ⟨_,h⟩
  ·match tl,h,hb with
   | [b],_,⟨_,B,_,h2⟩=>exact ⟨A - m,B,hm,h2⟩
  ·match tl,h,hb with
   | [b,c],_,⟨_,B,C,_,h2⟩=>exact ⟨A - m,B,C,hm,h2⟩
 have hd:=zel (a::tl);have d0:=zeh (p.zip (fcd (dn (a::tl)) (a::tl)));have hbd:=zeg (tms p (dn (a::tl)) (a::tl));have hfar:∀ m:Int,zec (p.zip (fcd (dn (a::tl)) (a::tl)))<(zeb (p.zip (fcd (dn (a::tl)) (a::tl))) - m * (67108864 * ((dn (a::tl):Nat):Int))).natAbs:=fun m=>by
  have hs:=zh2 (ps:=ps) (tl:=tl) hA m;rw [← hps] at hs;have hl:((a - (m:Rat))::tl).length=(a::tl).length:=by simp
  have hf:=zeA (p:=p) (by rw [hl];exact hp) (hbm m);rcases hf with h | h
  ·exfalso;have:=zeC (p:=p) (by rw [hl];exact hp) h;exact hne fun r hr=>this r (List.mem_cons_of_mem _ hr)
  ·rw [hs.1] at h;have d1:=zeh (p.zip (fcd (dn (a::tl)) ((a - (m:Rat))::tl)));unfold tms at h;rw [d1.2.2.1,d1.2.2.2,hs.2.1,hs.2.2] at h;exact h
 have hm1:zeb (tms p (dn (a::tl)) (a::tl))=zeb (p.zip (fcd (dn (a::tl)) (a::tl))):=d0.2.2.1;have he1:zec (tms p (dn (a::tl)) (a::tl))=zec (p.zip (fcd (dn (a::tl)) (a::tl))):=d0.2.2.2;rw [hm1,he1] at hbd;exact zh3 (by omega) hbd.1 hbd.2.1 hbd.2.2.1 hbd.2.2.2 (zh4 _) hfar
theorem zh6 {M:Int}{d:Nat}{s:Rat}(hd:0<d)(h:((M:Int):Rat)=(d:Rat) * s):M / (67108864 * (d:Int))=(s / 67108864).floor:=by
 have hD:(0:Int)<67108864 * (d:Int):=by omega
 have hq:∀ z:Int,z≤M / (67108864 * (d:Int)) ↔ z≤(s / 67108864).floor:=fun z=>by
  rw [Int.le_ediv_iff_mul_le hD,Rat.le_floor_iff,← Rat.intCast_le_intCast,h,Rat.intCast_mul,Rat.intCast_mul,Rat.intCast_natCast];have hd':(0:Rat)<(d:Rat):=Rat.natCast_pos.2 hd;constructor
  ·intro g;have g2:(d:Rat) * ((z:Rat) * 67108864)≤(d:Rat) * s:=by
    have e:(d:Rat) * ((z:Rat) * 67108864)=(z:Rat) * (((67108864:Int):Rat) * (d:Rat)):=by
     rw [show ((67108864:Int):Rat)=67108864 from rfl];grind
    rw [e];exact g
   have g3:(z:Rat) * 67108864≤s:=Rat.le_of_mul_le_mul_left g2 hd';grind
  ·intro g;have g3:(z:Rat) * 67108864≤s:=(by grind);have g2:(d:Rat) * ((z:Rat) * 67108864)≤(d:Rat) * s:=Rat.mul_le_mul_of_nonneg_left g3 (by grind);have e:(d:Rat) * ((z:Rat) * 67108864)=(z:Rat) * (((67108864:Int):Rat) * (d:Rat)):=by
    rw [show ((67108864:Int):Rat)=67108864 from rfl];grind
   rw [← e];exact g2
 have h1:=(hq (M / (67108864 * (d:Int)))).1 (Int.le_refl _);have h2:=(hq (s / 67108864).floor).2 (Int.le_refl _);omega
theorem zh7 {p:List Int}{a:Rat}{tl:List Rat}(hp:Pr p (a::tl).length)(hb:Bx 256 (a::tl)∨∀ r∈tl,r=0):flP p (a::tl)=(sF p (a::tl) / 67108864).floor:=by
 have hall:(tl.all (· == 0)=true) ↔ ∀ r∈tl,r=0:=by rw [List.all_eq_true];simp
 unfold flP;rw [List.tail_cons];by_cases h:∀ r∈tl,r=0
 ·rw [if_pos (hall.2 h)];obtain ⟨ps,hps⟩:∃ ps,p=2::ps:=by rcases hp with ⟨rfl,_⟩ | ⟨rfl,_⟩ <;> exact ⟨_,rfl⟩
  have e:sF p (a::tl)=a * 67108864:=by
   rw [hps,sF,zeD ps tl h,show lg 2=67108864 by decide];show a * ((67108864:Int):Rat)+0=_;rw [show ((67108864:Int):Rat)=67108864 from rfl];grind
  have e2:sF p (a::tl) / 67108864=a:=by rw [e];grind
  rw [e2];rfl
 ·rw [if_neg (fun g=>h (hall.1 g)),(zh5 hp (hb.resolve_right h) h).1];exact zh6 (zel _) (zej _ p _ (zek _))
theorem zh8 {r:Rat}(h1:r.num.natAbs≤100000000)(h2:r.den≤1000000):Ft 30 r :=
 ⟨Dec.nDigits_le (by omega) (Nat.lt_of_le_of_lt h1 (by decide)),Dec.nDigits_le (by omega) (Nat.lt_of_le_of_lt h2 (by decide))⟩
theorem zh9 {p:List Int}{d:Nat}{x:List Rat}{e:Int × Int}(h:e∈tms p d x):e∈p.zip (fcd d x):=(List.mem_filter.1 h).1
structure Ok (m:Int)(p:List Int)(x:List Rat):Prop where
 ft:∀ r∈x,Ft 30 r
 small:∀ e∈tms p (dn x) x,okE m e
 den:dn x≤2
theorem zhA {m:Int}{p:List Int}{x:List Rat}(hp:Pr p x.length)(h:Bx 256 x)(hm:512≤m)(hm2:m≤1000000)(hA:∀ a,x.head?=some a→-m≤2 * a.num∧2 * a.num≤m):Ok m p x:=by
 rcases hp with ⟨rfl,hl⟩ | ⟨rfl,hl⟩
 ·match x,hl,h with
  | [a,b],_,⟨A,B,ha,hb,h1,h2⟩ =>
   obtain ⟨ha1,ha2⟩:=ze1 ha
   have hA':=hA a rfl
   rw [ha1] at hA'
   rcases ze2 hb with ⟨hb1,hb2⟩ | ⟨hb1,hb2⟩
   ·have e:[(2:Int),3].zip (fcd (dn [a,b]) [a,b])=[(2,A),(3,b.num)]:=by
     simp [dn,fcd,ha1,ha2,hb1]
    refine ⟨?_,?_,by simp [dn,ha2,hb1]⟩
    ·intro r hr
     simp only [List.mem_cons,List.not_mem_nil,or_false] at hr
     rcases hr with rfl | rfl
     ·exact zh8 (by omega) (by omega)
     ·exact zh8 (by omega) (by omega)
    ·intro q hq
     have:=zh9 hq
     rw [e] at this
     simp only [List.mem_cons,List.not_mem_nil,or_false] at this
     rcases this with rfl | rfl
     ·exact ⟨.inl rfl,by dsimp only;omega,by dsimp only;omega⟩
     ·exact ⟨.inr (.inl rfl),by dsimp only;omega,by dsimp only;omega⟩
   ·have e:[(2:Int),3].zip (fcd (dn [a,b]) [a,b])=[(2,A * 2),(3,B)]:=by
     simp [dn,fcd,ha1,ha2,hb1,hb2,Nat.lcm]
    refine ⟨?_,?_,by simp [dn,ha2,hb1,Nat.lcm]⟩
    ·intro r hr
     simp only [List.mem_cons,List.not_mem_nil,or_false] at hr
     rcases hr with rfl | rfl
     ·exact zh8 (by omega) (by omega)
     ·exact zh8 (by omega) (by omega)
    ·intro q hq
     have:=zh9 hq
     rw [e] at this
     simp only [List.mem_cons,List.not_mem_nil,or_false] at this
     rcases this with rfl | rfl
     ·exact ⟨.inl rfl,by dsimp only;omega,by dsimp only;omega⟩
     ·exact ⟨.inr (.inl rfl),by dsimp only;omega,by dsimp only;omega⟩
 ·match x,hl,h with
  | [a,b,c],_,⟨A,B,C,ha,hb,hc,h1,h2,h3,h4⟩ =>
   obtain ⟨ha1,ha2⟩:=ze1 ha
   obtain ⟨hc1,hc2⟩:=ze1 hc
   have hA':=hA a rfl
   rw [ha1] at hA'
   rcases ze2 hb with ⟨hb1,hb2⟩ | ⟨hb1,hb2⟩
   ·have e:[(2:Int),3,5].zip (fcd (dn [a,b,c]) [a,b,c])=[(2,A),(3,b.num),(5,C)]:=by
     simp [dn,fcd,ha1,ha2,hb1,hc1,hc2]
    refine ⟨?_,?_,by simp [dn,ha2,hb1,hc2]⟩
    ·intro r hr
     simp only [List.mem_cons,List.not_mem_nil,or_false] at hr
     rcases hr with rfl | rfl | rfl
     ·exact zh8 (by omega) (by omega)
     ·exact zh8 (by omega) (by omega)
     ·exact zh8 (by omega) (by omega)
    ·intro q hq
     have:=zh9 hq
     rw [e] at this
     simp only [List.mem_cons,List.not_mem_nil,or_false] at this
     rcases this with rfl | rfl | rfl
     ·exact ⟨.inl rfl,by dsimp only;omega,by dsimp only;omega⟩
     ·exact ⟨.inr (.inl rfl),by dsimp only;omega,by dsimp only;omega⟩
     ·exact ⟨.inr (.inr rfl),by dsimp only;omega,by dsimp only;omega⟩
   ·have e:[(2:Int),3,5].zip (fcd (dn [a,b,c]) [a,b,c])=[(2,A * 2),(3,B),(5,C * 2)]:=by
     simp [dn,fcd,ha1,ha2,hb1,hb2,hc1,hc2,Nat.lcm]
    refine ⟨?_,?_,by simp [dn,ha2,hb1,hc2,Nat.lcm]⟩
    ·intro r hr
     simp only [List.mem_cons,List.not_mem_nil,or_false] at hr
     rcases hr with rfl | rfl | rfl
     ·exact zh8 (by omega) (by omega)
     ·exact zh8 (by omega) (by omega)
     ·exact zh8 (by omega) (by omega)
    ·intro q hq
     have:=zh9 hq
     rw [e] at this
     simp only [List.mem_cons,List.not_mem_nil,or_false] at this
     rcases this with rfl | rfl | rfl
     ·exact ⟨.inl rfl,by dsimp only;omega,by dsimp only;omega⟩
     ·exact ⟨.inr (.inl rfl),by dsimp only;omega,by dsimp only;omega⟩
     ·exact ⟨.inr (.inr rfl),by dsimp only;omega,by dsimp only;omega⟩
theorem Ok.quick {m:Int}{p:List Int}{x:List Rat}(h:Ok m p x)(hp:Pr p x.length)(hm:m≤10000000)(hb:Bx 256 x):zht p x :=
 ⟨h.ft,fun e he=>zgA (h.small e he) hm,zeA hp hb⟩
section
variable {α : Type} (key : α → Rat)
def SAt (ps:List α)(i k:Nat):Prop:=∀ a b x y,a<b→b≤i→b ≠ k→ps[a]?=some x→ps[b]?=some y→key x≤key y
def STo (ps:List α)(i:Nat):Prop:=∀ a b x y,a<b→b<i→ps[a]?=some x→ps[b]?=some y→key x≤key y
variable {key}
theorem zhB (ps:List α):STo key ps 1:=fun a b x y h1 h2=>by omega
theorem zhC {ps:List α}{i:Nat}(h:STo key ps i):SAt key ps i i:=fun a b x y h1 h2 h3=>h a b x y h1 (by omega)
theorem zhD {ps:List α}{i:Nat}(h:SAt key ps i 0):STo key ps (i+1):=fun a b x y h1 h2=>h a b x y h1 (by omega) (by omega)
theorem zhE {ps:List α}{i k:Nat}{x y:α}(h:SAt key ps i (k+1))(hx:ps[k+1]?=some x)(hy:ps[k]?=some y)(hle:key y≤key x):STo key ps (i+1):=by
 intro a b u v h1 h2 ha hb;by_cases hbk:b=k+1
 ·subst hbk;rw [hx] at hb;cases hb;by_cases hak:a=k
  ·subst hak;rw [hy] at ha;cases ha;exact hle
  ·exact Rat.le_trans (h a k u y (by omega) (by omega) (by omega) ha hy) hle
 ·exact h a b u v h1 (by omega) hbk ha hb
theorem zhF {l:List α}{k:Nat}{x y:α}(hx:l[k+1]?=some x)(j:Nat):((l.set (k+1) y).set k x)[j]?=if j=k then some x else if j=k+1 then some y else l[j]?:=by
 have hl:k+1<l.length:=(List.getElem?_eq_some_iff.1 hx).1;rw [List.getElem?_set,List.getElem?_set,List.length_set];by_cases h1:k=j
 ·rw [if_pos h1,if_pos h1.symm,if_pos (by omega)]
 ·rw [if_neg h1,if_neg (c:=j=k) (fun h=>h1 h.symm)];by_cases h2:k+1=j
  ·rw [if_pos h2,if_pos h2.symm,if_pos (by omega)]
  ·rw [if_neg h2,if_neg (c:=j=k+1) (fun h=>h2 h.symm)]
theorem zhG {ps:List α}{i k:Nat}{x y:α}(h:SAt key ps i (k+1))(hx:ps[k+1]?=some x)(hy:ps[k]?=some y)(hlt:key x≤key y):SAt key ((ps.set (k+1) y).set k x) i k:=by
 intro a b u v h1 h2 h3 ha hb;rw [zhF hx] at ha hb;rw [if_neg h3] at hb;by_cases hb1:b=k+1
 ·rw [if_pos hb1] at hb
  cases hb
  by_cases ha1:a=k
  ·rw [if_pos ha1] at ha
   cases ha
   exact hlt
  ·rw [if_neg ha1,if_neg (by omega)] at ha;exact h a k u y (by omega) (by omega) (by omega) ha hy
 ·rw [if_neg hb1] at hb;by_cases ha1:a=k
  ·rw [if_pos ha1] at ha
   cases ha
   exact h (k+1) b x v (by omega) h2 hb1 hx hb
  ·rw [if_neg ha1] at ha;by_cases ha2:a=k+1
   ·rw [if_pos ha2] at ha
    cases ha
    exact h k b y v (by omega) h2 hb1 hy hb
   ·rw [if_neg ha2] at ha;exact h a b u v h1 h2 hb1 ha hb
theorem zhH : ∀ {l:List α}{k:Nat}{x y:α},l[k+1]?=some x→l[k]?=some y→((l.set (k+1) y).set k x).Perm l
 | [],_,_,_,h,_=>by simp at h
 | [_],0,_,_,h,_=>by simp at h
 | b::a::t,0,x,y,h1,h2=>by
  simp at h1 h2;subst h1 h2;exact List.Perm.swap ..
 | c::t,k+1,x,y,h1,h2=>by
  simp only [List.getElem?_cons_succ] at h1 h2;simp only [List.set_cons_succ];exact (zhH h1 h2).cons c
theorem zhI {ps:List α}(h:STo key ps ps.length):ps.Pairwise fun x y=>key x≤key y:=by
 rw [List.pairwise_iff_getElem];intro i j hi hj hij;exact h i j _ _ hij hj (List.getElem?_eq_getElem hi) (List.getElem?_eq_getElem hj)
end
def Srt (p:List Int)(N:List (List Rat)):Prop:=N.Pairwise fun x y=>sF p x<sF p y
theorem zhJ {p:List Int}:∀ {N M:List (List Rat)},Srt p N→Srt p M→(∀ x,x∈N ↔ x∈M)→N=M
 | [],[],_,_,_=>rfl
 | [],b::M,_,_,h=>by have:=(h b).2 (List.mem_cons_self ..);cases this
 | a::N,[],_,_,h=>by have:=(h a).1 (List.mem_cons_self ..);cases this
 | a::N,b::M,h1,h2,h=>by
  have h1':=h1;have h2':=h2;unfold Srt at h1' h2';rw [List.pairwise_cons] at h1' h2';have e:a=b:=by
   rcases List.mem_cons.1 ((h a).1 (List.mem_cons_self ..)) with e | ha
   ·exact e
   ·rcases List.mem_cons.1 ((h b).2 (List.mem_cons_self ..)) with e | hb
    ·exact e.symm
    ·have g1:=h2'.1 a ha;have g2:=h1'.1 b hb;exfalso;grind
  subst e;rw [zhJ (N:=N) (M:=M) h1'.2 h2'.2 fun x=>?_];constructor
  ·intro hx;rcases List.mem_cons.1 ((h x).1 (List.mem_cons_of_mem _ hx)) with rfl | g
   ·have:=h1'.1 x hx;exfalso;grind
   ·exact g
  ·intro hx;rcases List.mem_cons.1 ((h x).2 (List.mem_cons_of_mem _ hx)) with rfl | g
   ·have:=h2'.1 x hx;exfalso;grind
   ·exact g
theorem zhK {p:List Int}{N M:List (List Rat)}(h:N.Perm M)(h1:N.Pairwise fun x y=>sF p x≤sF p y)(h2:M.Nodup)(h3:∀ x∈M,∀ y∈M,sF p x=sF p y→x=y):Srt p N:=by
 have hn:N.Nodup:=h.nodup_iff.2 h2;unfold Srt;have:=List.Pairwise.and h1 hn;refine List.Pairwise.imp_of_mem ?_ this;intro a b ha hb ⟨g1,g2⟩;have:sF p a ≠ sF p b:=fun e=>g2 (h3 a (h.mem_iff.1 ha) b (h.mem_iff.1 hb) e);grind
end
section
open Go.RowKit Go.Lib
attribute [local go_sem] Oper.semAt_some
theorem zhL (n:Int)(w:World)(he:Env w)(h0:-9223372036854775808≤n)(h1:n≤9223372036854775807) :
  Calls Tryz.prog 94 #[.int .i64 n] w fun e w'=>e=.returned (Rv (n:Rat))∧Ext w w':=by
 have ho:=fun W (h:Ext w W)=>zaM n h0 h1 W (he.ext h);rw [zft];generalize I n=s at *;have b2:=zd3.new w (.string ⟨#[]⟩) (.string ⟨#[]⟩);have hE:Ext w (w.alloc (.cells #[.string ⟨#[]⟩,.string ⟨#[]⟩] 65)):=(Ext.refl _).alloc _;have hk:Kp0 w (w.alloc (.cells #[.string ⟨#[]⟩,.string ⟨#[]⟩] 65)) w.heap.size:=⟨hE,_,_,b2⟩;clear b2 he;have Ho:=hid ho;have HE:=hid hE;have Hk:=hid hk;clear ho hE hk;go_enter Tryz.func94,Tryz.ntmps94
 go_wp2_with fail
 refine (Ho.out _ HE.out).mono ?_;rintro e W4 ⟨rfl,hxa⟩;have hkk:=Hk.out.ext hxa;have Hkk:=hid hkk;clear hkk;clear hxa;have hc0:=(Hkk.out).res.c0;have hc1:=(Hkk.out).res.c1;have hz0:=(Hkk.out).res.fz 0;have hz1:=(Hkk.out).res.fz 1;obtain ⟨hb,hfx⟩:=(Hkk.out).fin (by omega) (.string s) (.string ⟨#[49]⟩);have Hb:=hid hb;have Hfx:=hid hfx;clear hb hfx;go_wp2_with fail
 have hd0:=Hb.out.c0;have hd1:=Hb.out.c1;exact bodyPost_ret (v:=.agg #[.string s,.string ⟨#[49]⟩]) (by simp [results,Tryz.results94,go_sem,hd0,hd1]) rfl ⟨rfl,Hfx.out⟩
theorem zhM (vp vb:Value)(p:List Int)(n:Nat)(w:World)(he:Env w)(hp:Sl w vp (zal p))(hb:Rd w vb (ov n))(hpe:zeT p=0)(hpr:Pr p (n+1)) :
  Calls Tryz.prog 58 #[vp,vb] w fun e w'=>e=.returned (.int .i64 0)∧Ext w w':=by
 have hpl:=zhy hpr;have hov:=zhx hpr;have hpl3:p.length≤3:=by rcases hpr with ⟨rfl,_⟩ | ⟨rfl,_⟩ <;> simp
 have h1:=zhs vp vb p (ov n) w he hp hb hpe (by omega) (by rw [zh0,hpl]) (fun q h=>(zhz q h).mono (by omega)) (by
  rw [hov.1];intro e h;rw [List.mem_singleton] at h;subst h;exact ⟨.inl rfl,by decide,by decide⟩) (by rw [hov.1];right;decide)
 rw [hov.1,show zex [(2,1)]=1 by decide] at h1;obtain ⟨ap,cp,rfl,_,_,_⟩:=hp.parts;obtain ⟨ab,cb,rfl,_,_,_⟩:=hb.parts;clear hp hb he hpe hpr hov hpl hpl3;have H1:=hid h1;clear h1;go_enter Tryz.func58,Tryz.ntmps58
 go_wp2_with fail
 refine (H1.out).mono ?_;rintro e w1 ⟨rfl,hx1⟩;have Hx1:=hid hx1;clear hx1;go_wp2
 go_ret
 exact ⟨rfl,Hx1.out⟩
def ScV (w:World)(v:Value)(p:List Int)(rs:List Qw):Prop:=∃ vp vn,v=.agg #[vp,vn]∧Sl w vp (zal p)∧RdM w vn rs
theorem ScV.ext {w w':World}{v:Value}{p:List Int}{rs:List Qw}(h:ScV w v p rs)(hx:Ext w w'):ScV w' v p rs:=by
 obtain ⟨vp,vn,e,a,b⟩:=h;exact ⟨vp,vn,e,hx.sl a,hx.rdM b⟩
theorem zhN (v:Value)(p:List Int)(rs:List Qw)(n:Nat)(r:Qw)(w:World)(hv:ScV w v p rs)(hn:rs.length=n+1)(hl:n≤1000)(hr:rs[n]?=some r) :
  Calls Tryz.prog 93 #[v] w fun e w'=>e=.returned r.u∧Ext w w':=by
 obtain ⟨vp,vn,rfl,hp,hs,hm⟩:=hv;obtain ⟨ap,cp,rfl,_,_,_⟩:=hp.parts;obtain ⟨an,cn,rfl,_,_,hc⟩:=hs.parts;obtain ⟨b,off,rfl,hc0⟩:=hc n r.u (by unfold qwc;rw [List.getElem?_map,hr];rfl);obtain ⟨ar,cr,hru,_,_,_⟩:=(hm r (List.mem_of_getElem? hr)).parts;rw [zfr,hn];rw [hru] at hc0 ⊢;generalize r.x.length=k at *;have hE:Ext w (w.alloc (.cells #[.slice ap (zal p).length cp,.slice (some ⟨b,off,none⟩) (n+1) cn] 28)):=(Ext.refl w).alloc _;have hc1:=hE.cell hc0;have hi0:(0:Int)≤(n:Int):=by omega
 have hi1:(n:Int)<((n+1:Nat):Int):=by omega
 have hw:((n+1:Nat):Int) - 1=(n:Int):=by omega
 have HE:=hid hE;clear hp hs hm hc hc0 hE hr hn hru;go_enter Tryz.func93,Tryz.ntmps93
 go_wp2
 go_ret
 exact ⟨rfl,HE.out⟩
def zhO (n:Nat)(rs:List Qw)(k:Nat):List Rat:=if k=0 then List.replicate n 0 else ((rs[k - 1]?).map Qw.x).getD []
structure zhP (p:List Int)(rs:List Qw):Prop where
 pe:zeT p=0
 few:p.length≤100
 ne:rs.length ≠ 0
 most:rs.length≤60
 len:∀ r∈rs,r.x.length=p.length
 ft:∀ r∈rs,∀ q∈r.x,Ft 30 q
 quick:∀ k r,rs[k]?=some r→zht p (zen (zhO p.length rs k) r.x)
 up:∀ k r,rs[k]?=some r→zex (tms p (dn (zen (zhO p.length rs k) r.x)) (zen (zhO p.length rs k) r.x))=-1
theorem zhQ (v:Value)(p:List Int)(rs:List Qw)(w:World)(he:Env w)(hv:ScV w v p rs)(h:zhP p rs) :
  Calls Tryz.prog 34 #[v] w fun e w'=>e=.returned (.int .i64 0)∧Ext w w':=by
 obtain ⟨vp,vn,rfl,hp,hs,hm⟩:=hv;have hpl:=h.few;have h0:=h.ne;have h60:=h.most;have hpr:=fun W (hE:Ext w W)=>zeU vp p W (hE.sl hp) (by omega);rw [h.pe] at hpr;have hz:=fun W (hE:Ext w W)=>zhi vp p W (he.ext hE) (hE.sl hp) h.pe;have hck:=fun (r:Qw)(hr:r∈rs) W (hE:Ext w W)=>zf8 vp r.u p r.x W (he.ext hE) (hE.sl hp) (hE.rd (hm r hr)) h.pe (h.len r hr) (h.ft r hr);have hcm:=fun k (r:Qw)(hr:rs[k]?=some r) vb W (hE:Ext w W)(hb:Rd W vb (zhO p.length rs k))(hbl:(zhO p.length rs k).length=p.length)(hbf:∀ q∈zhO p.length rs k,Ft 30 q) =>
  zhv vp vb r.u p (zhO p.length rs k) r.x W (he.ext hE) (hE.sl hp) hb (hE.rd (hm r (List.mem_of_getElem? hr))) h.pe hpl hbl (h.len r (List.mem_of_getElem? hr)) hbf (h.ft r (List.mem_of_getElem? hr)) (h.quick k r hr)
 have hpv:∀ k,k≤rs.length→(zhO p.length rs k).length=p.length∧∀ q∈zhO p.length rs k,Ft 30 q:=fun k hk=>by
  unfold zhO;by_cases h1:k=0
  ·rw [if_pos h1];refine ⟨List.length_replicate,fun q hq=>?_⟩;obtain rfl:=List.eq_of_mem_replicate hq;exact zgN.mono (by omega)
  ·rw [if_neg h1,List.getElem?_eq_getElem (by omega)];exact ⟨h.len _ (List.getElem_mem _),h.ft _ (List.getElem_mem _)⟩
 have hup:=h.up;have hln:=h.len;have hone:=fun (r:Qw)(hr:r∈rs)=>(hm r hr).parts;have hm2:=fun (r:Qw)(hr:r∈rs) W (hE:Ext w W)=>hE.rd (hm r hr);obtain ⟨ap,cp,rfl,_,_,_⟩:=hp.parts;obtain ⟨an,cn,rfl,_,_,hc⟩:=hs.parts;rw [zan] at hpr hz hck hcm ⊢;rw [zfr];have bx:(w.alloc (.cells #[.slice ap p.length cp,.slice an rs.length cn] 28)).heap[w.heap.size]?=some (.cells #[.slice ap p.length cp,.slice an rs.length cn] 28 (0,0)):=World.alloc_heap_new w _;have hE0:Ext w (w.alloc (.cells #[.slice ap p.length cp,.slice an rs.length cn] 28)):=(Ext.refl w).alloc _;have hbox:∀ W,Ext (w.alloc (.cells #[.slice ap p.length cp,.slice an rs.length cn] 28)) W→W.cell? ⟨w.heap.size,0,none⟩=some (.slice ap p.length cp)∧W.cell? ⟨w.heap.size,1,none⟩=some (.slice an rs.length cn):=fun W hE=>by
  have hb:=hE.heap bx;unfold World.cell?;dsimp only;rw [hb];exact ⟨rfl,rfl⟩
 clear hp hs hm he h hpl bx;have Hpr:=hid hpr;have Hz:=hid hz;have Hck:=hid hck;have Hcm:=hid hcm;have Hpv:=hid hpv;have Hup:=hid hup;have Hln:=hid hln;have Hone:=hid hone;have Hm2:=hid hm2;have Hc:=hid hc;have HE0:=hid hE0;have Hbox:=hid hbox;clear hpr hz hck hcm hpv hup hln hone hm2 hc hE0 hbox;go_enter Tryz.func34,Tryz.ntmps34
 go_wp2_with fail
 refine (Hpr.out _ HE0.out).mono ?_;rintro e w1 ⟨rfl,rfl⟩;go_wp2_with fail
 refine (Hz.out _ HE0.out).mono ?_;rintro e w1 ⟨rfl,hoz,hx1⟩;obtain ⟨q0,q1⟩:=Hbox.out w1 hx1;have hrz:Rd w1 (.slice (some ⟨w.heap.size+1,0,none⟩) p.length p.length) (zhO p.length rs 0):=by
  have:=hoz.rd;rw [World.size_alloc] at this;exact this
 have Hrz:=hid hrz;have Hx1:=hid hx1;clear hrz hx1;clear hoz;go_wp2_with fail
 have hcs:∀ k,(zhO p.length rs (k+1))=((rs[k]?).map Qw.x).getD []:=fun k=>by unfold zhO;rw [if_neg (by omega)];rfl
 have Hcs:=hid hcs;clear hcs;go_loopw [4,7,8,9,10,36] (fun v4 v7 v8 v9 v10 v36 wr=>∃ (k:Nat)(a:Option Addr)(c:Nat),v36=.int .i64 k∧k≤rs.length∧v4=.slice a p.length c∧Rd wr (.slice a p.length c) (zhO p.length rs k)∧Ext w1 wr) (fun _ _ _ _ _ v36 _=>rs.length - (zah v36).toNat)
 case atStart=>exact ⟨0,_,_,rfl,Nat.zero_le _,rfl,Hrz.out,Ext.refl _⟩
 case round =>
  clear q0 q1;obtain ⟨k,ab,cb,rfl,hk,rfl,hrd,hE⟩:=hrel;by_cases hkn:k<rs.length
  ·obtain ⟨r,hr⟩:∃ r,rs[k]?=some r:=⟨_,List.getElem?_eq_getElem hkn⟩;have hmem:=List.mem_of_getElem? hr;obtain ⟨b,off,rfl,hc0⟩:=Hc.out k r.u (by unfold qwc;rw [List.getElem?_map,hr];rfl);obtain ⟨ar,cr,hru,_,_,_⟩:=Hone.out r hmem;have hEw:=(HE0.out.trans Hx1.out).trans hE;have hcu:=hEw.cell hc0;have hrl:r.x.length=p.length:=Hln.out r hmem;rw [hru,hrl] at hcu;have h1:=Hck.out r hmem wr hEw;have hp1:=Hpv.out k hk;have h2:=fun W (hx:Ext wr W)=>Hcm.out k r hr (.slice ab p.length cb) W (hEw.trans hx) (hx.rd hrd) hp1.1 hp1.2;have hu:=Hup.out k r hr;rw [hu] at h2;have hr2:=fun W (hx:Ext wr W)=>Hm2.out r hmem W (hEw.trans hx);rw [hru,hrl] at h1 h2 hr2;have hnx:zhO p.length rs (k+1)=r.x:=(by rw [Hcs.out k,hr];rfl);rw [← hnx] at hr2;have hk0:(0:Int)≤(k:Int):=(by omega);have hk1:(k:Int)<(rs.length:Int):=(by omega);obtain ⟨q0,q1⟩:=Hbox.out wr (Hx1.out.trans hE);have hbx2:=fun W (hx:Ext wr W)=>Hbox.out W ((Hx1.out.trans hE).trans hx);clear hmem hc0 hEw hrl hp1 hu hnx hrd hru hr;have H1:=hid h1;have H2:=hid h2;have Hr2:=hid hr2;have HE:=hid hE;have Hbx2:=hid hbx2;clear h1 h2 hr2 hE hbx2;go_wp2_with fail
   refine H1.out.mono ?_;rintro e w3 ⟨rfl,hx3⟩;obtain ⟨s0,s1⟩:=Hbx2.out w3 hx3;have Hx3:=hid hx3;clear hx3;clear q0 q1;go_wp2_with fail
   refine (H2.out w3 Hx3.out).mono ?_;rintro e w4 ⟨rfl,hx4⟩;have Hx4:=hid (Hx3.out.trans hx4);clear hx4 s0 s1;go_wp2_with fail
   go_roundw
   case rel=>exact ⟨k+1,_,_,by go_num,by omega,rfl,Hr2.out _ Hx4.out,HE.out.trans Hx4.out⟩
   case measure=>simp [zah];omega
  ·obtain rfl:rs.length=k:=by omega
   have Hrd:=hid hrd;have HE:=hid hE;clear hrd hE;go_wp2
   go_ret
   exact ⟨rfl,(HE0.out.trans Hx1.out).trans HE.out⟩
def noteQ (rs:List Qw)(n:Nat)(k:Int):List Rat :=
 let b:=zeo (((rs[n]?).map Qw.x).getD []) ((k / ((n:Int)+1):Int):Rat)
 if k % ((n:Int)+1)=0 then b else zem b (((rs[(k % ((n:Int)+1)).toNat - 1]?).map Qw.x).getD [])
theorem zhR {k N:Int}(hN:0<N):(k.tmod N<0→k.tmod N+N=k % N∧k.tdiv N - 1=k / N)∧(¬ k.tmod N<0→k.tmod N=k % N∧k.tdiv N=k / N):=by
 have h1:=Int.mul_tdiv_add_tmod k N;have h2:=Int.mul_ediv_add_emod k N;have h3:=Int.emod_nonneg k (show N ≠ 0 by omega);have h4:=Int.emod_lt_of_pos k hN;have h5:-N<k.tmod N∧k.tmod N<N:=⟨Int.lt_tmod_of_pos k hN,Int.tmod_lt_of_pos k hN⟩;generalize k.tmod N=r at *;generalize k.tdiv N=q at *;generalize k % N=s at *;generalize k / N=t at *;have key:∀ a b u v:Int,N * a+u=N * b+v→0≤u→u<N→0≤v→v<N→a=b∧u=v:=fun a b u v e u0 u1 v0 v1=>by
  have hm:N * (a - b)=v - u:=by rw [Int.mul_sub];omega
  have:a - b=0:=by
   rcases Int.lt_trichotomy (a - b) 0 with g | g | g
   ·have:=Int.mul_le_mul_of_nonneg_left (show a - b≤-1 by omega) (show 0≤N by omega);omega
   ·exact g
   ·have:=Int.mul_le_mul_of_nonneg_left (show 1≤a - b by omega) (show 0≤N by omega);omega
  exact ⟨by omega,by rw [this,Int.mul_zero] at hm;omega⟩
 constructor
 ·intro g;obtain ⟨e1,e2⟩:=key (q - 1) t (r+N) s (by rw [Int.mul_sub];omega) (by omega) (by omega) h3 h4;exact ⟨e2,e1⟩
 ·intro g;obtain ⟨e1,e2⟩:=key q t r s (by omega) (by omega) (by omega) h3 h4;exact ⟨e2,e1⟩
end
end Go.Proofs.YtebabancfnmfjaaGreatDoor
