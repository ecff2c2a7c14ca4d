/- Walk: epimorphism.reduce by the octave, where the few bits decide. (KEEPALL) Plain: an interval less whole octaves, step by step, as law 37's reduced takes it. (KEEPALL) Walk: law 37's reduced. (KEEPALL) Walk: epimorphism.Check. (KEEPALL) Plain: a sorted set of intervals of an octave; one more interval put in its place; such a set is right. (KEEPALL) Plain: an insertion sort by a key; lists in order. The row of an insertion sort whose compare makes memory. -/
import Derived.Test.YtipkdebkdnbieaaGreatDoorPe14
import Derived.Test.YtipkdebkdnbieaaGreatDoorPe13
import Derived.Test.YtipkdebkdnbieaaGreatDoorPe17
import Derived.Test.YtipkdebkdnbieaaGreatDoorPe10
import Derived.Test.YtipkdebkdnbieaaGreatDoorPe08
import Derived.Test.YtipkdebkdnbieaaGreatDoorPe02
set_option maxRecDepth 100000
set_option maxHeartbeats 4000000
namespace Go.Proofs.YtipkdebkdnbieaaGreatDoor
section
open Go.RowKit Go.Lib
def zjT (n:Nat):List Int:=1::List.replicate n 0
theorem zjU (n:Nat):ziA (zjT n)=ov n:=by
 unfold ziA zjT ov;rw [List.map_cons,List.map_replicate];rfl
theorem zjV (n:Nat):(zjT n).length=n+1:=by unfold zjT;rw [List.length_cons,List.length_replicate]
theorem zjW (n i:Nat):zas (zjT n) i=0∨zas (zjT n) i=1:=by
 unfold zas zjT;rw [List.getD_eq_getElem?_getD]
 cases i with
 | zero=>right;rfl
 | succ i =>
  left
  rw [List.getElem?_cons_succ,List.getElem?_replicate]
  split <;> rfl
theorem zjX {z:Int}(h:-1000≤z∧z≤1000):Ft 30 (z:Rat):=by
 refine ⟨?_,?_⟩
 ·rw [Rat.num_intCast];exact Nat.le_trans (Dec.nDigits_le (k:=4) (by decide) (show z.natAbs<10 ^ 4 by omega)) (by decide)
 ·rw [Rat.den_intCast];exact Nat.le_trans (Dec.nDigits_le (k:=1) (by decide) (by decide)) (by decide)
theorem zjY (vp vx vq:Value)(p:List Int)(z0:Int)(zs o:List Int)(q:Int)(w:World)(he:Env w)(hp:Sl w vp (zap p))(hx:Sl w vx (zap (z0::zs)))(hy:Sl w vq (zap (zjT zs.length)))(h1:zgr p (z0::zs)=0)(h2:zgr p (zjT zs.length)=0)(hpr:Pr p (zs.length+1))(hq:QF p (ziA (z0::zs)))(hfl:flP p (ziA (z0::zs))=q)(hq0:-1000000≤q)(hq1:q≤1000000)(ho:zhK (z0::zs) (-q) (zjT zs.length)=some o) :
  Calls Tryz.prog 64 #[vp,vx,vq] w fun e w'=>∃ v,e=.returned (.tuple #[v,.int .i64 0])∧zc2 w' w.heap.size v o∧Ext w w':=by
 obtain ⟨hpe,hre⟩:=zg4 h1;obtain ⟨hxl,hxb⟩:=zg3 hre;obtain ⟨hp0,hp6,_⟩:=zc0 hpe;have hzl:(z0::zs).length=zs.length+1:=rfl;have hof:=fun W (hE:Ext w W)=>zjg vp vx p (z0::zs) W (he.ext hE) (hE.sl hp) (hE.sl hx) h1;have hoy:=fun W (hE:Ext w W)=>zjg vp vq p (zjT zs.length) W (he.ext hE) (hE.sl hp) (hE.sl hy) h2;rw [zjU] at hoy;have hft:∀ r∈ziA (z0::zs),Ft 30 r:=fun r hr=>by
  unfold ziA at hr;obtain ⟨z,hz,rfl⟩:=List.mem_map.1 hr;obtain ⟨i,hi⟩:=List.mem_iff_getElem?.1 hz;have hl:=(List.getElem?_eq_some_iff.1 hi).1;have:=hxb i hl;unfold zas at this;rw [List.getD_eq_getElem?_getD,hi] at this;exact zjX this
 have hcons:ziA (z0::zs)=((z0:Int):Rat)::ziA zs:=rfl;have hrl:(ziA zs).length=zs.length:=zjb zs;have hflo:=fun va vb W (hE:Ext w W)(ha:Rd W va (ziA (z0::zs)))(hb:Rd W vb (ov zs.length))=>zjS vp va vb p ((z0:Int):Rat) (ziA zs) W (he.ext hE) (hE.sl hp) ha (by rw [hrl];exact hb) hpe (by rw [hrl];exact hpr) hft hq;rw [← hcons,hfl] at hflo;have hsm:=fun W=>zfN q W (by omega) (by omega);have hpl:=fun W (hE:Ext w W)=>zhU vx vq (z0::zs) (zjT zs.length) (-q) W (hE.sl hx) (hE.sl hy) (by rw [zjV];rfl) (by omega) (fun i hi=>by have:=hxb i hi;omega) (fun i hi=>by rcases zjW zs.length i with e | e <;> rw [e] <;> omega)
 rw [ho] at hpl;obtain ⟨ap,cp,rfl,_,_,_⟩:=hp.parts;obtain ⟨ax,cx,rfl,_,_,_⟩:=hx.parts;obtain ⟨ay,cy,rfl,_,_,_⟩:=hy.parts;simp only [zar] at hof hoy hflo hpl ⊢;have hd1:decide (q > 1000000000)=false:=decide_eq_false (by omega);have hd2:decide (q < -1000000000)=false:=decide_eq_false (by omega);have Hof:=hid hof;have Hoy:=hid hoy;have Hflo:=hid hflo;have Hsm:=hid hsm;have Hpl:=hid hpl;clear hof hoy hflo hsm hpl;clear hp hx hy h1 h2 hpr hq hfl ho hpe hre hxb hft hcons hrl hp0 hp6 hxl he hzl;generalize I q=sq at *;generalize (z0::zs).length=n at *;generalize (zjT zs.length).length=m at *;go_enter Tryz.func64,Tryz.ntmps64
 go_wp2_with fail
 refine (Hof.out w (Ext.refl _)).mono ?_;rintro e w1 ⟨v1,rfl,ho1,hx1⟩;have Hr1:=hid ho1.rd;have Hx1:=hid hx1;clear hx1;clear ho1;go_wp2_with fail
 refine (Hoy.out w1 Hx1.out).mono ?_;rintro e w2 ⟨v2,rfl,ho2,hx2⟩;have Hr2:=hid ho2.rd;have Hr1':=hid (hx2.rd Hr1.out);have Hx2:=hid (Hx1.out.trans hx2);clear ho2 hx2;go_wp2_with fail
 refine (Hflo.out v1 v2 w2 Hx2.out Hr1'.out Hr2.out).mono ?_;rintro e w3 ⟨rfl,hx3⟩;have Hx3:=hid (Hx2.out.trans hx3);clear hx3;go_wp2_with fail
 refine (Hsm.out w3).mono ?_;rintro e w4 ⟨rfl,hx4⟩;have Hx4:=hid (Hx3.out.trans hx4);clear hx4;go_wp2_with fail
 refine (Hpl.out w4 Hx4.out).mono ?_;rintro e w5 ⟨⟨v,rfl,hov⟩,hx5⟩;have hov2:=zam hov Hx4.out.size;have Hov:=hid hov2;have Hx5:=hid (Hx4.out.trans hx5);obtain ⟨av,cv,ev⟩:=zc3 hov2;subst ev;clear hov hov2 hx5;go_wp2
 go_ret2
 exact ⟨_,rfl,Hov.out,Hx5.out⟩
theorem zjZ (n:Nat):zh6 (n+1)=zjT n:=by
 unfold zh6 zgM zjT;rw [List.replicate_succ];rfl
theorem zka : ∀ (k:Int)(x:List Int)(n:Nat),x.length=n→zhJ x k (List.replicate n 0)=x
 | _,[],_,h=>by subst h;rfl
 | k,a::x,n,h=>by
  obtain ⟨m,rfl⟩:∃ m,n=m+1:=⟨x.length,by simpa using h.symm⟩;have:=zka k x m (by simpa using h);unfold zhJ at this ⊢;rw [List.replicate_succ,List.zipWith_cons_cons,this,Int.mul_zero,Int.add_zero]
theorem zkb {x:List Int}{n:Nat}(k:Int)(h:x.length=n+1):zhJ x k (zjT n)=bmp k x:=by
 cases x with
 | nil=>simp at h
 | cons a x =>
  have:=zka k x n (by simpa using h)
  unfold zhJ zjT at *
  rw [List.zipWith_cons_cons,this,Int.mul_one]
  rfl
theorem zkc {p r:List Int}(hpe:zcw p=0)(hl:r.length=p.length)(hb:∀ i,i<r.length→-1000≤zas r i∧zas r i≤1000):zgr p r=0:=by
 unfold zgr zgj;rw [if_neg (by simpa using hpe),zgi];have hr:zgh p.length r=0:=by
  unfold zgh;rw [if_neg (by simpa using hl),if_neg];intro q;rw [zgo fun i hi=>zgm (by have:=hb i hi;omega) (by have:=hb i hi;omega)] at q
  cases q
 rw [if_neg (by simpa using hr)];rfl
structure Iv (p x:List Int):Prop where
 len:x.length=p.length
 tl:Tl9 x
theorem Iv.bmp {p x:List Int}(h:Iv p x)(k:Int):Iv p (bmp k x):=⟨by rw [zhv];exact h.len,h.tl.bmp k⟩
theorem Iv.ok {p x:List Int}(h:Iv p x)(hp:zhs p)(hb:-900≤zas x 0∧zas x 0≤900):zgr p x=0:=zkc hp.pe h.len fun i hi=>by
 by_cases e:i=0
 ·subst e;omega
 ·have:=h.tl i (by omega);omega
theorem zkd {p x:List Int}(h:zgr p x=0):zg8 p x=zbj (zgv p x:Nat) (zgw p x:Nat):=by unfold zg8;rw [if_neg (by simpa using h)]
theorem zke {p x:List Int}(hp:zhs p)(h1:zgv p x<zgw p x):zgI p x (zh6 p.length)<0:=by
 obtain ⟨e1,e2⟩:=zh7 hp;unfold zgI;rw [zh8,e1,e2,Nat.mul_one];have h2:=hp.two 0 hp.len.1;have:zgw p x≤(zas p 0).toNat * zgw p x:=Nat.le_mul_of_pos_left _ (by omega);omega
def Stp (p x:List Int)(k:Nat)(c:List Int):Prop :=
 (k=0∧c=x)∨(0<k∧∃ b,c=bmp 1 b∧b=bmp ((k:Int) - 1) x∧zgv p b<zgw p b)∨(0<k∧∃ b,c=bmp (-1) b∧b=bmp (-((k:Int) - 1)) x∧¬ zgI p b (zh6 p.length)<0)
section
variable {p x c : List Int} {k : Nat}
theorem Stp.bd (h:Stp p x k c)(hp:zhs p)(hx:Iv p x)(h0:-9≤zas x 0∧zas x 0≤9):Iv p c∧(-200≤zas c 0∧zas c 0≤200)∧k≤200:=by
 have hl:0<x.length:=by rw [hx.len];exact hp.len.1
 rcases h with ⟨rfl,rfl⟩ | ⟨hk,b,rfl,rfl,hb⟩ | ⟨hk,b,rfl,rfl,hb⟩
 ·exact ⟨hx,by omega,by omega⟩
 ·have hi:=hx.bmp ((k:Int) - 1);have e:=zhy hl ((k:Int) - 1);have e2:=zhy (x:=bmp ((k:Int) - 1) x) (by rw [zhv];exact hl) 1;have:¬ 100≤zas (bmp ((k:Int) - 1) x) 0:=fun q=>by
   have:=zh4 hp hi.len hi.tl q;omega
  exact ⟨hi.bmp 1,by omega,by omega⟩
 ·have hi:=hx.bmp (-((k:Int) - 1));have e:=zhy hl (-((k:Int) - 1));have e2:=zhy (x:=bmp (-((k:Int) - 1)) x) (by rw [zhv];exact hl) (-1);have:¬ zas (bmp (-((k:Int) - 1)) x) 0≤-100:=fun q=>hb (zke hp (zh5 hp hi.len hi.tl q));exact ⟨hi.bmp (-1),by omega,by omega⟩
theorem Stp.up (h:Stp p x k c)(hp:zhs p)(hx:Iv p x)(h1:zgv p c<zgw p c):Stp p x (k+1) (bmp 1 c):=by
 rcases h with ⟨rfl,rfl⟩ | ⟨hk,b,rfl,rfl,hb⟩ | ⟨hk,b,rfl,rfl,hb⟩
 ·exact .inr (.inl ⟨by omega,c,rfl,by rw [show (((0+1:Nat):Int) - 1)=0 by omega,zhx],h1⟩)
 ·refine .inr (.inl ⟨by omega,_,rfl,?_,h1⟩);rw [zhw];congr 1;omega
 ·have hi:=hx.bmp (-((k:Int) - 1));have:=zhA hp hi.len hb;omega
theorem Stp.down (h:Stp p x k c)(hp:zhs p)(hx:Iv p x)(h2:¬ zgI p c (zh6 p.length)<0):Stp p x (k+1) (bmp (-1) c):=by
 rcases h with ⟨rfl,rfl⟩ | ⟨hk,b,rfl,rfl,hb⟩ | ⟨hk,b,rfl,rfl,hb⟩
 ·exact .inr (.inr ⟨by omega,c,rfl,by rw [show (-(((0+1:Nat):Int) - 1))=0 by omega,zhx],h2⟩)
 ·have hi:=hx.bmp ((k:Int) - 1);exact absurd (zh9 hp hi.len hb) h2
 ·refine .inr (.inr ⟨by omega,_,rfl,?_,h2⟩);rw [zhw];congr 1;omega
end
structure Rdd (p r:List Int):Prop where
 iv:Iv p r
 lo:zgw p r≤zgv p r
 hi:zgI p r (zh6 p.length)<0
theorem Rdd.bd {p r:List Int}(h:Rdd p r)(hp:zhs p):-100≤zas r 0∧zas r 0≤101:=by
 have h1:¬ zas r 0≤-100:=fun q=>by have:=zh5 hp h.iv.len h.iv.tl q;have:=h.lo;omega
 have hl:0<r.length:=by rw [h.iv.len];exact hp.len.1
 have h2:¬ 101≤zas r 0:=fun q=>by
  have hi:=h.iv.bmp (-1);have e:=zhy hl (-1);have hf:=zh4 hp hi.len hi.tl (by omega);have hn:¬ zgI p r (zh6 p.length)<0:=fun q2=>by
   have hb:=zh1 hp hi.len;rw [zhw,show (-1:Int)+1=0 from rfl,zhx] at hb;obtain ⟨e1,e2⟩:=zh7 hp;unfold zgI at q2;rw [zh8,e1,e2,Nat.mul_one] at q2;obtain ⟨d1,_⟩:=zh2 hp hi.len;obtain ⟨d2,_⟩:=zh2 hp h.iv.len;have h3:zgv p r * zgw p (bmp (-1) r)<(zas p 0).toNat * zgw p r * zgw p (bmp (-1) r):=Nat.mul_lt_mul_of_pos_right (by omega) d1;rw [hb] at h3;have h4:(zas p 0).toNat * (zgw p (bmp (-1) r) * zgw p r)≤(zas p 0).toNat * (zgv p (bmp (-1) r) * zgw p r):=Nat.mul_le_mul_left _ (Nat.mul_le_mul_right _ (by omega));have h5:(zas p 0).toNat * zgw p r * zgw p (bmp (-1) r)=(zas p 0).toNat * (zgw p (bmp (-1) r) * zgw p r):=(by rw [Nat.mul_assoc,Nat.mul_comm (zgw p r)]);omega
  exact hn h.hi
 omega
end
section
open Go.RowKit Go.Lib Go.Shelf
theorem zkf (vp vq vx:Value)(p x:List Int)(n:Nat)(w:World)(he:Env w)(hp:Sl w vp (zap p))(hq:Sl w vq (zap (zjT n)))(hx:Sl w vx (zap x))(hok:zhs p)(hpn:p.length=n+1)(hi:Iv p x)(h0:-9≤zas x 0∧zas x 0≤9) :
  Calls Tryz.prog 71 #[vp,vq,vx] w fun e w'=>∃ v r,e=.returned v∧Rdd p r∧((v=vx∧r=x)∨zc2 w' w.heap.size v r)∧Ext w w':=by
 have hpe:=hok.pe;have hl4:=hok.len;have hol:(zjT n).length=n+1:=zjV n;have hoe:zgr p (zjT n)=0:=zkc hpe (by omega) fun i hi=>by rcases zjW n i with e | e <;> rw [e] <;> omega
 have hper:zh6 p.length=zjT n:=by rw [hpn];exact zjZ n
 have hxl:x.length=n+1:=by rw [hi.len];exact hpn
 have hbd:∀ k c,Stp p x k c→Iv p c∧(-200≤zas c 0∧zas c 0≤200)∧k≤200:=fun k c h=>h.bd hok hi h0;have hone:∀ k c,Stp p x k c→zgr p c=0:=fun k c h=>by
  obtain ⟨h1,h2,_⟩:=hbd k c h;exact h1.ok hok (by omega)
 have hsg:=fun k c (h:Stp p x k c) v W (hE:Ext w W)(hv:Sl W v (zap c))=>zg9 vp v p c W (he.ext hE) (hE.sl hp) hv (by omega) (by have:=(hbd k c h).1.len;omega);have hcm:=fun k c (h:Stp p x k c) v W (hE:Ext w W)(hv:Sl W v (zap c))=>zhG vp v vq p c (zjT n) W (he.ext hE) (hE.sl hp) hv (hE.sl hq) (by omega) (by have:=(hbd k c h).1.len;omega) (by omega);have hce:∀ k c,Stp p x k c→zhE p c (zjT n)=zgI p c (zh6 p.length):=fun k c h=>by
  unfold zhE;rw [if_neg (by simpa using zhD (hone k c h) hoe),hper]
 have hlen:∀ k c,Stp p x k c→c.length=n+1:=fun k c h=>by have:=(hbd k c h).1.len;omega
 have hup:∀ k c,Stp p x k c→zgv p c<zgw p c→Stp p x (k+1) (bmp 1 c):=fun k c h h1=>h.up hok hi h1;have hdn:∀ k c,Stp p x k c→¬ zgI p c (zh6 p.length)<0→Stp p x (k+1) (bmp (-1) c):=fun k c h h1=>h.down hok hi h1;have had:=fun k c (h:Stp p x k c)(h2:Stp p x (k+1) (bmp 1 c)) v W (hE:Ext w W)(hv:Sl W v (zap c))=>zim vp v vq p c (zjT n) W (hE.sl hp) hv (hE.sl hq) (hone k c h) hoe (by rw [zkb 1 (hlen k c h)];exact hone _ _ h2);have hsb:=fun k c (h:Stp p x k c)(h2:Stp p x (k+1) (bmp (-1) c)) v W (hE:Ext w W)(hv:Sl W v (zap c))=>zin vp v vq p c (zjT n) W (hE.sl hp) hv (hE.sl hq) (hone k c h) hoe (by rw [zkb (-1) (hlen k c h)];exact hone _ _ h2);have hpl:=fun k c (h:Stp p x k c)(z:Int)=>zkb z (hlen k c h);have hsx:=hx;obtain ⟨ap,cp,rfl,_,_,_⟩:=hp.parts;obtain ⟨aq,cq,rfl,_,_,_⟩:=hq.parts;obtain ⟨ax,cx,rfl,_,_,_⟩:=hx.parts;simp only [zar] at *;rw [hpn] at hsg hcm had hsb ⊢;rw [hol] at hcm had hsb ⊢;rw [hxl] at hsx ⊢;have hst:Stp p x 0 x:=.inl ⟨rfl,rfl⟩;have Hsg:=hid hsg;have Hcm:=hid hcm;have Hce:=hid hce;have Had:=hid had;have Hsb:=hid hsb;have Hpl:=hid hpl;have Hbd:=hid hbd;have Hone:=hid hone;have Hlen:=hid hlen;have Hup:=hid hup;have Hdn:=hid hdn;have Hsx:=hid hsx;have Hst:=hid hst;have Hpn:=hid hpn;have Hper:=hid hper;clear hsg hcm hce had hsb hpl hbd hone hlen hup hdn hsx hst hpn hper;clear hp hq hx he hok hi h0 hoe hol hxl hpe hl4;go_enter Tryz.func71,Tryz.ntmps71
 go_wp2_with fail
 go_loopw [2,7] (fun v2 v7 wr=>∃ (k:Nat)(c:List Int)(a:Option Addr)(cap:Nat),v7=.int .i64 k∧v2=.slice a (n+1) cap∧Hid (Stp p x k c)∧Hid (Sl wr (.slice a (n+1) cap) (zap c))∧Hid ((Value.slice a (n+1) cap=.slice ax (n+1) cx∧c=x)∨zc2 wr w.heap.size (.slice a (n+1) cap) c)∧Hid (Ext w wr)) (fun _ v7 _=>20000 - (zal v7).toNat)
 case atStart=>exact ⟨0,x,_,_,rfl,rfl,Hst,Hsx,hid (.inl ⟨rfl,rfl⟩),hid (Ext.refl _)⟩
 case round =>
  obtain ⟨k,c,a,cap,rfl,rfl,HS,HV,HO,HE⟩:=hrel;obtain ⟨hiv,hb,hk⟩:=Hbd.out k c HS.out;have hk1:(k:Int)<10000:=by omega
  have hk2:k<10000:=by omega
  have h1:=Hsg.out k c HS.out _ wr HE.out HV.out;have ho1:=Hone.out k c HS.out;rw [ho1,zkd ho1] at h1;have hng:=zh8 ((zgv p c:Nat):Int) ((zgw p c:Nat):Int);generalize hs:zbj ((zgv p c:Nat):Int) ((zgw p c:Nat):Int)=sg at *;have H1:=hid h1;have Hng:=hid hng;have Hs:=hid hs;have Hiv:=hid hiv;clear h1 hng hs hiv;clear hb;by_cases hlt:sg<0
  ·have hnd:zgv p c<zgw p c:=(by have:=Hng.out.1 hlt;omega);have hst2:=Hup.out k c HS.out hnd;have h2:=fun W (hx:Ext wr W)=>Had.out k c HS.out hst2 _ W (HE.out.trans hx) (hx.sl HV.out);rw [Hpl.out k c HS.out 1] at h2;have hl2:=Hlen.out _ _ hst2;have hsd:decide (sg<0)=true:=decide_eq_true hlt;have H2:=hid h2;have Hst2:=hid hst2;have Hl2:=hid hl2;clear h2 hst2 hl2;clear hnd ho1;go_wp2_with fail
   refine H1.out.mono ?_;rintro e w1 ⟨rfl,hx1⟩;have h3:=H2.out w1 hx1;have Hx1:=hid hx1;have H3:=hid h3;clear hx1 h3;go_wp2_with fail
   refine H3.out.mono ?_;rintro e w2 ⟨v2,rfl,ho2,hx2⟩;obtain ⟨a2,c2,e2⟩:=zc3 ho2;rw [Hl2.out] at e2;subst e2;have HS2:=hid ho2.sl;have HO2:=hid (zam ho2 (HE.out.trans Hx1.out).size);have HE2:=hid ((HE.out.trans Hx1.out).trans hx2);clear ho2 hx2;go_wp2_with fail
   go_roundw
   case rel=>exact ⟨k+1,bmp 1 c,a2,c2,by go_num,rfl,Hst2,HS2,hid (.inr HO2.out),HE2⟩
   case measure=>simp [zal];omega
  ·have hdn2:zgw p c≤zgv p c:=by
    have:=Hng.out;rcases Nat.lt_or_ge (zgv p c) (zgw p c) with q | q
    ·exact absurd (this.2 (by omega)) hlt
    ·exact q
   have hsd:decide (sg<0)=false:=decide_eq_false hlt;have h2:=fun W (hx:Ext wr W)=>Hcm.out k c HS.out _ W (HE.out.trans hx) (hx.sl HV.out);rw [Hce.out k c HS.out] at h2;have hdd:=Hdn.out k c HS.out;have hrd:zgI p c (zh6 p.length)<0→Rdd p c:=fun h=>⟨Hiv.out,hdn2,h⟩;have hsb2:=fun (hst2:Stp p x (k+1) (bmp (-1) c)) W (hx:Ext wr W)=>Hsb.out k c HS.out hst2 _ W (HE.out.trans hx) (hx.sl HV.out);rw [Hpl.out k c HS.out (-1)] at hsb2;generalize zgI p c (zh6 p.length)=z at *;generalize zhB p c (zjT n)=te at *;have H2:=hid h2;have Hdd:=hid hdd;have Hrd:=hid hrd;have Hsb2:=hid hsb2;clear h2 hdd hrd hsb2;clear hdn2 ho1;by_cases hz:z<0
   ·have hzd:decide (z<0)=true:=decide_eq_true hz;have hrr:=Hrd.out hz;have Hrr:=hid hrr;clear hrr;go_wp2_with fail
    refine H1.out.mono ?_;rintro e w1 ⟨rfl,hx1⟩;have h3:=H2.out w1 hx1;have Hx1:=hid hx1;have H3:=hid h3;clear hx1 h3;go_wp2_with fail
    refine H3.out.mono ?_;rintro e w2 ⟨rfl,hx2⟩;have HO2:=hid (HO.out.imp id fun h=>(Hx1.out.trans hx2).ownI h);have HE2:=hid ((HE.out.trans Hx1.out).trans hx2);clear hx2;go_wp2
    go_ret
    exact ⟨_,c,rfl,Hrr.out,HO2.out,HE2.out⟩
   ·have hzd:decide (z<0)=false:=decide_eq_false hz;have hst2:=Hdd.out (by omega);have h4:=Hsb2.out hst2;have hl2:=Hlen.out _ _ hst2;have H4:=hid h4;have Hst2:=hid hst2;have Hl2:=hid hl2;clear h4 hst2 hl2;go_wp2_with fail
    refine H1.out.mono ?_;rintro e w1 ⟨rfl,hx1⟩;have h3:=H2.out w1 hx1;have Hx1:=hid hx1;have H3:=hid h3;clear hx1 h3;go_wp2_with fail
    refine H3.out.mono ?_;rintro e w2 ⟨rfl,hx2⟩;have h5:=H4.out w2 (Hx1.out.trans hx2);have Hx2:=hid (Hx1.out.trans hx2);have H5:=hid h5;clear h5;clear hx2;go_wp2_with fail
    refine H5.out.mono ?_;rintro e w3 ⟨v3,rfl,ho3,hx3⟩;obtain ⟨a3,c3,e3⟩:=zc3 ho3;rw [Hl2.out] at e3;subst e3;have HS3:=hid ho3.sl;have HO3:=hid (zam ho3 (HE.out.trans Hx2.out).size);have HE3:=hid ((HE.out.trans Hx2.out).trans hx3);clear ho3 hx3;go_wp2_with fail
    go_roundw
    case rel=>exact ⟨k+1,bmp (-1) c,a3,c3,by go_num,rfl,Hst2,HS3,hid (.inr HO3.out),HE3⟩
    case measure=>simp [zal];omega
end
section
open Go.RowKit Go.Lib
theorem zkg {p:List Int}(h:zcw p=0):zgr p (zgM p.length)=0:=by
 unfold zgr zgj;rw [if_neg (by simpa using h),zgi];have hr:zgh p.length (zgM p.length)=0:=by
  unfold zgh zgM;rw [if_neg (by simp),if_neg];intro q;obtain ⟨z,hz,hf⟩:=List.any_eq_true.1 q;obtain rfl:=List.eq_of_mem_replicate hz;exact absurd hf (by decide)
 rw [if_neg (by simpa using hr)];rfl
theorem zkh {p b:List Int}{l:List (List Int)}{k:Nat}(hk:k<l.length):zgN p b (l.drop k)=if zgr p (l.getD k []) ≠ 0 then zgr p (l.getD k []) else if 0≤zgI p b (l.getD k []) then 6 else zgN p (l.getD k []) (l.drop (k+1)):=by
 rw [List.drop_eq_getElem_cons hk,zgN,List.getD_eq_getElem?_getD,List.getElem?_eq_getElem hk];rfl
theorem zki (w:World)(u v:Value)(t:TypeId):∀ W,Ext (w.alloc (.cells #[u,v] t)) W→W.cell? ⟨w.heap.size,0,none⟩=some u∧W.cell? ⟨w.heap.size,1,none⟩=some v:=fun W hE=>by
 have bx:(w.alloc (.cells #[u,v] t)).heap[w.heap.size]?=some (.cells #[u,v] t (0,0)):=World.alloc_heap_new w _;have hb:=hE.heap bx;unfold World.cell?;dsimp only;rw [hb];exact ⟨rfl,rfl⟩
theorem zkj (vp vl:Value)(p:List Int)(l:List (List Int))(w:World)(he:Env w)(hp:Sl w vp (zap p))(hl:Mat w vl l)(hlp:p.length≤1000)(hll:l.length≤1000)(hrow:∀ i,(l.getD i []).length≤1000) :
  Calls Tryz.prog 32 #[.agg #[vp,vl]] w fun e w'=>e=.returned (.int .i64 (zgO p l))∧Ext w w':=by
 obtain ⟨i0,hi,hz0,hz1,hz2⟩:=info_parts zc1;have hpr:=fun W (hE:Ext w W)=>zcx vp p W (hE.sl hp) (by omega);have hck:=fun k u W (hE:Ext w W)(hu:Sl W u (zap (l.getD k [])))=>zgs vp u p (l.getD k []) W (hE.sl hp) hu (by omega) (by have:=hrow k;omega);have hcm:=fun k u vb (b:List Int) W (hE:Ext w W)(hu:Sl W u (zap (l.getD k [])))(hb:Sl W vb (zap b))(hbl:b.length≤1000)=>zhG vp vb u p b (l.getD k []) W (he.ext hE) (hE.sl hp) hb hu (by omega) (by omega) (by have:=hrow k;omega);obtain ⟨ap,cp,rfl,_,_,_⟩:=hp.parts;obtain ⟨vs,hvl,hvs,hrows⟩:=hl;obtain ⟨am,cm,rfl,_,_,hc⟩:=hvs.parts;rw [zar] at hpr hck hcm ⊢;rw [hvl];have hbox:=zki w (.slice ap p.length cp) (.slice am l.length cm) 31;have hE0:Ext w (w.alloc (.cells #[.slice ap p.length cp,.slice am l.length cm] 31)):=(Ext.refl w).alloc _;clear hp hvs he;have Hpr:=hid hpr;have Hck:=hid hck;have Hcm:=hid hcm;have Hbox:=hid hbox;have HE0:=hid hE0;have Hc:=hid hc;have Hrows:=hid hrows;have Hrow:=hid hrow;have Hvl:=hid hvl;clear hpr hck hcm hbox hE0 hc hrows hrow hvl;unfold zgO;by_cases h1:zcw p=0
 ·rw [if_neg (by simpa using h1)];have hone:=zkg h1;rw [h1] at Hpr;have Hone:=hid hone;clear hone;clear h1;by_cases h2:l.length=0
  ·rw [if_pos h2];generalize l.length=L at *;subst h2;obtain ⟨q0,q1⟩:=Hbox.out _ (Ext.refl _);go_enter Tryz.func32,Tryz.ntmps32
   go_wp2_with fail
   refine (Hpr.out _ HE0.out).mono ?_;rintro e w1 ⟨rfl,rfl⟩;go_wp2
   go_ret
   exact ⟨rfl,HE0.out⟩
  ·rw [if_neg h2];have h2b:((l.length:Int) == 0)=false:=beq_eq_false_iff_ne.2 (by omega);by_cases h3:60<l.length
   ·rw [if_pos h3];obtain ⟨q0,q1⟩:=Hbox.out _ (Ext.refl _);go_enter Tryz.func32,Tryz.ntmps32
    go_wp2_with fail
    refine (Hpr.out _ HE0.out).mono ?_;rintro e w1 ⟨rfl,rfl⟩;go_wp2
    go_ret
    exact ⟨rfl,HE0.out⟩
   ·rw [if_neg h3];obtain ⟨q0,q1⟩:=Hbox.out _ (Ext.refl _);go_enter Tryz.func32,Tryz.ntmps32
    go_wp2_with fail
    refine (Hpr.out _ HE0.out).mono ?_;rintro e w1 ⟨rfl,rfl⟩;go_wp2_with (at_make;refine wpList_make_full _ rfl _ _ 33 rfl w.heap.size 3 i0 (.int .i64 0) 1 Tryz.underlying33 hi hz0 hz1 _ _ _ _ p.length rfl rfl rfl rfl (by rw [hz2];omega) (by unfold maxLen;omega) (by rw [World.size_alloc];omega) ?_;intro w1 hown hgrow;obtain ⟨s0,s1⟩:=Hbox.out _ ((Ext.refl _).grown hgrow (by simp)))
    rw [World.size_alloc] at hown;have hE1:Ext (w.alloc (.cells #[.slice ap p.length cp,.slice am l.length cm] 31)) w1:=(Ext.refl _).grown hgrow (by simp);have hown1:Sl w1 (.slice (some ⟨w.heap.size+1,0,none⟩) p.length p.length) (zap (zgM p.length)):=by
     have hzz:(zgM p.length).length=p.length:=List.length_replicate;have e:zap (zgM p.length)=(madeCells #[Value.int .i64 0] (p.length * 1)).toList:=by
      unfold zgM;rw [Nat.mul_one,toList_madeCells_one];simp [zap]
     have h3:zc2 w1 w.heap.size (.slice (some ⟨w.heap.size+1,0,none⟩) p.length p.length) (zgM p.length):=by
      unfold zc2;rw [hzz,e];exact hown
     exact h3.sl
    have HE1:=hid hE1;have Hown1:=hid hown1;clear hE1 hown1;clear hown hgrow s0 s1 q0 q1;go_loopw [4,33] (fun v4 v33 wr=>∃ (k:Nat)(b:List Int)(a:Option Addr)(c:Nat),v33=.int .i64 k∧k≤l.length∧v4=.slice a p.length c∧Hid (Sl wr (.slice a p.length c) (zap b))∧Hid (b.length=p.length∧zgr p b=0)∧Hid (zgN p (zgM p.length) l=zgN p b (l.drop k))∧Hid (Ext w1 wr)) (fun _ v33 _=>l.length - (zal v33).toNat)
    case atStart=>exact ⟨0,zgM p.length,_,_,rfl,Nat.zero_le _,rfl,Hown1,hid ⟨List.length_replicate,Hone.out⟩,hid rfl,hid (Ext.refl _)⟩
    case round =>
     obtain ⟨k,b,ab,cb,rfl,hk,rfl,HB,HL,HF,HE⟩:=hrel;have hEw:=(HE0.out.trans HE1.out).trans HE.out;by_cases hkn:k<l.length
     ·obtain ⟨u,hu⟩:∃ u,vs[k]?=some u:=⟨_,List.getElem?_eq_getElem (by rw [Hvl.out];exact hkn)⟩;obtain ⟨bl,off,rfl,hcu⟩:=Hc.out k u hu;have hru:=Hrows.out k u hu;obtain ⟨ax,cx,rfl,_,_,_⟩:=hru.parts;rw [zar] at hcu hru;have hcw:=hEw.cell hcu;obtain ⟨q0,q1⟩:=Hbox.out wr (HE1.out.trans HE.out);have hdrop:=zkh (p:=p) (b:=b) hkn;have hk1:(0:Int)≤(k:Int):=(by omega);have hk2:(k:Int)<(l.length:Int):=(by omega);have hb2:=fun W (hx:Ext wr W)=>Hbox.out W ((HE1.out.trans HE.out).trans hx);have h1:=Hck.out k _ wr hEw (hEw.sl hru);have h2:=fun W (hx:Ext wr W)=>Hcm.out k _ _ b W (hEw.trans hx) ((hEw.trans hx).sl hru) (hx.sl HB.out) (by have:=HL.out.1;omega);have hru2:=fun W (hx:Ext wr W)=>(hEw.trans hx).sl hru;have Hdrop:=hid hdrop;have H1:=hid h1;have H2:=hid h2;have Hb2:=hid hb2;have Hru2:=hid hru2;clear hdrop h1 h2 hb2 hru2;clear hcu hru hu;by_cases he0:zgr p (l.getD k [])=0
      ·have hxl:(l.getD k []).length=p.length:=(zg3 (zg4 he0).2).1;have ht0:=zhD HL.out.2 he0;rw [he0] at H1;rw [hxl,ht0] at H2;rw [hxl] at H1 Hru2 hcw;have hce:zhE p b (l.getD k [])=zgI p b (l.getD k []):=(by unfold zhE;rw [if_neg (by simpa using ht0)]);rw [hce] at H2;have hd2:=Hdrop.out;rw [if_neg (by simpa using he0)] at hd2;have Hd2:=hid hd2;have Hxl:=hid hxl;have He0:=hid he0;clear hd2 hxl he0;clear Hdrop ht0 hce;go_wp2_with fail
       refine H1.out.mono ?_;rintro e w3 ⟨rfl,hx3⟩;obtain ⟨s0,s1⟩:=Hb2.out w3 hx3;have Hx3:=hid hx3;clear hx3;clear q0 q1 hcw;go_wp2_with fail
       refine (H2.out w3 Hx3.out).mono ?_;rintro e w4 ⟨rfl,hx4⟩;have Hx4:=hid (Hx3.out.trans hx4);clear hx4 s0 s1;generalize zgI p b (l.getD k [])=z at *;by_cases hz:0≤z
       ·have hdd:=Hd2.out;rw [if_pos hz] at hdd;have hfin:=HF.out.trans hdd;have Hfin:=hid hfin;clear hfin hdd;go_wp2
        go_ret
        exact ⟨by rw [Hfin.out] <;> rfl,hEw.trans Hx4.out⟩
       ·have hdd:=Hd2.out;rw [if_neg hz] at hdd;have hfin:=HF.out.trans hdd;have Hfin:=hid hfin;have hzd:decide (z ≥ 0)=false:=decide_eq_false hz;clear hfin hdd;go_wp2_with fail
        go_roundw
        case rel=>exact ⟨k+1,l.getD k [],_,_,by go_num,hkn,rfl,hid (Hru2.out _ Hx4.out),hid ⟨Hxl.out,He0.out⟩,Hfin,hid (HE.out.trans Hx4.out)⟩
        case measure=>simp [zal];omega
      ·have hd2:=Hdrop.out;rw [if_pos he0] at hd2;have hfe:=HF.out.trans hd2;have het:(zgr p (l.getD k []) != 0)=true:=(by rw [bne_iff_ne];exact he0);have Hfe:=hid hfe;clear hfe;clear Hdrop hd2 H2 Hru2 Hb2 HF;generalize zgr p (l.getD k [])=r at *;generalize (l.getD k []).length=L at *;clear he0;go_wp2_with fail
       refine H1.out.mono ?_;rintro e w3 ⟨rfl,hx3⟩;have Hx3:=hid hx3;clear hx3;clear q0 q1 hcw;go_wp2
       go_ret
       exact ⟨by rw [Hfe.out] <;> rfl,hEw.trans Hx3.out⟩
     ·have hkl:l.length=k:=(by omega);have hnk:¬ (k:Int)<(l.length:Int):=(by omega);have hf:=HF.out;rw [List.drop_eq_nil_of_le (by omega)] at hf;rw [zgN] at hf;have Hf:=hid hf;clear hf;clear hkl;go_wp2
      go_ret
      exact ⟨by rw [Hf.out] <;> rfl,hEw⟩
 ·rw [if_pos h1];have ht:(zcw p != 0)=true:=by rw [bne_iff_ne];exact h1
  obtain ⟨q0,q1⟩:=Hbox.out _ (Ext.refl _);generalize zcw p=r at *;clear h1;go_enter Tryz.func32,Tryz.ntmps32
  go_wp2_with fail
  refine (Hpr.out _ HE0.out).mono ?_;rintro e w1 ⟨rfl,rfl⟩;go_wp2
  go_ret
  exact ⟨rfl,HE0.out⟩
structure zkk (p:List Int)(rs:List (List Int)):Prop where
 ne:0<rs.length
 iv:∀ r∈rs,Iv p r
 bd:∀ r∈rs,-100≤zas r 0∧zas r 0≤101
 gt:∀ r∈rs,zgw p r<zgv p r
 up:∀ i,i+1<rs.length→zgI p (rs.getD i []) (rs.getD (i+1) [])<0
 last:rs.getD (rs.length - 1) []=zh6 p.length
theorem zkl (n i:Nat):zas (zgM n) i=0:=zgP n i
theorem zkm {p:List Int}(hp:zhs p):Iv p (zh6 p.length)∧zas (zh6 p.length) 0=1∧zgw p (zh6 p.length)<zgv p (zh6 p.length):=by
 obtain ⟨e1,e2⟩:=zh7 hp;have hl:(zgM p.length).length=p.length:=List.length_replicate;refine ⟨⟨by unfold zh6;rw [zhv,hl],fun i hi=>?_⟩,?_,by rw [e1,e2];have:=hp.two 0 hp.len.1;omega⟩
 ·unfold zh6;rw [zhz 1 _ hi,zkl];decide
 ·unfold zh6;rw [zhy (by rw [hl];exact hp.len.1),zkl];rfl
theorem zkn {p:List Int}(hp:zhs p):zkk p [zh6 p.length]:=by
 obtain ⟨h1,h2,h3⟩:=zkm hp;exact ⟨Nat.one_pos,fun r hr=>by rw [List.mem_singleton.1 hr];exact h1,fun r hr=>by rw [List.mem_singleton.1 hr,h2];omega,fun r hr=>by rw [List.mem_singleton.1 hr];exact h3,fun i hi=>by simp at hi,rfl⟩
theorem zkk.ok {p:List Int}{rs:List (List Int)}(h:zkk p rs)(hp:zhs p):∀ r∈rs,zgr p r=0:=fun r hr=>(h.iv r hr).ok hp (by have:=h.bd r hr;omega)
theorem zkk.not_all {p x:List Int}{rs:List (List Int)}(h:zkk p rs)(hx:zgI p x (zh6 p.length)<0)(ha:∀ i,i<rs.length→zgI p (rs.getD i []) x<0):False:=by
 have h1:=ha (rs.length - 1) (by have:=h.ne;omega);rw [h.last,zgL] at h1;omega
theorem zko {α:Type}{d x:α}{rs:List α}{k:Nat}(hk:k≤rs.length)(i:Nat):(rs.take k++x::rs.drop k).getD i d=if i<k then rs.getD i d else if i=k then x else rs.getD (i - 1) d:=by
 rw [List.getD_eq_getElem?_getD];by_cases h1:i<k
 ·rw [if_pos h1,List.getElem?_append_left (by rw [List.length_take];omega),List.getElem?_take_of_lt h1,List.getD_eq_getElem?_getD]
 ·rw [if_neg h1,List.getElem?_append_right (by rw [List.length_take];omega),List.length_take,Nat.min_eq_left hk];by_cases h2:i=k
  ·rw [if_pos h2,h2,Nat.sub_self];rfl
  ·rw [if_neg h2,show i - k=(i - k - 1)+1 by omega,List.getElem?_cons_succ,List.getElem?_drop,List.getD_eq_getElem?_getD];congr 2;omega
theorem zkk.put {p x:List Int}{rs:List (List Int)}{k:Nat}(h:zkk p rs)(hp:zhs p)(hx:Rdd p x)(h1:zgw p x<zgv p x)(hk:k<rs.length)(hlt:∀ i,i<k→zgI p (rs.getD i []) x<0)(hge:0≤zgI p (rs.getD k []) x)(hne:rs.getD k [] ≠ x):zkk p (rs.take k++x::rs.drop k):=by
 have hm:∀ r∈rs.take k++x::rs.drop k,r=x∨r∈rs:=fun r hr=>by
  rcases List.mem_append.1 hr with q | q
  ·exact .inr (List.mem_of_mem_take q)
  ·rcases List.mem_cons.1 q with q | q
   ·exact .inl q
   ·exact .inr (List.mem_of_mem_drop q)
 have hl:(rs.take k++x::rs.drop k).length=rs.length+1:=by
  rw [List.length_append,List.length_cons,List.length_take,List.length_drop];omega
 have hmk:rs.getD k []∈rs:=by
  rw [List.getD_eq_getElem?_getD,List.getElem?_eq_getElem hk];exact List.getElem_mem _
 refine ⟨by rw [hl];omega,fun r hr=>?_,fun r hr=>?_,fun r hr=>?_,fun i hi=>?_,?_⟩
 ·rcases hm r hr with rfl | q
  ·exact hx.iv
  ·exact h.iv r q
 ·rcases hm r hr with rfl | q
  ·exact hx.bd hp
  ·exact h.bd r q
 ·rcases hm r hr with rfl | q
  ·exact h1
  ·exact h.gt r q
 ·rw [hl] at hi;rw [zko (by omega),zko (by omega)];by_cases g1:i+1<k
  ·rw [if_pos (by omega),if_pos g1];exact h.up i (by omega)
  ·by_cases g2:i+1=k
   ·rw [if_pos (by omega),if_neg (by omega),if_pos g2];exact hlt i (by omega)
   ·by_cases g3:i=k
    ·rw [if_neg (by omega),if_pos g3,if_neg (by omega),if_neg (by omega),show i+1 - 1=k by omega,zgL];have:zgI p (rs.getD k []) x ≠ 0:=fun q=>hne (zhu hp (h.iv _ hmk).len hx.iv.len q);omega
    ·rw [if_neg (by omega),if_neg g3,if_neg (by omega),if_neg (by omega)];have:=h.up (i - 1) (by omega);rwa [show i - 1+1=i by omega] at this
 ·rw [hl,zko (by omega),if_neg (by omega),if_neg (by omega),← h.last];rfl
theorem zkk.from {p:List Int}{rs:List (List Int)}(h:zkk p rs)(hp:zhs p):∀ n i b,i+n=rs.length→(i=0→b=zgM p.length)→(0<i→b=rs.getD (i - 1) [])→zgN p b (rs.drop i)=0
 | 0,i,b,hi,_,_=>by rw [List.drop_eq_nil_of_le (by omega)];rfl
 | n+1,i,b,hi,h0,h1=>by
  have hlt:i<rs.length:=by omega
  have hm:rs.getD i []∈rs:=by
   rw [List.getD_eq_getElem?_getD,List.getElem?_eq_getElem hlt];exact List.getElem_mem _
  have hok:=h.ok hp _ hm;rw [zkh hlt,if_neg (by simpa using hok)];have hn:¬ 0≤zgI p b (rs.getD i []):=by
   by_cases e:i=0
   ·rw [h0 e,zgR hok,zkd hok];have:=h.gt _ hm;have:=(zgK ((zgv p (rs.getD i []):Nat):Int) ((zgw p (rs.getD i []):Nat):Int));omega
   ·rw [h1 (by omega)];have:=h.up (i - 1) (by omega);rw [show i - 1+1=i by omega] at this;omega
  rw [if_neg hn];exact h.from hp n (i+1) _ (by omega) (fun q=>by omega) (fun _=>by rw [Nat.add_sub_cancel])
theorem zkk.ep {p:List Int}{rs:List (List Int)}(h:zkk p rs)(hp:zhs p)(hl:rs.length≤60):zgO p rs=0:=by
 unfold zgO;have:=h.ne;rw [if_neg (by simpa using hp.pe),if_neg (by omega),if_neg (by omega)];have:=h.from hp rs.length 0 (zgM p.length) (by omega) (fun _=>rfl) (fun q=>by omega);rwa [List.drop_zero] at this
end
section
section
variable {α : Type} (key : α → Rat)
def SAt (ps:List α)(i k:Nat):Prop:=∀ a b x y,a<b→b≤i→b ≠ k→ps[a]?=some x→ps[b]?=some y→key x≤key y
def STo (ps:List α)(i:Nat):Prop:=∀ a b x y,a<b→b<i→ps[a]?=some x→ps[b]?=some y→key x≤key y
variable {key}
theorem zkp (ps:List α):STo key ps 1:=fun a b x y h1 h2=>by omega
theorem zkq {ps:List α}{i:Nat}(h:STo key ps i):SAt key ps i i:=fun a b x y h1 h2 h3=>h a b x y h1 (by omega)
theorem zkr {ps:List α}{i:Nat}(h:SAt key ps i 0):STo key ps (i+1):=fun a b x y h1 h2=>h a b x y h1 (by omega) (by omega)
theorem zks {ps:List α}{i k:Nat}{x y:α}(h:SAt key ps i (k+1))(hx:ps[k+1]?=some x)(hy:ps[k]?=some y)(hle:key y≤key x):STo key ps (i+1):=by
 intro a b u v h1 h2 ha hb;by_cases hbk:b=k+1
 ·subst hbk;rw [hx] at hb;cases hb;by_cases hak:a=k
  ·subst hak;rw [hy] at ha;cases ha;exact hle
  ·exact Rat.le_trans (h a k u y (by omega) (by omega) (by omega) ha hy) hle
 ·exact h a b u v h1 (by omega) hbk ha hb
theorem zkt {l:List α}{k:Nat}{x y:α}(hx:l[k+1]?=some x)(j:Nat):((l.set (k+1) y).set k x)[j]?=if j=k then some x else if j=k+1 then some y else l[j]?:=by
 have hl:k+1<l.length:=(List.getElem?_eq_some_iff.1 hx).1;rw [List.getElem?_set,List.getElem?_set,List.length_set];by_cases h1:k=j
 ·rw [if_pos h1,if_pos h1.symm,if_pos (by omega)]
 ·rw [if_neg h1,if_neg (c:=j=k) (fun h=>h1 h.symm)];by_cases h2:k+1=j
  ·rw [if_pos h2,if_pos h2.symm,if_pos (by omega)]
  ·rw [if_neg h2,if_neg (c:=j=k+1) (fun h=>h2 h.symm)]
theorem zku {ps:List α}{i k:Nat}{x y:α}(h:SAt key ps i (k+1))(hx:ps[k+1]?=some x)(hy:ps[k]?=some y)(hlt:key x≤key y):SAt key ((ps.set (k+1) y).set k x) i k:=by
 intro a b u v h1 h2 h3 ha hb;rw [zkt hx] at ha hb;rw [if_neg h3] at hb;by_cases hb1:b=k+1
 ·rw [if_pos hb1] at hb
  cases hb
  by_cases ha1:a=k
  ·rw [if_pos ha1] at ha
   cases ha
   exact hlt
  ·rw [if_neg ha1,if_neg (by omega)] at ha;exact h a k u y (by omega) (by omega) (by omega) ha hy
 ·rw [if_neg hb1] at hb;by_cases ha1:a=k
  ·rw [if_pos ha1] at ha
   cases ha
   exact h (k+1) b x v (by omega) h2 hb1 hx hb
  ·rw [if_neg ha1] at ha;by_cases ha2:a=k+1
   ·rw [if_pos ha2] at ha
    cases ha
    exact h k b y v (by omega) h2 hb1 hy hb
   ·rw [if_neg ha2] at ha;exact h a b u v h1 h2 hb1 ha hb
theorem zkv : ∀ {l:List α}{k:Nat}{x y:α},l[k+1]?=some x→l[k]?=some y→((l.set (k+1) y).set k x).Perm l
 | [],_,_,_,h,_=>by simp at h
 | [_],0,_,_,h,_=>by simp at h
 | b::a::t,0,x,y,h1,h2=>by
  simp at h1 h2;subst h1 h2;exact List.Perm.swap ..
 | c::t,k+1,x,y,h1,h2=>by
  simp only [List.getElem?_cons_succ] at h1 h2;simp only [List.set_cons_succ];exact (zkv h1 h2).cons c
theorem zkw {ps:List α}(h:STo key ps ps.length):ps.Pairwise fun x y=>key x≤key y:=by
 rw [List.pairwise_iff_getElem];intro i j hi hj hij;exact h i j _ _ hij hj (List.getElem?_eq_getElem hi) (List.getElem?_eq_getElem hj)
end
end
section
open Go.RowKit Go.Lib
structure InR {α:Type}(T:TypeId)(W0:World)(B blk cap:Nat)(enc:α→Value)(d0:List α)(wr:World)(dk:List α):Prop where
 perm:dk.Perm d0
 own:wr.ownsRow B T 1 (.slice (some ⟨blk,0,none⟩) d0.length cap) d0.length (dk.map enc)
 only:W0.grownBy wr (some blk)
section
variable {α : Type} {T : TypeId} {W0 wr : World} {B blk cap : Nat} {enc : α → Value} {d0 dk : List α}
theorem InR.ext {w':World}(h:InR T W0 B blk cap enc d0 wr dk)(hx:Ext wr w'):InR T W0 B blk cap enc d0 w' dk:=⟨h.perm,hx.own h.own,zcC h.only hx⟩
theorem InR.len (h:InR T W0 B blk cap enc d0 wr dk):dk.length=d0.length:=h.perm.length_eq
theorem InR.cell (h:InR T W0 B blk cap enc d0 wr dk){k:Nat}{x:α}(hx:dk[k]?=some x):wr.cell? ⟨blk,k,none⟩=some (enc x):=by
 have hk:=(List.getElem?_eq_some_iff.1 hx).1;have:=h.len;rw [World.ownsRow.cellAt h.own k (by omega),List.getElem?_map,hx];rfl
theorem InR.frozen (h:InR T W0 B blk cap enc d0 wr dk)(k:Nat):wr.frozen? ⟨blk,k,none⟩=false:=by
 rcases h.own.2 with ⟨e,_⟩ | ⟨g,cap',cur,e,hb,hg,_⟩
 ·cases e
 ·injection e with e1 _ _;injection e1 with e1;injection e1 with e1;subst e1;exact frozen_of_row _ _ _ _ _ hg
theorem InR.swap (h:InR T W0 B blk cap enc d0 wr dk){k:Nat}{x y:α}(hx:dk[k+1]?=some x)(hy:dk[k]?=some y) :
  InR T W0 B blk cap enc d0 ((wr.setCell ⟨blk,k+1,none⟩ (enc y)).setCell ⟨blk,k,none⟩ (enc x)) ((dk.set (k+1) y).set k x):=by
 have h1:=World.ownsRow.stored h.own (k+1) (enc y);have h2:=World.ownsRow.stored h1.1 k (enc x);refine ⟨(zkv hx hy).trans h.perm,?_,zcB (zcB h.only rfl _) rfl _⟩;rw [List.map_set,List.map_set];exact h2.1
theorem InR.mem (h:InR T W0 B blk cap enc d0 wr dk){k:Nat}{x:α}(hx:dk[k]?=some x):x∈d0:=h.perm.mem_iff.1 (List.mem_of_getElem? hx)
end
end
end Go.Proofs.YtipkdebkdnbieaaGreatDoor
