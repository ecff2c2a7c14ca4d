/- Walk: epimorphism.reduce by the octave, where the few bits decide. (KEEPALL) Plain: an interval less whole octaves, step by step, as law 37's reduced takes it. (KEEPALL) Walk: law 37's reduced. (KEEPALL) Plain: a sorted set of intervals of an octave; one more interval put in its place; such a set is right. (KEEPALL) Plain: an insertion sort by a key; lists in order. The row of an insertion sort whose compare makes memory. Walk: slices.insertionSortCmpFunc at rows, with a compare that makes memory. Walk: slices.SortFunc at rows, at most twelve elements, with a compare that makes memory. (KEEPALL) Walk: row.IsZero. (KEEPALL) -/
import Derived.Test.YtkdgmahilfnnmaaGreatDoorPc15
import Derived.Test.YtkdgmahilfnnmaaGreatDoorPc14
import Derived.Test.YtkdgmahilfnnmaaGreatDoorPc17
import Derived.Test.YtkdgmahilfnnmaaGreatDoorPc10
import Derived.Test.YtkdgmahilfnnmaaGreatDoorPc13
import Derived.Test.YtkdgmahilfnnmaaGreatDoorPc08
import Derived.Test.YtkdgmahilfnnmaaGreatDoorPc02
import Derived.Shelf.RegionOpenPlain
import Derived.Shelf.Abstract
import Derived.Shelf.SlicesE.Kit
import Derived.Deep.RegionHeld3
import Derived.Test.YtkdgmahilfnnmaaGreatDoorPc11
import Derived.Test.YtkdgmahilfnnmaaGreatDoorPc12
set_option maxRecDepth 100000
set_option maxHeartbeats 4000000
namespace Go.Proofs.YtkdgmahilfnnmaaGreatDoor
section
open Go.RowKit Go.Lib
def zjW (n:Nat):List Int:=1::List.replicate n 0
theorem zjX (n:Nat):zgN (zjW n)=ov n:=by
 unfold zgN zjW ov;rw [List.map_cons,List.map_replicate];rfl
theorem zjY (n:Nat):(zjW n).length=n+1:=by unfold zjW;rw [List.length_cons,List.length_replicate]
theorem zjZ (n i:Nat):zas (zjW n) i=0∨zas (zjW n) i=1:=by
 unfold zas zjW;rw [List.getD_eq_getElem?_getD]
 cases i with
 | zero=>right;rfl
 | succ i =>
  left
  rw [List.getElem?_cons_succ,List.getElem?_replicate]
  split <;> rfl
theorem zka {z:Int}(h:-1000≤z∧z≤1000):Ft 30 (z:Rat):=by
 refine ⟨?_,?_⟩
 ·rw [Rat.num_intCast];exact Nat.le_trans (Dec.nDigits_le (k:=4) (by decide) (show z.natAbs<10 ^ 4 by omega)) (by decide)
 ·rw [Rat.den_intCast];exact Nat.le_trans (Dec.nDigits_le (k:=1) (by decide) (by decide)) (by decide)
theorem zkb (vp vx vq:Value)(p:List Int)(z0:Int)(zs o:List Int)(q:Int)(w:World)(he:Env w)(hp:Sl w vp (zap p))(hx:Sl w vx (zap (z0::zs)))(hy:Sl w vq (zap (zjW zs.length)))(h1:zgo p (z0::zs)=0)(h2:zgo p (zjW zs.length)=0)(hpr:Pr p (zs.length+1))(hq:QF p (zgN (z0::zs)))(hfl:flP p (zgN (z0::zs))=q)(hq0:-1000000≤q)(hq1:q≤1000000)(ho:zi6 (z0::zs) (-q) (zjW zs.length)=some o) :
  Calls Tryz.prog 49 #[vp,vx,vq] w fun e w'=>∃ v,e=.returned (.tuple #[v,.int .i64 0])∧zc2 w' w.heap.size v o∧Ext w w':=by
 obtain ⟨hpe,hre⟩:=zg1 h1;obtain ⟨hxl,hxb⟩:=zg0 hre;obtain ⟨hp0,hp6,_⟩:=zc0 hpe;have hzl:(z0::zs).length=zs.length+1:=rfl;have hof:=fun W (hE:Ext w W)=>zjo vp vx p (z0::zs) W (he.ext hE) (hE.sl hp) (hE.sl hx) h1;have hoy:=fun W (hE:Ext w W)=>zjo vp vq p (zjW zs.length) W (he.ext hE) (hE.sl hp) (hE.sl hy) h2;rw [zjX] at hoy;have hft:∀ r∈zgN (z0::zs),Ft 30 r:=fun r hr=>by
  unfold zgN at hr;obtain ⟨z,hz,rfl⟩:=List.mem_map.1 hr;obtain ⟨i,hi⟩:=List.mem_iff_getElem?.1 hz;have hl:=(List.getElem?_eq_some_iff.1 hi).1;have:=hxb i hl;unfold zas at this;rw [List.getD_eq_getElem?_getD,hi] at this;exact zka this
 have hcons:zgN (z0::zs)=((z0:Int):Rat)::zgN zs:=rfl;have hrl:(zgN zs).length=zs.length:=zjj zs;have hflo:=fun va vb W (hE:Ext w W)(ha:Rd W va (zgN (z0::zs)))(hb:Rd W vb (ov zs.length))=>zjV vp va vb p ((z0:Int):Rat) (zgN zs) W (he.ext hE) (hE.sl hp) ha (by rw [hrl];exact hb) hpe (by rw [hrl];exact hpr) hft hq;rw [← hcons,hfl] at hflo;have hsm:=fun W=>zfK q W (by omega) (by omega);have hpl:=fun W (hE:Ext w W)=>ziG vx vq (z0::zs) (zjW zs.length) (-q) W (hE.sl hx) (hE.sl hy) (by rw [zjY];rfl) (by omega) (fun i hi=>by have:=hxb i hi;omega) (fun i hi=>by rcases zjZ zs.length i with e | e <;> rw [e] <;> omega)
 rw [ho] at hpl;obtain ⟨ap,cp,rfl,_,_,_⟩:=hp.parts;obtain ⟨ax,cx,rfl,_,_,_⟩:=hx.parts;obtain ⟨ay,cy,rfl,_,_,_⟩:=hy.parts;simp only [zar] at hof hoy hflo hpl ⊢;have hd1:decide (q > 1000000000)=false:=decide_eq_false (by omega);have hd2:decide (q < -1000000000)=false:=decide_eq_false (by omega);have Hof:=hid hof;have Hoy:=hid hoy;have Hflo:=hid hflo;have Hsm:=hid hsm;have Hpl:=hid hpl;clear hof hoy hflo hsm hpl;clear hp hx hy h1 h2 hpr hq hfl ho hpe hre hxb hft hcons hrl hp0 hp6 hxl he hzl;generalize I q=sq at *;generalize (z0::zs).length=n at *;generalize (zjW zs.length).length=m at *;go_enter Tryz.func49,Tryz.ntmps49
 go_wp2_with fail
 refine (Hof.out w (Ext.refl _)).mono ?_;rintro e w1 ⟨v1,rfl,ho1,hx1⟩;have Hr1:=hid ho1.rd;have Hx1:=hid hx1;clear hx1;clear ho1;go_wp2_with fail
 refine (Hoy.out w1 Hx1.out).mono ?_;rintro e w2 ⟨v2,rfl,ho2,hx2⟩;have Hr2:=hid ho2.rd;have Hr1':=hid (hx2.rd Hr1.out);have Hx2:=hid (Hx1.out.trans hx2);clear ho2 hx2;go_wp2_with fail
 refine (Hflo.out v1 v2 w2 Hx2.out Hr1'.out Hr2.out).mono ?_;rintro e w3 ⟨rfl,hx3⟩;have Hx3:=hid (Hx2.out.trans hx3);clear hx3;go_wp2_with fail
 refine (Hsm.out w3).mono ?_;rintro e w4 ⟨rfl,hx4⟩;have Hx4:=hid (Hx3.out.trans hx4);clear hx4;go_wp2_with fail
 refine (Hpl.out w4 Hx4.out).mono ?_;rintro e w5 ⟨⟨v,rfl,hov⟩,hx5⟩;have hov2:=zam hov Hx4.out.size;have Hov:=hid hov2;have Hx5:=hid (Hx4.out.trans hx5);obtain ⟨av,cv,ev⟩:=zc3 hov2;subst ev;clear hov hov2 hx5;go_wp2
 go_ret2
 exact ⟨_,rfl,Hov.out,Hx5.out⟩
theorem zkc (n:Nat):ziy (n+1)=zjW n:=by
 unfold ziy zhw zjW;rw [List.replicate_succ];rfl
theorem zkd : ∀ (k:Int)(x:List Int)(n:Nat),x.length=n→zi5 x k (List.replicate n 0)=x
 | _,[],_,h=>by subst h;rfl
 | k,a::x,n,h=>by
  obtain ⟨m,rfl⟩:∃ m,n=m+1:=⟨x.length,by simpa using h.symm⟩;have:=zkd k x m (by simpa using h);unfold zi5 at this ⊢;rw [List.replicate_succ,List.zipWith_cons_cons,this,Int.mul_zero,Int.add_zero]
theorem zke {x:List Int}{n:Nat}(k:Int)(h:x.length=n+1):zi5 x k (zjW n)=bmp k x:=by
 cases x with
 | nil=>simp at h
 | cons a x =>
  have:=zkd k x n (by simpa using h)
  unfold zi5 zjW at *
  rw [List.zipWith_cons_cons,this,Int.mul_one]
  rfl
theorem zkf {p r:List Int}(hpe:zcw p=0)(hl:r.length=p.length)(hb:∀ i,i<r.length→-1000≤zas r i∧zas r i≤1000):zgo p r=0:=by
 unfold zgo zgg;rw [if_neg (by simpa using hpe),zgf];have hr:zge p.length r=0:=by
  unfold zge;rw [if_neg (by simpa using hl),if_neg];intro q;rw [zgl fun i hi=>zgj (by have:=hb i hi;omega) (by have:=hb i hi;omega)] at q
  cases q
 rw [if_neg (by simpa using hr)];rfl
structure Iv (p x:List Int):Prop where
 len:x.length=p.length
 tl:Tl9 x
theorem Iv.bmp {p x:List Int}(h:Iv p x)(k:Int):Iv p (bmp k x):=⟨by rw [zin];exact h.len,h.tl.bmp k⟩
theorem Iv.ok {p x:List Int}(h:Iv p x)(hp:zik p)(hb:-900≤zas x 0∧zas x 0≤900):zgo p x=0:=zkf hp.pe h.len fun i hi=>by
 by_cases e:i=0
 ·subst e;omega
 ·have:=h.tl i (by omega);omega
theorem zkg {p x:List Int}(h:zgo p x=0):zg5 p x=zbj (zgs p x:Nat) (zgt p x:Nat):=by unfold zg5;rw [if_neg (by simpa using h)]
theorem zkh {p x:List Int}(hp:zik p)(h1:zgs p x<zgt p x):zhs p x (ziy p.length)<0:=by
 obtain ⟨e1,e2⟩:=ziz hp;unfold zhs;rw [zi0,e1,e2,Nat.mul_one];have h2:=hp.two 0 hp.len.1;have:zgt p x≤(zas p 0).toNat * zgt p x:=Nat.le_mul_of_pos_left _ (by omega);omega
def Stp (p x:List Int)(k:Nat)(c:List Int):Prop :=
 (k=0∧c=x)∨(0<k∧∃ b,c=bmp 1 b∧b=bmp ((k:Int) - 1) x∧zgs p b<zgt p b)∨(0<k∧∃ b,c=bmp (-1) b∧b=bmp (-((k:Int) - 1)) x∧¬ zhs p b (ziy p.length)<0)
section
variable {p x c : List Int} {k : Nat}
theorem Stp.bd (h:Stp p x k c)(hp:zik p)(hx:Iv p x)(h0:-9≤zas x 0∧zas x 0≤9):Iv p c∧(-200≤zas c 0∧zas c 0≤200)∧k≤200:=by
 have hl:0<x.length:=by rw [hx.len];exact hp.len.1
 rcases h with ⟨rfl,rfl⟩ | ⟨hk,b,rfl,rfl,hb⟩ | ⟨hk,b,rfl,rfl,hb⟩
 ·exact ⟨hx,by omega,by omega⟩
 ·have hi:=hx.bmp ((k:Int) - 1);have e:=ziq hl ((k:Int) - 1);have e2:=ziq (x:=bmp ((k:Int) - 1) x) (by rw [zin];exact hl) 1;have:¬ 100≤zas (bmp ((k:Int) - 1) x) 0:=fun q=>by
   have:=ziw hp hi.len hi.tl q;omega
  exact ⟨hi.bmp 1,by omega,by omega⟩
 ·have hi:=hx.bmp (-((k:Int) - 1));have e:=ziq hl (-((k:Int) - 1));have e2:=ziq (x:=bmp (-((k:Int) - 1)) x) (by rw [zin];exact hl) (-1);have:¬ zas (bmp (-((k:Int) - 1)) x) 0≤-100:=fun q=>hb (zkh hp (zix hp hi.len hi.tl q));exact ⟨hi.bmp (-1),by omega,by omega⟩
theorem Stp.up (h:Stp p x k c)(hp:zik p)(hx:Iv p x)(h1:zgs p c<zgt p c):Stp p x (k+1) (bmp 1 c):=by
 rcases h with ⟨rfl,rfl⟩ | ⟨hk,b,rfl,rfl,hb⟩ | ⟨hk,b,rfl,rfl,hb⟩
 ·exact .inr (.inl ⟨by omega,c,rfl,by rw [show (((0+1:Nat):Int) - 1)=0 by omega,zip],h1⟩)
 ·refine .inr (.inl ⟨by omega,_,rfl,?_,h1⟩);rw [zio];congr 1;omega
 ·have hi:=hx.bmp (-((k:Int) - 1));have:=zi2 hp hi.len hb;omega
theorem Stp.down (h:Stp p x k c)(hp:zik p)(hx:Iv p x)(h2:¬ zhs p c (ziy p.length)<0):Stp p x (k+1) (bmp (-1) c):=by
 rcases h with ⟨rfl,rfl⟩ | ⟨hk,b,rfl,rfl,hb⟩ | ⟨hk,b,rfl,rfl,hb⟩
 ·exact .inr (.inr ⟨by omega,c,rfl,by rw [show (-(((0+1:Nat):Int) - 1))=0 by omega,zip],h2⟩)
 ·have hi:=hx.bmp ((k:Int) - 1);exact absurd (zi1 hp hi.len hb) h2
 ·refine .inr (.inr ⟨by omega,_,rfl,?_,h2⟩);rw [zio];congr 1;omega
end
structure Rdd (p r:List Int):Prop where
 iv:Iv p r
 lo:zgt p r≤zgs p r
 hi:zhs p r (ziy p.length)<0
theorem Rdd.bd {p r:List Int}(h:Rdd p r)(hp:zik p):-100≤zas r 0∧zas r 0≤101:=by
 have h1:¬ zas r 0≤-100:=fun q=>by have:=zix hp h.iv.len h.iv.tl q;have:=h.lo;omega
 have hl:0<r.length:=by rw [h.iv.len];exact hp.len.1
 have h2:¬ 101≤zas r 0:=fun q=>by
  have hi:=h.iv.bmp (-1);have e:=ziq hl (-1);have hf:=ziw hp hi.len hi.tl (by omega);have hn:¬ zhs p r (ziy p.length)<0:=fun q2=>by
   have hb:=zit hp hi.len;rw [zio,show (-1:Int)+1=0 from rfl,zip] at hb;obtain ⟨e1,e2⟩:=ziz hp;unfold zhs at q2;rw [zi0,e1,e2,Nat.mul_one] at q2;obtain ⟨d1,_⟩:=ziu hp hi.len;obtain ⟨d2,_⟩:=ziu hp h.iv.len;have h3:zgs p r * zgt p (bmp (-1) r)<(zas p 0).toNat * zgt p r * zgt p (bmp (-1) r):=Nat.mul_lt_mul_of_pos_right (by omega) d1;rw [hb] at h3;have h4:(zas p 0).toNat * (zgt p (bmp (-1) r) * zgt p r)≤(zas p 0).toNat * (zgs p (bmp (-1) r) * zgt p r):=Nat.mul_le_mul_left _ (Nat.mul_le_mul_right _ (by omega));have h5:(zas p 0).toNat * zgt p r * zgt p (bmp (-1) r)=(zas p 0).toNat * (zgt p (bmp (-1) r) * zgt p r):=(by rw [Nat.mul_assoc,Nat.mul_comm (zgt p r)]);omega
  exact hn h.hi
 omega
end
section
open Go.RowKit Go.Lib Go.Shelf
theorem zki (vp vq vx:Value)(p x:List Int)(n:Nat)(w:World)(he:Env w)(hp:Sl w vp (zap p))(hq:Sl w vq (zap (zjW n)))(hx:Sl w vx (zap x))(hok:zik p)(hpn:p.length=n+1)(hi:Iv p x)(h0:-9≤zas x 0∧zas x 0≤9) :
  Calls Tryz.prog 56 #[vp,vq,vx] w fun e w'=>∃ v r,e=.returned v∧Rdd p r∧((v=vx∧r=x)∨zc2 w' w.heap.size v r)∧Ext w w':=by
 have hpe:=hok.pe;have hl4:=hok.len;have hol:(zjW n).length=n+1:=zjY n;have hoe:zgo p (zjW n)=0:=zkf hpe (by omega) fun i hi=>by rcases zjZ n i with e | e <;> rw [e] <;> omega
 have hper:ziy p.length=zjW n:=by rw [hpn];exact zkc n
 have hxl:x.length=n+1:=by rw [hi.len];exact hpn
 have hbd:∀ k c,Stp p x k c→Iv p c∧(-200≤zas c 0∧zas c 0≤200)∧k≤200:=fun k c h=>h.bd hok hi h0;have hone:∀ k c,Stp p x k c→zgo p c=0:=fun k c h=>by
  obtain ⟨h1,h2,_⟩:=hbd k c h;exact h1.ok hok (by omega)
 have hsg:=fun k c (h:Stp p x k c) v W (hE:Ext w W)(hv:Sl W v (zap c))=>zg6 vp v p c W (he.ext hE) (hE.sl hp) hv (by omega) (by have:=(hbd k c h).1.len;omega);have hcm:=fun k c (h:Stp p x k c) v W (hE:Ext w W)(hv:Sl W v (zap c))=>zh7 vp v vq p c (zjW n) W (he.ext hE) (hE.sl hp) hv (hE.sl hq) (by omega) (by have:=(hbd k c h).1.len;omega) (by omega);have hce:∀ k c,Stp p x k c→zh5 p c (zjW n)=zhs p c (ziy p.length):=fun k c h=>by
  unfold zh5;rw [if_neg (by simpa using zh4 (hone k c h) hoe),hper]
 have hlen:∀ k c,Stp p x k c→c.length=n+1:=fun k c h=>by have:=(hbd k c h).1.len;omega
 have hup:∀ k c,Stp p x k c→zgs p c<zgt p c→Stp p x (k+1) (bmp 1 c):=fun k c h h1=>h.up hok hi h1;have hdn:∀ k c,Stp p x k c→¬ zhs p c (ziy p.length)<0→Stp p x (k+1) (bmp (-1) c):=fun k c h h1=>h.down hok hi h1;have had:=fun k c (h:Stp p x k c)(h2:Stp p x (k+1) (bmp 1 c)) v W (hE:Ext w W)(hv:Sl W v (zap c))=>ziY vp v vq p c (zjW n) W (hE.sl hp) hv (hE.sl hq) (hone k c h) hoe (by rw [zke 1 (hlen k c h)];exact hone _ _ h2);have hsb:=fun k c (h:Stp p x k c)(h2:Stp p x (k+1) (bmp (-1) c)) v W (hE:Ext w W)(hv:Sl W v (zap c))=>ziZ vp v vq p c (zjW n) W (hE.sl hp) hv (hE.sl hq) (hone k c h) hoe (by rw [zke (-1) (hlen k c h)];exact hone _ _ h2);have hpl:=fun k c (h:Stp p x k c)(z:Int)=>zke z (hlen k c h);have hsx:=hx;obtain ⟨ap,cp,rfl,_,_,_⟩:=hp.parts;obtain ⟨aq,cq,rfl,_,_,_⟩:=hq.parts;obtain ⟨ax,cx,rfl,_,_,_⟩:=hx.parts;simp only [zar] at *;rw [hpn] at hsg hcm had hsb ⊢;rw [hol] at hcm had hsb ⊢;rw [hxl] at hsx ⊢;have hst:Stp p x 0 x:=.inl ⟨rfl,rfl⟩;have Hsg:=hid hsg;have Hcm:=hid hcm;have Hce:=hid hce;have Had:=hid had;have Hsb:=hid hsb;have Hpl:=hid hpl;have Hbd:=hid hbd;have Hone:=hid hone;have Hlen:=hid hlen;have Hup:=hid hup;have Hdn:=hid hdn;have Hsx:=hid hsx;have Hst:=hid hst;have Hpn:=hid hpn;have Hper:=hid hper;clear hsg hcm hce had hsb hpl hbd hone hlen hup hdn hsx hst hpn hper;clear hp hq hx he hok hi h0 hoe hol hxl hpe hl4;go_enter Tryz.func56,Tryz.ntmps56
 go_wp2_with fail
 go_loopw [2,7] (fun v2 v7 wr=>∃ (k:Nat)(c:List Int)(a:Option Addr)(cap:Nat),v7=.int .i64 k∧v2=.slice a (n+1) cap∧Hid (Stp p x k c)∧Hid (Sl wr (.slice a (n+1) cap) (zap c))∧Hid ((Value.slice a (n+1) cap=.slice ax (n+1) cx∧c=x)∨zc2 wr w.heap.size (.slice a (n+1) cap) c)∧Hid (Ext w wr)) (fun _ v7 _=>20000 - (zal v7).toNat)
 case atStart=>exact ⟨0,x,_,_,rfl,rfl,Hst,Hsx,hid (.inl ⟨rfl,rfl⟩),hid (Ext.refl _)⟩
 case round =>
  obtain ⟨k,c,a,cap,rfl,rfl,HS,HV,HO,HE⟩:=hrel;obtain ⟨hiv,hb,hk⟩:=Hbd.out k c HS.out;have hk1:(k:Int)<10000:=by omega
  have hk2:k<10000:=by omega
  have h1:=Hsg.out k c HS.out _ wr HE.out HV.out;have ho1:=Hone.out k c HS.out;rw [ho1,zkg ho1] at h1;have hng:=zi0 ((zgs p c:Nat):Int) ((zgt p c:Nat):Int);generalize hs:zbj ((zgs p c:Nat):Int) ((zgt p c:Nat):Int)=sg at *;have H1:=hid h1;have Hng:=hid hng;have Hs:=hid hs;have Hiv:=hid hiv;clear h1 hng hs hiv;clear hb;by_cases hlt:sg<0
  ·have hnd:zgs p c<zgt p c:=(by have:=Hng.out.1 hlt;omega);have hst2:=Hup.out k c HS.out hnd;have h2:=fun W (hx:Ext wr W)=>Had.out k c HS.out hst2 _ W (HE.out.trans hx) (hx.sl HV.out);rw [Hpl.out k c HS.out 1] at h2;have hl2:=Hlen.out _ _ hst2;have hsd:decide (sg<0)=true:=decide_eq_true hlt;have H2:=hid h2;have Hst2:=hid hst2;have Hl2:=hid hl2;clear h2 hst2 hl2;clear hnd ho1;go_wp2_with fail
   refine H1.out.mono ?_;rintro e w1 ⟨rfl,hx1⟩;have h3:=H2.out w1 hx1;have Hx1:=hid hx1;have H3:=hid h3;clear hx1 h3;go_wp2_with fail
   refine H3.out.mono ?_;rintro e w2 ⟨v2,rfl,ho2,hx2⟩;obtain ⟨a2,c2,e2⟩:=zc3 ho2;rw [Hl2.out] at e2;subst e2;have HS2:=hid ho2.sl;have HO2:=hid (zam ho2 (HE.out.trans Hx1.out).size);have HE2:=hid ((HE.out.trans Hx1.out).trans hx2);clear ho2 hx2;go_wp2_with fail
   go_roundw
   case rel=>exact ⟨k+1,bmp 1 c,a2,c2,by go_num,rfl,Hst2,HS2,hid (.inr HO2.out),HE2⟩
   case measure=>simp [zal];omega
  ·have hdn2:zgt p c≤zgs p c:=by
    have:=Hng.out;rcases Nat.lt_or_ge (zgs p c) (zgt p c) with q | q
    ·exact absurd (this.2 (by omega)) hlt
    ·exact q
   have hsd:decide (sg<0)=false:=decide_eq_false hlt;have h2:=fun W (hx:Ext wr W)=>Hcm.out k c HS.out _ W (HE.out.trans hx) (hx.sl HV.out);rw [Hce.out k c HS.out] at h2;have hdd:=Hdn.out k c HS.out;have hrd:zhs p c (ziy p.length)<0→Rdd p c:=fun h=>⟨Hiv.out,hdn2,h⟩;have hsb2:=fun (hst2:Stp p x (k+1) (bmp (-1) c)) W (hx:Ext wr W)=>Hsb.out k c HS.out hst2 _ W (HE.out.trans hx) (hx.sl HV.out);rw [Hpl.out k c HS.out (-1)] at hsb2;generalize zhs p c (ziy p.length)=z at *;generalize zh2 p c (zjW n)=te at *;have H2:=hid h2;have Hdd:=hid hdd;have Hrd:=hid hrd;have Hsb2:=hid hsb2;clear h2 hdd hrd hsb2;clear hdn2 ho1;by_cases hz:z<0
   ·have hzd:decide (z<0)=true:=decide_eq_true hz;have hrr:=Hrd.out hz;have Hrr:=hid hrr;clear hrr;go_wp2_with fail
    refine H1.out.mono ?_;rintro e w1 ⟨rfl,hx1⟩;have h3:=H2.out w1 hx1;have Hx1:=hid hx1;have H3:=hid h3;clear hx1 h3;go_wp2_with fail
    refine H3.out.mono ?_;rintro e w2 ⟨rfl,hx2⟩;have HO2:=hid (HO.out.imp id fun h=>(Hx1.out.trans hx2).ownI h);have HE2:=hid ((HE.out.trans Hx1.out).trans hx2);clear hx2;go_wp2
    go_ret
    exact ⟨_,c,rfl,Hrr.out,HO2.out,HE2.out⟩
   ·have hzd:decide (z<0)=false:=decide_eq_false hz;have hst2:=Hdd.out (by omega);have h4:=Hsb2.out hst2;have hl2:=Hlen.out _ _ hst2;have H4:=hid h4;have Hst2:=hid hst2;have Hl2:=hid hl2;clear h4 hst2 hl2;go_wp2_with fail
    refine H1.out.mono ?_;rintro e w1 ⟨rfl,hx1⟩;have h3:=H2.out w1 hx1;have Hx1:=hid hx1;have H3:=hid h3;clear hx1 h3;go_wp2_with fail
    refine H3.out.mono ?_;rintro e w2 ⟨rfl,hx2⟩;have h5:=H4.out w2 (Hx1.out.trans hx2);have Hx2:=hid (Hx1.out.trans hx2);have H5:=hid h5;clear h5;clear hx2;go_wp2_with fail
    refine H5.out.mono ?_;rintro e w3 ⟨v3,rfl,ho3,hx3⟩;obtain ⟨a3,c3,e3⟩:=zc3 ho3;rw [Hl2.out] at e3;subst e3;have HS3:=hid ho3.sl;have HO3:=hid (zam ho3 (HE.out.trans Hx2.out).size);have HE3:=hid ((HE.out.trans Hx2.out).trans hx3);clear ho3 hx3;go_wp2_with fail
    go_roundw
    case rel=>exact ⟨k+1,bmp (-1) c,a3,c3,by go_num,rfl,Hst2,HS3,hid (.inr HO3.out),HE3⟩
    case measure=>simp [zal];omega
end
section
open Go.RowKit Go.Lib
structure zkj (p:List Int)(rs:List (List Int)):Prop where
 ne:0<rs.length
 iv:∀ r∈rs,Iv p r
 bd:∀ r∈rs,-100≤zas r 0∧zas r 0≤101
 gt:∀ r∈rs,zgt p r<zgs p r
 up:∀ i,i+1<rs.length→zhs p (rs.getD i []) (rs.getD (i+1) [])<0
 last:rs.getD (rs.length - 1) []=ziy p.length
theorem zkk (n i:Nat):zas (zhw n) i=0:=zhz n i
theorem zkl {p:List Int}(hp:zik p):Iv p (ziy p.length)∧zas (ziy p.length) 0=1∧zgt p (ziy p.length)<zgs p (ziy p.length):=by
 obtain ⟨e1,e2⟩:=ziz hp;have hl:(zhw p.length).length=p.length:=List.length_replicate;refine ⟨⟨by unfold ziy;rw [zin,hl],fun i hi=>?_⟩,?_,by rw [e1,e2];have:=hp.two 0 hp.len.1;omega⟩
 ·unfold ziy;rw [zir 1 _ hi,zkk];decide
 ·unfold ziy;rw [ziq (by rw [hl];exact hp.len.1),zkk];rfl
theorem zkm {p:List Int}(hp:zik p):zkj p [ziy p.length]:=by
 obtain ⟨h1,h2,h3⟩:=zkl hp;exact ⟨Nat.one_pos,fun r hr=>by rw [List.mem_singleton.1 hr];exact h1,fun r hr=>by rw [List.mem_singleton.1 hr,h2];omega,fun r hr=>by rw [List.mem_singleton.1 hr];exact h3,fun i hi=>by simp at hi,rfl⟩
theorem zkj.ok {p:List Int}{rs:List (List Int)}(h:zkj p rs)(hp:zik p):∀ r∈rs,zgo p r=0:=fun r hr=>(h.iv r hr).ok hp (by have:=h.bd r hr;omega)
theorem zkj.not_all {p x:List Int}{rs:List (List Int)}(h:zkj p rs)(hx:zhs p x (ziy p.length)<0)(ha:∀ i,i<rs.length→zhs p (rs.getD i []) x<0):False:=by
 have h1:=ha (rs.length - 1) (by have:=h.ne;omega);rw [h.last,zhv] at h1;omega
theorem zkn {α:Type}{d x:α}{rs:List α}{k:Nat}(hk:k≤rs.length)(i:Nat):(rs.take k++x::rs.drop k).getD i d=if i<k then rs.getD i d else if i=k then x else rs.getD (i - 1) d:=by
 rw [List.getD_eq_getElem?_getD];by_cases h1:i<k
 ·rw [if_pos h1,List.getElem?_append_left (by rw [List.length_take];omega),List.getElem?_take_of_lt h1,List.getD_eq_getElem?_getD]
 ·rw [if_neg h1,List.getElem?_append_right (by rw [List.length_take];omega),List.length_take,Nat.min_eq_left hk];by_cases h2:i=k
  ·rw [if_pos h2,h2,Nat.sub_self];rfl
  ·rw [if_neg h2,show i - k=(i - k - 1)+1 by omega,List.getElem?_cons_succ,List.getElem?_drop,List.getD_eq_getElem?_getD];congr 2;omega
theorem zkj.put {p x:List Int}{rs:List (List Int)}{k:Nat}(h:zkj p rs)(hp:zik p)(hx:Rdd p x)(h1:zgt p x<zgs p x)(hk:k<rs.length)(hlt:∀ i,i<k→zhs p (rs.getD i []) x<0)(hge:0≤zhs p (rs.getD k []) x)(hne:rs.getD k [] ≠ x):zkj p (rs.take k++x::rs.drop k):=by
 have hm:∀ r∈rs.take k++x::rs.drop k,r=x∨r∈rs:=fun r hr=>by
  rcases List.mem_append.1 hr with q | q
  ·exact .inr (List.mem_of_mem_take q)
  ·rcases List.mem_cons.1 q with q | q
   ·exact .inl q
   ·exact .inr (List.mem_of_mem_drop q)
 have hl:(rs.take k++x::rs.drop k).length=rs.length+1:=by
  rw [List.length_append,List.length_cons,List.length_take,List.length_drop];omega
 have hmk:rs.getD k []∈rs:=by
  rw [List.getD_eq_getElem?_getD,List.getElem?_eq_getElem hk];exact List.getElem_mem _
 refine ⟨by rw [hl];omega,fun r hr=>?_,fun r hr=>?_,fun r hr=>?_,fun i hi=>?_,?_⟩
 ·rcases hm r hr with rfl | q
  ·exact hx.iv
  ·exact h.iv r q
 ·rcases hm r hr with rfl | q
  ·exact hx.bd hp
  ·exact h.bd r q
 ·rcases hm r hr with rfl | q
  ·exact h1
  ·exact h.gt r q
 ·rw [hl] at hi;rw [zkn (by omega),zkn (by omega)];by_cases g1:i+1<k
  ·rw [if_pos (by omega),if_pos g1];exact h.up i (by omega)
  ·by_cases g2:i+1=k
   ·rw [if_pos (by omega),if_neg (by omega),if_pos g2];exact hlt i (by omega)
   ·by_cases g3:i=k
    ·rw [if_neg (by omega),if_pos g3,if_neg (by omega),if_neg (by omega),show i+1 - 1=k by omega,zhv];have:zhs p (rs.getD k []) x ≠ 0:=fun q=>hne (zim hp (h.iv _ hmk).len hx.iv.len q);omega
    ·rw [if_neg (by omega),if_neg g3,if_neg (by omega),if_neg (by omega)];have:=h.up (i - 1) (by omega);rwa [show i - 1+1=i by omega] at this
 ·rw [hl,zkn (by omega),if_neg (by omega),if_neg (by omega),← h.last];rfl
theorem zkj.from {p:List Int}{rs:List (List Int)}(h:zkj p rs)(hp:zik p):∀ n i b,i+n=rs.length→(i=0→b=zhw p.length)→(0<i→b=rs.getD (i - 1) [])→zhx p b (rs.drop i)=0
 | 0,i,b,hi,_,_=>by rw [List.drop_eq_nil_of_le (by omega)];rfl
 | n+1,i,b,hi,h0,h1=>by
  have hlt:i<rs.length:=by omega
  have hm:rs.getD i []∈rs:=by
   rw [List.getD_eq_getElem?_getD,List.getElem?_eq_getElem hlt];exact List.getElem_mem _
  have hok:=h.ok hp _ hm;rw [zh9 hlt,if_neg (by simpa using hok)];have hn:¬ 0≤zhs p b (rs.getD i []):=by
   by_cases e:i=0
   ·rw [h0 e,zh1 hok,zkg hok];have:=h.gt _ hm;have:=(zhu ((zgs p (rs.getD i []):Nat):Int) ((zgt p (rs.getD i []):Nat):Int));omega
   ·rw [h1 (by omega)];have:=h.up (i - 1) (by omega);rw [show i - 1+1=i by omega] at this;omega
  rw [if_neg hn];exact h.from hp n (i+1) _ (by omega) (fun q=>by omega) (fun _=>by rw [Nat.add_sub_cancel])
theorem zkj.ep {p:List Int}{rs:List (List Int)}(h:zkj p rs)(hp:zik p)(hl:rs.length≤60):zhy p rs=0:=by
 unfold zhy;have:=h.ne;rw [if_neg (by simpa using hp.pe),if_neg (by omega),if_neg (by omega)];have:=h.from hp rs.length 0 (zhw p.length) (by omega) (fun _=>rfl) (fun q=>by omega);rwa [List.drop_zero] at this
end
section
section
variable {α : Type} (key : α → Rat)
def SAt (ps:List α)(i k:Nat):Prop:=∀ a b x y,a<b→b≤i→b ≠ k→ps[a]?=some x→ps[b]?=some y→key x≤key y
def STo (ps:List α)(i:Nat):Prop:=∀ a b x y,a<b→b<i→ps[a]?=some x→ps[b]?=some y→key x≤key y
variable {key}
theorem zko (ps:List α):STo key ps 1:=fun a b x y h1 h2=>by omega
theorem zkp {ps:List α}{i:Nat}(h:STo key ps i):SAt key ps i i:=fun a b x y h1 h2 h3=>h a b x y h1 (by omega)
theorem zkq {ps:List α}{i:Nat}(h:SAt key ps i 0):STo key ps (i+1):=fun a b x y h1 h2=>h a b x y h1 (by omega) (by omega)
theorem zkr {ps:List α}{i k:Nat}{x y:α}(h:SAt key ps i (k+1))(hx:ps[k+1]?=some x)(hy:ps[k]?=some y)(hle:key y≤key x):STo key ps (i+1):=by
 intro a b u v h1 h2 ha hb;by_cases hbk:b=k+1
 ·subst hbk;rw [hx] at hb;cases hb;by_cases hak:a=k
  ·subst hak;rw [hy] at ha;cases ha;exact hle
  ·exact Rat.le_trans (h a k u y (by omega) (by omega) (by omega) ha hy) hle
 ·exact h a b u v h1 (by omega) hbk ha hb
theorem zks {l:List α}{k:Nat}{x y:α}(hx:l[k+1]?=some x)(j:Nat):((l.set (k+1) y).set k x)[j]?=if j=k then some x else if j=k+1 then some y else l[j]?:=by
 have hl:k+1<l.length:=(List.getElem?_eq_some_iff.1 hx).1;rw [List.getElem?_set,List.getElem?_set,List.length_set];by_cases h1:k=j
 ·rw [if_pos h1,if_pos h1.symm,if_pos (by omega)]
 ·rw [if_neg h1,if_neg (c:=j=k) (fun h=>h1 h.symm)];by_cases h2:k+1=j
  ·rw [if_pos h2,if_pos h2.symm,if_pos (by omega)]
  ·rw [if_neg h2,if_neg (c:=j=k+1) (fun h=>h2 h.symm)]
theorem zkt {ps:List α}{i k:Nat}{x y:α}(h:SAt key ps i (k+1))(hx:ps[k+1]?=some x)(hy:ps[k]?=some y)(hlt:key x≤key y):SAt key ((ps.set (k+1) y).set k x) i k:=by
 intro a b u v h1 h2 h3 ha hb;rw [zks hx] at ha hb;rw [if_neg h3] at hb;by_cases hb1:b=k+1
 ·rw [if_pos hb1] at hb
  cases hb
  by_cases ha1:a=k
  ·rw [if_pos ha1] at ha
   cases ha
   exact hlt
  ·rw [if_neg ha1,if_neg (by omega)] at ha;exact h a k u y (by omega) (by omega) (by omega) ha hy
 ·rw [if_neg hb1] at hb;by_cases ha1:a=k
  ·rw [if_pos ha1] at ha
   cases ha
   exact h (k+1) b x v (by omega) h2 hb1 hx hb
  ·rw [if_neg ha1] at ha;by_cases ha2:a=k+1
   ·rw [if_pos ha2] at ha
    cases ha
    exact h k b y v (by omega) h2 hb1 hy hb
   ·rw [if_neg ha2] at ha;exact h a b u v h1 h2 hb1 ha hb
theorem zku : ∀ {l:List α}{k:Nat}{x y:α},l[k+1]?=some x→l[k]?=some y→((l.set (k+1) y).set k x).Perm l
 | [],_,_,_,h,_=>by simp at h
 | [_],0,_,_,h,_=>by simp at h
 | b::a::t,0,x,y,h1,h2=>by
  simp at h1 h2;subst h1 h2;exact List.Perm.swap ..
 | c::t,k+1,x,y,h1,h2=>by
  simp only [List.getElem?_cons_succ] at h1 h2;simp only [List.set_cons_succ];exact (zku h1 h2).cons c
theorem zkv {ps:List α}(h:STo key ps ps.length):ps.Pairwise fun x y=>key x≤key y:=by
 rw [List.pairwise_iff_getElem];intro i j hi hj hij;exact h i j _ _ hij hj (List.getElem?_eq_getElem hi) (List.getElem?_eq_getElem hj)
end
end
section
open Go.RowKit Go.Lib
structure InR {α:Type}(T:TypeId)(W0:World)(B blk cap:Nat)(enc:α→Value)(d0:List α)(wr:World)(dk:List α):Prop where
 perm:dk.Perm d0
 own:wr.ownsRow B T 1 (.slice (some ⟨blk,0,none⟩) d0.length cap) d0.length (dk.map enc)
 only:W0.grownBy wr (some blk)
section
variable {α : Type} {T : TypeId} {W0 wr : World} {B blk cap : Nat} {enc : α → Value} {d0 dk : List α}
theorem InR.ext {w':World}(h:InR T W0 B blk cap enc d0 wr dk)(hx:Ext wr w'):InR T W0 B blk cap enc d0 w' dk:=⟨h.perm,hx.own h.own,zcC h.only hx⟩
theorem InR.len (h:InR T W0 B blk cap enc d0 wr dk):dk.length=d0.length:=h.perm.length_eq
theorem InR.cell (h:InR T W0 B blk cap enc d0 wr dk){k:Nat}{x:α}(hx:dk[k]?=some x):wr.cell? ⟨blk,k,none⟩=some (enc x):=by
 have hk:=(List.getElem?_eq_some_iff.1 hx).1;have:=h.len;rw [World.ownsRow.cellAt h.own k (by omega),List.getElem?_map,hx];rfl
theorem InR.frozen (h:InR T W0 B blk cap enc d0 wr dk)(k:Nat):wr.frozen? ⟨blk,k,none⟩=false:=by
 rcases h.own.2 with ⟨e,_⟩ | ⟨g,cap',cur,e,hb,hg,_⟩
 ·cases e
 ·injection e with e1 _ _;injection e1 with e1;injection e1 with e1;subst e1;exact frozen_of_row _ _ _ _ _ hg
theorem InR.swap (h:InR T W0 B blk cap enc d0 wr dk){k:Nat}{x y:α}(hx:dk[k+1]?=some x)(hy:dk[k]?=some y) :
  InR T W0 B blk cap enc d0 ((wr.setCell ⟨blk,k+1,none⟩ (enc y)).setCell ⟨blk,k,none⟩ (enc x)) ((dk.set (k+1) y).set k x):=by
 have h1:=World.ownsRow.stored h.own (k+1) (enc y);have h2:=World.ownsRow.stored h1.1 k (enc x);refine ⟨(zku hx hy).trans h.perm,?_,zcB (zcB h.only rfl _) rfl _⟩;rw [List.map_set,List.map_set];exact h2.1
theorem InR.mem (h:InR T W0 B blk cap enc d0 wr dk){k:Nat}{x:α}(hx:dk[k]?=some x):x∈d0:=h.perm.mem_iff.1 (List.mem_of_getElem? hx)
end
end
section
open Go.RowKit Go.Lib Go.Shelf
theorem zkw {α:Type}(enc:α→Value)(key:α→Rat)(g:Nat)(cb:Array Value)(B blk cap:Nat)(d0 d:List α)(W0 w:World)(hR:InR 26 W0 B blk cap enc d0 w d)(hl:d0.length≤1000)(h1:OneCell enc)
  (eg:∀ args w,(callFunc g args).run Tryz.prog w=.ok (.enter g args) w)
  (hcmp:∀ W,W0.grownBy W (some blk)→∀ x∈d0,∀ y∈d0,Calls Tryz.prog g (#[enc x,enc y]++cb) W fun e w'=>(∃ z:Int,e=.returned (.int .i64 z)∧(z<0 ↔ key x<key y))∧Ext W w') :
  Calls Tryz.prog 111 #[.slice (some ⟨blk,0,none⟩) d0.length cap,.int .i64 0,.int .i64 d0.length,.func (.func g) #[] cb] w fun e w'=>e=.returned (.tuple #[])∧∃ d',InR 26 W0 B blk cap enc d0 w' d'∧d'.Pairwise fun x y=>key x≤key y:=by
 have mixed:Tryz.prog.follows .mixedOrders=true:=by kernel_rfl
 have hcl0:=h1.cells;simp only [Value.cells] at hcl0;have hst:=h1.store Tryz.prog;generalize hn:d0.length=n at *;have HR:=hid hR;have Hcmp:=hid hcmp;have Hn:=hid hn;clear hR hcmp hn;go_enter Tryz.func111,Tryz.ntmps111
 go_wp2_with fail
 go_loopw [8] (fun vi wr=>∃ (i:Nat)(dk:List α),vi=.int .i64 i∧1≤i∧(i≤n∨i=1)∧Hid (STo key dk i)∧Hid (InR 26 W0 B blk cap enc d0 wr dk)) (fun vi _=>n+1 - (zal vi).toNat)
 case atStart=>exact ⟨1,d,rfl,Nat.le_refl _,.inr rfl,hid (zko d),HR⟩
 case round =>
  clear HR;obtain ⟨i,dk,rfl,hi1,hin,HS,HR⟩:=hrel;by_cases hlt:i<n
  ·have hltz:(i:Int)<(n:Int):=(by omega);go_wp2_with fail
   obtain ⟨wa,hwa⟩:∃ wa,wa=wr:=⟨_,rfl⟩;subst hwa;go_loopw [9] (fun vj wr=>∃ (j:Nat)(dj:List α),vj=.int .i64 j∧j≤i∧Hid (SAt key dj i j)∧Hid (InR 26 W0 B blk cap enc d0 wr dj)) (fun vj _=>(zal vj).toNat)
   case atStart=>exact ⟨i,dk,rfl,Nat.le_refl _,hid (zkp HS.out),HR⟩
   case round =>
    clear HR;obtain ⟨j,dj,rfl,hji,HA,HR⟩:=hrel;by_cases hja:0<j
    ·obtain ⟨jp,hjp⟩:∃ q,q+1=j:=⟨j - 1,by omega⟩;have hjl:dj.length=n:=HR.out.len.trans Hn.out;obtain ⟨x,hx⟩:∃ x,dj[jp+1]?=some x:=⟨_,List.getElem?_eq_getElem (by omega)⟩;obtain ⟨y,hy⟩:∃ y,dj[jp]?=some y:=⟨_,List.getElem?_eq_getElem (by omega)⟩;obtain ⟨iN,hiN⟩:∃ q,q=j:=⟨_,rfl⟩;obtain ⟨jN,hjN⟩:∃ q,q=jp:=⟨_,rfl⟩;have c1:=HR.out.cell hx;have c2:=HR.out.cell hy;rw [hjp,← hiN] at c1;rw [← hjN] at c2;have hcm:=fun W (hE:Ext wr W)=>Hcmp.out W (zcC HR.out.only hE) x (HR.out.mem hx) y (HR.out.mem hy);have hsw:=fun W (hE:Ext wr W)=>(HR.out.ext hE).swap hx hy;have hcf:=fun W (hE:Ext wr W)=>(⟨(HR.out.ext hE).cell hx,(HR.out.ext hE).cell hy,(HR.out.ext hE).frozen (jp+1),(HR.out.ext hE).frozen jp⟩:_∧_∧_∧_);have hex:=fun W (hE:Ext wr W)=>HR.out.ext hE;have hij:jN<iN:=(by omega);rw [hjp,← hiN,← hjN] at hcf;have hsw2:=fun W (hE:Ext wr W)=>(show InR 26 W0 B blk cap enc d0 ((W.setCell ⟨blk,iN,none⟩ (enc y)).setCell ⟨blk,jN,none⟩ (enc x)) ((dj.set (jp+1) y).set jp x) by rw [hiN,hjN,← hjp];exact hsw W hE);have zjp:(j:Int)=(jp:Int)+1:=(by omega);have hjad:decide ((jp:Int)+1 > (0:Int))=true:=decide_eq_true (by omega);have hjaz:(0:Int)<(jp:Int)+1:=(by omega);have ea:((jp:Int)+1).toNat=iN:=(by omega);have pa:(0:Int)≤(jp:Int)+1:=(by omega);have ba:(jp:Int)+1<(n:Int):=(by omega);have ra:IntKind.i64.wrap ((jp:Int)+1)=(jp:Int)+1:=(by rw [IntKind.wrap_i64];omega);have ec:((jp:Int)).toNat=jN:=(by omega);have pc:(0:Int)≤(jp:Int):=(by omega);have bc:(jp:Int)<(n:Int):=(by omega);have rc:IntKind.i64.wrap ((jp:Int))=(jp:Int):=(by rw [IntKind.wrap_i64];omega);have Hx:=hid hx;have Hy:=hid hy;have Hcm:=hid hcm;have Hsw:=hid hsw2;have Hcf:=hid hcf;have Hex:=hid hex;have HiN:=hid hiN;have HjN:=hid hjN;clear hx hy hcm hsw hsw2 hcf hex hjl hiN hjN HR;by_cases hxy:key x<key y
     ·have hxy2:key x≤key y:=Rat.le_of_lt hxy;have Hxy:=hid hxy;have Hxy2:=hid hxy2;clear hxy hxy2;go_wp2_with fail
      go_region_held3 (fun w'=>Ext wr w'∧w'.cell? ⟨blk,iN,none⟩=some (enc x)∧w'.cell? ⟨blk,jN,none⟩=some (enc y))
       (first | (with_reducible assumption) | exact ⟨(Ext.refl wr).drew,c1,c2⟩)
       (first | (go_at_fn g;refine (Hcm.out _ (And.left (by assumption))).mono ?_;rintro e9 VA ⟨⟨z,rfl,hz⟩,hxa⟩;have hEA:=((Ext.refl wr).drew).trans hxa;have hS2:Ext wr VA∧VA.cell? ⟨blk,iN,none⟩=some (enc x)∧VA.cell? ⟨blk,jN,none⟩=some (enc y):=⟨hEA,hEA.cell c1,hEA.cell c2⟩;have hz1:z<0:=hz.2 Hxy.out;have hz2:decide (z<0)=true:=decide_eq_true hz1;have HEA:=hid hEA;clear hxa hEA hz))
      all_goals
       clear hS2 c1 c2;obtain ⟨k1,k2,k3,k4⟩:=Hcf.out VA HEA.out;have S3:=hid (Hsw.out VA HEA.out);have c3:∃ u,(VA.setCell ⟨blk,iN,none⟩ (enc y)).cell? ⟨blk,jN,none⟩=some u:=by
        rw [World.cell?_setCell_other _ _ _ _ (by intro e';simp only [Addr.mk.injEq] at e';omega)];exact ⟨_,k2⟩
       obtain ⟨u3,c3⟩:=c3;go_wp2_with fail
       go_big_region_o
       have S4:=hid (S3.out.ext ((Ext.refl _).drew));have HA2:=hid (zkt (show SAt key dj i (jp+1) by rw [hjp];exact HA.out) Hx.out Hy.out Hxy2.out);clear c3 k1 k2 k3 k4 S3;generalize ((VA.setCell ⟨blk,iN,none⟩ (enc y)).setCell ⟨blk,jN,none⟩ (enc x)).drew=w3 at S4 ⊢;clear ea ec;go_wp2_with fail
       go_roundw
       case rel=>exact ⟨jp,(dj.set (jp+1) y).set jp x,by first | rfl | go_num | (congr 1;omega),by omega,HA2,S4⟩
       case measure=>simp [zal];omega
     ·have Hxy:=hid (Rat.not_lt.1 hxy);have hxy2:=hid hxy;clear hxy;go_wp2_with fail
      go_region_held3 (fun w'=>Ext wr w'∧w'.cell? ⟨blk,iN,none⟩=some (enc x)∧w'.cell? ⟨blk,jN,none⟩=some (enc y))
       (first | (with_reducible assumption) | exact ⟨(Ext.refl wr).drew,c1,c2⟩)
       (first | (go_at_fn g;refine (Hcm.out _ (And.left (by assumption))).mono ?_;rintro e9 VA ⟨⟨z,rfl,hz⟩,hxa⟩;have hEA:=((Ext.refl wr).drew).trans hxa;have hS2:Ext wr VA∧VA.cell? ⟨blk,iN,none⟩=some (enc x)∧VA.cell? ⟨blk,jN,none⟩=some (enc y):=⟨hEA,hEA.cell c1,hEA.cell c2⟩;have hz1:¬ z<0:=fun h=>hxy2.out (hz.1 h);have hz2:decide (z<0)=false:=decide_eq_false hz1;have HEA:=hid hEA;clear hxa hEA hz))
      all_goals
       clear hS2 c1 c2;have S4:=hid (Hex.out VA HEA.out);have HS2:=hid (zkr (show SAt key dj i (jp+1) by rw [hjp];exact HA.out) Hx.out Hy.out Hxy.out);clear ea ec;go_wp2_with fail
       go_roundw
       case rel=>exact ⟨i+1,dj,by go_num,by omega,.inl (by omega),HS2,S4⟩
       case measure=>simp [zal];omega
    ·obtain rfl:j=0:=by omega
     have hjaz:decide (((0:Nat):Int) > (0:Int))=false:=(by decide);have hjaz':¬ ((0:Nat):Int) > (0:Int):=(by decide);have HS2:=hid (zkq HA.out);go_wp2_with fail
     go_big_region_o
     have S4:=hid (HR.out.ext ((Ext.refl _).drew));clear HR;generalize wr.drew=w3 at S4 ⊢;go_wp2_with fail
     go_roundw
     case rel=>exact ⟨i+1,dj,by go_num,by omega,.inl (by omega),HS2,S4⟩
     case measure=>simp [zal];omega
  ·have hkk:¬ (i:Int)<(n:Int):=(by omega);go_wp2
   go_end0
   refine ⟨rfl,dk,HR.out,?_⟩;have hS:STo key dk dk.length:=by
    rw [HR.out.len,Hn.out];intro a b x y h1 h2;exact HS.out a b x y h1 (by omega)
   exact zkv hS
theorem zkx {α:Type}(enc:α→Value)(key:α→Rat)(g:Nat)(cb:Array Value)(B blk cap:Nat)(d:List α)(w:World)(hR:w.ownsRow B 26 1 (.slice (some ⟨blk,0,none⟩) d.length cap) d.length (d.map enc))(hl:d.length≤12)(h1:OneCell enc)
  (eg:∀ args w,(callFunc g args).run Tryz.prog w=.ok (.enter g args) w)
  (hcmp:∀ W,w.grownBy W (some blk)→∀ x∈d,∀ y∈d,Calls Tryz.prog g (#[enc x,enc y]++cb) W fun e w'=>(∃ z:Int,e=.returned (.int .i64 z)∧(z<0 ↔ key x<key y))∧Ext W w') :
  Calls Tryz.prog 51 #[.slice (some ⟨blk,0,none⟩) d.length cap,.func (.func g) #[] cb] w fun e w'=>e=.returned (.tuple #[])∧∃ d',InR 26 w B blk cap enc d w' d'∧d'.Pairwise fun x y=>key x≤key y:=by
 have hi:=fun W (hE:Ext w W)=>zkw enc key g cb B blk cap d d w W ⟨List.Perm.refl _,hE.own hR,zcC (zc9 _ _) hE⟩ (by omega) h1 eg hcmp;have h2:∀ W (lim:Int),Ext w W→Calls Tryz.prog 83 #[.slice (some ⟨blk,0,none⟩) d.length cap,.int .i64 0,.int .i64 d.length,.int .i64 lim,.func (.func g) #[] cb] W fun e w'=>e=.returned (.tuple #[])∧∃ d',InR 26 w B blk cap enc d w' d'∧d'.Pairwise fun x y=>key x≤key y:=by
  intro W lim hE;have Hi:=hid (hi W hE);generalize hn:d.length=n at *;clear hi hR hcmp hn hE;have t1:(n:Int)≤12:=by omega
  go_enter Tryz.func83,Tryz.ntmps83
  go_wp2_with fail
  refine wp_loop_rounds 1 ?_;rw [rounds_succ];go_wp2_with fail
  refine Hi.out.mono ?_;rintro e w1 ⟨rfl,hd⟩;have Hd:=hid hd;clear hd;go_wp2
  (try simp only [Exit.inBlock,Exit.then]);refine bodyPost_ret (results_none rfl _ _ _) rfl ?_;exact ⟨rfl,Hd.out⟩
 generalize hn:d.length=n at *;have H2:=hid h2;clear hi hR hcmp hn h2;go_enter Tryz.func51,Tryz.ntmps51
 have hln:=fun W=>zfN n (by omega) W;have Hln:=hid hln;clear hln;have hw:IntKind.u64.wrap (n:Int)=(n:Int):=by rw [IntKind.wrap_u64];omega
 go_wp2_with fail
 refine (Hln.out _).mono ?_;rintro e w1 ⟨rfl,rfl⟩;go_wp2_with fail
 refine (H2.out w _ (Ext.refl w)).mono ?_;rintro e w1 ⟨rfl,hd⟩;have Hd:=hid hd;clear hd;go_wp2
 go_end0
 exact ⟨rfl,Hd.out⟩
end
section
open Go.RowKit Go.Lib
theorem zky (z:Int)(w:World):Calls Tryz.prog 82 #[.int .i64 z] w fun e w'=>e=.returned (.bool (z != 0))∧∃ q,w'=w.drewN q:=by
 cases hd:(z != 0)
 all_goals
  go_enter Tryz.func82,Tryz.ntmps82
  go_wp2
  go_ret
  exact ⟨rfl,0,rfl⟩
theorem zkz (w:World):Go.Proofs.PredAt Tryz.prog 82 #[] (Value.int .i64) (fun n=>n != 0) w:=fun W x _=>zky x W
theorem zk0 : ∀ args w,(callFunc 82 args).run Tryz.prog w=.ok (.enter 82 args) w:=enters_of Tryz.func82 (by kernel_rfl) rfl
theorem zk1 (a:Option Addr)(cap:Nat)(x:List Int)(w:World)(hl:x.length≤1000000)
  (hc:∀ i u,(zap x)[i]?=some u→∃ b off,a=some ⟨b,off,none⟩∧w.cell? ⟨b,off+i,none⟩=some u) :
  Calls Tryz.prog 42 #[.slice a x.length cap,.func (.func 82) #[] #[]] w fun e w'=>e=.returned (.bool (x.any fun n=>n != 0))∧Ext w w':=by
 cases x with
 | nil=>exact (AnyE.slices_ContainsFunc_empty Tryz.lContainsR a cap _ w).mono fun e w' ⟨h,hw⟩=>⟨h,by rw [hw];exact Ext.refl _⟩
 | cons z r =>
  obtain ⟨b,off,rfl,_⟩:=hc 0 _ (zau (l:=z::r) (by simp))
  have h:=AnyE.slices_ContainsFunc Tryz.lContainsR (Value.int .i64) (fun n=>n != 0) 82 #[] zk0 b off (z::r).length cap (z::r) w (zkz w) (Nat.le_refl _) (by omega) (fun j hj=>by
   obtain ⟨b2,off2,e2,hcell⟩:=hc j _ (zau hj);simp only [Option.some.injEq,Addr.mk.injEq,and_true] at e2;obtain ⟨rfl,rfl⟩:=e2;rw [hcell];unfold zas;rw [List.getD_eq_getElem?_getD,List.getElem?_eq_getElem hj,getElem!_pos _ j hj];rfl)
  rw [List.take_length] at h
  exact h.mono fun e w' ⟨he,q,hw⟩=>⟨he,by rw [hw];exact (Ext.refl w).drewN q⟩
theorem zk2 (v:Value)(x:List Int)(w:World)(hv:Sl w v (zap x))(hl:x.length≤1000000) :
  Calls Tryz.prog 50 #[v] w fun e w'=>e=.returned (.bool (!x.any fun n=>n != 0))∧Ext w w':=by
 obtain ⟨a,cap,rfl,_,_,hc⟩:=hv.parts;rw [zar];have hcon:=zk1 a cap x w hl hc;clear hc hv;generalize (x.any fun n=>n != 0)=b at *;have Hcon:=hid hcon;clear hcon;go_enter Tryz.func50,Tryz.ntmps50
 go_wp2_with fail
 refine Hcon.out.mono ?_;rintro e w1 ⟨rfl,hx1⟩;have Hx1:=hid hx1;clear hx1;go_wp2
 go_ret
 exact ⟨rfl,Hx1.out⟩
end
end Go.Proofs.YtkdgmahilfnnmaaGreatDoor
