/- Walks: scale.Within and its closures. Plain: the linear form of a size by logarithms of 2048 bits; its sign is what the program finds at any size of numbers of 30 digits. Walks: terms.sign, size.Sign and size.Compare at any sizes over 2.3 and 2.3.5 with numbers of 30 digits. (Printed by wip/cmpg.py; its head is XSgnG.head.) Plain: rests by the floor flN, lists in the order of mF; the collection of any few sizes. (Printed by wip/colln.py.) -/
import Derived.Test.YtbkfhacmekbniaaGreatDoorPc25
import Derived.Test.YtbkfhacmekbniaaGreatDoorPc16
import Derived.Test.YtbkfhacmekbniaaGreatDoorPc13
import Derived.Test.YtbkfhacmekbniaaGreatDoorPc23
set_option maxRecDepth 100000
set_option maxHeartbeats 2000000
namespace Go.Proofs.YtbkfhacmekbniaaGreatDoor
section
open Go.RowKit Go.Lib Go.Shelf
attribute [local go_sem] Oper.semAt_some
theorem znb (bk:Nat)(va vb:Value)(x y:List Rat)(w:World)(hb:Boxed w bk 32 va)(ha:Rd w va x)(hy:Rd w vb y)(hx9:x.length≤1000)(hy9:y.length≤1000) :
  Calls Tryz.prog 66 #[vb,.pointer (some ⟨bk,0,none⟩)] w fun e w'=>e=.returned (.bool (decide (x=y)))∧Ext w w':=by
 have h:=zji va vb x y w ha hy hx9 hy9;have hc:=hb.cell;obtain ⟨aa,ca,rfl,_,_,_⟩:=ha.parts;obtain ⟨ab,cb,rfl,_,_,_⟩:=hy.parts;generalize decide (x=y)=b at *;generalize x.length=n1 at *;generalize y.length=n2 at *;clear ha hy hb hx9 hy9;have H:=hid h;clear h;go_enter Tryz.func66,Tryz.ntmps66
 go_wp2_with fail
 refine H.out.mono ?_;rintro e w1 ⟨rfl,hx1⟩;have Hx1:=hid hx1;clear hx1;go_wp2
 go_ret
 exact ⟨rfl,Hx1.out⟩
theorem znc (bm:Nat)(vq vm vb:Value)(x:List Rat)(ts:List Qw)(w:World)(hm:zjy 36 w bm vq vm)(hn:RdM w vm ts)(hx:Rd w vb x)(hx9:x.length≤1000)(ht:ts.length≤1000)(ht9:∀ s∈ts,s.x.length≤1000) :
  Calls Tryz.prog 65 #[vb,.pointer (some ⟨bm,0,none⟩)] w fun e w'=>e=.returned (.bool (!(ts.any fun s=>decide (x=s.x))))∧Ext w w':=by
 have h:=fun W (hE:Ext (w.alloc (.cells #[vb] 32)) W)=>zjs 66 #[.pointer (some ⟨w.heap.size,0,none⟩)] vm ts (fun y=>decide (x=y)) W (hE.sl (((Ext.refl w).alloc _).sl hn.1)) ht (fun _ _=>rfl) (fun W2 hE2 s hs=>znb w.heap.size vb s.u x s.x W2 ((hE.trans hE2).heap (Boxed.new w _ _)) ((hE.trans hE2).rd (((Ext.refl w).alloc _).rd hx)) ((hE.trans hE2).rd (((Ext.refl w).alloc _).rd (hn.2 s hs))) hx9 (ht9 s hs));have c1:=(hm.ext ((Ext.refl w).alloc (.cells #[vb] 32))).c1;obtain ⟨ab,cb,rfl,_,_,_⟩:=hx.parts;obtain ⟨am,cm,rfl,_,_,_⟩:=hn.1.parts;generalize (ts.any fun s=>decide (x=s.x))=b at *;generalize x.length=n1 at *;generalize (qwc ts).length=n2 at *;clear hm hn hx hx9 ht ht9;have h:=h _ (Ext.refl _);have h0:Ext w (w.alloc (.cells #[.slice ab n1 cb] 32)):=(Ext.refl w).alloc _;have H:=hid h;have H0:=hid h0;clear h h0;go_enter Tryz.func65,Tryz.ntmps65
 go_wp2_with fail
 refine H.out.mono ?_;rintro e w1 ⟨rfl,hx1⟩;have Hx1:=hid (H0.out.trans hx1);clear hx1;go_wp2
 go_ret
 exact ⟨rfl,Hx1.out⟩
def inB (rs ts:List Qw):Bool:=!(rs.any fun r=>!(ts.any fun s=>decide (r.x=s.x)))
theorem znd (v1 v2:Value)(p q:List Int)(rs ts:List Qw)(w:World)(he:Env w)(h1:ScV w v1 p rs)(h2:ScV w v2 q ts)(g1:Wd p (rs.map Qw.x))(g2:Wd q (ts.map Qw.x))(hpq:p ≠ q) :
  Calls Tryz.prog 30 #[v1,v2] w fun e w'=>e=.returned (.tuple #[.bool false,.int .i64 14])∧Ext w w':=by
 obtain ⟨a1,c1,b1,d1,rfl,h1⟩:=zj1 h1;obtain ⟨a2,c2,b2,d2,rfl,h2⟩:=zj1 h2;have hc1:=fun W (hE:Ext w W)=>zmZ _ _ p q rs ts W (he.ext hE) (h1.ext hE) (h2.ext hE) g1 g2 hpq;have hb:=zj5 w (.slice a1 p.length c1) (.slice b1 rs.length d1) (.slice a2 q.length c2) (.slice b2 ts.length d2);generalize p.length=n1 at *;generalize q.length=n2 at *;generalize rs.length=n3 at *;generalize ts.length=n4 at *;have Hc1:=hid hc1;have Hb:=hid hb;clear hc1 hb h1 h2 g1 g2 he hpq;go_enter Tryz.func30,Tryz.ntmps30
 have q0:=Hb.out.1.c0;have q1:=Hb.out.1.c1;have r0:=Hb.out.2.1.c0;have r1:=Hb.out.2.1.c1;go_wp2_with fail
 refine (Hc1.out _ Hb.out.2.2).mono ?_;rintro e w1 ⟨rfl,hx1⟩;have Hx1:=hid (Hb.out.2.2.trans hx1);clear hx1;go_wp2
 go_ret2
 exact ⟨rfl,Hx1.out⟩
theorem zne (v1 v2:Value)(p q:List Int)(rs ts:List Qw)(w:World)(he:Env w)(h1:ScV w v1 p rs)(h2:ScV w v2 q ts)(g1:Wd p (rs.map Qw.x))(g2:Wd q (ts.map Qw.x))(hpq:p=q) :
  Calls Tryz.prog 30 #[v1,v2] w fun e w'=>e=.returned (.tuple #[.bool (inB rs ts),.int .i64 0])∧Ext w w':=by
 obtain ⟨a1,c1,b1,d1,rfl,h1⟩:=zj1 h1;obtain ⟨a2,c2,b2,d2,rfl,h2⟩:=zj1 h2;have hc1:=fun W (hE:Ext w W)=>zna _ _ p q rs ts W (he.ext hE) (h1.ext hE) (h2.ext hE) g1 g2 hpq;have hp3:p.length≤3:=by rcases g1.pr with ⟨e,_⟩ | ⟨e,_⟩ <;> rw [e] <;> decide
 have hq3:q.length≤3:=by rcases g2.pr with ⟨e,_⟩ | ⟨e,_⟩ <;> rw [e] <;> decide
 have hr60:=g1.few;have ht60:=g2.few;rw [List.length_map] at hr60 ht60;have hr9:∀ r∈rs,r.x.length≤1000:=fun r hr=>by rw [g1.len _ (List.mem_map_of_mem hr)];omega
 have ht9:∀ r∈ts,r.x.length≤1000:=fun r hr=>by rw [g2.len _ (List.mem_map_of_mem hr)];omega
 have hb:=zj5 w (.slice a1 p.length c1) (.slice b1 rs.length d1) (.slice a2 q.length c2) (.slice b2 ts.length d2);obtain ⟨_,_,hev,hs1,hn1⟩:=h1;obtain ⟨_,_,hew,hs2,hn2⟩:=h2;injection hev with hev;injection hew with hew;simp only [Array.mk.injEq,List.cons.injEq,and_true] at hev hew;rw [← hev.2] at hn1;rw [← hew.2] at hn2;have hc2:=fun W (hE:Ext ((w.alloc (.cells #[.slice a1 p.length c1,.slice b1 rs.length d1] 36)).alloc (.cells #[.slice a2 q.length c2,.slice b2 ts.length d2] 36)) W)=>zjs 65 #[.pointer (some ⟨w.heap.size+1,0,none⟩)] (.slice b1 rs.length d1) rs (fun y=>!(ts.any fun s=>decide (y=s.x))) W ((hb.2.2.trans hE).sl hn1.1) (by omega) (fun _ _=>rfl) (fun W2 hE2 r hr=>znc (w.heap.size+1) _ _ r.u r.x ts W2 (hb.2.1.ext (hE.trans hE2)) ((hb.2.2.trans (hE.trans hE2)).rdM hn2) ((hb.2.2.trans (hE.trans hE2)).rd (hn1.2 r hr)) (hr9 r hr) (by omega) ht9);have hinb:(!(rs.any fun r=>!(ts.any fun s=>decide (r.x=s.x))))=inB rs ts:=rfl;generalize (rs.any fun r=>!(ts.any fun s=>decide (r.x=s.x)))=bb at *;generalize p.length=n1 at *;generalize q.length=n2 at *;generalize rs.length=n3 at *;generalize ts.length=n4 at *;rw [← hinb];have Hc1:=hid hc1;have Hb:=hid hb;have Hc2:=hid hc2;clear hc1 hb hc2 hs1 hs2 hn1 hn2 hev hew g1 g2 he hpq hr9 ht9 hinb;go_enter Tryz.func30,Tryz.ntmps30
 have q0:=Hb.out.1.c0;have q1:=Hb.out.1.c1;have r0:=Hb.out.2.1.c0;have r1:=Hb.out.2.1.c1;go_wp2_with fail
 refine (Hc1.out _ Hb.out.2.2).mono ?_;rintro e w1 ⟨rfl,hx1⟩;have q1:=(Hb.out.1.ext hx1).c1;have H01:=hid hx1;have Hx1:=hid (Hb.out.2.2.trans hx1);clear hx1;go_wp2_with fail
 refine (Hc2.out _ H01.out).mono ?_;rintro e w2 ⟨rfl,hx2⟩;have Hx2:=hid (Hx1.out.trans hx2);clear hx2;go_wp2
 go_ret2
 exact ⟨rfl,Hx2.out⟩
end
section
open Go.RowKit Go.Lib
def mF : List Int→List Rat→Rat
 | p::ps,r::x=>r * ((LG p 2048:Nat):Rat)+mF ps x
 | _,_=>0
theorem znf (d:Nat):∀ (p:List Int)(x:List Rat),(∀ r∈x,r.den ∣ d)→((zlE (p.zip (fcd d x)):Int):Rat)=(d:Rat) * mF p x
 | [],x,_=>by simp [fcd,zlE,mF]
 | _::_,[],_=>by simp [fcd,zlE,mF]
 | p::ps,r::x,h=>by
  have ih:=znf d ps x fun s hs=>h s (List.mem_cons_of_mem _ hs);have e:=zex (h r (List.mem_cons_self ..));simp only [fcd] at ih;simp only [fcd,List.map_cons,List.zip_cons_cons,zlE,mF];rw [Rat.intCast_add,ih,Rat.intCast_mul,e,Rat.intCast_natCast];grind
theorem zng : ∀ (p:List Int)(x y:List Rat),x.length=y.length→mF p (ze2 x y)=mF p x - mF p y
 | [],x,y,_=>by simp only [mF];grind
 | _::_,[],[],_=>by simp only [mF,ze2,List.zipWith_nil_left];grind
 | p::ps,a::x,b::y,h=>by
  have ih:=zng ps x y (by simpa using h);simp only [ze2] at ih;simp only [ze2,List.zipWith_cons_cons,mF,ih];grind
theorem znh : ∀ (p:List Int)(x:List Rat),(∀ r∈x,r=0)→mF p x=0
 | [],x,_=>by simp [mF]
 | _::_,[],_=>by simp [mF]
 | p::ps,r::x,h=>by
  rw [mF,znh ps x fun s hs=>h s (List.mem_cons_of_mem _ hs),h r (List.mem_cons_self ..)];grind
theorem zni {d:Nat}{r:Rat}(h0:0<d)(hd:r.den ∣ d)(h:r.num * ((d / r.den:Nat):Int)=0):r=0:=by
 have h3:0<d / r.den:=Nat.div_pos (Nat.le_of_dvd h0 hd) r.den_pos;rcases Int.mul_eq_zero.1 h with g | g
 ·exact Rat.num_eq_zero.1 g
 ·omega
theorem znj {p:List Int}{a:Rat}{tl:List Rat}(hp:Pr p (a::tl).length)(hw:FwN (a::tl))(hne:¬ ∀ r∈a::tl,r=0):2 * HH<(zlE (tms p (dn (a::tl)) (a::tl))).natAbs:=by
 obtain ⟨B,C,hM,-,hbd,hz⟩:=zlU hp (dn (a::tl));have hBC:=hbd HH fun r hr=>hw r (List.mem_cons_of_mem _ hr);have hd:=ze0 (a::tl);have e1:zlE (tms p (dn (a::tl)) (a::tl))=zlE (p.zip (fcd (dn (a::tl)) (a::tl))):=(zlV 0 _).2.2;rw [e1,hM];rcases Nat.lt_or_ge (2 * HH) (a.num * ((dn (a::tl) / a.den:Nat):Int) * KK+B * (L3:Int)+C * (L5:Int)).natAbs with g | g
 ·exact g
 ·exfalso;have:=zlB hBC.1 hBC.2 g;refine hne fun r hr=>?_;rcases List.mem_cons.1 hr with rfl | hr
  ·exact zni hd (zez _ r (List.mem_cons_self ..)) this.1
  ·exact hz hd (fun r hr=>zez _ r (List.mem_cons_of_mem _ hr)) this.2.1 this.2.2 r hr
def sgM (l:List (Int × Int)):Int:=if l=[] then 0 else if 0<zlE l then 1 else -1
structure Sgn (l:List (Int × Int)):Prop where
 few:l.length≤100
 ok:∀ e∈l,okN e
 ne:l ≠ []→zlE l ≠ 0
 top:l ≠ []→0≤zlC 2048 l∨zlD 2048 l≤0
theorem Sgn.low {l:List (Int × Int)}(h:Sgn l){n:Nat}(hn:n≤2048)(hl:l ≠ [])(h0:0≤zlC n l):sgM l=1:=by
 have h1:=(zlN hn l).1;have h2:(0:Int)≤zlC n l * ((2 ^ (2048 - n):Nat):Int):=Int.mul_nonneg h0 (Int.natCast_nonneg _);have h3:=h.ne hl;unfold sgM;rw [if_neg hl,if_pos (by omega)]
theorem Sgn.hig {l:List (Int × Int)}(h:Sgn l){n:Nat}(hn:n≤2048)(hl:l ≠ [])(h0:zlD n l≤0):sgM l=-1:=by
 have h1:=(zlN hn l).2;have h2:zlD n l * ((2 ^ (2048 - n):Nat):Int)≤0:=Int.mul_nonpos_of_nonpos_of_nonneg h0 (Int.natCast_nonneg _);have h3:=h.ne hl;unfold sgM;rw [if_neg hl,if_neg (by omega)]
theorem Sgn.lowT {l:List (Int × Int)}(h:Sgn l)(hl:l ≠ [])(h0:0≤lowT l):sgM l=1:=by
 have h1:=(zlR (l:=l) fun e he=>(h.ok e he).1).1;have h2:(0:Int)≤Go.Proofs.YtbkfhacmekbniaaGreatDoor.lowT l * (S22:Int):=Int.mul_nonneg h0 (Int.le_of_lt zlO);have h3:=h.ne hl;unfold sgM;rw [if_neg hl,if_pos (by omega)]
theorem Sgn.higT {l:List (Int × Int)}(h:Sgn l)(hl:l ≠ [])(h0:higT l≤0):sgM l=-1:=by
 have h1:=(zlR (l:=l) fun e he=>(h.ok e he).1).2;have h2:Go.Proofs.YtbkfhacmekbniaaGreatDoor.higT l * (S22:Int)≤0:=Int.mul_nonpos_of_nonpos_of_nonneg h0 (Int.le_of_lt zlO);have h3:=h.ne hl;unfold sgM;rw [if_neg hl,if_neg (by omega)]
theorem znk {p:List Int}{x:List Rat}(hp:Pr p x.length)(hw:FwN x):∀ e∈tms p (dn x) x,okN e:=by
 intro e he;refine ⟨zmd hp _ e he,?_⟩;have h1:=(List.mem_filter.1 he).1;have h2:e.2∈fcd (dn x) x:=(List.of_mem_zip (show (e.1,e.2)∈p.zip (fcd (dn x) x) from h1)).2;unfold fcd at h2;obtain ⟨r,hr,h3⟩:=List.mem_map.1 h2;rw [← h3];exact hw r hr
theorem znl {p:List Int}{x:List Rat}(hp:Pr p x.length):∃ a tl,x=a::tl:=by
 rcases hp with ⟨_,h⟩ | ⟨_,h⟩ <;> (cases x with | nil=>simp at h | cons a tl=>exact ⟨a,tl,rfl⟩)
theorem znm {p:List Int}{x:List Rat}(hp:Pr p x.length)(hf:∀ q∈x,Ft 30 q):Sgn (tms p (dn x) x):=by
 obtain ⟨hw,_⟩:=zmO hp hf;have hlen:(tms p (dn x) x).length≤100:=by
  unfold tms;refine Nat.le_trans (List.length_filter_le _ _) ?_;rw [List.length_zip];rcases hp with ⟨rfl,_⟩ | ⟨rfl,_⟩ <;> simp <;> omega
 obtain ⟨a,tl,rfl⟩:=znl hp;have hz:tms p (dn (a::tl)) (a::tl) ≠ []→¬ ∀ r∈a::tl,r=0:=fun h1 h2=>h1 (by
  unfold tms;rw [List.filter_eq_nil_iff];intro e he;have h3:e.2∈fcd (dn (a::tl)) (a::tl):=(List.of_mem_zip (show (e.1,e.2)∈p.zip (fcd (dn (a::tl)) (a::tl)) from he)).2;unfold fcd at h3;obtain ⟨r,hr,h4⟩:=List.mem_map.1 h3;rw [h2 r hr] at h4;rw [← h4];simp)
 refine ⟨hlen,znk hp hw,fun h=>?_,fun h=>?_⟩
 ·have:=znj hp hw (hz h);intro e;rw [e] at this;simp at this
 ·have hfar:=znj hp hw (hz h);obtain ⟨B,C,_,hE,hbd,_⟩:=zlU hp (dn (a::tl));have hBC:=hbd HH fun r hr=>hw r (List.mem_cons_of_mem _ hr);have hend:=zlN (n:=2048) (Nat.le_refl _) (tms p (dn (a::tl)) (a::tl));have herr:=zlT (n:=2048) (tms p (dn (a::tl)) (a::tl));rw [show ((2 ^ (2048 - 2048):Nat):Int)=1 by decide,Int.mul_one,Int.mul_one] at hend;have e2:zeq (tms p (dn (a::tl)) (a::tl))=zeq (p.zip (fcd (dn (a::tl)) (a::tl))):=(zew _).2.2.2;rw [e2,hE] at herr;have h1:B.natAbs≤HH:=hBC.1;have h2:C.natAbs≤HH:=hBC.2;omega
theorem znn {p:List Int}{x:List Rat}(hp:Pr p x.length)(hf:∀ q∈x,Ft 30 q):(sgM (tms p (dn x) x)<0 ↔ mF p x<0)∧(sgM (tms p (dn x) x)=0 ↔ ∀ r∈x,r=0)∧(0<sgM (tms p (dn x) x) ↔ 0<mF p x):=by
 have hs:=znm hp hf;have e1:=znf (dn x) p x (zez x);have e2:zlE (tms p (dn x) x)=zlE (p.zip (fcd (dn x) x)):=(zlV 0 _).2.2;have hpos:(0:Rat)<((dn x:Nat):Rat):=by
  have:=ze0 x;exact Rat.natCast_pos.2 this
 rw [← e2] at e1;by_cases hl:tms p (dn x) x=[]
 ·have h0:=zeQ hp hl;have h1:=znh p x h0;have h2:sgM (tms p (dn x) x)=0:=by unfold sgM;rw [if_pos hl]
  rw [h1,h2];exact ⟨⟨fun h=>absurd h (by decide),fun h=>absurd h (Rat.lt_irrefl)⟩,⟨fun _=>h0,fun _=>rfl⟩,⟨fun h=>absurd h (by decide),fun h=>absurd h (Rat.lt_irrefl)⟩⟩
 ·have hne:=hs.ne hl;have hnz:¬ ∀ r∈x,r=0:=fun h=>hne (by
   rw [znh p x h,Rat.mul_zero] at e1;exact Rat.intCast_inj.1 (by rw [e1];rfl))
  unfold sgM;rw [if_neg hl];by_cases hm:0<zlE (tms p (dn x) x)
  ·have h4:(0:Rat)<((zlE (tms p (dn x) x):Int):Rat):=Rat.intCast_pos.2 hm;rw [e1] at h4;have h5:0<mF p x:=(Rat.mul_pos_iff_of_pos_left hpos).1 h4;rw [if_pos hm];exact ⟨⟨fun h=>absurd h (by decide),fun h=>by exfalso;grind⟩,⟨fun h=>absurd h (by decide),fun h=>absurd h hnz⟩,⟨fun _=>h5,fun _=>by decide⟩⟩
  ·have hm2:0 < -zlE (tms p (dn x) x):=(by omega);have h4:(0:Rat)<((-zlE (tms p (dn x) x):Int):Rat):=Rat.intCast_pos.2 hm2;rw [Rat.intCast_neg,e1] at h4;have h4:(0:Rat)<((dn x:Nat):Rat) * (-mF p x):=by
    have e:((dn x:Nat):Rat) * (-mF p x)=-(((dn x:Nat):Rat) * mF p x):=(by grind);rw [e];exact h4
   have h5:0 < -mF p x:=(Rat.mul_pos_iff_of_pos_left hpos).1 h4;have h6:mF p x<0:=(by grind);rw [if_neg hm];exact ⟨⟨fun _=>h6,fun _=>by decide⟩,⟨fun h=>absurd h (by decide),fun h=>absurd h hnz⟩,⟨fun h=>absurd h (by decide),fun h=>by exfalso;grind⟩⟩
theorem zno {p:List Int}{x y:List Rat}(hp:Pr p x.length)(hxy:x.length=y.length)(hf:∀ q∈ze2 x y,Ft 30 q)(e:mF p x=mF p y):x=y:=by
 have hl:=zi6 hxy;have hs:=znn (p:=p) (x:=ze2 x y) (by rw [hl];exact hp) hf;have h0:mF p (ze2 x y)=0:=by rw [zng p x y hxy,e];grind
 have hz:∀ r∈ze2 x y,r=0:=by
  refine hs.2.1.1 ?_;rw [h0] at hs;have h1:¬ sgM (tms p (dn (ze2 x y)) (ze2 x y))<0:=fun h=>absurd (hs.1.1 h) Rat.lt_irrefl;have h2:¬ 0<sgM (tms p (dn (ze2 x y)) (ze2 x y)):=fun h=>absurd (hs.2.2.1 h) Rat.lt_irrefl;omega
 apply List.ext_getElem hxy;intro i h1 h2;have h3:(ze2 x y)[i]?=some (x[i] - y[i]):=by
  unfold ze2;rw [List.getElem?_zipWith,List.getElem?_eq_getElem h1,List.getElem?_eq_getElem h2]
 have:=hz _ (List.mem_of_getElem? h3);grind
end
section
open Go.RowKit Go.Lib
attribute [local go_sem] Oper.semAt_some
theorem znp {l:List (Int × Int)}(h:∀ e∈l,okN e):∀ e∈l,zgL e:=fun e he=>⟨(h e he).1,by
 have h1:=(h e he).2;have h2:HH<10 ^ 121:=by decide +kernel
 exact Nat.le_trans (Dec.nDigits_le (k:=121) (by decide) (Nat.lt_of_le_of_lt h1 h2)) (by decide)⟩
theorem znq (tv:Value)(l:List (Int × Int))(d:Nat)(w:World)(ht:TmV w tv l d)(hS:Sgn l)(hne:l ≠ [])(hrv:zgm w) :
  Calls Tryz.prog 147 #[tv] w fun e w'=>(∃ z:Int,e=.returned (.int .i64 z)∧(z=0∨z=sgM l))∧Ext w w':=by
 have hn:=fun W (hE:Ext w W)=>zgT tv l d 10000000 W (ht.ext hE) hS.few (by omega) (Int.le_refl _) (znp hS.ok) (.inr (hrv.ext hE));have h1:=fun h=>hS.lowT hne h;have h2:=fun h=>hS.higT hne h;obtain ⟨vp,vf,rfl,hp,hfa⟩:=ht;obtain ⟨aa,ca,rfl,_,_,_⟩:=hp.parts;obtain ⟨ab,cb,rfl,_,_,_⟩:=hfa.parts;clear hp hfa hS hrv;have hall:(∀ e∈l,okE 10000000 e)∨¬ ∀ e∈l,okE 10000000 e:=Classical.em _;generalize (∀ e∈l,okE 10000000 e)=A at *;generalize (zak (l.map Prod.fst)).length=la at *;generalize (zfU (l.map Prod.snd)).length=lb at *;generalize sgM l=sg at *;generalize lowT l=lo at *;generalize higT l=hi at *;have hE0:Ext w (w.alloc (.cells #[.slice aa la ca,.slice ab lb cb,.string (I ((d:Nat):Int))] 138)):=(Ext.refl w).alloc _;have HE0:=hid hE0;clear hE0;have Hn:=hid hn;have H1:=hid h1;have H2:=hid h2;clear hn h1 h2;rcases hall with hA | hA
 ·have HA:=hid hA;clear hA;go_enter Tryz.func147,Tryz.ntmps147
  go_wp2_with fail
  refine (Hn.out _ HE0.out).mono ?_;rintro e w1 ⟨hy,_,hx1⟩;obtain rfl:=hy HA.out;have Hx1:=hid (HE0.out.trans hx1);clear hx1 hy;by_cases h0:0≤lo
  ·obtain rfl:=H1.out h0;go_wp2
   go_ret
   exact ⟨⟨1,rfl,.inr rfl⟩,Hx1.out⟩
  ·by_cases h3:hi≤0
   ·obtain rfl:=H2.out h3;go_wp2
    go_ret
    exact ⟨⟨-1,rfl,.inr rfl⟩,Hx1.out⟩
   ·go_wp2
    go_ret
    exact ⟨⟨0,rfl,.inl rfl⟩,Hx1.out⟩
 ·have HA:=hid hA;clear hA;go_enter Tryz.func147,Tryz.ntmps147
  go_wp2_with fail
  refine (Hn.out _ HE0.out).mono ?_;rintro e w1 ⟨_,hy,hx1⟩;obtain rfl:=hy HA.out;have Hx1:=hid (HE0.out.trans hx1);clear hx1 hy;go_wp2
  go_ret
  exact ⟨⟨0,rfl,.inl rfl⟩,Hx1.out⟩
theorem znr {l:List (Int × Int)}(h:l ≠ []):sgM l ≠ 0:=by
 unfold sgM;rw [if_neg h];split <;> decide
theorem zns {n:Nat}(h:Lad n)(h2:n ≠ 2048):Lad (n * 2)∧(64≤n∧n≤1024):=by
 unfold Lad at *;omega
theorem znt (tv:Value)(l:List (Int × Int))(d:Nat)(w:World)(he:Env w)(ht:TmV w tv l d)(hS:Sgn l)(hrv:zgm w) :
  Calls Tryz.prog 100 #[tv] w fun e w'=>e=.returned (.int .i64 (sgM l))∧Ext w w':=by
 have hq:=fun W (hE:Ext w W)(hne:l ≠ [])=>znq tv l d W (ht.ext hE) hS hne (hrv.ext hE);have he1:=fun W n (hE:Ext w W)(hn:Lad n)=>zmA tv l d n W (he.ext hE) (ht.ext hE) hS.few hn hS.ok;have hf:=fun n (hn:Lad n)=>zm7 (zlI hn) (l:=l) (by have:=hS.few;omega) hS.ok;have hs1:=fun n (hn:Lad n) W=>zbK (zlC n l) W (zm2 (by have:=(hf n hn).1;omega));have hs2:=fun n (hn:Lad n) W=>zbK (zlD n l) W (zm2 (by have:=(hf n hn).2;omega));have h1:=fun n (hn:Lad n)(hne:l ≠ [])(h:0≤zlC n l)=>hS.low (zlI hn) hne h;have h2:=fun n (hn:Lad n)(hne:l ≠ [])(h:zlD n l≤0)=>hS.hig (zlI hn) hne h;have h3:=fun (hne:l ≠ [])=>hS.top hne;have hs:(l.length=0→sgM l=0∧l=[])∧(l.length ≠ 0→sgM l ≠ 0∧l ≠ []):=by
  constructor
  ·intro h;have:l=[]:=List.length_eq_zero_iff.1 h;exact ⟨by unfold sgM;rw [if_pos this],this⟩
  ·intro h;have:l ≠ []:=fun e=>h (by rw [e];rfl);exact ⟨znr this,this⟩
 have hlf:=hS.few;obtain ⟨vp,vf,rfl,hp,hfa⟩:=ht;obtain ⟨aa,ca,rfl,_,_,_⟩:=hp.parts;obtain ⟨ab,cb,rfl,_,_,_⟩:=hfa.parts;clear hp hfa he hS hrv hf;rw [zam,List.length_map] at *;generalize (zfU (l.map Prod.snd)).length=lb at *;generalize hsg:sgM l=sg at *;clear hsg;have hE0:Ext w (w.alloc (.cells #[.slice aa l.length ca,.slice ab lb cb,.string (I ((d:Nat):Int))] 138)):=(Ext.refl w).alloc _;have bx:=zfW.new w (.slice aa l.length ca) (.slice ab lb cb) (.string (I ((d:Nat):Int)));generalize I ((d:Nat):Int)=sd at *;have Hq:=hid hq;have He1:=hid he1;have Hs1:=hid hs1;have Hs2:=hid hs2;have H1:=hid h1;have H2:=hid h2;have H3:=hid h3;have Hs:=hid hs;have HE0:=hid hE0;have BX:=hid bx;clear hq he1 hs1 hs2 h1 h2 h3 hs hE0 bx;go_enter Tryz.func100,Tryz.ntmps100
 go_wp2_with fail
 go_step3
 by_cases h0:l.length=0
 ·obtain ⟨rfl,rfl⟩:=Hs.out.1 h0;go_wp2
  try rw [Exit.noGoto_ret]
  go_ret
  exact ⟨rfl,HE0.out⟩
 ·obtain ⟨hsn,hne⟩:=Hs.out.2 h0;have Hq2:=hid fun W hE=>Hq.out W hE hne;have Hne:=hid hne;have Hsn:=hid hsn;clear Hq hne hsn;go_wp2_with fail
  refine (Hq2.out _ HE0.out).mono ?_;rintro e w1 ⟨⟨z,rfl,hz⟩,hx1⟩;have Hx1:=hid (HE0.out.trans hx1);have HB1:=hid (BX.out.ext hx1);clear hx1;by_cases hz0:z=0
  case neg =>
   have hzs:z=sg:=hz.resolve_left hz0;have hsn:=Hsn.out;subst hzs;clear hz;have hzb:(z == 0)=false:=beq_eq_false_iff_ne.2 hz0;go_wp2
   try rw [Exit.noGoto_ret]
   go_ret
   exact ⟨rfl,Hx1.out⟩
  case pos =>
   subst hz0;clear hz;go_wp2_with fail
   go_step3
   go_wp2_with fail
   go_loopw [4] (fun v wr=>∃ n:Nat,v=.int .i64 n∧Lad n∧Ext w1 wr) (fun v _=>2048 - (zag v).toNat)
   case atStart=>exact ⟨64,rfl,.inl rfl,Ext.refl _⟩
   case round =>
    obtain ⟨n,rfl,hn,hE⟩:=hrel;have Hn:=hid hn;have HE6:=hid hE;clear hn hE;obtain ⟨b0,b1,b2,_⟩:=(HB1.out.ext HE6.out).c;go_wp2_with fail
    refine (He1.out wr n (Hx1.out.trans HE6.out) Hn.out).mono ?_;rintro e v1 ⟨rfl,hx⟩;have HE7:=hid (HE6.out.trans hx);clear hx b0 b1 b2;have hs1:=Hs1.out n Hn.out;have hs2:=Hs2.out n Hn.out;have h1:=H1.out n Hn.out Hne.out;have h2:=H2.out n Hn.out Hne.out;have htop:n=2048→0≤zlC n l∨zlD n l≤0:=fun e=>by rw [e];exact H3.out Hne.out
    generalize zlC n l=lo at *;generalize zlD n l=hi at *;have hc1:0≤lo ↔ ¬ zbc lo 0<0:=by
     rcases Int.lt_trichotomy lo 0 with g | g | g
     ·rw [zbd g];omega
     ·rw [zbe g];omega
     ·rw [zbf g];omega
    have hc2:hi≤0 ↔ ¬ 0<zbc hi 0:=by
     rcases Int.lt_trichotomy hi 0 with g | g | g
     ·rw [zbd g];omega
     ·rw [zbe g];omega
     ·rw [zbf g];omega
    generalize zbc lo 0=c1 at *;generalize zbc hi 0=c2 at *;generalize I lo=slo at *;generalize I hi=shi at *;have HS1:=hid hs1;have HS2:=hid hs2;have HL:=hid h1;have HH2:=hid h2;have Htop:=hid htop;have HC1:=hid hc1;have HC2:=hid hc2;clear hs1 hs2 h1 h2 htop hc1 hc2;by_cases g1:0≤c1
    ·obtain rfl:=HL.out (HC1.out.2 (by omega));go_wp2_with fail
     refine (HS1.out _).mono ?_;rintro e v3 ⟨rfl,rfl⟩;go_wp2
     try rw [Exit.noGoto_ret]
     go_ret
     exact ⟨rfl,Hx1.out.trans HE7.out⟩
    ·by_cases g2:c2≤0
     ·obtain rfl:=HH2.out (HC2.out.2 (by omega));go_wp2_with fail
      refine (HS1.out _).mono ?_;rintro e v3 ⟨rfl,rfl⟩;go_wp2_with fail
      refine (HS2.out _).mono ?_;rintro e v3 ⟨rfl,rfl⟩;go_wp2
      try rw [Exit.noGoto_ret]
      go_ret
      exact ⟨rfl,Hx1.out.trans HE7.out⟩
     ·have hn2:n ≠ 2048:=fun e=>by
       rcases Htop.out e with h | h
       ·exact g1 (by have:=HC1.out.1 h;omega)
       ·exact g2 (by have:=HC2.out.1 h;omega)
      obtain ⟨hl2,hnb⟩:=zns Hn.out hn2;have Hl2:=hid hl2;clear hl2 hn2;go_wp2_with fail
      refine (HS1.out _).mono ?_;rintro e v3 ⟨rfl,rfl⟩;go_wp2_with fail
      refine (HS2.out _).mono ?_;rintro e v3 ⟨rfl,rfl⟩;go_wp2_with fail
      refine ⟨⟨n * 2,?_,Hl2.out,HE7.out⟩,?_⟩
      ·rw [Int.natCast_mul];rfl
      ·simp only [zag];omega
theorem znu (vp va vb:Value)(p:List Int)(x y:List Rat)(w:World)(he:Env w)(hp:Sl w vp (zak p))(ha:Rd w va x)(hb:Rd w vb y)(hpl:p.length≤100)(hx:x.length=p.length)(hy:y.length=p.length)(hxf:∀ q∈x,Ft 400 q)(hyf:∀ q∈y,Ft 400 q)(hpr:Pr p p.length)(hdf:∀ q∈ze2 x y,Ft 30 q)(hrv:zgm w) :
  Calls Tryz.prog 109 #[vp,va,vb] w fun e w'=>e=.returned (.int .i64 (sgM (tms p (dn (ze2 x y)) (ze2 x y))))∧Ext w w':=by
 have hua:=zf0 ha;have hub:=zf0 hb;have hsum:zgZ p.length [x,y] [1,-1] 2=ze2 x y:=zhl hx hy;have hsl:(ze2 x y).length=p.length:=by unfold ze2;rw [List.length_zipWith];omega
 have hco:∀ W vl vf,Ext w W→RdM W vl [⟨x,va,hua⟩,⟨y,vb,hub⟩]→Rd W vf [1,-1]→Calls Tryz.prog 105 #[.int .i64 (p.length:Int),vl,vf] W fun e w'=>∃ g,e=.returned (.slice (some ⟨g,0,none⟩) p.length p.length)∧zfw w' W.heap.size (.slice (some ⟨g,0,none⟩) p.length p.length) (ze2 x y)∧Ext W w':=by
  intro W vl vf hE hl hf;have:=zht p.length vl vf [⟨x,va,hua⟩,⟨y,vb,hub⟩] [1,-1] W (he.ext hE) hl hf (by omega) (by simp) (by simp) (by
   intro r hr;rcases List.mem_cons.1 hr with rfl | hr
   ·exact ⟨hx,hxf⟩
   ·rw [List.mem_singleton] at hr;subst hr;exact ⟨hy,hyf⟩) (by
   intro f hf;simp only [List.mem_cons,List.not_mem_nil,or_false] at hf;rcases hf with rfl | rfl
   ·exact zhz
   ·exact zh0)
  change Calls _ _ _ _ fun e w'=>e=.returned (.slice (some ⟨W.heap.size,0,none⟩) p.length p.length)∧zfw w' W.heap.size (.slice (some ⟨W.heap.size,0,none⟩) p.length p.length) (zgZ p.length [x,y] [1,-1] 2)∧Ext W w' at this;rw [hsum] at this;exact this.mono fun e w' h=>⟨_,h⟩
 have hn1:=fun W (h:Ext w W)=>zf2 1 W (he.ext h) (by omega) (by omega);have hn2:=fun W (h:Ext w W)=>zf2 (-1) W (he.ext h) (by omega) (by omega);rw [zf1] at hn1 hn2;have hlt:=zgh (p:=p) (d:=dn (ze2 x y)) (x:=ze2 x y);rw [hsl] at hlt;have htm:=fun W v (hE:Ext w W)(hv:Rd W v (ze2 x y))=>zgl vp v p (ze2 x y) W (he.ext hE) (hE.sl hp) hv hpl hsl hdf;have hts:=fun W tv (hE:Ext w W)(ht:TmV W tv (tms p (dn (ze2 x y)) (ze2 x y)) (dn (ze2 x y)))=>znt tv _ _ W (he.ext hE) ht (znm (by rw [hsl];exact hpr) hdf) (hrv.ext hE);generalize sgM (tms p (dn (ze2 x y)) (ze2 x y))=sg at *;have hra:=fun W (h:Ext w W)=>h.rd ha;have hrb:=fun W (h:Ext w W)=>h.rd hb;have hbl:Ext w (w.alloc (.cells #[va,vb] 32)):=(Ext.refl w).alloc _;have hbc:(w.alloc (.cells #[va,vb] 32)).heap[w.heap.size]?=some (.cells ([va,vb]:List Value).toArray 32 (0,0)):=World.alloc_heap_new w _;have hone:rcs [1,-1]=[.string (I 1),.string ⟨#[49]⟩,.string (I (-1)),.string ⟨#[49]⟩]:=by
  show [Value.string (I 1),.string (I ((1:Nat):Int)),.string (I (-1)),.string (I ((1:Nat):Int))]=_;rw [zav,zbl]
 obtain ⟨ap,cp,rfl,_,_,_⟩:=hp.parts;obtain ⟨aa,ca,rfl,_,_,_⟩:=ha.parts;obtain ⟨ab,cb,rfl,_,_,_⟩:=hb.parts;rw [zam] at htm ⊢;generalize I 1=s1 at *;generalize I (-1)=s2 at *;clear hp ha hb he hxf hyf hpr hdf hrv hsum hsl hlt;clear hpl;have Hxl:=hid hx;have Hyl:=hid hy;clear hx hy;have Hco:=hid hco;have Hn1:=hid hn1;have Hn2:=hid hn2;have Hra:=hid hra;have Hrb:=hid hrb;have Hbl:=hid hbl;have Hbc:=hid hbc;have Hone:=hid hone;have Htm:=hid htm;have Hts:=hid hts;clear hco hn1 hn2 hra hrb hbl hbc hone htm hts;go_enter Tryz.func109,Tryz.ntmps109
 go_wp2_with fail
 refine (Hn1.out _ Hbl.out).mono ?_;rintro e w1 ⟨rfl,hx1⟩;have Hx1:=hid (Hbl.out.trans hx1);have Hb1:=hid (hx1.heap Hbc.out);clear hx1;go_wp2_with fail
 refine (Hn2.out w1 Hx1.out).mono ?_;rintro e w2 ⟨rfl,hx2⟩;have hx3:Ext w2 (w2.alloc (.cells #[.string s1,.string ⟨#[49]⟩,.string s2,.string ⟨#[49]⟩] 60)):=(Ext.refl w2).alloc _;have hE3:Ext w (w2.alloc (.cells #[.string s1,.string ⟨#[49]⟩,.string s2,.string ⟨#[49]⟩] 60)):=(Hx1.out.trans hx2).trans hx3;have hl3:RdM (w2.alloc (.cells #[.string s1,.string ⟨#[49]⟩,.string s2,.string ⟨#[49]⟩] 60)) (.slice (some ⟨w.heap.size,0,none⟩) 2 2) [⟨x,.slice aa x.length ca,hua⟩,⟨y,.slice ab y.length cb,hub⟩] :=
  ⟨zhu ((hx2.trans hx3).heap Hb1.out) (by unfold maxLen;simp),by
   intro r hr;rcases List.mem_cons.1 hr with rfl | hr
   ·exact Hra.out _ hE3
   ·rw [List.mem_singleton] at hr;subst hr;exact Hrb.out _ hE3⟩
 have hf3:Rd (w2.alloc (.cells #[.string s1,.string ⟨#[49]⟩,.string s2,.string ⟨#[49]⟩] 60)) (.slice (some ⟨w2.heap.size,0,none⟩) 2 2) [1,-1] :=
  zhv (x:=[1,-1]) (by rw [Hone.out];exact World.alloc_heap_new w2 _) (by unfold maxLen;simp)
 have hcc:=Hco.out _ _ _ hE3 hl3 hf3;have Hcc:=hid hcc;have HE3:=hid hE3;clear hx2 hx3 hl3 hf3 hcc hE3;go_wp2_with fail
 refine Hcc.out.mono ?_;rintro e w4 ⟨g,rfl,ho4,hx4⟩;have Ho4:=hid ho4.rd;have Hx4:=hid (HE3.out.trans hx4);clear ho4 hx4;go_wp2_with fail
 refine (Htm.out w4 _ Hx4.out Ho4.out).mono ?_;rintro e w5 ⟨tv,rfl,ht,hx5⟩;have Hx5:=hid (Hx4.out.trans hx5);have H6:=hid (Hts.out w5 tv Hx5.out ht);obtain ⟨_,_,rfl,_,_⟩:=ht;clear hx5;go_wp2_with fail
 refine (H6.out).mono ?_;rintro e w6 ⟨rfl,hx6⟩;have Hx6:=hid (Hx5.out.trans hx6);clear hx6;go_wp2
 go_ret
 exact ⟨rfl,Hx6.out⟩
theorem znv (vp va vb:Value)(p:List Int)(x y:List Rat)(w:World)(he:Env w)(hp:Sl w vp (zak p))(ha:Rd w va x)(hb:Rd w vb y)(hpe:zfe p=0)(hpl:p.length≤100)(hx:x.length=p.length)(hy:y.length=p.length)(hxf:∀ q∈x,Ft 30 q)(hyf:∀ q∈y,Ft 30 q)(hpr:Pr p p.length)(hdf:∀ q∈ze2 x y,Ft 30 q)(hrv:zgm w) :
  Calls Tryz.prog 82 #[vp,va,vb] w fun e w'=>e=.returned (.tuple #[.int .i64 (sgM (tms p (dn (ze2 x y)) (ze2 x y))),.int .i64 0])∧Ext w w':=by
 have hua:=zf0 ha;have hub:=zf0 hb;have h1:=fun W vl (hE:Ext w W)(hl:RdM W vl [⟨x,va,hua⟩,⟨y,vb,hub⟩])=>zfH vp vl p [⟨x,va,hua⟩,⟨y,vb,hub⟩] W (he.ext hE) (hE.sl hp) hl hpe (by simp) (by
   intro r hr;rcases List.mem_cons.1 hr with rfl | hr
   ·exact ⟨hx,hxf⟩
   ·rw [List.mem_singleton] at hr;subst hr;exact ⟨hy,hyf⟩)
 have h2:=fun W (hE:Ext w W)=>znu vp va vb p x y W (he.ext hE) (hE.sl hp) (hE.rd ha) (hE.rd hb) hpl hx hy (fun q h=>(hxf q h).mono (by omega)) (fun q h=>(hyf q h).mono (by omega)) hpr hdf (hrv.ext hE);generalize sgM (tms p (dn (ze2 x y)) (ze2 x y))=sg at *;have hl3:RdM (w.alloc (.cells #[va,vb] 32)) (.slice (some ⟨w.heap.size,0,none⟩) 2 2) [⟨x,va,hua⟩,⟨y,vb,hub⟩] :=
  ⟨zhu (us:=[va,vb]) (World.alloc_heap_new w _) (by unfold maxLen;simp),by
   intro r hr;rcases List.mem_cons.1 hr with rfl | hr
   ·exact ((Ext.refl w).alloc _).rd ha
   ·rw [List.mem_singleton] at hr;subst hr;exact ((Ext.refl w).alloc _).rd hb⟩
 have hbl:Ext w (w.alloc (.cells #[va,vb] 32)):=(Ext.refl w).alloc _;have h3:=h1 _ _ hbl hl3;clear h1 hl3;obtain ⟨ap,cp,rfl,_,_,_⟩:=hp.parts;obtain ⟨aa,ca,rfl,_,_,_⟩:=ha.parts;obtain ⟨ab,cb,rfl,_,_,_⟩:=hb.parts;clear hp ha hb he hxf hyf hpr hdf hrv hpe;have Hxl:=hid hx;have Hyl:=hid hy;clear hx hy;have H2:=hid h2;have H3:=hid h3;have Hbl:=hid hbl;clear h2 h3 hbl;go_enter Tryz.func82,Tryz.ntmps82
 go_wp2_with fail
 refine H3.out.mono ?_;rintro e w1 ⟨rfl,hx1⟩;have Hx1:=hid (Hbl.out.trans hx1);clear hx1;go_wp2_with fail
 refine (H2.out w1 Hx1.out).mono ?_;rintro e w2 ⟨rfl,hx2⟩;have Hx2:=hid (Hx1.out.trans hx2);clear hx2;go_wp2
 go_ret2
 exact ⟨rfl,Hx2.out⟩
end
section
def rsN (p:List Int)(x:List Rat):List Rat:=shf (-(flN p x)) x
def znw (p:List Int)(out:List (List Rat))(x:List Rat):List (List Rat):=if rsN p x=zer p.length∨rsN p x∈out then out else out++[rsN p x]
def znx (p:List Int)(init l:List (List Rat)):List (List Rat):=l.foldl (znw p) init
theorem zny (p:List Int)(init l:List (List Rat))(x:List Rat):znx p init (l++[x])=znw p (znx p init l) x:=by unfold znx;rw [List.foldl_append];rfl
theorem znz {p:List Int}{init l:List (List Rat)}{k:Nat}{x:List Rat}(h:l[k]?=some x):znx p init (l.take (k+1))=znw p (znx p init (l.take k)) x:=by
 obtain ⟨hk,rfl⟩:=List.getElem?_eq_some_iff.1 h;rw [List.take_succ_eq_append_getElem hk,zny]
theorem zn0 {p:List Int}(l:List (List Rat)):∀ (init:List (List Rat))(x:List Rat),x∈znx p init l ↔ x∈init∨(x ≠ zer p.length∧∃ y∈l,x=rsN p y):=by
 induction l with
 | nil=>intro init x;simp [znx]
 | cons z l ih =>
  intro init x
  show x∈znx p (znw p init z) l ↔ _
  rw [ih]
  have hs:x∈znw p init z ↔ x∈init∨(x ≠ zer p.length∧x=rsN p z):=by
   unfold znw;split
   ·rename_i h;constructor
    ·exact .inl
    ·rintro (g | ⟨g1,g2⟩)
     ·exact g
     ·subst g2;rcases h with h | h
      ·exact absurd h g1
      ·exact h
   ·rename_i h;rw [List.mem_append,List.mem_singleton];constructor
    ·rintro (g | g)
     ·exact .inl g
     ·subst g;exact .inr ⟨fun e=>h (.inl e),rfl⟩
    ·rintro (g | ⟨_,g⟩)
     ·exact .inl g
     ·exact .inr g
  rw [hs]
  constructor
  ·rintro ((g | ⟨g1,g2⟩) | ⟨g1,y,hy,g2⟩)
   ·exact .inl g
   ·exact .inr ⟨g1,z,List.mem_cons_self ..,g2⟩
   ·exact .inr ⟨g1,y,List.mem_cons_of_mem _ hy,g2⟩
  ·rintro (g | ⟨g1,y,hy,g2⟩)
   ·exact .inl (.inl g)
   ·rcases List.mem_cons.1 hy with rfl | hy
    ·exact .inl (.inr ⟨g1,g2⟩)
    ·exact .inr ⟨g1,y,hy,g2⟩
theorem zn1 {p:List Int}(l:List (List Rat)):∀ (init:List (List Rat)),init.Nodup→(znx p init l).Nodup:=by
 induction l with
 | nil=>intro init h;exact h
 | cons z l ih =>
  intro init h
  refine ih _ ?_
  unfold znw
  split
  ·exact h
  ·rename_i g
   rw [List.nodup_append]
   refine ⟨h,by simp,fun a ha b hb=>?_⟩
   rw [List.mem_singleton] at hb
   subst hb
   rintro rfl
   exact g (.inr ha)
def zn2 (p:List Int)(N:List (List Rat)):Prop:=N.Pairwise fun x y=>mF p x<mF p y
theorem zn3 {p:List Int}:∀ {N M:List (List Rat)},zn2 p N→zn2 p M→(∀ x,x∈N ↔ x∈M)→N=M
 | [],[],_,_,_=>rfl
 | [],b::M,_,_,h=>by have:=(h b).2 (List.mem_cons_self ..);cases this
 | a::N,[],_,_,h=>by have:=(h a).1 (List.mem_cons_self ..);cases this
 | a::N,b::M,h1,h2,h=>by
  have h1':=h1;have h2':=h2;unfold zn2 at h1' h2';rw [List.pairwise_cons] at h1' h2';have e:a=b:=by
   rcases List.mem_cons.1 ((h a).1 (List.mem_cons_self ..)) with e | ha
   ·exact e
   ·rcases List.mem_cons.1 ((h b).2 (List.mem_cons_self ..)) with e | hb
    ·exact e.symm
    ·have g1:=h2'.1 a ha;have g2:=h1'.1 b hb;exfalso;grind
  subst e;rw [zn3 (N:=N) (M:=M) h1'.2 h2'.2 fun x=>?_];constructor
  ·intro hx;rcases List.mem_cons.1 ((h x).1 (List.mem_cons_of_mem _ hx)) with rfl | g
   ·have:=h1'.1 x hx;exfalso;grind
   ·exact g
  ·intro hx;rcases List.mem_cons.1 ((h x).2 (List.mem_cons_of_mem _ hx)) with rfl | g
   ·have:=h2'.1 x hx;exfalso;grind
   ·exact g
theorem zn4 {p:List Int}{N M:List (List Rat)}(h:N.Perm M)(h1:N.Pairwise fun x y=>mF p x≤mF p y)(h2:M.Nodup)(h3:∀ x∈M,∀ y∈M,mF p x=mF p y→x=y):zn2 p N:=by
 have hn:N.Nodup:=h.nodup_iff.2 h2;unfold zn2;have:=List.Pairwise.and h1 hn;refine List.Pairwise.imp_of_mem ?_ this;intro a b ha hb ⟨g1,g2⟩;have:mF p a ≠ mF p b:=fun e=>g2 (h3 a (h.mem_iff.1 ha) b (h.mem_iff.1 hb) e);grind
theorem zn5 {p:List Int}{x:List Rat}(hp:Pr p x.length)(q:Int):mF p (shf q x)=mF p x+(q:Rat) * (KK:Rat):=by
 have h2:((LG 2 2048:Nat):Rat)=((KK:Int):Rat):=by
  have:((LG 2 2048:Nat):Int)=KK:=by decide +kernel
  rw [← this];rfl
 obtain ⟨a,tl,rfl⟩:=znl hp;rcases hp with ⟨rfl,_⟩ | ⟨rfl,_⟩ <;>
 ·simp only [shf,mF,h2];grind
theorem zn6 (p:List Int)(n:Nat):mF p (zer n)=0:=znh p _ fun _ h=>List.eq_of_mem_replicate h
theorem mov {p:List Int}(hp:Pr p p.length):mF p (ov (p.length - 1))=((KK:Int):Rat):=by
 rw [zja hp,zn5 (by rw [zi5];exact hp),zn6,show ((1:Int):Rat)=1 from rfl];grind
theorem zn7 {p:List Int}{x:List Rat}(hp:Pr p x.length):0≤mF p (rsN p x)∧mF p (rsN p x)<((KK:Int):Rat):=by
 unfold rsN;rw [zn5 hp];have e1:=znf (dn x) p x (zez x);have e2:zlE (tms p (dn x) x)=zlE (p.zip (fcd (dn x) x)):=(zlV 0 _).2.2;rw [← e2] at e1;have hd:(0:Rat)<((dn x:Nat):Rat):=Rat.natCast_pos.2 (ze0 x);have hK:0<KK:=by decide +kernel
 have hKD:0<KK * ((dn x:Nat):Int):=Int.mul_pos hK (by have:=ze0 x;omega);have h1:=Int.ediv_mul_le (zlE (tms p (dn x) x)) (show KK * ((dn x:Nat):Int) ≠ 0 by omega);have h2:=Int.lt_ediv_add_one_mul_self (zlE (tms p (dn x) x)) hKD;have hf:flN p x=zlE (tms p (dn x) x) / (KK * ((dn x:Nat):Int)):=rfl;rw [← hf] at h1 h2;have h1:=Rat.intCast_le_intCast.2 h1;have h2:=Rat.intCast_lt_intCast.2 h2;rw [Rat.intCast_mul,Rat.intCast_mul,e1,Rat.intCast_natCast] at h1 h2;rw [Rat.intCast_add] at h2;rw [Rat.intCast_neg];generalize mF p x=m at *;generalize ((flN p x:Int):Rat)=f at *;generalize ((KK:Int):Rat)=k at *;generalize ((dn x:Nat):Rat)=d at *;constructor
 ·have h3:d * (f * k)≤d * m:=by
   have:f * (k * d)=d * (f * k):=(by grind);rw [← this];exact h1
  rcases Classical.em (f * k≤m) with h4 | h4
  ·grind
  ·exfalso;have h5:0<d * (f * k - m):=Rat.mul_pos hd (by grind);grind
 ·have h3:d * m<d * ((f+1) * k):=by
   have:(f+((1:Int):Rat)) * (k * d)=d * ((f+1) * k):=(by rw [show ((1:Int):Rat)=1 from rfl];grind);rw [← this];exact h2
  rcases Classical.em (m<(f+1) * k) with h4 | h4
  ·grind
  ·exfalso;have h5:0≤d * (m - (f+1) * k):=Rat.mul_nonneg (Rat.le_of_lt hd) (by grind);grind
def PlN (p:List Int)(l:List (List Rat))(x:List Rat):Prop:=x=zer p.length∨x=ov (p.length - 1)∨∃ z∈l,x=rsN p z
structure Le (p:List Int)(l:List (List Rat)):Prop where
 pr:Pr p p.length
 len:∀ x∈l,x.length=p.length
 ft:∀ x∈l,∀ q∈x,Ft 30 q
 res:∀ x∈l,∀ q∈rsN p x,Ft 30 q
 dif:∀ x y,PlN p l x→PlN p l y→∀ q∈ze2 x y,Ft 30 q
theorem Le.plen {p:List Int}{l:List (List Rat)}(h:Le p l){x:List Rat}(hx:PlN p l x):x.length=p.length:=by
 have:=(ziM h.pr).2;rcases hx with rfl | rfl | ⟨z,hz,rfl⟩
 ·exact zi5 _
 ·rw [zhM];omega
 ·unfold rsN;rw [ziA];exact h.len z hz
theorem Le.inj {p:List Int}{l:List (List Rat)}(h:Le p l){x y:List Rat}(hx:PlN p l x)(hy:PlN p l y)(e:mF p x=mF p y):x=y :=
 zno (by rw [h.plen hx];exact h.pr) ((h.plen hx).trans (h.plen hy).symm) (h.dif x y hx hy) e
theorem Le.range {p:List Int}{l:List (List Rat)}(h:Le p l){z:List Rat}(hz:z∈l):0≤mF p (rsN p z)∧mF p (rsN p z)<((KK:Int):Rat) :=
 zn7 (by rw [h.len z hz];exact h.pr)
def zn8 (p:List Int)(l N:List (List Rat)):Prop:=zn2 p N∧∀ x,x∈N ↔ x=ov (p.length - 1)∨(x ≠ zer p.length∧∃ y∈l,x=rsN p y)
theorem zn9 {p:List Int}{l N M:List (List Rat)}(h1:zn8 p l N)(h2:zn8 p l M):N=M :=
 zn3 h1.1 h2.1 fun x=>by rw [h1.2,h2.2]
theorem znA {p:List Int}{l N:List (List Rat)}(h:Le p l)(hp:N.Perm (znx p [ov (p.length - 1)] l))(hs:N.Pairwise fun x y=>mF p x≤mF p y):zn8 p l N:=by
 have hin:∀ x∈znx p [ov (p.length - 1)] l,x=zer p.length∨x=ov (p.length - 1)∨∃ z∈l,x=rsN p z:=fun x hx=>by
  rcases (zn0 l _ x).1 hx with e | ⟨_,g⟩
  ·exact .inr (.inl (by simpa using e))
  ·exact .inr (.inr g)
 refine ⟨zn4 hp hs (zn1 _ _ (by simp)) fun x hx y hy e=>h.inj (hin x hx) (hin y hy) e,fun x=>?_⟩;rw [hp.mem_iff,zn0];simp
theorem znB {p:List Int}{l N:List (List Rat)}(h:Le p l)(hp:N.Perm (znx p [] l))(hs:N.Pairwise fun x y=>mF p x≤mF p y):zn8 p l (N++[ov (p.length - 1)]):=by
 have hin:∀ x∈znx p [] l,x ≠ zer p.length∧∃ z∈l,x=rsN p z:=fun x hx=>by
  rcases (zn0 l _ x).1 hx with e | g
  ·cases e
  ·exact g
 have hin2:∀ x∈znx p [] l,x=zer p.length∨x=ov (p.length - 1)∨∃ z∈l,x=rsN p z:=fun x hx=>.inr (.inr (hin x hx).2);have h1:=zn4 hp hs (zn1 _ _ (by simp)) fun x hx y hy e=>h.inj (hin2 x hx) (hin2 y hy) e;refine ⟨?_,fun x=>?_⟩
 ·unfold zn2;rw [List.pairwise_append];refine ⟨h1,by simp,fun a ha b hb=>?_⟩;rw [List.mem_singleton] at hb;subst hb;obtain ⟨_,z,hz,e⟩:=hin a (hp.mem_iff.1 ha);rw [e,mov h.pr];exact (h.range hz).2
 ·rw [List.mem_append,hp.mem_iff,zn0];simp;constructor
  ·rintro (g | g)
   ·exact .inr g
   ·exact .inl g
  ·rintro (g | g)
   ·exact .inr g
   ·exact .inl g
end
end Go.Proofs.YtbkfhacmekbniaaGreatDoor
