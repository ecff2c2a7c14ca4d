/- Plain: the steps inside a round of table.reduce. (KEEPALL) Walks: fraction.lowest at a negative denominator, fraction.Div by a negative fraction. (Printed by mkdivn.py.) Walks: table.one, table.zero; how long a quotient gets; dividing fractions by any other than zero. (KEEPALL) Regions that draw their order: a load is taken first although the last operations of the region store into its cell. (XHeldZ's laws once more, the depth 12 in the place of 4; KEEPALL) -/
import Derived.Test.YtkdgmahilfnnmaaGreatDoorPa09
import Derived.Test.YtkdgmahilfnnmaaGreatDoorPa08
import Derived.Test.YtkdgmahilfnnmaaGreatDoorPa13
import Derived.Test.YtkdgmahilfnnmaaGreatDoorPa18
import Derived.OrdersHeld
import Derived.StillTail
import Derived.Deep.RegionHeld3
import Derived.Test.YtkdgmahilfnnmaaGreatDoorPa00
set_option maxRecDepth 100000
set_option maxHeartbeats 4000000
namespace Go.Proofs.YtkdgmahilfnnmaaGreatDoor
section
theorem zl0 {c:Nat}{m:List (List Rat)}{a:Nat}(h:m.length≤a):zfG c (m.drop a)=0:=by rw [List.drop_of_length_le h];rfl
theorem zl1 {c:Nat}{m:List (List Rat)}{a:Nat}{r:List Rat}(h:m[a]?=some r):zfG c (m.drop a)=if r.getD c 0=0 then zfG c (m.drop (a+1))+1 else 0:=by
 obtain ⟨h1,h2⟩:=List.getElem?_eq_some_iff.1 h;rw [List.drop_eq_getElem_cons h1,h2];rfl
def zl2 (m:List (List Rat))(n:Nat):Prop:=∀ r∈m,r.length=n
theorem zl2.set {m:List (List Rat)}{n i:Nat}{r:List Rat}(h:zl2 m n)(hr:r.length=n):zl2 (m.set i r) n:=fun x hx=>by
 rcases List.mem_or_eq_of_mem_set hx with g | g
 ·exact h x g
 ·rw [g];exact hr
theorem zl2.swp {m:List (List Rat)}{n i j:Nat}(h:zl2 m n):zl2 (swp m i j) n:=by
 unfold Go.Proofs.YtkdgmahilfnnmaaGreatDoor.swp;split
 ·rename_i x y hx hy;exact (h.set (h y (List.mem_of_getElem? hy))).set (h x (List.mem_of_getElem? hx))
 ·exact h
/-! The pivot's row is divided. -/
def zl3 (f:Rat)(r:List Rat)(j:Nat):List Rat:=r.mapIdx fun i a=>if i<j then a / f else a
theorem zl4 (f:Rat)(r:List Rat):zl3 f r 0=r:=by
 unfold zl3;apply List.ext_getElem?;intro i;rw [List.getElem?_mapIdx]
 cases r[i]? <;> simp
theorem zl5 (f:Rat)(r:List Rat)(j:Nat):(zl3 f r j).length=r.length:=by unfold zl3;simp
theorem zl6 {f:Rat}{r:List Rat}{j:Nat}{q:Rat}(h:r[j]?=some q):(zl3 f r j)[j]?=some q:=by
 unfold zl3;rw [List.getElem?_mapIdx,h];simp
theorem zl7 {f:Rat}{r:List Rat}{j:Nat}{q:Rat}(h:r[j]?=some q):(zl3 f r j).set j (q / f)=zl3 f r (j+1):=by
 have hj:=(List.getElem?_eq_some_iff.1 h).1;apply List.ext_getElem?;intro i;rw [List.getElem?_set,zl5];unfold zl3;rw [List.getElem?_mapIdx,List.getElem?_mapIdx];by_cases e:j=i
 ·subst e;rw [if_pos rfl,if_pos hj,h];simp
 ·rw [if_neg e]
  cases r[i]? with
  | none=>rfl
  | some a=>simp only [Option.map_some];congr 1;by_cases g:i<j <;> simp [g] <;> omega
theorem zl8 (f:Rat)(r:List Rat):zl3 f r r.length=zfH f r:=by
 unfold zl3 zfH;apply List.ext_getElem?;intro i;rw [List.getElem?_mapIdx,List.getElem?_map]
 cases h:r[i]? with
 | none=>rfl
 | some a =>
  have hi:=(List.getElem?_eq_some_iff.1 h).1
  simp only [Option.map_some,if_pos hi]
/-! A row less a multiple of the pivot's. -/
def zl9 (r t:List Rat)(f:Rat)(j:Nat):List Rat:=r.mapIdx fun i a=>if i<j then a - f * t.getD i 0 else a
theorem zlA (r t:List Rat)(f:Rat):zl9 r t f 0=r:=by
 unfold zl9;apply List.ext_getElem?;intro i;rw [List.getElem?_mapIdx]
 cases r[i]? <;> simp
theorem zlB (r t:List Rat)(f:Rat)(j:Nat):(zl9 r t f j).length=r.length:=by unfold zl9;simp
theorem zlC {r t:List Rat}{f:Rat}{j:Nat}{q:Rat}(h:r[j]?=some q):(zl9 r t f j)[j]?=some q:=by
 unfold zl9;rw [List.getElem?_mapIdx,h];simp
theorem zlD {r t:List Rat}{f:Rat}{j:Nat}{q s:Rat}(h:r[j]?=some q)(hs:t[j]?=some s):(zl9 r t f j).set j (q - f * s)=zl9 r t f (j+1):=by
 have hj:=(List.getElem?_eq_some_iff.1 h).1;apply List.ext_getElem?;intro i;rw [List.getElem?_set,zlB];unfold zl9;rw [List.getElem?_mapIdx,List.getElem?_mapIdx];by_cases e:j=i
 ·subst e;rw [if_pos rfl,if_pos hj,h,List.getD_eq_getElem?_getD,hs];simp
 ·rw [if_neg e]
  cases r[i]? with
  | none=>rfl
  | some a=>simp only [Option.map_some];congr 1;by_cases g:i<j <;> simp [g] <;> omega
theorem zlE {r t:List Rat}(f:Rat)(h:r.length=t.length):zl9 r t f r.length=zfI r t f:=by
 unfold zl9 zfI;apply List.ext_getElem?;intro i;rw [List.getElem?_mapIdx,List.getElem?_zipWith];by_cases hi:i<r.length
 ·rw [List.getElem?_eq_getElem hi,List.getElem?_eq_getElem (by omega)];simp only [Option.map_some,if_pos hi];rw [List.getD_eq_getElem?_getD,List.getElem?_eq_getElem (by omega)];rfl
 ·rw [List.getElem?_eq_none (by omega)];simp
theorem zlF {r t:List Rat}(h:r.length=t.length):zfI r t 0=r:=by
 unfold zfI;apply List.ext_getElem?;intro i;rw [List.getElem?_zipWith];by_cases hi:i<r.length
 ·rw [List.getElem?_eq_getElem hi,List.getElem?_eq_getElem (by omega)];simp [Rat.zero_mul,Rat.sub_eq_add_neg,Rat.add_zero]
 ·rw [List.getElem?_eq_none (by omega)]
/-! The other rows, one after another. -/
theorem zlG (m:List (List Rat))(k c:Nat):zfJ m k c 0=m:=by
 unfold zfJ;apply List.ext_getElem?;intro i;rw [List.getElem?_mapIdx]
 cases m[i]? <;> simp
theorem zlH (m:List (List Rat))(k c n:Nat):(zfJ m k c n).length=m.length:=by unfold zfJ;simp
theorem zlI {m:List (List Rat)}{k c n:Nat}{r:List Rat}(h:m[n]?=some r):(zfJ m k c n)[n]?=some r:=by
 unfold zfJ;rw [List.getElem?_mapIdx,h];simp
theorem zlJ {m:List (List Rat)}{k c n:Nat}{r:List Rat}(h:m[k]?=some r):(zfJ m k c n)[k]?=some r:=by
 unfold zfJ;rw [List.getElem?_mapIdx,h];simp
theorem zlK {m:List (List Rat)}{k c n:Nat}(h:n=k):zfJ m k c (n+1)=zfJ m k c n:=by
 subst h;unfold zfJ;apply List.ext_getElem?;intro i;rw [List.getElem?_mapIdx,List.getElem?_mapIdx]
 cases m[i]? with
 | none=>rfl
 | some r =>
  simp only [Option.map_some]
  congr 1
  by_cases g:i=n
  ·simp [g]
  ·by_cases g2:i<n
   ·rw [if_pos ⟨by omega,g⟩,if_pos ⟨g2,g⟩]
   ·rw [if_neg (by omega),if_neg (by omega)]
theorem zlL {m:List (List Rat)}{k c n:Nat}{r:List Rat}(h:m[n]?=some r)(hk:n ≠ k):(zfJ m k c n).set n (zfI r (m.getD k []) (r.getD c 0))=zfJ m k c (n+1):=by
 have hn:=(List.getElem?_eq_some_iff.1 h).1;apply List.ext_getElem?;intro i;rw [List.getElem?_set,zlH];unfold zfJ;rw [List.getElem?_mapIdx,List.getElem?_mapIdx];by_cases e:n=i
 ·subst e;rw [if_pos rfl,if_pos hn,h];simp [hk]
 ·rw [if_neg e]
  cases m[i]? with
  | none=>rfl
  | some r =>
   simp only [Option.map_some]
   congr 1
   by_cases g:i<n∧i ≠ k
   ·rw [if_pos g,if_pos ⟨by omega,g.2⟩]
   ·rw [if_neg g,if_neg (by omega)]
theorem zlM {m:List (List Rat)}{k c n:Nat}{r t:List Rat}(h:m[n]?=some r)(ht:m[k]?=some t)(hl:r.length=t.length)(h0:r.getD c 0=0):zfJ m k c (n+1)=zfJ m k c n:=by
 by_cases hk:n=k
 ·exact zlK hk
 ·rw [← zlL h hk,List.getD_eq_getElem?_getD,ht,h0];simp only [Option.getD_some];rw [zlF hl];obtain ⟨h1,h2⟩:=List.getElem?_eq_some_iff.1 (zlI (k:=k) (c:=c) h);rw [← h2];exact List.set_getElem_self h1
end
section
open Go.RowKit Go.Lib
theorem zlN (n0 n:Int)(d:Nat)(hn0:n0=-n)(w:World)(he:Env w)(hn:Fit n)(hd:Fit (d:Int))(h0:0<d) :
  Calls Tryz.prog 168 #[.string (I n0),.string (I (-(d:Int)))] w fun e w'=>e=.returned (Rv (mkRat n d))∧Ext w w':=by
 have hg:=fun W (h:Ext w W)=>zeI n (d:Int) W (he.ext h) hn hd;have hs:=fun W=>zcl (-(d:Int)) W hd.negI;have hn1:=fun W=>zea n0 W (by rw [hn0];exact hn.negI);have hn2:=fun W=>zea (-(d:Int)) W hd.negI;rw [hn0,Int.neg_neg] at hn1;rw [Int.neg_neg] at hn2;rw [← hn0] at hn1;generalize I (-(d:Int))=sd0 at *;generalize I n0=sn0 at *;clear hn0;rw [Int.natAbs_natCast] at hg;rw [zb5 (by omega)] at hs;have hgp:0<Nat.gcd n.natAbs d:=Nat.gcd_pos_of_pos_right _ h0;have hgd:Nat.gcd n.natAbs d≤d:=Nat.gcd_le_right _ h0;have e1:(mkRat n d).num=n / ((Nat.gcd n.natAbs d:Nat):Int):=by rw [Rat.num_mkRat,if_neg (by omega),Nat.gcd_comm]
 have e2:(((mkRat n d).den:Nat):Int)=(d:Int) / ((Nat.gcd n.natAbs d:Nat):Int):=by rw [Rat.den_mkRat,if_neg (by omega),Nat.gcd_comm,Int.natCast_ediv]
 unfold Rv;rw [e1,e2];generalize Nat.gcd n.natAbs d=g at *;have hfg:Fit (g:Int):=Nat.le_trans (Dec.nDigits_mono (by omega)) hd;have hq1:=fun W (h:Ext w W)=>zeC n (g:Int) W (he.ext h) (by omega) hn hfg;have hq2:=fun W (h:Ext w W)=>zeC (d:Int) (g:Int) W (he.ext h) (by omega) hd hfg;have f1:fdv n (g:Int)=n / (g:Int):=by unfold fdv;rw [if_pos (by omega)]
 have f2:fdv (d:Int) (g:Int)=(d:Int) / (g:Int):=by unfold fdv;rw [if_pos (by omega)]
 rw [f1] at hq1;rw [f2] at hq2;have b2:=zeK.new w (.string ⟨#[]⟩) (.string ⟨#[]⟩);have hE:Ext w (w.alloc (.cells #[.string ⟨#[]⟩,.string ⟨#[]⟩] 109)):=(Ext.refl _).alloc _;have hone:=zeU (g:Int);have hdiv1:¬ g=1∨(n / (g:Int)=n∧(d:Int) / (g:Int)=d):=by
  by_cases e:g=1
  ·right;subst e;simp
  ·exact .inl e
 generalize n / (g:Int)=x at *;generalize (d:Int) / (g:Int)=y at *;generalize fmd n (g:Int)=r1 at *;generalize fmd (d:Int) (g:Int)=r2 at *;clear f1 f2 e1 e2 he hn hd hfg hgd hgp;have Hg:=hid hg;have Hs:=hid hs;have Hq1:=hid hq1;have Hq2:=hid hq2;have B2:=hid b2;have HE:=hid hE;have Hn1:=hid hn1;have Hn2:=hid hn2;clear hg hs hq1 hq2 b2 hE hn1 hn2;by_cases hg1:g=1
 ·rcases hdiv1 with h | ⟨rfl,rfl⟩
  ·exact absurd hg1 h
  have ht:((I (g:Int)).toList == [49])=true:=by rw [hone,hg1];rfl
  have ht2:((I (g:Int)).toList != [49])=false:=by rw [bne,ht];rfl
  clear hone hg1;go_enter Tryz.func168,Tryz.ntmps168
  go_wp2_with fail
  refine (Hs.out _).mono ?_;rintro e W1 ⟨rfl,rfl⟩;go_wp2_with fail
  refine (Hn1.out _).mono ?_;rintro e wa ⟨rfl,hxa⟩;have Hxa:=hid hxa;clear hxa;go_wp2_with fail
  refine (Hn2.out _).mono ?_;rintro e wb ⟨rfl,hxb⟩;have Hxb:=hid (Hxa.out.trans hxb);clear hxb;go_wp2_with fail
  refine (Hg.out wb (HE.out.trans Hxb.out)).mono ?_;rintro e w2 ⟨rfl,hx2⟩;have Hx2:=hid (Hxb.out.trans hx2);clear hx2;have hk:Res w2 w.heap.size:=⟨_,_,B2.out.ext Hx2.out⟩;have hc0:=hk.c0;have hc1:=hk.c1;have hz0:=hk.fz 0;have hz1:=hk.fz 1;obtain ⟨hb,hfx⟩:=Kp0.fin ⟨HE.out.trans Hx2.out,hk⟩ (Nat.le_refl _) (.string (I x)) (.string (I (d:Int)));have Hb:=hid hb;have Hfx:=hid hfx;have Hk:=hid hk;clear hb hfx hk;go_wp2_with fail
  have hd0:=Hb.out.c0;have hd1:=Hb.out.c1;exact bodyPost_ret (v:=.agg #[.string (I x),.string (I (d:Int))]) (by simp [results,Tryz.results168,go_sem,hd0,hd1]) rfl ⟨rfl,Hfx.out⟩
 ·have ht:((I (g:Int)).toList == [49])=false:=by rw [hone];exact decide_eq_false (by omega)
  have ht2:((I (g:Int)).toList != [49])=true:=by rw [bne,ht];rfl
  clear hone hg1 hdiv1;go_enter Tryz.func168,Tryz.ntmps168
  go_wp2_with fail
  refine (Hs.out _).mono ?_;rintro e W1 ⟨rfl,rfl⟩;go_wp2_with fail
  refine (Hn1.out _).mono ?_;rintro e wa ⟨rfl,hxa⟩;have Hxa:=hid hxa;clear hxa;go_wp2_with fail
  refine (Hn2.out _).mono ?_;rintro e wb ⟨rfl,hxb⟩;have Hxb:=hid (Hxa.out.trans hxb);clear hxb;go_wp2_with fail
  refine (Hg.out wb (HE.out.trans Hxb.out)).mono ?_;rintro e w2 ⟨rfl,hx2⟩;have Hx2:=hid (Hxb.out.trans hx2);clear hx2;go_wp2_with fail
  refine (Hq1.out w2 (HE.out.trans Hx2.out)).mono ?_;rintro e w3 ⟨rfl,hx3⟩;have Hx3:=hid (Hx2.out.trans hx3);clear hx3;go_wp2_with fail
  refine (Hq2.out w3 (HE.out.trans Hx3.out)).mono ?_;rintro e w4 ⟨rfl,hx4⟩;have Hx4:=hid (Hx3.out.trans hx4);clear hx4;have hk:Res w4 w.heap.size:=⟨_,_,B2.out.ext Hx4.out⟩;have hc0:=hk.c0;have hc1:=hk.c1;have hz0:=hk.fz 0;have hz1:=hk.fz 1;obtain ⟨hb,hfx⟩:=Kp0.fin ⟨HE.out.trans Hx4.out,hk⟩ (Nat.le_refl _) (.string (I x)) (.string (I y));have Hb:=hid hb;have Hfx:=hid hfx;have Hk:=hid hk;clear hb hfx hk;go_wp2_with fail
  have hd0:=Hb.out.c0;have hd1:=Hb.out.c1;exact bodyPost_ret (v:=.agg #[.string (I x),.string (I y)]) (by simp [results,Tryz.results168,go_sem,hd0,hd1]) rfl ⟨rfl,Hfx.out⟩
theorem zlO (a b:Rat)(w:World)(he:Env w)(ha:Ft 100000 a)(hb:Ft 100000 b)(hp:b.num<0) :
  Calls Tryz.prog 133 #[Rv a,Rv b] w fun e w'=>e=.returned (.tuple #[Rv (a / b),.int .i64 0])∧Ext w w':=by
 obtain ⟨n,hn⟩:∃ n:Nat,b.num=-(n:Int):=⟨(-b.num).toNat,by omega⟩;have hn0:0<n:=by omega
 have fa1:=ha.num (by omega);have fa2:=ha.den (by omega);have fb1:=hb.num (by omega);have fb2:=hb.den (by omega);have hda:nDigits ((a.den:Int)).natAbs≤100000:=by rw [Int.natAbs_natCast];exact ha.2
 have hdb:nDigits ((b.den:Int)).natAbs≤100000:=by rw [Int.natAbs_natCast];exact hb.2
 have g1:nDigits (a.num * (b.den:Int)).natAbs≤200000:=zeW ha.1 hdb;have g3:nDigits ((a.den:Int) * b.num).natAbs≤200000:=zeW hda hb.1;have hk0:=zeN w (.string (I a.num)) (.string (I (a.den:Int))) (.string (I b.num)) (.string (I (b.den:Int)));have hsg:=fun W=>zfe b W fb1;have hc1:zb4 b.num 0=-1:=by unfold zb4;(repeat' split) <;> omega
 rw [hc1] at hsg;have hm1:=fun W (h:Ext w W)=>zcu a.num (b.den:Int) W (he.ext h) fa1 fb2;have hm3:=fun W (h:Ext w W)=>zcu (a.den:Int) b.num W (he.ext h) fa2 fb1;have hlo:=fun W (h:Ext w W)=>zlN (a.num * (b.den:Int)) (-(a.num * (b.den:Int))) (a.den * n) (by rw [Int.neg_neg]) W (he.ext h) (by unfold Fit;rw [Int.natAbs_neg];omega) (by
  have e:((a.den:Int) * b.num).natAbs=((a.den * n:Nat):Int).natAbs:=by rw [hn,Int.mul_neg,Int.natAbs_neg,Int.natCast_mul]
  unfold Fit;rw [← e];omega) (Nat.mul_pos a.den_pos hn0)
 have hdv:=ziv a (-b) n (by show -b.num=_;omega) hn0;rw [show (-b).den=b.den from rfl] at hdv;have hmk:mkRat (-(a.num * (b.den:Int))) (a.den * n)=a / b:=by
  rw [← Rat.neg_mkRat,hdv];grind
 rw [hmk,Int.natCast_mul,← Int.mul_neg,← hn] at hlo;unfold Rv at hsg hlo ⊢;generalize I (a.num * (b.den:Int))=sm at *;generalize I ((a.den:Int) * b.num)=so at *;generalize I (a / b).num=st at *;generalize I (((a / b).den:Nat):Int)=su at *;generalize I a.num=sa at *;generalize I b.num=sb at *;generalize I (a.den:Int)=sc at *;generalize I (b.den:Int)=sd at *;clear g1 g3 fa1 fa2 fb1 fb2 hda hdb he ha hb hn hn0 hp hc1;have Hk0:=hid hk0;have Hsg:=hid hsg;have Hm1:=hid hm1;have Hm3:=hid hm3;have Hlo:=hid hlo;clear hk0 hsg hm1 hm3 hlo;go_enter Tryz.func133,Tryz.ntmps133
 go_wp2_with fail
 generalize hV:((w.alloc (.cells #[.string sa,.string sc] 109)).alloc (.cells #[.string sb,.string sd] 109)).alloc (.cells #[.string ⟨#[]⟩,.string ⟨#[]⟩] 109)=V at *;refine (Hsg.out _).mono ?_;rintro e W2 ⟨rfl,hxa⟩;have hK:=Hk0.out.ext hxa;have HK:=hid hK;clear hK;clear hxa;go_wp2_with fail
 go_region_held3 (fun w'=>Kp2 w w' w.heap.size (.string sa) (.string sc) (w.heap.size+1) (.string sb) (.string sd) (w.heap.size+1+1)∧w'.cell? ⟨w.heap.size,0,none⟩=some (.string sa)∧w'.cell? ⟨w.heap.size,1,none⟩=some (.string sc)∧w'.cell? ⟨w.heap.size+1,0,none⟩=some (.string sb)∧w'.cell? ⟨w.heap.size+1,1,none⟩=some (.string sd)∧w'.cell? ⟨w.heap.size+1+1,0,none⟩=some (zeL w' (w.heap.size+1+1) 0)∧w'.cell? ⟨w.heap.size+1+1,1,none⟩=some (zeL w' (w.heap.size+1+1) 1)∧w'.frozen? ⟨w.heap.size+1+1,0,none⟩=false∧w'.frozen? ⟨w.heap.size+1+1,1,none⟩=false)
  (first | exact (Kp2.ext HK.out ((Ext.refl _).drew)).all | exact (Kp2.ext (And.left (by assumption)) hxa).all | exact (Kp2.put (And.left (by assumption)) (by omega) (by omega) (by omega) _ _).all)
  (first
   | (go_at_call_of 147 (Value.string sa);refine (Hm1.out _ (And.left (And.left (by assumption)))).mono ?_;rintro e9 V4 ⟨rfl,hxa⟩;have hkk:=Kp2.ext (And.left (by assumption)) hxa)
   | (go_at_call_of 147 (Value.string sc);refine (Hm3.out _ (And.left (And.left (by assumption)))).mono ?_;rintro e9 V4 ⟨rfl,hxa⟩;have hkk:=Kp2.ext (And.left (by assumption)) hxa)
   | (go_at_call 168;refine (Hlo.out _ (And.left (And.left (by assumption)))).mono ?_;rintro e9 V4 ⟨rfl,hxa⟩;have hkk:=Kp2.ext (And.left (by assumption)) hxa))
 all_goals
  obtain ⟨hb,hfx⟩:=(hkk).fin (by omega) (.string st) (.string su);have Hfx:=hid hfx;clear hfx hxa hkk;generalize (V4.setCell ⟨w.heap.size+1+1,0,none⟩ (.string st)).setCell ⟨w.heap.size+1+1,1,none⟩ (.string su)=W5 at *;have hd0:=hb.c0;have hd1:=hb.c1;go_wp2_with fail
  exact bodyPost_ret (v:=.tuple #[.agg #[.string st,.string su],.int .i64 0]) (by simp [results,Tryz.results133,go_sem,hd0,hd1]) rfl ⟨rfl,Hfx.out⟩
end
section
open Go.RowKit Go.Lib Go.Shelf
theorem zlP (w:World):Calls Tryz.prog 128 #[] w fun e w'=>e=.returned (Rv 1)∧Ext w w':=by
 have hb:=zeK.new w (.string ⟨#[]⟩) (.string ⟨#[]⟩);have hc0:=hb.c0;have hc1:=hb.c1;have hf0:=hb.fz 0;have hf1:=hb.fz 1;have hp:=zeK.new w (.string ⟨#[49]⟩) (.string ⟨#[49]⟩);have hd0:=hp.c0;have hd1:=hp.c1;clear hb hp;go_enter Tryz.func128,Tryz.ntmps128
 go_wp2_with fail
 exact bodyPost_ret (v:=.agg #[.string ⟨#[49]⟩,.string ⟨#[49]⟩]) (by simp [results,Tryz.results128,go_sem,hd0,hd1]) rfl ⟨by rw [zkC];rfl,(Ext.refl w).alloc _⟩
theorem zlQ (w:World):Calls Tryz.prog 130 #[] w fun e w'=>e=.returned (Rv 0)∧Ext w w':=by
 have hb:=zeK.new w (.string ⟨#[]⟩) (.string ⟨#[]⟩);have hc0:=hb.c0;have hc1:=hb.c1;have hf0:=hb.fz 0;have hf1:=hb.fz 1;have hp:=zeK.new w (.string ⟨#[48]⟩) (.string ⟨#[49]⟩);have hd0:=hp.c0;have hd1:=hp.c1;clear hb hp;go_enter Tryz.func130,Tryz.ntmps130
 go_wp2_with fail
 exact bodyPost_ret (v:=.agg #[.string ⟨#[48]⟩,.string ⟨#[49]⟩]) (by simp [results,Tryz.results130,go_sem,hd0,hd1]) rfl ⟨by rw [zkC,zkD];rfl,(Ext.refl w).alloc _⟩
theorem zlR {k l:Nat}{a b:Rat}(ha:Ft k a)(hb:Ft l b)(h0:0<b.num):Ft (k+l) (a / b):=by
 obtain ⟨n,hn⟩:∃ n:Nat,b.num=(n:Int):=⟨b.num.toNat,by omega⟩;have hbn:=hb.1;rw [hn,Int.natAbs_natCast] at hbn;rw [← ziv a b n hn (by omega)];unfold Ft;refine zf6 (Nat.mul_pos a.den_pos (by omega)) ?_ ?_
 ·rw [Int.natAbs_mul,Int.natAbs_natCast];exact Nat.le_trans (zbW _ _) (Nat.add_le_add ha.1 hb.2)
 ·exact Nat.le_trans (zbW _ _) (Nat.add_le_add ha.2 hbn)
theorem zlS {k l:Nat}{a b:Rat}(ha:Ft k a)(hb:Ft l b)(h0:b ≠ 0):Ft (k+l) (a / b):=by
 have hn:b.num ≠ 0:=fun h=>h0 (Rat.num_eq_zero.1 h);by_cases hp:0<b.num
 ·exact zlR ha hb hp
 ·have:=zlR ha.neg hb.neg (by rw [Rat.neg_num];omega);have e:-a / -b=a / b:=by grind
  rwa [e] at this
theorem zlT (a b:Rat)(w:World)(he:Env w)(ha:Ft 100000 a)(hb:Ft 100000 b)(h0:b ≠ 0) :
  Calls Tryz.prog 133 #[Rv a,Rv b] w fun e w'=>e=.returned (.tuple #[Rv (a / b),.int .i64 0])∧Ext w w':=by
 have hn:b.num ≠ 0:=fun h=>h0 (Rat.num_eq_zero.1 h);by_cases hp:0<b.num
 ·exact ziw a b w he ha hb hp
 ·exact zlO a b w he ha hb (by omega)
theorem zlU {q:Rat}(h:okQ q=true):Ft 40 q:=by
 unfold okQ at h;rw [Bool.and_eq_true,decide_eq_true_eq,decide_eq_true_eq] at h;exact ⟨Dec.nDigits_le (by decide) h.1,Dec.nDigits_le (by decide) h.2⟩
theorem zlV {m:List (List Rat)}(h:okM m=true){r:List Rat}(hr:r∈m){q:Rat}(hq:q∈r):Ft 40 q:=by
 unfold okM at h;rw [List.all_eq_true] at h;have:=h r hr;rw [List.all_eq_true] at this;exact zlU (this q hq)
end
section
section
variable {P : Program} {ops : Array Oper} {Q : Exit → Act → World → Prop} {md : Region.Mode} {S : World → Prop} {z : Nat}
def zlW (P:Program)(md:Region.Mode)(ops:Array Oper)(Q:Exit→Act→World→Prop)(S:World→Prop)(z:Nat):Nat→Array Bool→Act→World→Prop
 | 0,ls,a,w=>Region.ready md ops ls=[]∧Q .normal a w
 | f+1,ls,a,w=>(Region.ready md ops ls=[]→Q .normal a w)∧∀ i∈Region.ready md ops ls,wpOp P ops Q i (fun a' w'=>(i<z→S w')∧zlW P md ops Q S z f (ls.setIfInBounds i true) a' w') a w
theorem zlW.any : ∀ {f:Nat}{ls:Array Bool}{a:Act}{w:World},zlW P md ops Q S z f ls a w→wpAny P md ops Q f ls a w
 | 0,_,_,_,h=>h
 | _+1,_,_,_,h=>⟨h.1,fun i hi=>wpOp_mono (fun _ _ g=>zlW.any g.2) (h.2 i hi)⟩
def wBV (md:Region.Mode)(ops:Array Oper):Nat→Nat→Nat→Bool
 | 0,j,i=>Region.waitsFor md ops j i
 | f+1,j,i=>Region.waitsFor md ops j i || (List.range ops.size).any fun k=>Region.waitsFor md ops j k && wBV md ops f k i
def zBV (md:Region.Mode)(ops:Array Oper)(z i:Nat):Bool:=(List.range ops.size).all fun j=>decide (j<z) || wBV md ops 12 j i
def zlX (md:Region.Mode)(ops:Array Oper)(ls:Array Bool):Prop:=∀ j oj,ops[j]?=some oj→ls.getD j false=true→∀ e∈oj.after,Region.binds md e=true→ls.getD e.on false=true
def zlY (md:Region.Mode)(ops:Array Oper)(ls:Array Bool):Bool:=(List.range ops.size).all fun j=>match ops[j]? with | some oj=>!ls.getD j false || oj.after.all fun e=>!Region.binds md e || ls.getD e.on false | none=>true
theorem zlZ {ls:Array Bool}(h:zlY md ops ls=true):zlX md ops ls:=fun j oj hj hl e he hb=>by
 have h1:=List.all_eq_true.1 h j (List.mem_range.2 (Array.getElem?_eq_some_iff.1 hj).1);rw [hj] at h1;simp only [hl,Bool.not_true,Bool.false_or] at h1;have h2:=Array.all_eq_true'.1 h1 e he;simpa [hb] using h2
theorem zma {i:Nat}{ls:Array Bool}(h:zlX md ops ls)(hi:i∈Region.ready md ops ls):zlX md ops (ls.setIfInBounds i true):=fun j oj hj hl e he hb=>by
 obtain ⟨_,oi,hoi,hall⟩:=mem_ready.1 hi;by_cases q:i=j
 ·subst q;obtain rfl:oj=oi:=Option.some.inj (hj.symm.trans hoi);exact getD_set_true (hall e he hb)
 ·rw [getD_set_ne false q] at hl;exact getD_set_true (h j oj hj hl e he hb)
theorem zmb {i:Nat}{ls:Array Bool}(hc:zlX md ops ls)(hun:ls.getD i true=false):∀ (f j:Nat)(oj:Oper),wBV md ops f j i=true→ops[j]?=some oj→(∀ e∈oj.after,Region.binds md e=true→ls.getD e.on false=true)→False
 | f,j,oj,h,hj,hall=>by
  have one:∀ k,Region.waitsFor md ops j k=true→ls.getD k false=true:=fun k hk=>by
   obtain ⟨o,ho,e,he,hb,hon⟩:=Region.waitsFor_spec hk;obtain rfl:o=oj:=Option.some.inj (ho.symm.trans hj);rw [← hon];exact hall e he hb
  have dir:Region.waitsFor md ops j i=true→False:=fun hk=>by
   have:=one i hk;rw [getD_both hun] at this
   cases this
  match f,h with
  | 0,h=>exact dir h
  | f+1,h =>
   unfold wBV at h
   rw [Bool.or_eq_true] at h
   rcases h with h | h
   ·exact dir h
   ·obtain ⟨k,hk,h2⟩:=List.any_eq_true.1 h
    rw [Bool.and_eq_true] at h2
    obtain ⟨ok,hok⟩:∃ ok,ops[k]?=some ok:=⟨_,Array.getElem?_eq_getElem (List.mem_range.1 hk)⟩
    exact zmb hc hun f k ok h2.2 hok (hc k ok hok (one k h2.1))
theorem zmc {i j:Nat}{oj:Oper}{ls:Array Bool}(hz:zBV md ops z i=true)(hc:zlX md ops ls)(hj:ops[j]?=some oj)(hall:∀ e∈oj.after,Region.binds md e=true→ls.getD e.on false=true)(hun:ls.getD i true=false):j<z:=by
 have h1:=List.all_eq_true.1 hz j (List.mem_range.2 (Array.getElem?_eq_some_iff.1 hj).1);rw [Bool.or_eq_true,decide_eq_true_eq] at h1;rcases h1 with h1 | h1
 ·exact h1
 ·exact (zmb hc hun 12 j oj h1 hj hall).elim
theorem zmd {i:Nat}{oi:Oper}{v:Value}(hi:ops[i]?=some oi)(hs:Region.noSelect ops=true)(hz:zBV md ops z i=true)(hQ:∀ c a w,Q (.panic c) (a.put oi.dst v) w→Q (.panic c) a w) :
  ∀ (f:Nat)(ls:Array Bool)(a:Act)(w:World),(∀ j oj,ops[j]?=some oj→j ≠ i→ls.getD j true=false→(∀ e∈oj.after,Region.binds md e=true→e.on ≠ i)→oi.apart ops oj=true)→zlX md ops ls →
   i∈Region.ready md ops ls→YieldsIf P ops S oi v a→S w→zlW P md ops Q S z f (ls.setIfInBounds i true) (a.put oi.dst v) w→zlW P md ops Q S z (f+1) ls a w:=by
 have hsel:=Region.noSelect_spec hs;intro f;induction f with
 | zero =>
  intro ls a w _ _ hr hy hS h
  refine ⟨fun e=>absurd hr (by rw [e];exact fun k=>by cases k),fun j hj=>?_⟩
  by_cases e:j=i
  ·rw [e]
   exact hy.wpOp hi hS ⟨fun _=>hS,h⟩
  ·have g:=ready_mono hj e
   rw [h.1] at g
   cases g
 | succ f ih =>
  intro ls a w hap hc hr hy hS h
  refine ⟨fun e=>absurd hr (by rw [e];exact fun k=>by cases k),fun j hj=>?_⟩
  by_cases e:j=i
  ·rw [e]
   exact hy.wpOp hi hS ⟨fun _=>hS,h⟩
  ·obtain ⟨hju,oj,hoj,hall⟩:=mem_ready.1 hj
   have hiu:=(mem_ready.1 hr).1
   have hjz:=zmc hz hc hoj hall hiu
   have hno:∀ e∈oj.after,Region.binds md e=true→e.on ≠ i:=fun e he hb k=>by
    have:=hall e he hb;rw [k,getD_both hiu] at this
    cases this
   have h2:=wpOp_putIf hoj (hap j oj hoj e hju hno) (fun cs b=>hsel i oi cs b hi) (fun cs b=>hsel j oj cs b hoj) hQ hy (h.2 j (ready_mono hj e))
   refine wpOp_mono (fun a' w' g=>⟨fun _=>g.2.1 hjz,ih (ls.setIfInBounds j true) a' w' (fun k ok hk hki hku hkn=>?_) (zma hc hj) (ready_mono hr (Ne.symm e)) g.1 (g.2.1 hjz) ?_⟩) h2
   ·refine hap k ok hk hki ?_ hkn
    by_cases q:j=k
    ·rw [← q];exact hju
    ·rw [getD_set_ne true q] at hku;exact hku
   ·rw [Array.setIfInBounds_comm _ _ e]
    exact g.2.2
theorem zme {i:Nat}{oi:Oper}{v:Value}{f:Nat}{ls:Array Bool}{a:Act}{w:World}(hi:ops[i]?=some oi)(hs:Region.noSelect ops=true)(hf:Region.free md ops ls i=true)(hr:(Region.ready md ops ls).contains i=true)(hz:(zBV md ops z i && zlY md ops ls)=true)
  (hQ:∀ c a w,Q (.panic c) (a.put oi.dst v) w→Q (.panic c) a w) (hy:YieldsIf P ops S oi v a) (hS:S w) (h:zlW P md ops Q S z f (ls.setIfInBounds i true) (a.put oi.dst v) w):zlW P md ops Q S z (f+1) ls a w :=
 zmd hi hs (Bool.and_eq_true _ _ ▸ hz).1 hQ f ls a w (Region.free_spec hi hf) (zlZ (Bool.and_eq_true _ _ ▸ hz).2) (by simpa using hr) hy hS h
theorem zmf {i:Nat}{o:Oper}{f:Nat}{ls:Array Bool}{a:Act}{w:World}(hr:Region.ready md ops ls=[i])(ho:ops[i]?=some o)
  (h:∀ K:Act→World→Prop,Shut (∀ a w,S w→(S w→zlW P md ops Q S z f (ls.setIfInBounds i true) a w)→K a w)→if Region.wanted o (yielded ops a.tmps)=true then Oper.wp P o a w K Q else K (a.put o.dst undef) w):zlW P md ops Q S z (f+1) ls a w:=by
 refine ⟨fun e=>(by rw [hr] at e;cases e),fun j hj=>?_⟩;rw [hr,List.mem_singleton] at hj;subst hj;exact wpOp_step ho fun K hK=>h K fun a w hS g=>hK a w ⟨fun _=>hS,g hS⟩
theorem zmg {i:Nat}{o:Oper}{f:Nat}{ls:Array Bool}{a:Act}{w:World}(hr:Region.ready md ops ls=[i])(hz:z≤i)(ho:ops[i]?=some o)
  (h:∀ K:Act→World→Prop,Shut (∀ a w,zlW P md ops Q S z f (ls.setIfInBounds i true) a w→K a w)→if Region.wanted o (yielded ops a.tmps)=true then Oper.wp P o a w K Q else K (a.put o.dst undef) w):zlW P md ops Q S z (f+1) ls a w:=by
 refine ⟨fun e=>(by rw [hr] at e;cases e),fun j hj=>?_⟩;rw [hr,List.mem_singleton] at hj;subst hj;exact wpOp_step ho fun K hK=>h K fun a w g=>hK a w ⟨fun k=>absurd k (by omega),g⟩
theorem zmh {f:Nat}{ls:Array Bool}{a:Act}{w:World}(hr:Region.ready md ops ls=[])(h:Q .normal a w):zlW P md ops Q S z f ls a w:=by
 cases f with
 | zero=>exact ⟨hr,h⟩
 | succ f=>exact ⟨fun _=>h,fun i hi=>by rw [hr] at hi;cases hi⟩
theorem zmi {id:Nat}{a:Act}{w:World}(z:Nat)(S:World→Prop)(hm:P.follows .mixedOrders=true)(hS:S w.drew)(h:S w.drew→zlW P .any ops Q S z ops.size (Array.replicate ops.size false) a w.drew):(Code.region id ops true).wp P Q a w :=
 wp_region_any hm (zlW.any (h hS))
end
end
end Go.Proofs.YtkdgmahilfnnmaaGreatDoor
