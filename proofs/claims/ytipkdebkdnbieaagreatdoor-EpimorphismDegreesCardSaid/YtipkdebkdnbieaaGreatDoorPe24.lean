/- Plain: the steps inside a round of table.reduce. (KEEPALL) Walks: fraction.lowest at a negative denominator, fraction.Div by a negative fraction. (Printed by mkdivn.py.) Walks: table.one, table.zero; how long a quotient gets; dividing fractions by any other than zero. (KEEPALL) -/
import Derived.Test.YtipkdebkdnbieaaGreatDoorPe14
import Derived.Test.YtipkdebkdnbieaaGreatDoorPe08
import Derived.Test.YtipkdebkdnbieaaGreatDoorPe17
import Derived.Test.YtipkdebkdnbieaaGreatDoorPe23
set_option maxRecDepth 100000
set_option maxHeartbeats 4000000
namespace Go.Proofs.YtipkdebkdnbieaaGreatDoor
section
theorem zmU {c:Nat}{m:List (List Rat)}{a:Nat}(h:m.length≤a):zi4 c (m.drop a)=0:=by rw [List.drop_of_length_le h];rfl
theorem zmV {c:Nat}{m:List (List Rat)}{a:Nat}{r:List Rat}(h:m[a]?=some r):zi4 c (m.drop a)=if r.getD c 0=0 then zi4 c (m.drop (a+1))+1 else 0:=by
 obtain ⟨h1,h2⟩:=List.getElem?_eq_some_iff.1 h;rw [List.drop_eq_getElem_cons h1,h2];rfl
def zmW (m:List (List Rat))(n:Nat):Prop:=∀ r∈m,r.length=n
theorem zmW.set {m:List (List Rat)}{n i:Nat}{r:List Rat}(h:zmW m n)(hr:r.length=n):zmW (m.set i r) n:=fun x hx=>by
 rcases List.mem_or_eq_of_mem_set hx with g | g
 ·exact h x g
 ·rw [g];exact hr
theorem zmW.swp {m:List (List Rat)}{n i j:Nat}(h:zmW m n):zmW (swp m i j) n:=by
 unfold Go.Proofs.YtipkdebkdnbieaaGreatDoor.swp;split
 ·rename_i x y hx hy;exact (h.set (h y (List.mem_of_getElem? hy))).set (h x (List.mem_of_getElem? hx))
 ·exact h
/-! The pivot's row is divided. -/
def zmX (f:Rat)(r:List Rat)(j:Nat):List Rat:=r.mapIdx fun i a=>if i<j then a / f else a
theorem zmY (f:Rat)(r:List Rat):zmX f r 0=r:=by
 unfold zmX;apply List.ext_getElem?;intro i;rw [List.getElem?_mapIdx]
 cases r[i]? <;> simp
theorem zmZ (f:Rat)(r:List Rat)(j:Nat):(zmX f r j).length=r.length:=by unfold zmX;simp
theorem zna {f:Rat}{r:List Rat}{j:Nat}{q:Rat}(h:r[j]?=some q):(zmX f r j)[j]?=some q:=by
 unfold zmX;rw [List.getElem?_mapIdx,h];simp
theorem znb {f:Rat}{r:List Rat}{j:Nat}{q:Rat}(h:r[j]?=some q):(zmX f r j).set j (q / f)=zmX f r (j+1):=by
 have hj:=(List.getElem?_eq_some_iff.1 h).1;apply List.ext_getElem?;intro i;rw [List.getElem?_set,zmZ];unfold zmX;rw [List.getElem?_mapIdx,List.getElem?_mapIdx];by_cases e:j=i
 ·subst e;rw [if_pos rfl,if_pos hj,h];simp
 ·rw [if_neg e]
  cases r[i]? with
  | none=>rfl
  | some a=>simp only [Option.map_some];congr 1;by_cases g:i<j <;> simp [g] <;> omega
theorem znc (f:Rat)(r:List Rat):zmX f r r.length=zi5 f r:=by
 unfold zmX zi5;apply List.ext_getElem?;intro i;rw [List.getElem?_mapIdx,List.getElem?_map]
 cases h:r[i]? with
 | none=>rfl
 | some a =>
  have hi:=(List.getElem?_eq_some_iff.1 h).1
  simp only [Option.map_some,if_pos hi]
/-! A row less a multiple of the pivot's. -/
def znd (r t:List Rat)(f:Rat)(j:Nat):List Rat:=r.mapIdx fun i a=>if i<j then a - f * t.getD i 0 else a
theorem zne (r t:List Rat)(f:Rat):znd r t f 0=r:=by
 unfold znd;apply List.ext_getElem?;intro i;rw [List.getElem?_mapIdx]
 cases r[i]? <;> simp
theorem znf (r t:List Rat)(f:Rat)(j:Nat):(znd r t f j).length=r.length:=by unfold znd;simp
theorem zng {r t:List Rat}{f:Rat}{j:Nat}{q:Rat}(h:r[j]?=some q):(znd r t f j)[j]?=some q:=by
 unfold znd;rw [List.getElem?_mapIdx,h];simp
theorem znh {r t:List Rat}{f:Rat}{j:Nat}{q s:Rat}(h:r[j]?=some q)(hs:t[j]?=some s):(znd r t f j).set j (q - f * s)=znd r t f (j+1):=by
 have hj:=(List.getElem?_eq_some_iff.1 h).1;apply List.ext_getElem?;intro i;rw [List.getElem?_set,znf];unfold znd;rw [List.getElem?_mapIdx,List.getElem?_mapIdx];by_cases e:j=i
 ·subst e;rw [if_pos rfl,if_pos hj,h,List.getD_eq_getElem?_getD,hs];simp
 ·rw [if_neg e]
  cases r[i]? with
  | none=>rfl
  | some a=>simp only [Option.map_some];congr 1;by_cases g:i<j <;> simp [g] <;> omega
theorem zni {r t:List Rat}(f:Rat)(h:r.length=t.length):znd r t f r.length=zi6 r t f:=by
 unfold znd zi6;apply List.ext_getElem?;intro i;rw [List.getElem?_mapIdx,List.getElem?_zipWith];by_cases hi:i<r.length
 ·rw [List.getElem?_eq_getElem hi,List.getElem?_eq_getElem (by omega)];simp only [Option.map_some,if_pos hi];rw [List.getD_eq_getElem?_getD,List.getElem?_eq_getElem (by omega)];rfl
 ·rw [List.getElem?_eq_none (by omega)];simp
theorem znj {r t:List Rat}(h:r.length=t.length):zi6 r t 0=r:=by
 unfold zi6;apply List.ext_getElem?;intro i;rw [List.getElem?_zipWith];by_cases hi:i<r.length
 ·rw [List.getElem?_eq_getElem hi,List.getElem?_eq_getElem (by omega)];simp [Rat.zero_mul,Rat.sub_eq_add_neg,Rat.add_zero]
 ·rw [List.getElem?_eq_none (by omega)]
/-! The other rows, one after another. -/
theorem znk (m:List (List Rat))(k c:Nat):zi7 m k c 0=m:=by
 unfold zi7;apply List.ext_getElem?;intro i;rw [List.getElem?_mapIdx]
 cases m[i]? <;> simp
theorem znl (m:List (List Rat))(k c n:Nat):(zi7 m k c n).length=m.length:=by unfold zi7;simp
theorem znm {m:List (List Rat)}{k c n:Nat}{r:List Rat}(h:m[n]?=some r):(zi7 m k c n)[n]?=some r:=by
 unfold zi7;rw [List.getElem?_mapIdx,h];simp
theorem znn {m:List (List Rat)}{k c n:Nat}{r:List Rat}(h:m[k]?=some r):(zi7 m k c n)[k]?=some r:=by
 unfold zi7;rw [List.getElem?_mapIdx,h];simp
theorem zno {m:List (List Rat)}{k c n:Nat}(h:n=k):zi7 m k c (n+1)=zi7 m k c n:=by
 subst h;unfold zi7;apply List.ext_getElem?;intro i;rw [List.getElem?_mapIdx,List.getElem?_mapIdx]
 cases m[i]? with
 | none=>rfl
 | some r =>
  simp only [Option.map_some]
  congr 1
  by_cases g:i=n
  ·simp [g]
  ·by_cases g2:i<n
   ·rw [if_pos ⟨by omega,g⟩,if_pos ⟨g2,g⟩]
   ·rw [if_neg (by omega),if_neg (by omega)]
theorem znp {m:List (List Rat)}{k c n:Nat}{r:List Rat}(h:m[n]?=some r)(hk:n ≠ k):(zi7 m k c n).set n (zi6 r (m.getD k []) (r.getD c 0))=zi7 m k c (n+1):=by
 have hn:=(List.getElem?_eq_some_iff.1 h).1;apply List.ext_getElem?;intro i;rw [List.getElem?_set,znl];unfold zi7;rw [List.getElem?_mapIdx,List.getElem?_mapIdx];by_cases e:n=i
 ·subst e;rw [if_pos rfl,if_pos hn,h];simp [hk]
 ·rw [if_neg e]
  cases m[i]? with
  | none=>rfl
  | some r =>
   simp only [Option.map_some]
   congr 1
   by_cases g:i<n∧i ≠ k
   ·rw [if_pos g,if_pos ⟨by omega,g.2⟩]
   ·rw [if_neg g,if_neg (by omega)]
theorem znq {m:List (List Rat)}{k c n:Nat}{r t:List Rat}(h:m[n]?=some r)(ht:m[k]?=some t)(hl:r.length=t.length)(h0:r.getD c 0=0):zi7 m k c (n+1)=zi7 m k c n:=by
 by_cases hk:n=k
 ·exact zno hk
 ·rw [← znp h hk,List.getD_eq_getElem?_getD,ht,h0];simp only [Option.getD_some];rw [znj hl];obtain ⟨h1,h2⟩:=List.getElem?_eq_some_iff.1 (znm (k:=k) (c:=c) h);rw [← h2];exact List.set_getElem_self h1
end
section
open Go.RowKit Go.Lib
theorem znr (n0 n:Int)(d:Nat)(hn0:n0=-n)(w:World)(he:Env w)(hn:Fit n)(hd:Fit (d:Int))(h0:0<d) :
  Calls Tryz.prog 192 #[.string (I n0),.string (I (-(d:Int)))] w fun e w'=>e=.returned (Rv (mkRat n d))∧Ext w w':=by
 have hg:=fun W (h:Ext w W)=>zeq n (d:Int) W (he.ext h) hn hd;have hs:=fun W=>zbR (-(d:Int)) W hd.negI;have hn1:=fun W=>zd5 n0 W (by rw [hn0];exact hn.negI);have hn2:=fun W=>zd5 (-(d:Int)) W hd.negI;rw [hn0,Int.neg_neg] at hn1;rw [Int.neg_neg] at hn2;rw [← hn0] at hn1;generalize I (-(d:Int))=sd0 at *;generalize I n0=sn0 at *;clear hn0;rw [Int.natAbs_natCast] at hg;rw [zbk (by omega)] at hs;have hgp:0<Nat.gcd n.natAbs d:=Nat.gcd_pos_of_pos_right _ h0;have hgd:Nat.gcd n.natAbs d≤d:=Nat.gcd_le_right _ h0;have e1:(mkRat n d).num=n / ((Nat.gcd n.natAbs d:Nat):Int):=by rw [Rat.num_mkRat,if_neg (by omega),Nat.gcd_comm]
 have e2:(((mkRat n d).den:Nat):Int)=(d:Int) / ((Nat.gcd n.natAbs d:Nat):Int):=by rw [Rat.den_mkRat,if_neg (by omega),Nat.gcd_comm,Int.natCast_ediv]
 unfold Rv;rw [e1,e2];generalize Nat.gcd n.natAbs d=g at *;have hfg:Fit (g:Int):=Nat.le_trans (Dec.nDigits_mono (by omega)) hd;have hq1:=fun W (h:Ext w W)=>zek n (g:Int) W (he.ext h) (by omega) hn hfg;have hq2:=fun W (h:Ext w W)=>zek (d:Int) (g:Int) W (he.ext h) (by omega) hd hfg;have f1:fdv n (g:Int)=n / (g:Int):=by unfold fdv;rw [if_pos (by omega)]
 have f2:fdv (d:Int) (g:Int)=(d:Int) / (g:Int):=by unfold fdv;rw [if_pos (by omega)]
 rw [f1] at hq1;rw [f2] at hq2;have b2:=zes.new w (.string ⟨#[]⟩) (.string ⟨#[]⟩);have hE:Ext w (w.alloc (.cells #[.string ⟨#[]⟩,.string ⟨#[]⟩] 102)):=(Ext.refl _).alloc _;have hone:=ze2 (g:Int);have hdiv1:¬ g=1∨(n / (g:Int)=n∧(d:Int) / (g:Int)=d):=by
  by_cases e:g=1
  ·right;subst e;simp
  ·exact .inl e
 generalize n / (g:Int)=x at *;generalize (d:Int) / (g:Int)=y at *;generalize fmd n (g:Int)=r1 at *;generalize fmd (d:Int) (g:Int)=r2 at *;clear f1 f2 e1 e2 he hn hd hfg hgd hgp;have Hg:=hid hg;have Hs:=hid hs;have Hq1:=hid hq1;have Hq2:=hid hq2;have B2:=hid b2;have HE:=hid hE;have Hn1:=hid hn1;have Hn2:=hid hn2;clear hg hs hq1 hq2 b2 hE hn1 hn2;by_cases hg1:g=1
 ·rcases hdiv1 with h | ⟨rfl,rfl⟩
  ·exact absurd hg1 h
  have ht:((I (g:Int)).toList == [49])=true:=by rw [hone,hg1];rfl
  have ht2:((I (g:Int)).toList != [49])=false:=by rw [bne,ht];rfl
  clear hone hg1;go_enter Tryz.func192,Tryz.ntmps192
  go_wp2_with fail
  refine (Hs.out _).mono ?_;rintro e W1 ⟨rfl,rfl⟩;go_wp2_with fail
  refine (Hn1.out _).mono ?_;rintro e wa ⟨rfl,hxa⟩;have Hxa:=hid hxa;clear hxa;go_wp2_with fail
  refine (Hn2.out _).mono ?_;rintro e wb ⟨rfl,hxb⟩;have Hxb:=hid (Hxa.out.trans hxb);clear hxb;go_wp2_with fail
  refine (Hg.out wb (HE.out.trans Hxb.out)).mono ?_;rintro e w2 ⟨rfl,hx2⟩;have Hx2:=hid (Hxb.out.trans hx2);clear hx2;have hk:Res w2 w.heap.size:=⟨_,_,B2.out.ext Hx2.out⟩;have hc0:=hk.c0;have hc1:=hk.c1;have hz0:=hk.fz 0;have hz1:=hk.fz 1;obtain ⟨hb,hfx⟩:=Kp0.fin ⟨HE.out.trans Hx2.out,hk⟩ (Nat.le_refl _) (.string (I x)) (.string (I (d:Int)));have Hb:=hid hb;have Hfx:=hid hfx;have Hk:=hid hk;clear hb hfx hk;go_wp2_with fail
  have hd0:=Hb.out.c0;have hd1:=Hb.out.c1;exact bodyPost_ret (v:=.agg #[.string (I x),.string (I (d:Int))]) (by simp [results,Tryz.results192,go_sem,hd0,hd1]) rfl ⟨rfl,Hfx.out⟩
 ·have ht:((I (g:Int)).toList == [49])=false:=by rw [hone];exact decide_eq_false (by omega)
  have ht2:((I (g:Int)).toList != [49])=true:=by rw [bne,ht];rfl
  clear hone hg1 hdiv1;go_enter Tryz.func192,Tryz.ntmps192
  go_wp2_with fail
  refine (Hs.out _).mono ?_;rintro e W1 ⟨rfl,rfl⟩;go_wp2_with fail
  refine (Hn1.out _).mono ?_;rintro e wa ⟨rfl,hxa⟩;have Hxa:=hid hxa;clear hxa;go_wp2_with fail
  refine (Hn2.out _).mono ?_;rintro e wb ⟨rfl,hxb⟩;have Hxb:=hid (Hxa.out.trans hxb);clear hxb;go_wp2_with fail
  refine (Hg.out wb (HE.out.trans Hxb.out)).mono ?_;rintro e w2 ⟨rfl,hx2⟩;have Hx2:=hid (Hxb.out.trans hx2);clear hx2;go_wp2_with fail
  refine (Hq1.out w2 (HE.out.trans Hx2.out)).mono ?_;rintro e w3 ⟨rfl,hx3⟩;have Hx3:=hid (Hx2.out.trans hx3);clear hx3;go_wp2_with fail
  refine (Hq2.out w3 (HE.out.trans Hx3.out)).mono ?_;rintro e w4 ⟨rfl,hx4⟩;have Hx4:=hid (Hx3.out.trans hx4);clear hx4;have hk:Res w4 w.heap.size:=⟨_,_,B2.out.ext Hx4.out⟩;have hc0:=hk.c0;have hc1:=hk.c1;have hz0:=hk.fz 0;have hz1:=hk.fz 1;obtain ⟨hb,hfx⟩:=Kp0.fin ⟨HE.out.trans Hx4.out,hk⟩ (Nat.le_refl _) (.string (I x)) (.string (I y));have Hb:=hid hb;have Hfx:=hid hfx;have Hk:=hid hk;clear hb hfx hk;go_wp2_with fail
  have hd0:=Hb.out.c0;have hd1:=Hb.out.c1;exact bodyPost_ret (v:=.agg #[.string (I x),.string (I y)]) (by simp [results,Tryz.results192,go_sem,hd0,hd1]) rfl ⟨rfl,Hfx.out⟩
theorem zns (a b:Rat)(w:World)(he:Env w)(ha:Ft 100000 a)(hb:Ft 100000 b)(hp:b.num<0) :
  Calls Tryz.prog 151 #[Rv a,Rv b] w fun e w'=>e=.returned (.tuple #[Rv (a / b),.int .i64 0])∧Ext w w':=by
 obtain ⟨n,hn⟩:∃ n:Nat,b.num=-(n:Int):=⟨(-b.num).toNat,by omega⟩;have hn0:0<n:=by omega
 have fa1:=ha.num (by omega);have fa2:=ha.den (by omega);have fb1:=hb.num (by omega);have fb2:=hb.den (by omega);have hda:nDigits ((a.den:Int)).natAbs≤100000:=by rw [Int.natAbs_natCast];exact ha.2
 have hdb:nDigits ((b.den:Int)).natAbs≤100000:=by rw [Int.natAbs_natCast];exact hb.2
 have g1:nDigits (a.num * (b.den:Int)).natAbs≤200000:=ze4 ha.1 hdb;have g3:nDigits ((a.den:Int) * b.num).natAbs≤200000:=ze4 hda hb.1;have hk0:=zev w (.string (I a.num)) (.string (I (a.den:Int))) (.string (I b.num)) (.string (I (b.den:Int)));have hsg:=fun W=>zeC b W fb1;have hc1:zbj b.num 0=-1:=by unfold zbj;(repeat' split) <;> omega
 rw [hc1] at hsg;have hm1:=fun W (h:Ext w W)=>zca a.num (b.den:Int) W (he.ext h) fa1 fb2;have hm3:=fun W (h:Ext w W)=>zca (a.den:Int) b.num W (he.ext h) fa2 fb1;have hlo:=fun W (h:Ext w W)=>znr (a.num * (b.den:Int)) (-(a.num * (b.den:Int))) (a.den * n) (by rw [Int.neg_neg]) W (he.ext h) (by unfold Fit;rw [Int.natAbs_neg];omega) (by
  have e:((a.den:Int) * b.num).natAbs=((a.den * n:Nat):Int).natAbs:=by rw [hn,Int.mul_neg,Int.natAbs_neg,Int.natCast_mul]
  unfold Fit;rw [← e];omega) (Nat.mul_pos a.den_pos hn0)
 have hdv:=zjI a (-b) n (by show -b.num=_;omega) hn0;rw [show (-b).den=b.den from rfl] at hdv;have hmk:mkRat (-(a.num * (b.den:Int))) (a.den * n)=a / b:=by
  rw [← Rat.neg_mkRat,hdv];grind
 rw [hmk,Int.natCast_mul,← Int.mul_neg,← hn] at hlo;unfold Rv at hsg hlo ⊢;generalize I (a.num * (b.den:Int))=sm at *;generalize I ((a.den:Int) * b.num)=so at *;generalize I (a / b).num=st at *;generalize I (((a / b).den:Nat):Int)=su at *;generalize I a.num=sa at *;generalize I b.num=sb at *;generalize I (a.den:Int)=sc at *;generalize I (b.den:Int)=sd at *;clear g1 g3 fa1 fa2 fb1 fb2 hda hdb he ha hb hn hn0 hp hc1;have Hk0:=hid hk0;have Hsg:=hid hsg;have Hm1:=hid hm1;have Hm3:=hid hm3;have Hlo:=hid hlo;clear hk0 hsg hm1 hm3 hlo;go_enter Tryz.func151,Tryz.ntmps151
 go_wp2_with fail
 generalize hV:((w.alloc (.cells #[.string sa,.string sc] 102)).alloc (.cells #[.string sb,.string sd] 102)).alloc (.cells #[.string ⟨#[]⟩,.string ⟨#[]⟩] 102)=V at *;refine (Hsg.out _).mono ?_;rintro e W2 ⟨rfl,hxa⟩;have hK:=Hk0.out.ext hxa;have HK:=hid hK;clear hK;clear hxa;go_wp2_with fail
 go_region_held3 (fun w'=>Kp2 w w' w.heap.size (.string sa) (.string sc) (w.heap.size+1) (.string sb) (.string sd) (w.heap.size+1+1)∧w'.cell? ⟨w.heap.size,0,none⟩=some (.string sa)∧w'.cell? ⟨w.heap.size,1,none⟩=some (.string sc)∧w'.cell? ⟨w.heap.size+1,0,none⟩=some (.string sb)∧w'.cell? ⟨w.heap.size+1,1,none⟩=some (.string sd)∧w'.cell? ⟨w.heap.size+1+1,0,none⟩=some (zet w' (w.heap.size+1+1) 0)∧w'.cell? ⟨w.heap.size+1+1,1,none⟩=some (zet w' (w.heap.size+1+1) 1)∧w'.frozen? ⟨w.heap.size+1+1,0,none⟩=false∧w'.frozen? ⟨w.heap.size+1+1,1,none⟩=false)
  (first | exact (Kp2.ext HK.out ((Ext.refl _).drew)).all | exact (Kp2.ext (And.left (by assumption)) hxa).all | exact (Kp2.put (And.left (by assumption)) (by omega) (by omega) (by omega) _ _).all)
  (first
   | (go_at_call_of 165 (Value.string sa);refine (Hm1.out _ (And.left (And.left (by assumption)))).mono ?_;rintro e9 V4 ⟨rfl,hxa⟩;have hkk:=Kp2.ext (And.left (by assumption)) hxa)
   | (go_at_call_of 165 (Value.string sc);refine (Hm3.out _ (And.left (And.left (by assumption)))).mono ?_;rintro e9 V4 ⟨rfl,hxa⟩;have hkk:=Kp2.ext (And.left (by assumption)) hxa)
   | (go_at_call 192;refine (Hlo.out _ (And.left (And.left (by assumption)))).mono ?_;rintro e9 V4 ⟨rfl,hxa⟩;have hkk:=Kp2.ext (And.left (by assumption)) hxa))
 all_goals
  obtain ⟨hb,hfx⟩:=(hkk).fin (by omega) (.string st) (.string su);have Hfx:=hid hfx;clear hfx hxa hkk;generalize (V4.setCell ⟨w.heap.size+1+1,0,none⟩ (.string st)).setCell ⟨w.heap.size+1+1,1,none⟩ (.string su)=W5 at *;have hd0:=hb.c0;have hd1:=hb.c1;go_wp2_with fail
  exact bodyPost_ret (v:=.tuple #[.agg #[.string st,.string su],.int .i64 0]) (by simp [results,Tryz.results151,go_sem,hd0,hd1]) rfl ⟨rfl,Hfx.out⟩
end
section
open Go.RowKit Go.Lib Go.Shelf
theorem znt (w:World):Calls Tryz.prog 146 #[] w fun e w'=>e=.returned (Rv 1)∧Ext w w':=by
 have hb:=zes.new w (.string ⟨#[]⟩) (.string ⟨#[]⟩);have hc0:=hb.c0;have hc1:=hb.c1;have hf0:=hb.fz 0;have hf1:=hb.fz 1;have hp:=zes.new w (.string ⟨#[49]⟩) (.string ⟨#[49]⟩);have hd0:=hp.c0;have hd1:=hp.c1;clear hb hp;go_enter Tryz.func146,Tryz.ntmps146
 go_wp2_with fail
 exact bodyPost_ret (v:=.agg #[.string ⟨#[49]⟩,.string ⟨#[49]⟩]) (by simp [results,Tryz.results146,go_sem,hd0,hd1]) rfl ⟨by rw [zme];rfl,(Ext.refl w).alloc _⟩
theorem znu (w:World):Calls Tryz.prog 148 #[] w fun e w'=>e=.returned (Rv 0)∧Ext w w':=by
 have hb:=zes.new w (.string ⟨#[]⟩) (.string ⟨#[]⟩);have hc0:=hb.c0;have hc1:=hb.c1;have hf0:=hb.fz 0;have hf1:=hb.fz 1;have hp:=zes.new w (.string ⟨#[48]⟩) (.string ⟨#[49]⟩);have hd0:=hp.c0;have hd1:=hp.c1;clear hb hp;go_enter Tryz.func148,Tryz.ntmps148
 go_wp2_with fail
 exact bodyPost_ret (v:=.agg #[.string ⟨#[48]⟩,.string ⟨#[49]⟩]) (by simp [results,Tryz.results148,go_sem,hd0,hd1]) rfl ⟨by rw [zme,zmf];rfl,(Ext.refl w).alloc _⟩
theorem znv {k l:Nat}{a b:Rat}(ha:Ft k a)(hb:Ft l b)(h0:0<b.num):Ft (k+l) (a / b):=by
 obtain ⟨n,hn⟩:∃ n:Nat,b.num=(n:Int):=⟨b.num.toNat,by omega⟩;have hbn:=hb.1;rw [hn,Int.natAbs_natCast] at hbn;rw [← zjI a b n hn (by omega)];unfold Ft;refine zio (Nat.mul_pos a.den_pos (by omega)) ?_ ?_
 ·rw [Int.natAbs_mul,Int.natAbs_natCast];exact Nat.le_trans (zbD _ _) (Nat.add_le_add ha.1 hb.2)
 ·exact Nat.le_trans (zbD _ _) (Nat.add_le_add ha.2 hbn)
theorem znw {k l:Nat}{a b:Rat}(ha:Ft k a)(hb:Ft l b)(h0:b ≠ 0):Ft (k+l) (a / b):=by
 have hn:b.num ≠ 0:=fun h=>h0 (Rat.num_eq_zero.1 h);by_cases hp:0<b.num
 ·exact znv ha hb hp
 ·have:=znv ha.neg hb.neg (by rw [Rat.neg_num];omega);have e:-a / -b=a / b:=by grind
  rwa [e] at this
theorem znx (a b:Rat)(w:World)(he:Env w)(ha:Ft 100000 a)(hb:Ft 100000 b)(h0:b ≠ 0) :
  Calls Tryz.prog 151 #[Rv a,Rv b] w fun e w'=>e=.returned (.tuple #[Rv (a / b),.int .i64 0])∧Ext w w':=by
 have hn:b.num ≠ 0:=fun h=>h0 (Rat.num_eq_zero.1 h);by_cases hp:0<b.num
 ·exact zjJ a b w he ha hb hp
 ·exact zns a b w he ha hb (by omega)
theorem zny {q:Rat}(h:okQ q=true):Ft 1000 q:=by
 unfold okQ at h;rw [Bool.and_eq_true,decide_eq_true_eq,decide_eq_true_eq] at h;have hk:ziz≤1000:=by unfold ziz;omega
 have h0:0<ziz:=by unfold ziz;omega
 exact ⟨Nat.le_trans (Dec.nDigits_le (k:=ziz) h0 (by have:=h.1;unfold zi0 at this;exact this)) hk,Nat.le_trans (Dec.nDigits_le (k:=ziz) h0 (by have:=h.2;unfold zi0 at this;exact this)) hk⟩
theorem znz {m:List (List Rat)}(h:okM m=true){r:List Rat}(hr:r∈m){q:Rat}(hq:q∈r):Ft 1000 q:=by
 unfold okM at h;rw [List.all_eq_true] at h;have:=h r hr;rw [List.all_eq_true] at this;exact zny (this q hq)
end
end Go.Proofs.YtipkdebkdnbieaaGreatDoor
