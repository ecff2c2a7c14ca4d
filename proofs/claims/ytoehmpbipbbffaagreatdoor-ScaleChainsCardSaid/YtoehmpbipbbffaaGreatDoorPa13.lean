/- Plain: sums of sizes; how long their numbers get. Walks: size's zero, Zero, sum, Combine, Sub, Add, Scale. Walks: size's Zero, Combine, Sub, Add, Scale. Walks: quick, sign, compare of sizes. -/
import Derived.Test.YtoehmpbipbbffaaGreatDoorPa07
import Derived.Test.YtoehmpbipbbffaaGreatDoorPa03
import Derived.Test.YtoehmpbipbbffaaGreatDoorPa08
import Derived.Test.YtoehmpbipbbffaaGreatDoorPa12
set_option maxRecDepth 100000
set_option maxHeartbeats 4000000
namespace Go.Proofs.YtoehmpbipbbffaaGreatDoor
section
open Go.RowKit Go.Lib
theorem zh3 {n:Int}{d k l:Nat}(hd:0<d)(hn:nDigits n.natAbs≤k)(h2:nDigits d≤l):nDigits (mkRat n d).num.natAbs≤k∧nDigits (mkRat n d).den≤l:=by
 constructor
 ·refine Nat.le_trans (Dec.nDigits_mono ?_) hn;rw [zdk n d (by omega),Int.natAbs_tdiv];exact Nat.div_le_self _ _
 ·refine Nat.le_trans (Dec.nDigits_mono ?_) h2;rw [Rat.den_mkRat,if_neg (by omega)];exact Nat.div_le_self _ _
theorem zh4 {k l:Nat}{a b:Rat}(ha:Ft k a)(hb:Ft l b):Ft (k+l) (a * b):=by
 unfold Ft;rw [Rat.mul_def'];refine zh3 (Nat.mul_pos a.den_pos b.den_pos) ?_ ?_
 ·rw [Int.natAbs_mul];exact Nat.le_trans (zb6 _ _) (Nat.add_le_add ha.1 hb.1)
 ·exact Nat.le_trans (zb6 _ _) (Nat.add_le_add ha.2 hb.2)
theorem zh5 {k l:Nat}{a b:Rat}(ha:Ft k a)(hb:Ft l b):Ft (k+l+1) (a+b):=by
 unfold Ft;rw [Rat.add_def'];refine zh3 (Nat.mul_pos a.den_pos b.den_pos) ?_ ?_
 ·refine Nat.le_trans (Dec.nDigits_mono (Int.natAbs_add_le _ _)) ?_;refine zcF _ _ _ ?_ ?_
  ·rw [Int.natAbs_mul,Int.natAbs_natCast];exact Nat.le_trans (zb6 _ _) (Nat.add_le_add ha.1 hb.2)
  ·rw [Int.natAbs_mul,Int.natAbs_natCast];have:=Nat.le_trans (zb6 _ _) (Nat.add_le_add hb.1 ha.2);omega
 ·have:=Nat.le_trans (zb6 _ _) (Nat.add_le_add ha.2 hb.2);omega
def zh6 (o x:List Rat)(f:Rat):List Rat:=List.zipWith (fun a b=>a+b * f) o x
def zh7 (n:Nat)(xs:List (List Rat))(fs:List Rat):Nat→List Rat
 | 0=>List.replicate n 0
 | i+1=>zh6 (zh7 n xs fs i) (xs.getD i []) (fs.getD i 0)
theorem zh8 {o x:List Rat}{f:Rat}(h:x.length=o.length):(zh6 o x f).length=o.length:=by unfold zh6;rw [List.length_zipWith,h,Nat.min_self]
theorem zh9 {n:Nat}{xs:List (List Rat)}{fs:List Rat}(h:∀ x∈xs,x.length=n):∀ i,i≤xs.length→(zh7 n xs fs i).length=n
 | 0,_=>by simp [zh7]
 | i+1,hi=>by
  have ih:=zh9 h (fs:=fs) i (by omega);have hx:(xs.getD i []).length=n:=by
   rw [List.getD_eq_getElem?_getD,List.getElem?_eq_getElem (by omega)];exact h _ (List.getElem_mem _)
  rw [zh7,zh8 (by rw [hx,ih]),ih]
theorem zhA : Ft 1 (0:Rat):=⟨Dec.nDigits_le (by omega) (by decide),Dec.nDigits_le (by omega) (by decide)⟩
theorem step_ft {k:Nat}{o x:List Rat}{f:Rat}(ho:∀ q∈o,Ft k q)(hx:∀ q∈x,Ft 400 q)(hf:Ft 400 f):∀ q∈zh6 o x f,Ft (k+801) q:=by
 intro q hq;unfold zh6 at hq;obtain ⟨i,hi,rfl⟩:=List.getElem_of_mem hq;rw [List.length_zipWith] at hi;rw [List.getElem_zipWith];exact (zh5 (ho _ (List.getElem_mem _)) (zh4 (hx _ (List.getElem_mem (by omega))) hf)).mono (by omega)
theorem zhB {n:Nat}{xs:List (List Rat)}{fs:List Rat}(h:∀ x∈xs,∀ q∈x,Ft 400 q)(hf:∀ f∈fs,Ft 400 f)(hl:xs.length≤fs.length):∀ i,i≤xs.length→∀ q∈zh7 n xs fs i,Ft (801 * i+1) q
 | 0,_,q,hq=>by
  rw [zh7] at hq;rw [List.eq_of_mem_replicate hq];exact zhA
 | i+1,hi,q,hq=>by
  have ih:=zhB (n:=n) h hf hl i (by omega);rw [zh7] at hq;have:=step_ft ih ?_ ?_ q hq
  ·exact this.mono (by omega)
  ·rw [List.getD_eq_getElem?_getD,List.getElem?_eq_getElem (by omega)];exact h _ (List.getElem_mem _)
  ·rw [List.getD_eq_getElem?_getD,List.getElem?_eq_getElem (by omega)];exact hf _ (List.getElem_mem _)
def zhC (o s:List Rat)(j:Nat):List Rat:=s.take j++o.drop j
theorem zhD {o s:List Rat}{j:Nat}(h:s.length=o.length)(hj:j≤o.length):(zhC o s j).length=o.length:=by unfold zhC;rw [List.length_append,List.length_take,List.length_drop];omega
theorem zhE {o s:List Rat}{j:Nat}(h:s.length=o.length)(hj:j<o.length):(zhC o s j)[j]?=o[j]?:=by
 unfold zhC;rw [List.getElem?_append_right (by rw [List.length_take];omega),List.length_take,List.getElem?_drop];congr 1;omega
theorem zhF {o s:List Rat}{j:Nat}(h:s.length=o.length)(hj:j<o.length)(r:Rat)(hr:s[j]?=some r):(zhC o s j).set j r=zhC o s (j+1):=by
 obtain ⟨hj2,rfl⟩:=List.getElem?_eq_some_iff.1 hr;unfold zhC;rw [List.set_append_right _ _ (by rw [List.length_take];omega),List.length_take,show j - min j s.length=0 by omega,List.drop_eq_getElem_cons hj,List.set_cons_zero,List.take_succ_eq_append_getElem hj2,List.append_assoc];rfl
theorem zhG {o s:List Rat}(h:s.length=o.length):zhC o s o.length=s:=by unfold zhC;rw [List.drop_length,List.append_nil,← h,List.take_length]
theorem zhH {o x:List Rat}{f a b:Rat}{j:Nat}(ha:o[j]?=some a)(hb:x[j]?=some b):(zh6 o x f)[j]?=some (a+b * f):=by
 unfold zh6;rw [List.getElem?_zipWith,ha,hb]
theorem zhI {n:Nat}{x y:List Rat}(hx:x.length=n)(hy:y.length=n):zh7 n [x,y] [1,-1] 2=zeT x y:=by
 subst hx;show zh6 (zh6 (List.replicate x.length 0) x 1) y (-1)=zeT x y;unfold zh6 zeT;apply List.ext_getElem
 ·simp
 ·intro i h1 h2;simp only [List.getElem_zipWith,List.getElem_replicate];grind
theorem zhJ {n:Nat}{x:List Rat}(k:Rat)(hx:x.length=n):zh7 n [x] [k] 1=zeU x k:=by
 subst hx;show zh6 (List.replicate x.length 0) x k=zeU x k;unfold zh6 zeU;apply List.ext_getElem
 ·simp
 ·intro i h1 h2;simp only [List.getElem_zipWith,List.getElem_replicate,List.getElem_map];grind
theorem zhK {x:List Rat}{k:Nat}(hk:k<x.length)(r:Rat):((rcs x).set (k * 2) (.string (I r.num))).set (k * 2+1) (.string (I (r.den:Int)))=rcs (x.set k r):=by
 induction x generalizing k with
 | nil=>simp at hk
 | cons s x ih =>
  rw [zfz]
  cases k with
  | zero=>simp [zfz]
  | succ k =>
   have:=ih (k:=k) (by simpa using hk)
   rw [show (k+1) * 2=k * 2+1+1 by omega,List.set_cons_succ,List.set_cons_succ,List.set_cons_succ,List.set_cons_succ,List.set_cons_succ,this,zfz]
def zhL (w:World)(B g n:Nat)(x:List Rat):Prop:=∃ xs:List Value,w.ownsRow B 57 2 (.slice (some ⟨g,0,none⟩) n n) n xs∧xs.take (2 * x.length)=rcs x
theorem zhL.ext {w w':World}(h:Ext w w'){B g n:Nat}{x:List Rat}(k:zhL w B g n x):zhL w' B g n x:=by
 obtain ⟨xs,h1,h2⟩:=k;exact ⟨xs,h.own h1,h2⟩
theorem zhL.more {w:World}{B g n:Nat}{x:List Rat}(k:zhL w B g n x)(hx:x.length<n)(r:Rat):zhL ((w.setCell ⟨g,x.length * 2,none⟩ (.string (I r.num))).setCell ⟨g,x.length * 2+1,none⟩ (.string (I (r.den:Int)))) B g n (x++[r]):=by
 obtain ⟨xs,h1,h2⟩:=k;have hl:xs.length=n * 2:=h1.1;refine ⟨_,((h1.stored (x.length * 2) (.string (I r.num))).1.stored (x.length * 2+1) (.string (I (r.den:Int)))).1,?_⟩;rw [List.length_append,List.length_singleton,zf1,← h2];apply List.ext_getElem?;intro i;rw [List.getElem?_take];by_cases hi:i<2 * x.length
 ·rw [if_pos (by omega),List.getElem?_append_left (by rw [List.length_take];omega),List.getElem?_set_ne (by omega),List.getElem?_set_ne (by omega),List.getElem?_take,if_pos hi]
 ·rcases (by omega:i=2 * x.length∨i=2 * x.length+1∨2 * x.length+2≤i) with rfl | rfl | h3
  ·rw [if_pos (by omega),List.getElem?_append_right (by rw [List.length_take];omega),List.getElem?_set_ne (by omega),Nat.mul_comm 2 x.length,List.getElem?_set_self (by omega)];rw [List.length_take,show x.length * 2 - min (x.length * 2) xs.length=0 by omega];rfl
  ·rw [if_pos (by omega),List.getElem?_append_right (by rw [List.length_take];omega),Nat.mul_comm 2 x.length,List.getElem?_set_self (by rw [List.length_set];omega)];rw [List.length_take,show x.length * 2+1 - min (x.length * 2) xs.length=1 by omega];rfl
  ·rw [if_neg (by omega),List.getElem?_eq_none];rw [List.length_append,List.length_take];simp;omega
theorem zhL.cell {w:World}{B g n:Nat}{x:List Rat}(k:zhL w B g n x){i:Nat}(hi:i<n):w.cell? ⟨g,i * 2,none⟩=some (zdL w g (i * 2))∧w.cell? ⟨g,i * 2+1,none⟩=some (zdL w g (i * 2+1))∧w.frozen? ⟨g,i * 2,none⟩=false∧w.frozen? ⟨g,i * 2+1,none⟩=false:=by
 obtain ⟨xs,h1,h2⟩:=k;have hl:xs.length=n * 2:=h1.1;have e1:=h1.cellAt (i * 2) (by omega);have e2:=h1.cellAt (i * 2+1) (by omega);rw [List.getElem?_eq_getElem (by omega)] at e1 e2;exact ⟨by unfold zdL;rw [e1];rfl,by unfold zdL;rw [e2];rfl,h1.frozenAt _,h1.frozenAt _⟩
theorem zhL.full {w:World}{B g n:Nat}{x:List Rat}(k:zhL w B g n x)(hx:x.length=n):zf4 w B (.slice (some ⟨g,0,none⟩) n n) x:=by
 obtain ⟨xs,h1,h2⟩:=k;have hl:xs.length=n * 2:=h1.1;rw [List.take_of_length_le (by omega)] at h2;unfold zf4;rw [hx,← h2];exact h1
theorem zhM (n:Nat)(w:World)(he:Env w)(hn:n≤1000) :
  Calls Tryz.prog 79 #[.int .i64 n] w fun e w'=>e=.returned (.slice (some ⟨w.heap.size,0,none⟩) n n)∧zf4 w' w.heap.size (.slice (some ⟨w.heap.size,0,none⟩) n n) (List.replicate n 0)∧Ext w w':=by
 obtain ⟨i0,hi,hz0,hz1,hz2⟩:=info_parts zf5;have hnum:=fun W (h:Ext w W)=>zfA 0 W (he.ext h) (by omega) (by omega);rw [show (((0:Int):Rat))=(0:Rat) from rfl] at hnum;unfold Rv at hnum;have Hnum:=hid hnum;clear hnum;clear he;go_enter Tryz.func79,Tryz.ntmps79
 go_wp2_with (at_make;refine wpList_make_full _ rfl _ _ 32 rfl w.heap.size 57 i0 _ 2 Tryz.underlying32 hi hz0 hz1 _ _ _ _ n rfl rfl rfl rfl (by rw [hz2];omega) (by unfold maxLen;omega) (Nat.le_refl _) ?_;intro w1 hown hgrow)
 have hx1:Ext w w1:=(Ext.refl w).grown hgrow (by simp);have hp:zhL w1 w.heap.size w.heap.size n []:=⟨_,hown,rfl⟩;clear hown hgrow;have Hx1:=hid hx1;have Hp:=hid hp;clear hx1 hp;go_wp2_with fail
 go_loopw [4,9] (fun v4 v9 wr=>∃ k:Nat,v9=.int .i64 k∧k≤n∧zhL wr w.heap.size w.heap.size n (List.replicate k 0)∧Ext w wr) (fun _ v9 _=>n - (zag v9).toNat)
 case atStart=>exact ⟨0,rfl,Nat.zero_le _,Hp.out,Hx1.out⟩
 case round =>
  obtain ⟨k,rfl,hk,hpt,hE⟩:=hrel;have Hpt:=hid hpt;have HE:=hid hE;clear hpt hE;by_cases hkl:k<n
  ·have hk0:(0:Int)≤(k:Int):=(by omega);have hk1:(k:Int)<(n:Int):=(by omega);go_wp2_with fail
   refine (Hnum.out wr HE.out).mono ?_;rintro e W2 ⟨rfl,hx2⟩;have hpt2:=Hpt.out.ext hx2;obtain ⟨g0,g1,f0,f1⟩:=hpt2.cell hkl;have hmo:=hpt2.more (by rw [List.length_replicate];exact hkl) 0;rw [List.length_replicate] at hmo;rw [show List.replicate k (0:Rat)++[0]=List.replicate (k+1) 0 by rw [List.replicate_succ']] at hmo;have hE2:=((HE.out.trans hx2).setCell (p:=⟨w.heap.size,k * 2,none⟩) (Nat.le_refl _) (.string (I (0:Rat).num))).setCell (p:=⟨w.heap.size,k * 2+1,none⟩) (Nat.le_refl _) (.string (I (((0:Rat).den:Nat):Int)));clear hx2 hpt2;have Hmo:=hid hmo;have HE2:=hid hE2;clear hmo hE2;go_wp2_with fail
   go_roundw
   case rel=>exact ⟨k+1,by go_num,by omega,Hmo.out,HE2.out⟩
   case measure=>simp [zag];omega
  ·obtain rfl:k=n:=by omega
   have hfu:=Hpt.out.full (by rw [List.length_replicate]);have Hfu:=hid hfu;clear hfu;go_wp2
   go_ret
   exact ⟨rfl,Hfu.out,HE.out⟩
theorem zhL.put {w:World}{B g n:Nat}(k:zhL w B g n [])(i j:Nat)(u v:Value):zhL ((w.setCell ⟨g,i,none⟩ u).setCell ⟨g,j,none⟩ v) B g n []:=by
 obtain ⟨xs,h1,_⟩:=k;exact ⟨_,((h1.stored i u).1.stored j v).1,rfl⟩
theorem zhN {w:World}{B g n:Nat}{x:List Rat}(h:zf4 w B (.slice (some ⟨g,0,none⟩) n n) x)(hx:x.length=n):zhL w B g n []:=by
 unfold zf4 at h;rw [hx] at h;exact ⟨_,h,rfl⟩
def KS (w w':World)(g n b:Nat)(u v:Value):Prop:=Ext w w'∧zhL w' w.heap.size g n []∧zdK w' b u v
theorem KS.ext {w w' w2:World}{g n b:Nat}{u v:Value}(h:KS w w' g n b u v)(hx:Ext w' w2):KS w w2 g n b u v:=⟨h.1.trans hx,h.2.1.ext hx,h.2.2.ext hx⟩
theorem KS.put {w w':World}{g n b:Nat}{u v:Value}(h:KS w w' g n b u v)(hg:w.heap.size≤g)(hne:b ≠ g)(i j:Nat)(x y:Value):KS w ((w'.setCell ⟨g,i,none⟩ x).setCell ⟨g,j,none⟩ y) g n b u v :=
 ⟨(h.1.setCell hg _).setCell hg _,h.2.1.put i j x y,(heap_setCell_other _ ⟨g,j,none⟩ b y hne).trans ((heap_setCell_other w' ⟨g,i,none⟩ b x hne).trans h.2.2)⟩
theorem KS.all {w w':World}{g n b k:Nat}{u v f0 f1:Value}{a0 a1:Addr}(h:KS w w' g n b u v)(hk:k<n)(h0:w.cell? a0=some f0)(h1:w.cell? a1=some f1) :
  KS w w' g n b u v∧w'.cell? ⟨g,k * 2,none⟩=some (zdL w' g (k * 2))∧w'.cell? ⟨g,k * 2+1,none⟩=some (zdL w' g (k * 2+1))∧w'.frozen? ⟨g,k * 2,none⟩=false∧w'.frozen? ⟨g,k * 2+1,none⟩=false∧w'.cell? ⟨b,0,none⟩=some u∧w'.cell? ⟨b,1,none⟩=some v∧w'.cell? a0=some f0∧w'.cell? a1=some f1:=by
 obtain ⟨e1,e2,e3,e4⟩:=h.2.1.cell hk;exact ⟨h,e1,e2,e3,e4,h.2.2.c0,h.2.2.c1,h.1.cell h0,h.1.cell h1⟩
theorem zhO {w:World}{B g n:Nat}{x:List Rat}{k:Nat}{r:Rat}(h:zf4 w B (.slice (some ⟨g,0,none⟩) n n) x)(hx:x.length=n)(hr:x[k]?=some r):zdL w g (k * 2)=.string (I r.num)∧zdL w g (k * 2+1)=.string (I (r.den:Int)):=by
 unfold zf4 at h;rw [hx] at h;obtain ⟨hk,_⟩:=List.getElem?_eq_some_iff.1 hr;obtain ⟨q1,q2⟩:=zf3 hr;have e1:=h.cellAt (k * 2) (by omega);have e2:=h.cellAt (k * 2+1) (by omega);rw [q1] at e1;rw [q2] at e2;unfold zdL;exact ⟨by rw [e1];rfl,by rw [e2];rfl⟩
theorem zhP {w:World}{B g n:Nat}{x:List Rat}{k:Nat}(h:zf4 w B (.slice (some ⟨g,0,none⟩) n n) x)(hx:x.length=n)(hk:k<n)(r:Rat):zf4 ((w.setCell ⟨g,k * 2,none⟩ (.string (I r.num))).setCell ⟨g,k * 2+1,none⟩ (.string (I (r.den:Int)))) B (.slice (some ⟨g,0,none⟩) n n) (x.set k r):=by
 unfold zf4 at h ⊢;rw [hx] at h;rw [List.length_set,hx,← zhK (by omega)];exact ((h.stored (k * 2) _).1.stored (k * 2+1) _).1
theorem zhQ (n:Nat)(vl vf:Value)(rs:List Qw)(fs:List Rat)(w:World)(he:Env w)(hl:RdM w vl rs)(hf:Rd w vf fs)(hn:n≤1000)(hlen:rs.length≤fs.length)(hr10:rs.length≤10)
  (hx:∀ r∈rs,r.x.length=n∧∀ q∈r.x,Ft 400 q) (hff:∀ f∈fs,Ft 400 f) :
  Calls Tryz.prog 77 #[.int .i64 n,vl,vf] w fun e w'=>e=.returned (.slice (some ⟨w.heap.size,0,none⟩) n n)∧zf4 w' w.heap.size (.slice (some ⟨w.heap.size,0,none⟩) n n) (zh7 n (rs.map Qw.x) fs rs.length)∧Ext w w':=by
 have hz:=zhM n w he hn;obtain ⟨hs,hr⟩:=hl;obtain ⟨al,cl,rfl,_,_,hcl⟩:=hs.parts;obtain ⟨af,cf,rfl,_,_,hcf⟩:=hf.parts;rw [zf7] at *;have hml:(rs.map Qw.x).length=rs.length:=List.length_map _;have hsl:=fun i (h:i≤rs.length)=>zh9 (n:=n) (xs:=rs.map Qw.x) (fs:=fs) (by intro x h;obtain ⟨r,hr,rfl⟩:=List.mem_map.1 h;exact (hx r hr).1) i (by omega);have hsf:=fun i (h:i≤rs.length)=>zhB (n:=n) (xs:=rs.map Qw.x) (fs:=fs) (by intro x h;obtain ⟨r,hr,rfl⟩:=List.mem_map.1 h;exact (hx r hr).2) hff (by omega) i (by omega);have hst:=fun i (h:i<rs.length)(r:Qw)(hr:rs[i]?=some r)(f:Rat)(hf:fs[i]?=some f)=>show zh7 n (rs.map Qw.x) fs (i+1)=zh6 (zh7 n (rs.map Qw.x) fs i) r.x f by
  rw [zh7,List.getD_eq_getElem?_getD,List.getElem?_map,hr,List.getD_eq_getElem?_getD,hf];rfl
 have hsp:=fun (r:Qw)(h:r∈rs)=>(hr r h).parts;have Hz:=hid hz;have Hcl:=hid hcl;have Hcf:=hid hcf;have Hsl:=hid hsl;have Hsf:=hid hsf;have Hst:=hid hst;have Hsp:=hid hsp;have Hx:=hid hx;have Hff:=hid hff;have Hlen:=hid hlen;have Hml:=hid hml;have He:=hid he;clear hz hcl hcf hsl hsf hst hsp hx hff hlen hml he;clear hs hf hr;go_enter Tryz.func77,Tryz.ntmps77
 go_wp2_with fail
 refine Hz.out.mono ?_;rintro e w1 ⟨rfl,ho1,hx1⟩;have Ho1:=hid ho1;have Hx1:=hid hx1;clear ho1 hx1;go_wp2_with fail
 go_loopw [8,9,10,11,16,21,22,23] (fun v8 v9 v10 v11 v16 v21 v22 v23 wr=>∃ i:Nat,v16=.int .i64 i∧i≤rs.length∧zf4 wr w.heap.size (.slice (some ⟨w.heap.size,0,none⟩) n n) (zh7 n (rs.map Qw.x) fs i)∧Ext w wr) (fun _ _ _ _ v16 _ _ _ _=>rs.length - (zag v16).toNat)
 case atStart=>exact ⟨0,rfl,Nat.zero_le _,Ho1.out,Hx1.out⟩
 case round =>
  obtain ⟨i,rfl,hi,ho,hE⟩:=hrel;have Ho:=hid ho;have HE:=hid hE;clear ho hE;by_cases hil:i<rs.length
  ·obtain ⟨r,hr⟩:∃ r,rs[i]?=some r:=⟨_,List.getElem?_eq_getElem hil⟩;obtain ⟨f,hfi⟩:∃ f,fs[i]?=some f:=⟨_,List.getElem?_eq_getElem (by have:=Hlen.out;omega)⟩;have hmem:=List.mem_of_getElem? hr;obtain ⟨b,off,rfl,hc0⟩:=Hcl.out i r.u (by unfold qwc;rw [List.getElem?_map,hr];rfl);have hcu:=HE.out.cell hc0;obtain ⟨bf,of,rfl,hf0,hf1⟩:=Hcf.out i f hfi;obtain ⟨ax,cx,ex,_,_,hcx⟩:=Hsp.out r hmem;obtain ⟨hxn,hxf⟩:=Hx.out r hmem;have hff1:=Hff.out f (List.mem_of_getElem? hfi);have hstep:=Hst.out i hil r hr f hfi;have hol:=Hsl.out i hi;have hof:=Hsf.out i hi;rw [ex,hxn] at hcu;have hi0:(0:Int)≤(i:Int):=(by omega);have hi1:(i:Int)<(rs.length:Int):=(by omega);have hi2:(i:Int)<(fs.length:Int):=(by have:=Hlen.out;omega);generalize hse:zh7 n (rs.map Qw.x) fs (i+1)=s1 at *;generalize zh7 n (rs.map Qw.x) fs i=o1 at *;generalize r.x=x at *;have hsl1:s1.length=n:=(by rw [hstep,zh8 (by rw [hxn,hol]),hol]);have Hcx:=hid hcx;have Hxf:=hid hxf;have Hff1:=hid hff1;have Hstep:=hid hstep;have Hol:=hid hol;have Hof:=hid hof;have Hxn:=hid hxn;have Hf0:=hid hf0;have Hf1:=hid hf1;have Hsl1:=hid hsl1;have Hr:=hid hr;have Hfi:=hid hfi;have Hse:=hid hse;clear hcx hxf hff1 hstep hol hof hxn hf0 hf1 hsl1 hr hfi hse;clear hc0 ex hmem;obtain ⟨wa,hwa⟩:∃ wa,wa=wr:=⟨_,rfl⟩;subst hwa;go_wp2_with fail
   go_loopw [10,11,23] (fun v10 v11 v23 wr=>∃ j:Nat,v23=.int .i64 j∧j≤n∧zf4 wr w.heap.size (.slice (some ⟨w.heap.size,0,none⟩) n n) (zhC o1 s1 j)∧Ext w wr) (fun _ _ v23 _=>n - (zag v23).toNat)
   case atStart=>exact ⟨0,rfl,Nat.zero_le _,Ho.out,HE.out⟩
   case round =>
    obtain ⟨j,rfl,hj,ho2,hE2⟩:=hrel;have Ho2:=hid ho2;have HE2:=hid hE2;clear ho2 hE2;by_cases hjn:j<n
    ·obtain ⟨q,hq⟩:∃ q,x[j]?=some q:=⟨_,List.getElem?_eq_getElem (by rw [Hxn.out];exact hjn)⟩;obtain ⟨a,ha⟩:∃ a,o1[j]?=some a:=⟨_,List.getElem?_eq_getElem (by rw [Hol.out];exact hjn)⟩;obtain ⟨b2,off2,e2,hq0,hq1⟩:=Hcx.out j q hq;subst e2;have h20:=HE2.out.cell hq0;have h21:=HE2.out.cell hq1;have hs1:s1[j]?=some (a+q * f):=(by rw [Hstep.out];exact zhH ha hq);have hmu:=fun W (h:Ext w W)=>ze2 q f W (He.out.ext h) ((Hxf.out q (List.mem_of_getElem? hq)).mono (by omega)) (Hff1.out.mono (by omega));have had:=fun W (h:Ext w W)=>ze1 a (q * f) W (He.out.ext h) ((Hof.out a (List.mem_of_getElem? ha)).mono (by omega)) ((zh4 (Hxf.out q (List.mem_of_getElem? hq)) Hff1.out).mono (by omega));have hs1n:=Hsl1.out;have hon:=Hol.out;obtain ⟨hv0,hv1⟩:=zhO Ho2.out (by rw [zhD (by rw [hs1n,hon]) (by omega),hon]) (by rw [zhE (by rw [hs1n,hon]) (by omega)];exact ha);have hset:(zhC o1 s1 j).set j (a+q * f)=zhC o1 s1 (j+1):=zhF (by rw [hs1n,hon]) (by omega) _ hs1;have hml2:(zhC o1 s1 j).length=n:=(by rw [zhD (by rw [hs1n,hon]) (by omega),hon]);have hfin:=fun W (h:zf4 W w.heap.size (.slice (some ⟨w.heap.size,0,none⟩) n n) (zhC o1 s1 j))=>zhP h hml2 hjn (a+q * f);rw [hset] at hfin;have k0:=HE2.out.cell Hf0.out;have k1:=HE2.out.cell Hf1.out;have hj0:(0:Int)≤(j:Int):=(by omega);have hj1:(j:Int)<(n:Int):=(by omega);have hi0:(0:Int)≤(i:Int):=(by omega);have hi1:(i:Int)<(fs.length:Int):=(by have:=Hlen.out;omega);unfold Rv at hmu had;generalize I (a+q * f).num=st at *;generalize I (((a+q * f).den:Nat):Int)=su at *;generalize I (q * f).num=sm at *;generalize I (((q * f).den:Nat):Int)=sn at *;generalize I a.num=sa at *;generalize I (a.den:Int)=sb at *;generalize I q.num=sq at *;generalize I (q.den:Int)=sr at *;generalize I f.num=sf at *;generalize I (f.den:Int)=sg at *;obtain ⟨c0,c1,z0,z1⟩:=(zhN Ho2.out hml2).cell hjn;rw [hv0] at c0;rw [hv1] at c1;have hxw:Ext wr (wr.alloc (.cells #[.string sq,.string sr] 57)):=(Ext.refl wr).alloc _;have hEb:Ext w (wr.alloc (.cells #[.string sq,.string sr] 57)):=HE2.out.alloc _;have hbx:zdK (wr.alloc (.cells #[.string sq,.string sr] 57)) wr.heap.size (.string sq) (.string sr):=zdK.new _ _ _;have how:=hxw.ownQ Ho2.out;have hprt:=(zhN Ho2.out hml2).ext hxw;have d0:=hxw.cell c0;have d1:=hxw.cell c1;have k0:=hxw.cell k0;have k1:=hxw.cell k1;have z0:=(hprt.cell hjn).2.2.1;have z1:=(hprt.cell hjn).2.2.2;have x0:=hbx.c0;have x1:=hbx.c1;clear hq0 hq1 hv0 hv1 hset hml2 hs1 hs1n hon hq ha c0 c1 hxw hbx;have Hmu:=hid hmu;have Had:=hid had;have Hfin:=hid hfin;have How:=hid how;have Hprt:=hid hprt;have HEb:=hid hEb;clear hmu had hfin how hprt hEb;have Hj:=hid hjn;go_wp2_with fail
     clear h20 h21;generalize hV:wr.alloc (.cells #[.string sq,.string sr] 57)=V at *;have D0:=hid d0;have D1:=hid d1;go_region_law (first
      | (go_simp;go_at_call 119;refine (Hmu.out _ HEb.out.drew).mono ?_;rintro e9 V4 ⟨rfl,hxz⟩;have hxa:Ext V V4:=((Ext.refl V).drew).trans hxz;clear hxz;have g0:=hxa.cell d0;have g1:=hxa.cell d1;have HE4:=hid (HEb.out.trans hxa);have how4:=hxa.ownQ How.out;have hp4:=Hprt.out.ext hxa;have How4:=hid how4;have Hp4:=hid hp4;clear hxa how4 hp4)
      | (go_simp;go_at_call 118;refine (Had.out _ HE4.out).mono ?_;rintro e9 V5 ⟨rfl,hxb⟩;have hp5:=Hp4.out.ext hxb;obtain ⟨p0,p1,p2,p3⟩:=hp5.cell Hj.out;have HE5:=hid (HE4.out.trans hxb);have How5:=hid (hxb.ownQ How4.out);clear hxb hp5))
     all_goals
      have hfn:=Hfin.out V5 How5.out;have hfe:=(HE5.out.setCell (p:=⟨w.heap.size,j * 2,none⟩) (Nat.le_refl _) (.string st)).setCell (p:=⟨w.heap.size,j * 2+1,none⟩) (Nat.le_refl _) (.string su);clear p0 p1 p2 p3;generalize (V5.setCell ⟨w.heap.size,j * 2,none⟩ (.string st)).setCell ⟨w.heap.size,j * 2+1,none⟩ (.string su)=V6 at *;have Hfn:=hid hfn;have Hfe:=hid hfe;clear hfn hfe;go_wp2_with fail
      go_roundw
      case rel=>exact ⟨j+1,by go_num,by omega,Hfn.out,Hfe.out⟩
      case measure=>simp [zag];omega
    ·obtain rfl:j=n:=by omega
     have hos:=Ho2.out;rw [← Hol.out,zhG (by rw [Hsl1.out,Hol.out]),Hol.out] at hos;have Hos:=hid hos;clear hos;go_wp2_with fail
     go_roundw
     case rel=>exact ⟨i+1,by go_num,by omega,by rw [Hse.out];exact Hos.out,HE2.out⟩
     case measure=>simp [zag];omega
  ·obtain rfl:i=rs.length:=by omega
   go_wp2
   go_ret
   exact ⟨rfl,Ho.out,HE.out⟩
theorem zhR {w:World}{b:Nat}{us:List Value}{t:TypeId}(h:w.heap[b]?=some (.cells us.toArray t (0,0)))(hm:us.length≤maxLen):Sl w (.slice (some ⟨b,0,none⟩) us.length us.length) us :=
 .inr ⟨b,0,us.length,rfl,Nat.le_refl _,hm,fun i u hu=>by rw [Nat.zero_add];exact zen h hu⟩
theorem zhS {w:World}{b:Nat}{x:List Rat}{t:TypeId}(h:w.heap[b]?=some (.cells (rcs x).toArray t (0,0)))(hm:x.length≤maxLen):Rd w (.slice (some ⟨b,0,none⟩) x.length x.length) x :=
 .inr ⟨b,0,x.length,rfl,Nat.le_refl _,hm,fun i r hr=>by
  obtain ⟨q1,q2⟩:=zf3 hr;exact ⟨by rw [Nat.zero_add];exact zen h q1,by rw [Nat.zero_add];exact zen h q2⟩⟩
theorem zhT (vp:Value)(p:List Int)(w:World)(he:Env w)(hp:Sl w vp (zak p))(hpe:zee p=0) :
  Calls Tryz.prog 50 #[vp] w fun e w'=>e=.returned (.tuple #[.slice (some ⟨w.heap.size,0,none⟩) p.length p.length,.int .i64 0])∧zf4 w' w.heap.size (.slice (some ⟨w.heap.size,0,none⟩) p.length p.length) (List.replicate p.length 0)∧Ext w w':=by
 have hpl:=(zei hpe).2.1;have h1:=zef vp p w hp (by omega);rw [hpe] at h1;have h2:=zhM p.length w he (by omega);obtain ⟨ap,cp,rfl,_,_,_⟩:=hp.parts;rw [zam] at h1 ⊢;clear hp he hpe;have H1:=hid h1;have H2:=hid h2;clear h1 h2;go_enter Tryz.func50,Tryz.ntmps50
 go_wp2_with fail
 refine H1.out.mono ?_;rintro e W ⟨rfl,rfl⟩;go_wp2_with fail
 refine H2.out.mono ?_;rintro e w2 ⟨rfl,ho,hx⟩;have Ho:=hid ho;have Hx:=hid hx;clear ho hx;go_wp2
 go_ret2
 exact ⟨rfl,Ho.out,Hx.out⟩
theorem zhU (vp vl vf:Value)(p:List Int)(rs:List Qw)(fs:List Rat)(w:World)(he:Env w)(hp:Sl w vp (zak p))(hl:RdM w vl rs)(hf:Rd w vf fs)(hpe:zee p=0)(hlen:rs.length=fs.length)(hr10:rs.length≤10)
  (hx:∀ r∈rs,r.x.length=p.length∧∀ q∈r.x,Ft 30 q) (hff:∀ f∈fs,Ft 400 f) (hres:∀ q∈zh7 p.length (rs.map Qw.x) fs rs.length,Ft 30 q) :
  Calls Tryz.prog 48 #[vp,vl,vf] w fun e w'=>∃ g,e=.returned (.tuple #[.slice (some ⟨g,0,none⟩) p.length p.length,.int .i64 0])∧zf4 w' w.heap.size (.slice (some ⟨g,0,none⟩) p.length p.length) (zh7 p.length (rs.map Qw.x) fs rs.length)∧Ext w w':=by
 have hpl:=(zei hpe).2.1;have h1:=zfP vp vl p rs w he hp hl hpe (by omega) hx;have h2:=fun W (h:Ext w W)=>zfM vf fs W (he.ext h) (h.rd hf) (by omega) hff;have h3:=fun W (h:Ext w W)=>zhQ p.length vl vf rs fs W (he.ext h) (h.rdM hl) (h.rd hf) (by omega) (by omega) hr10 (fun r hr=>⟨(hx r hr).1,fun q hq=>((hx r hr).2 q hq).mono (by omega)⟩) hff;have hsl:=zh9 (n:=p.length) (xs:=rs.map Qw.x) (fs:=fs) (by intro x h;obtain ⟨r,hr,rfl⟩:=List.mem_map.1 h;exact (hx r hr).1) rs.length (by simp);generalize zh7 p.length (rs.map Qw.x) fs rs.length=s at *;have h4:=fun W g (h:zf4 W w.heap.size (.slice (some ⟨g,0,none⟩) p.length p.length) s)=>zfK _ s W h.rd (by omega) hres;obtain ⟨ap,cp,rfl,_,_,_⟩:=hp.parts;obtain ⟨hs,_⟩:=hl;obtain ⟨al,cl,rfl,_,_,_⟩:=hs.parts;obtain ⟨af,cf,rfl,_,_,_⟩:=hf.parts;rw [zam] at h1 ⊢;rw [zf7] at h1 h3 ⊢;rw [← hlen] at h2 h3 ⊢;clear hp he hpe hlen hx hff hres hs hf;have H1:=hid h1;have H2:=hid h2;have H3:=hid h3;have H4:=hid h4;have Hsl:=hid hsl;clear h1 h2 h3 h4 hsl;go_enter Tryz.func48,Tryz.ntmps48
 go_wp2_with fail
 refine (H1.out).mono ?_;rintro e w1 ⟨rfl,hx1⟩;have Hx1:=hid hx1;clear hx1;go_wp2_with fail
 refine (H2.out w1 Hx1.out).mono ?_;rintro e w2 ⟨rfl,hx2⟩;have Hx2:=hid (Hx1.out.trans hx2);clear hx2;go_wp2_with fail
 refine (H3.out w2 Hx2.out).mono ?_;rintro e w3 ⟨rfl,ho3,hx3⟩;have ho3':zf4 w3 w.heap.size (.slice (some ⟨w2.heap.size,0,none⟩) p.length p.length) s:=ho3.mono Hx2.out.size;have Ho3:=hid ho3';have Hx3:=hid (Hx2.out.trans hx3);clear ho3 ho3' hx3;go_wp2_with fail
 refine (H4.out w3 _ Ho3.out).mono ?_;rintro e w4 ⟨rfl,hx4⟩;have Ho4:=hid (hx4.ownQ Ho3.out);have Hx4:=hid (Hx3.out.trans hx4);clear hx4;go_wp2
 go_ret2
 exact ⟨_,rfl,Ho4.out,Hx4.out⟩
theorem zhV : Ft 1 (1:Rat):=⟨Dec.nDigits_le (by omega) (by decide),Dec.nDigits_le (by omega) (by decide)⟩
theorem zhW : Ft 400 (1:Rat):=zhV.mono (by omega)
theorem zhX : Ft 400 (-1:Rat):=zhW.neg
theorem zhY (vp va vb:Value)(p:List Int)(x y:List Rat)(w:World)(he:Env w)(hp:Sl w vp (zak p))(ha:Rd w va x)(hb:Rd w vb y)(hpe:zee p=0)(hx:x.length=p.length)(hy:y.length=p.length)(hxf:∀ q∈x,Ft 30 q)(hyf:∀ q∈y,Ft 30 q)(hres:∀ q∈zeT x y,Ft 30 q) :
  Calls Tryz.prog 38 #[vp,va,vb] w fun e w'=>∃ g,e=.returned (.tuple #[.slice (some ⟨g,0,none⟩) p.length p.length,.int .i64 0])∧zf4 w' w.heap.size (.slice (some ⟨g,0,none⟩) p.length p.length) (zeT x y)∧Ext w w':=by
 have hua:=zf8 ha;have hub:=zf8 hb;have hsum:zh7 p.length [x,y] [1,-1] 2=zeT x y:=zhI hx hy;have hco:=fun W vl vf (hE:Ext w W)(hl:RdM W vl [⟨x,va,hua⟩,⟨y,vb,hub⟩])(hf:Rd W vf [1,-1])=>zhU vp vl vf p [⟨x,va,hua⟩,⟨y,vb,hub⟩] [1,-1] W (he.ext hE) (hE.sl hp) hl hf hpe rfl (by simp) (by
   intro r hr;rcases List.mem_cons.1 hr with rfl | hr
   ·exact ⟨hx,hxf⟩
   ·rw [List.mem_singleton] at hr;subst hr;exact ⟨hy,hyf⟩) (by
   intro f hf;simp only [List.mem_cons,List.not_mem_nil,or_false] at hf;rcases hf with rfl | rfl
   ·exact zhW
   ·exact zhX) (by
   show ∀ q∈zh7 p.length [x,y] [1,-1] 2,_;rw [hsum];exact hres)
 have hco2:∀ W vl vf,Ext w W→RdM W vl [⟨x,va,hua⟩,⟨y,vb,hub⟩]→Rd W vf [1,-1]→Calls Tryz.prog 48 #[vp,vl,vf] W fun e w'=>∃ g,e=.returned (.tuple #[.slice (some ⟨g,0,none⟩) p.length p.length,.int .i64 0])∧zf4 w' W.heap.size (.slice (some ⟨g,0,none⟩) p.length p.length) (zeT x y)∧Ext W w':=by
  intro W vl vf hE hl hf;have:=hco W vl vf hE hl hf;change Calls _ _ _ _ fun e w'=>∃ g,e=.returned (.tuple #[.slice (some ⟨g,0,none⟩) p.length p.length,.int .i64 0])∧zf4 w' W.heap.size (.slice (some ⟨g,0,none⟩) p.length p.length) (zh7 p.length [x,y] [1,-1] 2)∧Ext W w' at this;rwa [hsum] at this
 have hn1:=fun W (h:Ext w W)=>zfA 1 W (he.ext h) (by omega) (by omega);have hn2:=fun W (h:Ext w W)=>zfA (-1) W (he.ext h) (by omega) (by omega);rw [zf9] at hn1 hn2;have hra:=fun W (h:Ext w W)=>h.rd ha;have hrb:=fun W (h:Ext w W)=>h.rd hb;have hbl:Ext w (w.alloc (.cells #[va,vb] 32)):=(Ext.refl w).alloc _;have hbc:(w.alloc (.cells #[va,vb] 32)).heap[w.heap.size]?=some (.cells ([va,vb]:List Value).toArray 32 (0,0)):=World.alloc_heap_new w _;have hone:rcs [1,-1]=[.string (I 1),.string ⟨#[49]⟩,.string (I (-1)),.string ⟨#[49]⟩]:=by
  show [Value.string (I 1),.string (I ((1:Nat):Int)),.string (I (-1)),.string (I ((1:Nat):Int))]=_;rw [zav,zbl]
 obtain ⟨ap,cp,rfl,_,_,_⟩:=hp.parts;obtain ⟨aa,ca,rfl,_,_,_⟩:=ha.parts;obtain ⟨ab,cb,rfl,_,_,_⟩:=hb.parts;rw [zam] at hco2 ⊢;generalize I 1=s1 at *;generalize I (-1)=s2 at *;clear hp ha hb he hpe hxf hyf hres hco hsum;have Hxl:=hid hx;have Hyl:=hid hy;clear hx hy;have Hco2:=hid hco2;have Hn1:=hid hn1;have Hn2:=hid hn2;have Hra:=hid hra;have Hrb:=hid hrb;have Hbl:=hid hbl;have Hbc:=hid hbc;have Hone:=hid hone;clear hco2 hn1 hn2 hra hrb hbl hbc hone;go_enter Tryz.func38,Tryz.ntmps38
 go_wp2_with fail
 refine (Hn1.out _ Hbl.out).mono ?_;rintro e w1 ⟨rfl,hx1⟩;have Hx1:=hid (Hbl.out.trans hx1);have Hb1:=hid (hx1.heap Hbc.out);clear hx1;go_wp2_with fail
 refine (Hn2.out w1 Hx1.out).mono ?_;rintro e w2 ⟨rfl,hx2⟩;have hx3:Ext w2 (w2.alloc (.cells #[.string s1,.string ⟨#[49]⟩,.string s2,.string ⟨#[49]⟩] 57)):=(Ext.refl w2).alloc _;have hE3:Ext w (w2.alloc (.cells #[.string s1,.string ⟨#[49]⟩,.string s2,.string ⟨#[49]⟩] 57)):=(Hx1.out.trans hx2).trans hx3;have hl3:RdM (w2.alloc (.cells #[.string s1,.string ⟨#[49]⟩,.string s2,.string ⟨#[49]⟩] 57)) (.slice (some ⟨w.heap.size,0,none⟩) 2 2) [⟨x,.slice aa x.length ca,hua⟩,⟨y,.slice ab y.length cb,hub⟩] :=
  ⟨zhR ((hx2.trans hx3).heap Hb1.out) (by unfold maxLen;simp),by
   intro r hr;rcases List.mem_cons.1 hr with rfl | hr
   ·exact Hra.out _ hE3
   ·rw [List.mem_singleton] at hr;subst hr;exact Hrb.out _ hE3⟩
 have hf3:Rd (w2.alloc (.cells #[.string s1,.string ⟨#[49]⟩,.string s2,.string ⟨#[49]⟩] 57)) (.slice (some ⟨w2.heap.size,0,none⟩) 2 2) [1,-1] :=
  zhS (x:=[1,-1]) (by rw [Hone.out];exact World.alloc_heap_new w2 _) (by unfold maxLen;simp)
 have hcc:=Hco2.out _ _ _ hE3 hl3 hf3;have Hcc:=hid hcc;have HE3:=hid hE3;clear hx2 hx3 hl3 hf3 hcc hE3;go_wp2_with fail
 refine Hcc.out.mono ?_;rintro e w4 ⟨g,rfl,ho4,hx4⟩;have Ho4:=hid (ho4.mono HE3.out.size);have Hx4:=hid (HE3.out.trans hx4);clear ho4 hx4;go_wp2
 go_ret2
 exact ⟨g,rfl,Ho4.out,Hx4.out⟩
theorem zhZ (vp va:Value)(p:List Int)(x:List Rat)(k:Rat)(w:World)(he:Env w)(hp:Sl w vp (zak p))(ha:Rd w va x)(hpe:zee p=0)(hx:x.length=p.length)(hxf:∀ q∈x,Ft 30 q)(hk:Ft 400 k)(hres:∀ q∈zeU x k,Ft 30 q) :
  Calls Tryz.prog 21 #[vp,va,Rv k] w fun e w'=>∃ g,e=.returned (.tuple #[.slice (some ⟨g,0,none⟩) p.length p.length,.int .i64 0])∧zf4 w' w.heap.size (.slice (some ⟨g,0,none⟩) p.length p.length) (zeU x k)∧Ext w w':=by
 have hua:=zf8 ha;have hsum:zh7 p.length [x] [k] 1=zeU x k:=zhJ k hx;have hco2:∀ W vl vf,Ext w W→RdM W vl [⟨x,va,hua⟩]→Rd W vf [k]→Calls Tryz.prog 48 #[vp,vl,vf] W fun e w'=>∃ g,e=.returned (.tuple #[.slice (some ⟨g,0,none⟩) p.length p.length,.int .i64 0])∧zf4 w' W.heap.size (.slice (some ⟨g,0,none⟩) p.length p.length) (zeU x k)∧Ext W w':=by
  intro W vl vf hE hl hf;have:=zhU vp vl vf p [⟨x,va,hua⟩] [k] W (he.ext hE) (hE.sl hp) hl hf hpe rfl (by simp) (by
   intro r hr;rw [List.mem_singleton] at hr;subst hr;exact ⟨hx,hxf⟩) (by
   intro f hf;rw [List.mem_singleton] at hf;subst hf;exact hk) (by
   show ∀ q∈zh7 p.length [x] [k] 1,_;rw [hsum];exact hres)
  change Calls _ _ _ _ fun e w'=>∃ g,e=.returned (.tuple #[.slice (some ⟨g,0,none⟩) p.length p.length,.int .i64 0])∧zf4 w' W.heap.size (.slice (some ⟨g,0,none⟩) p.length p.length) (zh7 p.length [x] [k] 1)∧Ext W w' at this;rwa [hsum] at this
 have hra:=fun W (h:Ext w W)=>h.rd ha;have hone:rcs [k]=[.string (I k.num),.string (I (k.den:Int))]:=rfl;obtain ⟨ap,cp,rfl,_,_,_⟩:=hp.parts;obtain ⟨aa,ca,rfl,_,_,_⟩:=ha.parts;rw [zam] at hco2 ⊢;unfold Rv;generalize I k.num=s1 at *;generalize I (k.den:Int)=s2 at *;have e1:Ext w (w.alloc (.cells #[.string s1,.string s2] 57)):=(Ext.refl w).alloc _;have e2:Ext w ((w.alloc (.cells #[.string s1,.string s2] 57)).alloc (.cells #[.slice aa x.length ca] 32)):=e1.alloc _;have h2:((w.alloc (.cells #[.string s1,.string s2] 57)).alloc (.cells #[.slice aa x.length ca] 32)).heap[w.heap.size+1]?=some (.cells ([.slice aa x.length ca]:List Value).toArray 32 (0,0)):=by
  have:=World.alloc_heap_new (w.alloc (.cells #[.string s1,.string s2] 57)) (.cells #[.slice aa x.length ca] 32);rwa [World.size_alloc] at this
 have e3:Ext w (((w.alloc (.cells #[.string s1,.string s2] 57)).alloc (.cells #[.slice aa x.length ca] 32)).alloc (.cells #[.string s1,.string s2] 57)):=e2.alloc _;have h3:(((w.alloc (.cells #[.string s1,.string s2] 57)).alloc (.cells #[.slice aa x.length ca] 32)).alloc (.cells #[.string s1,.string s2] 57)).heap[w.heap.size+1+1]?=some (.cells (rcs [k]).toArray 57 (0,0)):=by
  have:=World.alloc_heap_new ((w.alloc (.cells #[.string s1,.string s2] 57)).alloc (.cells #[.slice aa x.length ca] 32)) (.cells #[.string s1,.string s2] 57);rw [World.size_alloc,World.size_alloc] at this;rwa [hone]
 have hl3:RdM (((w.alloc (.cells #[.string s1,.string s2] 57)).alloc (.cells #[.slice aa x.length ca] 32)).alloc (.cells #[.string s1,.string s2] 57)) (.slice (some ⟨w.heap.size+1,0,none⟩) 1 1) [⟨x,.slice aa x.length ca,hua⟩] :=
  ⟨zhR (((Ext.refl _).alloc _).heap h2) (by unfold maxLen;simp),by
   intro r hr;rw [List.mem_singleton] at hr;subst hr;exact hra _ e3⟩
 have hf3:=zhS (x:=[k]) h3 (by unfold maxLen;simp);have hcc:=hco2 _ _ _ e3 hl3 hf3;clear hp ha he hpe hxf hk hres hsum hl3 hf3 h2 h3 e1 e2 hra hco2 hone hx;have Hcc:=hid hcc;have E3:=hid e3;clear hcc e3;go_enter Tryz.func21,Tryz.ntmps21
 go_wp2_with fail
 refine Hcc.out.mono ?_;rintro e w4 ⟨g,rfl,ho4,hx4⟩;have Ho4:=hid (ho4.mono E3.out.size);have Hx4:=hid (E3.out.trans hx4);clear ho4 hx4;go_wp2
 go_ret2
 exact ⟨g,rfl,Ho4.out,Hx4.out⟩
end
section
open Go.RowKit Go.Lib
attribute [local go_sem] Oper.semAt_some
theorem zia (tv:Value)(l:List (Int × Int))(d:Nat)(w:World)(ht:TmV w tv l d)(hl:l.length≤100)(hok:∀ e∈l,okE 10000000 e)(hne:l ≠ [])(hf:zfd l) :
  Calls Tryz.prog 110 #[tv] w fun e w'=>e=.returned (.int .i64 (zfc l))∧Ext w w':=by
 have hn:=fun W (hE:Ext w W)=>zh2 tv l d 10000000 W (ht.ext hE) hl (by omega) (Int.le_refl _) hok;have Hn:=hid hn;clear hn;have hs:(0≤lowT l→zfc l=1)∧(lowT l<0→zfc l=-1∧higT l≤0):=by
  unfold zfc;rw [if_neg hne];refine ⟨fun h=>by rw [if_pos h],fun h=>⟨by rw [if_neg (by omega)],?_⟩⟩;rcases hf.cases with h1 | h1 | h1
  ·exact absurd h1 hne
  ·omega
  ·omega
 have Hs:=hid hs;clear hs hf hok;obtain ⟨vp,vf,rfl,hp,hfa⟩:=ht;obtain ⟨aa,ca,rfl,_,_,_⟩:=hp.parts;obtain ⟨ab,cb,rfl,_,_,_⟩:=hfa.parts;clear hp hfa;generalize (zak (l.map Prod.fst)).length=la at *;generalize (zgc (l.map Prod.snd)).length=lb at *;generalize zfc l=sg at *;generalize lowT l=lo at *;generalize higT l=hi at *;have hE0:Ext w (w.alloc (.cells #[.slice aa la ca,.slice ab lb cb,.string (I ((d:Nat):Int))] 110)):=(Ext.refl w).alloc _;have HE0:=hid hE0;clear hE0;go_enter Tryz.func110,Tryz.ntmps110
 go_wp2_with fail
 refine (Hn.out _ HE0.out).mono ?_;rintro e w1 ⟨rfl,hx1⟩;have Hx1:=hid (HE0.out.trans hx1);clear hx1;by_cases h0:0≤lo
 ·obtain rfl:=Hs.out.1 h0;go_wp2
  go_ret
  exact ⟨rfl,Hx1.out⟩
 ·obtain ⟨h1,h2⟩:=Hs.out.2 (by omega);subst h1;go_wp2
  go_ret
  exact ⟨rfl,Hx1.out⟩
theorem zib (tv:Value)(l:List (Int × Int))(d:Nat)(w:World)(ht:TmV w tv l d)(hl:l.length≤100)(hok:∀ e∈l,okE 10000000 e)(hf:zfd l) :
  Calls Tryz.prog 69 #[tv] w fun e w'=>e=.returned (.int .i64 (zfc l))∧Ext w w':=by
 have hq:=fun W (hE:Ext w W)(hne:l ≠ [])=>zia tv l d W (ht.ext hE) hl hok hne hf;have Hq:=hid hq;clear hq;have hs:(l.length=0→zfc l=0∧l=[])∧(l.length ≠ 0→zfc l ≠ 0∧l ≠ []):=by
  unfold zfc;constructor
  ·intro h;have:l=[]:=List.length_eq_zero_iff.1 h;exact ⟨by rw [if_pos this],this⟩
  ·intro h;have:l ≠ []:=fun e=>h (by rw [e];rfl);refine ⟨?_,this⟩;rw [if_neg this];split <;> decide
 have Hs:=hid hs;clear hs hf hok;obtain ⟨vp,vf,rfl,hp,hfa⟩:=ht;obtain ⟨aa,ca,rfl,_,_,_⟩:=hp.parts;obtain ⟨ab,cb,rfl,_,_,_⟩:=hfa.parts;clear hp hfa;rw [zam,List.length_map] at *;generalize (zgc (l.map Prod.snd)).length=lb at *;generalize zfc l=sg at *;have hE0:Ext w (w.alloc (.cells #[.slice aa l.length ca,.slice ab lb cb,.string (I ((d:Nat):Int))] 110)):=(Ext.refl w).alloc _;have HE0:=hid hE0;clear hE0;go_enter Tryz.func69,Tryz.ntmps69
 go_wp2_with fail
 go_step3
 by_cases h0:l.length=0
 ·obtain ⟨rfl,rfl⟩:=Hs.out.1 h0;go_wp2
  try rw [Exit.noGoto_ret]
  go_ret
  exact ⟨rfl,HE0.out⟩
 ·obtain ⟨h1,h2⟩:=Hs.out.2 h0;have Hq2:=hid fun W hE=>Hq.out W hE h2;clear Hq h2;go_wp2_with fail
  refine (Hq2.out _ HE0.out).mono ?_;rintro e w1 ⟨rfl,hx1⟩;have Hx1:=hid (HE0.out.trans hx1);clear hx1;go_wp2
  try rw [Exit.noGoto_ret]
  go_ret
  exact ⟨rfl,Hx1.out⟩
theorem zic (vp v:Value)(p:List Int)(x:List Rat)(w:World)(he:Env w)(hp:Sl w vp (zak p))(hv:Rd w v x)(hpe:zee p=0)(hpl:p.length≤100)(hlen:x.length=p.length)(hx:∀ r∈x,Ft 30 r)(hok:∀ e∈tms p (dn x) x,okE 10000000 e)(hf:zfd (tms p (dn x) x)) :
  Calls Tryz.prog 45 #[vp,v] w fun e w'=>e=.returned (.tuple #[.int .i64 (zfc (tms p (dn x) x)),.int .i64 0])∧Ext w w':=by
 have h1:=zfO vp v p x w he hp hv hpe hlen hx;have h2:=fun W (hE:Ext w W)=>zgt vp v p x W (he.ext hE) (hE.sl hp) (hE.rd hv) hpl hlen hx;have hl:(tms p (dn x) x).length≤100:=by
  unfold tms;refine Nat.le_trans (List.length_filter_le _ _) ?_;rw [List.length_zip];omega
 have h3:=fun W tv (ht:TmV W tv (tms p (dn x) x) (dn x))=>zib tv _ _ W ht hl hok hf;generalize zfc (tms p (dn x) x)=sg at *;obtain ⟨ap,cp,rfl,_,_,_⟩:=hp.parts;obtain ⟨a,c,rfl,_,_,_⟩:=hv.parts;clear hp hv hx he hlen hpe hok hf hl hpl;have H1:=hid h1;have H2:=hid h2;have H3:=hid h3;clear h1 h2 h3;go_enter Tryz.func45,Tryz.ntmps45
 go_wp2_with fail
 refine (H1.out).mono ?_;rintro e w1 ⟨rfl,hx1⟩;have Hx1:=hid hx1;clear hx1;go_wp2_with fail
 refine (H2.out w1 Hx1.out).mono ?_;rintro e w2 ⟨tv,rfl,ht,hx2⟩;have Hx2:=hid (Hx1.out.trans hx2);have H4:=hid (H3.out w2 tv ht);obtain ⟨_,_,rfl,_,_⟩:=ht;clear hx2;go_wp2_with fail
 refine (H4.out).mono ?_;rintro e w3 ⟨rfl,hx3⟩;have Hx3:=hid (Hx2.out.trans hx3);clear hx3;go_wp2
 go_ret2
 exact ⟨rfl,Hx3.out⟩
end
end Go.Proofs.YtoehmpbipbbffaaGreatDoor
