/- Plain: sums of sizes; how long their numbers get. Walks: size's zero, Zero, sum, Combine, Sub, Add, Scale. Plain: what table.Rank and smith.Solve compute, step by step; none where a number grows too great (beyond 8000 digits) or the steps run out. Walk: size.Of of a right interval. (KEEPALL) -/
import Derived.Test.YtipkdebkdnbieaaGreatDoorPa08
import Derived.Test.YtipkdebkdnbieaaGreatDoorPa05
import Derived.Test.YtipkdebkdnbieaaGreatDoorPa09
import Derived.Test.YtipkdebkdnbieaaGreatDoorPa06
import Derived.Test.YtipkdebkdnbieaaGreatDoorPa12
set_option maxRecDepth 100000
set_option maxHeartbeats 4000000
namespace Go.Proofs.YtipkdebkdnbieaaGreatDoor
section
open Go.RowKit Go.Lib
theorem zir {n:Int}{d k l:Nat}(hd:0<d)(hn:nDigits n.natAbs≤k)(h2:nDigits d≤l):nDigits (mkRat n d).num.natAbs≤k∧nDigits (mkRat n d).den≤l:=by
 constructor
 ·refine Nat.le_trans (Dec.nDigits_mono ?_) hn;rw [zdF n d (by omega),Int.natAbs_tdiv];exact Nat.div_le_self _ _
 ·refine Nat.le_trans (Dec.nDigits_mono ?_) h2;rw [Rat.den_mkRat,if_neg (by omega)];exact Nat.div_le_self _ _
theorem zis {k l:Nat}{a b:Rat}(ha:Ft k a)(hb:Ft l b):Ft (k+l) (a * b):=by
 unfold Ft;rw [Rat.mul_def'];refine zir (Nat.mul_pos a.den_pos b.den_pos) ?_ ?_
 ·rw [Int.natAbs_mul];exact Nat.le_trans (zbD _ _) (Nat.add_le_add ha.1 hb.1)
 ·exact Nat.le_trans (zbD _ _) (Nat.add_le_add ha.2 hb.2)
theorem zit {k l:Nat}{a b:Rat}(ha:Ft k a)(hb:Ft l b):Ft (k+l+1) (a+b):=by
 unfold Ft;rw [Rat.add_def'];refine zir (Nat.mul_pos a.den_pos b.den_pos) ?_ ?_
 ·refine Nat.le_trans (Dec.nDigits_mono (Int.natAbs_add_le _ _)) ?_;refine zdj _ _ _ ?_ ?_
  ·rw [Int.natAbs_mul,Int.natAbs_natCast];exact Nat.le_trans (zbD _ _) (Nat.add_le_add ha.1 hb.2)
  ·rw [Int.natAbs_mul,Int.natAbs_natCast];have:=Nat.le_trans (zbD _ _) (Nat.add_le_add hb.1 ha.2);omega
 ·have:=Nat.le_trans (zbD _ _) (Nat.add_le_add ha.2 hb.2);omega
def ziu (o x:List Rat)(f:Rat):List Rat:=List.zipWith (fun a b=>a+b * f) o x
def ziv (n:Nat)(xs:List (List Rat))(fs:List Rat):Nat→List Rat
 | 0=>List.replicate n 0
 | i+1=>ziu (ziv n xs fs i) (xs.getD i []) (fs.getD i 0)
theorem ziw {o x:List Rat}{f:Rat}(h:x.length=o.length):(ziu o x f).length=o.length:=by unfold ziu;rw [List.length_zipWith,h,Nat.min_self]
theorem zix {n:Nat}{xs:List (List Rat)}{fs:List Rat}(h:∀ x∈xs,x.length=n):∀ i,i≤xs.length→(ziv n xs fs i).length=n
 | 0,_=>by simp [ziv]
 | i+1,hi=>by
  have ih:=zix h (fs:=fs) i (by omega);have hx:(xs.getD i []).length=n:=by
   rw [List.getD_eq_getElem?_getD,List.getElem?_eq_getElem (by omega)];exact h _ (List.getElem_mem _)
  rw [ziv,ziw (by rw [hx,ih]),ih]
theorem ziy : Ft 1 (0:Rat):=⟨Dec.nDigits_le (by omega) (by decide),Dec.nDigits_le (by omega) (by decide)⟩
theorem ziz {k:Nat}{o x:List Rat}{f:Rat}(ho:∀ q∈o,Ft k q)(hx:∀ q∈x,Ft 400 q)(hf:Ft 400 f):∀ q∈ziu o x f,Ft (k+801) q:=by
 intro q hq;unfold ziu at hq;obtain ⟨i,hi,rfl⟩:=List.getElem_of_mem hq;rw [List.length_zipWith] at hi;rw [List.getElem_zipWith];exact (zit (ho _ (List.getElem_mem _)) (zis (hx _ (List.getElem_mem (by omega))) hf)).mono (by omega)
theorem zi0 {n:Nat}{xs:List (List Rat)}{fs:List Rat}(h:∀ x∈xs,∀ q∈x,Ft 400 q)(hf:∀ f∈fs,Ft 400 f)(hl:xs.length≤fs.length):∀ i,i≤xs.length→∀ q∈ziv n xs fs i,Ft (801 * i+1) q
 | 0,_,q,hq=>by
  rw [ziv] at hq;rw [List.eq_of_mem_replicate hq];exact ziy
 | i+1,hi,q,hq=>by
  have ih:=zi0 (n:=n) h hf hl i (by omega);rw [ziv] at hq;have:=ziz ih ?_ ?_ q hq
  ·exact this.mono (by omega)
  ·rw [List.getD_eq_getElem?_getD,List.getElem?_eq_getElem (by omega)];exact h _ (List.getElem_mem _)
  ·rw [List.getD_eq_getElem?_getD,List.getElem?_eq_getElem (by omega)];exact hf _ (List.getElem_mem _)
def zi1 (o s:List Rat)(j:Nat):List Rat:=s.take j++o.drop j
theorem zi2 {o s:List Rat}{j:Nat}(h:s.length=o.length)(hj:j≤o.length):(zi1 o s j).length=o.length:=by unfold zi1;rw [List.length_append,List.length_take,List.length_drop];omega
theorem zi3 {o s:List Rat}{j:Nat}(h:s.length=o.length)(hj:j<o.length):(zi1 o s j)[j]?=o[j]?:=by
 unfold zi1;rw [List.getElem?_append_right (by rw [List.length_take];omega),List.length_take,List.getElem?_drop];congr 1;omega
theorem zi4 {o s:List Rat}{j:Nat}(h:s.length=o.length)(hj:j<o.length)(r:Rat)(hr:s[j]?=some r):(zi1 o s j).set j r=zi1 o s (j+1):=by
 obtain ⟨hj2,rfl⟩:=List.getElem?_eq_some_iff.1 hr;unfold zi1;rw [List.set_append_right _ _ (by rw [List.length_take];omega),List.length_take,show j - min j s.length=0 by omega,List.drop_eq_getElem_cons hj,List.set_cons_zero,List.take_succ_eq_append_getElem hj2,List.append_assoc];rfl
theorem zi5 {o s:List Rat}(h:s.length=o.length):zi1 o s o.length=s:=by unfold zi1;rw [List.drop_length,List.append_nil,← h,List.take_length]
theorem zi6 {o x:List Rat}{f a b:Rat}{j:Nat}(ha:o[j]?=some a)(hb:x[j]?=some b):(ziu o x f)[j]?=some (a+b * f):=by
 unfold ziu;rw [List.getElem?_zipWith,ha,hb]
theorem zi7 {n:Nat}{x y:List Rat}(hx:x.length=n)(hy:y.length=n):ziv n [x,y] [1,-1] 2=zeX x y:=by
 subst hx;show ziu (ziu (List.replicate x.length 0) x 1) y (-1)=zeX x y;unfold ziu zeX;apply List.ext_getElem
 ·simp
 ·intro i h1 h2;simp only [List.getElem_zipWith,List.getElem_replicate];grind
theorem zi8 {x:List Rat}{k:Nat}(hk:k<x.length)(r:Rat):((rcs x).set (k * 2) (.string (I r.num))).set (k * 2+1) (.string (I (r.den:Int)))=rcs (x.set k r):=by
 induction x generalizing k with
 | nil=>simp at hk
 | cons s x ih =>
  rw [zfa]
  cases k with
  | zero=>simp [zfa]
  | succ k =>
   have:=ih (k:=k) (by simpa using hk)
   rw [show (k+1) * 2=k * 2+1+1 by omega,List.set_cons_succ,List.set_cons_succ,List.set_cons_succ,List.set_cons_succ,List.set_cons_succ,this,zfa]
def zi9 (w:World)(B g n:Nat)(x:List Rat):Prop:=∃ xs:List Value,w.ownsRow B 102 2 (.slice (some ⟨g,0,none⟩) n n) n xs∧xs.take (2 * x.length)=rcs x
theorem zi9.ext {w w':World}(h:Ext w w'){B g n:Nat}{x:List Rat}(k:zi9 w B g n x):zi9 w' B g n x:=by
 obtain ⟨xs,h1,h2⟩:=k;exact ⟨xs,h.own h1,h2⟩
theorem zi9.more {w:World}{B g n:Nat}{x:List Rat}(k:zi9 w B g n x)(hx:x.length<n)(r:Rat):zi9 ((w.setCell ⟨g,x.length * 2,none⟩ (.string (I r.num))).setCell ⟨g,x.length * 2+1,none⟩ (.string (I (r.den:Int)))) B g n (x++[r]):=by
 obtain ⟨xs,h1,h2⟩:=k;have hl:xs.length=n * 2:=h1.1;refine ⟨_,((h1.stored (x.length * 2) (.string (I r.num))).1.stored (x.length * 2+1) (.string (I (r.den:Int)))).1,?_⟩;rw [List.length_append,List.length_singleton,zfc,← h2];apply List.ext_getElem?;intro i;rw [List.getElem?_take];by_cases hi:i<2 * x.length
 ·rw [if_pos (by omega),List.getElem?_append_left (by rw [List.length_take];omega),List.getElem?_set_ne (by omega),List.getElem?_set_ne (by omega),List.getElem?_take,if_pos hi]
 ·rcases (by omega:i=2 * x.length∨i=2 * x.length+1∨2 * x.length+2≤i) with rfl | rfl | h3
  ·rw [if_pos (by omega),List.getElem?_append_right (by rw [List.length_take];omega),List.getElem?_set_ne (by omega),Nat.mul_comm 2 x.length,List.getElem?_set_self (by omega)];rw [List.length_take,show x.length * 2 - min (x.length * 2) xs.length=0 by omega];rfl
  ·rw [if_pos (by omega),List.getElem?_append_right (by rw [List.length_take];omega),Nat.mul_comm 2 x.length,List.getElem?_set_self (by rw [List.length_set];omega)];rw [List.length_take,show x.length * 2+1 - min (x.length * 2) xs.length=1 by omega];rfl
  ·rw [if_neg (by omega),List.getElem?_eq_none];rw [List.length_append,List.length_take];simp;omega
theorem zi9.cell {w:World}{B g n:Nat}{x:List Rat}(k:zi9 w B g n x){i:Nat}(hi:i<n):w.cell? ⟨g,i * 2,none⟩=some (zeq w g (i * 2))∧w.cell? ⟨g,i * 2+1,none⟩=some (zeq w g (i * 2+1))∧w.frozen? ⟨g,i * 2,none⟩=false∧w.frozen? ⟨g,i * 2+1,none⟩=false:=by
 obtain ⟨xs,h1,h2⟩:=k;have hl:xs.length=n * 2:=h1.1;have e1:=h1.cellAt (i * 2) (by omega);have e2:=h1.cellAt (i * 2+1) (by omega);rw [List.getElem?_eq_getElem (by omega)] at e1 e2;exact ⟨by unfold zeq;rw [e1];rfl,by unfold zeq;rw [e2];rfl,h1.frozenAt _,h1.frozenAt _⟩
theorem zi9.full {w:World}{B g n:Nat}{x:List Rat}(k:zi9 w B g n x)(hx:x.length=n):zfe w B (.slice (some ⟨g,0,none⟩) n n) x:=by
 obtain ⟨xs,h1,h2⟩:=k;have hl:xs.length=n * 2:=h1.1;rw [List.take_of_length_le (by omega)] at h2;unfold zfe;rw [hx,← h2];exact h1
theorem ziA (n:Nat)(w:World)(he:Env w)(hn:n≤1000) :
  Calls Tryz.prog 56 #[.int .i64 n] w fun e w'=>e=.returned (.slice (some ⟨w.heap.size,0,none⟩) n n)∧zfe w' w.heap.size (.slice (some ⟨w.heap.size,0,none⟩) n n) (List.replicate n 0)∧Ext w w':=by
 obtain ⟨i0,hi,hz0,hz1,hz2⟩:=info_parts zff;have hnum:=fun W (h:Ext w W)=>zfk 0 W (he.ext h) (by omega) (by omega);rw [show (((0:Int):Rat))=(0:Rat) from rfl] at hnum;unfold Rv at hnum;have Hnum:=hid hnum;clear hnum;clear he;go_enter Tryz.func56,Tryz.ntmps56
 go_wp2_with (at_make;refine wpList_make_full _ rfl _ _ 65 rfl w.heap.size 102 i0 _ 2 Tryz.underlying65 hi hz0 hz1 _ _ _ _ n rfl rfl rfl rfl (by rw [hz2];omega) (by unfold maxLen;omega) (Nat.le_refl _) ?_;intro w1 hown hgrow)
 have hx1:Ext w w1:=(Ext.refl w).grown hgrow (by simp);have hp:zi9 w1 w.heap.size w.heap.size n []:=⟨_,hown,rfl⟩;clear hown hgrow;have Hx1:=hid hx1;have Hp:=hid hp;clear hx1 hp;go_wp2_with fail
 go_loopw [4,9] (fun v4 v9 wr=>∃ k:Nat,v9=.int .i64 k∧k≤n∧zi9 wr w.heap.size w.heap.size n (List.replicate k 0)∧Ext w wr) (fun _ v9 _=>n - (zal v9).toNat)
 case atStart=>exact ⟨0,rfl,Nat.zero_le _,Hp.out,Hx1.out⟩
 case round =>
  obtain ⟨k,rfl,hk,hpt,hE⟩:=hrel;have Hpt:=hid hpt;have HE:=hid hE;clear hpt hE;by_cases hkl:k<n
  ·have hk0:(0:Int)≤(k:Int):=(by omega);have hk1:(k:Int)<(n:Int):=(by omega);go_wp2_with fail
   refine (Hnum.out wr HE.out).mono ?_;rintro e W2 ⟨rfl,hx2⟩;have hpt2:=Hpt.out.ext hx2;obtain ⟨g0,g1,f0,f1⟩:=hpt2.cell hkl;have hmo:=hpt2.more (by rw [List.length_replicate];exact hkl) 0;rw [List.length_replicate] at hmo;rw [show List.replicate k (0:Rat)++[0]=List.replicate (k+1) 0 by rw [List.replicate_succ']] at hmo;have hE2:=((HE.out.trans hx2).setCell (p:=⟨w.heap.size,k * 2,none⟩) (Nat.le_refl _) (.string (I (0:Rat).num))).setCell (p:=⟨w.heap.size,k * 2+1,none⟩) (Nat.le_refl _) (.string (I (((0:Rat).den:Nat):Int)));clear hx2 hpt2;have Hmo:=hid hmo;have HE2:=hid hE2;clear hmo hE2;go_wp2_with fail
   go_roundw
   case rel=>exact ⟨k+1,by go_num,by omega,Hmo.out,HE2.out⟩
   case measure=>simp [zal];omega
  ·obtain rfl:k=n:=by omega
   have hfu:=Hpt.out.full (by rw [List.length_replicate]);have Hfu:=hid hfu;clear hfu;go_wp2
   go_ret
   exact ⟨rfl,Hfu.out,HE.out⟩
theorem zi9.put {w:World}{B g n:Nat}(k:zi9 w B g n [])(i j:Nat)(u v:Value):zi9 ((w.setCell ⟨g,i,none⟩ u).setCell ⟨g,j,none⟩ v) B g n []:=by
 obtain ⟨xs,h1,_⟩:=k;exact ⟨_,((h1.stored i u).1.stored j v).1,rfl⟩
theorem ziB {w:World}{B g n:Nat}{x:List Rat}(h:zfe w B (.slice (some ⟨g,0,none⟩) n n) x)(hx:x.length=n):zi9 w B g n []:=by
 unfold zfe at h;rw [hx] at h;exact ⟨_,h,rfl⟩
def KS (w w':World)(g n b:Nat)(u v:Value):Prop:=Ext w w'∧zi9 w' w.heap.size g n []∧zep w' b u v
theorem KS.ext {w w' w2:World}{g n b:Nat}{u v:Value}(h:KS w w' g n b u v)(hx:Ext w' w2):KS w w2 g n b u v:=⟨h.1.trans hx,h.2.1.ext hx,h.2.2.ext hx⟩
theorem KS.put {w w':World}{g n b:Nat}{u v:Value}(h:KS w w' g n b u v)(hg:w.heap.size≤g)(hne:b ≠ g)(i j:Nat)(x y:Value):KS w ((w'.setCell ⟨g,i,none⟩ x).setCell ⟨g,j,none⟩ y) g n b u v :=
 ⟨(h.1.setCell hg _).setCell hg _,h.2.1.put i j x y,(heap_setCell_other _ ⟨g,j,none⟩ b y hne).trans ((heap_setCell_other w' ⟨g,i,none⟩ b x hne).trans h.2.2)⟩
theorem KS.all {w w':World}{g n b k:Nat}{u v f0 f1:Value}{a0 a1:Addr}(h:KS w w' g n b u v)(hk:k<n)(h0:w.cell? a0=some f0)(h1:w.cell? a1=some f1) :
  KS w w' g n b u v∧w'.cell? ⟨g,k * 2,none⟩=some (zeq w' g (k * 2))∧w'.cell? ⟨g,k * 2+1,none⟩=some (zeq w' g (k * 2+1))∧w'.frozen? ⟨g,k * 2,none⟩=false∧w'.frozen? ⟨g,k * 2+1,none⟩=false∧w'.cell? ⟨b,0,none⟩=some u∧w'.cell? ⟨b,1,none⟩=some v∧w'.cell? a0=some f0∧w'.cell? a1=some f1:=by
 obtain ⟨e1,e2,e3,e4⟩:=h.2.1.cell hk;exact ⟨h,e1,e2,e3,e4,h.2.2.c0,h.2.2.c1,h.1.cell h0,h.1.cell h1⟩
theorem ziC {w:World}{B g n:Nat}{x:List Rat}{k:Nat}{r:Rat}(h:zfe w B (.slice (some ⟨g,0,none⟩) n n) x)(hx:x.length=n)(hr:x[k]?=some r):zeq w g (k * 2)=.string (I r.num)∧zeq w g (k * 2+1)=.string (I (r.den:Int)):=by
 unfold zfe at h;rw [hx] at h;obtain ⟨hk,_⟩:=List.getElem?_eq_some_iff.1 hr;obtain ⟨q1,q2⟩:=zfd hr;have e1:=h.cellAt (k * 2) (by omega);have e2:=h.cellAt (k * 2+1) (by omega);rw [q1] at e1;rw [q2] at e2;unfold zeq;exact ⟨by rw [e1];rfl,by rw [e2];rfl⟩
theorem ziD {w:World}{B g n:Nat}{x:List Rat}{k:Nat}(h:zfe w B (.slice (some ⟨g,0,none⟩) n n) x)(hx:x.length=n)(hk:k<n)(r:Rat):zfe ((w.setCell ⟨g,k * 2,none⟩ (.string (I r.num))).setCell ⟨g,k * 2+1,none⟩ (.string (I (r.den:Int)))) B (.slice (some ⟨g,0,none⟩) n n) (x.set k r):=by
 unfold zfe at h ⊢;rw [hx] at h;rw [List.length_set,hx,← zi8 (by omega)];exact ((h.stored (k * 2) _).1.stored (k * 2+1) _).1
theorem ziE (n:Nat)(vl vf:Value)(rs:List Qw)(fs:List Rat)(w:World)(he:Env w)(hl:RdM w vl rs)(hf:Rd w vf fs)(hn:n≤1000)(hlen:rs.length≤fs.length)(hr10:rs.length≤10)
  (hx:∀ r∈rs,r.x.length=n∧∀ q∈r.x,Ft 400 q) (hff:∀ f∈fs,Ft 400 f) :
  Calls Tryz.prog 122 #[.int .i64 n,vl,vf] w fun e w'=>e=.returned (.slice (some ⟨w.heap.size,0,none⟩) n n)∧zfe w' w.heap.size (.slice (some ⟨w.heap.size,0,none⟩) n n) (ziv n (rs.map Qw.x) fs rs.length)∧Ext w w':=by
 have hz:=ziA n w he hn;obtain ⟨hs,hr⟩:=hl;obtain ⟨al,cl,rfl,_,_,hcl⟩:=hs.parts;obtain ⟨af,cf,rfl,_,_,hcf⟩:=hf.parts;rw [zfh] at *;have hml:(rs.map Qw.x).length=rs.length:=List.length_map _;have hsl:=fun i (h:i≤rs.length)=>zix (n:=n) (xs:=rs.map Qw.x) (fs:=fs) (by intro x h;obtain ⟨r,hr,rfl⟩:=List.mem_map.1 h;exact (hx r hr).1) i (by omega);have hsf:=fun i (h:i≤rs.length)=>zi0 (n:=n) (xs:=rs.map Qw.x) (fs:=fs) (by intro x h;obtain ⟨r,hr,rfl⟩:=List.mem_map.1 h;exact (hx r hr).2) hff (by omega) i (by omega);have hst:=fun i (h:i<rs.length)(r:Qw)(hr:rs[i]?=some r)(f:Rat)(hf:fs[i]?=some f)=>show ziv n (rs.map Qw.x) fs (i+1)=ziu (ziv n (rs.map Qw.x) fs i) r.x f by
  rw [ziv,List.getD_eq_getElem?_getD,List.getElem?_map,hr,List.getD_eq_getElem?_getD,hf];rfl
 have hsp:=fun (r:Qw)(h:r∈rs)=>(hr r h).parts;have Hz:=hid hz;have Hcl:=hid hcl;have Hcf:=hid hcf;have Hsl:=hid hsl;have Hsf:=hid hsf;have Hst:=hid hst;have Hsp:=hid hsp;have Hx:=hid hx;have Hff:=hid hff;have Hlen:=hid hlen;have Hml:=hid hml;have He:=hid he;clear hz hcl hcf hsl hsf hst hsp hx hff hlen hml he;clear hs hf hr;go_enter Tryz.func122,Tryz.ntmps122
 go_wp2_with fail
 refine Hz.out.mono ?_;rintro e w1 ⟨rfl,ho1,hx1⟩;have Ho1:=hid ho1;have Hx1:=hid hx1;clear ho1 hx1;go_wp2_with fail
 go_loopw [8,9,10,11,16,21,22,23] (fun v8 v9 v10 v11 v16 v21 v22 v23 wr=>∃ i:Nat,v16=.int .i64 i∧i≤rs.length∧zfe wr w.heap.size (.slice (some ⟨w.heap.size,0,none⟩) n n) (ziv n (rs.map Qw.x) fs i)∧Ext w wr) (fun _ _ _ _ v16 _ _ _ _=>rs.length - (zal v16).toNat)
 case atStart=>exact ⟨0,rfl,Nat.zero_le _,Ho1.out,Hx1.out⟩
 case round =>
  obtain ⟨i,rfl,hi,ho,hE⟩:=hrel;have Ho:=hid ho;have HE:=hid hE;clear ho hE;by_cases hil:i<rs.length
  ·obtain ⟨r,hr⟩:∃ r,rs[i]?=some r:=⟨_,List.getElem?_eq_getElem hil⟩;obtain ⟨f,hfi⟩:∃ f,fs[i]?=some f:=⟨_,List.getElem?_eq_getElem (by have:=Hlen.out;omega)⟩;have hmem:=List.mem_of_getElem? hr;obtain ⟨b,off,rfl,hc0⟩:=Hcl.out i r.u (by unfold qwc;rw [List.getElem?_map,hr];rfl);have hcu:=HE.out.cell hc0;obtain ⟨bf,of,rfl,hf0,hf1⟩:=Hcf.out i f hfi;obtain ⟨ax,cx,ex,_,_,hcx⟩:=Hsp.out r hmem;obtain ⟨hxn,hxf⟩:=Hx.out r hmem;have hff1:=Hff.out f (List.mem_of_getElem? hfi);have hstep:=Hst.out i hil r hr f hfi;have hol:=Hsl.out i hi;have hof:=Hsf.out i hi;rw [ex,hxn] at hcu;have hi0:(0:Int)≤(i:Int):=(by omega);have hi1:(i:Int)<(rs.length:Int):=(by omega);have hi2:(i:Int)<(fs.length:Int):=(by have:=Hlen.out;omega);generalize hse:ziv n (rs.map Qw.x) fs (i+1)=s1 at *;generalize ziv n (rs.map Qw.x) fs i=o1 at *;generalize r.x=x at *;have hsl1:s1.length=n:=(by rw [hstep,ziw (by rw [hxn,hol]),hol]);have Hcx:=hid hcx;have Hxf:=hid hxf;have Hff1:=hid hff1;have Hstep:=hid hstep;have Hol:=hid hol;have Hof:=hid hof;have Hxn:=hid hxn;have Hf0:=hid hf0;have Hf1:=hid hf1;have Hsl1:=hid hsl1;have Hr:=hid hr;have Hfi:=hid hfi;have Hse:=hid hse;clear hcx hxf hff1 hstep hol hof hxn hf0 hf1 hsl1 hr hfi hse;clear hc0 ex hmem;obtain ⟨wa,hwa⟩:∃ wa,wa=wr:=⟨_,rfl⟩;subst hwa;go_wp2_with fail
   go_loopw [10,11,23] (fun v10 v11 v23 wr=>∃ j:Nat,v23=.int .i64 j∧j≤n∧zfe wr w.heap.size (.slice (some ⟨w.heap.size,0,none⟩) n n) (zi1 o1 s1 j)∧Ext w wr) (fun _ _ v23 _=>n - (zal v23).toNat)
   case atStart=>exact ⟨0,rfl,Nat.zero_le _,Ho.out,HE.out⟩
   case round =>
    obtain ⟨j,rfl,hj,ho2,hE2⟩:=hrel;have Ho2:=hid ho2;have HE2:=hid hE2;clear ho2 hE2;by_cases hjn:j<n
    ·obtain ⟨q,hq⟩:∃ q,x[j]?=some q:=⟨_,List.getElem?_eq_getElem (by rw [Hxn.out];exact hjn)⟩;obtain ⟨a,ha⟩:∃ a,o1[j]?=some a:=⟨_,List.getElem?_eq_getElem (by rw [Hol.out];exact hjn)⟩;obtain ⟨b2,off2,e2,hq0,hq1⟩:=Hcx.out j q hq;subst e2;have h20:=HE2.out.cell hq0;have h21:=HE2.out.cell hq1;have hs1:s1[j]?=some (a+q * f):=(by rw [Hstep.out];exact zi6 ha hq);have hmu:=fun W (h:Ext w W)=>ze6 q f W (He.out.ext h) ((Hxf.out q (List.mem_of_getElem? hq)).mono (by omega)) (Hff1.out.mono (by omega));have had:=fun W (h:Ext w W)=>ze5 a (q * f) W (He.out.ext h) ((Hof.out a (List.mem_of_getElem? ha)).mono (by omega)) ((zis (Hxf.out q (List.mem_of_getElem? hq)) Hff1.out).mono (by omega));have hs1n:=Hsl1.out;have hon:=Hol.out;obtain ⟨hv0,hv1⟩:=ziC Ho2.out (by rw [zi2 (by rw [hs1n,hon]) (by omega),hon]) (by rw [zi3 (by rw [hs1n,hon]) (by omega)];exact ha);have hset:(zi1 o1 s1 j).set j (a+q * f)=zi1 o1 s1 (j+1):=zi4 (by rw [hs1n,hon]) (by omega) _ hs1;have hml2:(zi1 o1 s1 j).length=n:=(by rw [zi2 (by rw [hs1n,hon]) (by omega),hon]);have hfin:=fun W (h:zfe W w.heap.size (.slice (some ⟨w.heap.size,0,none⟩) n n) (zi1 o1 s1 j))=>ziD h hml2 hjn (a+q * f);rw [hset] at hfin;have k0:=HE2.out.cell Hf0.out;have k1:=HE2.out.cell Hf1.out;have hj0:(0:Int)≤(j:Int):=(by omega);have hj1:(j:Int)<(n:Int):=(by omega);have hi0:(0:Int)≤(i:Int):=(by omega);have hi1:(i:Int)<(fs.length:Int):=(by have:=Hlen.out;omega);unfold Rv at hmu had;generalize I (a+q * f).num=st at *;generalize I (((a+q * f).den:Nat):Int)=su at *;generalize I (q * f).num=sm at *;generalize I (((q * f).den:Nat):Int)=sn at *;generalize I a.num=sa at *;generalize I (a.den:Int)=sb at *;generalize I q.num=sq at *;generalize I (q.den:Int)=sr at *;generalize I f.num=sf at *;generalize I (f.den:Int)=sg at *;obtain ⟨c0,c1,z0,z1⟩:=(ziB Ho2.out hml2).cell hjn;rw [hv0] at c0;rw [hv1] at c1;have hxw:Ext wr (wr.alloc (.cells #[.string sq,.string sr] 102)):=(Ext.refl wr).alloc _;have hEb:Ext w (wr.alloc (.cells #[.string sq,.string sr] 102)):=HE2.out.alloc _;have hbx:zep (wr.alloc (.cells #[.string sq,.string sr] 102)) wr.heap.size (.string sq) (.string sr):=zep.new _ _ _;have how:=hxw.ownQ Ho2.out;have hprt:=(ziB Ho2.out hml2).ext hxw;have d0:=hxw.cell c0;have d1:=hxw.cell c1;have k0:=hxw.cell k0;have k1:=hxw.cell k1;have z0:=(hprt.cell hjn).2.2.1;have z1:=(hprt.cell hjn).2.2.2;have x0:=hbx.c0;have x1:=hbx.c1;clear hq0 hq1 hv0 hv1 hset hml2 hs1 hs1n hon hq ha c0 c1 hxw hbx;have Hmu:=hid hmu;have Had:=hid had;have Hfin:=hid hfin;have How:=hid how;have Hprt:=hid hprt;have HEb:=hid hEb;clear hmu had hfin how hprt hEb;have Hj:=hid hjn;go_wp2_with fail
     clear h20 h21;generalize hV:wr.alloc (.cells #[.string sq,.string sr] 102)=V at *;have D0:=hid d0;have D1:=hid d1;go_region_law (first
      | (go_simp;go_at_call 150;refine (Hmu.out _ HEb.out.drew).mono ?_;rintro e9 V4 ⟨rfl,hxz⟩;have hxa:Ext V V4:=((Ext.refl V).drew).trans hxz;clear hxz;have g0:=hxa.cell d0;have g1:=hxa.cell d1;have HE4:=hid (HEb.out.trans hxa);have how4:=hxa.ownQ How.out;have hp4:=Hprt.out.ext hxa;have How4:=hid how4;have Hp4:=hid hp4;clear hxa how4 hp4)
      | (go_simp;go_at_call 170;refine (Had.out _ HE4.out).mono ?_;rintro e9 V5 ⟨rfl,hxb⟩;have hp5:=Hp4.out.ext hxb;obtain ⟨p0,p1,p2,p3⟩:=hp5.cell Hj.out;have HE5:=hid (HE4.out.trans hxb);have How5:=hid (hxb.ownQ How4.out);clear hxb hp5))
     all_goals
      have hfn:=Hfin.out V5 How5.out;have hfe:=(HE5.out.setCell (p:=⟨w.heap.size,j * 2,none⟩) (Nat.le_refl _) (.string st)).setCell (p:=⟨w.heap.size,j * 2+1,none⟩) (Nat.le_refl _) (.string su);clear p0 p1 p2 p3;generalize (V5.setCell ⟨w.heap.size,j * 2,none⟩ (.string st)).setCell ⟨w.heap.size,j * 2+1,none⟩ (.string su)=V6 at *;have Hfn:=hid hfn;have Hfe:=hid hfe;clear hfn hfe;go_wp2_with fail
      go_roundw
      case rel=>exact ⟨j+1,by go_num,by omega,Hfn.out,Hfe.out⟩
      case measure=>simp [zal];omega
    ·obtain rfl:j=n:=by omega
     have hos:=Ho2.out;rw [← Hol.out,zi5 (by rw [Hsl1.out,Hol.out]),Hol.out] at hos;have Hos:=hid hos;clear hos;go_wp2_with fail
     go_roundw
     case rel=>exact ⟨i+1,by go_num,by omega,by rw [Hse.out];exact Hos.out,HE2.out⟩
     case measure=>simp [zal];omega
  ·obtain rfl:i=rs.length:=by omega
   go_wp2
   go_ret
   exact ⟨rfl,Ho.out,HE.out⟩
end
section
def swp {α:Type}(l:List α)(i j:Nat):List α :=
 match l[i]?,l[j]? with
 | some x,some y=>(l.set i y).set j x
 | _,_=>l
theorem ziF {α:Type}{l:List α}{i j:Nat}{x y:α}(hx:l[i]?=some x)(hy:l[j]?=some y):swp l i j=(l.set i y).set j x:=by unfold swp;rw [hx,hy]
theorem ziG {α:Type}(l:List α)(i j:Nat):(swp l i j).length=l.length:=by
 unfold swp;split <;> simp
/-! Fractions: the reduced form of rows. -/
@[irreducible] def ziH : Nat:=1000
@[irreducible] def ziI : Nat:=10 ^ ziH
@[irreducible] def ziJ : Nat:=8000
@[irreducible] def ziK : Nat:=10 ^ ziJ
@[irreducible] def ziL : Nat:=10 * ziK
def okQ (q:Rat):Bool:=decide (q.num.natAbs<ziI) && decide (q.den<ziI)
def okM (m:List (List Rat)):Bool:=m.all fun r=>r.all okQ
def ziM (c:Nat):List (List Rat)→Nat
 | []=>0
 | r::m=>if r.getD c 0=0 then ziM c m+1 else 0
def ziN (f:Rat)(r:List Rat):List Rat:=r.map fun a=>a / f
def ziO (r t:List Rat)(f:Rat):List Rat:=List.zipWith (fun a b=>a - f * b) r t
def ziP (m:List (List Rat))(k c n:Nat):List (List Rat):=m.mapIdx fun i r=>if i<n∧i ≠ k then ziO r (m.getD k []) (r.getD c 0) else r
structure RdS where
 m:List (List Rat)
 ld:List Nat
 det:Rat
def ziQ (c:Nat)(s:RdS):Option RdS :=
 if okM s.m=true∧okQ s.det=true then
  let k:=s.ld.length
  let a:=k+ziM c (s.m.drop k)
  if a=s.m.length then some ⟨s.m,s.ld,0⟩
  else
   let m1:=swp s.m k a
   let f:=(m1.getD k []).getD c 0
   some ⟨ziP (m1.set k (ziN f (m1.getD k []))) k c s.m.length,s.ld++[c],(if a=k then s.det else -s.det) * f⟩
 else none
def ziR : List Nat→RdS→Option RdS
 | [],s=>some s
 | c::cs,s=>match ziQ c s with
  | some s'=>ziR cs s'
  | none=>none
def ziS (r:List Int):List Rat:=r.map fun z:Int=>(z:Rat)
def ziT (m:List (List Int)):Option Nat :=
 (ziR (List.range (m.getD 0 []).length) ⟨m.map ziS,[],1⟩).map fun s=>s.ld.length
/-! Whole numbers: the Hermite form of smith. -/
def okZ (z:Int):Bool:=decide (z.natAbs<ziK)
def okG (g:List (List Int)):Bool:=g.all fun r=>r.all okZ
def ziU (l o:List Int)(q:Int):List Int:=List.zipWith (fun a b=>a - q * b) l o
def ziV (l:List Int):List Int:=l.map fun z=>-z
def at2 (g:List (List Int))(i c:Nat):Int:=(g.getD i []).getD c 0
def ziW (g:List (List Int))(c:Nat):Nat→Nat→Option Nat × Bool
 | _,0=>(none,false)
 | top,n+1 =>
  let r:=ziW g c top n
  let i:=top+n
  if at2 g i c=0 then r
  else match r.1 with
   | none=>(some i,r.2)
   | some k=>(some (if (at2 g i c).natAbs<(at2 g k c).natAbs then i else k),true)
def ziX (g:List (List Int))(t c lo n:Nat):List (List Int):=g.mapIdx fun i r=>if lo≤i∧i<n then ziU r (g.getD t []) (fdv (r.getD c 0) (at2 g t c)) else r
def ziY (g:List (List Int))(t c:Nat):List (List Int):=if at2 g t c<0 then g.set t (ziV (g.getD t [])) else g
def ziZ (g:List (List Int))(t c:Nat):List (List Int):=ziX (ziY g t c) t c 0 t
def inZ : Nat→List (List Int)→Nat→Nat→Option (List (List Int) × Nat)
 | 0,_,_,_=>none
 | n+1,g,top,c =>
  if okG g=true then
   match ziW g c top (g.length - top) with
   | (none,_)=>some (g,top)
   | (some k,more) =>
    if okG (swp g top k)=true∧okG (ziY (swp g top k) top c)=true then
     if more=true then inZ n (ziX (swp g top k) top c (top+1) g.length) top c
     else some (ziZ (swp g top k) top c,top+1)
    else none
  else none
def zja : Nat→List (List Int)→Nat→Nat→Nat→Option (List (List Int) × Nat)
 | 0,_,_,_,_=>none
 | n+1,g,top,c,cols =>
  if c<cols∧top<g.length then
   match inZ ziL g top c with
   | some (g',top')=>zja n g' top' (c+1) cols
   | none=>none
  else some (g,top)
def zjb (g:List (List Int))(cols:Nat):Option (List (List Int)):=(zja 100 g 0 0 cols).map fun r=>r.1.take r.2
def zjc (n:Nat):List (List Int):=(List.range n).map fun i=>(List.replicate n (0:Int)).set i 1
def zjd (m:List (List Int)):Option (List (List Int)):=zjb (List.zipWith (fun r u=>r++u) m (zjc m.length)) ((m.getD 0 []).length+m.length)
def zje : List Int→Nat
 | []=>0
 | z::l=>if z=0 then zje l+1 else 0
def zjf (f:List (List Int))(cols:Nat):List (List Int):=(f.filter fun l=>cols≤zje l).map fun l=>l.drop cols
def zjg (l r:List Int):List Int:=if zje r<l.length then ziU l r (fdv (l.getD (zje r) 0) (r.getD (zje r) 0)) else l
def zjh : List (List Int)→List Int→Option (List Int)
 | [],l=>some l
 | r::f,l=>if l.all okZ=true∧r.all okZ=true then zjh f (zjg l r) else none
def zji (m:List (List Int))(b:List Int):Option (Option (List Int)) :=
 match zjd m with
 | none=>none
 | some f =>
  let cols:=(m.getD 0 []).length
  match zjh (f.filter fun l=>zje l<cols) (b++List.replicate m.length 0) with
  | none=>none
  | some l=>if zje l<cols then some none else
   match zjh (zjf f cols) (ziV (l.drop cols)) with
   | none=>none
   | some x=>if x.all (fun z=>decide (z.natAbs≤1000000000)) then some (some x) else none
def zjj : List (List Int)→Nat→List (List Int)→List Int→Option (List (List Int) × List Int)
 | [],_,m,a=>some (m,a)
 | x::l,i,m,a =>
  match ziT (m++[x]) with
  | none=>none
  | some r=>if r=(m++[x]).length then zjj l (i+1) (m++[x]) (a++[((i+1:Nat):Int)]) else zjj l (i+1) m a
def zjk (m:List (List Int)):List (List Int):=(List.range (m.getD 0 []).length).map fun c=>m.map fun r=>r.getD c 0
def zjl (v x:List Int):Int:=(List.zipWith (fun a b=>a * b) v x).sum
def zjm (v:List Int)(l:List (List Int)):Nat:=((List.range l.length).find? fun i=>zjl v (l.getD i []) != ((i+1:Nat):Int)).elim 0 (·+1)
def zjn (l:List (List Int)):Option (Option (List Int)) :=
 match zjj l 0 [] [] with
 | none=>none
 | some (m,a)=>match zji (zjk m) a with
  | none=>none
  | some none=>some none
  | some (some v)=>if 0<zjm v l then some none else some (some v)
def zjo : List (List Int):=[[-3,2,0],[-2,0,1],[2,-1,0],[-1,1,0],[0,-1,1],[-3,1,1],[1,0,0]]
theorem zjq : zjn zjo=some (some [7,11,16]):=by decide +kernel
theorem zjr : zjn [[-3,2,0],[-2,0,1],[-1,1,0],[1,0,0]]=some none:=by decide +kernel
theorem zjs : zjn [[-3,2,0],[-6,4,0],[-1,1,0],[-4,3,0],[1,0,0]]=some (some [5,8,0]):=by decide +kernel
end
section
open Go.RowKit Go.Lib
def zjt (x:List Int)(k:Nat):List Rat:=(ziS x).take k++List.replicate (x.length - k) 0
theorem zju (x:List Int):(ziS x).length=x.length:=by unfold ziS;rw [List.length_map]
theorem zjv {x:List Int}{k:Nat}(h:k≤x.length):(zjt x k).length=x.length:=by
 unfold zjt;rw [List.length_append,List.length_take,List.length_replicate,zju];omega
theorem zjw (x:List Int):zjt x 0=List.replicate x.length 0:=by simp [zjt]
theorem zjx (x:List Int):zjt x x.length=ziS x:=by
 unfold zjt;rw [List.take_of_length_le (by rw [zju];exact Nat.le_refl _),Nat.sub_self];simp
theorem zjy {x:List Int}{k:Nat}(h:k<x.length):(zjt x k).set k ((zas x k:Int):Rat)=zjt x (k+1):=by
 have hl:=zju x;have hq:(ziS x)[k]?=some ((zas x k:Int):Rat):=by
  unfold ziS zas;rw [List.getElem?_map,List.getD_eq_getElem?_getD,List.getElem?_eq_getElem h];rfl
 apply List.ext_getElem?;intro i;rw [List.getElem?_set,zjv (by omega)];unfold zjt;by_cases e:k=i
 ·subst e;rw [if_pos rfl,if_pos h,List.getElem?_append_left (by rw [List.length_take];omega),List.getElem?_take_of_lt (by omega),hq]
 ·rw [if_neg e];by_cases g:i<k
  ·rw [List.getElem?_append_left (by rw [List.length_take];omega),List.getElem?_append_left (by rw [List.length_take];omega),List.getElem?_take_of_lt g,List.getElem?_take_of_lt (by omega)]
  ·rw [List.getElem?_append_right (by rw [List.length_take];omega),List.getElem?_append_right (by rw [List.length_take];omega),List.getElem?_replicate,List.getElem?_replicate,List.length_take,List.length_take];congr 1;simp only [eq_iff_iff];omega
theorem zjz (vp vx:Value)(p x:List Int)(w:World)(he:Env w)(hp:Sl w vp (zap p))(hx:Sl w vx (zap x))(h0:zgu p x=0) :
  Calls Tryz.prog 23 #[vp,vx] w fun e w'=>∃ v,e=.returned (.tuple #[v,.int .i64 0])∧zfe w' w.heap.size v (ziS x)∧Ext w w':=by
 obtain ⟨hpe,hre⟩:=zg7 h0;obtain ⟨hxl,hxb⟩:=zg6 hre;obtain ⟨hp0,hp6,_⟩:=zc0 hpe;have hck:=zgv vp vx p x w hp hx (by omega) (by omega);rw [h0] at hck;have hz:=fun W (hE:Ext w W)=>ziA p.length W (he.ext hE) (by omega);have hnu:=fun i (hi:i<x.length) W (hE:Ext w W)=>zfk (zas x i) W (he.ext hE) (by have:=hxb i hi;omega) (by have:=hxb i hi;omega);unfold Rv at hnu;rw [← hxl] at hz;obtain ⟨ap,cp,rfl,_,_,_⟩:=hp.parts;obtain ⟨ax,cx,rfl,_,_,hcx⟩:=hx.parts;rw [zar,← hxl] at hck ⊢;rw [zar] at hck ⊢;have hst:=fun k (h:k<x.length)=>zjy (x:=x) h;have hln:=fun k (h:k≤x.length)=>zjv (x:=x) h;have hz0:=zjw x;have hfu:=zjx x;have hx1000:x.length≤1000:=by omega
 have Hck:=hid hck;have Hz:=hid hz;have Hnu:=hid hnu;have Hcx:=hid hcx;have Hst:=hid hst;have Hln:=hid hln;have Hz0:=hid hz0;have Hfu:=hid hfu;clear hck hz hnu hcx hst hln hz0 hfu;clear hp hx h0 hpe hre hxb hp0 hp6 hxl he;go_enter Tryz.func23,Tryz.ntmps23
 go_wp2_with fail
 refine Hck.out.mono ?_;rintro e w1 ⟨rfl,hx1⟩;have Hx1:=hid hx1;clear hx1;go_wp2_with fail
 refine (Hz.out w1 Hx1.out).mono ?_;rintro e w2 ⟨rfl,ho2,hx2⟩;rw [← Hz0.out] at ho2;have Hx2:=hid (Hx1.out.trans hx2);have HO:=hid ho2;have hg:w.heap.size≤w1.heap.size:=Hx1.out.size;clear ho2 hx2;generalize w1.heap.size=g at *;go_wp2_with fail
 go_loopw [21] (fun v21 wr=>∃ k:Nat,v21=.int .i64 k∧k≤x.length∧Hid (zfe wr g (.slice (some ⟨g,0,none⟩) x.length x.length) (zjt x k))∧Hid (Ext w wr)) (fun v21 _=>x.length - (zal v21).toNat)
 case atStart=>exact ⟨0,rfl,Nat.zero_le _,HO,Hx2⟩
 case round =>
  clear HO;obtain ⟨k,rfl,hk,HO,HE⟩:=hrel;by_cases hkn:k<x.length
  ·obtain ⟨b,off,rfl,hc0⟩:=Hcx.out k _ (zau hkn);have hcw:=HE.out.cell hc0;have hn:=Hnu.out k hkn wr HE.out;have hs:=Hst.out k hkn;generalize zas x k=z at *;have hk0:(0:Int)≤(k:Int):=(by omega);have hk1:(k:Int)<(x.length:Int):=(by omega);have hll:=Hln.out k hk;have Hn:=hid hn;have Hs:=hid hs;have Hll:=hid hll;clear hn hs hll;clear hc0;go_wp2_with fail
   refine Hn.out.mono ?_;rintro e w3 ⟨rfl,hx3⟩;have ho3:=hx3.ownQ HO.out;have hp3:=ziD ho3 Hll.out hkn ((z:Int):Rat);rw [Hs.out] at hp3;obtain ⟨c0,c1,z0,z1⟩:=(ziB ho3 Hll.out).cell hkn;have hE4:=((HE.out.trans hx3).setCell (p:=⟨g,k * 2,none⟩) hg (.string (I ((z:Int):Rat).num))).setCell (p:=⟨g,k * 2+1,none⟩) hg (.string (I ((((z:Int):Rat).den:Nat):Int)));have Hp3:=hid hp3;have HE4:=hid hE4;clear hp3 hE4;clear hx3 ho3;go_wp2_with fail
   go_roundw
   case rel=>exact ⟨k+1,by go_num,hkn,Hp3,HE4⟩
   case measure=>simp [zal];omega
  ·have hkl:k=x.length:=(by omega);have hnk:¬ (k:Int)<(x.length:Int):=(by omega);have ho:=HO.out;rw [hkl,Hfu.out] at ho;have Ho9:=hid (ho.mono hg);clear ho hkl;go_wp2
   go_ret2
   exact ⟨_,rfl,Ho9.out,HE.out⟩
end
end Go.Proofs.YtipkdebkdnbieaaGreatDoor
