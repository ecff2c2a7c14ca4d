/- Plain: sums of sizes; how long their numbers get. Walks: size's zero, Zero, sum, Combine, Sub, Add, Scale. -/
import Derived.Test.YtipjmpdndokdlaaGreatDoorPc09
import Derived.Test.YtipjmpdndokdlaaGreatDoorPc04
import Derived.Test.YtipjmpdndokdlaaGreatDoorPc10
set_option maxRecDepth 100000
set_option maxHeartbeats 4000000
namespace Go.Proofs.YtipjmpdndokdlaaGreatDoor
open Go.RowKit Go.Lib
theorem mk_ft {n:Int}{d k l:Nat}(hd:0<d)(hn:nDigits n.natAbs≤k)(h2:nDigits d≤l):nDigits (mkRat n d).num.natAbs≤k∧nDigits (mkRat n d).den≤l:=by
 constructor
 ·refine Nat.le_trans (Dec.nDigits_mono ?_) hn
  rw [mk_num n d (by omega),Int.natAbs_tdiv]
  exact Nat.div_le_self _ _
 ·refine Nat.le_trans (Dec.nDigits_mono ?_) h2
  rw [Rat.den_mkRat,if_neg (by omega)]
  exact Nat.div_le_self _ _
theorem ft_mul {k l:Nat}{a b:Rat}(ha:Ft k a)(hb:Ft l b):Ft (k+l) (a * b):=by
 unfold Ft
 rw [Rat.mul_def']
 refine mk_ft (Nat.mul_pos a.den_pos b.den_pos) ?_ ?_
 ·rw [Int.natAbs_mul];exact Nat.le_trans (nDigits_mul _ _) (Nat.add_le_add ha.1 hb.1)
 ·exact Nat.le_trans (nDigits_mul _ _) (Nat.add_le_add ha.2 hb.2)
theorem ft_add {k l:Nat}{a b:Rat}(ha:Ft k a)(hb:Ft l b):Ft (k+l+1) (a+b):=by
 unfold Ft
 rw [Rat.add_def']
 refine mk_ft (Nat.mul_pos a.den_pos b.den_pos) ?_ ?_
 ·refine Nat.le_trans (Dec.nDigits_mono (Int.natAbs_add_le _ _)) ?_
  refine nDigits_add _ _ _ ?_ ?_
  ·rw [Int.natAbs_mul,Int.natAbs_natCast];exact Nat.le_trans (nDigits_mul _ _) (Nat.add_le_add ha.1 hb.2)
  ·rw [Int.natAbs_mul,Int.natAbs_natCast];have:=Nat.le_trans (nDigits_mul _ _) (Nat.add_le_add hb.1 ha.2);omega
 ·have:=Nat.le_trans (nDigits_mul _ _) (Nat.add_le_add ha.2 hb.2);omega
def stepQ (o x : List Rat) (f : Rat) : List Rat:=List.zipWith (fun a b => a+b * f) o x
def sumTo (n : Nat) (xs : List (List Rat)) (fs : List Rat) : Nat → List Rat
 | 0=>List.replicate n 0
 | i+1=>stepQ (sumTo n xs fs i) (xs.getD i []) (fs.getD i 0)
theorem stepQ_length {o x:List Rat}{f:Rat}(h:x.length=o.length):(stepQ o x f).length=o.length:=by unfold stepQ;rw [List.length_zipWith,h,Nat.min_self]
theorem sumTo_length {n:Nat}{xs:List (List Rat)}{fs:List Rat}(h:∀ x∈xs,x.length=n):∀ i,i≤xs.length→(sumTo n xs fs i).length=n
 | 0,_=>by simp [sumTo]
 | i+1,hi=>by
  have ih:=sumTo_length h (fs:=fs) i (by omega)
  have hx:(xs.getD i []).length=n:=by
   rw [List.getD_eq_getElem?_getD,List.getElem?_eq_getElem (by omega)]
   exact h _ (List.getElem_mem _)
  rw [sumTo,stepQ_length (by rw [hx,ih]),ih]
theorem ft_zero : Ft 1 (0:Rat):=⟨Dec.nDigits_le (by omega) (by decide),Dec.nDigits_le (by omega) (by decide)⟩
theorem step_ft {k:Nat}{o x:List Rat}{f:Rat}(ho:∀ q∈o,Ft k q)(hx:∀ q∈x,Ft 400 q)(hf:Ft 400 f):∀ q∈stepQ o x f,Ft (k+801) q:=by
 intro q hq
 unfold stepQ at hq
 obtain ⟨i,hi,rfl⟩:=List.getElem_of_mem hq
 rw [List.length_zipWith] at hi
 rw [List.getElem_zipWith]
 exact (ft_add (ho _ (List.getElem_mem _)) (ft_mul (hx _ (List.getElem_mem (by omega))) hf)).mono (by omega)
theorem sumTo_ft {n:Nat}{xs:List (List Rat)}{fs:List Rat}(h:∀ x∈xs,∀ q∈x,Ft 400 q)(hf:∀ f∈fs,Ft 400 f)(hl:xs.length≤fs.length):∀ i,i≤xs.length→∀ q∈sumTo n xs fs i,Ft (801 * i+1) q
 | 0,_,q,hq=>by
  rw [sumTo] at hq
  rw [List.eq_of_mem_replicate hq]
  exact ft_zero
 | i+1,hi,q,hq=>by
  have ih:=sumTo_ft (n:=n) h hf hl i (by omega)
  rw [sumTo] at hq
  have:=step_ft ih ?_ ?_ q hq
  ·exact this.mono (by omega)
  ·rw [List.getD_eq_getElem?_getD,List.getElem?_eq_getElem (by omega)]
   exact h _ (List.getElem_mem _)
  ·rw [List.getD_eq_getElem?_getD,List.getElem?_eq_getElem (by omega)]
   exact hf _ (List.getElem_mem _)
/-- A sum while its elements are being written. -/
def midQ (o s : List Rat) (j : Nat) : List Rat:=s.take j++o.drop j
theorem midQ_length {o s:List Rat}{j:Nat}(h:s.length=o.length)(hj:j≤o.length):(midQ o s j).length=o.length:=by unfold midQ;rw [List.length_append,List.length_take,List.length_drop];omega
theorem midQ_at {o s:List Rat}{j:Nat}(h:s.length=o.length)(hj:j<o.length):(midQ o s j)[j]?=o[j]?:=by
 unfold midQ
 rw [List.getElem?_append_right (by rw [List.length_take];omega),List.length_take,List.getElem?_drop]
 congr 1;omega
theorem midQ_set {o s:List Rat}{j:Nat}(h:s.length=o.length)(hj:j<o.length)(r:Rat)(hr:s[j]?=some r):(midQ o s j).set j r=midQ o s (j+1):=by
 obtain ⟨hj2,rfl⟩:=List.getElem?_eq_some_iff.1 hr
 unfold midQ
 rw [List.set_append_right _ _ (by rw [List.length_take];omega),List.length_take,show j - min j s.length=0 by omega,List.drop_eq_getElem_cons hj,List.set_cons_zero,List.take_succ_eq_append_getElem hj2,List.append_assoc];rfl
theorem midQ_full {o s:List Rat}(h:s.length=o.length):midQ o s o.length=s:=by unfold midQ;rw [List.drop_length,List.append_nil,← h,List.take_length]
theorem stepQ_at {o x:List Rat}{f a b:Rat}{j:Nat}(ha:o[j]?=some a)(hb:x[j]?=some b):(stepQ o x f)[j]?=some (a+b * f):=by
 unfold stepQ;rw [List.getElem?_zipWith,ha,hb]
/-- The difference and the sum of two sizes, and a multiple, as the program finds them. -/
theorem sum_sub {n:Nat}{x y:List Rat}(hx:x.length=n)(hy:y.length=n):sumTo n [x,y] [1,-1] 2=subZ x y:=by
 subst hx
 show stepQ (stepQ (List.replicate x.length 0) x 1) y (-1)=subZ x y
 unfold stepQ subZ
 apply List.ext_getElem
 ·simp
 ·intro i h1 h2
  simp only [List.getElem_zipWith,List.getElem_replicate]
  grind
theorem sum_add {n:Nat}{x y:List Rat}(hx:x.length=n)(hy:y.length=n):sumTo n [x,y] [1,1] 2=addZ x y:=by
 subst hx
 show stepQ (stepQ (List.replicate x.length 0) x 1) y 1=addZ x y
 unfold stepQ addZ
 apply List.ext_getElem
 ·simp
 ·intro i h1 h2
  simp only [List.getElem_zipWith,List.getElem_replicate]
  grind
theorem sum_one {n:Nat}{x:List Rat}(k:Rat)(hx:x.length=n):sumTo n [x] [k] 1=mulZ x k:=by
 subst hx
 show stepQ (List.replicate x.length 0) x k=mulZ x k
 unfold stepQ mulZ
 apply List.ext_getElem
 ·simp
 ·intro i h1 h2
  simp only [List.getElem_zipWith,List.getElem_replicate,List.getElem_map]
  grind
end Go.Proofs.YtipjmpdndokdlaaGreatDoor

namespace Go.Proofs.YtipjmpdndokdlaaGreatDoor
open Go.RowKit Go.Lib
theorem rcs_set {x:List Rat}{k:Nat}(hk:k<x.length)(r:Rat):((rcs x).set (k * 2) (.string (I r.num))).set (k * 2+1) (.string (I (r.den:Int)))=rcs (x.set k r):=by
 induction x generalizing k with
 | nil=>simp at hk
 | cons s x ih =>
  rw [rcs_cons]
  cases k with
  | zero=>simp [rcs_cons]
  | succ k =>
   have:=ih (k:=k) (by simpa using hk)
   rw [show (k+1) * 2=k * 2+1+1 by omega,List.set_cons_succ,List.set_cons_succ,List.set_cons_succ,List.set_cons_succ,List.set_cons_succ,this,rcs_cons]
/-- A row of fractions of which the first k are written. -/
def Part (w : World) (B g n : Nat) (x : List Rat) : Prop:=∃ xs : List Value,w.ownsRow B 27 2 (.slice (some ⟨g,0,none⟩) n n) n xs ∧ xs.take (2 * x.length)=rcs x
theorem Part.ext {w w':World}(h:Ext w w'){B g n:Nat}{x:List Rat}(k:Part w B g n x):Part w' B g n x:=by
 obtain ⟨xs,h1,h2⟩:=k;exact ⟨xs,h.own h1,h2⟩
theorem Part.more {w:World}{B g n:Nat}{x:List Rat}(k:Part w B g n x)(hx:x.length<n)(r:Rat):Part ((w.setCell ⟨g,x.length * 2,none⟩ (.string (I r.num))).setCell ⟨g,x.length * 2+1,none⟩ (.string (I (r.den:Int)))) B g n (x++[r]):=by
 obtain ⟨xs,h1,h2⟩:=k
 have hl:xs.length=n * 2:=h1.1
 refine ⟨_,((h1.stored (x.length * 2) (.string (I r.num))).1.stored (x.length * 2+1) (.string (I (r.den:Int)))).1,?_⟩
 rw [List.length_append,List.length_singleton,rcs_snoc,← h2]
 apply List.ext_getElem?
 intro i
 rw [List.getElem?_take]
 by_cases hi:i<2 * x.length
 ·rw [if_pos (by omega),List.getElem?_append_left (by rw [List.length_take];omega),List.getElem?_set_ne (by omega),List.getElem?_set_ne (by omega),List.getElem?_take,if_pos hi]
 ·rcases (by omega:i=2 * x.length∨i=2 * x.length+1∨2 * x.length+2≤i) with rfl | rfl | h3
  ·rw [if_pos (by omega),List.getElem?_append_right (by rw [List.length_take];omega),List.getElem?_set_ne (by omega),Nat.mul_comm 2 x.length,List.getElem?_set_self (by omega)]
   rw [List.length_take,show x.length * 2 - min (x.length * 2) xs.length=0 by omega];rfl
  ·rw [if_pos (by omega),List.getElem?_append_right (by rw [List.length_take];omega),Nat.mul_comm 2 x.length,List.getElem?_set_self (by rw [List.length_set];omega)]
   rw [List.length_take,show x.length * 2+1 - min (x.length * 2) xs.length=1 by omega];rfl
  ·rw [if_neg (by omega),List.getElem?_eq_none]
   rw [List.length_append,List.length_take];simp;omega
theorem Part.cell {w:World}{B g n:Nat}{x:List Rat}(k:Part w B g n x){i:Nat}(hi:i<n):w.cell? ⟨g,i * 2,none⟩=some (valAt w g (i * 2))∧w.cell? ⟨g,i * 2+1,none⟩=some (valAt w g (i * 2+1))∧w.frozen? ⟨g,i * 2,none⟩=false∧w.frozen? ⟨g,i * 2+1,none⟩=false:=by
 obtain ⟨xs,h1,h2⟩:=k
 have hl:xs.length=n * 2:=h1.1
 have e1:=h1.cellAt (i * 2) (by omega)
 have e2:=h1.cellAt (i * 2+1) (by omega)
 rw [List.getElem?_eq_getElem (by omega)] at e1 e2
 exact ⟨by unfold valAt;rw [e1];rfl,by unfold valAt;rw [e2];rfl,h1.frozenAt _,h1.frozenAt _⟩
theorem Part.full {w:World}{B g n:Nat}{x:List Rat}(k:Part w B g n x)(hx:x.length=n):OwnQ w B (.slice (some ⟨g,0,none⟩) n n) x:=by
 obtain ⟨xs,h1,h2⟩:=k
 have hl:xs.length=n * 2:=h1.1
 rw [List.take_of_length_le (by omega)] at h2
 unfold OwnQ
 rw [hx,← h2];exact h1
theorem zero_c (n:Nat)(w:World)(he:Env w)(hn:n≤1000) :
  Calls Tryz.prog 97 #[.int .i64 n] w fun e w'=>e=.returned (.slice (some ⟨w.heap.size,0,none⟩) n n)∧OwnQ w' w.heap.size (.slice (some ⟨w.heap.size,0,none⟩) n n) (List.replicate n 0)∧Ext w w':=by
 obtain ⟨i0,hi,hz0,hz1,hz2⟩:=info_parts info_rat
 have hnum:=fun W (h:Ext w W)=>number_c 0 W (he.ext h) (by omega) (by omega)
 rw [show (((0:Int):Rat))=(0:Rat) from rfl] at hnum
 unfold Rv at hnum
 have Hnum:=hid hnum;clear hnum
 clear he
 go_enter Tryz.func97,Tryz.ntmps97
 go_wp2_with (at_make;refine wpList_make_full _ rfl _ _ 37 rfl w.heap.size 27 i0 _ 2 Tryz.underlying37 hi hz0 hz1 _ _ _ _ n rfl rfl rfl rfl (by rw [hz2];omega) (by unfold maxLen;omega) (Nat.le_refl _) ?_;intro w1 hown hgrow)
 have hx1:Ext w w1:=(Ext.refl w).grown hgrow (by simp)
 have hp:Part w1 w.heap.size w.heap.size n []:=⟨_,hown,rfl⟩
 clear hown hgrow
 have Hx1:=hid hx1;have Hp:=hid hp;clear hx1 hp
 go_wp2_with fail
 go_loopw [4,9] (fun v4 v9 wr=>∃ k:Nat,v9=.int .i64 k∧k≤n∧Part wr w.heap.size w.heap.size n (List.replicate k 0)∧Ext w wr) (fun _ v9 _=>n - (intOf v9).toNat)
 case atStart=>exact ⟨0,rfl,Nat.zero_le _,Hp.out,Hx1.out⟩
 case round =>
  obtain ⟨k,rfl,hk,hpt,hE⟩:=hrel
  have Hpt:=hid hpt;have HE:=hid hE;clear hpt hE
  by_cases hkl:k<n
  ·have hk0:(0:Int)≤(k:Int):=by omega
   have hk1:(k:Int)<(n:Int):=by omega
   go_wp2_with fail
   refine (Hnum.out wr HE.out).mono ?_
   rintro e W2 ⟨rfl,hx2⟩
   have hpt2:=Hpt.out.ext hx2
   obtain ⟨g0,g1,f0,f1⟩:=hpt2.cell hkl
   have hmo:=hpt2.more (by rw [List.length_replicate];exact hkl) 0
   rw [List.length_replicate] at hmo
   rw [show List.replicate k (0:Rat)++[0]=List.replicate (k+1) 0 by rw [List.replicate_succ']] at hmo
   have hE2:=((HE.out.trans hx2).setCell (p:=⟨w.heap.size,k * 2,none⟩) (Nat.le_refl _) (.string (I (0:Rat).num))).setCell (p:=⟨w.heap.size,k * 2+1,none⟩) (Nat.le_refl _) (.string (I (((0:Rat).den:Nat):Int)))
   clear hx2 hpt2
   have Hmo:=hid hmo;have HE2:=hid hE2;clear hmo hE2
   go_wp2_with fail
   go_roundw
   case rel=>exact ⟨k+1,by go_num,by omega,Hmo.out,HE2.out⟩
   case measure=>simp [intOf];omega
  ·obtain rfl:k=n:=by omega
   have hfu:=Hpt.out.full (by rw [List.length_replicate])
   have Hfu:=hid hfu;clear hfu
   go_wp2
   go_ret
   exact ⟨rfl,Hfu.out,HE.out⟩
theorem Part.put {w:World}{B g n:Nat}(k:Part w B g n [])(i j:Nat)(u v:Value):Part ((w.setCell ⟨g,i,none⟩ u).setCell ⟨g,j,none⟩ v) B g n []:=by
 obtain ⟨xs,h1,_⟩:=k
 exact ⟨_,((h1.stored i u).1.stored j v).1,rfl⟩
theorem part_own {w:World}{B g n:Nat}{x:List Rat}(h:OwnQ w B (.slice (some ⟨g,0,none⟩) n n) x)(hx:x.length=n):Part w B g n []:=by
 unfold OwnQ at h;rw [hx] at h;exact ⟨_,h,rfl⟩
/-- What the round of a sum keeps. -/
def KS (w w' : World) (g n b : Nat) (u v : Value) : Prop:=Ext w w' ∧ Part w' w.heap.size g n [] ∧ Box2 w' b u v
theorem KS.ext {w w' w2:World}{g n b:Nat}{u v:Value}(h:KS w w' g n b u v)(hx:Ext w' w2):KS w w2 g n b u v:=⟨h.1.trans hx,h.2.1.ext hx,h.2.2.ext hx⟩
theorem KS.put {w w':World}{g n b:Nat}{u v:Value}(h:KS w w' g n b u v)(hg:w.heap.size≤g)(hne:b ≠ g)(i j:Nat)(x y:Value):KS w ((w'.setCell ⟨g,i,none⟩ x).setCell ⟨g,j,none⟩ y) g n b u v :=
 ⟨(h.1.setCell hg _).setCell hg _,h.2.1.put i j x y,(heap_setCell_other _ ⟨g,j,none⟩ b y hne).trans ((heap_setCell_other w' ⟨g,i,none⟩ b x hne).trans h.2.2)⟩
theorem KS.all {w w':World}{g n b k:Nat}{u v f0 f1:Value}{a0 a1:Addr}(h:KS w w' g n b u v)(hk:k<n)(h0:w.cell? a0=some f0)(h1:w.cell? a1=some f1) :
  KS w w' g n b u v∧w'.cell? ⟨g,k * 2,none⟩=some (valAt w' g (k * 2))∧w'.cell? ⟨g,k * 2+1,none⟩=some (valAt w' g (k * 2+1))∧w'.frozen? ⟨g,k * 2,none⟩=false∧w'.frozen? ⟨g,k * 2+1,none⟩=false∧w'.cell? ⟨b,0,none⟩=some u∧w'.cell? ⟨b,1,none⟩=some v∧w'.cell? a0=some f0∧w'.cell? a1=some f1:=by
 obtain ⟨e1,e2,e3,e4⟩:=h.2.1.cell hk
 exact ⟨h,e1,e2,e3,e4,h.2.2.c0,h.2.2.c1,h.1.cell h0,h.1.cell h1⟩
theorem ownq_at {w:World}{B g n:Nat}{x:List Rat}{k:Nat}{r:Rat}(h:OwnQ w B (.slice (some ⟨g,0,none⟩) n n) x)(hx:x.length=n)(hr:x[k]?=some r):valAt w g (k * 2)=.string (I r.num)∧valAt w g (k * 2+1)=.string (I (r.den:Int)):=by
 unfold OwnQ at h
 rw [hx] at h
 obtain ⟨hk,_⟩:=List.getElem?_eq_some_iff.1 hr
 obtain ⟨q1,q2⟩:=rcs_at hr
 have e1:=h.cellAt (k * 2) (by omega)
 have e2:=h.cellAt (k * 2+1) (by omega)
 rw [q1] at e1
 rw [q2] at e2
 unfold valAt
 exact ⟨by rw [e1];rfl,by rw [e2];rfl⟩
theorem ownq_put {w:World}{B g n:Nat}{x:List Rat}{k:Nat}(h:OwnQ w B (.slice (some ⟨g,0,none⟩) n n) x)(hx:x.length=n)(hk:k<n)(r:Rat):OwnQ ((w.setCell ⟨g,k * 2,none⟩ (.string (I r.num))).setCell ⟨g,k * 2+1,none⟩ (.string (I (r.den:Int)))) B (.slice (some ⟨g,0,none⟩) n n) (x.set k r):=by
 unfold OwnQ at h ⊢
 rw [hx] at h
 rw [List.length_set,hx,← rcs_set (by omega)]
 exact ((h.stored (k * 2) _).1.stored (k * 2+1) _).1
theorem sum_c (n:Nat)(vl vf:Value)(rs:List Qw)(fs:List Rat)(w:World)(he:Env w)(hl:RdM w vl rs)(hf:Rd w vf fs)(hn:n≤1000)(hlen:rs.length≤fs.length)(hr10:rs.length≤10)
  (hx:∀ r∈rs,r.x.length=n∧∀ q∈r.x,Ft 400 q) (hff:∀ f∈fs,Ft 400 f) :
  Calls Tryz.prog 112 #[.int .i64 n,vl,vf] w fun e w'=>e=.returned (.slice (some ⟨w.heap.size,0,none⟩) n n)∧OwnQ w' w.heap.size (.slice (some ⟨w.heap.size,0,none⟩) n n) (sumTo n (rs.map Qw.x) fs rs.length)∧Ext w w':=by
 have hz:=zero_c n w he hn
 obtain ⟨hs,hr⟩:=hl
 obtain ⟨al,cl,rfl,_,_,hcl⟩:=hs.parts
 obtain ⟨af,cf,rfl,_,_,hcf⟩:=hf.parts
 rw [qwc_length] at *
 have hml:(rs.map Qw.x).length=rs.length:=List.length_map _
 have hsl:=fun i (h:i≤rs.length)=>sumTo_length (n:=n) (xs:=rs.map Qw.x) (fs:=fs) (by intro x h;obtain ⟨r,hr,rfl⟩:=List.mem_map.1 h;exact (hx r hr).1) i (by omega)
 have hsf:=fun i (h:i≤rs.length)=>sumTo_ft (n:=n) (xs:=rs.map Qw.x) (fs:=fs) (by intro x h;obtain ⟨r,hr,rfl⟩:=List.mem_map.1 h;exact (hx r hr).2) hff (by omega) i (by omega)
 have hst:=fun i (h:i<rs.length)(r:Qw)(hr:rs[i]?=some r)(f:Rat)(hf:fs[i]?=some f)=>show sumTo n (rs.map Qw.x) fs (i+1)=stepQ (sumTo n (rs.map Qw.x) fs i) r.x f by
  rw [sumTo,List.getD_eq_getElem?_getD,List.getElem?_map,hr,List.getD_eq_getElem?_getD,hf];rfl
 have hsp:=fun (r:Qw)(h:r∈rs)=>(hr r h).parts
 have Hz:=hid hz;have Hcl:=hid hcl;have Hcf:=hid hcf;have Hsl:=hid hsl;have Hsf:=hid hsf;have Hst:=hid hst;have Hsp:=hid hsp;have Hx:=hid hx;have Hff:=hid hff;have Hlen:=hid hlen;have Hml:=hid hml;have He:=hid he;clear hz hcl hcf hsl hsf hst hsp hx hff hlen hml he
 clear hs hf hr
 go_enter Tryz.func112,Tryz.ntmps112
 go_wp2_with fail
 refine Hz.out.mono ?_
 rintro e w1 ⟨rfl,ho1,hx1⟩
 have Ho1:=hid ho1;have Hx1:=hid hx1;clear ho1 hx1
 go_wp2_with fail
 go_loopw [8,9,10,11,16,21,22,23] (fun v8 v9 v10 v11 v16 v21 v22 v23 wr=>∃ i:Nat,v16=.int .i64 i∧i≤rs.length∧OwnQ wr w.heap.size (.slice (some ⟨w.heap.size,0,none⟩) n n) (sumTo n (rs.map Qw.x) fs i)∧Ext w wr) (fun _ _ _ _ v16 _ _ _ _=>rs.length - (intOf v16).toNat)
 case atStart=>exact ⟨0,rfl,Nat.zero_le _,Ho1.out,Hx1.out⟩
 case round =>
  obtain ⟨i,rfl,hi,ho,hE⟩:=hrel
  have Ho:=hid ho;have HE:=hid hE;clear ho hE
  by_cases hil:i<rs.length
  ·obtain ⟨r,hr⟩:∃ r,rs[i]?=some r:=⟨_,List.getElem?_eq_getElem hil⟩
   obtain ⟨f,hfi⟩:∃ f,fs[i]?=some f:=⟨_,List.getElem?_eq_getElem (by have:=Hlen.out;omega)⟩
   have hmem:=List.mem_of_getElem? hr
   obtain ⟨b,off,rfl,hc0⟩:=Hcl.out i r.u (by unfold qwc;rw [List.getElem?_map,hr];rfl)
   have hcu:=HE.out.cell hc0
   obtain ⟨bf,of,rfl,hf0,hf1⟩:=Hcf.out i f hfi
   obtain ⟨ax,cx,ex,_,_,hcx⟩:=Hsp.out r hmem
   obtain ⟨hxn,hxf⟩:=Hx.out r hmem
   have hff1:=Hff.out f (List.mem_of_getElem? hfi)
   have hstep:=Hst.out i hil r hr f hfi
   have hol:=Hsl.out i hi
   have hof:=Hsf.out i hi
   rw [ex,hxn] at hcu
   have hi0:(0:Int)≤(i:Int):=by omega
   have hi1:(i:Int)<(rs.length:Int):=by omega
   have hi2:(i:Int)<(fs.length:Int):=by have:=Hlen.out;omega
   generalize hse:sumTo n (rs.map Qw.x) fs (i+1)=s1 at *
   generalize sumTo n (rs.map Qw.x) fs i=o1 at *
   generalize r.x=x at *
   have hsl1:s1.length=n:=by rw [hstep,stepQ_length (by rw [hxn,hol]),hol]
   have Hcx:=hid hcx;have Hxf:=hid hxf;have Hff1:=hid hff1;have Hstep:=hid hstep;have Hol:=hid hol;have Hof:=hid hof;have Hxn:=hid hxn;have Hf0:=hid hf0;have Hf1:=hid hf1;have Hsl1:=hid hsl1;have Hr:=hid hr;have Hfi:=hid hfi;have Hse:=hid hse;clear hcx hxf hff1 hstep hol hof hxn hf0 hf1 hsl1 hr hfi hse
   clear hc0 ex hmem
   obtain ⟨wa,hwa⟩:∃ wa,wa=wr:=⟨_,rfl⟩
   subst hwa
   go_wp2_with fail
   go_loopw [10,11,23] (fun v10 v11 v23 wr=>∃ j:Nat,v23=.int .i64 j∧j≤n∧OwnQ wr w.heap.size (.slice (some ⟨w.heap.size,0,none⟩) n n) (midQ o1 s1 j)∧Ext w wr) (fun _ _ v23 _=>n - (intOf v23).toNat)
   case atStart=>exact ⟨0,rfl,Nat.zero_le _,Ho.out,HE.out⟩
   case round =>
    obtain ⟨j,rfl,hj,ho2,hE2⟩:=hrel
    have Ho2:=hid ho2;have HE2:=hid hE2;clear ho2 hE2
    by_cases hjn:j<n
    ·obtain ⟨q,hq⟩:∃ q,x[j]?=some q:=⟨_,List.getElem?_eq_getElem (by rw [Hxn.out];exact hjn)⟩
     obtain ⟨a,ha⟩:∃ a,o1[j]?=some a:=⟨_,List.getElem?_eq_getElem (by rw [Hol.out];exact hjn)⟩
     obtain ⟨b2,off2,e2,hq0,hq1⟩:=Hcx.out j q hq
     subst e2
     have h20:=HE2.out.cell hq0
     have h21:=HE2.out.cell hq1
     have hs1:s1[j]?=some (a+q * f):=by rw [Hstep.out];exact stepQ_at ha hq
     have hmu:=fun W (h:Ext w W)=>frMul_c q f W (He.out.ext h) ((Hxf.out q (List.mem_of_getElem? hq)).mono (by omega)) (Hff1.out.mono (by omega))
     have had:=fun W (h:Ext w W)=>frAdd_c a (q * f) W (He.out.ext h) ((Hof.out a (List.mem_of_getElem? ha)).mono (by omega)) ((ft_mul (Hxf.out q (List.mem_of_getElem? hq)) Hff1.out).mono (by omega))
     have hs1n:=Hsl1.out
     have hon:=Hol.out
     obtain ⟨hv0,hv1⟩:=ownq_at Ho2.out (by rw [midQ_length (by rw [hs1n,hon]) (by omega),hon]) (by rw [midQ_at (by rw [hs1n,hon]) (by omega)];exact ha)
     have hset:(midQ o1 s1 j).set j (a+q * f)=midQ o1 s1 (j+1):=midQ_set (by rw [hs1n,hon]) (by omega) _ hs1
     have hml2:(midQ o1 s1 j).length=n:=by rw [midQ_length (by rw [hs1n,hon]) (by omega),hon]
     have hfin:=fun W (h:OwnQ W w.heap.size (.slice (some ⟨w.heap.size,0,none⟩) n n) (midQ o1 s1 j))=>ownq_put h hml2 hjn (a+q * f)
     rw [hset] at hfin
     have k0:=HE2.out.cell Hf0.out
     have k1:=HE2.out.cell Hf1.out
     have hj0:(0:Int)≤(j:Int):=by omega
     have hj1:(j:Int)<(n:Int):=by omega
     have hi0:(0:Int)≤(i:Int):=by omega
     have hi1:(i:Int)<(fs.length:Int):=by have:=Hlen.out;omega
     unfold Rv at hmu had
     generalize I (a+q * f).num=st at *
     generalize I (((a+q * f).den:Nat):Int)=su at *
     generalize I (q * f).num=sm at *
     generalize I (((q * f).den:Nat):Int)=sn at *
     generalize I a.num=sa at *
     generalize I (a.den:Int)=sb at *
     generalize I q.num=sq at *
     generalize I (q.den:Int)=sr at *
     generalize I f.num=sf at *
     generalize I (f.den:Int)=sg at *
     obtain ⟨c0,c1,z0,z1⟩:=(part_own Ho2.out hml2).cell hjn
     rw [hv0] at c0
     rw [hv1] at c1
     have hxw:Ext wr (wr.alloc (.cells #[.string sq,.string sr] 27)):=(Ext.refl wr).alloc _
     have hEb:Ext w (wr.alloc (.cells #[.string sq,.string sr] 27)):=HE2.out.alloc _
     have hbx:Box2 (wr.alloc (.cells #[.string sq,.string sr] 27)) wr.heap.size (.string sq) (.string sr):=Box2.new _ _ _
     have how:=hxw.ownQ Ho2.out
     have hprt:=(part_own Ho2.out hml2).ext hxw
     have d0:=hxw.cell c0;have d1:=hxw.cell c1
     have k0:=hxw.cell k0;have k1:=hxw.cell k1
     have z0:=(hprt.cell hjn).2.2.1;have z1:=(hprt.cell hjn).2.2.2
     have x0:=hbx.c0;have x1:=hbx.c1
     clear hq0 hq1 hv0 hv1 hset hml2 hs1 hs1n hon hq ha c0 c1 hxw hbx
     have Hmu:=hid hmu;have Had:=hid had;have Hfin:=hid hfin;have How:=hid how;have Hprt:=hid hprt;have HEb:=hid hEb;clear hmu had hfin how hprt hEb
     have Hj:=hid hjn
     go_wp2_with fail
     clear h20 h21
     generalize hV:wr.alloc (.cells #[.string sq,.string sr] 27)=V at *
     have D0:=hid d0;have D1:=hid d1
     go_region_law (first
      | (go_simp;go_at_call 151;refine (Hmu.out _ HEb.out.drew).mono ?_;rintro e9 V4 ⟨rfl,hxz⟩;have hxa:Ext V V4:=((Ext.refl V).drew).trans hxz;clear hxz;have g0:=hxa.cell d0;have g1:=hxa.cell d1;have HE4:=hid (HEb.out.trans hxa);have how4:=hxa.ownQ How.out;have hp4:=Hprt.out.ext hxa;have How4:=hid how4;have Hp4:=hid hp4;clear hxa how4 hp4)
      | (go_simp;go_at_call 150;refine (Had.out _ HE4.out).mono ?_;rintro e9 V5 ⟨rfl,hxb⟩;have hp5:=Hp4.out.ext hxb;obtain ⟨p0,p1,p2,p3⟩:=hp5.cell Hj.out;have HE5:=hid (HE4.out.trans hxb);have How5:=hid (hxb.ownQ How4.out);clear hxb hp5))
     all_goals
      have hfn:=Hfin.out V5 How5.out
      have hfe:=(HE5.out.setCell (p:=⟨w.heap.size,j * 2,none⟩) (Nat.le_refl _) (.string st)).setCell (p:=⟨w.heap.size,j * 2+1,none⟩) (Nat.le_refl _) (.string su)
      clear p0 p1 p2 p3
      generalize (V5.setCell ⟨w.heap.size,j * 2,none⟩ (.string st)).setCell ⟨w.heap.size,j * 2+1,none⟩ (.string su)=V6 at *
      have Hfn:=hid hfn;have Hfe:=hid hfe;clear hfn hfe
      go_wp2_with fail
      go_roundw
      case rel=>exact ⟨j+1,by go_num,by omega,Hfn.out,Hfe.out⟩
      case measure=>simp [intOf];omega
    ·obtain rfl:j=n:=by omega
     have hos:=Ho2.out
     rw [← Hol.out,midQ_full (by rw [Hsl1.out,Hol.out]),Hol.out] at hos
     have Hos:=hid hos;clear hos
     go_wp2_with fail
     go_roundw
     case rel=>exact ⟨i+1,by go_num,by omega,by rw [Hse.out];exact Hos.out,HE2.out⟩
     case measure=>simp [intOf];omega
  ·obtain rfl:i=rs.length:=by omega
   go_wp2
   go_ret
   exact ⟨rfl,Ho.out,HE.out⟩
end Go.Proofs.YtipjmpdndokdlaaGreatDoor
