/- Blocks of two cells of any type: results and boxes. Walks: slices.Equal at primes, slices.EqualFunc at sizes; law 31's same, scale.same. Plain: sizes of the box with few octaves have small numbers. Plain: an insertion sort by a key; lists in order. Walk: scale.Check of a right scale. Walk: scale.open of a right scale and a right size. Walk: scale.Reduce of a right scale with the octave as its period. Walk: scale.note of a right scale. -/
import Derived.Test.YtebabancfnmfjaaGreatDoorPm05
import Derived.Test.YtebabancfnmfjaaGreatDoorPm08
import Derived.Test.YtebabancfnmfjaaGreatDoorPm14
import Derived.Test.YtebabancfnmfjaaGreatDoorPm13
import Derived.Test.YtebabancfnmfjaaGreatDoorPm07
import Derived.Deep.RegionHeld3
import Derived.Deep.DeepCutAuto
set_option maxRecDepth 100000
set_option maxHeartbeats 4000000
namespace Go.Proofs.YtebabancfnmfjaaGreatDoor
section
open Go.RowKit Go.Lib
def zic (T:TypeId)(w:World)(b:Nat)(u v:Value):Prop:=w.heap[b]?=some (.cells #[u,v] T (0,0))
section
variable {T : TypeId} {w w' : World} {b c : Nat} {u v : Value}
theorem zic.new (T:TypeId)(w:World)(u v:Value):zic T (w.alloc (.cells #[u,v] T)) w.heap.size u v:=World.alloc_heap_new w _
theorem zic.ext (hx:Ext w w')(h:zic T w b u v):zic T w' b u v:=hx.heap h
theorem zic.c0 (h:zic T w b u v):w.cell? ⟨b,0,none⟩=some u:=by unfold World.cell?;dsimp only;rw [h];rfl
theorem zic.c1 (h:zic T w b u v):w.cell? ⟨b,1,none⟩=some v:=by unfold World.cell?;dsimp only;rw [h];rfl
theorem zic.fz (h:zic T w b u v)(k:Nat):w.frozen? ⟨b,k,none⟩=false:=frozen_of_row w b k #[u,v] _ h
theorem zic.lt (h:zic T w b u v):b<w.heap.size:=(Array.getElem?_eq_some_iff.1 h).1
theorem zic.put (h:zic T w c u v)(x y:Value):zic T ((w.setCell ⟨c,0,none⟩ x).setCell ⟨c,1,none⟩ y) c x y :=
 heap_setCell_same _ c 1 _ _ y (heap_setCell_same w c 0 _ _ x h)
theorem zic.put0 (h:zic T w c u v)(x:Value):zic T (w.setCell ⟨c,0,none⟩ x) c x v:=heap_setCell_same w c 0 _ _ x h
theorem zic.put1 (h:zic T w c u v)(x:Value):zic T (w.setCell ⟨c,1,none⟩ x) c u x:=heap_setCell_same w c 1 _ _ x h
theorem zic.past1 (h:zic T w b u v)(k:Nat)(hne:b ≠ c)(x:Value):zic T (w.setCell ⟨c,k,none⟩ x) b u v:=(heap_setCell_other w ⟨c,k,none⟩ b x hne).trans h
theorem zic.past (h:zic T w b u v)(hne:b ≠ c)(x y:Value):zic T ((w.setCell ⟨c,0,none⟩ x).setCell ⟨c,1,none⟩ y) b u v:=(h.past1 0 hne x).past1 1 hne y
end
def zid (T:TypeId)(w:World)(c:Nat):Prop:=∃ u v,zic T w c u v
section
variable {T : TypeId} {w w' w2 : World} {b c : Nat} {u v : Value}
theorem zid.ext (hx:Ext w w')(h:zid T w c):zid T w' c:=by
 obtain ⟨u,v,h⟩:=h;exact ⟨u,v,h.ext hx⟩
theorem zid.c0 (h:zid T w c):w.cell? ⟨c,0,none⟩=some (zdD w c 0):=by
 obtain ⟨u,v,h⟩:=h;unfold zdD;rw [h.c0];rfl
theorem zid.c1 (h:zid T w c):w.cell? ⟨c,1,none⟩=some (zdD w c 1):=by
 obtain ⟨u,v,h⟩:=h;unfold zdD;rw [h.c1];rfl
theorem zid.fz (h:zid T w c)(k:Nat):w.frozen? ⟨c,k,none⟩=false:=by
 obtain ⟨u,v,h⟩:=h;exact h.fz k
structure K0 (T:TypeId)(w w':World)(c:Nat):Prop where
 x:Ext w w'
 res:zid T w' c
theorem K0.ext (h:K0 T w w' c)(hx:Ext w' w2):K0 T w w2 c:=⟨h.x.trans hx,h.res.ext hx⟩
theorem K0.fin (h:K0 T w w' c)(hc:w.heap.size≤c)(x y:Value):zic T ((w'.setCell ⟨c,0,none⟩ x).setCell ⟨c,1,none⟩ y) c x y∧Ext w ((w'.setCell ⟨c,0,none⟩ x).setCell ⟨c,1,none⟩ y):=by
 obtain ⟨u',v',h'⟩:=h.res;exact ⟨h'.put x y,(h.x.setCell hc _).setCell hc _⟩
theorem K0.set (h:K0 T w w' c){b:Nat}(hb:w.heap.size≤b)(hne:c ≠ b)(k:Nat)(x:Value):K0 T w (w'.setCell ⟨b,k,none⟩ x) c:=by
 obtain ⟨u',v',h'⟩:=h.res;exact ⟨h.x.setCell hb _,u',v',h'.past1 k hne x⟩
end
structure K2 (T1 T2 TR:TypeId)(w w':World)(b1:Nat)(u1 v1:Value)(b2:Nat)(u2 v2:Value)(c:Nat):Prop where
 x:Ext w w'
 a:zic T1 w' b1 u1 v1
 b:zic T2 w' b2 u2 v2
 res:zid TR w' c
section
variable {T1 T2 TR : TypeId} {w w' w2 : World} {b1 b2 c : Nat} {u1 v1 u2 v2 : Value}
theorem K2.ext (h:K2 T1 T2 TR w w' b1 u1 v1 b2 u2 v2 c)(hx:Ext w' w2):K2 T1 T2 TR w w2 b1 u1 v1 b2 u2 v2 c:=⟨h.x.trans hx,h.a.ext hx,h.b.ext hx,h.res.ext hx⟩
theorem K2.put (h:K2 T1 T2 TR w w' b1 u1 v1 b2 u2 v2 c)(hc:w.heap.size≤c)(h1:b1 ≠ c)(h2:b2 ≠ c)(x y:Value):K2 T1 T2 TR w ((w'.setCell ⟨c,0,none⟩ x).setCell ⟨c,1,none⟩ y) b1 u1 v1 b2 u2 v2 c:=by
 obtain ⟨u,v,hr⟩:=h.res;exact ⟨(h.x.setCell hc _).setCell hc _,h.a.past h1 x y,h.b.past h2 x y,x,y,hr.put x y⟩
theorem K2.fin (h:K2 T1 T2 TR w w' b1 u1 v1 b2 u2 v2 c)(hc:w.heap.size≤c)(x y:Value):zic TR ((w'.setCell ⟨c,0,none⟩ x).setCell ⟨c,1,none⟩ y) c x y∧Ext w ((w'.setCell ⟨c,0,none⟩ x).setCell ⟨c,1,none⟩ y):=by
 obtain ⟨u',v',h'⟩:=h.res;exact ⟨h'.put x y,(h.x.setCell hc _).setCell hc _⟩
theorem K2.all (h:K2 T1 T2 TR w w' b1 u1 v1 b2 u2 v2 c):K2 T1 T2 TR w w' b1 u1 v1 b2 u2 v2 c∧w'.cell? ⟨b1,0,none⟩=some u1∧w'.cell? ⟨b1,1,none⟩=some v1∧w'.cell? ⟨b2,0,none⟩=some u2∧w'.cell? ⟨b2,1,none⟩=some v2∧w'.cell? ⟨c,0,none⟩=some (zdD w' c 0)∧w'.cell? ⟨c,1,none⟩=some (zdD w' c 1)∧w'.frozen? ⟨c,0,none⟩=false∧w'.frozen? ⟨c,1,none⟩=false :=
 ⟨h,h.a.c0,h.a.c1,h.b.c0,h.b.c1,h.res.c0,h.res.c1,h.res.fz 0,h.res.fz 1⟩
end
theorem zie (T1 T2 TR:TypeId)(w:World)(u1 v1 u2 v2 r1 r2:Value):K2 T1 T2 TR w (((w.alloc (.cells #[u1,v1] T1)).alloc (.cells #[u2,v2] T2)).alloc (.cells #[r1,r2] TR)) w.heap.size u1 v1 (w.heap.size+1) u2 v2 (w.heap.size+1+1)∧zic TR (((w.alloc (.cells #[u1,v1] T1)).alloc (.cells #[u2,v2] T2)).alloc (.cells #[r1,r2] TR)) (w.heap.size+1+1) r1 r2:=by
 have b1:=zic.new T1 w u1 v1;have b2:=zic.new T2 (w.alloc (.cells #[u1,v1] T1)) u2 v2;have b3:=zic.new TR ((w.alloc (.cells #[u1,v1] T1)).alloc (.cells #[u2,v2] T2)) r1 r2;rw [World.size_alloc] at b2;rw [World.size_alloc,World.size_alloc] at b3;exact ⟨⟨(((Ext.refl w).alloc _).alloc _).alloc _,(b1.ext ((Ext.refl _).alloc _)).ext ((Ext.refl _).alloc _),b2.ext ((Ext.refl _).alloc _),r1,r2,b3⟩,b3⟩
end
section
open Go.RowKit Go.Lib Go.Shelf
attribute [local go_sem] Oper.semAt_some
theorem zif {w:World}{v:Value}{p:List Int}{rs:List Qw}(h:ScV w v p rs):∃ a c b d,v=.agg #[.slice a p.length c,.slice b rs.length d]∧ScV w (.agg #[.slice a p.length c,.slice b rs.length d]) p rs:=by
 obtain ⟨vp,vn,rfl,hp,hn⟩:=h;obtain ⟨a,c,rfl,_,_,_⟩:=hp.parts;obtain ⟨b,d,rfl,_,_,_⟩:=hn.1.parts;rw [zas] at *;rw [zf0] at *;exact ⟨a,c,b,d,rfl,_,_,rfl,hp,hn⟩
theorem zig (va vb:Value)(p q:List Int)(w:World)(ha:Sl w va (zaq p))(hb:Sl w vb (zaq q))(hp:p.length≤1000)(hq:q.length≤1000) :
  Calls Tryz.prog 145 #[va,vb] w fun e w'=>e=.returned (.bool (decide (p=q)))∧Ext w w':=by
 obtain ⟨aa,ca,rfl,_,_,hca⟩:=ha.parts;obtain ⟨ab,cb,rfl,_,_,hcb⟩:=hb.parts;rw [zas] at *;rw [zas] at *;have h1:∀ k x,p[k]?=some x→∃ b off,aa=some ⟨b,off,none⟩∧w.cell? ⟨b,off+k,none⟩=some (.int .i64 x):=fun k x h=>hca k _ (by unfold zaq;rw [List.getElem?_map,h];rfl);have h2:∀ k x,q[k]?=some x→∃ b off,ab=some ⟨b,off,none⟩∧w.cell? ⟨b,off+k,none⟩=some (.int .i64 x):=fun k x h=>hcb k _ (by unfold zaq;rw [List.getElem?_map,h];rfl);clear hca hcb ha hb;by_cases hl:p.length=q.length
 ·have Hl:=hid hl;rw [← hl];have hfin:(∀ i,i<p.length→p[i]?=q[i]?)→decide (p=q)=true:=fun h=>by
   rw [decide_eq_true_eq];apply List.ext_getElem?;intro i;rcases Nat.lt_or_ge i p.length with g | g
   ·exact h i g
   ·rw [List.getElem?_eq_none g,List.getElem?_eq_none (by omega)]
  have hbad:∀ (i:Nat)(x y:Int),p[i]?=some x→q[i]?=some y→x ≠ y→decide (p=q)=false:=fun i x y h1 h2 h3=>by
   rw [decide_eq_false_iff_not];rintro rfl;rw [h1] at h2;exact h3 (Option.some.inj h2)
  generalize hn:p.length=n at *;clear hl hq;have H1:=hid h1;have H2:=hid h2;have Hfin:=hid hfin;have Hbad:=hid hbad;have Hn:=hid hn;clear h1 h2 hfin hbad hn;go_enter Tryz.func145,Tryz.ntmps145
  go_wp2_with fail
  go_loopw [5,13] (fun v5 v13 wr=>∃ k:Nat,v13=.int .i64 k∧k≤n∧Hid (∀ i,i<k→p[i]?=q[i]?)∧Hid (Ext w wr)) (fun _ v13 _=>n - (zam v13).toNat)
  case atStart=>exact ⟨0,rfl,Nat.zero_le _,hid (fun i h=>by omega),hid (Ext.refl _)⟩
  case round =>
   obtain ⟨k,rfl,hk,Hall,HE⟩:=hrel;by_cases hkn:k<n
   ·obtain ⟨x,hx⟩:∃ x,p[k]?=some x:=⟨_,List.getElem?_eq_getElem (by rw [Hn.out];exact hkn)⟩;obtain ⟨y,hy⟩:∃ y,q[k]?=some y:=⟨_,List.getElem?_eq_getElem (by rw [← Hl.out];exact hkn)⟩;obtain ⟨ba,oa,rfl,c0⟩:=H1.out k x hx;obtain ⟨bb,ob,rfl,c1⟩:=H2.out k y hy;have c0:=HE.out.cell c0;have c1:=HE.out.cell c1;have hk0:(0:Int)≤(k:Int):=(by omega);have hk1:(k:Int)<(n:Int):=(by omega);by_cases hxy:x=y
    ·subst hxy;have Hnx:Hid (∀ i,i<k+1→p[i]?=q[i]?):=hid (fun i hi=>by
      rcases Nat.lt_or_ge i k with g | g
      ·exact Hall.out i g
      ·rw [show i=k by omega,hx,hy])
     clear hx hy;go_wp2_with fail
     go_quiet (fail)
     go_wp2_with fail
     go_roundw
     case rel=>exact ⟨k+1,by go_num,by omega,Hnx,hid (HE.out.drewN _)⟩
     case measure=>simp [zam];omega
    ·have hb1:=Hbad.out k x y hx hy hxy;have hxb:(x == y)=false:=beq_eq_false_iff_ne.2 hxy;have Hb1:=hid hb1;clear hb1 hx hy;go_wp2_with fail
     go_quiet (fail)
     go_wp2
     go_ret
     exact ⟨by rw [Hb1.out];rfl,HE.out.drewN _⟩
   ·obtain rfl:n=k:=by omega
    have Hf:=hid (Hfin.out Hall.out);go_wp2
    go_ret
    exact ⟨by rw [Hf.out];rfl,HE.out⟩
 ·have hne:decide (p=q)=false:=by
   rw [decide_eq_false_iff_not];rintro rfl;exact hl rfl
  rw [hne];have hl2:¬ (p.length:Int)=(q.length:Int):=by omega
  clear h1 h2 hne;generalize p.length=n at *;generalize q.length=m at *;go_enter Tryz.func145,Tryz.ntmps145
  go_wp2
  go_ret
  exact ⟨rfl,Ext.refl _⟩
theorem zih (va vb:Value)(rs ts:List Qw)(w:World)(ha:RdM w va rs)(hb:RdM w vb ts)(hr:rs.length≤1000)(_ht:ts.length≤1000)(hr2:∀ r∈rs,r.x.length≤1000)(ht2:∀ r∈ts,r.x.length≤1000) :
  Calls Tryz.prog 146 #[va,vb,.func (.func 15) #[] #[]] w fun e w'=>e=.returned (.bool (decide (rs.map Qw.x=ts.map Qw.x)))∧Ext w w':=by
 have heq:=fun (r s:Qw)(h:r∈rs)(k:s∈ts) W (hE:Ext w W)=>zfK r.u s.u r.x s.x W (hE.rd (ha.2 r h)) (hE.rd (hb.2 s k)) (hr2 r h) (ht2 s k);obtain ⟨aa,ca,rfl,_,_,hca⟩:=ha.1.parts;obtain ⟨ab,cb,rfl,_,_,hcb⟩:=hb.1.parts;rw [zf0] at *;rw [zf0] at *;have h1:∀ k r,rs[k]?=some r→∃ b off,aa=some ⟨b,off,none⟩∧w.cell? ⟨b,off+k,none⟩=some r.u:=fun k x h=>hca k _ (by unfold qwc;rw [List.getElem?_map,h];rfl);have h2:∀ k r,ts[k]?=some r→∃ b off,ab=some ⟨b,off,none⟩∧w.cell? ⟨b,off+k,none⟩=some r.u:=fun k x h=>hcb k _ (by unfold qwc;rw [List.getElem?_map,h];rfl);clear hca hcb ha hb hr2 ht2;by_cases hl:rs.length=ts.length
 ·have Hl:=hid hl;rw [← hl];have hfin:(∀ i,i<rs.length→(rs.map Qw.x)[i]?=(ts.map Qw.x)[i]?)→decide (rs.map Qw.x=ts.map Qw.x)=true:=fun h=>by
   rw [decide_eq_true_eq];apply List.ext_getElem?;intro i;rcases Nat.lt_or_ge i rs.length with g | g
   ·exact h i g
   ·rw [List.getElem?_eq_none (by rw [List.length_map];exact g),List.getElem?_eq_none (by rw [List.length_map];omega)]
  have hbad:∀ (i:Nat)(r s:Qw),rs[i]?=some r→ts[i]?=some s→r.x ≠ s.x→decide (rs.map Qw.x=ts.map Qw.x)=false:=fun i r s h1 h2 h3=>by
   rw [decide_eq_false_iff_not];intro e;have:=congrArg (fun l=>l[i]?) e;simp only [List.getElem?_map,h1,h2,Option.map_some,Option.some.injEq] at this;exact h3 this
  generalize hn:rs.length=n at *;clear hl _ht;have H1:=hid h1;have H2:=hid h2;have Hfin:=hid hfin;have Hbad:=hid hbad;have Hn:=hid hn;have Heq:=hid heq;clear h1 h2 hfin hbad hn heq;go_enter Tryz.func146,Tryz.ntmps146
  go_wp2_with fail
  go_loopw [7,8,9,17] (fun v7 v8 v9 v17 wr=>∃ k:Nat,v17=.int .i64 k∧k≤n∧Hid (∀ i,i<k→(rs.map Qw.x)[i]?=(ts.map Qw.x)[i]?)∧Hid (Ext w wr)) (fun _ _ _ v17 _=>n - (zam v17).toNat)
  case atStart=>exact ⟨0,rfl,Nat.zero_le _,hid (fun i h=>by omega),hid (Ext.refl _)⟩
  case round =>
   obtain ⟨k,rfl,hk,Hall,HE⟩:=hrel;by_cases hkn:k<n
   ·obtain ⟨r,hx⟩:∃ x,rs[k]?=some x:=⟨_,List.getElem?_eq_getElem (by rw [Hn.out];exact hkn)⟩;obtain ⟨s,hy⟩:∃ y,ts[k]?=some y:=⟨_,List.getElem?_eq_getElem (by rw [← Hl.out];exact hkn)⟩;obtain ⟨ba,oa,rfl,c0⟩:=H1.out k r hx;obtain ⟨bb,ob,rfl,c1⟩:=H2.out k s hy;have c0:=HE.out.cell c0;have c1:=HE.out.cell c1;have hk0:(0:Int)≤(k:Int):=(by omega);have hk1:(k:Int)<(n:Int):=(by omega);have hq:=Heq.out r s (List.mem_of_getElem? hx) (List.mem_of_getElem? hy) wr HE.out;by_cases hxy:r.x=s.x
    ·have Hnx:Hid (∀ i,i<k+1→(rs.map Qw.x)[i]?=(ts.map Qw.x)[i]?):=hid (fun i hi=>by
      rcases Nat.lt_or_ge i k with g | g
      ·exact Hall.out i g
      ·rw [show i=k by omega,List.getElem?_map,List.getElem?_map,hx,hy,Option.map_some,Option.map_some,hxy])
     rw [decide_eq_true hxy] at hq;have Hq:=hid hq;clear hx hy hq hxy;generalize r.u=ur at *;generalize s.u=us at *;go_wp2_with fail
     refine Hq.out.mono ?_;rintro e w2 ⟨rfl,hx2⟩;have HE2:=hid (HE.out.trans hx2);clear hx2;go_wp2_with fail
     go_roundw
     case rel=>exact ⟨k+1,by go_num,by omega,Hnx,HE2⟩
     case measure=>simp [zam];omega
    ·have hb1:=Hbad.out k r s hx hy hxy;rw [decide_eq_false hxy] at hq;have Hb1:=hid hb1;have Hq:=hid hq;clear hb1 hx hy hq hxy;generalize r.u=ur at *;generalize s.u=us at *;go_wp2_with fail
     refine Hq.out.mono ?_;rintro e w2 ⟨rfl,hx2⟩;have HE2:=hid (HE.out.trans hx2);clear hx2;go_wp2
     go_ret
     exact ⟨by rw [Hb1.out];rfl,HE2.out⟩
   ·obtain rfl:n=k:=by omega
    have Hf:=hid (Hfin.out Hall.out);go_wp2
    go_ret
    exact ⟨by rw [Hf.out];rfl,HE.out⟩
 ·have hne:decide (rs.map Qw.x=ts.map Qw.x)=false:=by
   rw [decide_eq_false_iff_not];intro e;have:=congrArg List.length e;rw [List.length_map,List.length_map] at this;exact hl this
  rw [hne];have hl2:¬ (rs.length:Int)=(ts.length:Int):=by omega
  clear h1 h2 hne heq;generalize rs.length=n at *;generalize ts.length=m at *;go_enter Tryz.func146,Tryz.ntmps146
  go_wp2
  go_ret
  exact ⟨rfl,Ext.refl _⟩
theorem zii (v1 v2:Value)(p q:List Int)(rs ts:List Qw)(w:World)(h1:ScV w v1 p rs)(h2:ScV w v2 q ts)(hp:p.length≤1000)(hq:q.length≤1000)(hr:rs.length≤1000)(ht:ts.length≤1000)(hr2:∀ r∈rs,r.x.length≤1000)(ht2:∀ r∈ts,r.x.length≤1000) :
  Calls Tryz.prog 87 #[v1,v2] w fun e w'=>e=.returned (.bool (decide (p=q) && decide (rs.map Qw.x=ts.map Qw.x)))∧Ext w w':=by
 obtain ⟨vp,vn,rfl,hp1,hn1⟩:=h1;obtain ⟨vq,vm,rfl,hq1,hm1⟩:=h2;have he1:=fun W (hE:Ext w W)=>zig vp vq p q W (hE.sl hp1) (hE.sl hq1) hp hq;have he2:=fun W (hE:Ext w W)=>zih vn vm rs ts W (hE.rdM hn1) (hE.rdM hm1) hr ht hr2 ht2;obtain ⟨ap,cp,rfl,_,_,_⟩:=hp1.parts;obtain ⟨aq,cq,rfl,_,_,_⟩:=hq1.parts;obtain ⟨an,cn,rfl,_,_,_⟩:=hn1.1.parts;obtain ⟨am,cm,rfl,_,_,_⟩:=hm1.1.parts;generalize (zaq p).length=lp at *;generalize (zaq q).length=lq at *;generalize (qwc rs).length=ln at *;generalize (qwc ts).length=lm at *;generalize decide (p=q)=b1 at *;generalize decide (rs.map Qw.x=ts.map Qw.x)=b2 at *;have hE0:Ext w ((w.alloc (.cells #[.slice ap lp cp,.slice an ln cn] 28)).alloc (.cells #[.slice aq lq cq,.slice am lm cm] 28)):=((Ext.refl w).alloc _).alloc _;have k1:=(zic.new 28 w (.slice ap lp cp) (.slice an ln cn)).ext ((Ext.refl _).alloc (.cells #[.slice aq lq cq,.slice am lm cm] 28));have k2:=zic.new 28 (w.alloc (.cells #[.slice ap lp cp,.slice an ln cn] 28)) (.slice aq lq cq) (.slice am lm cm);rw [World.size_alloc] at k2;have q0:=k1.c0;have q2:=k2.c0;have He1:=hid he1;have He2:=hid he2;have HE0:=hid hE0;have K1:=hid k1;have K2':=hid k2;clear hp1 hq1 hn1 hm1 he1 he2 hE0 k1 k2 hr2 ht2
 cases b1
 ·go_enter Tryz.func87,Tryz.ntmps87
  go_wp2_with fail
  refine (He1.out _ HE0.out).mono ?_;rintro e w1 ⟨rfl,hx1⟩;have Hx1:=hid (HE0.out.trans hx1);clear hx1;go_wp2
  go_ret
  exact ⟨rfl,Hx1.out⟩
 ·go_enter Tryz.func87,Tryz.ntmps87
  go_wp2_with fail
  refine (He1.out _ HE0.out).mono ?_;rintro e w1 ⟨rfl,hx1⟩;have q1:=(K1.out.ext hx1).c1;have q3:=(K2'.out.ext hx1).c1;have Hx1:=hid (HE0.out.trans hx1);clear hx1 q0 q2;go_wp2_with fail
  refine (He2.out _ Hx1.out).mono ?_;rintro e w2 ⟨rfl,hx2⟩;have Hx2:=hid (Hx1.out.trans hx2);clear hx2 q1 q3;go_wp2
  go_ret
  exact ⟨rfl,Hx2.out⟩
theorem zij (v1 v2:Value)(p q:List Int)(rs ts:List Qw)(w:World)(h1:ScV w v1 p rs)(h2:ScV w v2 q ts)(hp:p.length≤1000)(hq:q.length≤1000)(hr:rs.length≤1000)(ht:ts.length≤1000)(hr2:∀ r∈rs,r.x.length≤1000)(ht2:∀ r∈ts,r.x.length≤1000) :
  Calls Tryz.prog 178 #[v1,v2] w fun e w'=>e=.returned (.bool (decide (p=q) && decide (rs.map Qw.x=ts.map Qw.x)))∧Ext w w':=by
 obtain ⟨vp,vn,rfl,hp1,hn1⟩:=h1;obtain ⟨vq,vm,rfl,hq1,hm1⟩:=h2;have he1:=fun W (hE:Ext w W)=>zig vp vq p q W (hE.sl hp1) (hE.sl hq1) hp hq;have he2:=fun W (hE:Ext w W)=>zih vn vm rs ts W (hE.rdM hn1) (hE.rdM hm1) hr ht hr2 ht2;obtain ⟨ap,cp,rfl,_,_,_⟩:=hp1.parts;obtain ⟨aq,cq,rfl,_,_,_⟩:=hq1.parts;obtain ⟨an,cn,rfl,_,_,_⟩:=hn1.1.parts;obtain ⟨am,cm,rfl,_,_,_⟩:=hm1.1.parts;generalize (zaq p).length=lp at *;generalize (zaq q).length=lq at *;generalize (qwc rs).length=ln at *;generalize (qwc ts).length=lm at *;generalize decide (p=q)=b1 at *;generalize decide (rs.map Qw.x=ts.map Qw.x)=b2 at *;have hE0:Ext w ((w.alloc (.cells #[.slice ap lp cp,.slice an ln cn] 28)).alloc (.cells #[.slice aq lq cq,.slice am lm cm] 28)):=((Ext.refl w).alloc _).alloc _;have k1:=(zic.new 28 w (.slice ap lp cp) (.slice an ln cn)).ext ((Ext.refl _).alloc (.cells #[.slice aq lq cq,.slice am lm cm] 28));have k2:=zic.new 28 (w.alloc (.cells #[.slice ap lp cp,.slice an ln cn] 28)) (.slice aq lq cq) (.slice am lm cm);rw [World.size_alloc] at k2;have q0:=k1.c0;have q2:=k2.c0;have He1:=hid he1;have He2:=hid he2;have HE0:=hid hE0;have K1:=hid k1;have K2':=hid k2;clear hp1 hq1 hn1 hm1 he1 he2 hE0 k1 k2 hr2 ht2
 cases b1
 ·go_enter Tryz.func178,Tryz.ntmps178
  go_wp2_with fail
  refine (He1.out _ HE0.out).mono ?_;rintro e w1 ⟨rfl,hx1⟩;have Hx1:=hid (HE0.out.trans hx1);clear hx1;go_wp2
  go_ret
  exact ⟨rfl,Hx1.out⟩
 ·go_enter Tryz.func178,Tryz.ntmps178
  go_wp2_with fail
  refine (He1.out _ HE0.out).mono ?_;rintro e w1 ⟨rfl,hx1⟩;have q1:=(K1.out.ext hx1).c1;have q3:=(K2'.out.ext hx1).c1;have Hx1:=hid (HE0.out.trans hx1);clear hx1 q0 q2;go_wp2_with fail
  refine (He2.out _ Hx1.out).mono ?_;rintro e w2 ⟨rfl,hx2⟩;have Hx2:=hid (Hx1.out.trans hx2);clear hx2 q1 q3;go_wp2
  go_ret
  exact ⟨rfl,Hx2.out⟩
end
section
theorem zik {r:Rat}(h1:r.num.natAbs≤100000000)(h2:r.den≤1000000):Ft 30 r :=
 ⟨Dec.nDigits_le (by omega) (Nat.lt_of_le_of_lt h1 (by decide)),Dec.nDigits_le (by omega) (Nat.lt_of_le_of_lt h2 (by decide))⟩
theorem zil {p:List Int}{d:Nat}{x:List Rat}{e:Int × Int}(h:e∈tms p d x):e∈p.zip (fcd d x):=(List.mem_filter.1 h).1
structure Ok (m:Int)(p:List Int)(x:List Rat):Prop where
 ft:∀ r∈x,Ft 30 r
 small:∀ e∈tms p (dn x) x,okE m e
 den:dn x≤2
theorem zim {m:Int}{p:List Int}{x:List Rat}(hp:Pr p x.length)(h:Bx 256 x)(hm:512≤m)(hm2:m≤1000000)(hA:∀ a,x.head?=some a→-m≤2 * a.num∧2 * a.num≤m):Ok m p x:=by
 rcases hp with ⟨rfl,hl⟩ | ⟨rfl,hl⟩
 ·match x,hl,h with
  | [a,b],_,⟨A,B,ha,hb,h1,h2⟩ =>
   obtain ⟨ha1,ha2⟩:=zeA ha
   have hA':=hA a rfl
   rw [ha1] at hA'
   rcases zeB hb with ⟨hb1,hb2⟩ | ⟨hb1,hb2⟩
   ·have e:[(2:Int),3].zip (fcd (dn [a,b]) [a,b])=[(2,A),(3,b.num)]:=by
     simp [dn,fcd,ha1,ha2,hb1]
    refine ⟨?_,?_,by simp [dn,ha2,hb1]⟩
    ·intro r hr
     simp only [List.mem_cons,List.not_mem_nil,or_false] at hr
     rcases hr with rfl | rfl
     ·exact zik (by omega) (by omega)
     ·exact zik (by omega) (by omega)
    ·intro q hq
     have:=zil hq
     rw [e] at this
     simp only [List.mem_cons,List.not_mem_nil,or_false] at this
     rcases this with rfl | rfl
     ·exact ⟨.inl rfl,by dsimp only;omega,by dsimp only;omega⟩
     ·exact ⟨.inr (.inl rfl),by dsimp only;omega,by dsimp only;omega⟩
   ·have e:[(2:Int),3].zip (fcd (dn [a,b]) [a,b])=[(2,A * 2),(3,B)]:=by
     simp [dn,fcd,ha1,ha2,hb1,hb2,Nat.lcm]
    refine ⟨?_,?_,by simp [dn,ha2,hb1,Nat.lcm]⟩
    ·intro r hr
     simp only [List.mem_cons,List.not_mem_nil,or_false] at hr
     rcases hr with rfl | rfl
     ·exact zik (by omega) (by omega)
     ·exact zik (by omega) (by omega)
    ·intro q hq
     have:=zil hq
     rw [e] at this
     simp only [List.mem_cons,List.not_mem_nil,or_false] at this
     rcases this with rfl | rfl
     ·exact ⟨.inl rfl,by dsimp only;omega,by dsimp only;omega⟩
     ·exact ⟨.inr (.inl rfl),by dsimp only;omega,by dsimp only;omega⟩
 ·match x,hl,h with
  | [a,b,c],_,⟨A,B,C,ha,hb,hc,h1,h2,h3,h4⟩ =>
   obtain ⟨ha1,ha2⟩:=zeA ha
   obtain ⟨hc1,hc2⟩:=zeA hc
   have hA':=hA a rfl
   rw [ha1] at hA'
   rcases zeB hb with ⟨hb1,hb2⟩ | ⟨hb1,hb2⟩
   ·have e:[(2:Int),3,5].zip (fcd (dn [a,b,c]) [a,b,c])=[(2,A),(3,b.num),(5,C)]:=by
     simp [dn,fcd,ha1,ha2,hb1,hc1,hc2]
    refine ⟨?_,?_,by simp [dn,ha2,hb1,hc2]⟩
    ·intro r hr
     simp only [List.mem_cons,List.not_mem_nil,or_false] at hr
     rcases hr with rfl | rfl | rfl
     ·exact zik (by omega) (by omega)
     ·exact zik (by omega) (by omega)
     ·exact zik (by omega) (by omega)
    ·intro q hq
     have:=zil hq
     rw [e] at this
     simp only [List.mem_cons,List.not_mem_nil,or_false] at this
     rcases this with rfl | rfl | rfl
     ·exact ⟨.inl rfl,by dsimp only;omega,by dsimp only;omega⟩
     ·exact ⟨.inr (.inl rfl),by dsimp only;omega,by dsimp only;omega⟩
     ·exact ⟨.inr (.inr rfl),by dsimp only;omega,by dsimp only;omega⟩
   ·have e:[(2:Int),3,5].zip (fcd (dn [a,b,c]) [a,b,c])=[(2,A * 2),(3,B),(5,C * 2)]:=by
     simp [dn,fcd,ha1,ha2,hb1,hb2,hc1,hc2,Nat.lcm]
    refine ⟨?_,?_,by simp [dn,ha2,hb1,hc2,Nat.lcm]⟩
    ·intro r hr
     simp only [List.mem_cons,List.not_mem_nil,or_false] at hr
     rcases hr with rfl | rfl | rfl
     ·exact zik (by omega) (by omega)
     ·exact zik (by omega) (by omega)
     ·exact zik (by omega) (by omega)
    ·intro q hq
     have:=zil hq
     rw [e] at this
     simp only [List.mem_cons,List.not_mem_nil,or_false] at this
     rcases this with rfl | rfl | rfl
     ·exact ⟨.inl rfl,by dsimp only;omega,by dsimp only;omega⟩
     ·exact ⟨.inr (.inl rfl),by dsimp only;omega,by dsimp only;omega⟩
     ·exact ⟨.inr (.inr rfl),by dsimp only;omega,by dsimp only;omega⟩
theorem Ok.quick {m:Int}{p:List Int}{x:List Rat}(h:Ok m p x)(hp:Pr p x.length)(hm:m≤10000000)(hb:Bx 256 x):zh3 p x :=
 ⟨h.ft,fun e he=>zgL (h.small e he) hm,zeJ hp hb⟩
theorem Ok.qf {p:List Int}{a:Rat}{tl:List Rat}(h:Ok 100000 p (a::tl))(hp:Pr p (a::tl).length)(hb:Bx 256 (a::tl)):QF p (a::tl) :=
 zhZ hp (.inl hb) ⟨h.small,by have:=h.den;omega⟩
section
variable {α : Type} (key : α → Rat)
def SAt (ps:List α)(i k:Nat):Prop:=∀ a b x y,a<b→b≤i→b ≠ k→ps[a]?=some x→ps[b]?=some y→key x≤key y
def STo (ps:List α)(i:Nat):Prop:=∀ a b x y,a<b→b<i→ps[a]?=some x→ps[b]?=some y→key x≤key y
variable {key}
theorem zin (ps:List α):STo key ps 1:=fun a b x y h1 h2=>by omega
theorem zio {ps:List α}{i:Nat}(h:STo key ps i):SAt key ps i i:=fun a b x y h1 h2 h3=>h a b x y h1 (by omega)
theorem zip {ps:List α}{i:Nat}(h:SAt key ps i 0):STo key ps (i+1):=fun a b x y h1 h2=>h a b x y h1 (by omega) (by omega)
theorem ziq {ps:List α}{i k:Nat}{x y:α}(h:SAt key ps i (k+1))(hx:ps[k+1]?=some x)(hy:ps[k]?=some y)(hle:key y≤key x):STo key ps (i+1):=by
 intro a b u v h1 h2 ha hb;by_cases hbk:b=k+1
 ·subst hbk;rw [hx] at hb;cases hb;by_cases hak:a=k
  ·subst hak;rw [hy] at ha;cases ha;exact hle
  ·exact Rat.le_trans (h a k u y (by omega) (by omega) (by omega) ha hy) hle
 ·exact h a b u v h1 (by omega) hbk ha hb
theorem zir {l:List α}{k:Nat}{x y:α}(hx:l[k+1]?=some x)(j:Nat):((l.set (k+1) y).set k x)[j]?=if j=k then some x else if j=k+1 then some y else l[j]?:=by
 have hl:k+1<l.length:=(List.getElem?_eq_some_iff.1 hx).1;rw [List.getElem?_set,List.getElem?_set,List.length_set];by_cases h1:k=j
 ·rw [if_pos h1,if_pos h1.symm,if_pos (by omega)]
 ·rw [if_neg h1,if_neg (c:=j=k) (fun h=>h1 h.symm)];by_cases h2:k+1=j
  ·rw [if_pos h2,if_pos h2.symm,if_pos (by omega)]
  ·rw [if_neg h2,if_neg (c:=j=k+1) (fun h=>h2 h.symm)]
theorem zis {ps:List α}{i k:Nat}{x y:α}(h:SAt key ps i (k+1))(hx:ps[k+1]?=some x)(hy:ps[k]?=some y)(hlt:key x≤key y):SAt key ((ps.set (k+1) y).set k x) i k:=by
 intro a b u v h1 h2 h3 ha hb;rw [zir hx] at ha hb;rw [if_neg h3] at hb;by_cases hb1:b=k+1
 ·rw [if_pos hb1] at hb
  cases hb
  by_cases ha1:a=k
  ·rw [if_pos ha1] at ha
   cases ha
   exact hlt
  ·rw [if_neg ha1,if_neg (by omega)] at ha;exact h a k u y (by omega) (by omega) (by omega) ha hy
 ·rw [if_neg hb1] at hb;by_cases ha1:a=k
  ·rw [if_pos ha1] at ha
   cases ha
   exact h (k+1) b x v (by omega) h2 hb1 hx hb
  ·rw [if_neg ha1] at ha;by_cases ha2:a=k+1
   ·rw [if_pos ha2] at ha
    cases ha
    exact h k b y v (by omega) h2 hb1 hy hb
   ·rw [if_neg ha2] at ha;exact h a b u v h1 h2 hb1 ha hb
theorem zit : ∀ {l:List α}{k:Nat}{x y:α},l[k+1]?=some x→l[k]?=some y→((l.set (k+1) y).set k x).Perm l
 | [],_,_,_,h,_=>by simp at h
 | [_],0,_,_,h,_=>by simp at h
 | b::a::t,0,x,y,h1,h2=>by
  simp at h1 h2;subst h1 h2;exact List.Perm.swap ..
 | c::t,k+1,x,y,h1,h2=>by
  simp only [List.getElem?_cons_succ] at h1 h2;simp only [List.set_cons_succ];exact (zit h1 h2).cons c
theorem ziu {ps:List α}(h:STo key ps ps.length):ps.Pairwise fun x y=>key x≤key y:=by
 rw [List.pairwise_iff_getElem];intro i j hi hj hij;exact h i j _ _ hij hj (List.getElem?_eq_getElem hi) (List.getElem?_eq_getElem hj)
end
def Srt (p:List Int)(N:List (List Rat)):Prop:=N.Pairwise fun x y=>sF p x<sF p y
theorem ziv {p:List Int}:∀ {N M:List (List Rat)},Srt p N→Srt p M→(∀ x,x∈N ↔ x∈M)→N=M
 | [],[],_,_,_=>rfl
 | [],b::M,_,_,h=>by have:=(h b).2 (List.mem_cons_self ..);cases this
 | a::N,[],_,_,h=>by have:=(h a).1 (List.mem_cons_self ..);cases this
 | a::N,b::M,h1,h2,h=>by
  have h1':=h1;have h2':=h2;unfold Srt at h1' h2';rw [List.pairwise_cons] at h1' h2';have e:a=b:=by
   rcases List.mem_cons.1 ((h a).1 (List.mem_cons_self ..)) with e | ha
   ·exact e
   ·rcases List.mem_cons.1 ((h b).2 (List.mem_cons_self ..)) with e | hb
    ·exact e.symm
    ·have g1:=h2'.1 a ha;have g2:=h1'.1 b hb;exfalso;grind
  subst e;rw [ziv (N:=N) (M:=M) h1'.2 h2'.2 fun x=>?_];constructor
  ·intro hx;rcases List.mem_cons.1 ((h x).1 (List.mem_cons_of_mem _ hx)) with rfl | g
   ·have:=h1'.1 x hx;exfalso;grind
   ·exact g
  ·intro hx;rcases List.mem_cons.1 ((h x).2 (List.mem_cons_of_mem _ hx)) with rfl | g
   ·have:=h2'.1 x hx;exfalso;grind
   ·exact g
theorem ziw {p:List Int}{N M:List (List Rat)}(h:N.Perm M)(h1:N.Pairwise fun x y=>sF p x≤sF p y)(h2:M.Nodup)(h3:∀ x∈M,∀ y∈M,sF p x=sF p y→x=y):Srt p N:=by
 have hn:N.Nodup:=h.nodup_iff.2 h2;unfold Srt;have:=List.Pairwise.and h1 hn;refine List.Pairwise.imp_of_mem ?_ this;intro a b ha hb ⟨g1,g2⟩;have:sF p a ≠ sF p b:=fun e=>g2 (h3 a (h.mem_iff.1 ha) b (h.mem_iff.1 hb) e);grind
end
section
open Go.RowKit Go.Lib
attribute [local go_sem] Oper.semAt_some
def zix (n:Nat)(rs:List Qw)(k:Nat):List Rat:=if k=0 then List.replicate n 0 else ((rs[k - 1]?).map Qw.x).getD []
structure ziy (p:List Int)(rs:List Qw):Prop where
 pe:zfc p=0
 few:p.length≤100
 ne:rs.length ≠ 0
 most:rs.length≤60
 len:∀ r∈rs,r.x.length=p.length
 ft:∀ r∈rs,∀ q∈r.x,Ft 30 q
 quick:∀ k r,rs[k]?=some r→zh3 p (zex (zix p.length rs k) r.x)
 up:∀ k r,rs[k]?=some r→ze6 (tms p (dn (zex (zix p.length rs k) r.x)) (zex (zix p.length rs k) r.x))=-1
theorem ziz (v:Value)(p:List Int)(rs:List Qw)(w:World)(he:Env w)(hv:ScV w v p rs)(h:ziy p rs) :
  Calls Tryz.prog 34 #[v] w fun e w'=>e=.returned (.int .i64 0)∧Ext w w':=by
 obtain ⟨vp,vn,rfl,hp,hs,hm⟩:=hv;have hpl:=h.few;have h0:=h.ne;have h60:=h.most;have hpr:=fun W (hE:Ext w W)=>zfd vp p W (hE.sl hp) (by omega);rw [h.pe] at hpr;have hz:=fun W (hE:Ext w W)=>zhs vp p W (he.ext hE) (hE.sl hp) h.pe;have hck:=fun (r:Qw)(hr:r∈rs) W (hE:Ext w W)=>zfH vp r.u p r.x W (he.ext hE) (hE.sl hp) (hE.rd (hm r hr)) h.pe (h.len r hr) (h.ft r hr);have hcm:=fun k (r:Qw)(hr:rs[k]?=some r) vb W (hE:Ext w W)(hb:Rd W vb (zix p.length rs k))(hbl:(zix p.length rs k).length=p.length)(hbf:∀ q∈zix p.length rs k,Ft 30 q) =>
  zh5 vp vb r.u p (zix p.length rs k) r.x W (he.ext hE) (hE.sl hp) hb (hE.rd (hm r (List.mem_of_getElem? hr))) h.pe hpl hbl (h.len r (List.mem_of_getElem? hr)) hbf (h.ft r (List.mem_of_getElem? hr)) (h.quick k r hr)
 have hpv:∀ k,k≤rs.length→(zix p.length rs k).length=p.length∧∀ q∈zix p.length rs k,Ft 30 q:=fun k hk=>by
  unfold zix;by_cases h1:k=0
  ·rw [if_pos h1];refine ⟨List.length_replicate,fun q hq=>?_⟩;obtain rfl:=List.eq_of_mem_replicate hq;exact zgY.mono (by omega)
  ·rw [if_neg h1,List.getElem?_eq_getElem (by omega)];exact ⟨h.len _ (List.getElem_mem _),h.ft _ (List.getElem_mem _)⟩
 have hup:=h.up;have hln:=h.len;have hone:=fun (r:Qw)(hr:r∈rs)=>(hm r hr).parts;have hm2:=fun (r:Qw)(hr:r∈rs) W (hE:Ext w W)=>hE.rd (hm r hr);obtain ⟨ap,cp,rfl,_,_,_⟩:=hp.parts;obtain ⟨an,cn,rfl,_,_,hc⟩:=hs.parts;rw [zas] at hpr hz hck hcm ⊢;rw [zf0];have bx:(w.alloc (.cells #[.slice ap p.length cp,.slice an rs.length cn] 28)).heap[w.heap.size]?=some (.cells #[.slice ap p.length cp,.slice an rs.length cn] 28 (0,0)):=World.alloc_heap_new w _;have hE0:Ext w (w.alloc (.cells #[.slice ap p.length cp,.slice an rs.length cn] 28)):=(Ext.refl w).alloc _;have hbox:∀ W,Ext (w.alloc (.cells #[.slice ap p.length cp,.slice an rs.length cn] 28)) W→W.cell? ⟨w.heap.size,0,none⟩=some (.slice ap p.length cp)∧W.cell? ⟨w.heap.size,1,none⟩=some (.slice an rs.length cn):=fun W hE=>by
  have hb:=hE.heap bx;unfold World.cell?;dsimp only;rw [hb];exact ⟨rfl,rfl⟩
 clear hp hs hm he h hpl bx;have Hpr:=hid hpr;have Hz:=hid hz;have Hck:=hid hck;have Hcm:=hid hcm;have Hpv:=hid hpv;have Hup:=hid hup;have Hln:=hid hln;have Hone:=hid hone;have Hm2:=hid hm2;have Hc:=hid hc;have HE0:=hid hE0;have Hbox:=hid hbox;clear hpr hz hck hcm hpv hup hln hone hm2 hc hE0 hbox;go_enter Tryz.func34,Tryz.ntmps34
 go_wp2_with fail
 refine (Hpr.out _ HE0.out).mono ?_;rintro e w1 ⟨rfl,rfl⟩;go_wp2_with fail
 refine (Hz.out _ HE0.out).mono ?_;rintro e w1 ⟨rfl,hoz,hx1⟩;obtain ⟨q0,q1⟩:=Hbox.out w1 hx1;have hrz:Rd w1 (.slice (some ⟨w.heap.size+1,0,none⟩) p.length p.length) (zix p.length rs 0):=by
  have:=hoz.rd;rw [World.size_alloc] at this;exact this
 have Hrz:=hid hrz;have Hx1:=hid hx1;clear hrz hx1;clear hoz;go_wp2_with fail
 have hcs:∀ k,(zix p.length rs (k+1))=((rs[k]?).map Qw.x).getD []:=fun k=>by unfold zix;rw [if_neg (by omega)];rfl
 have Hcs:=hid hcs;clear hcs;go_loopw [4,7,8,9,10,36] (fun v4 v7 v8 v9 v10 v36 wr=>∃ (k:Nat)(a:Option Addr)(c:Nat),v36=.int .i64 k∧k≤rs.length∧v4=.slice a p.length c∧Rd wr (.slice a p.length c) (zix p.length rs k)∧Ext w1 wr) (fun _ _ _ _ _ v36 _=>rs.length - (zam v36).toNat)
 case atStart=>exact ⟨0,_,_,rfl,Nat.zero_le _,rfl,Hrz.out,Ext.refl _⟩
 case round =>
  clear q0 q1;obtain ⟨k,ab,cb,rfl,hk,rfl,hrd,hE⟩:=hrel;by_cases hkn:k<rs.length
  ·obtain ⟨r,hr⟩:∃ r,rs[k]?=some r:=⟨_,List.getElem?_eq_getElem hkn⟩;have hmem:=List.mem_of_getElem? hr;obtain ⟨b,off,rfl,hc0⟩:=Hc.out k r.u (by unfold qwc;rw [List.getElem?_map,hr];rfl);obtain ⟨ar,cr,hru,_,_,_⟩:=Hone.out r hmem;have hEw:=(HE0.out.trans Hx1.out).trans hE;have hcu:=hEw.cell hc0;have hrl:r.x.length=p.length:=Hln.out r hmem;rw [hru,hrl] at hcu;have h1:=Hck.out r hmem wr hEw;have hp1:=Hpv.out k hk;have h2:=fun W (hx:Ext wr W)=>Hcm.out k r hr (.slice ab p.length cb) W (hEw.trans hx) (hx.rd hrd) hp1.1 hp1.2;have hu:=Hup.out k r hr;rw [hu] at h2;have hr2:=fun W (hx:Ext wr W)=>Hm2.out r hmem W (hEw.trans hx);rw [hru,hrl] at h1 h2 hr2;have hnx:zix p.length rs (k+1)=r.x:=(by rw [Hcs.out k,hr];rfl);rw [← hnx] at hr2;have hk0:(0:Int)≤(k:Int):=(by omega);have hk1:(k:Int)<(rs.length:Int):=(by omega);obtain ⟨q0,q1⟩:=Hbox.out wr (Hx1.out.trans hE);have hbx2:=fun W (hx:Ext wr W)=>Hbox.out W ((Hx1.out.trans hE).trans hx);clear hmem hc0 hEw hrl hp1 hu hnx hrd hru hr;have H1:=hid h1;have H2:=hid h2;have Hr2:=hid hr2;have HE:=hid hE;have Hbx2:=hid hbx2;clear h1 h2 hr2 hE hbx2;go_wp2_with fail
   refine H1.out.mono ?_;rintro e w3 ⟨rfl,hx3⟩;obtain ⟨s0,s1⟩:=Hbx2.out w3 hx3;have Hx3:=hid hx3;clear hx3;clear q0 q1;go_wp2_with fail
   refine (H2.out w3 Hx3.out).mono ?_;rintro e w4 ⟨rfl,hx4⟩;have Hx4:=hid (Hx3.out.trans hx4);clear hx4 s0 s1;go_wp2_with fail
   go_roundw
   case rel=>exact ⟨k+1,_,_,by go_num,by omega,rfl,Hr2.out _ Hx4.out,HE.out.trans Hx4.out⟩
   case measure=>simp [zam];omega
  ·obtain rfl:rs.length=k:=by omega
   have Hrd:=hid hrd;have HE:=hid hE;clear hrd hE;go_wp2
   go_ret
   exact ⟨rfl,(HE0.out.trans Hx1.out).trans HE.out⟩
theorem zi0 (v vx:Value)(p:List Int)(rs:List Qw)(x:List Rat)(w:World)(he:Env w)(hv:ScV w v p rs)(h:ziy p rs)(hx:Rd w vx x)(hlen:x.length=p.length)(hf:∀ q∈x,Ft 30 q) :
  Calls Tryz.prog 143 #[v,vx] w fun e w'=>e=.returned (.int .i64 0)∧Ext w w':=by
 have h1:=fun W (hE:Ext w W)=>ziz v p rs W (he.ext hE) (hv.ext hE) h;obtain ⟨vp,vn,rfl,hp,hs,hm⟩:=hv;have h2:=fun W (hE:Ext w W)=>zfH vp vx p x W (he.ext hE) (hE.sl hp) (hE.rd hx) h.pe hlen hf;obtain ⟨ap,cp,rfl,_,_,_⟩:=hp.parts;obtain ⟨an,cn,rfl,_,_,_⟩:=hs.parts;obtain ⟨ax,cx,rfl,_,_,_⟩:=hx.parts;generalize (zaq p).length=n1 at *;generalize (qwc rs).length=n2 at *;generalize x.length=n3 at *;have bx:(w.alloc (.cells #[.slice ap n1 cp,.slice an n2 cn] 28)).heap[w.heap.size]?=some (.cells #[.slice ap n1 cp,.slice an n2 cn] 28 (0,0)):=World.alloc_heap_new w _;have hE0:Ext w (w.alloc (.cells #[.slice ap n1 cp,.slice an n2 cn] 28)):=(Ext.refl w).alloc _;have hbox:∀ W,Ext (w.alloc (.cells #[.slice ap n1 cp,.slice an n2 cn] 28)) W→W.cell? ⟨w.heap.size,0,none⟩=some (.slice ap n1 cp)∧W.cell? ⟨w.heap.size,1,none⟩=some (.slice an n2 cn):=fun W hE=>by
  have hb:=hE.heap bx;unfold World.cell?;dsimp only;rw [hb];exact ⟨rfl,rfl⟩
 clear hp hs hm he h hx hlen hf bx;have H1:=hid h1;have H2:=hid h2;have HE0:=hid hE0;have Hbox:=hid hbox;clear h1 h2 hE0 hbox;go_enter Tryz.func143,Tryz.ntmps143
 go_wp2_with fail
 refine (H1.out _ HE0.out).mono ?_;rintro e w1 ⟨rfl,hx1⟩;obtain ⟨q0,q1⟩:=Hbox.out w1 hx1;have Hx1:=hid (HE0.out.trans hx1);clear hx1;go_wp2_with fail
 refine (H2.out w1 Hx1.out).mono ?_;rintro e w2 ⟨rfl,hx2⟩;have Hx2:=hid (Hx1.out.trans hx2);clear hx2;go_wp2
 go_ret
 exact ⟨rfl,Hx2.out⟩
theorem zi1 (v va:Value)(p:List Int)(rs:List Qw)(n:Nat)(r:Qw)(a0:Rat)(tl:List Rat)(w:World)(he:Env w)(hv:ScV w v p rs)(h:ziy p rs)(hn:rs.length=n+1)(hr:rs[n]?=some r)(hro:r.x=ov tl.length)
  (ha:Rd w va (a0::tl)) (hpr:Pr p (tl.length+1)) (hf:∀ q∈a0::tl,Ft 30 q) (hq:QF p (a0::tl)) (hk:Ft 400 ((-flP p (a0::tl):Int):Rat)) (hfl:Fit (flP p (a0::tl)))
  (hres:∀ q∈zew (a0::tl) (zey (ov tl.length) ((-flP p (a0::tl):Int):Rat)),Ft 30 q) :
  Calls Tryz.prog 85 #[v,va] w fun e w'=>∃ g,e=.returned (.tuple #[.slice (some ⟨g,0,none⟩) p.length p.length,.string (I (flP p (a0::tl))),.int .i64 0])∧zfx w' w.heap.size (.slice (some ⟨g,0,none⟩) p.length p.length) (zew (a0::tl) (zey (ov tl.length) ((-flP p (a0::tl):Int):Rat)))∧Ext w w':=by
 have hpl:=zhH hpr;have h60:=h.most;have h1:=fun W (hE:Ext w W)=>zi0 v va p rs (a0::tl) W (he.ext hE) (hv.ext hE) h (hE.rd ha) (by rw [hpl];rfl) hf;have h2:=fun W (hE:Ext w W)=>zib v p rs n r W (hv.ext hE) hn (by omega) hr;obtain ⟨vp,vn,rfl,hp,hs,hm⟩:=hv;have hmr:=hm r (List.mem_of_getElem? hr);rw [hro] at hmr;have h3:=fun W (hE:Ext w W)=>zhR vp va r.u p a0 tl W (he.ext hE) (hE.sl hp) (hE.rd ha) (hE.rd hmr) h.pe hpr hf hq hk hfl hres;generalize zew (a0::tl) (zey (ov tl.length) ((-flP p (a0::tl):Int):Rat))=z at *;generalize I (flP p (a0::tl))=sf at *;obtain ⟨ap,cp,rfl,_,_,_⟩:=hp.parts;obtain ⟨an,cn,rfl,_,_,_⟩:=hs.parts;obtain ⟨aa,ca,rfl,_,_,_⟩:=ha.parts;obtain ⟨ar,cr,hru,_,_,_⟩:=hmr.parts;rw [hru] at h2 h3;generalize (zaq p).length=n1 at *;generalize (qwc rs).length=n2 at *;generalize (a0::tl).length=n3 at *;generalize (ov tl.length).length=n4 at *;have bx:(w.alloc (.cells #[.slice ap n1 cp,.slice an n2 cn] 28)).heap[w.heap.size]?=some (.cells #[.slice ap n1 cp,.slice an n2 cn] 28 (0,0)):=World.alloc_heap_new w _;have hE0:Ext w (w.alloc (.cells #[.slice ap n1 cp,.slice an n2 cn] 28)):=(Ext.refl w).alloc _;have hbox:∀ W,Ext (w.alloc (.cells #[.slice ap n1 cp,.slice an n2 cn] 28)) W→W.cell? ⟨w.heap.size,0,none⟩=some (.slice ap n1 cp)∧W.cell? ⟨w.heap.size,1,none⟩=some (.slice an n2 cn):=fun W hE=>by
  have hb:=hE.heap bx;unfold World.cell?;dsimp only;rw [hb];exact ⟨rfl,rfl⟩
 clear hp hs hm he h ha hpr hf hq hk hfl hres hmr hru hr hro hn bx hpl h60;have H1:=hid h1;have H2:=hid h2;have H3:=hid h3;have HE0:=hid hE0;have Hbox:=hid hbox;clear h1 h2 h3 hE0 hbox;go_enter Tryz.func85,Tryz.ntmps85
 go_wp2_with fail
 refine (H1.out _ HE0.out).mono ?_;rintro e w1 ⟨rfl,hx1⟩;obtain ⟨q0,q1⟩:=Hbox.out w1 hx1;have Hx1:=hid (HE0.out.trans hx1);clear hx1;go_wp2_with fail
 go_region_held3 (fun w'=>Ext w1 w'∧w'.cell? ⟨w.heap.size,0,none⟩=some (.slice ap n1 cp)∧w'.cell? ⟨w.heap.size,1,none⟩=some (.slice an n2 cn))
  (first | (with_reducible assumption) | exact ⟨(Ext.refl w1).drew,q0,q1⟩)
  (first
   | (go_at_call 93;refine (H2.out _ (Hx1.out.trans (And.left (by assumption)))).mono ?_;rintro e9 VA ⟨rfl,hxa⟩;have hEA:=((Ext.refl w1).drew).trans hxa;have hS2:Ext w1 VA∧VA.cell? ⟨w.heap.size,0,none⟩=some (.slice ap n1 cp)∧VA.cell? ⟨w.heap.size,1,none⟩=some (.slice an n2 cn):=⟨hEA,hEA.cell q0,hEA.cell q1⟩;have HEA:=hid hEA;clear hxa hEA)
   | (go_at_call 144;refine (H3.out _ (Hx1.out.trans HEA.out)).mono ?_;rintro e9 VB ⟨g,rfl,ho,hxa⟩;have hEB:=HEA.out.trans hxa;have hS3:Ext w1 VB∧VB.cell? ⟨w.heap.size,0,none⟩=some (.slice ap n1 cp)∧VB.cell? ⟨w.heap.size,1,none⟩=some (.slice an n2 cn):=⟨hEB,hEB.cell q0,hEB.cell q1⟩;have HEB:=hid hEB;have HoB:=hid (ho.mono (Hx1.out.trans HEA.out).size);clear hxa hEB ho hS2))
 all_goals
  clear hS3 q0 q1;go_wp2
  exact bodyPost_ret (by simp [results,Tryz.results85,go_sem]) rfl ⟨g,rfl,HoB.out,Hx1.out.trans HEB.out⟩
def noteQ (rs:List Qw)(n:Nat)(k:Int):List Rat :=
 let b:=zey (((rs[n]?).map Qw.x).getD []) ((k / ((n:Int)+1):Int):Rat)
 if k % ((n:Int)+1)=0 then b else zew b (((rs[(k % ((n:Int)+1)).toNat - 1]?).map Qw.x).getD [])
theorem zi2 {k N:Int}(hN:0<N):(k.tmod N<0→k.tmod N+N=k % N∧k.tdiv N - 1=k / N)∧(¬ k.tmod N<0→k.tmod N=k % N∧k.tdiv N=k / N):=by
 have h1:=Int.mul_tdiv_add_tmod k N;have h2:=Int.mul_ediv_add_emod k N;have h3:=Int.emod_nonneg k (show N ≠ 0 by omega);have h4:=Int.emod_lt_of_pos k hN;have h5:-N<k.tmod N∧k.tmod N<N:=⟨Int.lt_tmod_of_pos k hN,Int.tmod_lt_of_pos k hN⟩;generalize k.tmod N=r at *;generalize k.tdiv N=q at *;generalize k % N=s at *;generalize k / N=t at *;have key:∀ a b u v:Int,N * a+u=N * b+v→0≤u→u<N→0≤v→v<N→a=b∧u=v:=fun a b u v e u0 u1 v0 v1=>by
  have hm:N * (a - b)=v - u:=by rw [Int.mul_sub];omega
  have:a - b=0:=by
   rcases Int.lt_trichotomy (a - b) 0 with g | g | g
   ·have:=Int.mul_le_mul_of_nonneg_left (show a - b≤-1 by omega) (show 0≤N by omega);omega
   ·exact g
   ·have:=Int.mul_le_mul_of_nonneg_left (show 1≤a - b by omega) (show 0≤N by omega);omega
  exact ⟨by omega,by rw [this,Int.mul_zero] at hm;omega⟩
 constructor
 ·intro g;obtain ⟨e1,e2⟩:=key (q - 1) t (r+N) s (by rw [Int.mul_sub];omega) (by omega) (by omega) h3 h4;exact ⟨e2,e1⟩
 ·intro g;obtain ⟨e1,e2⟩:=key q t r s (by omega) (by omega) (by omega) h3 h4;exact ⟨e2,e1⟩
end
end Go.Proofs.YtebabancfnmfjaaGreatDoor
