/- Walks: row.Equal, slices.CompactFunc at rows, slices.Clone at a row: out of XOrdA, XLstA. (KEEPALL) (Printed by rebase.py.) Grids: a slice of rows that a call made, the rows lie apart; a row turns, two rows change places, a further row. Walks: smith's take and turn: a row less a multiple of another one, a row's negative, in place. -/
import Derived.Test.YtipkdebkdnbieaaGreatDoorPe19
import Derived.Test.YtipkdebkdnbieaaGreatDoorPe18
import Derived.Test.YtipkdebkdnbieaaGreatDoorPe13
import Derived.Deep.RegionHeld3
import Derived.RegionTactic
import Derived.ChangeAlike
import Derived.Test.YtipkdebkdnbieaaGreatDoorPe14
import Derived.Test.YtipkdebkdnbieaaGreatDoorPe02
import Derived.Test.YtipkdebkdnbieaaGreatDoorPe10
import Derived.Test.YtipkdebkdnbieaaGreatDoorPe06
import Derived.Deep.RegionLaw
set_option maxRecDepth 100000
set_option maxHeartbeats 4000000
namespace Go.Proofs.YtipkdebkdnbieaaGreatDoor
open Go.RowKit Go.Lib Go.Shelf
structure Rw where
 x:List Int
 u:Value
 hu:u.oneCell'=true
def rwc (rs:List Rw):List Value:=rs.map Rw.u
theorem zkS (rs:List Rw):(rwc rs).length=rs.length:=by simp [rwc]
theorem zkT {w:World}{B:Nat}{a:Option Addr}{E s k c n:Nat}{xs:List Value}(h:w.ownsRow B E s (.slice a k c) n xs):n≤c∧k=n:=by
 rcases h.2 with ⟨e0,h0⟩ | ⟨g,cap,cur,e0,_,_,h1,_⟩
 ·injection e0 with _ e2 e3;omega
 ·injection e0 with _ e2 e3;omega
theorem zkU : ∀ {x y:List Int},x.length=y.length→x ≠ y→∃ i,i<x.length∧zas x i ≠ zas y i
 | [],[],_,h=>absurd rfl h
 | a::x,b::y,hl,h=>by
  by_cases hab:a=b
  ·obtain ⟨i,hi,hn⟩:=zkU (x:=x) (y:=y) (by simpa using hl) (fun e=>h (by rw [hab,e]));exact ⟨i+1,by simp;omega,by simpa [zas] using hn⟩
  ·exact ⟨0,by simp,by simpa [zas] using hab⟩
theorem zkV (va vb:Value)(x y:List Int)(w:World)(hx:Sl w va (zap x))(hy:Sl w vb (zap y))(hl:x.length≤1000000)(hl2:y.length≤1000000) :
  Calls Tryz.prog 43 #[va,vb] w fun e w'=>e=.returned (.bool (decide (x=y)))∧Qu w w':=by
 obtain ⟨aa,ca,rfl,_,_,hcx⟩:=hx.parts;obtain ⟨ab,cb,rfl,_,_,hcy⟩:=hy.parts;rw [zar] at *;rw [zar] at *;have Hcx:=hid hcx;clear hcx hx;have Hcy:=hid hcy;clear hcy hy;obtain ⟨r,hr⟩:∃ r,r=decide (x=y):=⟨_,rfl⟩;rw [← hr];by_cases hne:x.length=y.length
 ·have ht:((x.length:Int) != (y.length:Int))=false:=by rw [bne_eq_false_iff_eq];omega
  have Hne:=hid hne;clear hne;have Hr:=hid hr;clear hr;go_enter Tryz.func43,Tryz.ntmps43
  go_wp2
  go_loopw [13] (fun i wr=>∃ k:Nat,i=.int .i64 k∧k≤x.length∧Qu w wr∧∀ t,t<k→zas x t=zas y t) (fun i _=>x.length - (zal i).toNat)
  case atStart=>exact ⟨0,rfl,Nat.zero_le _,Qu.refl w,fun t ht=>by omega⟩
  case round =>
   obtain ⟨k,rfl,hk,hqu,hs⟩:=hrel;have Hqu:=hid hqu;clear hqu;have Hs:=hid hs;clear hs;by_cases hlt:k<x.length
   ·have hky:k<y.length:=(by rw [← Hne.out];exact hlt);obtain ⟨bx,ox,rfl,hcx0⟩:=Hcx.out k _ (zau hlt);obtain ⟨b2,oy,rfl,hcy0⟩:=Hcy.out k _ (zau hky);have hcx:=Hqu.out.ext.cell hcx0;have hcy:=Hqu.out.ext.cell hcy0;clear hcx0 hcy0;have hk0:(0:Int)≤(k:Int):=(by omega);have hk1:(k:Int)<(x.length:Int):=(by omega);have hk2:(k:Int)<(y.length:Int):=(by omega);by_cases hxy:zas x k=zas y k
    ·have h3:((zas x k) != (zas y k))=false:=(by rw [bne_eq_false_iff_eq];exact hxy);have Hxy:=hid hxy;clear hxy;go_wp2
     go_quiet (fail)
     go_wp2
     go_roundw
     case rel=>exact ⟨k+1,by go_num,by omega,Hqu.out.drewN _,fun t ht=>by
      rcases Nat.lt_or_ge t k with h | h
      ·exact Hs.out t h
      ·obtain rfl:t=k:=by omega
       exact Hxy.out⟩
     case measure=>simp [zal];omega
    ·have h3:((zas x k) != (zas y k))=true:=(by rw [bne_iff_ne];exact hxy);have hf:r=false:=(by rw [Hr.out];exact decide_eq_false (by rintro rfl;exact hxy rfl));have Hf:=hid hf;clear hxy hf;go_wp2
     go_quiet (fail)
     go_wp2
     go_ret
     exact ⟨zeG Hf.out.symm,by first | exact Hqu.out | exact Hqu.out.drewN _⟩
   ·obtain rfl:k=x.length:=by omega
    have hf:r=true:=by
     rw [Hr.out];refine decide_eq_true ?_;refine Classical.byContradiction fun h=>?_;obtain ⟨i,hi,hn⟩:=zkU Hne.out h;exact hn (Hs.out i hi)
    have Hf:=hid hf;clear hf;go_wp2
    go_ret
    exact ⟨zeG Hf.out.symm,by first | exact Hqu.out | exact Hqu.out.drewN _⟩
 ·have ht:((x.length:Int) != (y.length:Int))=true:=by rw [bne_iff_ne];omega
  have hf:r=false:=by rw [hr];exact decide_eq_false (by rintro rfl;exact hne rfl)
  clear hne hr;subst hf;go_enter Tryz.func43,Tryz.ntmps43
  go_wp2
  go_ret
  exact ⟨rfl,Qu.refl w⟩
theorem zkW (va vb:Value)(x y:List Int)(w:World)(hx:Sl w va (zap x))(hy:Sl w vb (zap y))(hl:x.length≤1000000)(hl2:y.length≤1000000) :
  Calls Tryz.prog 16 #[va,vb] w fun e w'=>e=.returned (.bool (decide (x=y)))∧Qu w w':=by
 have hc:=zkV va vb x y w hx hy hl hl2;have Hc:=hid hc;clear hc;obtain ⟨aa,ca,rfl,_,_,_⟩:=hx.parts;obtain ⟨ab,cb,rfl,_,_,_⟩:=hy.parts;rw [zar] at *;rw [zar] at *;clear hx hy;go_enter Tryz.func16,Tryz.ntmps16
 go_wp2_with fail
 refine Hc.out.mono ?_;rintro e w1 ⟨rfl,hq⟩;have Hq:=hid hq;clear hq;go_wp2
 go_ret
 exact ⟨rfl,Hq.out⟩
def RwM (w:World)(b B:Nat)(v:Value)(rs:List Rw):Prop :=
 w.ownsRow B 33 1 v rs.length (rwc rs)∧∀ r∈rs,zc2 w b r.u r.x∧r.x.length≤1000000
theorem Ext.rwM {w w':World}(h:Ext w w'){b B:Nat}{v:Value}{rs:List Rw}(hs:RwM w b B v rs):RwM w' b B v rs:=⟨h.own hs.1,fun e he=>⟨h.ownI (hs.2 e he).1,(hs.2 e he).2⟩⟩
theorem zkX {a w:World}{g:Nat}(h:a.grownBy w (some g)):∀ (us:List Value)(o:Nat),a.grownBy (w.setCells g o us) (some g):=by
 intro us;induction us generalizing w with
 | nil=>intro o;exact h
 | cons u us ih=>intro o;exact ih (zcB h rfl u) (o+1)
def zkY (l:List (List Int))(j:Nat):Bool:=j == 0 || decide (l.getD j [] ≠ l.getD (j - 1) [])
def zkZ {α:Type}(f:α→List Int)(l:List α):Nat→List α
 | 0=>[]
 | m+1=>zkZ f l m++(if zkY (l.map f) m then (l.drop m).take 1 else [])
theorem zla {α:Type}(f:α→List Int)(l:List α):∀ m,m≤l.length→(∀ j,j<m→zkY (l.map f) j=true)→zkZ f l m=l.take m
 | 0,_,_=>by simp [zkZ]
 | m+1,h,hk=>by
  have hm:m<l.length:=h;rw [zkZ,zla f l m (by omega) (fun j hj=>hk j (by omega)),hk m (by omega),if_pos rfl];rw [show (l.drop m).take 1=[l[m]] by rw [List.drop_eq_getElem_cons hm];rfl];exact (List.take_succ_eq_append_getElem hm).symm
theorem zlb {α:Type}(f:α→List Int)(l:List α):∀ m {a},a∈zkZ f l m→a∈l
 | 0,_,h=>by simp [zkZ] at h
 | m+1,a,h=>by
  rw [zkZ] at h;rcases List.mem_append.1 h with h | h
  ·exact zlb f l m h
  ·split at h
   ·exact List.mem_of_mem_drop (List.mem_of_mem_take h)
   ·simp at h
theorem zlc {w:World}{B E g n cap k:Nat}{xs:List Value}(h:w.ownsRow B E 1 (.slice (some ⟨g,0,none⟩) n cap) n xs)(hk:k≤n):w.ownsRow B E 1 (.slice (some ⟨g,0,none⟩) k cap) k (xs.take k):=by
 have hxl:xs.length=n:=by simpa using h.1
 rcases h.2 with ⟨e0,_⟩ | ⟨g',cap',cur,e0,hb,hg,hn,hm,hs,ht⟩
 ·cases e0
 ·injection e0 with e1 _ e3;injection e1 with e1;injection e1 with e1;subst e1;subst e3;refine ⟨by simp;omega,.inr ⟨g,cap,cur,rfl,hb,hg,by omega,hm,hs,?_⟩⟩;rw [← ht,List.take_take];congr 1;omega
theorem zld {B E g n cap:Nat}:∀ (us:List Value)(o:Nat){w:World}{xs:List Value},w.ownsRow B E 1 (.slice (some ⟨g,0,none⟩) n cap) n xs→o+us.length≤n→(w.setCells g o us).ownsRow B E 1 (.slice (some ⟨g,0,none⟩) n cap) n (xs.take o++us++xs.drop (o+us.length))
 | [],o,w,xs,h,_=>by
  simp only [List.append_nil,List.length_nil,Nat.add_zero,List.take_append_drop];exact h
 | u::us,o,w,xs,h,hl=>by
  have hxl:xs.length=n:=by simpa using h.1
  simp only [List.length_cons] at hl;have h1:=(World.ownsRow.stored h o u).1;have h2:=zld us (o+1) h1 (by omega);have e1:(xs.set o u).take (o+1)=xs.take o++[u]:=by
   rw [List.take_add_one,List.take_set,List.getElem?_set_self (by omega),List.set_eq_of_length_le (by rw [List.length_take];exact Nat.min_le_left _ _)];rfl
  have e2:(xs.set o u).drop (o+1+us.length)=xs.drop (o+(us.length+1)):=by
   rw [List.drop_set_of_lt (by omega)];congr 1;omega
  rw [e1,e2] at h2;show ((w.setCell ⟨g,o,none⟩ u).setCells g (o+1) us).ownsRow _ _ _ _ _ _;rw [show xs.take o++u::us++xs.drop (o+(u::us).length)=xs.take o++[u]++us++xs.drop (o+(us.length+1)) by simp];exact h2
theorem zle {rs:List Rw}{m:Nat}{r:Rw}(h:rs[m]?=some r):zkZ Rw.x rs (m+1)=zkZ Rw.x rs m++(if zkY (rs.map Rw.x) m then [r] else []):=by
 have hm:=(List.getElem?_eq_some_iff.1 h).1;rw [zkZ,List.drop_eq_getElem_cons hm];have e:=(List.getElem?_eq_some_iff.1 h).2;simp [e]
theorem zlf {rs:List Rw}{m:Nat}{r s:Rw}(h1:rs[m+1]?=some r)(h0:rs[m]?=some s):zkY (rs.map Rw.x) (m+1)=!decide (r.x=s.x):=by
 unfold zkY;rw [Nat.add_sub_cancel,List.getD_eq_getElem?_getD,List.getD_eq_getElem?_getD,List.getElem?_map,List.getElem?_map,h1,h0];simp
theorem zlg {rs C:List Rw}{m:Nat}{r:Rw}(h:rs[m]?=some r)(hC:C.length≤m):(rwc (C++rs.drop C.length))[m]?=some r.u:=by
 unfold rwc;rw [List.getElem?_map,List.getElem?_append_right hC,List.getElem?_drop,show C.length+(m - C.length)=m by omega,h];rfl
theorem zlh {rs C:List Rw}{r:Rw}(hC:C.length<rs.length):(rwc (C++rs.drop C.length)).set C.length r.u=rwc ((C++[r])++rs.drop (C++[r]).length):=by
 unfold rwc;rw [List.drop_eq_getElem_cons hC,List.map_append,List.set_append_right _ _ (by simp),List.length_map,Nat.sub_self,List.map_cons,List.set_cons_zero];simp
def zli (W:World)(B g cap k:Nat)(rs:List Rw)(v5 v7:Value)(wr:World):Prop :=
 ∃ j c:Nat,v5=.int .i64 c∧v7=.int .i64 ((j:Int)+1)∧k+2+j≤rs.length∧(zkZ Rw.x rs (k+2+j)).length=c∧c≤k+1+j∧wr.ownsRow B 33 1 (.slice (some ⟨g,0,none⟩) rs.length cap) rs.length (rwc (zkZ Rw.x rs (k+2+j)++rs.drop c))∧W.grownBy wr (some g)
theorem zlj {W wr:World}{B g cap k j c:Nat}{rs:List Rw}{r:Rw}(hr:rs[k+2+j]?=some r)(hk:zkY (rs.map Rw.x) (k+2+j)=false)(hC:(zkZ Rw.x rs (k+2+j)).length=c)(hc:c≤k+1+j)
  (ho:wr.ownsRow B 33 1 (.slice (some ⟨g,0,none⟩) rs.length cap) rs.length (rwc (zkZ Rw.x rs (k+2+j)++rs.drop c))) (hg:W.grownBy wr (some g)) (n:Nat):zli W B g cap k rs (.int .i64 c) (.int .i64 ((j:Int)+1+1)) (wr.drewN n):=by
 have e:zkZ Rw.x rs (k+2+(j+1))=zkZ Rw.x rs (k+2+j):=by
  rw [show k+2+(j+1)=k+2+j+1 by omega,zle hr,hk];simp
 have hl:=(List.getElem?_eq_some_iff.1 hr).1;refine ⟨j+1,c,rfl,by simp,by omega,by rw [e];exact hC,by omega,?_,zcA hg n⟩;rw [e];exact ((Ext.refl wr).drewN n).own ho
theorem zlk {W wr:World}{B g cap k j c:Nat}{rs:List Rw}{r:Rw}(hr:rs[k+2+j]?=some r)(hk:zkY (rs.map Rw.x) (k+2+j)=true)(hC:(zkZ Rw.x rs (k+2+j)).length=c)(hc:c≤k+1+j)
  (ho:wr.ownsRow B 33 1 (.slice (some ⟨g,0,none⟩) rs.length cap) rs.length (rwc (zkZ Rw.x rs (k+2+j)++rs.drop c))) (hg:W.grownBy wr (some g)) (n:Nat):zli W B g cap k rs (.int .i64 ((c:Int)+1)) (.int .i64 ((j:Int)+1+1)) ((wr.drewN n).setCell ⟨g,c,none⟩ r.u):=by
 have e:zkZ Rw.x rs (k+2+(j+1))=zkZ Rw.x rs (k+2+j)++[r]:=by
  rw [show k+2+(j+1)=k+2+j+1 by omega,zle hr,hk];simp
 have hl:=(List.getElem?_eq_some_iff.1 hr).1;have ho2:=(World.ownsRow.stored (((Ext.refl wr).drewN n).own ho) c r.u).1;refine ⟨j+1,c+1,by simp,by simp,by omega,by rw [e,List.length_append,hC];rfl,by omega,?_,zcB (zcA hg n) rfl _⟩;rw [e];subst hC;rw [zlh (by omega)] at ho2;rw [List.length_append] at ho2;exact ho2
theorem zll {W wr:World}{b B g n cap:Nat}{rs ss:List Rw}{xs:List Value}(hg:W.grownBy wr (some g))(hs:W.ownsRow B 33 1 (.slice (some ⟨g,0,none⟩) n cap) n xs)(hr:∀ r∈rs,zc2 W b r.u r.x∧r.x.length≤1000000)(hm:∀ r,r∈ss→r∈rs):∀ r∈ss,zc2 wr b r.u r.x∧r.x.length≤1000000:=fun r h =>
 ⟨World.ownsRow.kept (hr r (hm r h)).1 hg (zc5 (hr r (hm r h)).1 hs (by decide)),(hr r (hm r h)).2⟩
theorem zlm {W:World}{b B:Nat}{a:Option Addr}{cap:Nat}{rs:List Rw}(hs:RwM W b B (.slice a rs.length cap) rs)(hl:rs.length≤1000000) :
  Calls Tryz.prog 69 #[.slice a rs.length cap,.func (.func 16) #[] #[]] W fun e w'=>∃ v,e=.returned v∧RwM w' b B v (zkZ Rw.x rs rs.length)∧∀ w0:World,Ext w0 W→w0.heap.size=B→Ext w0 w':=by
 by_cases h2:rs.length<2
 ·have hall:zkZ Rw.x rs rs.length=rs:=by
   rw [zla Rw.x rs rs.length (Nat.le_refl _),List.take_length];intro j hj;have:j=0:=(by omega);subst this;rfl
  rw [hall];have Hs:=hid hs;clear hs hall;go_enter Tryz.func69,Tryz.ntmps69
  go_wp2
  go_ret
  exact ⟨_,rfl,Hs.out,fun w0 h _=>h⟩
 ·obtain ⟨g,cap',e0,hcells⟩:=zc6 hs.1 (by omega);injection e0 with e1 _ e3;subst e1;subst e3;obtain ⟨n,hn⟩:∃ n,n=rs.length:=⟨_,rfl⟩;have hcap:rs.length≤cap:=(zkT hs.1).1;have hgB:B≤g:=by
   rcases hs.1.2 with ⟨e0,_⟩ | ⟨g',cap',cur,e0,hb,_⟩
   ·cases e0
   ·injection e0 with e1 _ _;injection e1 with e1;injection e1 with e1;omega
  have hcell:∀ j,j<rs.length→∃ r,r∈rs∧rs[j]?=some r∧W.cell? ⟨g,j,none⟩=some r.u:=fun j hj=>by
   obtain ⟨r,hr⟩:∃ r,rs[j]?=some r:=⟨_,List.getElem?_eq_getElem hj⟩;exact ⟨r,List.mem_of_getElem? hr,hr,hcells j r.u (by simp [rwc,hr])⟩
  have Hs:=hid hs;have Hcell:=hid hcell;clear hs hcell hcells hn;go_enter Tryz.func69,Tryz.ntmps69
  go_wp2
  go_loopw [5] (fun i wr=>∃ k:Nat,i=.int .i64 ((k:Int)+1)∧k+1≤rs.length∧Qu W wr∧∀ j,j<k+1→zkY (rs.map Rw.x) j=true) (fun i _=>rs.length - (zal i).toNat)
  case atStart=>exact ⟨0,rfl,by omega,Qu.refl W,fun j hj=>by
   obtain rfl:j=0:=by omega
   rfl⟩
  case round =>
   obtain ⟨k,rfl,hk,hqu,hkeep⟩:=hrel;have Hqu:=hid hqu;have Hkeep:=hid hkeep;clear hqu hkeep;by_cases hlt:k+1<rs.length
   ·obtain ⟨r1,hm1,hr1,hc1⟩:=Hcell.out (k+1) hlt;obtain ⟨r0,hm0,hr0,hc0⟩:=Hcell.out k (by omega);have hd1:=Hqu.out.ext.cell hc1;have hd0:=Hqu.out.ext.cell hc0;obtain ⟨ho1,hl1⟩:=Hs.out.2 r1 hm1;obtain ⟨ho0,hl0⟩:=Hs.out.2 r0 hm0;have hkk:zkY (rs.map Rw.x) (k+1)=!decide (r1.x=r0.x):=by
     unfold zkY;rw [Nat.add_sub_cancel,List.getD_eq_getElem?_getD,List.getD_eq_getElem?_getD,List.getElem?_map,List.getElem?_map,hr1,hr0];simp
    have heq:=fun n=>zkW r1.u r0.u r1.x r0.x (wr.drewN n) ((Hqu.out.drewN n).ext.ownI ho1).sl ((Hqu.out.drewN n).ext.ownI ho0).sl hl1 hl0;generalize decide (r1.x=r0.x)=eqb at *;have hw1:IntKind.i64.wrap ((k:Int)+1 - 1)=(k:Int):=(by rw [IntWalk.i64_in _ (by omega)];omega);have hk1:(0:Int)≤(k:Int)+1:=(by omega);have hk2:(k:Int)+1<(rs.length:Int):=(by omega);have hk3:(0:Int)≤(k:Int):=(by omega);have hk4:(k:Int)<(rs.length:Int):=(by omega);have hk5:((k:Int)+1).toNat=k+1:=(by omega);have Heq:=hid heq;have Hkk:=hid hkk;clear heq hkk hc1 hc0 ho1 ho0 hm1 hm0 hr1 hr0;obtain ⟨x1,u1,hu1⟩:=r1;obtain ⟨x0,u0,hu0⟩:=r0;dsimp only at hd1 hd0
    cases eqb with
    | false =>
     go_wp2
     go_quiet ((go_at_call 16;exact Calls.quiet_of (Heq.out _)))
     clear hw1 hk5
     go_wp2
     go_roundw
     case rel=>exact ⟨k+1,by go_num,by omega,Hqu.out.drewN _,fun j hj=>by
      rcases Nat.lt_or_ge j (k+1) with h | h
      ·exact Hkeep.out j h
      ·obtain rfl:j=k+1:=by omega
       exact Hkk.out⟩
     case measure=>simp [zal];omega
    | true =>
     go_wp2
     go_quiet ((go_at_call 16;exact Calls.quiet_of (Heq.out _)))
     clear hw1 hk5
     obtain ⟨L2,hL2⟩:∃ L2,rs.length - (k+1)=L2:=⟨_,rfl⟩
     have hL3:k+1+L2=rs.length:=by omega
     have hcc:k+1<cap:=by omega
     have hcap2:cap≤maxLen:=by
      rcases Hs.out.1.2 with ⟨e0,_⟩ | ⟨g',cap',cur,e0,_,_,_,hm,_⟩
      ·cases e0
      ·injection e0 with _ _ e3;omega
     unfold maxLen at hcap2
     have hown0:wr.ownsRow B 33 1 (.slice (some ⟨g,0,none⟩) rs.length cap) rs.length (rwc (zkZ Rw.x rs (k+2)++rs.drop (zkZ Rw.x rs (k+2)).length)):=by
      obtain ⟨r,hr⟩:∃ r,rs[k+1]?=some r:=⟨_,List.getElem?_eq_getElem hlt⟩;have e:zkZ Rw.x rs (k+2)=rs.take (k+1):=by
       rw [zle hr,Hkk.out,zla Rw.x rs (k+1) (by omega) Hkeep.out];simp
      rw [e,List.length_take,Nat.min_eq_left (by omega),List.take_append_drop];exact Hqu.out.ext.own Hs.out.1
     have hcl0:(zkZ Rw.x rs (k+2)).length=k+1:=by
      obtain ⟨r,hr⟩:∃ r,rs[k+1]?=some r:=⟨_,List.getElem?_eq_getElem hlt⟩;rw [zle hr,Hkk.out,zla Rw.x rs (k+1) (by omega) Hkeep.out];simp;omega
     rw [hcl0] at hown0
     have hgr0:W.grownBy wr (some g):=by
      obtain ⟨q,rfl⟩:=Hqu.out;exact zcA (zc9 W _) q
     have Hown0:=hid hown0;have Hcl0:=hid hcl0;have Hgr0:=hid hgr0;have HL2:=hid hL2;have HL3:=hid hL3
     clear hown0 hcl0 hgr0 hL3
     go_wp2_with fail
     clear hL2
     go_loopw [5,7] (fun v5 v7 wr=>zli W B g cap k rs v5 v7 wr) (fun _ v7 _=>rs.length - (zal v7).toNat)
     case atStart=>
      refine ⟨0,k+1,by simp,rfl,by omega,Hcl0.out,by omega,Hown0.out,zcA Hgr0.out _⟩
     case round =>
      obtain ⟨j,c,rfl,rfl,hj,hC,hc,ho,hg⟩:=hrel
      have hL3:=HL3.out
      by_cases hlt2:k+2+j<rs.length
      ·obtain ⟨r,hr⟩:∃ r,rs[k+1+j+1]?=some r:=⟨_,List.getElem?_eq_getElem (by omega)⟩
       obtain ⟨s,hs0⟩:∃ r,rs[k+1+j]?=some r:=⟨_,List.getElem?_eq_getElem (by omega)⟩
       have hkk2:=zlf hr hs0
       have hr2:rs[k+2+j]?=some r:=by rw [← hr];congr 1;omega
       have hkk3:zkY (rs.map Rw.x) (k+2+j)=!decide (r.x=s.x):=by rw [← hkk2];congr 1;omega
       have hmid:=fun {m:Nat}{r:Rw}(h:rs[m]?=some r)(hm:c≤m)=>zkR ho (by have:=zlg (C:=zkZ Rw.x rs (k+2+j)) h (by rw [hC];exact hm);rw [hC] at this;exact this)
       have hcm:wr.cell? ⟨g,k+1+(j+1),none⟩=some r.u:=hmid (show rs[k+1+(j+1)]?=some r from hr) (by omega)
       have hcp:wr.cell? ⟨g,k+1+j,none⟩=some s.u:=hmid hs0 (by omega)
       obtain ⟨t,ht⟩:∃ r,rs[c]?=some r:=⟨_,List.getElem?_eq_getElem (by omega)⟩
       have hck:wr.cell? ⟨g,c,none⟩=some t.u:=hmid ht (Nat.le_refl _)
       have hfk:wr.frozen? ⟨g,c,none⟩=false:=World.ownsRow.frozenAt ho c
       have hkr:=zll (ss:=rs) hg Hs.out.1 Hs.out.2 (fun r h=>h)
       obtain ⟨ho1,hl1⟩:=hkr r (List.mem_of_getElem? hr)
       obtain ⟨ho0,hl0⟩:=hkr s (List.mem_of_getElem? hs0)
       have heq:=fun n=>zkW r.u s.u r.x s.x (wr.drewN n) (((Ext.refl wr).drewN n).ownI ho1).sl (((Ext.refl wr).drewN n).ownI ho0).sl hl1 hl0
       have hskip:=fun (e:decide (r.x=s.x)=true) n=>zlj hr2 (by rw [hkk3,e];rfl) hC hc ho hg n
       have hkeep2:=fun (e:decide (r.x=s.x)=false) n=>zlk hr2 (by rw [hkk3,e];rfl) hC hc ho hg n
       generalize decide (r.x=s.x)=eqb at *
       have hw1:IntKind.i64.wrap ((j:Int)+1 - 1)=(j:Int):=by rw [IntWalk.i64_in _ (by omega)];omega
       have hj1:(0:Int)≤(j:Int)+1:=by omega
       have hj2:(j:Int)+1<(L2:Int):=by omega
       have hj3:(0:Int)≤(j:Int):=by omega
       have hj4:(j:Int)<(L2:Int):=by omega
       have hj5:((j:Int)+1).toNat=j+1:=by omega
       have hc1:(c:Int)<(rs.length:Int):=by omega
       have hc0:(0:Int)≤(c:Int):=by omega
       have Heq:=hid heq;have Hskip:=hid hskip;have Hkeep2:=hid hkeep2;have Ho1:=hid ho1
       clear heq hskip hkeep2 hkk2 hkk3 hr2 hmid hkr ho1 ho0 hr hs0 ht ho hg hC hl1 hl0 hL3
       obtain ⟨x1,u1,hu1⟩:=r
       obtain ⟨x0,u0,hu0⟩:=s
       dsimp only at hcm hcp
       generalize t.u=tu at *
       have ho1:=Ho1.out
       dsimp only at ho1
       obtain ⟨a1,c1,rfl⟩:=zc3 ho1
       clear ho1 Ho1
       cases eqb with
       | false =>
        go_wp2
        go_quiet ((go_at_call 16;exact Calls.quiet_of (Heq.out _)))
        clear hw1 hj5
        go_wp2
        go_roundw
        case rel=>exact Hkeep2.out (by first | rfl | trivial) _
        case measure=>simp [zal];omega
       | true =>
        go_wp2
        go_quiet ((go_at_call 16;exact Calls.quiet_of (Heq.out _)))
        clear hw1 hj5
        go_wp2
        go_roundw
        case rel=>exact Hskip.out (by first | rfl | trivial) _
        case measure=>simp [zal];omega
      ·have hmn:k+2+j=rs.length:=by omega
       rw [hmn] at hC ho
       have hjn:¬ (j:Int)+1<(L2:Int):=by omega
       have hcn:c<rs.length:=by omega
       have hcap3:c<cap:=by omega
       have hnil:∀ w,(zeroValue 33).run Tryz.prog w=.ok (.slice none 0 0) w:=fun w=>by kernel_rfl
       have hcl:∀ ty,(Builtin.clear_ #[29] ty #[.slice (some ⟨g,c,none⟩) (rs.length - c) (cap - c)]).run Tryz.prog wr=.ok (.tuple #[]) (wr.setCells g c (List.replicate (rs.length - c) (.slice none 0 0))):=fun ty =>
        Lib.run_clear_slice wr _ _ ty _ Tryz.underlying29 hnil rfl rfl g c _ _ (by omega) (fun t ht=>by
         obtain ⟨r,hr⟩:∃ r,rs[c+t]?=some r:=⟨_,List.getElem?_eq_getElem (by omega)⟩;have:=zkR ho (by have:=zlg (C:=zkZ Rw.x rs rs.length) hr (by omega);rw [hC] at this;exact this);rw [this];rfl) (fun t _=>World.ownsRow.frozenAt ho (c+t))
       have hE9:W.grownBy (wr.setCells g c (List.replicate (rs.length - c) (.slice none 0 0))) (some g):=zkX hg _ _
       have ho9:=zlc (zld (List.replicate (rs.length - c) (.slice none 0 0)) c ho (by simp;omega)) (Nat.le_of_lt hcn)
       have hrow9:(wr.setCells g c (List.replicate (rs.length - c) (.slice none 0 0))).ownsRow B 33 1 (.slice (some ⟨g,0,none⟩) c cap) c (rwc (zkZ Rw.x rs rs.length)):=by
        have e:((rwc (zkZ Rw.x rs rs.length++rs.drop c)).take c++List.replicate (rs.length - c) (Value.slice none 0 0)++(rwc (zkZ Rw.x rs rs.length++rs.drop c)).drop (c+(List.replicate (rs.length - c) (Value.slice none 0 0)).length)).take c=rwc (zkZ Rw.x rs rs.length):=by
         have hl:(rwc (zkZ Rw.x rs rs.length)).length=c:=(by rw [zkS,hC]);rw [show rwc (zkZ Rw.x rs rs.length++rs.drop c)=rwc (zkZ Rw.x rs rs.length)++rwc (rs.drop c) by simp [rwc]];rw [List.append_assoc,List.take_left' (by rw [List.length_take,List.length_append];omega),List.take_left' hl]
        rw [e] at ho9;exact ho9
       have hr9:=zll (ss:=zkZ Rw.x rs rs.length) hE9 Hs.out.1 Hs.out.2 (fun r h=>zlb _ _ _ h)
       have HC:=hid hC;have Hrow9:=hid hrow9;have Hr9:=hid hr9;have HE9:=hid hE9
       clear hC hrow9 hr9 hE9 ho9 ho hg hnil hmn hL3
       go_wp2
       go_ret
       exact ⟨_,rfl,⟨by rw [HC.out];exact Hrow9.out,Hr9.out⟩,fun w0 h hB=>h.grown HE9.out fun k hk=>by cases hk;omega⟩
   ·obtain hkn:k+1=rs.length:=by omega
    have hall:zkZ Rw.x rs rs.length=rs:=by
     rw [zla Rw.x rs rs.length (Nat.le_refl _) (by rw [← hkn];exact Hkeep.out),List.take_length]
    have Hall:=hid hall;have Hkn:=hid hkn;clear hall hkn;have hk1:¬ (k:Int)+1<(rs.length:Int):=(by omega);go_wp2
    go_ret
    exact ⟨_,rfl,by rw [Hall.out];exact Hqu.out.ext.rwM Hs.out,fun w0 h _=>h.trans Hqu.out.ext⟩
structure GR (α:Type) where
 g:Nat
 c:Nat
 x:List α
def GR.u {α:Type}(e:GR α):Value:=.slice (some ⟨e.g,0,none⟩) e.x.length e.c
structure Gd {α:Type}(enc:α→List Value)(T TS s:Nat)(w:World)(B gs cap:Nat)(ls:List (GR α)):Prop where
 own:w.ownsRow B TS 1 (.slice (some ⟨gs,0,none⟩) ls.length cap) ls.length (ls.map GR.u)
 rows:∀ e∈ls,w.ownsRow B T s e.u e.x.length (e.x.flatMap enc)
 apart:∀ (i j:Nat)(e f:GR α),ls[i]?=some e→ls[j]?=some f→i ≠ j→e.g ≠ f.g
def zln (i j k:Nat):Nat:=if k=j then i else if k=i then j else k
theorem zlo {i j a b:Nat}(h:zln i j a=zln i j b):a=b:=by unfold zln at h;split at h <;> split at h <;> (try split at h) <;> (try split at h) <;> omega
theorem zlp {α:Type}{ls:List α}{i j:Nat}{e f:α}(he:ls[i]?=some e)(hf:ls[j]?=some f)(k:Nat):((ls.set i f).set j e)[k]?=ls[zln i j k]?:=by
 have hi:=(List.getElem?_eq_some_iff.1 he).1;have hj:=(List.getElem?_eq_some_iff.1 hf).1;unfold zln;rw [List.getElem?_set];by_cases g:j=k
 ·rw [if_pos g,if_pos (by rw [List.length_set];exact hj),if_pos g.symm,he]
 ·rw [if_neg g,if_neg (fun q=>g q.symm),List.getElem?_set];by_cases g2:i=k
  ·rw [if_pos g2,if_pos hi,if_pos g2.symm,hf]
  ·rw [if_neg g2,if_neg (fun q=>g2 q.symm)]
section
variable {α : Type} {enc : α → List Value} {T TS s : Nat} {w w' : World} {B gs cap : Nat} {ls : List (GR α)}
theorem Gd.ext (h:Gd enc T TS s w B gs cap ls)(hx:Ext w w'):Gd enc T TS s w' B gs cap ls:=⟨hx.own h.own,fun e he=>hx.own (h.rows e he),h.apart⟩
theorem Gd.at (h:Gd enc T TS s w B gs cap ls){i:Nat}{e:GR α}(he:ls[i]?=some e):w.cell? ⟨gs,i,none⟩=some e.u:=by
 have:=World.ownsRow.cellAt h.own i (by rw [Nat.mul_one];exact (List.getElem?_eq_some_iff.1 he).1);rw [List.getElem?_map,he] at this;exact this
theorem Gd.gs_ne (h:Gd enc T TS s w B gs cap ls)(hT:T ≠ TS){e:GR α}(he:e∈ls):gs ≠ e.g:=by
 rcases zc5 (h.rows e he) h.own hT with g | g
 ·cases g
 ·exact fun q=>g (by rw [q];rfl)
theorem Gd.gsB (h:Gd enc T TS s w B gs cap ls):B≤gs∧gs<w.heap.size:=World.ownsRow.lt h.own gs rfl
theorem Gd.rowB (h:Gd enc T TS s w B gs cap ls){e:GR α}(he:e∈ls):B≤e.g∧e.g<w.heap.size:=World.ownsRow.lt (h.rows e he) e.g rfl
theorem Gd.upd (h:Gd enc T TS s w B gs cap ls)(hT:T ≠ TS){i:Nat}{e:GR α}(he:ls[i]?=some e)(hd:w.grownBy w' (some e.g)){x:List α}(hl:x.length=e.x.length)(hx:w'.ownsRow B T s e.u e.x.length (x.flatMap enc)) :
  Gd enc T TS s w' B gs cap (ls.set i { e with x:=x }):=by
 have hi:=(List.getElem?_eq_some_iff.1 he).1;have n1:=h.gs_ne hT (List.mem_of_getElem? he);have hu:GR.u { e with x:=x }=e.u:=by unfold GR.u;rw [show ({ e with x:=x }:GR α).x=x from rfl,hl]
 have hat:∀ j f,(ls.set i { e with x:=x })[j]?=some f→∃ f0,ls[j]?=some f0∧f.g=f0.g∧(j ≠ i→f=f0)∧(j=i→f={ e with x:=x }):=by
  intro j f hf;rw [List.getElem?_set] at hf;by_cases g:i=j
  ·rw [if_pos g,if_pos (by omega)] at hf;injection hf with hf;subst hf;subst g;exact ⟨e,he,rfl,fun q=>absurd rfl q,fun _=>rfl⟩
  ·rw [if_neg g] at hf;exact ⟨f,hf,rfl,fun _=>rfl,fun q=>absurd q.symm g⟩
 refine ⟨?_,fun f hf=>?_,fun p q f k hf hk hne=>?_⟩
 ·have hm:(ls.set i { e with x:=x }).map GR.u=ls.map GR.u:=by
   rw [List.map_set,hu];have:(ls.map GR.u)[i]?=some e.u:=(by rw [List.getElem?_map,he];rfl);obtain ⟨h1,h2⟩:=List.getElem?_eq_some_iff.1 this;rw [← h2];exact List.set_getElem_self h1
  rw [hm,List.length_set];exact World.ownsRow.kept h.own hd (.inr fun q=>n1 (Option.some.inj q))
 ·obtain ⟨j,hj⟩:=List.mem_iff_getElem?.1 hf;obtain ⟨f0,h1,h2,h3,h4⟩:=hat j f hj;by_cases g:j=i
  ·rw [h4 g];show w'.ownsRow B T s (GR.u { e with x:=x }) x.length (x.flatMap enc);rw [hu,hl];exact hx
  ·rw [h3 g];exact World.ownsRow.kept (h.rows f0 (List.mem_of_getElem? h1)) hd (.inr fun q=>h.apart j i f0 e h1 he g (Option.some.inj q))
 ·obtain ⟨f0,h1,h2,_⟩:=hat p f hf;obtain ⟨k0,h4,h5,_⟩:=hat q k hk;rw [h2,h5];exact h.apart p q f0 k0 h1 h4 hne
theorem Gd.swap (h:Gd enc T TS s w B gs cap ls)(hT:T ≠ TS){i j:Nat}{e f:GR α}(he:ls[i]?=some e)(hf:ls[j]?=some f) :
  Gd enc T TS s ((w.setCell ⟨gs,i,none⟩ f.u).setCell ⟨gs,j,none⟩ e.u) B gs cap ((ls.set i f).set j e)∧w.grownBy ((w.setCell ⟨gs,i,none⟩ f.u).setCell ⟨gs,j,none⟩ e.u) (some gs):=by
 have o1:=World.ownsRow.stored h.own i f.u;have o2:=World.ownsRow.stored o1.1 j e.u;have hg:=o1.2.trans o2.2;refine ⟨⟨?_,fun q hq=>?_,fun a b p q hp hq hne=>?_⟩,hg⟩
 ·rw [List.length_set,List.length_set,List.map_set,List.map_set];exact o2.1
 ·obtain ⟨k,hk⟩:=List.mem_iff_getElem?.1 hq;rw [zlp he hf] at hk;have hm:=List.mem_of_getElem? hk;exact World.ownsRow.kept (h.rows q hm) hg (.inr fun q=>h.gs_ne hT hm (Option.some.inj q).symm)
 ·rw [zlp he hf] at hp hq;exact h.apart _ _ p q hp hq fun g=>hne (zlo g)
theorem zlq {W:World}{b:Nat}(h:w.grownBy w' (some b))(hE:Ext W w)(hb:W.heap.size≤b):Ext W w' :=
 hE.grown h fun k hk=>by cases hk;exact hb
end
structure GdM {α:Type}(enc:α→List Value)(T TS s:Nat)(w:World)(B:Nat)(v:Value)(ls:List (GR α)):Prop where
 own:w.ownsRow B TS 1 v ls.length (ls.map GR.u)
 rows:∀ e∈ls,w.ownsRow B T s e.u e.x.length (e.x.flatMap enc)
 apart:∀ (i j:Nat)(e f:GR α),ls[i]?=some e→ls[j]?=some f→i ≠ j→e.g ≠ f.g
section
variable {α : Type} {enc : α → List Value} {T TS s : Nat} {w w' : World} {B : Nat} {v : Value} {ls : List (GR α)}
theorem GdM.nil (w:World)(B:Nat):GdM (α:=α) enc T TS s w B (.slice none 0 0) []:=⟨World.ownsRow_nil w _ _ 1,fun _ h=>(by cases h),fun _ _ _ _ h=>(by simp at h)⟩
theorem GdM.ext (h:GdM enc T TS s w B v ls)(hx:Ext w w'):GdM enc T TS s w' B v ls:=⟨hx.own h.own,fun e he=>hx.own (h.rows e he),h.apart⟩
theorem GdM.more {V:World}{v7:Value}{o:Obj}{e:GR α}(h:GdM enc T TS s w B v ls)(hT:T ≠ TS)(he:w.ownsRow B T s e.u e.x.length (e.x.flatMap enc))(hf:∀ f∈ls,f.g ≠ e.g)
  (hown:V.ownsRow B TS 1 v7 (ls.length+1) (ls.map GR.u++[e.u])) (hgrow:(w.alloc o).grownBy V v.ownBlock):GdM enc T TS s V B v7 (ls++[e]):=by
 have hk:∀ f:GR α,w.ownsRow B T s f.u f.x.length (f.x.flatMap enc)→V.ownsRow B T s f.u f.x.length (f.x.flatMap enc):=fun f hfo =>
  World.ownsRow.kept (((Ext.refl w).alloc o).own hfo) hgrow (zc5 hfo h.own hT)
 refine ⟨by rw [List.length_append,List.map_append];exact hown,fun f hm=>?_,fun i j a b ha hb hne=>?_⟩
 ·rcases List.mem_append.1 hm with g | g
  ·exact hk f (h.rows f g)
  ·rw [List.mem_singleton] at g;subst g;exact hk f he
 ·have hsplit:∀ (i:Nat)(a:GR α),(ls++[e])[i]?=some a→(i<ls.length∧ls[i]?=some a)∨(i=ls.length∧a=e):=fun i a ha=>by
   rcases Nat.lt_or_ge i ls.length with g | g
   ·rw [List.getElem?_append_left g] at ha;exact .inl ⟨g,ha⟩
   ·rw [List.getElem?_append_right g] at ha;have hl:=(List.getElem?_eq_some_iff.1 ha).1;simp only [List.length_singleton] at hl;have hi:i=ls.length:=(by omega);subst hi;rw [Nat.sub_self] at ha;exact .inr ⟨rfl,(Option.some.inj ha).symm⟩
  rcases hsplit i a ha with ⟨_,g1⟩ | ⟨g0,rfl⟩ <;> rcases hsplit j b hb with ⟨_,g3⟩ | ⟨g2,rfl⟩
  ·exact h.apart i j a b g1 g3 hne
  ·exact hf a (List.mem_of_getElem? g1)
  ·exact fun q=>hf b (List.mem_of_getElem? g3) q.symm
  ·omega
theorem GdM.gd (h:GdM enc T TS s w B v ls)(hl:0<ls.length):∃ gs cap,v=.slice (some ⟨gs,0,none⟩) ls.length cap∧Gd enc T TS s w B gs cap ls:=by
 rcases h.own.2 with ⟨_,h0⟩ | ⟨g,cap,cur,rfl,_⟩
 ·omega
 ·exact ⟨g,cap,rfl,h.own,h.rows,h.apart⟩
end
def zlr (z:Int):List Value:=[.string (I z)]
def zls (q:Rat):List Value:=[.string (I q.num),.string (I (q.den:Int))]
theorem zlt (l:List Int):l.flatMap zlr=zf1 l:=by
 induction l with
 | nil=>rfl
 | cons z l ih=>rw [List.flatMap_cons,ih];rfl
theorem zlu {l:List Int}{j:Nat}(h:j<l.length):(zf1 l)[j]?=some (.string (I (zas l j))):=by
 unfold zf1 zas;rw [List.getElem?_map,List.getD_eq_getElem?_getD,List.getElem?_eq_getElem h];rfl
theorem zlv (g n N ca:Nat)(vb:Value)(k:Int)(a b:List Int)(w0 w:World)(B:Nat)(he:Env w0)(h0:Ext w0 w)(hB:w0.heap.size≤B)(ha:a.length=n)(hb:b.length=N)(hnN:n≤N)(hN:N≤1000)
  (hown:w.ownsRow B 100 1 (.slice (some ⟨g,0,none⟩) n ca) n (zf1 a)) (hvb:∀ W,w.grownBy W (some g)→Sl W vb (zf1 b))
  (fk:Fit k) (fa:∀ z∈a,Fit z) (fb:∀ z∈b,Fit z) (fm:∀ z∈b,Fit (k * z)) :
  Calls Tryz.prog 116 #[.slice (some ⟨g,0,none⟩) n ca,vb,.string (I k)] w fun e w'=>e=.returned (.tuple #[])∧w'.ownsRow B 100 1 (.slice (some ⟨g,0,none⟩) n ca) n (zf1 (ziC a b k))∧w.grownBy w' (some g):=by
 have hg0:w.grownBy w (some g):=⟨rfl,rfl,rfl,Nat.le_refl _,fun _ _ _=>rfl⟩;obtain ⟨ab,cb,rfl,_,_,_⟩:=(hvb w hg0).parts;have hbl:(zf1 b).length=N:=by rw [zf2,hb]
 rw [hbl] at hvb ⊢;clear hbl;have hb2:(b.take n).length=n:=by rw [List.length_take];omega
 have htk:ziC a b k=List.zipWith (fun x y=>x - k * y) a (b.take n):=by
  unfold ziC;apply List.ext_getElem?;intro i;rw [List.getElem?_zipWith,List.getElem?_zipWith,List.getElem?_take];by_cases h:i<n
  ·rw [if_pos h]
  ·rw [if_neg h,List.getElem?_eq_none (by omega)]
 have hgB:w0.heap.size≤g:=Nat.le_trans hB (World.ownsRow.lt hown g rfl).1;have hEx:∀ W,w.grownBy W (some g)→Ext w0 W:=fun W h=>h0.grown h (fun q hq=>by cases hq;exact hgB);have hrd:∀ W,w.grownBy W (some g)→∀ j,j<n→∃ b2 o2,ab=some ⟨b2,o2,none⟩∧W.cell? ⟨b2,o2+j,none⟩=some (.string (I (zas (b.take n) j))):=fun W hW j hj=>by
  obtain ⟨ab',cb',e,_,_,hc⟩:=(hvb W hW).parts;injection e with e1 e3 e4;subst e1;obtain ⟨b2,o2,e5,h5⟩:=hc j _ (zlu (by rw [hb];omega));refine ⟨b2,o2,e5,?_⟩;rw [h5];unfold zas;rw [List.getD_eq_getElem?_getD,List.getD_eq_getElem?_getD,List.getElem?_take,if_pos hj]
 have hfb:∀ z∈b.take n,Fit z:=fun z hz=>fb z (List.mem_of_mem_take hz);have hfm:∀ z∈b.take n,Fit (k * z):=fun z hz=>fm z (List.mem_of_mem_take hz);rw [htk];have hzk:=zb3 k;have hn:n≤1000:=by omega
 have hle:(n:Int)≤(N:Int):=by omega
 generalize b.take n=c at *;have He:=hid he;have Hrd:=hid hrd;have HEx:=hid hEx;have Fk:=hid fk;have Fa:=hid fa;have Fb:=hid hfb;have Fm:=hid hfm;have Ha:=hid ha;have Hb:=hid hb2;have Hg0:=hid hg0;have Hown0:Hid (w.ownsRow B 100 1 (.slice (some ⟨g,0,none⟩) n ca) n (zf1 (zkL k a c 0))):=hid (by rw [zkM];exact hown);clear he h0 hB hown hvb fk fa fb fm hgB hEx ha hb hg0 hrd hfb hfm hb2 htk;by_cases hk0:k=0
 ·have hq1:((I k).toList == [48])=true:=by rw [hzk,decide_eq_true hk0]
  have hz:List.zipWith (fun x y=>x - k * y) a c=a:=by
   subst hk0;apply List.ext_getElem
   ·rw [List.length_zipWith,Ha.out,Hb.out];omega
   ·intro i h1 h2;simp
  have Hz:=hid hz;clear hzk hk0 hz;go_enter Tryz.func116,Tryz.ntmps116
  go_wp2
  (try simp only [Exit.inBlock,Exit.then]);refine bodyPost_ret (results_none rfl _ _ _) rfl ?_;refine ⟨rfl,?_,Hg0.out⟩;rw [Hz.out];have:=Hown0.out;rwa [zkM] at this
 ·have hq1:((I k).toList == [48])=false:=by rw [hzk,decide_eq_false hk0]
  clear hzk hk0;go_enter Tryz.func116,Tryz.ntmps116
  go_wp2_with fail
  go_loopw [11] (fun v9 wr=>∃ j:Nat,v9=.int .i64 j∧j≤n∧wr.ownsRow B 100 1 (.slice (some ⟨g,0,none⟩) n ca) n (zf1 (zkL k a c j))∧w.grownBy wr (some g)) (fun v9 _=>n - (zal v9).toNat)
  case atStart=>exact ⟨0,rfl,Nat.zero_le _,Hown0.out,Hg0.out⟩
  case round =>
   obtain ⟨j,rfl,hj,hown,hg⟩:=hrel;have Hown:=hid hown;have Hg:=hid hg;clear hown hg;by_cases hjn:j<n
   ·obtain ⟨b2,o2,rfl,hcb⟩:=Hrd.out wr Hg.out j hjn;have hca:=zkR Hown.out (j:=j) (u:=.string (I (zas a j))) (by unfold zf1;rw [List.getElem?_map,zkP Ha.out Hb.out hjn];rfl);have hya:=Fa.out (zas a j) (zc8 (by rw [Ha.out];exact hjn));have hyb:=Fb.out (zas c j) (zc8 (by rw [Hb.out];exact hjn));have hym:=Fm.out (zas c j) (zc8 (by rw [Hb.out];exact hjn));have hset:=zkO (k:=k) Ha.out Hb.out hjn;have Hset:=hid hset;clear hset;generalize zas c j=y at *;generalize zas a j=x at *;have hj0:(0:Int)≤(j:Int):=(by omega);have hj1:(j:Int)<(n:Int):=(by omega);have hj2:(j:Int)<(N:Int):=(by omega);have hEd:Ext w0 wr.drew:=(HEx.out wr Hg.out).drew;have hca2:wr.drew.cell? ⟨g,j,none⟩=some (.string (I x)):=hca;have hod:wr.drew.ownsRow B 100 1 (.slice (some ⟨g,0,none⟩) n ca) n (zf1 (zkL k a c j)):=Hown.out;have hgd:w.grownBy wr.drew (some g):=⟨Hg.out.os,Hg.out.tape,Hg.out.output,Hg.out.size,Hg.out.block⟩;have hmu:=zca k y wr.drew (He.out.ext hEd) Fk.out hyb;have hsu:=fun W (h:Ext w0 W)=>zdC x (k * y) W (He.out.ext h) hya hym;have Hmu:=hid hmu;have Hsu:=hid hsu;have HEd:=hid hEd;have Hod:=hid hod;have Hgd:=hid hgd;have Hca2:=hid hca2;clear hmu hsu hEd hod hgd hya hyb hym;go_wp2_with fail
    go_region_law (first
     | (go_simp;go_at_call 165;refine Hmu.out.mono ?_;rintro e V1 ⟨rfl,hx1⟩;have hcV:=hx1.cell Hca2.out;have HcV:=hid hcV;have HE1:=hid (HEd.out.trans hx1);have Ho1:=hid (hx1.own Hod.out);have Hg1:=hid (zcC Hgd.out hx1);clear hx1)
     | (go_simp;go_at_call 164;refine (Hsu.out V1 HE1.out).mono ?_;rintro e V2 ⟨rfl,hx2⟩;have hcV2:=hx2.cell HcV.out;have Ho2:=hid (hx2.own Ho1.out);have Hg2:=hid (zcC Hg1.out hx2);have hf2:=World.ownsRow.frozenAt Ho2.out j;clear hx2))
    all_goals
     have hst:=(World.ownsRow.stored Ho2.out j (.string (I (x - k * y)))).1;have hgs:=zcB Hg2.out (p:=⟨g,j,none⟩) rfl (.string (I (x - k * y)));rw [zkQ,Hset.out] at hst;have Hst:=hid hst;have Hgs:=hid hgs;clear hst hgs;generalize V2.setCell ⟨g,j,none⟩ (.string (I (x - k * y)))=V3 at *;go_wp2_with fail
     go_roundw
     case rel=>exact ⟨j+1,by go_num,by omega,Hst.out,Hgs.out⟩
     case measure=>simp [zal];omega
   ·have hkk:¬ (j:Int)<(n:Int):=(by omega);have hjn2:j=n:=(by omega);have hfin:=Hown.out;rw [hjn2,zkN Ha.out Hb.out] at hfin;have Hfin:=hid hfin;clear hfin hjn2;go_wp2
    go_end0
    exact ⟨rfl,Hfin.out,Hg.out⟩
def zlw (a:List Int)(off j:Nat):List Int:=a.mapIdx fun i z=>if off≤i∧i<off+j then -z else z
theorem zlx (a:List Int)(off:Nat):zlw a off 0=a:=by
 unfold zlw;apply List.ext_getElem?;intro i;rw [List.getElem?_mapIdx]
 cases a[i]? with
 | none=>rfl
 | some z=>simp only [Option.map_some];rw [if_neg (by omega)]
theorem zly (a:List Int)(off j:Nat):(zlw a off j).length=a.length:=by unfold zlw;simp
theorem zlz {a:List Int}{off j:Nat}(h:off+j<a.length):(zlw a off j)[off+j]?=some (zas a (off+j)):=by
 unfold zlw zas;rw [List.getElem?_mapIdx,List.getD_eq_getElem?_getD,List.getElem?_eq_getElem h];simp only [Option.map_some,Option.getD_some];rw [if_neg (by omega)]
theorem zl0 {a:List Int}{off j:Nat}(h:off+j<a.length):(zlw a off j).set (off+j) (-zas a (off+j))=zlw a off (j+1):=by
 apply List.ext_getElem?;intro i;rw [List.getElem?_set,zly];unfold zlw;rw [List.getElem?_mapIdx,List.getElem?_mapIdx];by_cases e:off+j=i
 ·subst e;rw [if_pos rfl,if_pos h];unfold zas;rw [List.getD_eq_getElem?_getD,List.getElem?_eq_getElem h];simp only [Option.map_some,Option.getD_some];rw [if_pos (by omega)]
 ·rw [if_neg e]
  cases a[i]? with
  | none=>rfl
  | some z =>
   simp only [Option.map_some]
   by_cases q:off≤i∧i<off+j
   ·rw [if_pos q,if_pos (by omega)]
   ·rw [if_neg q,if_neg (by omega)]
theorem zl1 (a:List Int):zlw a 0 a.length=ziD a:=by
 unfold zlw ziD;apply List.ext_getElem?;intro i;rw [List.getElem?_mapIdx,List.getElem?_map];by_cases h:i<a.length
 ·rw [List.getElem?_eq_getElem h];simp only [Option.map_some];rw [if_pos (by omega)]
 ·rw [List.getElem?_eq_none (by omega)];rfl
theorem zl2 {a:List Int}{off n:Nat}(h:off+n=a.length):(zlw a off n).drop off=ziD (a.drop off):=by
 unfold zlw ziD;apply List.ext_getElem?;intro i;rw [List.getElem?_drop,List.getElem?_mapIdx,List.getElem?_map,List.getElem?_drop];by_cases g:off+i<a.length
 ·rw [List.getElem?_eq_getElem g];simp only [Option.map_some];rw [if_pos (by omega)]
 ·rw [List.getElem?_eq_none (by omega)];rfl
theorem zl3 (g off n N ca c2:Nat)(a:List Int)(w:World)(B:Nat)(ha:a.length=N)(hoN:off+n=N)(hN:N≤1000)
  (hown:w.ownsRow B 100 1 (.slice (some ⟨g,0,none⟩) N ca) N (zf1 a)) (fa:∀ z∈a,Fit z) :
  Calls Tryz.prog 82 #[.slice (some ⟨g,off,none⟩) n c2] w fun e w'=>e=.returned (.tuple #[])∧w'.ownsRow B 100 1 (.slice (some ⟨g,0,none⟩) N ca) N (zf1 (zlw a off n))∧w.grownBy w' (some g):=by
 have hg0:w.grownBy w (some g):=⟨rfl,rfl,rfl,Nat.le_refl _,fun _ _ _=>rfl⟩;have hn:n≤1000:=by omega
 have Fa:=hid fa;have Ha:=hid ha;have Hg0:=hid hg0;have HoN:=hid hoN;have Hown0:Hid (w.ownsRow B 100 1 (.slice (some ⟨g,0,none⟩) N ca) N (zf1 (zlw a off 0))):=hid (by rw [zlx];exact hown);clear hown fa ha hg0 hoN;go_enter Tryz.func82,Tryz.ntmps82
 go_wp2_with fail
 go_loopw [5] (fun v9 wr=>∃ j:Nat,v9=.int .i64 j∧j≤n∧wr.ownsRow B 100 1 (.slice (some ⟨g,0,none⟩) N ca) N (zf1 (zlw a off j))∧w.grownBy wr (some g)) (fun v9 _=>n - (zal v9).toNat)
 case atStart=>exact ⟨0,rfl,Nat.zero_le _,Hown0.out,Hg0.out⟩
 case round =>
  obtain ⟨j,rfl,hj,hown,hg⟩:=hrel;have Hown:=hid hown;have Hg:=hid hg;clear hown hg;by_cases hjn:j<n
  ·have hlt:off+j<a.length:=(by have:=HoN.out;have:=Ha.out;omega);have hca:=zkR Hown.out (j:=off+j) (u:=.string (I (zas a (off+j)))) (by unfold zf1;rw [List.getElem?_map,zlz hlt];rfl);have hya:=Fa.out (zas a (off+j)) (zc8 hlt);have Hset:=hid (zl0 hlt);have hfz:=World.ownsRow.frozenAt Hown.out (off+j);generalize zas a (off+j)=x at *;have hj0:(0:Int)≤(j:Int):=(by omega);have hj1:(j:Int)<(n:Int):=(by omega);have hng:=fun W=>zd5 x W hya;have Hng:=hid hng;clear hng hya hlt;go_wp2_with fail
   all_goals
    first
     | (refine (Hng.out _).mono ?_
        rintro e V1 ⟨rfl,hx1⟩
        have hcV:=hx1.cell hca
        have Ho1:=hid (hx1.own Hown.out);have Hg1:=hid (zcC Hg.out hx1)
        have hf2:=World.ownsRow.frozenAt Ho1.out (off+j)
        clear hx1 hfz hca
        go_wp2_with fail)
     | skip
   all_goals
    have hst:=(World.ownsRow.stored Ho1.out (off+j) (.string (I (-x)))).1;have hgs:=zcB Hg1.out (p:=⟨g,off+j,none⟩) rfl (.string (I (-x)));rw [zkQ,Hset.out] at hst;have Hst:=hid hst;have Hgs:=hid hgs;clear hst hgs;generalize V1.setCell ⟨g,off+j,none⟩ (.string (I (-x)))=V3 at *;go_roundw
    case rel=>exact ⟨j+1,by go_num,by omega,Hst.out,Hgs.out⟩
    case measure=>simp [zal];omega
  ·have hkk:¬ (j:Int)<(n:Int):=(by omega);have hjn2:j=n:=(by omega);have hfin:=Hown.out;rw [hjn2] at hfin;have Hfin:=hid hfin;clear hfin hjn2;go_wp2
   go_end0
   exact ⟨rfl,Hfin.out,Hg.out⟩
end Go.Proofs.YtipkdebkdnbieaaGreatDoor
