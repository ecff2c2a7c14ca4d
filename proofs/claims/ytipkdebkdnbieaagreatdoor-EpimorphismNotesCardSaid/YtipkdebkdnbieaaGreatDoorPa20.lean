/- Walks: row.Equal, slices.CompactFunc at rows, slices.Clone at a row: out of XOrdA, XLstA. (KEEPALL) (Printed by rebase.py.) Walks: row.Sub: out of XIvlA. (KEEPALL) (Printed by rebase.py.) -/
import Derived.Test.YtipkdebkdnbieaaGreatDoorPa19
import Derived.Test.YtipkdebkdnbieaaGreatDoorPa18
import Derived.Test.YtipkdebkdnbieaaGreatDoorPa13
import Derived.Deep.RegionHeld3
import Derived.RegionTactic
import Derived.ChangeAlike
import Derived.RangeFuncNested
import Derived.RangeFuncBound
import Derived.RangeFuncCalls
import Derived.RangeFuncLeaves
import Derived.RangeFuncBox
import Derived.RangeFuncWrites
import Derived.Shelf.Abstract
import Derived.OwnWalkIn
import Derived.TacticsInMore
import Derived.LoopNIn
import Derived.LoopIn
import Derived.Maps.AppendAt
import Derived.Test.YtipkdebkdnbieaaGreatDoorShelfA
set_option maxRecDepth 100000
set_option maxHeartbeats 4000000
namespace Go.Proofs.YtipkdebkdnbieaaGreatDoor
section
open Go.RowKit Go.Lib Go.Shelf
structure Rw where
 x:List Int
 u:Value
 hu:u.oneCell'=true
def rwc (rs:List Rw):List Value:=rs.map Rw.u
theorem zlr (rs:List Rw):(rwc rs).length=rs.length:=by simp [rwc]
theorem zls {w:World}{B:Nat}{a:Option Addr}{E s k c n:Nat}{xs:List Value}(h:w.ownsRow B E s (.slice a k c) n xs):n≤c∧k=n:=by
 rcases h.2 with ⟨e0,h0⟩ | ⟨g,cap,cur,e0,_,_,h1,_⟩
 ·injection e0 with _ e2 e3;omega
 ·injection e0 with _ e2 e3;omega
theorem zlt : ∀ {x y:List Int},x.length=y.length→x ≠ y→∃ i,i<x.length∧zas x i ≠ zas y i
 | [],[],_,h=>absurd rfl h
 | a::x,b::y,hl,h=>by
  by_cases hab:a=b
  ·obtain ⟨i,hi,hn⟩:=zlt (x:=x) (y:=y) (by simpa using hl) (fun e=>h (by rw [hab,e]));exact ⟨i+1,by simp;omega,by simpa [zas] using hn⟩
  ·exact ⟨0,by simp,by simpa [zas] using hab⟩
theorem zlu (va vb:Value)(x y:List Int)(w:World)(hx:Sl w va (zap x))(hy:Sl w vb (zap y))(hl:x.length≤1000000)(hl2:y.length≤1000000) :
  Calls Tryz.prog 43 #[va,vb] w fun e w'=>e=.returned (.bool (decide (x=y)))∧Qu w w':=by
 obtain ⟨aa,ca,rfl,_,_,hcx⟩:=hx.parts;obtain ⟨ab,cb,rfl,_,_,hcy⟩:=hy.parts;rw [zar] at *;rw [zar] at *;have Hcx:=hid hcx;clear hcx hx;have Hcy:=hid hcy;clear hcy hy;obtain ⟨r,hr⟩:∃ r,r=decide (x=y):=⟨_,rfl⟩;rw [← hr];by_cases hne:x.length=y.length
 ·have ht:((x.length:Int) != (y.length:Int))=false:=by rw [bne_eq_false_iff_eq];omega
  have Hne:=hid hne;clear hne;have Hr:=hid hr;clear hr;go_enter Tryz.func43,Tryz.ntmps43
  go_wp2
  go_loopw [13] (fun i wr=>∃ k:Nat,i=.int .i64 k∧k≤x.length∧Qu w wr∧∀ t,t<k→zas x t=zas y t) (fun i _=>x.length - (zal i).toNat)
  case atStart=>exact ⟨0,rfl,Nat.zero_le _,Qu.refl w,fun t ht=>by omega⟩
  case round =>
   obtain ⟨k,rfl,hk,hqu,hs⟩:=hrel;have Hqu:=hid hqu;clear hqu;have Hs:=hid hs;clear hs;by_cases hlt:k<x.length
   ·have hky:k<y.length:=(by rw [← Hne.out];exact hlt);obtain ⟨bx,ox,rfl,hcx0⟩:=Hcx.out k _ (zau hlt);obtain ⟨b2,oy,rfl,hcy0⟩:=Hcy.out k _ (zau hky);have hcx:=Hqu.out.ext.cell hcx0;have hcy:=Hqu.out.ext.cell hcy0;clear hcx0 hcy0;have hk0:(0:Int)≤(k:Int):=(by omega);have hk1:(k:Int)<(x.length:Int):=(by omega);have hk2:(k:Int)<(y.length:Int):=(by omega);by_cases hxy:zas x k=zas y k
    ·have h3:((zas x k) != (zas y k))=false:=(by rw [bne_eq_false_iff_eq];exact hxy);have Hxy:=hid hxy;clear hxy;go_wp2
     go_quiet (fail)
     go_wp2
     go_roundw
     case rel=>exact ⟨k+1,by go_num,by omega,Hqu.out.drewN _,fun t ht=>by
      rcases Nat.lt_or_ge t k with h | h
      ·exact Hs.out t h
      ·obtain rfl:t=k:=by omega
       exact Hxy.out⟩
     case measure=>simp [zal];omega
    ·have h3:((zas x k) != (zas y k))=true:=(by rw [bne_iff_ne];exact hxy);have hf:r=false:=(by rw [Hr.out];exact decide_eq_false (by rintro rfl;exact hxy rfl));have Hf:=hid hf;clear hxy hf;go_wp2
     go_quiet (fail)
     go_wp2
     go_ret
     exact ⟨zeD Hf.out.symm,by first | exact Hqu.out | exact Hqu.out.drewN _⟩
   ·obtain rfl:k=x.length:=by omega
    have hf:r=true:=by
     rw [Hr.out];refine decide_eq_true ?_;refine Classical.byContradiction fun h=>?_;obtain ⟨i,hi,hn⟩:=zlt Hne.out h;exact hn (Hs.out i hi)
    have Hf:=hid hf;clear hf;go_wp2
    go_ret
    exact ⟨zeD Hf.out.symm,by first | exact Hqu.out | exact Hqu.out.drewN _⟩
 ·have ht:((x.length:Int) != (y.length:Int))=true:=by rw [bne_iff_ne];omega
  have hf:r=false:=by rw [hr];exact decide_eq_false (by rintro rfl;exact hne rfl)
  clear hne hr;subst hf;go_enter Tryz.func43,Tryz.ntmps43
  go_wp2
  go_ret
  exact ⟨rfl,Qu.refl w⟩
theorem zlv (va vb:Value)(x y:List Int)(w:World)(hx:Sl w va (zap x))(hy:Sl w vb (zap y))(hl:x.length≤1000000)(hl2:y.length≤1000000) :
  Calls Tryz.prog 16 #[va,vb] w fun e w'=>e=.returned (.bool (decide (x=y)))∧Qu w w':=by
 have hc:=zlu va vb x y w hx hy hl hl2;have Hc:=hid hc;clear hc;obtain ⟨aa,ca,rfl,_,_,_⟩:=hx.parts;obtain ⟨ab,cb,rfl,_,_,_⟩:=hy.parts;rw [zar] at *;rw [zar] at *;clear hx hy;go_enter Tryz.func16,Tryz.ntmps16
 go_wp2_with fail
 refine Hc.out.mono ?_;rintro e w1 ⟨rfl,hq⟩;have Hq:=hid hq;clear hq;go_wp2
 go_ret
 exact ⟨rfl,Hq.out⟩
def RwM (w:World)(b B:Nat)(v:Value)(rs:List Rw):Prop :=
 w.ownsRow B 33 1 v rs.length (rwc rs)∧∀ r∈rs,zc2 w b r.u r.x∧r.x.length≤1000000
theorem Ext.rwM {w w':World}(h:Ext w w'){b B:Nat}{v:Value}{rs:List Rw}(hs:RwM w b B v rs):RwM w' b B v rs:=⟨h.own hs.1,fun e he=>⟨h.ownI (hs.2 e he).1,(hs.2 e he).2⟩⟩
theorem zlw {a w:World}{g:Nat}(h:a.grownBy w (some g)):∀ (us:List Value)(o:Nat),a.grownBy (w.setCells g o us) (some g):=by
 intro us;induction us generalizing w with
 | nil=>intro o;exact h
 | cons u us ih=>intro o;exact ih (zcB h rfl u) (o+1)
def zlx (l:List (List Int))(j:Nat):Bool:=j == 0 || decide (l.getD j [] ≠ l.getD (j - 1) [])
def zly {α:Type}(f:α→List Int)(l:List α):Nat→List α
 | 0=>[]
 | m+1=>zly f l m++(if zlx (l.map f) m then (l.drop m).take 1 else [])
theorem zlz {α:Type}(f:α→List Int)(l:List α):∀ m,m≤l.length→(∀ j,j<m→zlx (l.map f) j=true)→zly f l m=l.take m
 | 0,_,_=>by simp [zly]
 | m+1,h,hk=>by
  have hm:m<l.length:=h;rw [zly,zlz f l m (by omega) (fun j hj=>hk j (by omega)),hk m (by omega),if_pos rfl];rw [show (l.drop m).take 1=[l[m]] by rw [List.drop_eq_getElem_cons hm];rfl];exact (List.take_succ_eq_append_getElem hm).symm
theorem zl0 {α:Type}(f:α→List Int)(l:List α):∀ m {a},a∈zly f l m→a∈l
 | 0,_,h=>by simp [zly] at h
 | m+1,a,h=>by
  rw [zly] at h;rcases List.mem_append.1 h with h | h
  ·exact zl0 f l m h
  ·split at h
   ·exact List.mem_of_mem_drop (List.mem_of_mem_take h)
   ·simp at h
theorem zl1 {w:World}{B E g n cap k:Nat}{xs:List Value}(h:w.ownsRow B E 1 (.slice (some ⟨g,0,none⟩) n cap) n xs)(hk:k≤n):w.ownsRow B E 1 (.slice (some ⟨g,0,none⟩) k cap) k (xs.take k):=by
 have hxl:xs.length=n:=by simpa using h.1
 rcases h.2 with ⟨e0,_⟩ | ⟨g',cap',cur,e0,hb,hg,hn,hm,hs,ht⟩
 ·cases e0
 ·injection e0 with e1 _ e3;injection e1 with e1;injection e1 with e1;subst e1;subst e3;refine ⟨by simp;omega,.inr ⟨g,cap,cur,rfl,hb,hg,by omega,hm,hs,?_⟩⟩;rw [← ht,List.take_take];congr 1;omega
theorem zl2 {B E g n cap:Nat}:∀ (us:List Value)(o:Nat){w:World}{xs:List Value},w.ownsRow B E 1 (.slice (some ⟨g,0,none⟩) n cap) n xs→o+us.length≤n→(w.setCells g o us).ownsRow B E 1 (.slice (some ⟨g,0,none⟩) n cap) n (xs.take o++us++xs.drop (o+us.length))
 | [],o,w,xs,h,_=>by
  simp only [List.append_nil,List.length_nil,Nat.add_zero,List.take_append_drop];exact h
 | u::us,o,w,xs,h,hl=>by
  have hxl:xs.length=n:=by simpa using h.1
  simp only [List.length_cons] at hl;have h1:=(World.ownsRow.stored h o u).1;have h2:=zl2 us (o+1) h1 (by omega);have e1:(xs.set o u).take (o+1)=xs.take o++[u]:=by
   rw [List.take_add_one,List.take_set,List.getElem?_set_self (by omega),List.set_eq_of_length_le (by rw [List.length_take];exact Nat.min_le_left _ _)];rfl
  have e2:(xs.set o u).drop (o+1+us.length)=xs.drop (o+(us.length+1)):=by
   rw [List.drop_set_of_lt (by omega)];congr 1;omega
  rw [e1,e2] at h2;show ((w.setCell ⟨g,o,none⟩ u).setCells g (o+1) us).ownsRow _ _ _ _ _ _;rw [show xs.take o++u::us++xs.drop (o+(u::us).length)=xs.take o++[u]++us++xs.drop (o+(us.length+1)) by simp];exact h2
theorem zl3 {rs:List Rw}{m:Nat}{r:Rw}(h:rs[m]?=some r):zly Rw.x rs (m+1)=zly Rw.x rs m++(if zlx (rs.map Rw.x) m then [r] else []):=by
 have hm:=(List.getElem?_eq_some_iff.1 h).1;rw [zly,List.drop_eq_getElem_cons hm];have e:=(List.getElem?_eq_some_iff.1 h).2;simp [e]
theorem zl4 {rs:List Rw}{m:Nat}{r s:Rw}(h1:rs[m+1]?=some r)(h0:rs[m]?=some s):zlx (rs.map Rw.x) (m+1)=!decide (r.x=s.x):=by
 unfold zlx;rw [Nat.add_sub_cancel,List.getD_eq_getElem?_getD,List.getD_eq_getElem?_getD,List.getElem?_map,List.getElem?_map,h1,h0];simp
theorem zl5 {rs C:List Rw}{m:Nat}{r:Rw}(h:rs[m]?=some r)(hC:C.length≤m):(rwc (C++rs.drop C.length))[m]?=some r.u:=by
 unfold rwc;rw [List.getElem?_map,List.getElem?_append_right hC,List.getElem?_drop,show C.length+(m - C.length)=m by omega,h];rfl
theorem zl6 {rs C:List Rw}{r:Rw}(hC:C.length<rs.length):(rwc (C++rs.drop C.length)).set C.length r.u=rwc ((C++[r])++rs.drop (C++[r]).length):=by
 unfold rwc;rw [List.drop_eq_getElem_cons hC,List.map_append,List.set_append_right _ _ (by simp),List.length_map,Nat.sub_self,List.map_cons,List.set_cons_zero];simp
def zl7 (W:World)(B g cap k:Nat)(rs:List Rw)(v5 v7:Value)(wr:World):Prop :=
 ∃ j c:Nat,v5=.int .i64 c∧v7=.int .i64 ((j:Int)+1)∧k+2+j≤rs.length∧(zly Rw.x rs (k+2+j)).length=c∧c≤k+1+j∧wr.ownsRow B 33 1 (.slice (some ⟨g,0,none⟩) rs.length cap) rs.length (rwc (zly Rw.x rs (k+2+j)++rs.drop c))∧W.grownBy wr (some g)
theorem zl8 {W wr:World}{B g cap k j c:Nat}{rs:List Rw}{r:Rw}(hr:rs[k+2+j]?=some r)(hk:zlx (rs.map Rw.x) (k+2+j)=false)(hC:(zly Rw.x rs (k+2+j)).length=c)(hc:c≤k+1+j)
  (ho:wr.ownsRow B 33 1 (.slice (some ⟨g,0,none⟩) rs.length cap) rs.length (rwc (zly Rw.x rs (k+2+j)++rs.drop c))) (hg:W.grownBy wr (some g)) (n:Nat):zl7 W B g cap k rs (.int .i64 c) (.int .i64 ((j:Int)+1+1)) (wr.drewN n):=by
 have e:zly Rw.x rs (k+2+(j+1))=zly Rw.x rs (k+2+j):=by
  rw [show k+2+(j+1)=k+2+j+1 by omega,zl3 hr,hk];simp
 have hl:=(List.getElem?_eq_some_iff.1 hr).1;refine ⟨j+1,c,rfl,by simp,by omega,by rw [e];exact hC,by omega,?_,zcA hg n⟩;rw [e];exact ((Ext.refl wr).drewN n).own ho
theorem zl9 {W wr:World}{B g cap k j c:Nat}{rs:List Rw}{r:Rw}(hr:rs[k+2+j]?=some r)(hk:zlx (rs.map Rw.x) (k+2+j)=true)(hC:(zly Rw.x rs (k+2+j)).length=c)(hc:c≤k+1+j)
  (ho:wr.ownsRow B 33 1 (.slice (some ⟨g,0,none⟩) rs.length cap) rs.length (rwc (zly Rw.x rs (k+2+j)++rs.drop c))) (hg:W.grownBy wr (some g)) (n:Nat):zl7 W B g cap k rs (.int .i64 ((c:Int)+1)) (.int .i64 ((j:Int)+1+1)) ((wr.drewN n).setCell ⟨g,c,none⟩ r.u):=by
 have e:zly Rw.x rs (k+2+(j+1))=zly Rw.x rs (k+2+j)++[r]:=by
  rw [show k+2+(j+1)=k+2+j+1 by omega,zl3 hr,hk];simp
 have hl:=(List.getElem?_eq_some_iff.1 hr).1;have ho2:=(World.ownsRow.stored (((Ext.refl wr).drewN n).own ho) c r.u).1;refine ⟨j+1,c+1,by simp,by simp,by omega,by rw [e,List.length_append,hC];rfl,by omega,?_,zcB (zcA hg n) rfl _⟩;rw [e];subst hC;rw [zl6 (by omega)] at ho2;rw [List.length_append] at ho2;exact ho2
theorem zlA {W wr:World}{b B g n cap:Nat}{rs ss:List Rw}{xs:List Value}(hg:W.grownBy wr (some g))(hs:W.ownsRow B 33 1 (.slice (some ⟨g,0,none⟩) n cap) n xs)(hr:∀ r∈rs,zc2 W b r.u r.x∧r.x.length≤1000000)(hm:∀ r,r∈ss→r∈rs):∀ r∈ss,zc2 wr b r.u r.x∧r.x.length≤1000000:=fun r h =>
 ⟨World.ownsRow.kept (hr r (hm r h)).1 hg (zc5 (hr r (hm r h)).1 hs (by decide)),(hr r (hm r h)).2⟩
theorem zlB {W:World}{b B:Nat}{a:Option Addr}{cap:Nat}{rs:List Rw}(hs:RwM W b B (.slice a rs.length cap) rs)(hl:rs.length≤1000000) :
  Calls Tryz.prog 69 #[.slice a rs.length cap,.func (.func 16) #[] #[]] W fun e w'=>∃ v,e=.returned v∧RwM w' b B v (zly Rw.x rs rs.length)∧∀ w0:World,Ext w0 W→w0.heap.size=B→Ext w0 w':=by
 by_cases h2:rs.length<2
 ·have hall:zly Rw.x rs rs.length=rs:=by
   rw [zlz Rw.x rs rs.length (Nat.le_refl _),List.take_length];intro j hj;have:j=0:=(by omega);subst this;rfl
  rw [hall];have Hs:=hid hs;clear hs hall;go_enter Tryz.func69,Tryz.ntmps69
  go_wp2
  go_ret
  exact ⟨_,rfl,Hs.out,fun w0 h _=>h⟩
 ·obtain ⟨g,cap',e0,hcells⟩:=zc6 hs.1 (by omega);injection e0 with e1 _ e3;subst e1;subst e3;obtain ⟨n,hn⟩:∃ n,n=rs.length:=⟨_,rfl⟩;have hcap:rs.length≤cap:=(zls hs.1).1;have hgB:B≤g:=by
   rcases hs.1.2 with ⟨e0,_⟩ | ⟨g',cap',cur,e0,hb,_⟩
   ·cases e0
   ·injection e0 with e1 _ _;injection e1 with e1;injection e1 with e1;omega
  have hcell:∀ j,j<rs.length→∃ r,r∈rs∧rs[j]?=some r∧W.cell? ⟨g,j,none⟩=some r.u:=fun j hj=>by
   obtain ⟨r,hr⟩:∃ r,rs[j]?=some r:=⟨_,List.getElem?_eq_getElem hj⟩;exact ⟨r,List.mem_of_getElem? hr,hr,hcells j r.u (by simp [rwc,hr])⟩
  have Hs:=hid hs;have Hcell:=hid hcell;clear hs hcell hcells hn;go_enter Tryz.func69,Tryz.ntmps69
  go_wp2
  go_loopw [5] (fun i wr=>∃ k:Nat,i=.int .i64 ((k:Int)+1)∧k+1≤rs.length∧Qu W wr∧∀ j,j<k+1→zlx (rs.map Rw.x) j=true) (fun i _=>rs.length - (zal i).toNat)
  case atStart=>exact ⟨0,rfl,by omega,Qu.refl W,fun j hj=>by
   obtain rfl:j=0:=by omega
   rfl⟩
  case round =>
   obtain ⟨k,rfl,hk,hqu,hkeep⟩:=hrel;have Hqu:=hid hqu;have Hkeep:=hid hkeep;clear hqu hkeep;by_cases hlt:k+1<rs.length
   ·obtain ⟨r1,hm1,hr1,hc1⟩:=Hcell.out (k+1) hlt;obtain ⟨r0,hm0,hr0,hc0⟩:=Hcell.out k (by omega);have hd1:=Hqu.out.ext.cell hc1;have hd0:=Hqu.out.ext.cell hc0;obtain ⟨ho1,hl1⟩:=Hs.out.2 r1 hm1;obtain ⟨ho0,hl0⟩:=Hs.out.2 r0 hm0;have hkk:zlx (rs.map Rw.x) (k+1)=!decide (r1.x=r0.x):=by
     unfold zlx;rw [Nat.add_sub_cancel,List.getD_eq_getElem?_getD,List.getD_eq_getElem?_getD,List.getElem?_map,List.getElem?_map,hr1,hr0];simp
    have heq:=fun n=>zlv r1.u r0.u r1.x r0.x (wr.drewN n) ((Hqu.out.drewN n).ext.ownI ho1).sl ((Hqu.out.drewN n).ext.ownI ho0).sl hl1 hl0;generalize decide (r1.x=r0.x)=eqb at *;have hw1:IntKind.i64.wrap ((k:Int)+1 - 1)=(k:Int):=(by rw [IntWalk.i64_in _ (by omega)];omega);have hk1:(0:Int)≤(k:Int)+1:=(by omega);have hk2:(k:Int)+1<(rs.length:Int):=(by omega);have hk3:(0:Int)≤(k:Int):=(by omega);have hk4:(k:Int)<(rs.length:Int):=(by omega);have hk5:((k:Int)+1).toNat=k+1:=(by omega);have Heq:=hid heq;have Hkk:=hid hkk;clear heq hkk hc1 hc0 ho1 ho0 hm1 hm0 hr1 hr0;obtain ⟨x1,u1,hu1⟩:=r1;obtain ⟨x0,u0,hu0⟩:=r0;dsimp only at hd1 hd0
    cases eqb with
    | false =>
     go_wp2
     go_quiet ((go_at_call 16;exact Calls.quiet_of (Heq.out _)))
     clear hw1 hk5
     go_wp2
     go_roundw
     case rel=>exact ⟨k+1,by go_num,by omega,Hqu.out.drewN _,fun j hj=>by
      rcases Nat.lt_or_ge j (k+1) with h | h
      ·exact Hkeep.out j h
      ·obtain rfl:j=k+1:=by omega
       exact Hkk.out⟩
     case measure=>simp [zal];omega
    | true =>
     go_wp2
     go_quiet ((go_at_call 16;exact Calls.quiet_of (Heq.out _)))
     clear hw1 hk5
     obtain ⟨L2,hL2⟩:∃ L2,rs.length - (k+1)=L2:=⟨_,rfl⟩
     have hL3:k+1+L2=rs.length:=by omega
     have hcc:k+1<cap:=by omega
     have hcap2:cap≤maxLen:=by
      rcases Hs.out.1.2 with ⟨e0,_⟩ | ⟨g',cap',cur,e0,_,_,_,hm,_⟩
      ·cases e0
      ·injection e0 with _ _ e3;omega
     unfold maxLen at hcap2
     have hown0:wr.ownsRow B 33 1 (.slice (some ⟨g,0,none⟩) rs.length cap) rs.length (rwc (zly Rw.x rs (k+2)++rs.drop (zly Rw.x rs (k+2)).length)):=by
      obtain ⟨r,hr⟩:∃ r,rs[k+1]?=some r:=⟨_,List.getElem?_eq_getElem hlt⟩;have e:zly Rw.x rs (k+2)=rs.take (k+1):=by
       rw [zl3 hr,Hkk.out,zlz Rw.x rs (k+1) (by omega) Hkeep.out];simp
      rw [e,List.length_take,Nat.min_eq_left (by omega),List.take_append_drop];exact Hqu.out.ext.own Hs.out.1
     have hcl0:(zly Rw.x rs (k+2)).length=k+1:=by
      obtain ⟨r,hr⟩:∃ r,rs[k+1]?=some r:=⟨_,List.getElem?_eq_getElem hlt⟩;rw [zl3 hr,Hkk.out,zlz Rw.x rs (k+1) (by omega) Hkeep.out];simp;omega
     rw [hcl0] at hown0
     have hgr0:W.grownBy wr (some g):=by
      obtain ⟨q,rfl⟩:=Hqu.out;exact zcA (zc9 W _) q
     have Hown0:=hid hown0;have Hcl0:=hid hcl0;have Hgr0:=hid hgr0;have HL2:=hid hL2;have HL3:=hid hL3
     clear hown0 hcl0 hgr0 hL3
     go_wp2_with fail
     clear hL2
     go_loopw [5,7] (fun v5 v7 wr=>zl7 W B g cap k rs v5 v7 wr) (fun _ v7 _=>rs.length - (zal v7).toNat)
     case atStart=>
      refine ⟨0,k+1,by simp,rfl,by omega,Hcl0.out,by omega,Hown0.out,zcA Hgr0.out _⟩
     case round =>
      obtain ⟨j,c,rfl,rfl,hj,hC,hc,ho,hg⟩:=hrel
      have hL3:=HL3.out
      by_cases hlt2:k+2+j<rs.length
      ·obtain ⟨r,hr⟩:∃ r,rs[k+1+j+1]?=some r:=⟨_,List.getElem?_eq_getElem (by omega)⟩
       obtain ⟨s,hs0⟩:∃ r,rs[k+1+j]?=some r:=⟨_,List.getElem?_eq_getElem (by omega)⟩
       have hkk2:=zl4 hr hs0
       have hr2:rs[k+2+j]?=some r:=by rw [← hr];congr 1;omega
       have hkk3:zlx (rs.map Rw.x) (k+2+j)=!decide (r.x=s.x):=by rw [← hkk2];congr 1;omega
       have hmid:=fun {m:Nat}{r:Rw}(h:rs[m]?=some r)(hm:c≤m)=>zlq ho (by have:=zl5 (C:=zly Rw.x rs (k+2+j)) h (by rw [hC];exact hm);rw [hC] at this;exact this)
       have hcm:wr.cell? ⟨g,k+1+(j+1),none⟩=some r.u:=hmid (show rs[k+1+(j+1)]?=some r from hr) (by omega)
       have hcp:wr.cell? ⟨g,k+1+j,none⟩=some s.u:=hmid hs0 (by omega)
       obtain ⟨t,ht⟩:∃ r,rs[c]?=some r:=⟨_,List.getElem?_eq_getElem (by omega)⟩
       have hck:wr.cell? ⟨g,c,none⟩=some t.u:=hmid ht (Nat.le_refl _)
       have hfk:wr.frozen? ⟨g,c,none⟩=false:=World.ownsRow.frozenAt ho c
       have hkr:=zlA (ss:=rs) hg Hs.out.1 Hs.out.2 (fun r h=>h)
       obtain ⟨ho1,hl1⟩:=hkr r (List.mem_of_getElem? hr)
       obtain ⟨ho0,hl0⟩:=hkr s (List.mem_of_getElem? hs0)
       have heq:=fun n=>zlv r.u s.u r.x s.x (wr.drewN n) (((Ext.refl wr).drewN n).ownI ho1).sl (((Ext.refl wr).drewN n).ownI ho0).sl hl1 hl0
       have hskip:=fun (e:decide (r.x=s.x)=true) n=>zl8 hr2 (by rw [hkk3,e];rfl) hC hc ho hg n
       have hkeep2:=fun (e:decide (r.x=s.x)=false) n=>zl9 hr2 (by rw [hkk3,e];rfl) hC hc ho hg n
       generalize decide (r.x=s.x)=eqb at *
       have hw1:IntKind.i64.wrap ((j:Int)+1 - 1)=(j:Int):=by rw [IntWalk.i64_in _ (by omega)];omega
       have hj1:(0:Int)≤(j:Int)+1:=by omega
       have hj2:(j:Int)+1<(L2:Int):=by omega
       have hj3:(0:Int)≤(j:Int):=by omega
       have hj4:(j:Int)<(L2:Int):=by omega
       have hj5:((j:Int)+1).toNat=j+1:=by omega
       have hc1:(c:Int)<(rs.length:Int):=by omega
       have hc0:(0:Int)≤(c:Int):=by omega
       have Heq:=hid heq;have Hskip:=hid hskip;have Hkeep2:=hid hkeep2;have Ho1:=hid ho1
       clear heq hskip hkeep2 hkk2 hkk3 hr2 hmid hkr ho1 ho0 hr hs0 ht ho hg hC hl1 hl0 hL3
       obtain ⟨x1,u1,hu1⟩:=r
       obtain ⟨x0,u0,hu0⟩:=s
       dsimp only at hcm hcp
       generalize t.u=tu at *
       have ho1:=Ho1.out
       dsimp only at ho1
       obtain ⟨a1,c1,rfl⟩:=zc3 ho1
       clear ho1 Ho1
       cases eqb with
       | false =>
        go_wp2
        go_quiet ((go_at_call 16;exact Calls.quiet_of (Heq.out _)))
        clear hw1 hj5
        go_wp2
        go_roundw
        case rel=>exact Hkeep2.out (by first | rfl | trivial) _
        case measure=>simp [zal];omega
       | true =>
        go_wp2
        go_quiet ((go_at_call 16;exact Calls.quiet_of (Heq.out _)))
        clear hw1 hj5
        go_wp2
        go_roundw
        case rel=>exact Hskip.out (by first | rfl | trivial) _
        case measure=>simp [zal];omega
      ·have hmn:k+2+j=rs.length:=by omega
       rw [hmn] at hC ho
       have hjn:¬ (j:Int)+1<(L2:Int):=by omega
       have hcn:c<rs.length:=by omega
       have hcap3:c<cap:=by omega
       have hnil:∀ w,(zeroValue 33).run Tryz.prog w=.ok (.slice none 0 0) w:=fun w=>by kernel_rfl
       have hcl:∀ ty,(Builtin.clear_ #[29] ty #[.slice (some ⟨g,c,none⟩) (rs.length - c) (cap - c)]).run Tryz.prog wr=.ok (.tuple #[]) (wr.setCells g c (List.replicate (rs.length - c) (.slice none 0 0))):=fun ty =>
        Lib.run_clear_slice wr _ _ ty _ Tryz.underlying29 hnil rfl rfl g c _ _ (by omega) (fun t ht=>by
         obtain ⟨r,hr⟩:∃ r,rs[c+t]?=some r:=⟨_,List.getElem?_eq_getElem (by omega)⟩;have:=zlq ho (by have:=zl5 (C:=zly Rw.x rs rs.length) hr (by omega);rw [hC] at this;exact this);rw [this];rfl) (fun t _=>World.ownsRow.frozenAt ho (c+t))
       have hE9:W.grownBy (wr.setCells g c (List.replicate (rs.length - c) (.slice none 0 0))) (some g):=zlw hg _ _
       have ho9:=zl1 (zl2 (List.replicate (rs.length - c) (.slice none 0 0)) c ho (by simp;omega)) (Nat.le_of_lt hcn)
       have hrow9:(wr.setCells g c (List.replicate (rs.length - c) (.slice none 0 0))).ownsRow B 33 1 (.slice (some ⟨g,0,none⟩) c cap) c (rwc (zly Rw.x rs rs.length)):=by
        have e:((rwc (zly Rw.x rs rs.length++rs.drop c)).take c++List.replicate (rs.length - c) (Value.slice none 0 0)++(rwc (zly Rw.x rs rs.length++rs.drop c)).drop (c+(List.replicate (rs.length - c) (Value.slice none 0 0)).length)).take c=rwc (zly Rw.x rs rs.length):=by
         have hl:(rwc (zly Rw.x rs rs.length)).length=c:=(by rw [zlr,hC]);rw [show rwc (zly Rw.x rs rs.length++rs.drop c)=rwc (zly Rw.x rs rs.length)++rwc (rs.drop c) by simp [rwc]];rw [List.append_assoc,List.take_left' (by rw [List.length_take,List.length_append];omega),List.take_left' hl]
        rw [e] at ho9;exact ho9
       have hr9:=zlA (ss:=zly Rw.x rs rs.length) hE9 Hs.out.1 Hs.out.2 (fun r h=>zl0 _ _ _ h)
       have HC:=hid hC;have Hrow9:=hid hrow9;have Hr9:=hid hr9;have HE9:=hid hE9
       clear hC hrow9 hr9 hE9 ho9 ho hg hnil hmn hL3
       go_wp2
       go_ret
       exact ⟨_,rfl,⟨by rw [HC.out];exact Hrow9.out,Hr9.out⟩,fun w0 h hB=>h.grown HE9.out fun k hk=>by cases hk;omega⟩
   ·obtain hkn:k+1=rs.length:=by omega
    have hall:zly Rw.x rs rs.length=rs:=by
     rw [zlz Rw.x rs rs.length (Nat.le_refl _) (by rw [← hkn];exact Hkeep.out),List.take_length]
    have Hall:=hid hall;have Hkn:=hid hkn;clear hall hkn;have hk1:¬ (k:Int)+1<(rs.length:Int):=(by omega);go_wp2
    go_ret
    exact ⟨_,rfl,by rw [Hall.out];exact Hqu.out.ext.rwM Hs.out,fun w0 h _=>h.trans Hqu.out.ext⟩
end
section
open Go.RowKit Go.Lib
attribute [local go_sem] Oper.semAt_some
def zlC (x y:List Int):Int:=if zgI x ≠ 0 then zgI x else if zgI y ≠ 0 then zgI y else if x.length ≠ y.length then 5 else 0
theorem zlD (v u:Value)(x y:List Int)(w:World)(hv:Sl w v (zap x))(hu:Sl w u (zap y))(hlx:x.length≤1000000)(hly:y.length≤1000000) :
  Calls Tryz.prog 58 #[v,u] w fun e w'=>e=.returned (.int .i64 (zlC x y))∧Ext w w':=by
 have h1:=zgK v x w hv hlx;have H1:=hid h1;clear h1;have h2:∀ w',Ext w w'→Calls Tryz.prog 85 #[u] w' fun e w''=>e=.returned (.int .i64 (zgI y))∧Ext w' w'':=fun w' hx=>zgK u y w' (hx.sl hu) hly;have H2:=hid h2;clear h2;obtain ⟨a,cap,rfl,_,_,_⟩:=hv.parts;obtain ⟨b,cap',rfl,_,_,_⟩:=hu.parts;rw [zar] at *;rw [zar] at *;clear hv hu;unfold zlC;generalize zgI x=r at *;generalize zgI y=s at *;by_cases hr:r=0
 ·subst hr;rw [if_neg (by simp)];by_cases hs:s=0
  ·subst hs;rw [if_neg (by simp)];by_cases hl:x.length=y.length
   ·rw [if_neg (by simpa using hl)];have ht:((x.length:Int) != (y.length:Int))=false:=(by rw [bne_eq_false_iff_eq];omega);clear hl;go_enter Tryz.func58,Tryz.ntmps58
    go_wp2_with fail
    refine H1.out.mono ?_;rintro e w1 ⟨rfl,hx1⟩;have Hx1:=hid hx1;clear hx1;go_wp2_with fail
    refine (H2.out w1 Hx1.out).mono ?_;rintro e w2 ⟨rfl,hx2⟩;have Hx2:=hid hx2;clear hx2;go_wp2
    go_ret
    exact ⟨rfl,Hx1.out.trans Hx2.out⟩
   ·rw [if_pos hl];have ht:((x.length:Int) != (y.length:Int))=true:=(by rw [bne_iff_ne];omega);clear hl;go_enter Tryz.func58,Tryz.ntmps58
    go_wp2_with fail
    refine H1.out.mono ?_;rintro e w1 ⟨rfl,hx1⟩;have Hx1:=hid hx1;clear hx1;go_wp2_with fail
    refine (H2.out w1 Hx1.out).mono ?_;rintro e w2 ⟨rfl,hx2⟩;have Hx2:=hid hx2;clear hx2;go_wp2
    go_ret
    exact ⟨rfl,Hx1.out.trans Hx2.out⟩
  ·rw [if_pos hs];have ht:(s != 0)=true:=(by rw [bne_iff_ne];exact hs);clear hs;go_enter Tryz.func58,Tryz.ntmps58
   go_wp2_with fail
   refine H1.out.mono ?_;rintro e w1 ⟨rfl,hx1⟩;have Hx1:=hid hx1;clear hx1;go_wp2_with fail
   refine (H2.out w1 Hx1.out).mono ?_;rintro e w2 ⟨rfl,hx2⟩;have Hx2:=hid hx2;clear hx2;go_wp2
   go_ret
   exact ⟨rfl,Hx1.out.trans Hx2.out⟩
 ·rw [if_pos hr];have ht:(r != 0)=true:=by rw [bne_iff_ne];exact hr
  clear hr;go_enter Tryz.func58,Tryz.ntmps58
  go_wp2_with fail
  refine H1.out.mono ?_;rintro e w1 ⟨rfl,hx1⟩;have Hx1:=hid hx1;clear hx1;go_wp2
  go_ret
  exact ⟨rfl,Hx1.out⟩
theorem zlE (v:Value)(x:List Int)(w:World)(hv:Sl w v (zap x))(hl:x.length≤1000000)(h0:zgI x=0) :
  Calls Tryz.prog 60 #[v] w fun e w'=>e=.returned (.tuple #[v,.int .i64 0])∧Ext w w':=by
 have h1:=zgK v x w hv hl;rw [h0] at h1;have H1:=hid h1;clear h1 h0;go_enter Tryz.func60,Tryz.ntmps60
 go_wp2_with fail
 refine H1.out.mono ?_;rintro e w1 ⟨rfl,hx1⟩;have Hx1:=hid hx1;clear hx1;go_wp2
 go_ret2
 exact ⟨rfl,Hx1.out⟩
theorem zlF (F:Fence)(n:Nat)(h8:F.fn 93)(hro:F.round=none)(hn:1≤n)(l Ba Bb n₀:Nat)(aa ab:Option Addr)(ca cb:Nat)(x y:List Int)(hlen:x.length=y.length)(hreach:x.length≤1000000)(J Jx:List Nat→World→Prop)
  (hY:∀ pre p W,J pre W→pre.length<x.length→YieldAt F (n - 1) Tryz.prog l #[.int .i64 (zas x p),.int .i64 (zas y p)] W fun e W' =>
   (e=.returned (.bool true)∧J (pre++[p]) W'∧zgb n₀ Bb W W')∨(e=.returned (.bool false)∧Jx (pre++[p]) W'))
  (W:World) (hBa:W.cell? ⟨Ba,0,none⟩=some (.slice aa x.length ca)) (hBb:W.cell? ⟨Bb,0,none⟩=some (.slice ab y.length cb))
  (hx:∀ i,i<x.length→∃ b off,aa=some ⟨b,off,none⟩∧b<n₀∧W.cell? ⟨b,off+i,none⟩=some (.int .i64 (zas x i)))
  (hy:∀ i,i<y.length→∃ b off,ab=some ⟨b,off,none⟩∧b<n₀∧W.cell? ⟨b,off+i,none⟩=some (.int .i64 (zas y i))) (h0:J [] W) :
  CallsIn F n Tryz.prog 93 #[.func (.yield l) #[] #[],.pointer (some ⟨Ba,0,none⟩),.pointer (some ⟨Bb,0,none⟩)] W fun e W'=>(∃ v,e=.returned v) ∧
   ((∃ ys,ys=List.range x.length∧J ys W')∨(∃ pre,True∧Jx pre W')):=by
 have Hx:=hid hx;clear hx;have Hy:=hid hy;clear hy;have Hlen:=hid hlen;clear hlen;refine callsIn_of_wp Tryz.func93 rfl h8 ?_ hro;simp only [Tryz.ntmps93,List.size_toArray,List.length_cons,List.length_nil,Nat.reduceAdd,Nat.reduceSub,Array.replicate_succ,Array.replicate_zero,List.push_toArray,List.append_toArray,List.nil_append,List.cons_append];gi_wp2;gi_loopw [8] (fun i wr=>∃ k:Nat,k≤x.length∧i=.int .i64 k∧J (List.range k) wr∧zgb n₀ Bb W wr)
  (fun i _=>x.length - (zal i).toNat)
 case atStart=>exact ⟨0,Nat.zero_le _,rfl,h0,Below.refl _ _,rfl⟩
 case round =>
  obtain ⟨k,hk,rfl,hJs,hnx⟩:=hrel;by_cases hlt:k<x.length
  ·obtain ⟨bx,ox,rfl,hbx,hcx0⟩:=Hx.out k hlt;have hky:k<y.length:=(by rw [← Hlen.out];exact hlt);obtain ⟨by_,oy,rfl,hby,hcy0⟩:=Hy.out k hky;have hcx:wr.cell? ⟨bx,ox+k,none⟩=some (.int .i64 (zas x k)):=(hnx.1.cell (p:=⟨bx,ox+k,none⟩) hbx).trans hcx0;have hBbr:wr.cell? ⟨Bb,0,none⟩=some (.slice (some ⟨by_,oy,none⟩) y.length cb):=(World.cell?_of_block (a:=⟨Bb,0,none⟩) hnx.2).trans hBb;have hcy:wr.cell? ⟨by_,oy+k,none⟩=some (.int .i64 (zas y k)):=(hnx.1.cell (p:=⟨by_,oy+k,none⟩) hby).trans hcy0;have hup:List.range (k+1)=List.range k++[k]:=List.range_succ;have Hup:=hid hup;clear hup hcx0 hcy0;have Hnx:=hid hnx;clear hnx;obtain ⟨fn,tmps,assign,body,hy1,hR⟩:=hY _ k wr hJs (by rw [List.length_range];exact hlt);have HR:=hid hR;clear hR;clear hY;gi_wp2;refine HR.out.mono ?_;rintro e W3 (⟨rfl,hJ3,hk3⟩ | ⟨rfl,hJx3⟩)
   ·gi_wp2;go_roundw
    case rel=>exact ⟨k+1,by omega,by simp,by rw [Hup.out];exact hJ3,Hnx.out.1.trans hk3.1,hk3.2.trans Hnx.out.2⟩
    case measure=>simp [zal];omega
   ·gi_wp2;refine bodyPost_ret (results_none rfl _ _ _) rfl ?_;exact ⟨⟨_,rfl⟩,.inr ⟨_,trivial,hJx3⟩⟩
  ·obtain rfl:k=x.length:=by omega
   clear hY;gi_wp2;go_end0
   exact ⟨⟨_,rfl⟩,.inl ⟨_,rfl,hJs⟩⟩
theorem zlG (F:Fence)(n:Nat)(h5:F.fn 59)(hro:F.round=none)(aa ab:Option Addr)(la ca lb cb:Nat)(w:World) :
  CallsIn F n Tryz.prog 59 #[.slice aa la ca,.slice ab lb cb] w fun e w'=>e=.returned (.func (.func 93) #[] #[.pointer (some ⟨w.heap.size,0,none⟩),.pointer (some ⟨w.heap.size+1,0,none⟩)]) ∧
   w'=(w.alloc (.cells #[.slice aa la ca] 33)).alloc (.cells #[.slice ab lb cb] 33):=by
 refine callsIn_of_wp Tryz.func59 rfl h5 ?_ hro;simp only [Tryz.ntmps59,List.size_toArray,List.length_cons,List.length_nil,Nat.reduceAdd,Nat.reduceSub,Array.replicate_succ,Array.replicate_zero,List.push_toArray,List.append_toArray,List.nil_append,List.cons_append];gi_wp2;go_ret
 exact ⟨rfl,rfl⟩
theorem zlH (F:Fence)(n:Nat)(h8:F.fn 93)(hro:F.round=none)(hn:1≤n)(Ba Bb n₀:Nat)(aa ab:Option Addr)(ca cb:Nat)(x y:List Int)(hlen:x.length=y.length)(hreach:x.length≤1000000)(w:World)
  (hBa:w.cell? ⟨Ba,0,none⟩=some (.slice aa x.length ca)) (hBb:w.cell? ⟨Bb,0,none⟩=some (.slice ab y.length cb))
  (hx:∀ i,i<x.length→∃ b off,aa=some ⟨b,off,none⟩∧b<n₀∧w.cell? ⟨b,off+i,none⟩=some (.int .i64 (zas x i)))
  (hy:∀ i,i<y.length→∃ b off,ab=some ⟨b,off,none⟩∧b<n₀∧w.cell? ⟨b,off+i,none⟩=some (.int .i64 (zas y i))) :
  SeqStopsK F n Tryz.prog 93 #[.pointer (some ⟨Ba,0,none⟩),.pointer (some ⟨Bb,0,none⟩)] (fun p:Nat=>#[Value.int .i64 (zas x p),Value.int .i64 (zas y p)]) (zgb n₀ Bb) (fun ys=>ys=List.range x.length) (fun _=>True) x.length w:=fun l J Jx W hW _ _ hY h0=>by
 have hext:Ext w W:=hW;exact zlF F n h8 hro hn l Ba Bb n₀ aa ab ca cb x y hlen hreach J Jx hY W (hext.cell hBa) (hext.cell hBb)
  (fun i hi=>by obtain ⟨b,off,e,hb,hc⟩:=hx i hi;exact ⟨b,off,e,hb,hext.cell hc⟩)
  (fun i hi=>by obtain ⟨b,off,e,hb,hc⟩:=hy i hi;exact ⟨b,off,e,hb,hext.cell hc⟩) h0
def zlI (x y:List Int):List Int:=(List.range x.length).map fun p=>zas x p - zas y p
theorem zlJ (vx vy:Value)(x y:List Int)(w:World)(hx:Sl w vx (zap x))(hy:Sl w vy (zap y))(hlen:x.length=y.length)(hl:x.length≤64)(hb:zlC x y=0)(hd:zgI (zlI x y)=0)
  (hin:∀ i,i<x.length→-1000000000000≤zas x i - zas y i∧zas x i - zas y i≤1000000000000) :
  Calls Tryz.prog 24 #[vx,vy] w fun e w'=>∃ v,e=.returned (.tuple #[v,.int .i64 0])∧zc2 w' w.heap.size v (zlI x y)∧Ext w w':=by
 obtain ⟨i0,hi,hz0,hz1,hz2⟩:=info_parts zc1;have hboth:=zlD vx vy x y w hx hy (by omega) (by omega);rw [hb] at hboth;have Hboth:=hid hboth;clear hboth hb;have Hd:=hid hd;clear hd;have hall:∀ i,-1000000000000≤zas x i - zas y i∧zas x i - zas y i≤1000000000000:=fun i=>by
  rcases Nat.lt_or_ge i x.length with h | h
  ·exact hin i h
  ·have e1:zas x i=0:=(by unfold zas;rw [List.getD_eq_getElem?_getD,List.getElem?_eq_none h];rfl);have e2:zas y i=0:=(by unfold zas;rw [List.getD_eq_getElem?_getD,List.getElem?_eq_none (by omega)];rfl);rw [e1,e2];omega
 have Hall:=hid hall;clear hall hin;have Hlen:=hid hlen;clear hlen;obtain ⟨aa,ca,rfl,_,_,hcx⟩:=hx.parts;obtain ⟨ab,cb,rfl,_,_,hcy⟩:=hy.parts;rw [zar] at *;rw [zar] at *;have Hcx:=hid hcx;clear hcx hx;have Hcy:=hid hcy;clear hcy hy;refine (callsIn_wide (n:=3)).1 ?_;refine callsIn_of_wp_marks Tryz.func24 rfl trivial ?_ rfl;simp only [Tryz.ntmps24,List.size_toArray,List.length_cons,List.length_nil,Nat.reduceAdd,Nat.reduceSub,Array.replicate_succ,Array.replicate_zero,List.push_toArray,List.append_toArray,List.nil_append,List.cons_append];gi_wp2_with fail;refine ⟨trivial,?_⟩;refine (callsIn_wide.2 Hboth.out).mono ?_;rintro e w1 ⟨rfl,hx1⟩;have hs1:=hx1.size;have Hx1:=hid hx1;clear hx1;gi_wp2_with (gi_at_make;refine wpListIn_make_own _ rfl _ _ 33 rfl w.heap.size 3 i0 (.int .i64 0) 1 Tryz.underlying33 hi hz0 hz1 .i64 .i64 x.length x.length rfl rfl rfl (by rw [hz2];omega) (by unfold maxLen;omega) hs1 ?_;intro w2 hown2 hgrow2);refine ⟨trivial,?_⟩;refine (zlG Fence.wide _ trivial rfl _ _ _ _ _ _ _).mono ?_;rintro e w' ⟨rfl,rfl⟩;have hs2:=hgrow2.size;have bO:=Boxed.new w2 33 (.slice (some ⟨w1.heap.size,0,none⟩) 0 x.length);have bA:=Boxed.new (w2.alloc (.cells #[.slice (some ⟨w1.heap.size,0,none⟩) 0 x.length] 33)) 33 (.slice aa x.length ca);have bB:=Boxed.new ((w2.alloc (.cells #[.slice (some ⟨w1.heap.size,0,none⟩) 0 x.length] 33)).alloc (.cells #[.slice aa x.length ca] 33)) 33 (.slice ab y.length cb);simp only [World.size_alloc] at bO bA bB;have hE2:Ext w w2:=Hx1.out.grown hgrow2 (fun k e=>by cases e);have hE5:=((hE2.alloc (.cells #[.slice (some ⟨w1.heap.size,0,none⟩) 0 x.length] 33)).alloc (.cells #[.slice aa x.length ca] 33)).alloc (.cells #[.slice ab y.length cb] 33);have hrow5:=((hown2.alloc (.cells #[.slice (some ⟨w1.heap.size,0,none⟩) 0 x.length] 33)).alloc (.cells #[.slice aa x.length ca] 33)).alloc (.cells #[.slice ab y.length cb] 33);have HE5:=hid hE5;clear hE5;gi_wp2_with fail;refine wpIn_rangeFunc_ownG (n:=3) rfl (by omega) (gf:=93) (lb:=#[.pointer (some ⟨w2.heap.size+1,0,none⟩),.pointer (some ⟨w2.heap.size+1+1,0,none⟩)]) rfl trivial (enters_of Tryz.func93 (by kernel_rfl) rfl)
  (zlH Fence.wide (3 - 1) trivial rfl (by omega) (w2.heap.size+1) (w2.heap.size+1+1) w.heap.size aa ab ca cb x y Hlen.out (by omega) _ (bA.alloc _).cell bB.cell
   (fun i hi=>by obtain ⟨b,off,e,hc⟩:=Hcx.out i _ (zau hi);exact ⟨b,off,e,World.block_lt_of_cell? _ _ hc,HE5.out.cell hc⟩)
   (fun i hi=>by obtain ⟨b,off,e,hc⟩:=Hcy.out i _ (zau hi);exact ⟨b,off,e,World.block_lt_of_cell? _ _ hc,HE5.out.cell hc⟩))
  (fun h k=>⟨h.1.trans k.1,k.2.trans h.2⟩) (fun W l o o' hl h hc hw=>⟨belowK_b HE5.out.size W l o o' hl h hc hw,World.putObj_heap_other (by simp [World.size_alloc] at hl;omega)⟩) (Below.refl _ _) (fun _=>rfl)
  (fun pre W=>(∃ v,Boxed W w2.heap.size 33 v∧W.ownsRow w.heap.size 3 1 v pre.length (zap (pre.map fun p=>zas x p - zas y p))∧True)∧Boxed W (w2.heap.size+1+1) 33 (.slice ab y.length cb)∧Below w.heap.size w W)
  (fun _ _ _=>False)
  (OwnFrom.and (Go.Own.from (holdsRow_own w.heap.size w2.heap.size 33 3 1 (fun pre:List Nat=>pre.length) (fun pre=>zap (pre.map fun p=>zas x p - zas y p)) (fun pre v=>True)) _) (OwnFrom.and (Go.Own.from zgj _) (ownFrom_below (Nat.le_refl _) HE5.out.size)))
  (fun _ _ _ _ _ hs _ _=>hs)
  ⟨⟨_,(bO.alloc _).alloc _,hrow5,trivial⟩,bB,HE5.out⟩
  (fun p=>{ tmps:=#[.slice aa x.length ca,.slice ab y.length cb,undef,undef,.slice none 0 0,.int .i64 0,.int .i64 0,.pointer (some ⟨w2.heap.size,0,none⟩),
     .int .i64 (zas x p),.int .i64 (zas y p),.slice aa x.length ca,.slice ab y.length cb,.int .i64 0,.int .i64 0,.bool false,undef,.slice aa x.length ca,.int .i64 x.length,
     .slice (some ⟨w1.heap.size,0,none⟩) 0 x.length,.slice aa x.length ca,.slice ab y.length cb,
     .func (.func 93) #[] #[.pointer (some ⟨w2.heap.size+1,0,none⟩),.pointer (some ⟨w2.heap.size+1+1,0,none⟩)],
     .int .i64 (zas x p),.int .i64 (zas y p),undef,undef,undef,undef,undef,undef,undef,undef,undef,undef],defers:=[] }) ?assign ?body ?done ?stop
 case assign =>
  intro l p W K hK;gi_wp2;exact hK
 case body =>
  rintro l pre p W ⟨⟨v,hv,hrow,_⟩,hvb,hB⟩ hlt;have hc:=hv.cell;have hpb:=Hall.out p;have hlt2:pre.length<64:=by omega
  clear hlt;gi_wp2_with (gi_at_builtin;refine wpListIn_append_own _ rfl _ _ 33 rfl w.heap.size 3 i0 (.int .i64 0) 1 8 Tryz.underlying33 hi hz0 hz1 hz2 rfl (by decide) _ _ _ rfl (hrow.alloc _) ⟨W.heap.size,0,none⟩ 1 1 [.int .i64 (zas x p - zas y p)] rfl rfl (cell_one_new _ _ _) (by simp [Value.oneCell']) (by unfold maxLen;omega) (by omega) (by have:=hB.size;simp;omega) ?_;intro v' w6 hown' hgrow _;obtain ⟨g',cap',rfl⟩:=ownsRow_succ hown';obtain ⟨hv1,hv2,hr2,hk2,hb2⟩:=hv.appended (by decide) hrow hB.size (by omega) hown' hgrow;have hc1:=hv1.cell;have hf1:=hv1.frozen);have hvb2:Boxed w6 (w2.heap.size+1+1) 33 (.slice ab y.length cb):=(hvb.alloc _).kept hgrow (hvb.not_row (by decide) hrow);have hvb3:Boxed (w6.setCell ⟨w2.heap.size,0,none⟩ (.slice (some ⟨g',0,none⟩) (pre.length+1) cap')) (w2.heap.size+1+1) 33 (.slice ab y.length cb):=(Below.heap_setCell w6 ⟨w2.heap.size,0,none⟩ _ (w2.heap.size+1+1) (by dsimp only;omega)).trans hvb2;exact ⟨hk2.from _,⟨hb2,hvb3.trans hvb.symm⟩,⟨_,hv2,by simpa [zap] using hr2,trivial⟩,hvb3,Below.trans hB hb2⟩
 case done =>
  rintro D ys W hD rfl ⟨⟨v,hv,hrow,_⟩,hvb,hB⟩ hK;have hc:=hv.cell;rw [List.length_range] at hrow;have hrow':zc2 W w.heap.size v (zlI x y):=by
   have e:(zlI x y).length=x.length:=(by unfold zlI;rw [List.length_map,List.length_range]);show W.ownsRow _ _ 1 v (zlI x y).length _;rw [e];exact hrow
  have hrc:=zlE v (zlI x y) W hrow'.sl (by unfold zlI;rw [List.length_map,List.length_range];omega) Hd.out;have Hrc:=hid hrc;clear hrc;gi_wp2_with fail;refine ⟨trivial,?_⟩;refine (callsIn_wide.2 Hrc.out).mono ?_;rintro e w9 ⟨rfl,hx9⟩;have hs9:=hx9.size;have hs5:=HE5.out.size;have hK9:=hx9.heap hK;have hE9:Ext w w9:=Ext.trans hB hx9;have hrow9:=hx9.ownI hrow';gi_wp2;refine ⟨by simp,.inl ⟨_,_,rfl,run_takeDeferred hK9,?_⟩⟩;refine ⟨_,results_tmp2 rfl _ _ _,v,rfl,?_,?_⟩
  ·exact ownsRow_putObj hrow9 _ hK9 rfl
  ·exact Below.trans hE9 (belowK_b (w:=w) (Nat.le_refl _) w9 D _ _ (by omega) hK9 rfl rfl)
 case stop =>
  rintro D c pre W _ _ h _;exact h.elim
end
end Go.Proofs.YtipkdebkdnbieaaGreatDoor
