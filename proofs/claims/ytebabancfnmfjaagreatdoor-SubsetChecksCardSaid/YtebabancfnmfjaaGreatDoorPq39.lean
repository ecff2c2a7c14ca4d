/- Walk: scale.Steps of a right scale. Plain: a world's scale has at most nine notes; the steps as differences of its notes. Plain: the major scale is the collection of seven fifths; what reduces there. Plain: the scales of worlds, and the major scale, have nice classes. A list of lists of ints that a call made, in memory. Plain: subsets of equal scales turn into modes when all indices move. Walk: the law SubsetTurns. Walk: law 38's Make: the query of a draft. What the laws of drafts begin with. A list of lists of ints to be read; walks: law 38's sameLists, behind. Walk: law 38's all. -/
import Derived.Test.YtebabancfnmfjaaGreatDoorPq20
import Derived.Test.YtebabancfnmfjaaGreatDoorPq17
import Derived.Test.YtebabancfnmfjaaGreatDoorPq16
import Derived.Test.YtebabancfnmfjaaGreatDoorPq38
import Derived.Test.YtebabancfnmfjaaGreatDoorPq19
import Derived.Test.YtebabancfnmfjaaGreatDoorPq23
import Derived.Test.YtebabancfnmfjaaGreatDoorPq18
import Derived.Test.YtebabancfnmfjaaGreatDoorPq34
import Derived.Test.YtebabancfnmfjaaGreatDoorPq29
import Derived.Test.YtebabancfnmfjaaGreatDoorPq37
import Derived.Test.YtebabancfnmfjaaGreatDoorPq08
import Derived.Test.YtebabancfnmfjaaGreatDoorPq30
import Derived.Test.YtebabancfnmfjaaGreatDoorPq35
import Derived.Test.YtebabancfnmfjaaGreatDoorPq32
import Derived.Deep.RegionHeld3
import Derived.Deep.DeepCutAuto
namespace Go.Proofs.YtebabancfnmfjaaGreatDoor
open Go.RowKit Go.Lib
attribute [local go_sem] Oper.semAt_some
def stQ (n:Nat)(rs:List Qw)(k:Nat):List Rat:=zew (((rs[k]?).map Qw.x).getD []) (zii n rs k)
def zqq (n:Nat)(rs:List Qw)(k:Nat):List (List Rat):=(List.range k).map (stQ n rs)
theorem zqr (n:Nat)(rs:List Qw)(k:Nat):zqq n rs (k+1)=zqq n rs k++[stQ n rs k]:=by unfold zqq;rw [List.range_succ,List.map_append];rfl
def zqs (w:World)(n:Nat)(rs:List Qw)(k:Nat)(u:Value)(wr:World):Prop:=∃ out:List Qw,QwM wr w.heap.size w.heap.size u out∧out.map Qw.x=zqq n rs k∧out.length=k∧Ext w wr
theorem zqs.more {w W V:World}{o:Obj}{n k:Nat}{rs:List Qw}{v5 v7 u:Value}{out:List Qw}(hE:Ext w W)(h:QwM W w.heap.size w.heap.size v5 out)(hm:out.map Qw.x=zqq n rs k)(hl:out.length=k)(hr:zfw W w.heap.size u (stQ n rs k)) 
  (hown:V.ownsRow w.heap.size 41 1 v7 (k+1) (qwc out++[u])) (hgrow:(W.alloc o).grownBy V v5.ownBlock):zqs w n rs (k+1) v7 V:=by
 subst hl;have:=QwM.more (r:=⟨_,u,zf0 hr.rd⟩) hE h hr hown hgrow;exact ⟨_,this.1,by rw [List.map_append,hm,zqr];rfl,by rw [List.length_append];rfl,this.2⟩
end Go.Proofs.YtebabancfnmfjaaGreatDoor

namespace Go.Proofs.YtebabancfnmfjaaGreatDoor
theorem zqt {p:List Int}{l M:List (List Rat)}(hM:ziQ p l M){z0:List Rat}(hz:z0∈l)(h0:rst p z0=zer p.length):M.length≤l.length:=by
 have hnd:M.Nodup:=hM.1.imp fun {a b} g e=>by rw [e] at g;grind
 have hs:M ⊆ ov (p.length - 1)::(l.erase z0).map (rst p):=fun x hx=>by
  rcases (hM.2 x).1 hx with e | ⟨g0,y,hy,e⟩
  ·rw [e];exact List.mem_cons_self ..
  ·refine List.mem_cons_of_mem _ ?_;rw [e];refine List.mem_map_of_mem ((List.mem_erase_of_ne fun k=>g0 ?_).2 hy);rw [e,k,h0]
 have h1:=ziS hnd hs;have h2:=List.length_erase_of_mem hz;have h3:=List.length_pos_of_mem hz;rw [List.length_cons,List.length_map] at h1;omega
theorem zqu {p:List Int}{l M:List (List Rat)}(hM:ziQ p l M):M.length≤l.length+1:=by
 have hnd:M.Nodup:=hM.1.imp fun {a b} g e=>by rw [e] at g;grind
 have hs:M ⊆ ov (p.length - 1)::l.map (rst p):=fun x hx=>by
  rcases (hM.2 x).1 hx with e | ⟨g0,y,hy,e⟩
  ·rw [e];exact List.mem_cons_self ..
  ·exact List.mem_cons_of_mem _ (by rw [e];exact List.mem_map_of_mem hy)
 have h1:=ziS hnd hs;rw [List.length_cons,List.length_map] at h1;exact h1
theorem zqv {p:List Int}{x:List Rat}(hx:x.length=p.length):zex x ((0:Int):Rat)=zer p.length:=by
 unfold zex zer;rw [← hx];refine List.ext_getElem (by simp) fun i h1 h2=>?_;rw [List.getElem_map,List.getElem_replicate];exact Rat.mul_zero _
theorem zqw (a:Wl){M:List (List Rat)}(hM:ziQ a.p a.sizes M):M.length≤9:=by
 have hw:=zqp a hM;have hn:=a.n9;have hpw:=a.pw;have hp:=(ziB hpw.pr).2;by_cases h0:a.kind % 3=0
 ·have hs:a.sizes=zkO (zex (ov (a.p.length - 1)) (mkRat 1 a.n)) 1 a.n:=by unfold Wl.sizes;rw [if_pos h0]
  have hl:a.sizes.length=a.n:=by rw [hs,zkQ]
  have hm:ov (a.p.length - 1)∈a.sizes:=by
   rw [hs];unfold zkO;refine List.mem_map.2 ⟨a.n - 1,List.mem_range.2 (by omega),?_⟩;rw [zmK hpw a.n,show (1:Int)+((a.n - 1:Nat):Int)=(a.n:Int) by omega];have e:((a.n:Int):Rat) / (a.n:Rat)=1:=by
    show ((a.n:Nat):Rat) / (a.n:Rat)=1;rw [Rat.div_def,Rat.mul_inv_cancel _ (zmF hn.1)]
   rcases hpw with e2 | e2 <;> rw [e2]
   ·rw [zmC,e];rfl
   ·rw [zmD,e];rfl
  have:=zqt hM hm hw.zov;omega
 ·by_cases h1:a.kind % 3=1
  ·have hs:a.sizes=zkO (szW a.p.length (a.xs 0)) 0 a.n:=(by unfold Wl.sizes;rw [if_neg h0,if_pos h1]);have hl:a.sizes.length=a.n:=(by rw [hs,zkQ]);have hm:zer a.p.length∈a.sizes:=by
    rw [hs];unfold zkO;refine List.mem_map.2 ⟨0,List.mem_range.2 hn.1,?_⟩;exact zqv (zlm _ _)
   have:=zqt hM hm (hw.zlow hw.pos);omega
  ·have hs:a.sizes=(List.range (min a.n 8)).map fun i=>szW a.p.length (a.xs i):=(by unfold Wl.sizes;rw [if_neg h0,if_neg h1]);have hl:a.sizes.length=min a.n 8:=(by rw [hs,List.length_map,List.length_range]);have:=zqu hM;omega
end Go.Proofs.YtebabancfnmfjaaGreatDoor

namespace Go.Proofs.YtebabancfnmfjaaGreatDoor
open Go.RowKit Go.Lib
theorem Wd.step_ft {p:List Int}{rs:List Qw}(h:Wd p (rs.map Qw.x)):∀ k,k<rs.length→∀ q∈stQ p.length rs k,Ft 30 q:=by
 intro k hk;have hl:(rs.map Qw.x).length=rs.length:=List.length_map ..;have hf:=h.few;have e:stQ p.length rs k=zew (nt p (rs.map Qw.x) ((k+1:Nat):Int)) (nt p (rs.map Qw.x) (k:Int)):=by
  rw [h.nt_low (by omega),h.nt_low (by omega)];unfold stQ zat zii;rw [List.getElem?_cons_succ,List.getElem?_map]
  cases k with
  | zero=>rfl
  | succ j=>rw [if_neg (by omega),List.getElem?_cons_succ,List.getElem?_map,Nat.add_sub_cancel]
 rw [e];exact (h.nt_sub_quick _ _ (by omega) (by omega) (by omega) (by omega)).1
end Go.Proofs.YtebabancfnmfjaaGreatDoor

namespace Go.Proofs.YtebabancfnmfjaaGreatDoor
theorem zqx {p:List Int}(h:Pw p){A B C:Int}(h1:-128≤B)(h2:B≤128)(h3:-64≤C)(h4:C≤64):Bx 128 (sz3 p A B C):=by
 rcases h with rfl | rfl
 ·exact ⟨A,B,rfl,zm2 B,h1,h2⟩
 ·exact ⟨A,B,C,rfl,zm2 B,rfl,h1,h2,by omega,by omega⟩
theorem zqy {p:List Int}(hp:Pw p){n:Nat}(hn:0<n)(hn9:n≤9):zjL p (zkO (zex (ov (p.length - 1)) (mkRat 1 n)) 1 n):=by
 have h2:∀ x∈zer p.length::zkO (zex (ov (p.length - 1)) (mkRat 1 n)) 1 n,∃ i:Int,x=oc3 p n i:=fun x hx=>by
  rcases List.mem_cons.1 hx with e | hx
  ·exact ⟨0,by rw [e,zmG hp n]⟩
  ·unfold zkO at hx;obtain ⟨i,_,rfl⟩:=List.mem_map.1 hx;exact ⟨1+(i:Int),zmK hp n _⟩
 refine ⟨n,fun x hx y hy=>?_⟩;obtain ⟨i,rfl⟩:=h2 x hx;obtain ⟨j,rfl⟩:=h2 y hy;rw [zmH hp];exact .inr ⟨hn,by omega,zmI hp hn _⟩
theorem zqz {p:List Int}(hp:Pw p)(x:I3){n:Nat}(hn9:n≤9):zjL p (zkO (szW p.length x) 0 n):=by
 obtain ⟨A,B,C,hA,hB,hC,e⟩:=zmM hp x;have h2:∀ y∈zer p.length::zkO (szW p.length x) 0 n,∃ k:Int,0≤k∧k≤8∧y=sz3 p (A * k) (B * k) (C * k):=fun y hy=>by
  rcases List.mem_cons.1 hy with e | hy
  ·exact ⟨0,by omega,by omega,by rw [e,zm6 hp,Int.mul_zero,Int.mul_zero,Int.mul_zero]⟩
  ·unfold zkO at hy;obtain ⟨i,hi,rfl⟩:=List.mem_map.1 hy;rw [List.mem_range] at hi;exact ⟨0+(i:Int),by omega,by omega,by rw [e];exact zm8 hp ..⟩
 refine ⟨0,fun y hy z hz=>.inl ⟨rfl,?_⟩⟩;obtain ⟨k,k0,k1,rfl⟩:=h2 y hy;obtain ⟨j,j0,j1,rfl⟩:=h2 z hz;rw [zm7 hp,← Int.mul_sub,← Int.mul_sub,← Int.mul_sub];have hk:-8≤k - j∧k - j≤8:=by omega
 generalize k - j=t at *;have mb:∀ z b:Int,-b≤z→z≤b→0≤b→-(b * 8)≤z * t∧z * t≤b * 8:=fun z b h1 h2 h3=>by
  have h4:z.natAbs≤b.natAbs:=by omega
  have h5:t.natAbs≤8:=by omega
  have h6:=Nat.mul_le_mul h4 h5;rw [← Int.natAbs_mul] at h6;omega
 have m2:=mb B 16 hB.1 hB.2 (by omega);have m3:=mb C 8 hC.1 hC.2 (by omega);exact zqx hp (by omega) (by omega) (by omega) (by omega)
theorem zq0 {p:List Int}(hp:Pw p)(xs:Nat→I3)(n:Nat):zjL p ((List.range n).map fun i=>szW p.length (xs i)):=by
 have h2:∀ y∈zer p.length::((List.range n).map fun i=>szW p.length (xs i)),∃ A B C:Int,(-16≤B∧B≤16)∧(-8≤C∧C≤8)∧y=sz3 p A B C:=fun y hy=>by
  rcases List.mem_cons.1 hy with e | hy
  ·exact ⟨0,0,0,by omega,by omega,by rw [e,zm6 hp]⟩
  ·obtain ⟨i,_,rfl⟩:=List.mem_map.1 hy;obtain ⟨A,B,C,hA,hB,hC,e⟩:=zmM hp (xs i);exact ⟨A,B,C,hB,hC,e⟩
 refine ⟨0,fun y hy z hz=>.inl ⟨rfl,?_⟩⟩;obtain ⟨A,B,C,hB,hC,rfl⟩:=h2 y hy;obtain ⟨A',B',C',hB',hC',rfl⟩:=h2 z hz;rw [zm7 hp];exact zqx hp (by omega) (by omega) (by omega) (by omega)
theorem zq1 (a:Wl):zjL a.p a.sizes:=by
 unfold Wl.sizes;split
 ·exact zqy a.pw a.n9.1 a.n9.2
 ·split
  ·exact zqz a.pw _ a.n9.2
  ·exact zq0 a.pw _ _
theorem zq2 (a:Wl){N:List (List Rat)}(h:ziQ a.p a.sizes N):Wc a.p N:=zjM a.lw (zq1 a) h a.few
end Go.Proofs.YtebabancfnmfjaaGreatDoor

namespace Go.Proofs.YtebabancfnmfjaaGreatDoor
open Go.RowKit Go.Lib Go.Shelf
def iwU (fs:List Iw):List Value:=fs.map Iw.u
theorem zq3 (fs:List Iw)(f:Iw):iwU (fs++[f])=iwU fs++[f.u]:=by unfold iwU;rw [List.map_append];rfl
structure LsI (W:World)(B:Nat)(v:Value)(fs:List Iw):Prop where
 row:W.ownsRow B 24 1 v fs.length (iwU fs)
 all:∀ f∈fs,zfh W B f.u f.l
section
variable {W W' : World} {B : Nat} {v : Value} {fs : List Iw}
theorem LsI.nil (W:World)(B:Nat):LsI W B (.slice none 0 0) []:=⟨⟨rfl,.inl ⟨rfl,rfl⟩⟩,fun f hf=>by cases hf⟩
theorem LsI.ext (h:LsI W B v fs)(hx:Ext W W'):LsI W' B v fs:=⟨hx.own h.row,fun f hf=>hx.ownI (h.all f hf)⟩
theorem LsI.less {B':Nat}(h:LsI W B v fs)(hB:B'≤B):LsI W B' v fs:=⟨zam h.row hB,fun f hf=>zam (h.all f hf) hB⟩
theorem LsI.kept {u:Value}{n:Nat}{xs:List Value}{D:Nat}(h:LsI W B v fs)(hu:W.ownsRow D 24 1 u n xs)(hg:W.grownBy W' u.ownBlock)(hv:∀ r,v.ownBlock=some r→r<D):LsI W' B v fs:=by
 refine ⟨World.ownsRow.kept h.row hg ?_,fun f hf=>World.ownsRow.kept (h.all f hf) hg (zfl (h.all f hf) hu (by decide))⟩
 cases e:v.ownBlock with
 | none=>exact .inl rfl
 | some r =>
  refine .inr fun e2=>?_
  have h1:=hv r e
  have h2:=(World.ownsRow.lt hu r e2.symm).1
  omega
theorem LsI.other {u:Value}{E s n:Nat}{xs:List Value}{D:Nat}(h:LsI W B v fs)(hu:W.ownsRow D E s u n xs)(hE:E ≠ 24)(hE2:E ≠ 3)(hg:W.grownBy W' u.ownBlock):LsI W' B v fs :=
 ⟨World.ownsRow.kept h.row hg (zfl h.row hu hE.symm),fun f hf=>World.ownsRow.kept (h.all f hf) hg (zfl (h.all f hf) hu hE2.symm)⟩
theorem LsI.put {v':Value}{f:Iw}(h:LsI W B v fs)(hf:zfh W B f.u f.l)(hg:W.grownBy W' v.ownBlock)(ho:W'.ownsRow B 24 1 v' (fs.length+1) (iwU fs++[f.u])):LsI W' B v' (fs++[f]):=by
 refine ⟨by rw [List.length_append,List.length_singleton,zq3];exact ho,fun g hg2=>?_⟩;have key:∀ {g:Iw},zfh W B g.u g.l→zfh W' B g.u g.l:=fun k=>World.ownsRow.kept k hg (zfl k h.row (by decide));rcases List.mem_append.1 hg2 with e | e
 ·exact key (h.all g e)
 ·rw [List.mem_singleton] at e;subst e;exact key hf
theorem LsI.lt (h:LsI W B v fs):∀ r,v.ownBlock=some r→B≤r∧r<W.heap.size:=fun r e=>World.ownsRow.lt h.row r e
theorem LsI.at' {a:Option Addr}{L c k:Nat}{f:Iw}(h:LsI W B (.slice a L c) fs)(hf:fs[k]?=some f) :
  ∃ g a2 c2,a=some ⟨g,0,none⟩∧W.cell? ⟨g,k,none⟩=some (.slice a2 f.l.length c2)∧f.u=.slice a2 f.l.length c2∧zfh W B (.slice a2 f.l.length c2) f.l:=by
 have hm:=h.all f (List.mem_of_getElem? hf);obtain ⟨a2,c2,e2⟩:=zfi hm;rcases h.row.2 with ⟨e,h0⟩ | ⟨g,cap,cur,e,_⟩
 ·have:=(List.getElem?_eq_some_iff.1 hf).1;omega
 ·injection e with e1 e3 e4;subst e1;have hc:=World.ownsRow.cells h.row (g:=g) rfl k f.u (by unfold iwU;rw [List.getElem?_map,hf];rfl);rw [Addr.add_lit,Nat.zero_add,e2] at hc;rw [e2] at hm;exact ⟨g,a2,c2,rfl,hc,e2,hm⟩
end
end Go.Proofs.YtebabancfnmfjaaGreatDoor

namespace Go.Proofs.YtebabancfnmfjaaGreatDoor
section
variable {p : List Int} {N : List (List Rat)} (h : Wd p N)
include h
end
def zq4 (n:Nat)(q:Nat→Bool):List Int:=((List.range n).filter q).map fun (i:Nat)=>(i:Int)
end Go.Proofs.YtebabancfnmfjaaGreatDoor

namespace Go.Proofs.YtebabancfnmfjaaGreatDoor
open Go.RowKit Go.Lib Go.Shelf
attribute [local go_sem] Oper.semAt_some
structure zq5 (W0 w:World)(va vb:Value)(la lb:List Int):Prop where
 a:zfh w W0.heap.size va la
 b:zfh w W0.heap.size vb lb
 ne:∀ r,va.ownBlock=some r→vb.ownBlock ≠ some r
 x:Ext W0 w
theorem zq5.nil (W:World):zq5 W W (.slice none 0 0) (.slice none 0 0) [] []:=⟨⟨rfl,.inl ⟨rfl,rfl⟩⟩,⟨rfl,.inl ⟨rfl,rfl⟩⟩,fun r h=>(by simp [Value.ownBlock] at h),Ext.refl _⟩
theorem zq5.swap {W0 w:World}{va vb:Value}{la lb:List Int}(h:zq5 W0 w va vb la lb):zq5 W0 w vb va lb la:=⟨h.b,h.a,fun r e f=>h.ne r f e,h.x⟩
theorem zq5.ext {W0 w w':World}{va vb:Value}{la lb:List Int}(h:zq5 W0 w va vb la lb)(hx:Ext w w'):zq5 W0 w' va vb la lb:=⟨hx.ownI h.a,hx.ownI h.b,h.ne,h.x.trans hx⟩
theorem zq5.put {W0 w V:World}{va vb:Value}{la lb:List Int}{o:Obj}{x:Int}{g cap n:Nat}(h:zq5 W0 w va vb la lb)(hn:la.length=n)
  (hown:V.ownsRow W0.heap.size 3 1 (.slice (some ⟨g,0,none⟩) (n+1) cap) (n+1) (zap la++[.int .i64 x])) (hg:(w.alloc o).grownBy V va.ownBlock) (hat:va.ownBlock=some g∨g=w.heap.size+1) :
  zq5 W0 V (.slice (some ⟨g,0,none⟩) (n+1) cap) vb (la++[x]) lb:=by
 subst hn;refine ⟨?_,?_,fun r e=>?_,?_⟩
 ·unfold zfh;rw [List.length_append,List.length_singleton,zap,List.map_append];exact hown
 ·refine World.ownsRow.kept (World.ownsRow.alloc h.b o) hg ?_
  cases hv:vb.ownBlock with
  | none=>exact .inl rfl
  | some r=>exact .inr fun e=>h.ne r e.symm hv
 ·have e2:g=r:=by simpa [Value.ownBlock] using e
  subst e2;intro f;rcases hat with k | k
  ·exact h.ne g k f
  ·have:=(World.ownsRow.lt h.b g f).2;omega
 ·exact (h.x.alloc o).grown hg fun k e=>(World.ownsRow.lt h.a k e).1
end Go.Proofs.YtebabancfnmfjaaGreatDoor

namespace Go.Proofs.YtebabancfnmfjaaGreatDoor
open Go.RowKit Go.Lib Go.Shelf
attribute [local go_sem] Oper.semAt_some
structure Dl where
 wl:Wl
 size:Nat
 prop:Nat
 must:Nat
 modes:Bool
namespace Dl
def cs (d:Dl):Array Value:=#[.bool d.wl.three,.int .u8 d.wl.kind,.int .u8 d.wl.num,.int .i8 (d.wl.xs 0).a,.int .i8 (d.wl.xs 0).b,.int .i8 (d.wl.xs 0).c,.int .i8 (d.wl.xs 1).a,.int .i8 (d.wl.xs 1).b,.int .i8 (d.wl.xs 1).c,.int .i8 (d.wl.xs 2).a,.int .i8 (d.wl.xs 2).b,.int .i8 (d.wl.xs 2).c,.int .i8 (d.wl.xs 3).a,.int .i8 (d.wl.xs 3).b,.int .i8 (d.wl.xs 3).c,.int .i8 (d.wl.xs 4).a,.int .i8 (d.wl.xs 4).b,.int .i8 (d.wl.xs 4).c,.int .i8 (d.wl.xs 5).a,.int .i8 (d.wl.xs 5).b,.int .i8 (d.wl.xs 5).c,.int .i8 (d.wl.xs 6).a,.int .i8 (d.wl.xs 6).b,.int .i8 (d.wl.xs 6).c,.int .i8 (d.wl.xs 7).a,.int .i8 (d.wl.xs 7).b,.int .i8 (d.wl.xs 7).c,.int .u8 (d.size:Int),.int .u8 (d.prop:Int),.int .u16 (d.must:Int),.bool d.modes]
def v (d:Dl):Value:=.agg d.cs
structure Ok (d:Dl):Prop where
 wl:d.wl.Ok
 size:d.size<256
 prop:d.prop<256
 must:d.must<65536
def m (d:Dl)(n:Nat):Nat:=1+d.size % n
def P (d:Dl):Int:=1+((d.prop:Int) % 6)
def M (d:Dl)(n:Nat):List Int:=zq4 n fun i=>d.must.testBit i
end Dl
theorem zq6 {w:World}{k:Nat}{arr:Array Value}{T:TypeId}(hk:w.heap[k]?=some (.cells arr T (0,0))){b o:Nat}{u:Value}(hc:w.cell? ⟨b,o,none⟩=some u)(hn:∀ x∈arr.toList,x ≠ u):b ≠ k:=by
 intro e;subst e;have h2:w.cell? ⟨b,o,none⟩=arr[o]?:=by
  unfold World.cell?;dsimp only;rw [hk];rfl
 rw [h2,← Array.getElem?_toList] at hc;exact hn u (List.mem_of_getElem? hc) rfl
def MkR (W0:World)(vp vn:Value)(m P:Int)(b:Bool)(l:List Int)(wr:World):Prop:=∃ vm,zno wr W0.heap.size vp vn m P vm b∧zfh wr W0.heap.size vm l∧Ext W0 wr
theorem MkR.more {W0 wr V:World}{vp vn vm v7:Value}{m P:Int}{b:Bool}{l:List Int}{n:Nat}{x:Int}{o:Obj}(hb:zno wr W0.heap.size vp vn m P vm b)(ho:zfh wr W0.heap.size vm l)(hE:Ext W0 wr)(hn:l.length=n)
  (hown:V.ownsRow W0.heap.size 3 1 v7 (n+1) (zap l++[.int .i64 x])) (hg:(wr.alloc o).grownBy V vm.ownBlock):MkR W0 vp vn m P b (l++[x]) (V.setCell ⟨W0.heap.size,4,none⟩ v7):=by
 subst hn;have hbV:zno V W0.heap.size vp vn m P vm b:=zfX (((Ext.refl wr).alloc o).heap hb) (World.ownsRow.alloc ho o) (by decide) hg;refine ⟨v7,heap_setCell_same _ _ 4 _ _ v7 hbV,?_,((hE.alloc o).grown hg fun k e=>(World.ownsRow.lt ho k e).1).setCell (Nat.le_refl _) _⟩;refine zga hbV ?_ (by decide) 4 v7;rw [List.length_append,List.length_singleton,zap,List.map_append];exact hown
end Go.Proofs.YtebabancfnmfjaaGreatDoor

namespace Go.Proofs.YtebabancfnmfjaaGreatDoor
open Go.RowKit Go.Lib Go.Shelf
section
variable {w : World} {k : Nat} {vp vn vm : Value} {m P : Int} {b : Bool}
theorem zno.fz (h:zno w k vp vn m P vm b)(j:Nat):w.frozen? ⟨k,j,none⟩=false:=frozen_of_row w k j _ _ h
end
end Go.Proofs.YtebabancfnmfjaaGreatDoor

namespace Go.Proofs.YtebabancfnmfjaaGreatDoor
open Go.RowKit Go.Lib Go.Shelf
attribute [local go_sem] Oper.semAt_some
structure LsR (W:World)(v:Value)(fs:List Iw):Prop where
 row:Sl W v (iwU fs)
 all:∀ f∈fs,Sl W f.u (zap f.l)
theorem LsR.ext {W W':World}{v:Value}{fs:List Iw}(h:LsR W v fs)(hx:Ext W W'):LsR W' v fs:=⟨hx.sl h.row,fun f hf=>hx.sl (h.all f hf)⟩
theorem LsI.r {W:World}{B:Nat}{v:Value}{fs:List Iw}(h:LsI W B v fs):LsR W v fs:=⟨zan h.row,fun f hf=>zan (h.all f hf)⟩
def fwI (fs:List Fw):List Iw:=fs.map fun f=>⟨f.u,f.l⟩
theorem zq7 (fs:List Fw):iwU (fwI fs)=fwU fs:=by unfold iwU fwI fwU;rw [List.map_map];rfl
theorem zq8 (fs:List Fw):(fwI fs).length=fs.length:=List.length_map ..
theorem Fnd.r {W:World}{B:Nat}{p:List Int}{N:List (List Rat)}{us vs:Value}{fs:List Fw}(h:Fnd W B p N us vs fs):LsR W us (fwI fs) :=
 ⟨by rw [zq7];exact zan h.us,fun f hf=>by
  obtain ⟨g,hg,rfl⟩:=List.mem_map.1 hf;exact zan (h.all g hg).1⟩
theorem LsR.at' {W:World}{fs:List Iw}{a:Option Addr}{L c k:Nat}{f:Iw}(h:LsR W (.slice a L c) fs)(hf:fs[k]?=some f):∃ b off a2 c2,a=some ⟨b,off,none⟩∧W.cell? ⟨b,off+k,none⟩=some (.slice a2 f.l.length c2)∧Sl W (.slice a2 f.l.length c2) (zap f.l):=by
 obtain ⟨a9,c9,e9,_,_,hc⟩:=h.row.parts;injection e9 with e9 _ _;obtain ⟨b,off,e,hcell⟩:=hc k f.u (by unfold iwU;rw [List.getElem?_map,hf];rfl);have hs:=h.all f (List.mem_of_getElem? hf);obtain ⟨a2,c2,e2,_⟩:=hs.parts;rw [zar] at e2;rw [e2] at hcell hs;exact ⟨b,off,a2,c2,e9.trans e,hcell,hs⟩
structure Alr (W:World)(B1 B:Nat)(p:List Int)(N:List (List Rat))(us vs:Value)(fs:List Fw):Prop where
 us:W.ownsRow B1 24 1 us fs.length (fwU fs)
 vs:W.ownsRow B1 28 2 vs fs.length (fwS fs)
 all:∀ f∈fs,zfh W B f.u f.l∧zfh W B f.vp p∧QwM W B B f.vn f.rs∧f.rs.map Qw.x=zjA p N f.l∧Wd p (zjA p N f.l)
structure Al2 (W:World)(B1 B:Nat)(p:List Int)(N:List (List Rat))(us vs:Value)(nu nv:Nat)(xu xv:List Value)(gs:List Fw):Prop where
 us:W.ownsRow B1 24 1 us nu xu
 vs:W.ownsRow B1 28 2 vs nv xv
 all:∀ f∈gs,zfh W B f.u f.l∧zfh W B f.vp p∧QwM W B B f.vn f.rs∧f.rs.map Qw.x=zjA p N f.l∧Wd p (zjA p N f.l)
section
variable {W W' : World} {B1 B : Nat} {p : List Int} {N : List (List Rat)} {us vs : Value} {nu nv : Nat} {xu xv : List Value} {gs fs : List Fw}
theorem Alr.nil (W:World)(B1 B:Nat)(p:List Int)(N:List (List Rat)):Alr W B1 B p N (.slice none 0 0) (.slice none 0 0) []:=⟨⟨rfl,.inl ⟨rfl,rfl⟩⟩,⟨rfl,.inl ⟨rfl,rfl⟩⟩,fun f hf=>by cases hf⟩
theorem Alr.ext (h:Alr W B1 B p N us vs fs)(hx:Ext W W'):Alr W' B1 B p N us vs fs :=
 ⟨hx.own h.us,hx.own h.vs,fun f hf=>let ⟨a,b,c,d⟩:=h.all f hf;⟨hx.ownI a,hx.ownI b,hx.qwM c,d⟩⟩
theorem Al2.ext (h:Al2 W B1 B p N us vs nu nv xu xv gs)(hx:Ext W W'):Al2 W' B1 B p N us vs nu nv xu xv gs :=
 ⟨hx.own h.us,hx.own h.vs,fun f hf=>let ⟨a,b,c,d⟩:=h.all f hf;⟨hx.ownI a,hx.ownI b,hx.qwM c,d⟩⟩
theorem Al2.putU {us' u:Value}(h:Al2 W B1 B p N us vs nu nv xu xv gs)(hg:W.grownBy W' us.ownBlock)(ho:W'.ownsRow B1 24 1 us' (nu+1) (xu++[u])):Al2 W' B1 B p N us' vs (nu+1) nv (xu++[u]) xv gs:=by
 have key:∀ {D E s n:Nat}{v:Value}{xs:List Value},E ≠ 24→W.ownsRow D E s v n xs→W'.ownsRow D E s v n xs:=fun {D E s n v xs} hE k=>World.ownsRow.kept k hg (zfl k h.us hE);exact ⟨ho,key (by decide) h.vs,fun f hf=>let ⟨a,b,c,d⟩:=h.all f hf;⟨key (by decide) a,key (by decide) b,⟨key (by decide) c.1,fun r hr=>key (by decide) (c.2 r hr)⟩,d⟩⟩
theorem Al2.putV {vs' x y:Value}(h:Al2 W B1 B p N us vs nu nv xu xv gs)(hg:W.grownBy W' vs.ownBlock)(ho:W'.ownsRow B1 28 2 vs' (nv+1) (xv++[x,y])):Al2 W' B1 B p N us vs' nu (nv+1) xu (xv++[x,y]) gs:=by
 have key:∀ {D E s n:Nat}{v:Value}{xs:List Value},E ≠ 28→W.ownsRow D E s v n xs→W'.ownsRow D E s v n xs:=fun {D E s n v xs} hE k=>World.ownsRow.kept k hg (zfl k h.vs hE);exact ⟨key (by decide) h.us,ho,fun f hf=>let ⟨a,b,c,d⟩:=h.all f hf;⟨key (by decide) a,key (by decide) b,⟨key (by decide) c.1,fun r hr=>key (by decide) (c.2 r hr)⟩,d⟩⟩
theorem Alr.two {f:Fw}(h:Alr W B1 B p N us vs fs)(hf:zfh W B f.u f.l∧zfh W B f.vp p∧QwM W B B f.vn f.rs∧f.rs.map Qw.x=zjA p N f.l∧Wd p (zjA p N f.l)):Al2 W B1 B p N us vs fs.length fs.length (fwU fs) (fwS fs) (fs++[f]) :=
 ⟨h.us,h.vs,fun g hg=>by
  rcases List.mem_append.1 hg with e | e
  ·exact h.all g e
  ·rw [List.mem_singleton] at e;subst e;exact hf⟩
theorem Al2.done {f:Fw}(h:Al2 W B1 B p N us vs (fs.length+1) (fs.length+1) (fwU fs++[f.u]) (fwS fs++[f.vp,f.vn]) (fs++[f])):Alr W B1 B p N us vs (fs++[f]) :=
 ⟨by rw [List.length_append,List.length_singleton,zoR];exact h.us,by rw [List.length_append,List.length_singleton,zoS];exact h.vs,h.all⟩
theorem Alr.ls (h:Alr W B1 B p N us vs fs)(hB:B≤B1):LsI W B us (fwI fs) :=
 ⟨by rw [zq7,zq8];exact zam h.us hB,fun f hf=>by
  obtain ⟨g,hg,rfl⟩:=List.mem_map.1 hf;exact (h.all g hg).1⟩
end
end Go.Proofs.YtebabancfnmfjaaGreatDoor
