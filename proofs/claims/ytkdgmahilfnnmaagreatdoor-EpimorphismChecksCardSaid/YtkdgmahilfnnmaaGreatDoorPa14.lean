/- Walk: epimorphism.reduce by the octave, where the few bits decide. (KEEPALL) Plain: the first error of a set of intervals, as the program finds it and as law 37 does. Walk: monzo.Compare at right or wrong intervals. (KEEPALL) Walk: row.IsZero. (KEEPALL) Walks: table's Check, slices.Repeat at a slice of one string; a row less a multiple of another one: out of XHermA, XHermB. (Printed by rebase.py.) -/
import Derived.Test.YtkdgmahilfnnmaaGreatDoorPa11
import Derived.Test.YtkdgmahilfnnmaaGreatDoorPa13
import Derived.Test.YtkdgmahilfnnmaaGreatDoorPa10
import Derived.Test.YtkdgmahilfnnmaaGreatDoorPa04
import Derived.BigQuiet
import Derived.Laws.CopyOwn
import Derived.Deep.RegionLaw
import Derived.Deep.AppendLies
import Derived.Test.YtkdgmahilfnnmaaGreatDoorShelfM
import Derived.Deep.RegionHeld3
import Derived.RegionTactic
import Derived.ChangeAlike
set_option maxRecDepth 100000
set_option maxHeartbeats 2000000
namespace Go.Proofs.YtkdgmahilfnnmaaGreatDoor
section
open Go.RowKit Go.Lib
def zi6 (n:Nat):List Int:=1::List.replicate n 0
theorem zi7 (n:Nat):zfM (zi6 n)=ov n:=by
 unfold zfM zi6 ov;rw [List.map_cons,List.map_replicate];rfl
theorem zi8 (n:Nat):(zi6 n).length=n+1:=by unfold zi6;rw [List.length_cons,List.length_replicate]
theorem zi9 (n i:Nat):zaD (zi6 n) i=0∨zaD (zi6 n) i=1:=by
 unfold zaD zi6;rw [List.getD_eq_getElem?_getD]
 cases i with
 | zero=>right;rfl
 | succ i =>
  left
  rw [List.getElem?_cons_succ,List.getElem?_replicate]
  split <;> rfl
theorem ziA {z:Int}(h:-1000≤z∧z≤1000):Ft 30 (z:Rat):=by
 refine ⟨?_,?_⟩
 ·rw [Rat.num_intCast];exact Nat.le_trans (Dec.nDigits_le (k:=4) (by decide) (show z.natAbs<10 ^ 4 by omega)) (by decide)
 ·rw [Rat.den_intCast];exact Nat.le_trans (Dec.nDigits_le (k:=1) (by decide) (by decide)) (by decide)
theorem ziB (vp vx vq:Value)(p:List Int)(z0:Int)(zs o:List Int)(q:Int)(w:World)(he:Env w)(hp:Sl w vp (zaA p))(hx:Sl w vx (zaA (z0::zs)))(hy:Sl w vq (zaA (zi6 zs.length)))(h1:zhe p (z0::zs)=0)(h2:zhe p (zi6 zs.length)=0)(hpr:Pr p (zs.length+1))(hq:QF p (zfM (z0::zs)))(hfl:flP p (zfM (z0::zs))=q)(hq0:-1000000≤q)(hq1:q≤1000000)(ho:zhF (z0::zs) (-q) (zi6 zs.length)=some o) :
  Calls Tryz.prog 49 #[vp,vx,vq] w fun e w'=>∃ v,e=.returned (.tuple #[v,.int .i64 0])∧zcM w' w.heap.size v o∧Ext w w':=by
 obtain ⟨hpe,hre⟩:=zhr h1;obtain ⟨hxl,hxb⟩:=zhq hre;obtain ⟨hp0,hp6,_⟩:=zcK hpe;have hzl:(z0::zs).length=zs.length+1:=rfl;have hof:=fun W (hE:Ext w W)=>zhB vp vx p (z0::zs) W (he.ext hE) (hE.sl hp) (hE.sl hx) h1;have hoy:=fun W (hE:Ext w W)=>zhB vp vq p (zi6 zs.length) W (he.ext hE) (hE.sl hp) (hE.sl hy) h2;rw [zi7] at hoy;have hft:∀ r∈zfM (z0::zs),Ft 30 r:=fun r hr=>by
  unfold zfM at hr;obtain ⟨z,hz,rfl⟩:=List.mem_map.1 hr;obtain ⟨i,hi⟩:=List.mem_iff_getElem?.1 hz;have hl:=(List.getElem?_eq_some_iff.1 hi).1;have:=hxb i hl;unfold zaD at this;rw [List.getD_eq_getElem?_getD,hi] at this;exact ziA this
 have hcons:zfM (z0::zs)=((z0:Int):Rat)::zfM zs:=rfl;have hrl:(zfM zs).length=zs.length:=zh6 zs;have hflo:=fun va vb W (hE:Ext w W)(ha:Rd W va (zfM (z0::zs)))(hb:Rd W vb (ov zs.length))=>zi5 vp va vb p ((z0:Int):Rat) (zfM zs) W (he.ext hE) (hE.sl hp) ha (by rw [hrl];exact hb) hpe (by rw [hrl];exact hpr) hft hq;rw [← hcons,hfl] at hflo;have hsm:=fun W=>zgK q W (by omega) (by omega);have hpl:=fun W (hE:Ext w W)=>zhP vx vq (z0::zs) (zi6 zs.length) (-q) W (hE.sl hx) (hE.sl hy) (by rw [zi8];rfl) (by omega) (fun i hi=>by have:=hxb i hi;omega) (fun i hi=>by rcases zi9 zs.length i with e | e <;> rw [e] <;> omega)
 rw [ho] at hpl;obtain ⟨ap,cp,rfl,_,_,_⟩:=hp.parts;obtain ⟨ax,cx,rfl,_,_,_⟩:=hx.parts;obtain ⟨ay,cy,rfl,_,_,_⟩:=hy.parts;simp only [zaC] at hof hoy hflo hpl ⊢;have hd1:decide (q > 1000000000)=false:=decide_eq_false (by omega);have hd2:decide (q < -1000000000)=false:=decide_eq_false (by omega);have Hof:=hid hof;have Hoy:=hid hoy;have Hflo:=hid hflo;have Hsm:=hid hsm;have Hpl:=hid hpl;clear hof hoy hflo hsm hpl;clear hp hx hy h1 h2 hpr hq hfl ho hpe hre hxb hft hcons hrl hp0 hp6 hxl he hzl;generalize I q=sq at *;generalize (z0::zs).length=n at *;generalize (zi6 zs.length).length=m at *;go_enter Tryz.func49,Tryz.ntmps49
 go_wp2_with fail
 refine (Hof.out w (Ext.refl _)).mono ?_;rintro e w1 ⟨v1,rfl,ho1,hx1⟩;have Hr1:=hid ho1.rd;have Hx1:=hid hx1;clear hx1;clear ho1;go_wp2_with fail
 refine (Hoy.out w1 Hx1.out).mono ?_;rintro e w2 ⟨v2,rfl,ho2,hx2⟩;have Hr2:=hid ho2.rd;have Hr1':=hid (hx2.rd Hr1.out);have Hx2:=hid (Hx1.out.trans hx2);clear ho2 hx2;go_wp2_with fail
 refine (Hflo.out v1 v2 w2 Hx2.out Hr1'.out Hr2.out).mono ?_;rintro e w3 ⟨rfl,hx3⟩;have Hx3:=hid (Hx2.out.trans hx3);clear hx3;go_wp2_with fail
 refine (Hsm.out w3).mono ?_;rintro e w4 ⟨rfl,hx4⟩;have Hx4:=hid (Hx3.out.trans hx4);clear hx4;go_wp2_with fail
 refine (Hpl.out w4 Hx4.out).mono ?_;rintro e w5 ⟨⟨v,rfl,hov⟩,hx5⟩;have hov2:=za7 hov Hx4.out.size;have Hov:=hid hov2;have Hx5:=hid (Hx4.out.trans hx5);obtain ⟨av,cv,ev⟩:=zcN hov2;subst ev;clear hov hov2 hx5;go_wp2
 go_ret2
 exact ⟨_,rfl,Hov.out,Hx5.out⟩
def ziC (p x y:List Int):Int:=zb4 ((zhi p x * zhj p y:Nat):Int) ((zhi p y * zhj p x:Nat):Int)
theorem ziD (a b:Int):zb4 b a=-zb4 a b:=by unfold zb4;(repeat' split) <;> omega
theorem ziE (a b:Int):zb4 a b≤0 ↔ a≤b:=by unfold zb4;(repeat' split) <;> omega
theorem ziF (p x y:List Int):ziC p y x=-ziC p x y:=by unfold ziC;rw [ziD]
def ziG (n:Nat):List Int:=List.replicate n 0
def ziH (p:List Int):List Int→List (List Int)→Int
 | _,[]=>0
 | b,x::l=>if zhe p x ≠ 0 then zhe p x else if 0≤ziC p b x then 6 else ziH p x l
def ziI (p:List Int)(l:List (List Int)):Int:=if zcG p ≠ 0 then zcG p else if l.length=0 then 13 else if 60<l.length then 4 else ziH p (ziG p.length) l
def ziJ (p:List Int)(l:List (List Int))(i:Nat):Nat→Int
 | 0=>0
 | n+1=>if zhe p (l.getD i []) ≠ 0 then zhe p (l.getD i []) else if (if i=0 then zhv p (l.getD i []) else ziC p (l.getD i []) (l.getD (i - 1) []))≤0 then 6 else ziJ p l (i+1) n
def ziK (p:List Int)(l:List (List Int)):Int:=if zcG p ≠ 0 then zcG p else if l.length=0 then 13 else if 60<l.length then 4 else ziJ p l 0 l.length
theorem ziL (n i:Nat):zaD (List.replicate n (0:Int)) i=0:=by
 unfold zaD;rw [List.getD_eq_getElem?_getD,List.getElem?_replicate];split <;> rfl
theorem ziM (p:List Int)(n:Nat):∀ k,zhg p (List.replicate n 0) k=1∧zhh p (List.replicate n 0) k=1
 | 0=>⟨rfl,rfl⟩
 | k+1=>by
  obtain ⟨h1,h2⟩:=ziM p n k;unfold zhg zhh;rw [ziL,h1,h2];simp
theorem ziN {p x:List Int}(h:zhe p x=0):0≤ziC p (ziG p.length) x ↔ zhv p x≤0:=by
 unfold ziC zhv;rw [if_neg (by omega),ziE];have e1:zhi p (ziG p.length)=1:=(ziM p _ _).1;have e2:zhj p (ziG p.length)=1:=(ziM p _ _).2;rw [e1,e2,Nat.one_mul,Nat.mul_one,ziD];have:=ziE (zhi p x:Nat) (zhj p x:Nat);omega
theorem ziO {p:List Int}{l:List (List Int)}:∀ (n i:Nat)(b:List Int),i+n=l.length→(i=0→b=ziG p.length)→(0<i→b=l.getD (i - 1) [])→ziJ p l i n=ziH p b (l.drop i)
 | 0,i,b,h,_,_=>by rw [List.drop_eq_nil_of_le (by omega)];rfl
 | n+1,i,b,h,h0,h1=>by
  have hd:l.drop i=l.getD i []::l.drop (i+1):=by
   rw [List.getD_eq_getElem?_getD,List.getElem?_eq_getElem (by omega)];exact List.drop_eq_getElem_cons (by omega)
  rw [hd];unfold ziJ ziH;by_cases he:zhe p (l.getD i [])=0
  ·have hne:¬ (zhe p (l.getD i []) ≠ 0):=fun q=>q he;rw [if_neg hne,if_neg hne];have hc:((if i=0 then zhv p (l.getD i []) else ziC p (l.getD i []) (l.getD (i - 1) []))≤0) ↔ 0≤ziC p b (l.getD i []):=by
    by_cases hi:i=0
    ·rw [if_pos hi,h0 hi];exact (ziN he).symm
    ·rw [if_neg hi,h1 (by omega),ziF];omega
   rw [ziO n (i+1) (l.getD i []) (by omega) (fun q=>by omega) (fun _=>by rw [Nat.add_sub_cancel])];by_cases hq:0≤ziC p b (l.getD i [])
   ·rw [if_pos (hc.2 hq),if_pos hq]
   ·rw [if_neg (fun q=>hq (hc.1 q)),if_neg hq]
  ·rw [if_pos he,if_pos he]
theorem ziP (p:List Int)(l:List (List Int)):ziK p l=ziI p l:=by
 unfold ziK ziI;rw [ziO l.length 0 (ziG p.length) (by omega) (fun _=>rfl) (fun h=>by omega),List.drop_zero]
def ziQ (p x y:List Int):Int:=zgW p [x,y]
theorem ziR {p x y:List Int}(h:ziQ p x y=0):zcG p=0∧zgU p.length x=0∧zgU p.length y=0:=by
 unfold ziQ zgW at h;by_cases h0:zcG p=0
 ·rw [if_neg (by simpa using h0)] at h;refine ⟨h0,?_⟩;rw [zgV] at h;by_cases h1:zgU p.length x=0
  ·rw [if_neg (by simpa using h1),zgV] at h;refine ⟨h1,?_⟩;by_cases h2:zgU p.length y=0
   ·exact h2
   ·rw [if_pos h2] at h;exact h
  ·rw [if_pos h1] at h;exact absurd h h1
 ·rw [if_pos h0] at h;exact absurd h h0
theorem ziS {p x y:List Int}(h1:zhe p x=0)(h2:zhe p y=0):ziQ p x y=0:=by
 obtain ⟨a,b⟩:=zhr h1;obtain ⟨_,c⟩:=zhr h2;unfold ziQ zgW;rw [if_neg (by simpa using a),zgV,if_neg (by simpa using b),zgV,if_neg (by simpa using c)];rfl
def ziT (p x y:List Int):Int:=if ziQ p x y ≠ 0 then 0 else ziC p x y
theorem ziU (w:World)(vx vy:Value)(x y:List Int)(hx:Sl w vx (zaA x))(hy:Sl w vy (zaA y)):Mat (w.alloc (.cells #[vx,vy] 26)) (.slice (some ⟨w.heap.size,0,none⟩) 2 2) [x,y]:=by
 have hext:Ext w (w.alloc (.cells #[vx,vy] 26)):=(Ext.refl w).alloc _;refine ⟨[vx,vy],rfl,.inr ⟨w.heap.size,0,2,rfl,Nat.le_refl _,by unfold maxLen;omega,?_⟩,?_⟩
 ·intro i u hu;match i,hu with
  | 0,hu=>simp at hu;subst hu;rw [World.cell?_alloc_new];rfl
  | 1,hu=>simp at hu;subst hu;rw [World.cell?_alloc_new];rfl
  | i+2,hu=>simp at hu
 ·intro i u hu;match i,hu with
  | 0,hu=>simp at hu;subst hu;exact hext.sl hx
  | 1,hu=>simp at hu;subst hu;exact hext.sl hy
  | i+2,hu=>simp at hu
theorem ziV (vp vx vy:Value)(p x y:List Int)(w:World)(he:Env w)(hp:Sl w vp (zaA p))(hx:Sl w vx (zaA x))(hy:Sl w vy (zaA y))(hlp:p.length≤1000000)(hlx:x.length≤1000000)(hly:y.length≤1000000) :
  Calls Tryz.prog 37 #[vp,vx,vy] w fun e w'=>e=.returned (.tuple #[.int .i64 (ziT p x y),.int .i64 (ziQ p x y)])∧Ext w w':=by
 have hext:Ext w (w.alloc (.cells #[vx,vy] 26)):=(Ext.refl w).alloc _;have hc:=zhd vp (.slice (some ⟨w.heap.size,0,none⟩) 2 2) p [x,y] _ (hext.sl hp) (ziU w vx vy x y hx hy) hlp (by simp) (fun i=>by match i with | 0=>simpa using hlx | 1=>simpa using hly | i+2=>simp)
 have Hc:=hid hc;clear hc;have Hext:=hid hext;clear hext;have He:=hid he;clear he;have Hp:=hid hp;have Hx:=hid hx;have Hy:=hid hy;obtain ⟨ap,cp,rfl,_,_,_⟩:=hp.parts;obtain ⟨ax,cx,rfl,_,_,_⟩:=hx.parts;obtain ⟨ay,cy,rfl,_,_,_⟩:=hy.parts;simp only [zaC] at *;clear hp hx hy;have hae:zgW p [x,y]=ziQ p x y:=rfl;rw [hae] at Hc;clear hae;unfold ziT;by_cases h0:ziQ p x y=0
 ·rw [if_neg (by simpa using h0),h0];obtain ⟨hp0,hx0,hy0⟩:=ziR h0;have hnx:=zhs hp0 hx0;have hny:=zhs hp0 hy0;rw [h0] at Hc;unfold ziC;have d1:=zht hnx;have d2:=zhu hnx;have d3:=zht hny;have d4:=zhu hny;have Hnx:=hid hnx;have Hny:=hid hny;have m1:=zbW (zhi p x) (zhj p y);have m2:=zbW (zhi p y) (zhj p x);have HD:=hid (And.intro d1 (And.intro d2 (And.intro d3 (And.intro d4 (And.intro m1 m2)))));clear h0 hp0 hx0 hy0 hnx hny d1 d2 d3 d4 m1 m2;go_enter Tryz.func37,Tryz.ntmps37
  go_wp2_with fail
  refine Hc.out.mono ?_;rintro e w1 ⟨rfl,rfl⟩;go_wp2_with fail
  refine (zhp _ _ p x _ (He.out.ext Hext.out) (Hext.out.sl Hp.out) (Hext.out.sl Hx.out) Hnx.out).mono ?_;rintro e w2 ⟨rfl,hx2⟩;have Hx2:=hid (Hext.out.trans hx2);clear hx2;go_wp2_with fail
  refine (zhp _ _ p y w2 (He.out.ext Hx2.out) (Hx2.out.sl Hp.out) (Hx2.out.sl Hy.out) Hny.out).mono ?_;rintro e w3 ⟨rfl,hx3⟩;have Hx3:=hid (Hx2.out.trans hx3);clear hx3;go_wp2_with fail
  refine (zbX (zhi p x) (zhj p y) w3 (He.out.ext Hx3.out) (by have:=HD.out;omega) (by have:=HD.out;omega)).mono ?_;rintro e w4 ⟨rfl,hx4⟩;have Hx4:=hid (Hx3.out.trans hx4);clear hx4;go_wp2_with fail
  refine (zbX (zhi p y) (zhj p x) w4 (He.out.ext Hx4.out) (by have:=HD.out;omega) (by have:=HD.out;omega)).mono ?_;rintro e w5 ⟨rfl,hx5⟩;have Hx5:=hid (Hx4.out.trans hx5);clear hx5;go_wp2_with fail
  refine (zbR (zhi p x * zhj p y) (zhi p y * zhj p x) w5 (by have:=HD.out;omega) (by have:=HD.out;omega)).mono ?_;rintro e w6 ⟨rfl,rfl⟩;go_wp2
  go_ret2
  exact ⟨rfl,Hx5.out⟩
 ·rw [if_pos h0];have ht:(ziQ p x y != 0)=true:=by rw [bne_iff_ne];exact h0
  generalize ziQ p x y=r at *;clear h0;go_enter Tryz.func37,Tryz.ntmps37
  go_wp2_with fail
  refine Hc.out.mono ?_;rintro e w1 ⟨rfl,rfl⟩;go_wp2
  go_ret2
  exact ⟨rfl,Hext.out⟩
theorem ziW (z:Int)(w:World):Calls Tryz.prog 82 #[.int .i64 z] w fun e w'=>e=.returned (.bool (z != 0))∧∃ q,w'=w.drewN q:=by
 cases hd:(z != 0)
 all_goals
  go_enter Tryz.func82,Tryz.ntmps82
  go_wp2
  go_ret
  exact ⟨rfl,0,rfl⟩
theorem ziX (w:World):Go.Proofs.PredAt Tryz.prog 82 #[] (Value.int .i64) (fun n=>n != 0) w:=fun W x _=>ziW x W
theorem ziY : ∀ args w,(callFunc 82 args).run Tryz.prog w=.ok (.enter 82 args) w:=enters_of Tryz.func82 (by kernel_rfl) rfl
theorem ziZ (a:Option Addr)(cap:Nat)(x:List Int)(w:World)(hl:x.length≤1000000)
  (hc:∀ i u,(zaA x)[i]?=some u→∃ b off,a=some ⟨b,off,none⟩∧w.cell? ⟨b,off+i,none⟩=some u) :
  Calls Tryz.prog 42 #[.slice a x.length cap,.func (.func 82) #[] #[]] w fun e w'=>e=.returned (.bool (x.any fun n=>n != 0))∧Ext w w':=by
 cases x with
 | nil=>exact (AnyE.slices_ContainsFunc_empty Tryz.lContainsR a cap _ w).mono fun e w' ⟨h,hw⟩=>⟨h,by rw [hw];exact Ext.refl _⟩
 | cons z r =>
  obtain ⟨b,off,rfl,_⟩:=hc 0 _ (zaF (l:=z::r) (by simp))
  have h:=AnyE.slices_ContainsFunc Tryz.lContainsR (Value.int .i64) (fun n=>n != 0) 82 #[] ziY b off (z::r).length cap (z::r) w (ziX w) (Nat.le_refl _) (by omega) (fun j hj=>by
   obtain ⟨b2,off2,e2,hcell⟩:=hc j _ (zaF hj);simp only [Option.some.injEq,Addr.mk.injEq,and_true] at e2;obtain ⟨rfl,rfl⟩:=e2;rw [hcell];unfold zaD;rw [List.getD_eq_getElem?_getD,List.getElem?_eq_getElem hj,getElem!_pos _ j hj];rfl)
  rw [List.take_length] at h
  exact h.mono fun e w' ⟨he,q,hw⟩=>⟨he,by rw [hw];exact (Ext.refl w).drewN q⟩
theorem zja (v:Value)(x:List Int)(w:World)(hv:Sl w v (zaA x))(hl:x.length≤1000000) :
  Calls Tryz.prog 50 #[v] w fun e w'=>e=.returned (.bool (!x.any fun n=>n != 0))∧Ext w w':=by
 obtain ⟨a,cap,rfl,_,_,hc⟩:=hv.parts;rw [zaC];have hcon:=ziZ a cap x w hl hc;clear hc hv;generalize (x.any fun n=>n != 0)=b at *;have Hcon:=hid hcon;clear hcon;go_enter Tryz.func50,Tryz.ntmps50
 go_wp2_with fail
 refine Hcon.out.mono ?_;rintro e w1 ⟨rfl,hx1⟩;have Hx1:=hid hx1;clear hx1;go_wp2
 go_ret
 exact ⟨rfl,Hx1.out⟩
end
section
open Go.RowKit Go.Lib
open Go.RowKit Go.Lib Go.Shelf
theorem zjb (n:Int)(w:World):Calls Tryz.prog 107 #[.int .i64 n] w fun e w'=>e=.returned (.bool (!zhx n))∧∃ q,w'=w.drewN q:=by
 unfold zhx;by_cases h1:1000000000<n
 ·rw [decide_eq_false (fun h=>by omega)];have hd:decide (1000000000<n)=true:=decide_eq_true h1;go_enter Tryz.func107,Tryz.ntmps107
  go_wp2
  go_ret
  exact ⟨rfl,0,rfl⟩
 ·have hd:decide (1000000000<n)=false:=decide_eq_false h1;by_cases h2:n < -1000000000
  ·rw [decide_eq_false (fun h=>by omega)];have hd2:decide (n < -1000000000)=true:=decide_eq_true h2;go_enter Tryz.func107,Tryz.ntmps107
   go_wp2
   go_ret
   exact ⟨rfl,0,rfl⟩
  ·rw [decide_eq_true ⟨by omega,by omega⟩];have hd2:decide (n < -1000000000)=false:=decide_eq_false h2;go_enter Tryz.func107,Tryz.ntmps107
   go_wp2
   go_ret
   exact ⟨rfl,0,rfl⟩
theorem zjc (w:World):Go.Proofs.PredAt Tryz.prog 107 #[] (Value.int .i64) (fun n=>!zhx n) w:=fun W x _=>zjb x W
theorem zjd : ∀ args w,(callFunc 107 args).run Tryz.prog w=.ok (.enter 107 args) w:=enters_of Tryz.func107 (by kernel_rfl) rfl
theorem zje (a:Option Addr)(cap:Nat)(x:List Int)(w:World)(hl:x.length≤1000000)
  (hc:∀ i u,(zaA x)[i]?=some u→∃ b off,a=some ⟨b,off,none⟩∧w.cell? ⟨b,off+i,none⟩=some u) :
  Calls Tryz.prog 42 #[.slice a x.length cap,.func (.func 107) #[] #[]] w fun e w'=>e=.returned (.bool (x.any fun n=>!zhx n))∧Ext w w':=by
 cases x with
 | nil=>exact (AnyE.slices_ContainsFunc_empty Tryz.lContainsR a cap _ w).mono fun e w' ⟨h,hw⟩=>⟨h,by rw [hw];exact Ext.refl _⟩
 | cons z r =>
  obtain ⟨b,off,rfl,_⟩:=hc 0 _ (zaF (l:=z::r) (by simp))
  have h:=AnyE.slices_ContainsFunc Tryz.lContainsR (Value.int .i64) (fun n=>!zhx n) 107 #[] zjd b off (z::r).length cap (z::r) w (zjc w) (Nat.le_refl _) (by omega) (fun j hj=>by
   obtain ⟨b2,off2,e2,hcell⟩:=hc j _ (zaF hj);simp only [Option.some.injEq,Addr.mk.injEq,and_true] at e2;obtain ⟨rfl,rfl⟩:=e2;rw [hcell];unfold zaD;rw [List.getD_eq_getElem?_getD,List.getElem?_eq_getElem hj,getElem!_pos _ j hj];rfl)
  rw [List.take_length] at h
  exact h.mono fun e w' ⟨he,q,hw⟩=>⟨he,by rw [hw];exact (Ext.refl w).drewN q⟩
def zjf (n:Nat)(x:List Int):Int:=if 12<x.length then 4 else if x.length ≠ n then 5 else if x.any (fun z=>!zhx z)=true then 4 else 0
def zjg (n:Nat):List (List Int)→Int
 | []=>0
 | x::r=>if zjf n x ≠ 0 then zjf n x else zjg n r
def zjh (m:List (List Int)):Int:=if 12<m.length then 4 else zjg (m.getD 0 []).length m
theorem zji {n:Nat}{l:List (List Int)}{k:Nat}(hk:k<l.length):zjg n (l.drop k)=if zjf n (l.getD k []) ≠ 0 then zjf n (l.getD k []) else zjg n (l.drop (k+1)):=by
 rw [List.drop_eq_getElem_cons hk,zjg];rw [List.getD_eq_getElem?_getD,List.getElem?_eq_getElem hk];rfl
theorem zjj (vm:Value)(m:List (List Int))(w:World)(hm:Mat w vm m)(hrow:∀ i,(m.getD i []).length≤1000000)(hml:m.length≤1000000) :
  Calls Tryz.prog 79 #[vm] w fun e w'=>e=.returned (.int .i64 (zjh m))∧Ext w w':=by
 obtain ⟨vs,hvs,hsl,hr⟩:=hm;obtain ⟨am,cm,rfl,_,_,hcm⟩:=hsl.parts;rw [hvs];by_cases h12:12<m.length
 ·have ht:zjh m=4:=by unfold zjh;rw [if_pos h12]
  rw [ht];clear ht hcm hsl hr hrow hvs;go_enter Tryz.func79,Tryz.ntmps79
  go_wp2
  go_ret
  exact ⟨rfl,Ext.refl _⟩
 ·obtain ⟨r,hr0⟩:∃ r,r=zjh m:=⟨_,rfl⟩;rw [← hr0];have ht:r=zjg (m.getD 0 []).length m:=by rw [hr0];unfold zjh;rw [if_neg h12]
  obtain ⟨n0,hn0⟩:∃ n0,n0=(m.getD 0 []).length:=⟨_,rfl⟩;rw [← hn0] at ht;have hn0b:n0≤1000000:=by rw [hn0];exact hrow 0
  have Ht:=hid ht;have Hcm:=hid hcm;have Hr:=hid hr;have Hrow:=hid hrow;have Hvs:=hid hvs;have Hn0:=hid hn0;clear ht hcm hsl hr hrow hvs hr0 hn0;go_enter Tryz.func79,Tryz.ntmps79
  go_wp2_with fail
  go_loopw [10] (fun i wr=>∃ k:Nat,i=.int .i64 k∧k≤m.length∧r=zjg n0 (m.drop k)∧Ext w wr) (fun i _=>m.length - (za6 i).toNat)
  case atStart=>exact ⟨0,rfl,Nat.zero_le _,Ht.out,Ext.refl _⟩
  case round =>
   obtain ⟨k,rfl,hk,hrk,hext⟩:=hrel;have Hrk:=hid hrk;have Hext:=hid hext;clear hrk hext;by_cases hkl:k<m.length
   ·obtain ⟨u,hu⟩:∃ u,vs[k]?=some u:=⟨_,List.getElem?_eq_getElem (by rw [Hvs.out];exact hkl)⟩;obtain ⟨u0,hu0⟩:∃ u,vs[0]?=some u:=⟨_,List.getElem?_eq_getElem (by rw [Hvs.out];omega)⟩;obtain ⟨b,off,e1,hcu⟩:=Hcm.out k u hu;obtain ⟨b2,off2,e2,hcu0⟩:=Hcm.out 0 u0 hu0;subst e1;injection e2 with e2;injection e2 with e3 e4 _;subst e3;subst e4;have hs:=Hr.out k u hu;have hs0:=Hr.out 0 u0 hu0;have hxl:=Hrow.out k;have hrd:=zji (n:=n0) hkl;rw [← Hrk.out] at hrd;generalize m.getD k []=x at *;obtain ⟨a0,c0,rfl,_,_,_⟩:=hs0.parts;rw [zaC,← Hn0.out] at hcu0;obtain ⟨ax,cx,rfl,_,_,hcx⟩:=hs.parts;rw [zaC] at hcu;have h1:=Hext.out.cell hcu;have h2:=Hext.out.cell hcu0;have hcon:=fun W (h:Ext w W)=>zje ax cx x W hxl (fun i u hu=>by
     obtain ⟨b,off,e,hc⟩:=hcx i u hu;exact ⟨b,off,e,h.cell hc⟩)
    have Hcon:=hid hcon;clear hcu hcu0 hs hs0 hcx hcon hu hu0;rw [Nat.add_zero] at h2;have hk0:(0:Int)≤(k:Int):=(by omega);have hk1:(k:Int)<(m.length:Int):=(by omega);have hm0:(0:Int)<(m.length:Int):=(by omega);by_cases hx12:12<x.length
    ·have ht:zjf n0 x=4:=(by unfold zjf;rw [if_pos hx12]);rw [ht,if_pos (by decide)] at hrd;subst hrd;go_wp2
     go_ret
     exact ⟨rfl,Hext.out⟩
    ·by_cases hxn:x.length=n0
     ·have ht:zjf n0 x=if x.any (fun z=>!zhx z)=true then 4 else 0:=(by unfold zjf;rw [if_neg hx12,if_neg (by simpa using hxn)]);have hne:((x.length:Int) != (n0:Int))=false:=(by rw [bne_eq_false_iff_eq];omega);rw [ht] at hrd;clear ht;generalize x.any (fun z=>!zhx z)=bb at *;have Hrd:=hid hrd;have Hxn:=hid hxn;clear hrd hxn
      cases bb with
      | true =>
       have hr4:r=4:=by have:=Hrd.out;simpa using this
       subst hr4
       go_wp2_with fail
       refine (Hcon.out wr Hext.out).mono ?_
       rintro e w1 ⟨rfl,hx1⟩
       have Hx1:=hid hx1;clear hx1
       go_wp2
       go_ret
       exact ⟨rfl,Hext.out.trans Hx1.out⟩
      | false =>
       have hr5:r=zjg n0 (m.drop (k+1)):=by have:=Hrd.out;simpa using this
       have Hr5:=hid hr5;clear hr5
       go_wp2_with fail
       refine (Hcon.out wr Hext.out).mono ?_
       rintro e w1 ⟨rfl,hx1⟩
       have Hx1:=hid hx1;clear hx1
       go_wp2
       go_roundw
       case rel=>exact ⟨k+1,by go_num,by omega,Hr5.out,Hext.out.trans Hx1.out⟩
       case measure=>simp [za6];omega
     ·have ht:zjf n0 x=5:=(by unfold zjf;rw [if_neg hx12,if_pos hxn]);have hne:((x.length:Int) != (n0:Int))=true:=(by rw [bne_iff_ne];omega);rw [ht,if_pos (by decide)] at hrd;subst hrd;clear hxn;go_wp2
      go_ret
      exact ⟨rfl,Hext.out⟩
   ·have hr0:r=0:=(by rw [Hrk.out,List.drop_of_length_le (by omega)];rfl);subst hr0;go_wp2
    go_ret
    exact ⟨rfl,Hext.out⟩
def zjk (k n:Nat)(v z:Value):List Value:=List.replicate k v++List.replicate (n - k) z
theorem zjl {k n:Nat}(v z:Value):splice (zjk k n v z) k (List.replicate (Nat.min k (n - k)) v)=zjk (k+Nat.min k (n - k)) n v z:=by
 have hm:Nat.min k (n - k)≤n - k:=Nat.min_le_right _ _;unfold splice zjk;rw [List.take_append_of_le_length (by simp),List.take_of_length_le (by simp),List.length_replicate,List.drop_append,List.drop_of_length_le (by simp),List.nil_append,List.length_replicate,← List.append_assoc,List.drop_replicate,List.replicate_append_replicate];congr 2;omega
theorem zjm {k n:Nat}(v z:Value)(h:k≤n):(zjk k n v z).length=n:=by unfold zjk;simp;omega
theorem zjn : (Tryz.prog.info? 103).map (·.size)=some 1:=by kernel_rfl
theorem zjo (n:Nat)(v z:Value)(hz:z=.string ByteArray.empty)(w:World)(h:n≤1000):(Instr.makeSlice 119 (.int .i64 (n:Int)) (.int .i64 (n:Int))).run Tryz.prog w=.ok (.slice (some ⟨w.heap.size,0,none⟩) n n) (w.alloc (.cells (zjk 0 n v z).toArray 103)):=by
 subst hz;obtain ⟨i0,hi,hz0,hz1,hz2⟩:=info_parts zg0;have h1:=run_make (P:=Tryz.prog) w 119 103 i0 (.string ByteArray.empty) Tryz.underlying119 hi hz0 .i64 .i64 (n:Int) (n:Int) (by omega) (Int.le_refl _) (by rw [hz2];omega) (by omega);rw [h1,hz1,Int.toNat_natCast,Nat.mul_one];have h2:madeCells (Value.string ByteArray.empty).cells n=(zjk 0 n v (.string ByteArray.empty)).toArray:=by
  apply Array.ext';show (madeCells #[Value.string ByteArray.empty] n).toList=_;rw [toList_madeCells_one];unfold zjk;simp
 rw [h2]
theorem zjq {n:Nat}(v z:Value):splice (zjk 0 n v z) 0 [v]=zjk 1 n v z:=by
 unfold splice zjk;simp
theorem zjr (x y:Nat)(hx:x<18446744073709551616)(hy:y<18446744073709551616)(w:World) :
  Calls Tryz.prog 100 #[.int .u64 x,.int .u64 y] w fun e w'=>e=.returned (.tuple #[.int .u64 ((x * y / 18446744073709551616:Nat):Int),.int .u64 ((x * y % 18446744073709551616:Nat):Int)])∧w'=w:=Any.bits_Mul Tryz.lBitsMul x y hx hy w
theorem zjs (b:Nat)(v z:Value)(hz:z=.string ByteArray.empty)(hv:v.oneCell'=true)(n:Nat)(w:World)(hn:n≤1000)(hnp:0<n)(hc:w.cell? ⟨b,0,none⟩=some v) :
  Calls Tryz.prog 73 #[.slice (some ⟨b,0,none⟩) 1 1,.int .i64 n] w fun e w'=>e=.returned (.slice (some ⟨w.heap.size,0,none⟩) n n)∧w'.heap[w.heap.size]?=some (.cells (zjk n n v z).toArray 103 (0,0))∧Ext w w':=by
 have hmul:=zjr 1 n (by omega) (by omega) w;rw [show 1 * n / 18446744073709551616=0 by omega,show 1 * n % 18446744073709551616=n by omega] at hmul;have Hmul:=hid hmul;have hmk:=zjo n v z hz w hn;clear hmul;have hn0:(0:Int)≤(n:Int):=by omega
 have hn1:(n:Int)≤1000:=by omega
 have hw1:IntKind.u64.wrap (n:Int)=(n:Int):=by rw [IntKind.wrap_u64];omega
 have hw2:IntKind.i64.wrap (n:Int)=(n:Int):=by rw [IntKind.wrap_i64];omega
 go_enter Tryz.func73,Tryz.ntmps73
 go_wp2_with fail
 refine Hmul.out.mono ?_;rintro e w1 ⟨rfl,hw1⟩;rw [hw1];clear hw1 w1;have hE0:Ext w (w.alloc (.cells (zjk 0 n v z).toArray 103)):=(Ext.refl w).alloc _;have hg0:(w.alloc (.cells (zjk 0 n v z).toArray 103)).heap[w.heap.size]?=some (.cells (zjk 0 n v z).toArray 103 (0,0)):=World.alloc_heap_new w _;have hc0:=hE0.cell hc;generalize hw0:w.alloc (.cells (zjk 0 n v z).toArray 103)=W0 at *;have HE0:=hid hE0;have Hg0:=hid hg0;have Hc0:=hid hc0;clear hE0 hg0 hc0 hc Hmul;have Hv1:=hid hv;clear hv hz;have k1:[v].length=Nat.min 1 n:=by rw [show Nat.min 1 n=1 from Nat.min_eq_left hnp];rfl
 have k2:∀ j u,[v][j]?=some u→W0.cell? (Addr.add ⟨b,0,none⟩ j)=some u:=fun j u hu=>by
  cases j with
  | zero=>injection hu with hu;subst hu;exact Hc0.out
  | succ j=>simp at hu
 have k3:0+[v].length≤(zjk 0 n v z).length:=by rw [zjm v z (Nat.zero_le _)];simp;omega
 have k4:∀ u∈[v],u.oneCell'=true:=fun u hu=>by
  have:=List.mem_singleton.1 hu;subst this;exact Hv1.out
 have K1:=hid k1;have K2:=hid k2;have K3:=hid k3;have K4:=hid k4;clear k1 k2 k3 k4;go_wp2_with ((with_reducible show wpList _ _ _ (⟨some 33,_,_,_,_,_⟩::_) _ _);(refine wpList_copy_splice (o:=⟨some 33,_,_,_,_,_⟩) rfl (.tmp 31) (.tmp 32) 119 119 rfl 103 Tryz.underlying119 zjn _ _ _ _ _ _ rfl rfl w.heap.size 0 (zjk 0 n v z) 103 Hg0.out [v] K1.out (fun _=>⟨rfl,_,rfl,K2.out⟩) K3.out K4.out w.heap.size w HE0.out (Nat.le_refl _) ?_);intro w1 hg1 hb1)
 rw [zjq] at hg1;have HE1:Hid (Ext w w1):=hid hb1;have Hg1:=hg1;clear hb1 hg1 K1 K2 K3 K4;go_loopw [8] (fun v8 wr=>∃ k:Nat,v8=.int .i64 k∧0<k∧k≤n∧wr.heap[w.heap.size]?=some (.cells (zjk k n v z).toArray 103 (0,0))∧Ext w wr) (fun v8 _=>n - (za6 v8).toNat)
 case atStart=>exact ⟨1,rfl,by omega,hnp,Hg1.out,HE1.out⟩
 case round =>
  obtain ⟨k,rfl,hk0,hk,hg,hE⟩:=hrel;have Hg:=hid hg;have HE:=hid hE;clear hg hE;by_cases hkn:k<n
  ·have k1:(List.replicate (Nat.min k (n - k)) v).length=Nat.min k (n - k):=List.length_replicate;have k2:∀ j u,(List.replicate (Nat.min k (n - k)) v)[j]?=some u→wr.drew.cell? (Addr.add ⟨w.heap.size,0,none⟩ j)=some u:=fun j u hu=>by
    have hj:j<Nat.min k (n - k):=by
     have:=(List.getElem?_eq_some_iff.1 hu).1;rwa [List.length_replicate] at this
    have hjk:j<k:=Nat.lt_of_lt_of_le hj (Nat.min_le_left _ _);have e:(zjk k n v z)[j]?=some u:=by
     unfold zjk;rw [List.getElem?_append_left (by rw [List.length_replicate];exact hjk)];rw [List.getElem?_replicate,if_pos hj] at hu;rw [List.getElem?_replicate,if_pos hjk];exact hu
    rw [show (Addr.add ⟨w.heap.size,0,none⟩ j)=⟨w.heap.size,0+j,none⟩ by unfold Addr.add;split <;> simp_all]
    unfold World.cell?;dsimp only;rw [show wr.drew.heap[w.heap.size]?=_ from Hg.out];simpa using e
   have k3:k+(List.replicate (Nat.min k (n - k)) v).length≤(zjk k n v z).length:=by
    rw [zjm v z hk,List.length_replicate];have h7:Nat.min k (n - k)≤n - k:=Nat.min_le_right _ _;generalize Nat.min k (n - k)=m at *;omega
   have k4:∀ u∈List.replicate (Nat.min k (n - k)) v,u.oneCell'=true:=fun u hu=>by
    have:=List.eq_of_mem_replicate hu;subst this;exact Hv1.out
   have k5:=zjl (k:=k) (n:=n) v z;have k6:0<Nat.min k (n - k):=Nat.lt_min.2 ⟨hk0,by omega⟩;have k7:Nat.min k (n - k)≤n - k:=Nat.min_le_right _ _;generalize hcs:List.replicate (Nat.min k (n - k)) v=cs at *;generalize hm:Nat.min k (n - k)=m at *;have K1:=hid k1;have K2:=hid k2;have K3:=hid k3;have K4:=hid k4;have K5:=hid k5;have Hm:=hid hm;have hw3:IntKind.i64.wrap ((k:Int)+(m:Int))=((k+m:Nat):Int):=(by rw [IntKind.wrap_i64];omega);clear k1 k2 k3 k4 k5 hcs hm;have hki:(k:Int)<(n:Int):=(by omega);have hk0i:(0:Int)≤(k:Int):=(by omega);go_wp2_with fail
   have hgd:wr.drew.heap[w.heap.size]?=some (.cells (zjk k n v z).toArray 103 (0,0)):=Hg.out;have hEd:Ext w wr.drew:=HE.out.drewN 1;have Hgd:=hid hgd;have HEd:=hid hEd;clear hgd hEd;have hnk:¬ n=k:=(by omega);go_region_law ((refine step_copy_splice rfl (.tmp 41) (.tmp 44) 119 119 rfl 103 Tryz.underlying119 zjn (some ⟨w.heap.size,k,none⟩) (some ⟨w.heap.size,0,none⟩) (n - k) (n - k) k n (by simp [Act.eval,Act.put]) (by simp [Act.eval,Act.put]) w.heap.size k (zjk k n v z) 103 Hgd.out cs (K1.out.trans Hm.out.symm) (fun _=>⟨rfl,_,rfl,K2.out⟩) K3.out K4.out w.heap.size w HEd.out (Nat.le_refl _) ?_);intro w4 hg4 hb4)
   rw [K5.out] at hg4;rw [K1.out];have Hb4:Hid (Ext w w4):=hid hb4;clear hb4;go_simp
   go_roundw
   case rel=>exact ⟨_,_,_,_,_,_,_,_,_,_,_,_,_,_,⟨k+m,rfl,by omega,by omega,hg4.out,Hb4.out⟩,rfl⟩
   case measure=>simp [za6];omega
  ·obtain rfl:k=n:=by omega
   go_wp2
   go_ret
   exact ⟨rfl,Hg.out,HE.out⟩
def zjt (k:Int)(a b:List Int)(j:Nat):List Int:=(List.zipWith (fun x y=>x - k * y) a b).take j++a.drop j
theorem zju (k:Int)(a b:List Int):zjt k a b 0=a:=by simp [zjt]
theorem zjv {k:Int}{a b:List Int}{n:Nat}(ha:a.length=n)(hb:b.length=n):zjt k a b n=List.zipWith (fun x y=>x - k * y) a b:=by
 unfold zjt;rw [List.drop_of_length_le (by omega),List.append_nil,List.take_of_length_le (by simp;omega)]
theorem zjw {k:Int}{a b:List Int}{n j:Nat}(ha:a.length=n)(hb:b.length=n)(hj:j<n):(zjt k a b j).set j (zaD a j - k * zaD b j)=zjt k a b (j+1):=by
 have hz:(List.zipWith (fun x y=>x - k * y) a b).length=n:=by simp;omega
 unfold zjt;rw [List.take_succ_eq_append_getElem (by omega),List.set_append_right _ _ (by simp;omega)];rw [show (List.take j (List.zipWith (fun x y=>x - k * y) a b)).length=j by simp;omega,Nat.sub_self,List.drop_eq_getElem_cons (by omega),List.set_cons_zero,List.append_assoc];congr 1;simp only [List.getElem_zipWith,List.singleton_append,List.cons.injEq,and_true];unfold zaD;rw [List.getD_eq_getElem?_getD,List.getElem?_eq_getElem (by omega),List.getD_eq_getElem?_getD,List.getElem?_eq_getElem (by omega)];rfl
theorem zjx {k:Int}{a b:List Int}{n j:Nat}(ha:a.length=n)(hb:b.length=n)(hj:j<n):(zjt k a b j)[j]?=some (zaD a j):=by
 have hz:(List.zipWith (fun x y=>x - k * y) a b).length=n:=by simp;omega
 unfold zjt;rw [List.getElem?_append_right (by simp;omega),List.length_take,hz,Nat.min_eq_left (by omega),Nat.sub_self,List.getElem?_drop];unfold zaD;rw [List.getD_eq_getElem?_getD,Nat.add_zero,List.getElem?_eq_getElem (by omega)];rfl
theorem zjy (l:List Int)(j:Nat)(z:Int):(zgy l).set j (.string (I z))=zgy (l.set j z):=by
 unfold zgy;rw [List.map_set]
theorem zjz {w:World}{B E g n cap:Nat}{xs:List Value}(h:w.ownsRow B E 1 (.slice (some ⟨g,0,none⟩) n cap) n xs){j:Nat}{u:Value}(hj:xs[j]?=some u):w.cell? ⟨g,j,none⟩=some u:=by
 have:=h.cells (g:=g) rfl j u hj;rwa [show ((⟨g,0,none⟩:Addr).add j)=⟨g,j,none⟩ by unfold Addr.add;split <;> simp_all] at this
end
end Go.Proofs.YtkdgmahilfnnmaaGreatDoor
