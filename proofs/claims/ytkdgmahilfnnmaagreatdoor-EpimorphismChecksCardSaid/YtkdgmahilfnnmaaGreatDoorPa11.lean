/- Walks: monzo's Check, CheckAll, sides and Sign, row's Check: out of XIvlA. (Printed by rebase.py.) Walk: size.Of of a right interval. (KEEPALL) Walk: epimorphism.plus: a row and a multiple of another one. (KEEPALL) A region that draws, within a round of a loop over a function: the walk that serves outside of rounds serves there too, where nothing is deferred. -/
import Derived.Test.YtkdgmahilfnnmaaGreatDoorPa02
import Derived.Test.YtkdgmahilfnnmaaGreatDoorPa10
import Derived.RangeFuncNested
import Derived.RangeFuncBound
import Derived.RangeFuncCalls
import Derived.RangeFuncLeaves
import Derived.RangeFuncBox
import Derived.RangeFuncWrites
import Derived.Shelf.Abstract
import Derived.OwnWalkIn
import Derived.TacticsInMore
import Derived.LoopNIn
import Derived.LoopIn
import Derived.Maps.AppendAt
import Derived.Test.YtkdgmahilfnnmaaGreatDoorShelfA
import Derived.Test.YtkdgmahilfnnmaaGreatDoorShelfM
import Derived.Shelf.SlicesE.IndexFunc
import Derived.Test.YtkdgmahilfnnmaaGreatDoorPa09
import Derived.RegionTactic
import Derived.Test.YtkdgmahilfnnmaaGreatDoorProg
import Derived.BigRegionIn
import Derived.Deep.RegionHeld3
set_option maxRecDepth 100000
set_option maxHeartbeats 2000000
namespace Go.Proofs.YtkdgmahilfnnmaaGreatDoor
section
open Go.RowKit Go.Lib
attribute [local go_sem] Oper.semAt_some
def Mat (w:World)(v:Value)(l:List (List Int)):Prop :=
 ∃ vs:List Value,vs.length=l.length∧Sl w v vs∧∀ i u,vs[i]?=some u→Sl w u (zaA (l.getD i []))
def far (z:Int):Bool:=decide (1000<z) || decide (z < -1000)
def zgU (n:Nat)(x:List Int):Int:=if x.length ≠ n then 5 else if x.any far then 4 else 0
def zgV (n:Nat):List (List Int)→Int
 | []=>0
 | x::r=>if zgU n x ≠ 0 then zgU n x else zgV n r
def zgW (p:List Int)(l:List (List Int)):Int:=if zcG p ≠ 0 then zcG p else zgV p.length l
theorem zgX {z:Int}(h:1000<z):far z=true:=by unfold far;rw [decide_eq_true h];rfl
theorem zgY {z:Int}(h:z < -1000):far z=true:=by unfold far;rw [decide_eq_true h];simp
theorem zgZ {z:Int}(h1:¬ 1000<z)(h2:¬ z < -1000):far z=false:=by unfold far;rw [decide_eq_false h1,decide_eq_false h2];rfl
theorem zha {x:List Int}{k:Nat}(hk:k<x.length)(h:far (zaD x k)=true):x.any far=true :=
 List.any_eq_true.2 ⟨_,zaG hk,h⟩
theorem zhb {x:List Int}(h:∀ k,k<x.length→far (zaD x k)=false):x.any far=false:=by
 rw [List.any_eq_false];intro z hz;obtain ⟨k,hk,rfl⟩:=List.getElem_of_mem hz;have:=h k hk;unfold zaD at this;rw [List.getD_eq_getElem?_getD,List.getElem?_eq_getElem hk] at this;simpa using this
theorem zhc {n:Nat}{l:List (List Int)}{k:Nat}(hk:k<l.length):zgV n (l.drop k)=if zgU n (l.getD k []) ≠ 0 then zgU n (l.getD k []) else zgV n (l.drop (k+1)):=by
 rw [List.drop_eq_getElem_cons hk,zgV];rw [List.getD_eq_getElem?_getD,List.getElem?_eq_getElem hk];rfl
theorem zhd (vp vl:Value)(p:List Int)(l:List (List Int))(w:World)(hp:Sl w vp (zaA p))(hl:Mat w vl l)(hlp:p.length≤1000000)(hll:l.length≤1000000)(hrow:∀ i,(l.getD i []).length≤1000000) :
  Calls Tryz.prog 48 #[vp,vl] w fun e w'=>e=.returned (.int .i64 (zgW p l))∧w=w':=by
 have hpc:=zcH vp p w hp hlp;obtain ⟨ap,cp,rfl,_,_,_⟩:=hp.parts;rw [zaC] at *;have Hpc:=Lib.hid hpc;clear hpc;obtain ⟨vs,hvs,hsl,hrows⟩:=hl;obtain ⟨a,cap,rfl,_,_,hc⟩:=hsl.parts;rw [hvs];have Hc:=Lib.hid hc;clear hc hsl;have Hrows:=Lib.hid hrows;clear hrows;have Hvs:=Lib.hid hvs;clear hvs;have Hrow:=Lib.hid hrow;clear hrow;unfold zgW;generalize hpe:zcG p=pe at *;have Hpe:=Lib.hid hpe;clear hpe;by_cases hp0:pe=0
 ·subst hp0;rw [if_neg (by simp)];obtain ⟨r,hr⟩:∃ r,r=zgV p.length l:=⟨_,rfl⟩;rw [← hr];have Hr:=Lib.hid hr;clear hr;go_enter Tryz.func48,Tryz.ntmps48
  go_wp2_with fail
  refine Hpc.out.mono ?_;rintro e w1 ⟨rfl,rfl⟩;go_wp2
  go_loop [17] (fun i=>∃ k:Nat,i=.int .i64 k∧k≤l.length∧r=zgV p.length (l.drop k)) (fun i=>l.length - (za6 i).toNat)
  case atStart=>exact ⟨0,rfl,Nat.zero_le _,by rw [List.drop_zero];exact Hr.out⟩
  case round =>
   obtain ⟨k,rfl,hk,hr⟩:=hrel;by_cases hlt:k<l.length
   ·obtain ⟨u,hu⟩:∃ u,vs[k]?=some u:=⟨_,List.getElem?_eq_getElem (by rw [Hvs.out];exact hlt)⟩;obtain ⟨b,off,rfl,hcell⟩:=Hc.out k u hu;have hrk:=Hrows.out k u hu;have hxl:=Hrow.out k;rw [zhc hlt] at hr;generalize hx:l.getD k []=x at *;have Hx:=Lib.hid hx;clear hx hu;obtain ⟨ax,cx,rfl,_,_,hcx⟩:=hrk.parts;rw [zaC] at hcell;have Hcx:=Lib.hid hcx;clear hcx hrk;by_cases hne:x.length=p.length
    ·have ht:((x.length:Int) != (p.length:Int))=false:=(by rw [bne_eq_false_iff_eq];omega);have hre:zgU p.length x=if x.any far then 4 else 0:=(by unfold zgU;rw [if_neg (by simpa using hne)]);rw [hre] at hr;have Hr2:=Lib.hid hr;clear hr hre hne;go_wp2
     go_loop [28] (fun i=>∃ j:Nat,i=.int .i64 j∧j≤x.length∧∀ t,t<j→far (zaD x t)=false) (fun i=>x.length - (za6 i).toNat)
     case atStart=>exact ⟨0,rfl,Nat.zero_le _,fun t ht=>by omega⟩
     case round =>
      obtain ⟨j,rfl,hj,hfar⟩:=hrel;have Hfar:=Lib.hid hfar;clear hfar;by_cases hjl:j<x.length
      ·obtain ⟨b2,off2,rfl,hcell2⟩:=Hcx.out j _ (zaF hjl);have h3:(1000<zaD x j)∨(¬ 1000<zaD x j∧zaD x j < -1000)∨(¬ 1000<zaD x j∧¬ zaD x j < -1000):=(by omega);rcases h3 with g | ⟨g,g2⟩ | ⟨g,g2⟩
       ·have hr4:r=4:=(by rw [Hr2.out,if_pos (zha hjl (zgX g)),if_pos (by simp)]);have Hr4:=Lib.hid hr4;clear hr4;generalize zaD x j=z at *;go_wp2
        go_ret
        exact ⟨zb3 Hr4.out.symm,rfl⟩
       ·have hr4:r=4:=(by rw [Hr2.out,if_pos (zha hjl (zgY g2)),if_pos (by simp)]);have Hr4:=Lib.hid hr4;clear hr4;generalize zaD x j=z at *;go_wp2
        go_ret
        exact ⟨zb3 Hr4.out.symm,rfl⟩
       ·have hfj:=zgZ g g2;have Hfj:=Lib.hid hfj;clear hfj;generalize hz:zaD x j=z at *;have Hz:=Lib.hid hz;clear hz;go_wp2
        go_round
        case rel=>exact ⟨j+1,by go_num,by omega,fun t h4=>by
         rcases Nat.lt_or_ge t j with g3 | g3
         ·exact Hfar.out t g3
         ·rw [show t=j by omega,Hz.out];exact Hfj.out⟩
        case measure=>simp [za6];omega
      ·have hall:x.any far=false:=zhb fun t ht=>Hfar.out t (by omega);have hr5:r=zgV p.length (l.drop (k+1)):=by
        have:=Hr2.out;rw [hall] at this;rw [this];simp
       have Hr5:=Lib.hid hr5;clear hr5 hall;go_wp2
       go_round
       case rel=>exact ⟨k+1,by go_num,by omega,Hr5.out⟩
       case measure=>simp [za6];omega
    ·have ht:((x.length:Int) != (p.length:Int))=true:=(by rw [bne_iff_ne];omega);have hr5:r=5:=by
      rw [hr];unfold zgU;rw [if_pos hne,if_pos (by simp)]
     have Hr5:=Lib.hid hr5;clear hr5 hr hne;go_wp2
     go_ret
     exact ⟨zb3 Hr5.out.symm,rfl⟩
   ·have hr0:r=0:=(by rw [hr,List.drop_eq_nil_of_le (by omega)];rfl);have Hr0:=Lib.hid hr0;clear hr0 hr;go_wp2
    go_ret
    exact ⟨zb3 Hr0.out.symm,rfl⟩
 ·rw [if_pos hp0];have ht:(pe != 0)=true:=by rw [bne_iff_ne];exact hp0
  clear hp0;go_enter Tryz.func48,Tryz.ntmps48
  go_wp2_with fail
  refine Hpc.out.mono ?_;rintro e w1 ⟨rfl,rfl⟩;go_wp2
  go_ret
  exact ⟨rfl,rfl⟩
def zhe (p x:List Int):Int:=zgW p [x]
theorem zhf (vp vx:Value)(p x:List Int)(w:World)(hp:Sl w vp (zaA p))(hx:Sl w vx (zaA x))(hlp:p.length≤1000000)(hlx:x.length≤1000000) :
  Calls Tryz.prog 35 #[vp,vx] w fun e w'=>e=.returned (.int .i64 (zhe p x))∧Ext w w':=by
 have hext:Ext w (w.alloc (.cells #[vx] 26)):=(Ext.refl w).alloc _;have hm:Mat (w.alloc (.cells #[vx] 26)) (.slice (some ⟨w.heap.size,0,none⟩) 1 1) [x]:=by
  refine ⟨[vx],rfl,.inr ⟨w.heap.size,0,1,rfl,Nat.le_refl _,by unfold maxLen;omega,?_⟩,?_⟩
  ·intro i u hu
   cases i with
   | zero=>simp at hu;subst hu;rw [World.cell?_alloc_new];rfl
   | succ i=>simp at hu
  ·intro i u hu
   cases i with
   | zero=>simp at hu;subst hu;exact hext.sl hx
   | succ i=>simp at hu
 have hc:=zhd vp (.slice (some ⟨w.heap.size,0,none⟩) 1 1) p [x] _ (hext.sl hp) hm hlp (by simp) (fun i=>by cases i <;> simp [hlx])
 have Hc:=Lib.hid hc;clear hc hm;have Hext:=Lib.hid hext;clear hext;obtain ⟨ap,cp,rfl,_,_,_⟩:=hp.parts;obtain ⟨ax,cx,rfl,_,_,_⟩:=hx.parts;clear hp hx;go_enter Tryz.func35,Tryz.ntmps35
 go_wp2_with fail
 refine Hc.out.mono ?_;rintro e w1 ⟨rfl,rfl⟩;go_wp2
 go_ret
 exact ⟨rfl,Hext.out⟩
def zhg (p x:List Int):Nat→Nat
 | 0=>1
 | k+1=>if 0<zaD x k then zhg p x k * (zaD p k).toNat ^ (zaD x k).natAbs else zhg p x k
def zhh (p x:List Int):Nat→Nat
 | 0=>1
 | k+1=>if 0<zaD x k then zhh p x k else zhh p x k * (zaD p k).toNat ^ (zaD x k).natAbs
def zhi (p x:List Int):Nat:=zhg p x x.length
def zhj (p x:List Int):Nat:=zhh p x x.length
def zhk (p x:List Int):Prop:=x.length≤p.length∧x.length≤64∧∀ i,i<x.length→0≤zaD p i∧zaD p i<10000∧-1000≤zaD x i∧zaD x i≤1000
theorem zhl {a n:Nat}(ha:a<10000)(hn:n≤1000):nDigits (a ^ n)≤4000:=by
 by_cases h:n=0
 ·subst h;rw [Nat.pow_zero];exact Nat.le_trans (Dec.nDigits_le (n:=1) (k:=1) (by omega) (by omega)) (by omega)
 ·have h1:=zc9 a n (by omega);have h2:nDigits a≤4:=Dec.nDigits_le (by omega) (by omega);have h3:n * nDigits a≤1000 * 4:=Nat.mul_le_mul hn h2;omega
theorem zhm {p x:List Int}(h:zhk p x):∀ k,k≤x.length→nDigits (zhg p x k)≤1+4000 * k
 | 0,_=>Dec.nDigits_le (by omega) (by simp [zhg])
 | k+1,hk=>by
  have ih:=zhm h k (by omega);have h2:=h.2.2 k (by omega);rw [zhg];split
  ·have:=zbW (zhg p x k) ((zaD p k).toNat ^ (zaD x k).natAbs);have:=zhl (a:=(zaD p k).toNat) (n:=(zaD x k).natAbs) (by omega) (by omega);omega
  ·omega
theorem zhn {p x:List Int}(h:zhk p x):∀ k,k≤x.length→nDigits (zhh p x k)≤1+4000 * k
 | 0,_=>Dec.nDigits_le (by omega) (by simp [zhh])
 | k+1,hk=>by
  have ih:=zhn h k (by omega);have h2:=h.2.2 k (by omega);rw [zhh];split
  ·omega
  ·have:=zbW (zhh p x k) ((zaD p k).toNat ^ (zaD x k).natAbs);have:=zhl (a:=(zaD p k).toNat) (n:=(zaD x k).natAbs) (by omega) (by omega);omega
def zho (p x:List Int)(w0:World)(n d i:Value)(wr:World):Prop :=
 ∃ k:Nat,i=.int .i64 k∧k≤x.length∧n=.string (D (zhg p x k))∧d=.string (D (zhh p x k))∧Ext w0 wr
theorem zhp (vp vx:Value)(p x:List Int)(w:World)(he:Env w)(hp:Sl w vp (zaA p))(hx:Sl w vx (zaA x))(hn:zhk p x) :
  Calls Tryz.prog 62 #[vp,vx] w fun e w'=>e=.returned (.tuple #[.string (D (zhi p x)),.string (D (zhj p x))])∧Ext w w':=by
 obtain ⟨ap,cp,rfl,_,_,hcp⟩:=hp.parts;obtain ⟨ax,cx,rfl,_,_,hcx⟩:=hx.parts;rw [zaC,zaC];have Hcp:=Lib.hid hcp;clear hcp hp;have Hcx:=Lib.hid hcx;clear hcx hx;have hl1:=hn.1;have hl2:=hn.2.1;have Hn:=Lib.hid hn;clear hn;have He:=Lib.hid he;clear he;go_enter Tryz.func62,Tryz.ntmps62
 go_wp2
 go_loopw [4,5,12] (fun n d i wr=>zho p x w n d i wr) (fun _ _ i _=>x.length - (za6 i).toNat)
 case atStart=>exact ⟨0,rfl,Nat.zero_le _,by rw [zhg,zbD],by rw [zhh,zbD],Ext.refl _⟩
 case round =>
  obtain ⟨k,rfl,hk,rfl,rfl,hext⟩:=hrel;have Hext:=Lib.hid hext;clear hext;by_cases hlt:k<x.length
  ·obtain ⟨bp,op,rfl,hcellp0⟩:=Hcp.out k _ (zaF (by omega));obtain ⟨bx,ox,rfl,hcellx0⟩:=Hcx.out k _ (zaF hlt);have hcellp:=Hext.out.cell hcellp0;have hcellx:=Hext.out.cell hcellx0;clear hcellp0 hcellx0;have hb:=Hn.out.2.2 k hlt;have hdN:=zhm Hn.out k (by omega);have hdD:=zhn Hn.out k (by omega);have HdN:=Lib.hid hdN;clear hdN;have HdD:=Lib.hid hdD;clear hdD;have hsN:zhg p x (k+1)=if 0<zaD x k then zhg p x k * (zaD p k).toNat ^ (zaD x k).natAbs else zhg p x k:=rfl;have hsD:zhh p x (k+1)=if 0<zaD x k then zhh p x k else zhh p x k * (zaD p k).toNat ^ (zaD x k).natAbs:=rfl;obtain ⟨q,hq⟩:∃ q:Nat,zaD p k=q:=⟨(zaD p k).toNat,by omega⟩;have hq4:q<10000:=(by omega);rw [hq] at hcellp hsN hsD;rw [Int.toNat_natCast] at hsN hsD;have hcase:(∃ e:Nat,0<e∧e≤1000∧zaD x k=e)∨(∃ e:Nat,e≤1000∧zaD x k=-(e:Int)):=by
    by_cases g:0<zaD x k
    ·exact .inl ⟨(zaD x k).toNat,by omega,by omega,by omega⟩
    ·exact .inr ⟨(-(zaD x k)).toNat,by omega,by omega⟩
   rcases hcase with ⟨e,he0,he1,hz⟩ | ⟨e,he1,hz⟩
   ·rw [hz] at hcellx hsN hsD;rw [Int.natAbs_natCast,if_pos (by omega)] at hsN hsD;have hmax:max (e:Int) (-(e:Int))=e:=(by omega);clear hb hq hz;have hpow:nDigits (q ^ e)≤4000:=zhl hq4 he1;have Hpow:=Lib.hid hpow;clear hpow;have HsN:=Lib.hid hsN;clear hsN;have HsD:=Lib.hid hsD;clear hsD;generalize zhg p x k=N at *;generalize zhh p x k=M at *;go_wp2_with fail
    refine (zbh q (by omega) wr (He.out.ext Hext.out)).mono ?_;rintro e1 w1 ⟨rfl,hx1⟩;have Hx1:=Lib.hid hx1;clear hx1;go_wp2_with fail
    refine (zc8 q e w1 ((He.out.ext Hext.out).ext Hx1.out) (Dec.nDigits_le (by omega) (by omega)) (by omega) (by have:=Hpow.out;omega)).mono ?_;rintro e1 w2 ⟨rfl,hx2⟩;have Hx2:=Lib.hid hx2;clear hx2;go_wp2_with fail
    refine (zbX N (q ^ e) w2 (((He.out.ext Hext.out).ext Hx1.out).ext Hx2.out) (by have:=HdN.out;omega) (by have:=Hpow.out;omega)).mono ?_;rintro e1 w3 ⟨rfl,hx3⟩;have Hx3:=Lib.hid hx3;clear hx3;go_wp2
    go_roundw
    case rel=>exact ⟨k+1,by go_num,by omega,by rw [HsN.out],by rw [HsD.out],((Hext.out.trans Hx1.out).trans Hx2.out).trans Hx3.out⟩
    case measure=>simp [za6];omega
   ·rw [hz] at hcellx hsN hsD;rw [Int.natAbs_neg,Int.natAbs_natCast,if_neg (by omega)] at hsN hsD;have hmax:max (-(e:Int)) e=e:=(by omega);clear hb hq hz;have hpow:nDigits (q ^ e)≤4000:=zhl hq4 he1;have Hpow:=Lib.hid hpow;clear hpow;have HsN:=Lib.hid hsN;clear hsN;have HsD:=Lib.hid hsD;clear hsD;generalize zhg p x k=N at *;generalize zhh p x k=M at *;go_wp2_with fail
    refine (zbh q (by omega) wr (He.out.ext Hext.out)).mono ?_;rintro e1 w1 ⟨rfl,hx1⟩;have Hx1:=Lib.hid hx1;clear hx1;go_wp2_with fail
    refine (zc8 q e w1 ((He.out.ext Hext.out).ext Hx1.out) (Dec.nDigits_le (by omega) (by omega)) (by omega) (by have:=Hpow.out;omega)).mono ?_;rintro e1 w2 ⟨rfl,hx2⟩;have Hx2:=Lib.hid hx2;clear hx2;go_wp2_with fail
    refine (zbX M (q ^ e) w2 (((He.out.ext Hext.out).ext Hx1.out).ext Hx2.out) (by have:=HdD.out;omega) (by have:=Hpow.out;omega)).mono ?_;rintro e1 w3 ⟨rfl,hx3⟩;have Hx3:=Lib.hid hx3;clear hx3;go_wp2
    go_roundw
    case rel=>exact ⟨k+1,by go_num,by omega,by rw [HsN.out],by rw [HsD.out],((Hext.out.trans Hx1.out).trans Hx2.out).trans Hx3.out⟩
    case measure=>simp [za6];omega
  ·obtain rfl:k=x.length:=by omega
   go_wp2
   go_ret2
   exact ⟨rfl,Hext.out⟩
theorem zhq {n:Nat}{x:List Int}(h:zgU n x=0):x.length=n∧∀ i,i<x.length→-1000≤zaD x i∧zaD x i≤1000:=by
 unfold zgU at h;by_cases h0:x.length=n
 ·rw [if_neg (by simpa using h0)] at h;by_cases hf:x.any far=true
  ·rw [if_pos hf] at h;omega
  ·refine ⟨h0,fun i hi=>?_⟩;by_cases g1:1000<zaD x i
   ·exact absurd (zha hi (zgX g1)) hf
   ·by_cases g2:zaD x i < -1000
    ·exact absurd (zha hi (zgY g2)) hf
    ·omega
 ·rw [if_pos h0] at h;omega
theorem zhr {p x:List Int}(h:zhe p x=0):zcG p=0∧zgU p.length x=0:=by
 unfold zhe zgW at h;by_cases h0:zcG p=0
 ·rw [if_neg (by simpa using h0)] at h;refine ⟨h0,?_⟩;rw [zgV] at h;by_cases h1:zgU p.length x=0
  ·exact h1
  ·rw [if_pos h1] at h;exact h
 ·rw [if_pos h0] at h;exact absurd h h0
theorem zhs {p x:List Int}(h1:zcG p=0)(h2:zgU p.length x=0):zhk p x:=by
 obtain ⟨a,b,c⟩:=zcK h1;obtain ⟨d,e⟩:=zhq h2;refine ⟨by omega,by omega,fun i hi=>?_⟩;have:=c i (by omega);have:=e i hi;omega
theorem zht {p x:List Int}(h:zhk p x):nDigits (zhi p x)≤256001:=by
 have:=zhm h x.length (Nat.le_refl _);have:=h.2.1;unfold zhi;omega
theorem zhu {p x:List Int}(h:zhk p x):nDigits (zhj p x)≤256001:=by
 have:=zhn h x.length (Nat.le_refl _);have:=h.2.1;unfold zhj;omega
def zhv (p x:List Int):Int:=if zhe p x ≠ 0 then 0 else zb4 (zhi p x:Nat) (zhj p x:Nat)
theorem zhw (vp vx:Value)(p x:List Int)(w:World)(he:Env w)(hp:Sl w vp (zaA p))(hx:Sl w vx (zaA x))(hlp:p.length≤1000000)(hlx:x.length≤1000000) :
  Calls Tryz.prog 36 #[vp,vx] w fun e w'=>e=.returned (.tuple #[.int .i64 (zhv p x),.int .i64 (zhe p x)])∧Ext w w':=by
 have hc:=zhf vp vx p x w hp hx hlp hlx;have Hc:=Lib.hid hc;clear hc;have He:=Lib.hid he;clear he;have Hp:=Lib.hid hp;have Hx:=Lib.hid hx;obtain ⟨ap,cp,rfl,_,_,_⟩:=hp.parts;obtain ⟨ax,cx,rfl,_,_,_⟩:=hx.parts;clear hp hx;unfold zhv;by_cases h0:zhe p x=0
 ·rw [if_neg (by simpa using h0),h0];have hn:=zhs (zhr h0).1 (zhr h0).2;rw [h0] at Hc;have Hn:=Lib.hid hn;clear hn h0;go_enter Tryz.func36,Tryz.ntmps36
  go_wp2_with fail
  refine Hc.out.mono ?_;rintro e w1 ⟨rfl,hx1⟩;have Hx1:=Lib.hid hx1;clear hx1;go_wp2_with fail
  refine (zhp _ _ p x w1 (He.out.ext Hx1.out) (Hx1.out.sl Hp.out) (Hx1.out.sl Hx.out) Hn.out).mono ?_;rintro e w2 ⟨rfl,hx2⟩;have Hx2:=Lib.hid hx2;clear hx2;go_wp2_with fail
  refine (zbR (zhi p x) (zhj p x) w2 (by have:=zht Hn.out;omega) (by have:=zhu Hn.out;omega)).mono ?_;rintro e w3 ⟨rfl,rfl⟩;go_wp2
  go_ret2
  exact ⟨rfl,Hx1.out.trans Hx2.out⟩
 ·rw [if_pos h0];have ht:(zhe p x != 0)=true:=by rw [bne_iff_ne];exact h0
  generalize zhe p x=r at *;clear h0;go_enter Tryz.func36,Tryz.ntmps36
  go_wp2_with fail
  refine Hc.out.mono ?_;rintro e w1 ⟨rfl,hx1⟩;have Hx1:=Lib.hid hx1;clear hx1;go_wp2
  go_ret2
  exact ⟨rfl,Hx1.out⟩
def zhx (n:Int):Bool:=decide (-1000000000≤n∧n≤1000000000)
theorem zhy (n:Int)(w:World):Calls Tryz.prog 60 #[.int .i64 n] w fun e w'=>e=.returned (.bool (zhx n))∧w=w':=by
 unfold zhx;by_cases h1:-1000000000≤n
 ·by_cases h2:n≤1000000000
  ·rw [decide_eq_true ⟨h1,h2⟩];go_enter Tryz.func60,Tryz.ntmps60
   go_wp2
   go_ret
   exact ⟨rfl,rfl⟩
  ·rw [decide_eq_false (fun h=>h2 h.2)];have hd:decide (n≤1000000000)=false:=decide_eq_false h2;go_enter Tryz.func60,Tryz.ntmps60
   go_wp2
   go_ret
   exact ⟨rfl,rfl⟩
 ·rw [decide_eq_false (fun h=>h1 h.1)];have hd:decide (-1000000000≤n)=false:=decide_eq_false h1;go_enter Tryz.func60,Tryz.ntmps60
  go_wp2
  go_ret
  exact ⟨rfl,rfl⟩
theorem zhz (n:Int)(w:World):Calls Tryz.prog 59 #[.int .i64 n] w fun e w'=>e=.returned (.bool (!zhx n))∧∃ q,w'=w.drewN q:=by
 have hf:=zhy n w;have Hf:=Lib.hid hf;clear hf;generalize zhx n=b at *;go_enter Tryz.func59,Tryz.ntmps59
 go_wp2_with fail
 refine Hf.out.mono ?_;rintro e w1 ⟨rfl,rfl⟩;go_wp2
 go_ret
 exact ⟨rfl,0,rfl⟩
theorem zh0 (w:World):Go.Proofs.PredAt Tryz.prog 59 #[] (Value.int .i64) (fun n=>!zhx n) w:=fun W x _=>zhz x W
theorem zh1 : ∀ args w,(callFunc 59 args).run Tryz.prog w=.ok (.enter 59 args) w:=enters_of Tryz.func59 (by kernel_rfl) rfl
def zh2 (x:List Int):Int:=if 64<x.length∨x.any (fun n=>!zhx n)=true then 4 else 0
theorem zh3 (a:Option Addr)(cap:Nat)(x:List Int)(w:World)(hl:x.length≤1000000)
  (hc:∀ i u,(zaA x)[i]?=some u→∃ b off,a=some ⟨b,off,none⟩∧w.cell? ⟨b,off+i,none⟩=some u) :
  Calls Tryz.prog 42 #[.slice a x.length cap,.func (.func 59) #[] #[]] w fun e w'=>e=.returned (.bool (x.any fun n=>!zhx n))∧Ext w w':=by
 cases x with
 | nil=>exact (AnyE.slices_ContainsFunc_empty Tryz.lContainsR a cap _ w).mono fun e w' ⟨h,hw⟩=>⟨h,by rw [hw];exact Ext.refl _⟩
 | cons z r =>
  obtain ⟨b,off,rfl,_⟩:=hc 0 _ (zaF (l:=z::r) (by simp))
  have h:=AnyE.slices_ContainsFunc Tryz.lContainsR (Value.int .i64) (fun n=>!zhx n) 59 #[] zh1 b off (z::r).length cap (z::r) w (zh0 w) (Nat.le_refl _) (by omega) (fun j hj=>by
   obtain ⟨b2,off2,e2,hcell⟩:=hc j _ (zaF hj);simp only [Option.some.injEq,Addr.mk.injEq,and_true] at e2;obtain ⟨rfl,rfl⟩:=e2;rw [hcell];unfold zaD;rw [List.getD_eq_getElem?_getD,List.getElem?_eq_getElem hj,getElem!_pos _ j hj];rfl)
  rw [List.take_length] at h
  exact h.mono fun e w' ⟨he,q,hw⟩=>⟨he,by rw [hw];exact (Ext.refl w).drewN q⟩
theorem zh4 (v:Value)(x:List Int)(w:World)(hv:Sl w v (zaA x))(hl:x.length≤1000000) :
  Calls Tryz.prog 32 #[v] w fun e w'=>e=.returned (.int .i64 (zh2 x))∧Ext w w':=by
 obtain ⟨a,cap,rfl,_,_,hc⟩:=hv.parts;rw [zaC];have hcon:=zh3 a cap x w hl hc;clear hc hv;unfold zh2;by_cases h64:64<x.length
 ·rw [if_pos (.inl h64)];clear hcon;go_enter Tryz.func32,Tryz.ntmps32
  go_wp2
  go_ret
  exact ⟨rfl,Ext.refl _⟩
 ·by_cases hb:x.any (fun n=>!zhx n)=true
  ·rw [if_pos (.inr hb)];rw [hb] at hcon;have Hcon:=Lib.hid hcon;clear hcon hb;go_enter Tryz.func32,Tryz.ntmps32
   go_wp2_with fail
   refine Hcon.out.mono ?_;rintro e w1 ⟨rfl,hx1⟩;have Hx1:=Lib.hid hx1;clear hx1;go_wp2
   go_ret
   exact ⟨rfl,Hx1.out⟩
  ·rw [if_neg (fun h=>h.elim h64 hb)];rw [show x.any (fun n=>!zhx n)=false by simpa using hb] at hcon;have Hcon:=Lib.hid hcon;clear hcon hb;go_enter Tryz.func32,Tryz.ntmps32
   go_wp2_with fail
   refine Hcon.out.mono ?_;rintro e w1 ⟨rfl,hx1⟩;have Hx1:=Lib.hid hx1;clear hx1;go_wp2
   go_ret
   exact ⟨rfl,Hx1.out⟩
end
section
open Go.RowKit Go.Lib
def zh5 (x:List Int)(k:Nat):List Rat:=(zfM x).take k++List.replicate (x.length - k) 0
theorem zh6 (x:List Int):(zfM x).length=x.length:=by unfold zfM;rw [List.length_map]
theorem zh7 {x:List Int}{k:Nat}(h:k≤x.length):(zh5 x k).length=x.length:=by
 unfold zh5;rw [List.length_append,List.length_take,List.length_replicate,zh6];omega
theorem zh8 (x:List Int):zh5 x 0=List.replicate x.length 0:=by simp [zh5]
theorem zh9 (x:List Int):zh5 x x.length=zfM x:=by
 unfold zh5;rw [List.take_of_length_le (by rw [zh6];exact Nat.le_refl _),Nat.sub_self];simp
theorem zhA {x:List Int}{k:Nat}(h:k<x.length):(zh5 x k).set k ((zaD x k:Int):Rat)=zh5 x (k+1):=by
 have hl:=zh6 x;have hq:(zfM x)[k]?=some ((zaD x k:Int):Rat):=by
  unfold zfM zaD;rw [List.getElem?_map,List.getD_eq_getElem?_getD,List.getElem?_eq_getElem h];rfl
 apply List.ext_getElem?;intro i;rw [List.getElem?_set,zh7 (by omega)];unfold zh5;by_cases e:k=i
 ·subst e;rw [if_pos rfl,if_pos h,List.getElem?_append_left (by rw [List.length_take];omega),List.getElem?_take_of_lt (by omega),hq]
 ·rw [if_neg e];by_cases g:i<k
  ·rw [List.getElem?_append_left (by rw [List.length_take];omega),List.getElem?_append_left (by rw [List.length_take];omega),List.getElem?_take_of_lt g,List.getElem?_take_of_lt (by omega)]
  ·rw [List.getElem?_append_right (by rw [List.length_take];omega),List.getElem?_append_right (by rw [List.length_take];omega),List.getElem?_replicate,List.getElem?_replicate,List.length_take,List.length_take];congr 1;simp only [eq_iff_iff];omega
theorem zhB (vp vx:Value)(p x:List Int)(w:World)(he:Env w)(hp:Sl w vp (zaA p))(hx:Sl w vx (zaA x))(h0:zhe p x=0) :
  Calls Tryz.prog 39 #[vp,vx] w fun e w'=>∃ v,e=.returned (.tuple #[v,.int .i64 0])∧zfv w' w.heap.size v (zfM x)∧Ext w w':=by
 obtain ⟨hpe,hre⟩:=zhr h0;obtain ⟨hxl,hxb⟩:=zhq hre;obtain ⟨hp0,hp6,_⟩:=zcK hpe;have hck:=zhf vp vx p x w hp hx (by omega) (by omega);rw [h0] at hck;have hz:=fun W (hE:Ext w W)=>zfB p.length W (he.ext hE) (by omega);have hnu:=fun i (hi:i<x.length) W (hE:Ext w W)=>zf0 (zaD x i) W (he.ext hE) (by have:=hxb i hi;omega) (by have:=hxb i hi;omega);unfold Rv at hnu;rw [← hxl] at hz;obtain ⟨ap,cp,rfl,_,_,_⟩:=hp.parts;obtain ⟨ax,cx,rfl,_,_,hcx⟩:=hx.parts;rw [zaC,← hxl] at hck ⊢;rw [zaC] at hck ⊢;have hst:=fun k (h:k<x.length)=>zhA (x:=x) h;have hln:=fun k (h:k≤x.length)=>zh7 (x:=x) h;have hz0:=zh8 x;have hfu:=zh9 x;have hx1000:x.length≤1000:=by omega
 have Hck:=Lib.hid hck;have Hz:=Lib.hid hz;have Hnu:=Lib.hid hnu;have Hcx:=Lib.hid hcx;have Hst:=Lib.hid hst;have Hln:=Lib.hid hln;have Hz0:=Lib.hid hz0;have Hfu:=Lib.hid hfu;clear hck hz hnu hcx hst hln hz0 hfu;clear hp hx h0 hpe hre hxb hp0 hp6 hxl he;go_enter Tryz.func39,Tryz.ntmps39
 go_wp2_with fail
 refine Hck.out.mono ?_;rintro e w1 ⟨rfl,hx1⟩;have Hx1:=Lib.hid hx1;clear hx1;go_wp2_with fail
 refine (Hz.out w1 Hx1.out).mono ?_;rintro e w2 ⟨rfl,ho2,hx2⟩;rw [← Hz0.out] at ho2;have Hx2:=Lib.hid (Hx1.out.trans hx2);have HO:=Lib.hid ho2;have hg:w.heap.size≤w1.heap.size:=Hx1.out.size;clear ho2 hx2;generalize w1.heap.size=g at *;go_wp2_with fail
 go_loopw [21] (fun v21 wr=>∃ k:Nat,v21=.int .i64 k∧k≤x.length∧Hid (zfv wr g (.slice (some ⟨g,0,none⟩) x.length x.length) (zh5 x k))∧Hid (Ext w wr)) (fun v21 _=>x.length - (za6 v21).toNat)
 case atStart=>exact ⟨0,rfl,Nat.zero_le _,HO,Hx2⟩
 case round =>
  clear HO;obtain ⟨k,rfl,hk,HO,HE⟩:=hrel;by_cases hkn:k<x.length
  ·obtain ⟨b,off,rfl,hc0⟩:=Hcx.out k _ (zaF hkn);have hcw:=HE.out.cell hc0;have hn:=Hnu.out k hkn wr HE.out;have hs:=Hst.out k hkn;generalize zaD x k=z at *;have hk0:(0:Int)≤(k:Int):=(by omega);have hk1:(k:Int)<(x.length:Int):=(by omega);have hll:=Hln.out k hk;have Hn:=Lib.hid hn;have Hs:=Lib.hid hs;have Hll:=Lib.hid hll;clear hn hs hll;clear hc0;go_wp2_with fail
   refine Hn.out.mono ?_;rintro e w3 ⟨rfl,hx3⟩;have ho3:=hx3.ownQ HO.out;have hp3:=zfD ho3 Hll.out hkn ((z:Int):Rat);rw [Hs.out] at hp3;obtain ⟨c0,c1,z0,z1⟩:=(zfC ho3 Hll.out).cell hkn;have hE4:=((HE.out.trans hx3).setCell (p:=⟨g,k * 2,none⟩) hg (.string (I ((z:Int):Rat).num))).setCell (p:=⟨g,k * 2+1,none⟩) hg (.string (I ((((z:Int):Rat).den:Nat):Int)));have Hp3:=Lib.hid hp3;have HE4:=Lib.hid hE4;clear hp3 hE4;clear hx3 ho3;go_wp2_with fail
   go_roundw
   case rel=>exact ⟨k+1,by go_num,hkn,Hp3,HE4⟩
   case measure=>simp [za6];omega
  ·have hkl:k=x.length:=(by omega);have hnk:¬ (k:Int)<(x.length:Int):=(by omega);have ho:=HO.out;rw [hkl,Hfu.out] at ho;have Ho9:=Lib.hid (ho.mono hg);clear ho hkl;go_wp2
   go_ret2
   exact ⟨_,rfl,Ho9.out,HE.out⟩
theorem zhC {w:World}{B g cap:Nat}{o:List Int}(h:zcM w B (.slice (some ⟨g,0,none⟩) o.length cap) o)(j:Nat)(x:Int) :
  zcM (w.setCell ⟨g,j,none⟩ (.int .i64 x)) B (.slice (some ⟨g,0,none⟩) o.length cap) (o.set j x):=by
 have:=(World.ownsRow.stored h j (.int .i64 x)).1;unfold zcM;rw [List.length_set];rwa [show (zaA o).set j (.int .i64 x)=zaA (o.set j x) by simp [zaA,List.map_set]] at this
theorem zhD {w:World}{B g cap:Nat}{o:List Int}(h:zcM w B (.slice (some ⟨g,0,none⟩) o.length cap) o)(j:Nat)(hj:j<o.length) :
  w.cell? ⟨g,j,none⟩=some (.int .i64 (zaD o j)):=by
 rw [World.ownsRow.cellAt h j (by omega),zaF hj]
def zhE (x:List Int)(k:Int)(y:List Int):List Int:=List.zipWith (fun a b=>a+k * b) x y
def zhF (x:List Int)(k:Int)(y:List Int):Option (List Int):=if (zhE x k y).any far=true then none else some (zhE x k y)
def zhG (x:List Int)(k:Int)(y:List Int)(j:Nat):List Int:=(zhE x k y).take j++List.replicate (x.length - j) 0
section
variable {x y : List Int} {k : Int} {j : Nat}
theorem zhH (h:x.length=y.length):(zhE x k y).length=x.length:=by unfold zhE;rw [List.length_zipWith,← h,Nat.min_self]
theorem zhI (h:x.length=y.length)(hj:j<x.length):zaD (zhE x k y) j=zaD x j+k * zaD y j:=by
 unfold zhE zaD;rw [List.getD_eq_getElem?_getD,List.getElem?_zipWith,List.getElem?_eq_getElem hj,List.getElem?_eq_getElem (by omega),List.getD_eq_getElem?_getD,List.getElem?_eq_getElem hj,List.getD_eq_getElem?_getD,List.getElem?_eq_getElem (by omega)];rfl
theorem zhJ (h:x.length=y.length)(hj:j≤x.length):(zhG x k y j).length=x.length:=by
 unfold zhG;rw [List.length_append,List.length_take,List.length_replicate,zhH h];omega
theorem zhK : zhG x k y 0=List.replicate x.length 0:=by simp [zhG]
theorem zhL (h:x.length=y.length):zhG x k y x.length=zhE x k y:=by
 unfold zhG;rw [List.take_of_length_le (by rw [zhH h];exact Nat.le_refl _),Nat.sub_self];simp
theorem zhM (h:x.length=y.length)(hj:j<x.length):(zhG x k y j).set j (zaD x j+k * zaD y j)=zhG x k y (j+1):=by
 have hl:=zhH (k:=k) h;rw [← zhI (k:=k) h hj];apply List.ext_getElem?;intro i;rw [List.getElem?_set,zhJ h (by omega)];unfold zhG;by_cases e:j=i
 ·subst e;rw [if_pos rfl,if_pos hj,List.getElem?_append_left (by rw [List.length_take];omega),List.getElem?_take_of_lt (by omega)];unfold zaD;rw [List.getD_eq_getElem?_getD,List.getElem?_eq_getElem (by omega)];rfl
 ·rw [if_neg e];by_cases g:i<j
  ·rw [List.getElem?_append_left (by rw [List.length_take];omega),List.getElem?_append_left (by rw [List.length_take];omega),List.getElem?_take_of_lt g,List.getElem?_take_of_lt (by omega)]
  ·rw [List.getElem?_append_right (by rw [List.length_take];omega),List.getElem?_append_right (by rw [List.length_take];omega),List.getElem?_replicate,List.getElem?_replicate,List.length_take,List.length_take];congr 1;simp only [eq_iff_iff];omega
theorem zhN (h:x.length=y.length)(hj:j<x.length):zaD (zhG x k y (j+1)) j=zaD x j+k * zaD y j:=by
 rw [← zhM h hj];unfold zaD;rw [List.getD_eq_getElem?_getD,List.getElem?_set_self (by rw [zhJ h (by omega)];exact hj)];rfl
end
def zhO (B:Nat):Option (List Int)→Ending→World→Prop
 | some o,e,w'=>∃ v,e=.returned (.tuple #[v,.bool true])∧zcM w' B v o
 | none,e,_=>e=.returned (.tuple #[.slice none 0 0,.bool false])
theorem zhP (vx vy:Value)(x y:List Int)(k:Int)(w:World)(hx:Sl w vx (zaA x))(hy:Sl w vy (zaA y))(hl:x.length=y.length)(hn:x.length≤1000)(bx:∀ i,i<x.length→-1000000≤zaD x i∧zaD x i≤1000000)(bp:∀ i,i<x.length→-1000000000000000≤k * zaD y i∧k * zaD y i≤1000000000000000) :
  Calls Tryz.prog 41 #[vx,.int .i64 k,vy] w fun e w'=>zhO w.heap.size (zhF x k y) e w'∧Ext w w':=by
 obtain ⟨i0,hi,hz0,hz1,hz2⟩:=info_parts zcL;obtain ⟨ax,cx,rfl,_,_,hcx⟩:=hx.parts;obtain ⟨ay,cy,rfl,_,_,hcy⟩:=hy.parts;rw [zaC] at hx hy ⊢;rw [zaC,← hl];have hst:=fun j (hj:j<x.length)=>zhM (k:=k) hl hj;have hat:=fun j (hj:j<x.length)=>zhN (k:=k) hl hj;have hto:=fun j (hj:j≤x.length)=>zhJ (k:=k) hl hj;have hfu:=zhL (k:=k) hl;have hpl:=zhH (k:=k) hl;have hpa:=fun j (hj:j<x.length)=>zhI (k:=k) hl hj;have hyl:y.length=x.length:=hl.symm;have Hcx:=Lib.hid hcx;have Hcy:=Lib.hid hcy;have Hst:=Lib.hid hst;have Hat:=Lib.hid hat;have Hto:=Lib.hid hto;have Hfu:=Lib.hid hfu;have Hpl:=Lib.hid hpl;have Hpa:=Lib.hid hpa;have Bx:=Lib.hid bx;have Bp:=Lib.hid bp;have Hyl:=Lib.hid hyl;clear hcx hcy hst hat hto hfu hpl hpa bx bp hyl;clear hx hy hl;go_enter Tryz.func41,Tryz.ntmps41
 go_wp2_with (at_make;refine wpList_make_full _ rfl _ _ 26 rfl w.heap.size 3 i0 (.int .i64 0) 1 Tryz.underlying26 hi hz0 hz1 _ _ _ _ x.length rfl rfl rfl rfl (by rw [hz2];omega) (by unfold maxLen;omega) (Nat.le_refl _) ?_;intro w1 hown hgrow)
 have hE1:Ext w w1:=(Ext.refl _).grown hgrow (by simp);have hown1:zcM w1 w.heap.size (.slice (some ⟨w.heap.size,0,none⟩) x.length x.length) (zhG x k y 0):=by
  rw [zhK];unfold zcM;rw [List.length_replicate];have e:zaA (List.replicate x.length 0)=(madeCells #[Value.int .i64 0] (x.length * 1)).toList:=by
   rw [Nat.mul_one,toList_madeCells_one];simp [zaA]
  rw [e];exact hown
 have HE1:=Lib.hid hE1;have Hown1:=Lib.hid hown1;clear hE1 hown1;clear hown hgrow;go_wp2_with fail
 go_loopw [15] (fun v15 wr=>∃ j:Nat,v15=.int .i64 j∧j≤x.length∧Hid (zcM wr w.heap.size (.slice (some ⟨w.heap.size,0,none⟩) x.length x.length) (zhG x k y j))∧Hid (∀ i,i<j→far (zaD (zhE x k y) i)=false)∧Hid (Ext w wr)) (fun v15 _=>x.length - (za6 v15).toNat)
 case atStart=>exact ⟨0,rfl,Nat.zero_le _,Hown1,Lib.hid (fun i hi=>by omega),HE1⟩
 case round =>
  clear Hown1;obtain ⟨j,rfl,hj,HO,HN,HE⟩:=hrel;by_cases hjn:j<x.length
  ·obtain ⟨bx1,ox,rfl,hcx0⟩:=Hcx.out j _ (zaF hjn);obtain ⟨by1,oy,rfl,hcy0⟩:=Hcy.out j _ (zaF (by rw [Hyl.out];exact hjn));have hc1:=HE.out.cell hcx0;have hc2:=HE.out.cell hcy0;have hO:zcM wr w.heap.size (.slice (some ⟨w.heap.size,0,none⟩) (zhG x k y j).length x.length) (zhG x k y j):=(by rw [Hto.out j hj];exact HO.out);have hc3:=zhD hO j (by rw [Hto.out j hj];exact hjn);have hfz:wr.frozen? ⟨w.heap.size,j,none⟩=false:=World.ownsRow.frozenAt hO j;have hset:=zhC hO j (zaD x j+k * zaD y j);rw [Hst.out j hjn,Hto.out j hj] at hset;have hs9:=hset;rw [← Hto.out (j+1) hjn] at hs9;have hc9:=zhD hs9 j (by rw [Hto.out (j+1) hjn];exact hjn);rw [Hat.out j hjn] at hc9;have hEz:Ext w (wr.setCell ⟨w.heap.size,j,none⟩ (.int .i64 (zaD x j+k * zaD y j))):=HE.out.setCell (Nat.le_refl _) _;obtain ⟨b1,b2⟩:=Bx.out j hjn;obtain ⟨b3,b4⟩:=Bp.out j hjn;have hfa:=Hpa.out j hjn;have hj0:(0:Int)≤(j:Int):=(by omega);have hj1:(j:Int)<(x.length:Int):=(by omega);have Hset:=Lib.hid hset;have HEz:=Lib.hid hEz;have Hfa:=Lib.hid hfa;have Hc9:=Lib.hid hc9;clear hset hEz hfa hc9;clear hO hs9 hcx0 hcy0;generalize zaD x j=zx at *;generalize zaD y j=zy at *;go_wp2_with fail
   go_region
   have h9:=((Ext.refl _).drew).cell Hc9.out;have hS:=((Ext.refl _).drew).ownI Hset.out;have hE9:=HEz.out.drew;have HS:=Lib.hid hS;have HE9:=Lib.hid hE9;clear hS hE9;generalize hzz:zx+k * zy=z at *;have h3:(1000<z)∨(¬ 1000<z∧z < -1000)∨(¬ 1000<z∧¬ z < -1000):=(by omega);clear hc1 hc2 hc3 hfz hzz b1 b2 b3 b4;rcases h3 with g | ⟨g,g2⟩ | ⟨g,g2⟩
   ·have hd:decide (z > 1000)=true:=decide_eq_true g;have hnone:zhF x k y=none:=by
     unfold zhF;rw [if_pos (zha (k:=j) (by rw [Hpl.out];exact hjn) (by rw [Hfa.out];exact zgX g))]
    have Hnone:=Lib.hid hnone;clear hnone;go_wp2
    go_ret2
    exact ⟨by rw [Hnone.out] <;> rfl,HE9.out⟩
   ·have hd:decide (z > 1000)=false:=decide_eq_false g;have hd2:decide (z < -1000)=true:=decide_eq_true g2;have hnone:zhF x k y=none:=by
     unfold zhF;rw [if_pos (zha (k:=j) (by rw [Hpl.out];exact hjn) (by rw [Hfa.out];exact zgY g2))]
    have Hnone:=Lib.hid hnone;clear hnone;go_wp2
    go_ret2
    exact ⟨by rw [Hnone.out] <;> rfl,HE9.out⟩
   ·have hd:decide (z > 1000)=false:=decide_eq_false g;have hd2:decide (z < -1000)=false:=decide_eq_false g2;have hnf:=zgZ g g2;have Hnf:=Lib.hid hnf;clear hnf;go_wp2
    go_roundw
    case rel =>
     refine ⟨j+1,by go_num,hjn,HS,Lib.hid (fun i hi=>?_),HE9⟩;rcases Nat.lt_or_ge i j with q | q
     ·exact HN.out i q
     ·obtain rfl:i=j:=by omega
      rw [Hfa.out];exact Hnf.out
    case measure=>simp [za6];omega
  ·have hjl:j=x.length:=(by omega);have hnj:¬ (j:Int)<(x.length:Int):=(by omega);have hO:=HO.out;rw [hjl,Hfu.out] at hO;have hsome:zhF x k y=some (zhE x k y):=by
    unfold zhF;rw [if_neg];rw [zhb (fun i hi=>HN.out i (by rw [Hpl.out] at hi;omega))];exact Bool.false_ne_true
   have hO9:zcM wr w.heap.size (.slice (some ⟨w.heap.size,0,none⟩) x.length x.length) (zhE x k y):=hO;have HO9:=Lib.hid hO9;have Hsome:=Lib.hid hsome;clear hO9 hsome;clear hO hjl;go_wp2
   go_ret2
   exact ⟨by rw [Hsome.out];exact ⟨_,rfl,HO9.out⟩,HE.out⟩
end
section
open Go
def zhQ (ops:Array Oper):Bool:=ops.toList.all fun o=>match o.op with | .defer _=>false | _=>true
theorem zhR {ops:Array Oper}(h:zhQ ops=true){j:Nat}{o:Oper}(hj:ops[j]?=some o):∀ c,o.op ≠ .defer c:=by
 intro c hc;have hm:o∈ops.toList:=by
  rw [← Array.getElem?_toList] at hj;exact List.mem_of_getElem? hj
 have:=List.all_eq_true.1 h o hm;rw [hc] at this
 cases this
section
variable {F : Fence} {n l : Nat} {P : Program} {ops : Array Oper} {Q : Exit → Act → World → Prop} {md : Region.Mode}
theorem zhS (h:zhQ ops=true)(i:Nat)(K:Act→World→Prop)(a:Act)(w:World):wpOpIn (F.inRound l) n P ops Q i K a w=wpOpIn F.plain n P ops Q i K a w:=by
 unfold wpOpIn
 cases ho:ops[i]? with
 | none=>rfl
 | some o =>
  have e:o.wpIn (F.inRound l) n P a w K Q=o.wpIn F.plain n P a w K Q:=by
   unfold Oper.wpIn;rw [Oper.semAt_eq _ _ _ (zhR h ho),Oper.semAt_eq _ _ _ (zhR h ho)];rfl
  simp only [e]
  rfl
theorem zhT (h:zhQ ops=true):∀ (fuel:Nat)(listed:Array Bool)(a:Act)(w:World),wpAnyIn (F.inRound l) n P md ops Q fuel listed a w=wpAnyIn F.plain n P md ops Q fuel listed a w
 | 0,_,_,_=>rfl
 | fuel+1,listed,a,w=>by
  have ih:=fun i=>(funext fun a=>funext fun w=>zhT h fuel (listed.setIfInBounds i true) a w:wpAnyIn (F.inRound l) n P md ops Q fuel (listed.setIfInBounds i true)=_);show ((Region.ready md ops listed=[]→Q .normal a w)∧∀ i∈Region.ready md ops listed,wpOpIn (F.inRound l) n P ops Q i (wpAnyIn (F.inRound l) n P md ops Q fuel (listed.setIfInBounds i true)) a w)=((Region.ready md ops listed=[]→Q .normal a w)∧∀ i∈Region.ready md ops listed,wpOpIn F.plain n P ops Q i (wpAnyIn F.plain n P md ops Q fuel (listed.setIfInBounds i true)) a w);simp only [ih,zhS h]
theorem zhU {id:Nat}{a:Act}{w:World}(hm:P.follows .mixedOrders=true)(h:zhQ ops=true)
  (H:wpAnyIn F.plain n P .any ops (NoPanic Q) ops.size (Array.replicate ops.size false) a w.drew):(Code.region id ops true).wpIn (F.inRound l) n P Q a w :=
 wpIn_mono (wpIn_region_any hm ((zhT h _ _ _ _).mpr H)) NoPanic.imp
end
end
end Go.Proofs.YtkdgmahilfnnmaaGreatDoor
