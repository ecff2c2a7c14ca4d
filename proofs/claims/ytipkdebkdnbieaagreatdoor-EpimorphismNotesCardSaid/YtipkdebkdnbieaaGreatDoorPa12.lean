/- Walks: monzo's Check, CheckAll, sides and Sign, row's Check: out of XIvlA. (Printed by rebase.py.) Walk: epimorphism.plus: a row and a multiple of another one. (KEEPALL) Plain: the first error of a set of intervals, as the program finds it and as law 37 does. Walks: law 12's Primes and Interval: out of XLawA. (Printed by rebase.py.) -/
import Derived.Test.YtipkdebkdnbieaaGreatDoorPa02
import Derived.Test.YtipkdebkdnbieaaGreatDoorPa11
import Derived.RangeFuncNested
import Derived.RangeFuncBound
import Derived.RangeFuncCalls
import Derived.RangeFuncLeaves
import Derived.RangeFuncBox
import Derived.RangeFuncWrites
import Derived.Shelf.Abstract
import Derived.OwnWalkIn
import Derived.TacticsInMore
import Derived.LoopNIn
import Derived.LoopIn
import Derived.Maps.AppendAt
import Derived.Test.YtipkdebkdnbieaaGreatDoorShelfA
import Derived.Test.YtipkdebkdnbieaaGreatDoorShelfM
import Derived.Shelf.SlicesE.IndexFunc
import Derived.RegionTactic
import Derived.Deep.RegionHeld3
set_option maxRecDepth 100000
set_option maxHeartbeats 4000000
namespace Go.Proofs.YtipkdebkdnbieaaGreatDoor
section
open Go.RowKit Go.Lib
attribute [local go_sem] Oper.semAt_some
def Mat (w:World)(v:Value)(l:List (List Int)):Prop :=
 ∃ vs:List Value,vs.length=l.length∧Sl w v vs∧∀ i u,vs[i]?=some u→Sl w u (zap (l.getD i []))
def far (z:Int):Bool:=decide (1000<z) || decide (z < -1000)
def zgk (n:Nat)(x:List Int):Int:=if x.length ≠ n then 5 else if x.any far then 4 else 0
def zgl (n:Nat):List (List Int)→Int
 | []=>0
 | x::r=>if zgk n x ≠ 0 then zgk n x else zgl n r
def zgm (p:List Int)(l:List (List Int)):Int:=if zcw p ≠ 0 then zcw p else zgl p.length l
theorem zgn {z:Int}(h:1000<z):far z=true:=by unfold far;rw [decide_eq_true h];rfl
theorem zgo {z:Int}(h:z < -1000):far z=true:=by unfold far;rw [decide_eq_true h];simp
theorem zgp {z:Int}(h1:¬ 1000<z)(h2:¬ z < -1000):far z=false:=by unfold far;rw [decide_eq_false h1,decide_eq_false h2];rfl
theorem zgq {x:List Int}{k:Nat}(hk:k<x.length)(h:far (zas x k)=true):x.any far=true :=
 List.any_eq_true.2 ⟨_,zav hk,h⟩
theorem zgr {x:List Int}(h:∀ k,k<x.length→far (zas x k)=false):x.any far=false:=by
 rw [List.any_eq_false];intro z hz;obtain ⟨k,hk,rfl⟩:=List.getElem_of_mem hz;have:=h k hk;unfold zas at this;rw [List.getD_eq_getElem?_getD,List.getElem?_eq_getElem hk] at this;simpa using this
theorem zgs {n:Nat}{l:List (List Int)}{k:Nat}(hk:k<l.length):zgl n (l.drop k)=if zgk n (l.getD k []) ≠ 0 then zgk n (l.getD k []) else zgl n (l.drop (k+1)):=by
 rw [List.drop_eq_getElem_cons hk,zgl];rw [List.getD_eq_getElem?_getD,List.getElem?_eq_getElem hk];rfl
theorem zgt (vp vl:Value)(p:List Int)(l:List (List Int))(w:World)(hp:Sl w vp (zap p))(hl:Mat w vl l)(hlp:p.length≤1000000)(hll:l.length≤1000000)(hrow:∀ i,(l.getD i []).length≤1000000) :
  Calls Tryz.prog 14 #[vp,vl] w fun e w'=>e=.returned (.int .i64 (zgm p l))∧w=w':=by
 have hpc:=zcx vp p w hp hlp;obtain ⟨ap,cp,rfl,_,_,_⟩:=hp.parts;rw [zar] at *;have Hpc:=hid hpc;clear hpc;obtain ⟨vs,hvs,hsl,hrows⟩:=hl;obtain ⟨a,cap,rfl,_,_,hc⟩:=hsl.parts;rw [hvs];have Hc:=hid hc;clear hc hsl;have Hrows:=hid hrows;clear hrows;have Hvs:=hid hvs;clear hvs;have Hrow:=hid hrow;clear hrow;unfold zgm;generalize hpe:zcw p=pe at *;have Hpe:=hid hpe;clear hpe;by_cases hp0:pe=0
 ·subst hp0;rw [if_neg (by simp)];obtain ⟨r,hr⟩:∃ r,r=zgl p.length l:=⟨_,rfl⟩;rw [← hr];have Hr:=hid hr;clear hr;go_enter Tryz.func14,Tryz.ntmps14
  go_wp2_with fail
  refine Hpc.out.mono ?_;rintro e w1 ⟨rfl,rfl⟩;go_wp2
  go_loop [17] (fun i=>∃ k:Nat,i=.int .i64 k∧k≤l.length∧r=zgl p.length (l.drop k)) (fun i=>l.length - (zal i).toNat)
  case atStart=>exact ⟨0,rfl,Nat.zero_le _,by rw [List.drop_zero];exact Hr.out⟩
  case round =>
   obtain ⟨k,rfl,hk,hr⟩:=hrel;by_cases hlt:k<l.length
   ·obtain ⟨u,hu⟩:∃ u,vs[k]?=some u:=⟨_,List.getElem?_eq_getElem (by rw [Hvs.out];exact hlt)⟩;obtain ⟨b,off,rfl,hcell⟩:=Hc.out k u hu;have hrk:=Hrows.out k u hu;have hxl:=Hrow.out k;rw [zgs hlt] at hr;generalize hx:l.getD k []=x at *;have Hx:=hid hx;clear hx hu;obtain ⟨ax,cx,rfl,_,_,hcx⟩:=hrk.parts;rw [zar] at hcell;have Hcx:=hid hcx;clear hcx hrk;by_cases hne:x.length=p.length
    ·have ht:((x.length:Int) != (p.length:Int))=false:=(by rw [bne_eq_false_iff_eq];omega);have hre:zgk p.length x=if x.any far then 4 else 0:=(by unfold zgk;rw [if_neg (by simpa using hne)]);rw [hre] at hr;have Hr2:=hid hr;clear hr hre hne;go_wp2
     go_loop [28] (fun i=>∃ j:Nat,i=.int .i64 j∧j≤x.length∧∀ t,t<j→far (zas x t)=false) (fun i=>x.length - (zal i).toNat)
     case atStart=>exact ⟨0,rfl,Nat.zero_le _,fun t ht=>by omega⟩
     case round =>
      obtain ⟨j,rfl,hj,hfar⟩:=hrel;have Hfar:=hid hfar;clear hfar;by_cases hjl:j<x.length
      ·obtain ⟨b2,off2,rfl,hcell2⟩:=Hcx.out j _ (zau hjl);have h3:(1000<zas x j)∨(¬ 1000<zas x j∧zas x j < -1000)∨(¬ 1000<zas x j∧¬ zas x j < -1000):=(by omega);rcases h3 with g | ⟨g,g2⟩ | ⟨g,g2⟩
       ·have hr4:r=4:=(by rw [Hr2.out,if_pos (zgq hjl (zgn g)),if_pos (by simp)]);have Hr4:=hid hr4;clear hr4;generalize zas x j=z at *;go_wp2
        go_ret
        exact ⟨zbi Hr4.out.symm,rfl⟩
       ·have hr4:r=4:=(by rw [Hr2.out,if_pos (zgq hjl (zgo g2)),if_pos (by simp)]);have Hr4:=hid hr4;clear hr4;generalize zas x j=z at *;go_wp2
        go_ret
        exact ⟨zbi Hr4.out.symm,rfl⟩
       ·have hfj:=zgp g g2;have Hfj:=hid hfj;clear hfj;generalize hz:zas x j=z at *;have Hz:=hid hz;clear hz;go_wp2
        go_round
        case rel=>exact ⟨j+1,by go_num,by omega,fun t h4=>by
         rcases Nat.lt_or_ge t j with g3 | g3
         ·exact Hfar.out t g3
         ·rw [show t=j by omega,Hz.out];exact Hfj.out⟩
        case measure=>simp [zal];omega
      ·have hall:x.any far=false:=zgr fun t ht=>Hfar.out t (by omega);have hr5:r=zgl p.length (l.drop (k+1)):=by
        have:=Hr2.out;rw [hall] at this;rw [this];simp
       have Hr5:=hid hr5;clear hr5 hall;go_wp2
       go_round
       case rel=>exact ⟨k+1,by go_num,by omega,Hr5.out⟩
       case measure=>simp [zal];omega
    ·have ht:((x.length:Int) != (p.length:Int))=true:=(by rw [bne_iff_ne];omega);have hr5:r=5:=by
      rw [hr];unfold zgk;rw [if_pos hne,if_pos (by simp)]
     have Hr5:=hid hr5;clear hr5 hr hne;go_wp2
     go_ret
     exact ⟨zbi Hr5.out.symm,rfl⟩
   ·have hr0:r=0:=(by rw [hr,List.drop_eq_nil_of_le (by omega)];rfl);have Hr0:=hid hr0;clear hr0 hr;go_wp2
    go_ret
    exact ⟨zbi Hr0.out.symm,rfl⟩
 ·rw [if_pos hp0];have ht:(pe != 0)=true:=by rw [bne_iff_ne];exact hp0
  clear hp0;go_enter Tryz.func14,Tryz.ntmps14
  go_wp2_with fail
  refine Hpc.out.mono ?_;rintro e w1 ⟨rfl,rfl⟩;go_wp2
  go_ret
  exact ⟨rfl,rfl⟩
def zgu (p x:List Int):Int:=zgm p [x]
theorem zgv (vp vx:Value)(p x:List Int)(w:World)(hp:Sl w vp (zap p))(hx:Sl w vx (zap x))(hlp:p.length≤1000000)(hlx:x.length≤1000000) :
  Calls Tryz.prog 55 #[vp,vx] w fun e w'=>e=.returned (.int .i64 (zgu p x))∧Ext w w':=by
 have hext:Ext w (w.alloc (.cells #[vx] 33)):=(Ext.refl w).alloc _;have hm:Mat (w.alloc (.cells #[vx] 33)) (.slice (some ⟨w.heap.size,0,none⟩) 1 1) [x]:=by
  refine ⟨[vx],rfl,.inr ⟨w.heap.size,0,1,rfl,Nat.le_refl _,by unfold maxLen;omega,?_⟩,?_⟩
  ·intro i u hu
   cases i with
   | zero=>simp at hu;subst hu;rw [World.cell?_alloc_new];rfl
   | succ i=>simp at hu
  ·intro i u hu
   cases i with
   | zero=>simp at hu;subst hu;exact hext.sl hx
   | succ i=>simp at hu
 have hc:=zgt vp (.slice (some ⟨w.heap.size,0,none⟩) 1 1) p [x] _ (hext.sl hp) hm hlp (by simp) (fun i=>by cases i <;> simp [hlx])
 have Hc:=hid hc;clear hc hm;have Hext:=hid hext;clear hext;obtain ⟨ap,cp,rfl,_,_,_⟩:=hp.parts;obtain ⟨ax,cx,rfl,_,_,_⟩:=hx.parts;clear hp hx;go_enter Tryz.func55,Tryz.ntmps55
 go_wp2_with fail
 refine Hc.out.mono ?_;rintro e w1 ⟨rfl,rfl⟩;go_wp2
 go_ret
 exact ⟨rfl,Hext.out⟩
def zgw (p x:List Int):Nat→Nat
 | 0=>1
 | k+1=>if 0<zas x k then zgw p x k * (zas p k).toNat ^ (zas x k).natAbs else zgw p x k
def zgx (p x:List Int):Nat→Nat
 | 0=>1
 | k+1=>if 0<zas x k then zgx p x k else zgx p x k * (zas p k).toNat ^ (zas x k).natAbs
def zgy (p x:List Int):Nat:=zgw p x x.length
def zgz (p x:List Int):Nat:=zgx p x x.length
def zg0 (p x:List Int):Prop:=x.length≤p.length∧x.length≤64∧∀ i,i<x.length→0≤zas p i∧zas p i<10000∧-1000≤zas x i∧zas x i≤1000
theorem zg1 {a n:Nat}(ha:a<10000)(hn:n≤1000):nDigits (a ^ n)≤4000:=by
 by_cases h:n=0
 ·subst h;rw [Nat.pow_zero];exact Nat.le_trans (Dec.nDigits_le (n:=1) (k:=1) (by omega) (by omega)) (by omega)
 ·have h1:=zcp a n (by omega);have h2:nDigits a≤4:=Dec.nDigits_le (by omega) (by omega);have h3:n * nDigits a≤1000 * 4:=Nat.mul_le_mul hn h2;omega
theorem zg2 {p x:List Int}(h:zg0 p x):∀ k,k≤x.length→nDigits (zgw p x k)≤1+4000 * k
 | 0,_=>Dec.nDigits_le (by omega) (by simp [zgw])
 | k+1,hk=>by
  have ih:=zg2 h k (by omega);have h2:=h.2.2 k (by omega);rw [zgw];split
  ·have:=zbD (zgw p x k) ((zas p k).toNat ^ (zas x k).natAbs);have:=zg1 (a:=(zas p k).toNat) (n:=(zas x k).natAbs) (by omega) (by omega);omega
  ·omega
theorem zg3 {p x:List Int}(h:zg0 p x):∀ k,k≤x.length→nDigits (zgx p x k)≤1+4000 * k
 | 0,_=>Dec.nDigits_le (by omega) (by simp [zgx])
 | k+1,hk=>by
  have ih:=zg3 h k (by omega);have h2:=h.2.2 k (by omega);rw [zgx];split
  ·omega
  ·have:=zbD (zgx p x k) ((zas p k).toNat ^ (zas x k).natAbs);have:=zg1 (a:=(zas p k).toNat) (n:=(zas x k).natAbs) (by omega) (by omega);omega
def zg4 (p x:List Int)(w0:World)(n d i:Value)(wr:World):Prop :=
 ∃ k:Nat,i=.int .i64 k∧k≤x.length∧n=.string (D (zgw p x k))∧d=.string (D (zgx p x k))∧Ext w0 wr
theorem zg5 (vp vx:Value)(p x:List Int)(w:World)(he:Env w)(hp:Sl w vp (zap p))(hx:Sl w vx (zap x))(hn:zg0 p x) :
  Calls Tryz.prog 95 #[vp,vx] w fun e w'=>e=.returned (.tuple #[.string (D (zgy p x)),.string (D (zgz p x))])∧Ext w w':=by
 obtain ⟨ap,cp,rfl,_,_,hcp⟩:=hp.parts;obtain ⟨ax,cx,rfl,_,_,hcx⟩:=hx.parts;rw [zar,zar];have Hcp:=hid hcp;clear hcp hp;have Hcx:=hid hcx;clear hcx hx;have hl1:=hn.1;have hl2:=hn.2.1;have Hn:=hid hn;clear hn;have He:=hid he;clear he;go_enter Tryz.func95,Tryz.ntmps95
 go_wp2
 go_loopw [4,5,12] (fun n d i wr=>zg4 p x w n d i wr) (fun _ _ i _=>x.length - (zal i).toNat)
 case atStart=>exact ⟨0,rfl,Nat.zero_le _,by rw [zgw,zbs],by rw [zgx,zbs],Ext.refl _⟩
 case round =>
  obtain ⟨k,rfl,hk,rfl,rfl,hext⟩:=hrel;have Hext:=hid hext;clear hext;by_cases hlt:k<x.length
  ·obtain ⟨bp,op,rfl,hcellp0⟩:=Hcp.out k _ (zau (by omega));obtain ⟨bx,ox,rfl,hcellx0⟩:=Hcx.out k _ (zau hlt);have hcellp:=Hext.out.cell hcellp0;have hcellx:=Hext.out.cell hcellx0;clear hcellp0 hcellx0;have hb:=Hn.out.2.2 k hlt;have hdN:=zg2 Hn.out k (by omega);have hdD:=zg3 Hn.out k (by omega);have HdN:=hid hdN;clear hdN;have HdD:=hid hdD;clear hdD;have hsN:zgw p x (k+1)=if 0<zas x k then zgw p x k * (zas p k).toNat ^ (zas x k).natAbs else zgw p x k:=rfl;have hsD:zgx p x (k+1)=if 0<zas x k then zgx p x k else zgx p x k * (zas p k).toNat ^ (zas x k).natAbs:=rfl;obtain ⟨q,hq⟩:∃ q:Nat,zas p k=q:=⟨(zas p k).toNat,by omega⟩;have hq4:q<10000:=(by omega);rw [hq] at hcellp hsN hsD;rw [Int.toNat_natCast] at hsN hsD;have hcase:(∃ e:Nat,0<e∧e≤1000∧zas x k=e)∨(∃ e:Nat,e≤1000∧zas x k=-(e:Int)):=by
    by_cases g:0<zas x k
    ·exact .inl ⟨(zas x k).toNat,by omega,by omega,by omega⟩
    ·exact .inr ⟨(-(zas x k)).toNat,by omega,by omega⟩
   rcases hcase with ⟨e,he0,he1,hz⟩ | ⟨e,he1,hz⟩
   ·rw [hz] at hcellx hsN hsD;rw [Int.natAbs_natCast,if_pos (by omega)] at hsN hsD;have hmax:max (e:Int) (-(e:Int))=e:=(by omega);clear hb hq hz;have hpow:nDigits (q ^ e)≤4000:=zg1 hq4 he1;have Hpow:=hid hpow;clear hpow;have HsN:=hid hsN;clear hsN;have HsD:=hid hsD;clear hsD;generalize zgw p x k=N at *;generalize zgx p x k=M at *;go_wp2_with fail
    refine (zaO q (by omega) wr (He.out.ext Hext.out)).mono ?_;rintro e1 w1 ⟨rfl,hx1⟩;have Hx1:=hid hx1;clear hx1;go_wp2_with fail
    refine (zco q e w1 ((He.out.ext Hext.out).ext Hx1.out) (Dec.nDigits_le (by omega) (by omega)) (by omega) (by have:=Hpow.out;omega)).mono ?_;rintro e1 w2 ⟨rfl,hx2⟩;have Hx2:=hid hx2;clear hx2;go_wp2_with fail
    refine (zbE N (q ^ e) w2 (((He.out.ext Hext.out).ext Hx1.out).ext Hx2.out) (by have:=HdN.out;omega) (by have:=Hpow.out;omega)).mono ?_;rintro e1 w3 ⟨rfl,hx3⟩;have Hx3:=hid hx3;clear hx3;go_wp2
    go_roundw
    case rel=>exact ⟨k+1,by go_num,by omega,by rw [HsN.out],by rw [HsD.out],((Hext.out.trans Hx1.out).trans Hx2.out).trans Hx3.out⟩
    case measure=>simp [zal];omega
   ·rw [hz] at hcellx hsN hsD;rw [Int.natAbs_neg,Int.natAbs_natCast,if_neg (by omega)] at hsN hsD;have hmax:max (-(e:Int)) e=e:=(by omega);clear hb hq hz;have hpow:nDigits (q ^ e)≤4000:=zg1 hq4 he1;have Hpow:=hid hpow;clear hpow;have HsN:=hid hsN;clear hsN;have HsD:=hid hsD;clear hsD;generalize zgw p x k=N at *;generalize zgx p x k=M at *;go_wp2_with fail
    refine (zaO q (by omega) wr (He.out.ext Hext.out)).mono ?_;rintro e1 w1 ⟨rfl,hx1⟩;have Hx1:=hid hx1;clear hx1;go_wp2_with fail
    refine (zco q e w1 ((He.out.ext Hext.out).ext Hx1.out) (Dec.nDigits_le (by omega) (by omega)) (by omega) (by have:=Hpow.out;omega)).mono ?_;rintro e1 w2 ⟨rfl,hx2⟩;have Hx2:=hid hx2;clear hx2;go_wp2_with fail
    refine (zbE M (q ^ e) w2 (((He.out.ext Hext.out).ext Hx1.out).ext Hx2.out) (by have:=HdD.out;omega) (by have:=Hpow.out;omega)).mono ?_;rintro e1 w3 ⟨rfl,hx3⟩;have Hx3:=hid hx3;clear hx3;go_wp2
    go_roundw
    case rel=>exact ⟨k+1,by go_num,by omega,by rw [HsN.out],by rw [HsD.out],((Hext.out.trans Hx1.out).trans Hx2.out).trans Hx3.out⟩
    case measure=>simp [zal];omega
  ·obtain rfl:k=x.length:=by omega
   go_wp2
   go_ret2
   exact ⟨rfl,Hext.out⟩
theorem zg6 {n:Nat}{x:List Int}(h:zgk n x=0):x.length=n∧∀ i,i<x.length→-1000≤zas x i∧zas x i≤1000:=by
 unfold zgk at h;by_cases h0:x.length=n
 ·rw [if_neg (by simpa using h0)] at h;by_cases hf:x.any far=true
  ·rw [if_pos hf] at h;omega
  ·refine ⟨h0,fun i hi=>?_⟩;by_cases g1:1000<zas x i
   ·exact absurd (zgq hi (zgn g1)) hf
   ·by_cases g2:zas x i < -1000
    ·exact absurd (zgq hi (zgo g2)) hf
    ·omega
 ·rw [if_pos h0] at h;omega
theorem zg7 {p x:List Int}(h:zgu p x=0):zcw p=0∧zgk p.length x=0:=by
 unfold zgu zgm at h;by_cases h0:zcw p=0
 ·rw [if_neg (by simpa using h0)] at h;refine ⟨h0,?_⟩;rw [zgl] at h;by_cases h1:zgk p.length x=0
  ·exact h1
  ·rw [if_pos h1] at h;exact h
 ·rw [if_pos h0] at h;exact absurd h h0
theorem zg8 {p x:List Int}(h1:zcw p=0)(h2:zgk p.length x=0):zg0 p x:=by
 obtain ⟨a,b,c⟩:=zc0 h1;obtain ⟨d,e⟩:=zg6 h2;refine ⟨by omega,by omega,fun i hi=>?_⟩;have:=c i (by omega);have:=e i hi;omega
theorem zg9 {p x:List Int}(h:zg0 p x):nDigits (zgy p x)≤256001:=by
 have:=zg2 h x.length (Nat.le_refl _);have:=h.2.1;unfold zgy;omega
theorem zgA {p x:List Int}(h:zg0 p x):nDigits (zgz p x)≤256001:=by
 have:=zg3 h x.length (Nat.le_refl _);have:=h.2.1;unfold zgz;omega
def zgB (p x:List Int):Int:=if zgu p x ≠ 0 then 0 else zbj (zgy p x:Nat) (zgz p x:Nat)
theorem zgC (vp vx:Value)(p x:List Int)(w:World)(he:Env w)(hp:Sl w vp (zap p))(hx:Sl w vx (zap x))(hlp:p.length≤1000000)(hlx:x.length≤1000000) :
  Calls Tryz.prog 63 #[vp,vx] w fun e w'=>e=.returned (.tuple #[.int .i64 (zgB p x),.int .i64 (zgu p x)])∧Ext w w':=by
 have hc:=zgv vp vx p x w hp hx hlp hlx;have Hc:=hid hc;clear hc;have He:=hid he;clear he;have Hp:=hid hp;have Hx:=hid hx;obtain ⟨ap,cp,rfl,_,_,_⟩:=hp.parts;obtain ⟨ax,cx,rfl,_,_,_⟩:=hx.parts;clear hp hx;unfold zgB;by_cases h0:zgu p x=0
 ·rw [if_neg (by simpa using h0),h0];have hn:=zg8 (zg7 h0).1 (zg7 h0).2;rw [h0] at Hc;have Hn:=hid hn;clear hn h0;go_enter Tryz.func63,Tryz.ntmps63
  go_wp2_with fail
  refine Hc.out.mono ?_;rintro e w1 ⟨rfl,hx1⟩;have Hx1:=hid hx1;clear hx1;go_wp2_with fail
  refine (zg5 _ _ p x w1 (He.out.ext Hx1.out) (Hx1.out.sl Hp.out) (Hx1.out.sl Hx.out) Hn.out).mono ?_;rintro e w2 ⟨rfl,hx2⟩;have Hx2:=hid hx2;clear hx2;go_wp2_with fail
  refine (zb8 (zgy p x) (zgz p x) w2 (by have:=zg9 Hn.out;omega) (by have:=zgA Hn.out;omega)).mono ?_;rintro e w3 ⟨rfl,rfl⟩;go_wp2
  go_ret2
  exact ⟨rfl,Hx1.out.trans Hx2.out⟩
 ·rw [if_pos h0];have ht:(zgu p x != 0)=true:=by rw [bne_iff_ne];exact h0
  generalize zgu p x=r at *;clear h0;go_enter Tryz.func63,Tryz.ntmps63
  go_wp2_with fail
  refine Hc.out.mono ?_;rintro e w1 ⟨rfl,hx1⟩;have Hx1:=hid hx1;clear hx1;go_wp2
  go_ret2
  exact ⟨rfl,Hx1.out⟩
def zgD (n:Int):Bool:=decide (-1000000000≤n∧n≤1000000000)
theorem zgE (n:Int)(w:World):Calls Tryz.prog 91 #[.int .i64 n] w fun e w'=>e=.returned (.bool (zgD n))∧w=w':=by
 unfold zgD;by_cases h1:-1000000000≤n
 ·by_cases h2:n≤1000000000
  ·rw [decide_eq_true ⟨h1,h2⟩];go_enter Tryz.func91,Tryz.ntmps91
   go_wp2
   go_ret
   exact ⟨rfl,rfl⟩
  ·rw [decide_eq_false (fun h=>h2 h.2)];have hd:decide (n≤1000000000)=false:=decide_eq_false h2;go_enter Tryz.func91,Tryz.ntmps91
   go_wp2
   go_ret
   exact ⟨rfl,rfl⟩
 ·rw [decide_eq_false (fun h=>h1 h.1)];have hd:decide (-1000000000≤n)=false:=decide_eq_false h1;go_enter Tryz.func91,Tryz.ntmps91
  go_wp2
  go_ret
  exact ⟨rfl,rfl⟩
theorem zgF (n:Int)(w:World):Calls Tryz.prog 118 #[.int .i64 n] w fun e w'=>e=.returned (.bool (!zgD n))∧∃ q,w'=w.drewN q:=by
 have hf:=zgE n w;have Hf:=hid hf;clear hf;generalize zgD n=b at *;go_enter Tryz.func118,Tryz.ntmps118
 go_wp2_with fail
 refine Hf.out.mono ?_;rintro e w1 ⟨rfl,rfl⟩;go_wp2
 go_ret
 exact ⟨rfl,0,rfl⟩
theorem zgG (w:World):Go.Proofs.PredAt Tryz.prog 118 #[] (Value.int .i64) (fun n=>!zgD n) w:=fun W x _=>zgF x W
theorem zgH : ∀ args w,(callFunc 118 args).run Tryz.prog w=.ok (.enter 118 args) w:=enters_of Tryz.func118 (by kernel_rfl) rfl
def zgI (x:List Int):Int:=if 64<x.length∨x.any (fun n=>!zgD n)=true then 4 else 0
theorem zgJ (a:Option Addr)(cap:Nat)(x:List Int)(w:World)(hl:x.length≤1000000)
  (hc:∀ i u,(zap x)[i]?=some u→∃ b off,a=some ⟨b,off,none⟩∧w.cell? ⟨b,off+i,none⟩=some u) :
  Calls Tryz.prog 47 #[.slice a x.length cap,.func (.func 118) #[] #[]] w fun e w'=>e=.returned (.bool (x.any fun n=>!zgD n))∧Ext w w':=by
 cases x with
 | nil=>exact (AnyE.slices_ContainsFunc_empty Tryz.lContainsR a cap _ w).mono fun e w' ⟨h,hw⟩=>⟨h,by rw [hw];exact Ext.refl _⟩
 | cons z r =>
  obtain ⟨b,off,rfl,_⟩:=hc 0 _ (zau (l:=z::r) (by simp))
  have h:=AnyE.slices_ContainsFunc Tryz.lContainsR (Value.int .i64) (fun n=>!zgD n) 118 #[] zgH b off (z::r).length cap (z::r) w (zgG w) (Nat.le_refl _) (by omega) (fun j hj=>by
   obtain ⟨b2,off2,e2,hcell⟩:=hc j _ (zau hj);simp only [Option.some.injEq,Addr.mk.injEq,and_true] at e2;obtain ⟨rfl,rfl⟩:=e2;rw [hcell];unfold zas;rw [List.getD_eq_getElem?_getD,List.getElem?_eq_getElem hj,getElem!_pos _ j hj];rfl)
  rw [List.take_length] at h
  exact h.mono fun e w' ⟨he,q,hw⟩=>⟨he,by rw [hw];exact (Ext.refl w).drewN q⟩
theorem zgK (v:Value)(x:List Int)(w:World)(hv:Sl w v (zap x))(hl:x.length≤1000000) :
  Calls Tryz.prog 85 #[v] w fun e w'=>e=.returned (.int .i64 (zgI x))∧Ext w w':=by
 obtain ⟨a,cap,rfl,_,_,hc⟩:=hv.parts;rw [zar];have hcon:=zgJ a cap x w hl hc;clear hc hv;unfold zgI;by_cases h64:64<x.length
 ·rw [if_pos (.inl h64)];clear hcon;go_enter Tryz.func85,Tryz.ntmps85
  go_wp2
  go_ret
  exact ⟨rfl,Ext.refl _⟩
 ·by_cases hb:x.any (fun n=>!zgD n)=true
  ·rw [if_pos (.inr hb)];rw [hb] at hcon;have Hcon:=hid hcon;clear hcon hb;go_enter Tryz.func85,Tryz.ntmps85
   go_wp2_with fail
   refine Hcon.out.mono ?_;rintro e w1 ⟨rfl,hx1⟩;have Hx1:=hid hx1;clear hx1;go_wp2
   go_ret
   exact ⟨rfl,Hx1.out⟩
  ·rw [if_neg (fun h=>h.elim h64 hb)];rw [show x.any (fun n=>!zgD n)=false by simpa using hb] at hcon;have Hcon:=hid hcon;clear hcon hb;go_enter Tryz.func85,Tryz.ntmps85
   go_wp2_with fail
   refine Hcon.out.mono ?_;rintro e w1 ⟨rfl,hx1⟩;have Hx1:=hid hx1;clear hx1;go_wp2
   go_ret
   exact ⟨rfl,Hx1.out⟩
end
section
open Go.RowKit Go.Lib
theorem zgL {w:World}{B g cap:Nat}{o:List Int}(h:zc2 w B (.slice (some ⟨g,0,none⟩) o.length cap) o)(j:Nat)(x:Int) :
  zc2 (w.setCell ⟨g,j,none⟩ (.int .i64 x)) B (.slice (some ⟨g,0,none⟩) o.length cap) (o.set j x):=by
 have:=(World.ownsRow.stored h j (.int .i64 x)).1;unfold zc2;rw [List.length_set];rwa [show (zap o).set j (.int .i64 x)=zap (o.set j x) by simp [zap,List.map_set]] at this
theorem zgM {w:World}{B g cap:Nat}{o:List Int}(h:zc2 w B (.slice (some ⟨g,0,none⟩) o.length cap) o)(j:Nat)(hj:j<o.length) :
  w.cell? ⟨g,j,none⟩=some (.int .i64 (zas o j)):=by
 rw [World.ownsRow.cellAt h j (by omega),zau hj]
def zgN (x:List Int)(k:Int)(y:List Int):List Int:=List.zipWith (fun a b=>a+k * b) x y
def zgO (x:List Int)(k:Int)(y:List Int):Option (List Int):=if (zgN x k y).any far=true then none else some (zgN x k y)
def zgP (x:List Int)(k:Int)(y:List Int)(j:Nat):List Int:=(zgN x k y).take j++List.replicate (x.length - j) 0
section
variable {x y : List Int} {k : Int} {j : Nat}
theorem zgQ (h:x.length=y.length):(zgN x k y).length=x.length:=by unfold zgN;rw [List.length_zipWith,← h,Nat.min_self]
theorem zgR (h:x.length=y.length)(hj:j<x.length):zas (zgN x k y) j=zas x j+k * zas y j:=by
 unfold zgN zas;rw [List.getD_eq_getElem?_getD,List.getElem?_zipWith,List.getElem?_eq_getElem hj,List.getElem?_eq_getElem (by omega),List.getD_eq_getElem?_getD,List.getElem?_eq_getElem hj,List.getD_eq_getElem?_getD,List.getElem?_eq_getElem (by omega)];rfl
theorem zgS (h:x.length=y.length)(hj:j≤x.length):(zgP x k y j).length=x.length:=by
 unfold zgP;rw [List.length_append,List.length_take,List.length_replicate,zgQ h];omega
theorem zgT : zgP x k y 0=List.replicate x.length 0:=by simp [zgP]
theorem zgU (h:x.length=y.length):zgP x k y x.length=zgN x k y:=by
 unfold zgP;rw [List.take_of_length_le (by rw [zgQ h];exact Nat.le_refl _),Nat.sub_self];simp
theorem zgV (h:x.length=y.length)(hj:j<x.length):(zgP x k y j).set j (zas x j+k * zas y j)=zgP x k y (j+1):=by
 have hl:=zgQ (k:=k) h;rw [← zgR (k:=k) h hj];apply List.ext_getElem?;intro i;rw [List.getElem?_set,zgS h (by omega)];unfold zgP;by_cases e:j=i
 ·subst e;rw [if_pos rfl,if_pos hj,List.getElem?_append_left (by rw [List.length_take];omega),List.getElem?_take_of_lt (by omega)];unfold zas;rw [List.getD_eq_getElem?_getD,List.getElem?_eq_getElem (by omega)];rfl
 ·rw [if_neg e];by_cases g:i<j
  ·rw [List.getElem?_append_left (by rw [List.length_take];omega),List.getElem?_append_left (by rw [List.length_take];omega),List.getElem?_take_of_lt g,List.getElem?_take_of_lt (by omega)]
  ·rw [List.getElem?_append_right (by rw [List.length_take];omega),List.getElem?_append_right (by rw [List.length_take];omega),List.getElem?_replicate,List.getElem?_replicate,List.length_take,List.length_take];congr 1;simp only [eq_iff_iff];omega
theorem zgW (h:x.length=y.length)(hj:j<x.length):zas (zgP x k y (j+1)) j=zas x j+k * zas y j:=by
 rw [← zgV h hj];unfold zas;rw [List.getD_eq_getElem?_getD,List.getElem?_set_self (by rw [zgS h (by omega)];exact hj)];rfl
end
def zgX (B:Nat):Option (List Int)→Ending→World→Prop
 | some o,e,w'=>∃ v,e=.returned (.tuple #[v,.bool true])∧zc2 w' B v o
 | none,e,_=>e=.returned (.tuple #[.slice none 0 0,.bool false])
theorem zgY (vx vy:Value)(x y:List Int)(k:Int)(w:World)(hx:Sl w vx (zap x))(hy:Sl w vy (zap y))(hl:x.length=y.length)(hn:x.length≤1000)(bx:∀ i,i<x.length→-1000000≤zas x i∧zas x i≤1000000)(bp:∀ i,i<x.length→-1000000000000000≤k * zas y i∧k * zas y i≤1000000000000000) :
  Calls Tryz.prog 46 #[vx,.int .i64 k,vy] w fun e w'=>zgX w.heap.size (zgO x k y) e w'∧Ext w w':=by
 obtain ⟨i0,hi,hz0,hz1,hz2⟩:=info_parts zc1;obtain ⟨ax,cx,rfl,_,_,hcx⟩:=hx.parts;obtain ⟨ay,cy,rfl,_,_,hcy⟩:=hy.parts;rw [zar] at hx hy ⊢;rw [zar,← hl];have hst:=fun j (hj:j<x.length)=>zgV (k:=k) hl hj;have hat:=fun j (hj:j<x.length)=>zgW (k:=k) hl hj;have hto:=fun j (hj:j≤x.length)=>zgS (k:=k) hl hj;have hfu:=zgU (k:=k) hl;have hpl:=zgQ (k:=k) hl;have hpa:=fun j (hj:j<x.length)=>zgR (k:=k) hl hj;have hyl:y.length=x.length:=hl.symm;have Hcx:=hid hcx;have Hcy:=hid hcy;have Hst:=hid hst;have Hat:=hid hat;have Hto:=hid hto;have Hfu:=hid hfu;have Hpl:=hid hpl;have Hpa:=hid hpa;have Bx:=hid bx;have Bp:=hid bp;have Hyl:=hid hyl;clear hcx hcy hst hat hto hfu hpl hpa bx bp hyl;clear hx hy hl;go_enter Tryz.func46,Tryz.ntmps46
 go_wp2_with (at_make;refine wpList_make_full _ rfl _ _ 33 rfl w.heap.size 3 i0 (.int .i64 0) 1 Tryz.underlying33 hi hz0 hz1 _ _ _ _ x.length rfl rfl rfl rfl (by rw [hz2];omega) (by unfold maxLen;omega) (Nat.le_refl _) ?_;intro w1 hown hgrow)
 have hE1:Ext w w1:=(Ext.refl _).grown hgrow (by simp);have hown1:zc2 w1 w.heap.size (.slice (some ⟨w.heap.size,0,none⟩) x.length x.length) (zgP x k y 0):=by
  rw [zgT];unfold zc2;rw [List.length_replicate];have e:zap (List.replicate x.length 0)=(madeCells #[Value.int .i64 0] (x.length * 1)).toList:=by
   rw [Nat.mul_one,toList_madeCells_one];simp [zap]
  rw [e];exact hown
 have HE1:=hid hE1;have Hown1:=hid hown1;clear hE1 hown1;clear hown hgrow;go_wp2_with fail
 go_loopw [15] (fun v15 wr=>∃ j:Nat,v15=.int .i64 j∧j≤x.length∧Hid (zc2 wr w.heap.size (.slice (some ⟨w.heap.size,0,none⟩) x.length x.length) (zgP x k y j))∧Hid (∀ i,i<j→far (zas (zgN x k y) i)=false)∧Hid (Ext w wr)) (fun v15 _=>x.length - (zal v15).toNat)
 case atStart=>exact ⟨0,rfl,Nat.zero_le _,Hown1,hid (fun i hi=>by omega),HE1⟩
 case round =>
  clear Hown1;obtain ⟨j,rfl,hj,HO,HN,HE⟩:=hrel;by_cases hjn:j<x.length
  ·obtain ⟨bx1,ox,rfl,hcx0⟩:=Hcx.out j _ (zau hjn);obtain ⟨by1,oy,rfl,hcy0⟩:=Hcy.out j _ (zau (by rw [Hyl.out];exact hjn));have hc1:=HE.out.cell hcx0;have hc2:=HE.out.cell hcy0;have hO:zc2 wr w.heap.size (.slice (some ⟨w.heap.size,0,none⟩) (zgP x k y j).length x.length) (zgP x k y j):=(by rw [Hto.out j hj];exact HO.out);have hc3:=zgM hO j (by rw [Hto.out j hj];exact hjn);have hfz:wr.frozen? ⟨w.heap.size,j,none⟩=false:=World.ownsRow.frozenAt hO j;have hset:=zgL hO j (zas x j+k * zas y j);rw [Hst.out j hjn,Hto.out j hj] at hset;have hs9:=hset;rw [← Hto.out (j+1) hjn] at hs9;have hc9:=zgM hs9 j (by rw [Hto.out (j+1) hjn];exact hjn);rw [Hat.out j hjn] at hc9;have hEz:Ext w (wr.setCell ⟨w.heap.size,j,none⟩ (.int .i64 (zas x j+k * zas y j))):=HE.out.setCell (Nat.le_refl _) _;obtain ⟨b1,b2⟩:=Bx.out j hjn;obtain ⟨b3,b4⟩:=Bp.out j hjn;have hfa:=Hpa.out j hjn;have hj0:(0:Int)≤(j:Int):=(by omega);have hj1:(j:Int)<(x.length:Int):=(by omega);have Hset:=hid hset;have HEz:=hid hEz;have Hfa:=hid hfa;have Hc9:=hid hc9;clear hset hEz hfa hc9;clear hO hs9 hcx0 hcy0;generalize zas x j=zx at *;generalize zas y j=zy at *;go_wp2_with fail
   go_region
   have h9:=((Ext.refl _).drew).cell Hc9.out;have hS:=((Ext.refl _).drew).ownI Hset.out;have hE9:=HEz.out.drew;have HS:=hid hS;have HE9:=hid hE9;clear hS hE9;generalize hzz:zx+k * zy=z at *;have h3:(1000<z)∨(¬ 1000<z∧z < -1000)∨(¬ 1000<z∧¬ z < -1000):=(by omega);clear hc1 hc2 hc3 hfz hzz b1 b2 b3 b4;rcases h3 with g | ⟨g,g2⟩ | ⟨g,g2⟩
   ·have hd:decide (z > 1000)=true:=decide_eq_true g;have hnone:zgO x k y=none:=by
     unfold zgO;rw [if_pos (zgq (k:=j) (by rw [Hpl.out];exact hjn) (by rw [Hfa.out];exact zgn g))]
    have Hnone:=hid hnone;clear hnone;go_wp2
    go_ret2
    exact ⟨by rw [Hnone.out] <;> rfl,HE9.out⟩
   ·have hd:decide (z > 1000)=false:=decide_eq_false g;have hd2:decide (z < -1000)=true:=decide_eq_true g2;have hnone:zgO x k y=none:=by
     unfold zgO;rw [if_pos (zgq (k:=j) (by rw [Hpl.out];exact hjn) (by rw [Hfa.out];exact zgo g2))]
    have Hnone:=hid hnone;clear hnone;go_wp2
    go_ret2
    exact ⟨by rw [Hnone.out] <;> rfl,HE9.out⟩
   ·have hd:decide (z > 1000)=false:=decide_eq_false g;have hd2:decide (z < -1000)=false:=decide_eq_false g2;have hnf:=zgp g g2;have Hnf:=hid hnf;clear hnf;go_wp2
    go_roundw
    case rel =>
     refine ⟨j+1,by go_num,hjn,HS,hid (fun i hi=>?_),HE9⟩;rcases Nat.lt_or_ge i j with q | q
     ·exact HN.out i q
     ·obtain rfl:i=j:=by omega
      rw [Hfa.out];exact Hnf.out
    case measure=>simp [zal];omega
  ·have hjl:j=x.length:=(by omega);have hnj:¬ (j:Int)<(x.length:Int):=(by omega);have hO:=HO.out;rw [hjl,Hfu.out] at hO;have hsome:zgO x k y=some (zgN x k y):=by
    unfold zgO;rw [if_neg];rw [zgr (fun i hi=>HN.out i (by rw [Hpl.out] at hi;omega))];exact Bool.false_ne_true
   have hO9:zc2 wr w.heap.size (.slice (some ⟨w.heap.size,0,none⟩) x.length x.length) (zgN x k y):=hO;have HO9:=hid hO9;have Hsome:=hid hsome;clear hO9 hsome;clear hO hjl;go_wp2
   go_ret2
   exact ⟨by rw [Hsome.out];exact ⟨_,rfl,HO9.out⟩,HE.out⟩
def zgZ (p x y:List Int):Int:=zbj ((zgy p x * zgz p y:Nat):Int) ((zgy p y * zgz p x:Nat):Int)
theorem zha (a b:Int):zbj b a=-zbj a b:=by unfold zbj;(repeat' split) <;> omega
theorem zhb (a b:Int):zbj a b≤0 ↔ a≤b:=by unfold zbj;(repeat' split) <;> omega
theorem zhc (p x y:List Int):zgZ p y x=-zgZ p x y:=by unfold zgZ;rw [zha]
def zhd (n:Nat):List Int:=List.replicate n 0
def zhe (p:List Int):List Int→List (List Int)→Int
 | _,[]=>0
 | b,x::l=>if zgu p x ≠ 0 then zgu p x else if 0≤zgZ p b x then 6 else zhe p x l
def zhf (p:List Int)(l:List (List Int)):Int:=if zcw p ≠ 0 then zcw p else if l.length=0 then 13 else if 60<l.length then 4 else zhe p (zhd p.length) l
theorem zhg (n i:Nat):zas (List.replicate n (0:Int)) i=0:=by
 unfold zas;rw [List.getD_eq_getElem?_getD,List.getElem?_replicate];split <;> rfl
theorem zhh (p:List Int)(n:Nat):∀ k,zgw p (List.replicate n 0) k=1∧zgx p (List.replicate n 0) k=1
 | 0=>⟨rfl,rfl⟩
 | k+1=>by
  obtain ⟨h1,h2⟩:=zhh p n k;unfold zgw zgx;rw [zhg,h1,h2];simp
theorem zhi {p x:List Int}(h:zgu p x=0):0≤zgZ p (zhd p.length) x ↔ zgB p x≤0:=by
 unfold zgZ zgB;rw [if_neg (by omega),zhb];have e1:zgy p (zhd p.length)=1:=(zhh p _ _).1;have e2:zgz p (zhd p.length)=1:=(zhh p _ _).2;rw [e1,e2,Nat.one_mul,Nat.mul_one,zha];have:=zhb (zgy p x:Nat) (zgz p x:Nat);omega
def zhj (p:List Nat):List Int:=p.map fun (n:Nat)=>(n:Int)
theorem zhk (p:List Nat):(zhj p).length=p.length:=by simp [zhj]
def ivl (n:Nat)(l:List Int):List Int:=(List.range n).map fun i=>(zas l i).tmod 10
theorem zhl (n:Nat)(l:List Int):ivl (n+1) l=ivl n l++[(zas l n).tmod 10]:=by
 unfold ivl;rw [List.range_succ,List.map_append];rfl
theorem zhm (n:Nat)(l:List Int):(ivl n l).length=n:=by simp [ivl]
theorem zhn (z:Int):-9≤z.tmod 10∧z.tmod 10≤9:=by
 rcases Int.le_total 0 z with h | h
 ·rw [Int.tmod_eq_emod_of_nonneg h];omega
 ·obtain ⟨n,rfl⟩:∃ n:Nat,z=-(n:Int):=⟨z.natAbs,by omega⟩;rw [Int.neg_tmod,Int.tmod_eq_emod_of_nonneg (by omega)];omega
theorem zho (w:World)(a b c d:Int)(t:TypeId)(k:Nat)(hk:k<4):(w.alloc (.cells #[.int .i8 a,.int .i8 b,.int .i8 c,.int .i8 d] t)).cell? ⟨w.heap.size,k,none⟩=some (.int .i8 (zas [a,b,c,d] k)):=by
 have h:=World.alloc_heap_new w (.cells #[.int .i8 a,.int .i8 b,.int .i8 c,.int .i8 d] t);unfold World.cell?;rw [h];rcases (show k=0∨k=1∨k=2∨k=3 by omega) with rfl | rfl | rfl | rfl <;> rfl
theorem zhp (vp:Value)(p:List Int)(a b c d:Int)(w:World)(hp:Sl w vp (zap p))(hl:p.length≤4)(hr:∀ z∈[a,b,c,d],-128≤z∧z≤127) :
  Calls Tryz.prog 72 #[vp,.agg #[.int .i8 a,.int .i8 b,.int .i8 c,.int .i8 d]] w fun e w'=>∃ v,e=.returned v∧zc2 w' w.heap.size v (ivl p.length [a,b,c,d])∧Ext w w':=by
 obtain ⟨i0,hi,hz0,hz1,hz2⟩:=info_parts zc1;obtain ⟨ap,cp,rfl,_,_,hcp⟩:=hp.parts;rw [zar];clear hcp hp;have h4:=zho w a b c d 119;have hE0:Ext w (w.alloc (.cells #[.int .i8 a,.int .i8 b,.int .i8 c,.int .i8 d] 119)):=(Ext.refl w).alloc _;have H4:=hid h4;have Hr:=hid hr;have HE0:=hid hE0;clear h4 hr hE0;generalize hW:w.alloc (.cells #[.int .i8 a,.int .i8 b,.int .i8 c,.int .i8 d] 119)=W at *;go_enter Tryz.func72,Tryz.ntmps72
 go_wp2
 go_loopw [5,6] (fun v i wr=>∃ k:Nat,i=.int .i64 k∧k≤p.length∧zc2 wr W.heap.size v (ivl k [a,b,c,d])∧Ext W wr) (fun _ i _=>p.length - (zal i).toNat)
 case atStart=>exact ⟨0,rfl,Nat.zero_le _,World.ownsRow_nil _ _ _ 1,Ext.refl _⟩
 case round =>
  obtain ⟨k,rfl,hk,hown,hext⟩:=hrel;obtain ⟨av,cv,rfl⟩:=zc3 hown;rw [zhm] at *;have Hown:=hid hown;have Hext:=hid hext;clear hown hext;by_cases hlt:k<p.length
  ·have hcell:=Hext.out.cell (H4.out k (by omega));have hin:-128≤zas [a,b,c,d] k∧zas [a,b,c,d] k≤127:=Hr.out _ (zav (by simp;omega));have ht:=zhn (zas [a,b,c,d] k);have hs:=zhl k [a,b,c,d];have Hs:=hid hs;clear hs;generalize zas [a,b,c,d] k=z at *;obtain ⟨hi1,hi2⟩:=hin;obtain ⟨ht1,ht2⟩:=ht;have hk4:(k:Int)<4:=(by omega);have hk0:(0:Int)≤(k:Int):=(by omega);have hown:=Hown.out;unfold zc2 at hown;rw [zhm] at hown;have hm3:k+1≤maxLen:=(by unfold maxLen;omega);have hm4:(k+1) * 8≤140737488355328:=(by omega);have hsz:=Hext.out.size;have hm5:W.heap.size≤(wr.alloc (.cells #[.int .i64 (z.tmod 10)] 3)).heap.size:=(by rw [World.size_alloc];omega);go_wp2_with (at_builtin;refine wpList_append_own _ rfl _ _ 33 rfl W.heap.size 3 i0 (.int .i64 0) 1 8 Tryz.underlying33 hi hz0 hz1 hz2 rfl (by decide) _ _ _ rfl (hown.alloc _) ⟨wr.heap.size,0,none⟩ 1 1 [.int .i64 (z.tmod 10)] rfl rfl (cell_one_new _ _ _) (by simp [Value.oneCell']) hm3 hm4 hm5 ?_;intro v' w1 hown' hgrow _)
   have hE9:Ext W w1:=zc4 Hext.out hown hgrow;have hown9:zc2 w1 W.heap.size v' (ivl (k+1) [a,b,c,d]):=by
    unfold zc2;rw [Hs.out,List.length_append,zhm];simpa [zap] using hown'
   have Hown9:=hid hown9;have HE9:=hid hE9;clear hown hown' hgrow hE9 hown9;go_wp2
   go_roundw
   case rel=>exact ⟨k+1,by go_num,by omega,Hown9.out,HE9.out⟩
   case measure=>simp [zal];omega
  ·obtain rfl:k=p.length:=by omega
   go_wp2
   go_ret
   exact ⟨_,rfl,zam Hown.out HE0.out.size,HE0.out.trans Hext.out⟩
def zhq : List (List Nat):=[[2,3,5],[2,3,5,7],[2,3],[2,3,7],[2,5,7],[3,5,7],[2,3,5,11],[2],[2,3,7,13],[3,5,7,13]]
def zhr (n:Nat):List Nat:=zhq.getD (n % 10) []
theorem zhs : ∀ (os:List Obj)(w:World)(i:Nat),i<os.length→(os.foldl World.alloc w).heap[w.heap.size+i]?=os[i]?
 | [],_,_,h=>by simp at h
 | o::r,w,0,_=>by
  have keep:∀ (l:List Obj)(v:World)(k:Nat),k<v.heap.size→(l.foldl World.alloc v).heap[k]?=v.heap[k]?:=by
   intro l;induction l with
   | nil=>intro v k _;rfl
   | cons a l ih =>
    intro v k hk
    rw [List.foldl_cons,ih (v.alloc a) k (by rw [World.size_alloc];omega)]
    exact Below.heap_alloc v a k hk
  rw [List.foldl_cons,keep r (w.alloc o) _ (by rw [World.size_alloc];omega)];exact World.alloc_heap_new w o
 | o::r,w,i+1,h=>by
  rw [List.foldl_cons];have:=zhs r (w.alloc o) i (by simpa using h);rw [World.size_alloc] at this;rw [show w.heap.size+(i+1)=w.heap.size+1+i by omega,this];rfl
theorem zht {w:World}{B b:Nat}{xs:List Value}{t:TypeId}(h:w.heap[b]?=some (.cells xs.toArray t (0,0)))(hb:B≤b)(hm:xs.length≤maxLen):w.ownsRow B t 1 (.slice (some ⟨b,0,none⟩) xs.length xs.length) xs.length xs :=
 ⟨by simp,.inr ⟨b,xs.length,xs.toArray,rfl,hb,h,Nat.le_refl _,hm,by simp,by simp⟩⟩
theorem zhu (w:World):∀ os:List Obj,Ext w (os.foldl World.alloc w):=by
 have:∀ (os:List Obj)(v:World),Ext w v→Ext w (os.foldl World.alloc v):=by
  intro os;induction os with
  | nil=>intro v h;exact h
  | cons o r ih=>intro v h;exact ih _ (h.alloc o)
 exact fun os=>this os w (Ext.refl w)
def zhv : List Obj:=zhq.map fun l=>Obj.cells (zap (zhj l)).toArray 3 (0,0)
theorem zhw (w:World)(o:Obj)(r:Nat)(hr:r<10):zc2 ((zhv++[o]).foldl World.alloc w) w.heap.size (.slice (some ⟨w.heap.size+r,0,none⟩) (zhq.getD r []).length (zhq.getD r []).length) (zhj (zhq.getD r []))∧Ext w ((zhv++[o]).foldl World.alloc w):=by
 refine ⟨?_,zhu w _⟩;have h:=zhs (zhv++[o]) w r (by simp [zhv,zhq];omega);have hlen:(zhq.getD r []).length=(zap (zhj (zhq.getD r []))).length:=by rw [zar,zhk]
 have hlen2:(zhj (zhq.getD r [])).length=(zap (zhj (zhq.getD r []))).length:=by rw [zar]
 unfold zc2;rw [hlen,hlen2];refine zht (t:=3) ?_ (by omega) ?_
 ·rw [h,List.getElem?_append_left (by simp [zhv,zhq];omega)];unfold zhv;have hl:r<zhq.length:=by simp [zhq];omega
  rw [List.getElem?_map,List.getElem?_eq_getElem hl,List.getD_eq_getElem?_getD,List.getElem?_eq_getElem hl];rfl
 ·rw [← hlen];rcases (show r=0∨r=1∨r=2∨r=3∨r=4∨r=5∨r=6∨r=7∨r=8∨r=9 by omega) with rfl | rfl | rfl | rfl | rfl | rfl | rfl | rfl | rfl | rfl <;> decide
theorem zhx (n r:Nat)(w:World)(hn:n<256)(hr:n % 10=r) :
  Calls Tryz.prog 29 #[.int .u8 n] w fun e w'=>∃ v,e=.returned v∧zc2 w' w.heap.size v (zhj (zhq.getD r []))∧Ext w w':=by
 have hm:(n:Int) % 10=(r:Int):=by omega
 have hr10:r<10:=by omega
 clear hr;rcases (show r=0∨r=1∨r=2∨r=3∨r=4∨r=5∨r=6∨r=7∨r=8∨r=9 by omega) with rfl | rfl | rfl | rfl | rfl | rfl | rfl | rfl | rfl | rfl
 ·go_enter Tryz.func29,Tryz.ntmps29
  go_wp2
  go_ret
  exact ⟨_,rfl,zhw w _ 0 (by omega)⟩
 ·go_enter Tryz.func29,Tryz.ntmps29
  go_wp2
  go_ret
  exact ⟨_,rfl,zhw w _ 1 (by omega)⟩
 ·go_enter Tryz.func29,Tryz.ntmps29
  go_wp2
  go_ret
  exact ⟨_,rfl,zhw w _ 2 (by omega)⟩
 ·go_enter Tryz.func29,Tryz.ntmps29
  go_wp2
  go_ret
  exact ⟨_,rfl,zhw w _ 3 (by omega)⟩
 ·go_enter Tryz.func29,Tryz.ntmps29
  go_wp2
  go_ret
  exact ⟨_,rfl,zhw w _ 4 (by omega)⟩
 ·go_enter Tryz.func29,Tryz.ntmps29
  go_wp2
  go_ret
  exact ⟨_,rfl,zhw w _ 5 (by omega)⟩
 ·go_enter Tryz.func29,Tryz.ntmps29
  go_wp2
  go_ret
  exact ⟨_,rfl,zhw w _ 6 (by omega)⟩
 ·go_enter Tryz.func29,Tryz.ntmps29
  go_wp2
  go_ret
  exact ⟨_,rfl,zhw w _ 7 (by omega)⟩
 ·go_enter Tryz.func29,Tryz.ntmps29
  go_wp2
  go_ret
  exact ⟨_,rfl,zhw w _ 8 (by omega)⟩
 ·go_enter Tryz.func29,Tryz.ntmps29
  go_wp2
  go_ret
  exact ⟨_,rfl,zhw w _ 9 (by omega)⟩
theorem zhy (n:Nat)(w:World)(hn:n<256) :
  Calls Tryz.prog 29 #[.int .u8 n] w fun e w'=>∃ v,e=.returned v∧zc2 w' w.heap.size v (zhj (zhr n))∧Ext w w':=zhx n _ w hn rfl
end
end Go.Proofs.YtipkdebkdnbieaaGreatDoor
