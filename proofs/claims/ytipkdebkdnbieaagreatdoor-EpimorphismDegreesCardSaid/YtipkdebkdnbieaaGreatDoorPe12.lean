/- Walks: monzo's Check, CheckAll, sides and Sign, row's Check: out of XIvlA. (Printed by rebase.py.) Plain: the first error of a set of intervals, as the program finds it and as law 37 does. Walks: law 12's Primes and Interval: out of XLawA. (Printed by rebase.py.) -/
import Derived.Test.YtipkdebkdnbieaaGreatDoorPe02
import Derived.Test.YtipkdebkdnbieaaGreatDoorPe11
import Derived.RangeFuncNested
import Derived.RangeFuncBound
import Derived.RangeFuncCalls
import Derived.RangeFuncLeaves
import Derived.RangeFuncBox
import Derived.RangeFuncWrites
import Derived.Shelf.Abstract
import Derived.OwnWalkIn
import Derived.TacticsInMore
import Derived.LoopNIn
import Derived.LoopIn
import Derived.Maps.AppendAt
import Derived.Test.YtipkdebkdnbieaaGreatDoorShelfA
import Derived.Test.YtipkdebkdnbieaaGreatDoorShelfM
import Derived.Shelf.SlicesE.IndexFunc
import Derived.Deep.RegionHeld3
set_option maxRecDepth 100000
set_option maxHeartbeats 4000000
namespace Go.Proofs.YtipkdebkdnbieaaGreatDoor
section
open Go.RowKit Go.Lib
attribute [local go_sem] Oper.semAt_some
def Mat (w:World)(v:Value)(l:List (List Int)):Prop :=
 ∃ vs:List Value,vs.length=l.length∧Sl w v vs∧∀ i u,vs[i]?=some u→Sl w u (zap (l.getD i []))
def far (z:Int):Bool:=decide (1000<z) || decide (z < -1000)
def zgh (n:Nat)(x:List Int):Int:=if x.length ≠ n then 5 else if x.any far then 4 else 0
def zgi (n:Nat):List (List Int)→Int
 | []=>0
 | x::r=>if zgh n x ≠ 0 then zgh n x else zgi n r
def zgj (p:List Int)(l:List (List Int)):Int:=if zcw p ≠ 0 then zcw p else zgi p.length l
theorem zgk {z:Int}(h:1000<z):far z=true:=by unfold far;rw [decide_eq_true h];rfl
theorem zgl {z:Int}(h:z < -1000):far z=true:=by unfold far;rw [decide_eq_true h];simp
theorem zgm {z:Int}(h1:¬ 1000<z)(h2:¬ z < -1000):far z=false:=by unfold far;rw [decide_eq_false h1,decide_eq_false h2];rfl
theorem zgn {x:List Int}{k:Nat}(hk:k<x.length)(h:far (zas x k)=true):x.any far=true :=
 List.any_eq_true.2 ⟨_,zav hk,h⟩
theorem zgo {x:List Int}(h:∀ k,k<x.length→far (zas x k)=false):x.any far=false:=by
 rw [List.any_eq_false];intro z hz;obtain ⟨k,hk,rfl⟩:=List.getElem_of_mem hz;have:=h k hk;unfold zas at this;rw [List.getD_eq_getElem?_getD,List.getElem?_eq_getElem hk] at this;simpa using this
theorem zgp {n:Nat}{l:List (List Int)}{k:Nat}(hk:k<l.length):zgi n (l.drop k)=if zgh n (l.getD k []) ≠ 0 then zgh n (l.getD k []) else zgi n (l.drop (k+1)):=by
 rw [List.drop_eq_getElem_cons hk,zgi];rw [List.getD_eq_getElem?_getD,List.getElem?_eq_getElem hk];rfl
theorem zgq (vp vl:Value)(p:List Int)(l:List (List Int))(w:World)(hp:Sl w vp (zap p))(hl:Mat w vl l)(hlp:p.length≤1000000)(hll:l.length≤1000000)(hrow:∀ i,(l.getD i []).length≤1000000) :
  Calls Tryz.prog 14 #[vp,vl] w fun e w'=>e=.returned (.int .i64 (zgj p l))∧w=w':=by
 have hpc:=zcx vp p w hp hlp;obtain ⟨ap,cp,rfl,_,_,_⟩:=hp.parts;rw [zar] at *;have Hpc:=hid hpc;clear hpc;obtain ⟨vs,hvs,hsl,hrows⟩:=hl;obtain ⟨a,cap,rfl,_,_,hc⟩:=hsl.parts;rw [hvs];have Hc:=hid hc;clear hc hsl;have Hrows:=hid hrows;clear hrows;have Hvs:=hid hvs;clear hvs;have Hrow:=hid hrow;clear hrow;unfold zgj;generalize hpe:zcw p=pe at *;have Hpe:=hid hpe;clear hpe;by_cases hp0:pe=0
 ·subst hp0;rw [if_neg (by simp)];obtain ⟨r,hr⟩:∃ r,r=zgi p.length l:=⟨_,rfl⟩;rw [← hr];have Hr:=hid hr;clear hr;go_enter Tryz.func14,Tryz.ntmps14
  go_wp2_with fail
  refine Hpc.out.mono ?_;rintro e w1 ⟨rfl,rfl⟩;go_wp2
  go_loop [17] (fun i=>∃ k:Nat,i=.int .i64 k∧k≤l.length∧r=zgi p.length (l.drop k)) (fun i=>l.length - (zal i).toNat)
  case atStart=>exact ⟨0,rfl,Nat.zero_le _,by rw [List.drop_zero];exact Hr.out⟩
  case round =>
   obtain ⟨k,rfl,hk,hr⟩:=hrel;by_cases hlt:k<l.length
   ·obtain ⟨u,hu⟩:∃ u,vs[k]?=some u:=⟨_,List.getElem?_eq_getElem (by rw [Hvs.out];exact hlt)⟩;obtain ⟨b,off,rfl,hcell⟩:=Hc.out k u hu;have hrk:=Hrows.out k u hu;have hxl:=Hrow.out k;rw [zgp hlt] at hr;generalize hx:l.getD k []=x at *;have Hx:=hid hx;clear hx hu;obtain ⟨ax,cx,rfl,_,_,hcx⟩:=hrk.parts;rw [zar] at hcell;have Hcx:=hid hcx;clear hcx hrk;by_cases hne:x.length=p.length
    ·have ht:((x.length:Int) != (p.length:Int))=false:=(by rw [bne_eq_false_iff_eq];omega);have hre:zgh p.length x=if x.any far then 4 else 0:=(by unfold zgh;rw [if_neg (by simpa using hne)]);rw [hre] at hr;have Hr2:=hid hr;clear hr hre hne;go_wp2
     go_loop [28] (fun i=>∃ j:Nat,i=.int .i64 j∧j≤x.length∧∀ t,t<j→far (zas x t)=false) (fun i=>x.length - (zal i).toNat)
     case atStart=>exact ⟨0,rfl,Nat.zero_le _,fun t ht=>by omega⟩
     case round =>
      obtain ⟨j,rfl,hj,hfar⟩:=hrel;have Hfar:=hid hfar;clear hfar;by_cases hjl:j<x.length
      ·obtain ⟨b2,off2,rfl,hcell2⟩:=Hcx.out j _ (zau hjl);have h3:(1000<zas x j)∨(¬ 1000<zas x j∧zas x j < -1000)∨(¬ 1000<zas x j∧¬ zas x j < -1000):=(by omega);rcases h3 with g | ⟨g,g2⟩ | ⟨g,g2⟩
       ·have hr4:r=4:=(by rw [Hr2.out,if_pos (zgn hjl (zgk g)),if_pos (by simp)]);have Hr4:=hid hr4;clear hr4;generalize zas x j=z at *;go_wp2
        go_ret
        exact ⟨zbi Hr4.out.symm,rfl⟩
       ·have hr4:r=4:=(by rw [Hr2.out,if_pos (zgn hjl (zgl g2)),if_pos (by simp)]);have Hr4:=hid hr4;clear hr4;generalize zas x j=z at *;go_wp2
        go_ret
        exact ⟨zbi Hr4.out.symm,rfl⟩
       ·have hfj:=zgm g g2;have Hfj:=hid hfj;clear hfj;generalize hz:zas x j=z at *;have Hz:=hid hz;clear hz;go_wp2
        go_round
        case rel=>exact ⟨j+1,by go_num,by omega,fun t h4=>by
         rcases Nat.lt_or_ge t j with g3 | g3
         ·exact Hfar.out t g3
         ·rw [show t=j by omega,Hz.out];exact Hfj.out⟩
        case measure=>simp [zal];omega
      ·have hall:x.any far=false:=zgo fun t ht=>Hfar.out t (by omega);have hr5:r=zgi p.length (l.drop (k+1)):=by
        have:=Hr2.out;rw [hall] at this;rw [this];simp
       have Hr5:=hid hr5;clear hr5 hall;go_wp2
       go_round
       case rel=>exact ⟨k+1,by go_num,by omega,Hr5.out⟩
       case measure=>simp [zal];omega
    ·have ht:((x.length:Int) != (p.length:Int))=true:=(by rw [bne_iff_ne];omega);have hr5:r=5:=by
      rw [hr];unfold zgh;rw [if_pos hne,if_pos (by simp)]
     have Hr5:=hid hr5;clear hr5 hr hne;go_wp2
     go_ret
     exact ⟨zbi Hr5.out.symm,rfl⟩
   ·have hr0:r=0:=(by rw [hr,List.drop_eq_nil_of_le (by omega)];rfl);have Hr0:=hid hr0;clear hr0 hr;go_wp2
    go_ret
    exact ⟨zbi Hr0.out.symm,rfl⟩
 ·rw [if_pos hp0];have ht:(pe != 0)=true:=by rw [bne_iff_ne];exact hp0
  clear hp0;go_enter Tryz.func14,Tryz.ntmps14
  go_wp2_with fail
  refine Hpc.out.mono ?_;rintro e w1 ⟨rfl,rfl⟩;go_wp2
  go_ret
  exact ⟨rfl,rfl⟩
def zgr (p x:List Int):Int:=zgj p [x]
theorem zgs (vp vx:Value)(p x:List Int)(w:World)(hp:Sl w vp (zap p))(hx:Sl w vx (zap x))(hlp:p.length≤1000000)(hlx:x.length≤1000000) :
  Calls Tryz.prog 55 #[vp,vx] w fun e w'=>e=.returned (.int .i64 (zgr p x))∧Ext w w':=by
 have hext:Ext w (w.alloc (.cells #[vx] 33)):=(Ext.refl w).alloc _;have hm:Mat (w.alloc (.cells #[vx] 33)) (.slice (some ⟨w.heap.size,0,none⟩) 1 1) [x]:=by
  refine ⟨[vx],rfl,.inr ⟨w.heap.size,0,1,rfl,Nat.le_refl _,by unfold maxLen;omega,?_⟩,?_⟩
  ·intro i u hu
   cases i with
   | zero=>simp at hu;subst hu;rw [World.cell?_alloc_new];rfl
   | succ i=>simp at hu
  ·intro i u hu
   cases i with
   | zero=>simp at hu;subst hu;exact hext.sl hx
   | succ i=>simp at hu
 have hc:=zgq vp (.slice (some ⟨w.heap.size,0,none⟩) 1 1) p [x] _ (hext.sl hp) hm hlp (by simp) (fun i=>by cases i <;> simp [hlx])
 have Hc:=hid hc;clear hc hm;have Hext:=hid hext;clear hext;obtain ⟨ap,cp,rfl,_,_,_⟩:=hp.parts;obtain ⟨ax,cx,rfl,_,_,_⟩:=hx.parts;clear hp hx;go_enter Tryz.func55,Tryz.ntmps55
 go_wp2_with fail
 refine Hc.out.mono ?_;rintro e w1 ⟨rfl,rfl⟩;go_wp2
 go_ret
 exact ⟨rfl,Hext.out⟩
def zgt (p x:List Int):Nat→Nat
 | 0=>1
 | k+1=>if 0<zas x k then zgt p x k * (zas p k).toNat ^ (zas x k).natAbs else zgt p x k
def zgu (p x:List Int):Nat→Nat
 | 0=>1
 | k+1=>if 0<zas x k then zgu p x k else zgu p x k * (zas p k).toNat ^ (zas x k).natAbs
def zgv (p x:List Int):Nat:=zgt p x x.length
def zgw (p x:List Int):Nat:=zgu p x x.length
def zgx (p x:List Int):Prop:=x.length≤p.length∧x.length≤64∧∀ i,i<x.length→0≤zas p i∧zas p i<10000∧-1000≤zas x i∧zas x i≤1000
theorem zgy {a n:Nat}(ha:a<10000)(hn:n≤1000):nDigits (a ^ n)≤4000:=by
 by_cases h:n=0
 ·subst h;rw [Nat.pow_zero];exact Nat.le_trans (Dec.nDigits_le (n:=1) (k:=1) (by omega) (by omega)) (by omega)
 ·have h1:=zcp a n (by omega);have h2:nDigits a≤4:=Dec.nDigits_le (by omega) (by omega);have h3:n * nDigits a≤1000 * 4:=Nat.mul_le_mul hn h2;omega
theorem zgz {p x:List Int}(h:zgx p x):∀ k,k≤x.length→nDigits (zgt p x k)≤1+4000 * k
 | 0,_=>Dec.nDigits_le (by omega) (by simp [zgt])
 | k+1,hk=>by
  have ih:=zgz h k (by omega);have h2:=h.2.2 k (by omega);rw [zgt];split
  ·have:=zbD (zgt p x k) ((zas p k).toNat ^ (zas x k).natAbs);have:=zgy (a:=(zas p k).toNat) (n:=(zas x k).natAbs) (by omega) (by omega);omega
  ·omega
theorem zg0 {p x:List Int}(h:zgx p x):∀ k,k≤x.length→nDigits (zgu p x k)≤1+4000 * k
 | 0,_=>Dec.nDigits_le (by omega) (by simp [zgu])
 | k+1,hk=>by
  have ih:=zg0 h k (by omega);have h2:=h.2.2 k (by omega);rw [zgu];split
  ·omega
  ·have:=zbD (zgu p x k) ((zas p k).toNat ^ (zas x k).natAbs);have:=zgy (a:=(zas p k).toNat) (n:=(zas x k).natAbs) (by omega) (by omega);omega
def zg1 (p x:List Int)(w0:World)(n d i:Value)(wr:World):Prop :=
 ∃ k:Nat,i=.int .i64 k∧k≤x.length∧n=.string (D (zgt p x k))∧d=.string (D (zgu p x k))∧Ext w0 wr
theorem zg2 (vp vx:Value)(p x:List Int)(w:World)(he:Env w)(hp:Sl w vp (zap p))(hx:Sl w vx (zap x))(hn:zgx p x) :
  Calls Tryz.prog 95 #[vp,vx] w fun e w'=>e=.returned (.tuple #[.string (D (zgv p x)),.string (D (zgw p x))])∧Ext w w':=by
 obtain ⟨ap,cp,rfl,_,_,hcp⟩:=hp.parts;obtain ⟨ax,cx,rfl,_,_,hcx⟩:=hx.parts;rw [zar,zar];have Hcp:=hid hcp;clear hcp hp;have Hcx:=hid hcx;clear hcx hx;have hl1:=hn.1;have hl2:=hn.2.1;have Hn:=hid hn;clear hn;have He:=hid he;clear he;go_enter Tryz.func95,Tryz.ntmps95
 go_wp2
 go_loopw [4,5,12] (fun n d i wr=>zg1 p x w n d i wr) (fun _ _ i _=>x.length - (zal i).toNat)
 case atStart=>exact ⟨0,rfl,Nat.zero_le _,by rw [zgt,zbs],by rw [zgu,zbs],Ext.refl _⟩
 case round =>
  obtain ⟨k,rfl,hk,rfl,rfl,hext⟩:=hrel;have Hext:=hid hext;clear hext;by_cases hlt:k<x.length
  ·obtain ⟨bp,op,rfl,hcellp0⟩:=Hcp.out k _ (zau (by omega));obtain ⟨bx,ox,rfl,hcellx0⟩:=Hcx.out k _ (zau hlt);have hcellp:=Hext.out.cell hcellp0;have hcellx:=Hext.out.cell hcellx0;clear hcellp0 hcellx0;have hb:=Hn.out.2.2 k hlt;have hdN:=zgz Hn.out k (by omega);have hdD:=zg0 Hn.out k (by omega);have HdN:=hid hdN;clear hdN;have HdD:=hid hdD;clear hdD;have hsN:zgt p x (k+1)=if 0<zas x k then zgt p x k * (zas p k).toNat ^ (zas x k).natAbs else zgt p x k:=rfl;have hsD:zgu p x (k+1)=if 0<zas x k then zgu p x k else zgu p x k * (zas p k).toNat ^ (zas x k).natAbs:=rfl;obtain ⟨q,hq⟩:∃ q:Nat,zas p k=q:=⟨(zas p k).toNat,by omega⟩;have hq4:q<10000:=(by omega);rw [hq] at hcellp hsN hsD;rw [Int.toNat_natCast] at hsN hsD;have hcase:(∃ e:Nat,0<e∧e≤1000∧zas x k=e)∨(∃ e:Nat,e≤1000∧zas x k=-(e:Int)):=by
    by_cases g:0<zas x k
    ·exact .inl ⟨(zas x k).toNat,by omega,by omega,by omega⟩
    ·exact .inr ⟨(-(zas x k)).toNat,by omega,by omega⟩
   rcases hcase with ⟨e,he0,he1,hz⟩ | ⟨e,he1,hz⟩
   ·rw [hz] at hcellx hsN hsD;rw [Int.natAbs_natCast,if_pos (by omega)] at hsN hsD;have hmax:max (e:Int) (-(e:Int))=e:=(by omega);clear hb hq hz;have hpow:nDigits (q ^ e)≤4000:=zgy hq4 he1;have Hpow:=hid hpow;clear hpow;have HsN:=hid hsN;clear hsN;have HsD:=hid hsD;clear hsD;generalize zgt p x k=N at *;generalize zgu p x k=M at *;go_wp2_with fail
    refine (zaO q (by omega) wr (He.out.ext Hext.out)).mono ?_;rintro e1 w1 ⟨rfl,hx1⟩;have Hx1:=hid hx1;clear hx1;go_wp2_with fail
    refine (zco q e w1 ((He.out.ext Hext.out).ext Hx1.out) (Dec.nDigits_le (by omega) (by omega)) (by omega) (by have:=Hpow.out;omega)).mono ?_;rintro e1 w2 ⟨rfl,hx2⟩;have Hx2:=hid hx2;clear hx2;go_wp2_with fail
    refine (zbE N (q ^ e) w2 (((He.out.ext Hext.out).ext Hx1.out).ext Hx2.out) (by have:=HdN.out;omega) (by have:=Hpow.out;omega)).mono ?_;rintro e1 w3 ⟨rfl,hx3⟩;have Hx3:=hid hx3;clear hx3;go_wp2
    go_roundw
    case rel=>exact ⟨k+1,by go_num,by omega,by rw [HsN.out],by rw [HsD.out],((Hext.out.trans Hx1.out).trans Hx2.out).trans Hx3.out⟩
    case measure=>simp [zal];omega
   ·rw [hz] at hcellx hsN hsD;rw [Int.natAbs_neg,Int.natAbs_natCast,if_neg (by omega)] at hsN hsD;have hmax:max (-(e:Int)) e=e:=(by omega);clear hb hq hz;have hpow:nDigits (q ^ e)≤4000:=zgy hq4 he1;have Hpow:=hid hpow;clear hpow;have HsN:=hid hsN;clear hsN;have HsD:=hid hsD;clear hsD;generalize zgt p x k=N at *;generalize zgu p x k=M at *;go_wp2_with fail
    refine (zaO q (by omega) wr (He.out.ext Hext.out)).mono ?_;rintro e1 w1 ⟨rfl,hx1⟩;have Hx1:=hid hx1;clear hx1;go_wp2_with fail
    refine (zco q e w1 ((He.out.ext Hext.out).ext Hx1.out) (Dec.nDigits_le (by omega) (by omega)) (by omega) (by have:=Hpow.out;omega)).mono ?_;rintro e1 w2 ⟨rfl,hx2⟩;have Hx2:=hid hx2;clear hx2;go_wp2_with fail
    refine (zbE M (q ^ e) w2 (((He.out.ext Hext.out).ext Hx1.out).ext Hx2.out) (by have:=HdD.out;omega) (by have:=Hpow.out;omega)).mono ?_;rintro e1 w3 ⟨rfl,hx3⟩;have Hx3:=hid hx3;clear hx3;go_wp2
    go_roundw
    case rel=>exact ⟨k+1,by go_num,by omega,by rw [HsN.out],by rw [HsD.out],((Hext.out.trans Hx1.out).trans Hx2.out).trans Hx3.out⟩
    case measure=>simp [zal];omega
  ·obtain rfl:k=x.length:=by omega
   go_wp2
   go_ret2
   exact ⟨rfl,Hext.out⟩
theorem zg3 {n:Nat}{x:List Int}(h:zgh n x=0):x.length=n∧∀ i,i<x.length→-1000≤zas x i∧zas x i≤1000:=by
 unfold zgh at h;by_cases h0:x.length=n
 ·rw [if_neg (by simpa using h0)] at h;by_cases hf:x.any far=true
  ·rw [if_pos hf] at h;omega
  ·refine ⟨h0,fun i hi=>?_⟩;by_cases g1:1000<zas x i
   ·exact absurd (zgn hi (zgk g1)) hf
   ·by_cases g2:zas x i < -1000
    ·exact absurd (zgn hi (zgl g2)) hf
    ·omega
 ·rw [if_pos h0] at h;omega
theorem zg4 {p x:List Int}(h:zgr p x=0):zcw p=0∧zgh p.length x=0:=by
 unfold zgr zgj at h;by_cases h0:zcw p=0
 ·rw [if_neg (by simpa using h0)] at h;refine ⟨h0,?_⟩;rw [zgi] at h;by_cases h1:zgh p.length x=0
  ·exact h1
  ·rw [if_pos h1] at h;exact h
 ·rw [if_pos h0] at h;exact absurd h h0
theorem zg5 {p x:List Int}(h1:zcw p=0)(h2:zgh p.length x=0):zgx p x:=by
 obtain ⟨a,b,c⟩:=zc0 h1;obtain ⟨d,e⟩:=zg3 h2;refine ⟨by omega,by omega,fun i hi=>?_⟩;have:=c i (by omega);have:=e i hi;omega
theorem zg6 {p x:List Int}(h:zgx p x):nDigits (zgv p x)≤256001:=by
 have:=zgz h x.length (Nat.le_refl _);have:=h.2.1;unfold zgv;omega
theorem zg7 {p x:List Int}(h:zgx p x):nDigits (zgw p x)≤256001:=by
 have:=zg0 h x.length (Nat.le_refl _);have:=h.2.1;unfold zgw;omega
def zg8 (p x:List Int):Int:=if zgr p x ≠ 0 then 0 else zbj (zgv p x:Nat) (zgw p x:Nat)
theorem zg9 (vp vx:Value)(p x:List Int)(w:World)(he:Env w)(hp:Sl w vp (zap p))(hx:Sl w vx (zap x))(hlp:p.length≤1000000)(hlx:x.length≤1000000) :
  Calls Tryz.prog 63 #[vp,vx] w fun e w'=>e=.returned (.tuple #[.int .i64 (zg8 p x),.int .i64 (zgr p x)])∧Ext w w':=by
 have hc:=zgs vp vx p x w hp hx hlp hlx;have Hc:=hid hc;clear hc;have He:=hid he;clear he;have Hp:=hid hp;have Hx:=hid hx;obtain ⟨ap,cp,rfl,_,_,_⟩:=hp.parts;obtain ⟨ax,cx,rfl,_,_,_⟩:=hx.parts;clear hp hx;unfold zg8;by_cases h0:zgr p x=0
 ·rw [if_neg (by simpa using h0),h0];have hn:=zg5 (zg4 h0).1 (zg4 h0).2;rw [h0] at Hc;have Hn:=hid hn;clear hn h0;go_enter Tryz.func63,Tryz.ntmps63
  go_wp2_with fail
  refine Hc.out.mono ?_;rintro e w1 ⟨rfl,hx1⟩;have Hx1:=hid hx1;clear hx1;go_wp2_with fail
  refine (zg2 _ _ p x w1 (He.out.ext Hx1.out) (Hx1.out.sl Hp.out) (Hx1.out.sl Hx.out) Hn.out).mono ?_;rintro e w2 ⟨rfl,hx2⟩;have Hx2:=hid hx2;clear hx2;go_wp2_with fail
  refine (zb8 (zgv p x) (zgw p x) w2 (by have:=zg6 Hn.out;omega) (by have:=zg7 Hn.out;omega)).mono ?_;rintro e w3 ⟨rfl,rfl⟩;go_wp2
  go_ret2
  exact ⟨rfl,Hx1.out.trans Hx2.out⟩
 ·rw [if_pos h0];have ht:(zgr p x != 0)=true:=by rw [bne_iff_ne];exact h0
  generalize zgr p x=r at *;clear h0;go_enter Tryz.func63,Tryz.ntmps63
  go_wp2_with fail
  refine Hc.out.mono ?_;rintro e w1 ⟨rfl,hx1⟩;have Hx1:=hid hx1;clear hx1;go_wp2
  go_ret2
  exact ⟨rfl,Hx1.out⟩
def zgA (n:Int):Bool:=decide (-1000000000≤n∧n≤1000000000)
theorem zgB (n:Int)(w:World):Calls Tryz.prog 91 #[.int .i64 n] w fun e w'=>e=.returned (.bool (zgA n))∧w=w':=by
 unfold zgA;by_cases h1:-1000000000≤n
 ·by_cases h2:n≤1000000000
  ·rw [decide_eq_true ⟨h1,h2⟩];go_enter Tryz.func91,Tryz.ntmps91
   go_wp2
   go_ret
   exact ⟨rfl,rfl⟩
  ·rw [decide_eq_false (fun h=>h2 h.2)];have hd:decide (n≤1000000000)=false:=decide_eq_false h2;go_enter Tryz.func91,Tryz.ntmps91
   go_wp2
   go_ret
   exact ⟨rfl,rfl⟩
 ·rw [decide_eq_false (fun h=>h1 h.1)];have hd:decide (-1000000000≤n)=false:=decide_eq_false h1;go_enter Tryz.func91,Tryz.ntmps91
  go_wp2
  go_ret
  exact ⟨rfl,rfl⟩
theorem zgC (n:Int)(w:World):Calls Tryz.prog 118 #[.int .i64 n] w fun e w'=>e=.returned (.bool (!zgA n))∧∃ q,w'=w.drewN q:=by
 have hf:=zgB n w;have Hf:=hid hf;clear hf;generalize zgA n=b at *;go_enter Tryz.func118,Tryz.ntmps118
 go_wp2_with fail
 refine Hf.out.mono ?_;rintro e w1 ⟨rfl,rfl⟩;go_wp2
 go_ret
 exact ⟨rfl,0,rfl⟩
theorem zgD (w:World):Go.Proofs.PredAt Tryz.prog 118 #[] (Value.int .i64) (fun n=>!zgA n) w:=fun W x _=>zgC x W
theorem zgE : ∀ args w,(callFunc 118 args).run Tryz.prog w=.ok (.enter 118 args) w:=enters_of Tryz.func118 (by kernel_rfl) rfl
def zgF (x:List Int):Int:=if 64<x.length∨x.any (fun n=>!zgA n)=true then 4 else 0
theorem zgG (a:Option Addr)(cap:Nat)(x:List Int)(w:World)(hl:x.length≤1000000)
  (hc:∀ i u,(zap x)[i]?=some u→∃ b off,a=some ⟨b,off,none⟩∧w.cell? ⟨b,off+i,none⟩=some u) :
  Calls Tryz.prog 47 #[.slice a x.length cap,.func (.func 118) #[] #[]] w fun e w'=>e=.returned (.bool (x.any fun n=>!zgA n))∧Ext w w':=by
 cases x with
 | nil=>exact (AnyE.slices_ContainsFunc_empty Tryz.lContainsR a cap _ w).mono fun e w' ⟨h,hw⟩=>⟨h,by rw [hw];exact Ext.refl _⟩
 | cons z r =>
  obtain ⟨b,off,rfl,_⟩:=hc 0 _ (zau (l:=z::r) (by simp))
  have h:=AnyE.slices_ContainsFunc Tryz.lContainsR (Value.int .i64) (fun n=>!zgA n) 118 #[] zgE b off (z::r).length cap (z::r) w (zgD w) (Nat.le_refl _) (by omega) (fun j hj=>by
   obtain ⟨b2,off2,e2,hcell⟩:=hc j _ (zau hj);simp only [Option.some.injEq,Addr.mk.injEq,and_true] at e2;obtain ⟨rfl,rfl⟩:=e2;rw [hcell];unfold zas;rw [List.getD_eq_getElem?_getD,List.getElem?_eq_getElem hj,getElem!_pos _ j hj];rfl)
  rw [List.take_length] at h
  exact h.mono fun e w' ⟨he,q,hw⟩=>⟨he,by rw [hw];exact (Ext.refl w).drewN q⟩
theorem zgH (v:Value)(x:List Int)(w:World)(hv:Sl w v (zap x))(hl:x.length≤1000000) :
  Calls Tryz.prog 85 #[v] w fun e w'=>e=.returned (.int .i64 (zgF x))∧Ext w w':=by
 obtain ⟨a,cap,rfl,_,_,hc⟩:=hv.parts;rw [zar];have hcon:=zgG a cap x w hl hc;clear hc hv;unfold zgF;by_cases h64:64<x.length
 ·rw [if_pos (.inl h64)];clear hcon;go_enter Tryz.func85,Tryz.ntmps85
  go_wp2
  go_ret
  exact ⟨rfl,Ext.refl _⟩
 ·by_cases hb:x.any (fun n=>!zgA n)=true
  ·rw [if_pos (.inr hb)];rw [hb] at hcon;have Hcon:=hid hcon;clear hcon hb;go_enter Tryz.func85,Tryz.ntmps85
   go_wp2_with fail
   refine Hcon.out.mono ?_;rintro e w1 ⟨rfl,hx1⟩;have Hx1:=hid hx1;clear hx1;go_wp2
   go_ret
   exact ⟨rfl,Hx1.out⟩
  ·rw [if_neg (fun h=>h.elim h64 hb)];rw [show x.any (fun n=>!zgA n)=false by simpa using hb] at hcon;have Hcon:=hid hcon;clear hcon hb;go_enter Tryz.func85,Tryz.ntmps85
   go_wp2_with fail
   refine Hcon.out.mono ?_;rintro e w1 ⟨rfl,hx1⟩;have Hx1:=hid hx1;clear hx1;go_wp2
   go_ret
   exact ⟨rfl,Hx1.out⟩
end
section
open Go.RowKit Go.Lib
def zgI (p x y:List Int):Int:=zbj ((zgv p x * zgw p y:Nat):Int) ((zgv p y * zgw p x:Nat):Int)
theorem zgJ (a b:Int):zbj b a=-zbj a b:=by unfold zbj;(repeat' split) <;> omega
theorem zgK (a b:Int):zbj a b≤0 ↔ a≤b:=by unfold zbj;(repeat' split) <;> omega
theorem zgL (p x y:List Int):zgI p y x=-zgI p x y:=by unfold zgI;rw [zgJ]
def zgM (n:Nat):List Int:=List.replicate n 0
def zgN (p:List Int):List Int→List (List Int)→Int
 | _,[]=>0
 | b,x::l=>if zgr p x ≠ 0 then zgr p x else if 0≤zgI p b x then 6 else zgN p x l
def zgO (p:List Int)(l:List (List Int)):Int:=if zcw p ≠ 0 then zcw p else if l.length=0 then 13 else if 60<l.length then 4 else zgN p (zgM p.length) l
theorem zgP (n i:Nat):zas (List.replicate n (0:Int)) i=0:=by
 unfold zas;rw [List.getD_eq_getElem?_getD,List.getElem?_replicate];split <;> rfl
theorem zgQ (p:List Int)(n:Nat):∀ k,zgt p (List.replicate n 0) k=1∧zgu p (List.replicate n 0) k=1
 | 0=>⟨rfl,rfl⟩
 | k+1=>by
  obtain ⟨h1,h2⟩:=zgQ p n k;unfold zgt zgu;rw [zgP,h1,h2];simp
theorem zgR {p x:List Int}(h:zgr p x=0):0≤zgI p (zgM p.length) x ↔ zg8 p x≤0:=by
 unfold zgI zg8;rw [if_neg (by omega),zgK];have e1:zgv p (zgM p.length)=1:=(zgQ p _ _).1;have e2:zgw p (zgM p.length)=1:=(zgQ p _ _).2;rw [e1,e2,Nat.one_mul,Nat.mul_one,zgJ];have:=zgK (zgv p x:Nat) (zgw p x:Nat);omega
def zgS (p:List Nat):List Int:=p.map fun (n:Nat)=>(n:Int)
theorem zgT (p:List Nat):(zgS p).length=p.length:=by simp [zgS]
def ivl (n:Nat)(l:List Int):List Int:=(List.range n).map fun i=>(zas l i).tmod 10
theorem zgU (n:Nat)(l:List Int):ivl (n+1) l=ivl n l++[(zas l n).tmod 10]:=by
 unfold ivl;rw [List.range_succ,List.map_append];rfl
theorem zgV (n:Nat)(l:List Int):(ivl n l).length=n:=by simp [ivl]
theorem zgW (z:Int):-9≤z.tmod 10∧z.tmod 10≤9:=by
 rcases Int.le_total 0 z with h | h
 ·rw [Int.tmod_eq_emod_of_nonneg h];omega
 ·obtain ⟨n,rfl⟩:∃ n:Nat,z=-(n:Int):=⟨z.natAbs,by omega⟩;rw [Int.neg_tmod,Int.tmod_eq_emod_of_nonneg (by omega)];omega
theorem zgX (w:World)(a b c d:Int)(t:TypeId)(k:Nat)(hk:k<4):(w.alloc (.cells #[.int .i8 a,.int .i8 b,.int .i8 c,.int .i8 d] t)).cell? ⟨w.heap.size,k,none⟩=some (.int .i8 (zas [a,b,c,d] k)):=by
 have h:=World.alloc_heap_new w (.cells #[.int .i8 a,.int .i8 b,.int .i8 c,.int .i8 d] t);unfold World.cell?;rw [h];rcases (show k=0∨k=1∨k=2∨k=3 by omega) with rfl | rfl | rfl | rfl <;> rfl
theorem zgY (vp:Value)(p:List Int)(a b c d:Int)(w:World)(hp:Sl w vp (zap p))(hl:p.length≤4)(hr:∀ z∈[a,b,c,d],-128≤z∧z≤127) :
  Calls Tryz.prog 72 #[vp,.agg #[.int .i8 a,.int .i8 b,.int .i8 c,.int .i8 d]] w fun e w'=>∃ v,e=.returned v∧zc2 w' w.heap.size v (ivl p.length [a,b,c,d])∧Ext w w':=by
 obtain ⟨i0,hi,hz0,hz1,hz2⟩:=info_parts zc1;obtain ⟨ap,cp,rfl,_,_,hcp⟩:=hp.parts;rw [zar];clear hcp hp;have h4:=zgX w a b c d 119;have hE0:Ext w (w.alloc (.cells #[.int .i8 a,.int .i8 b,.int .i8 c,.int .i8 d] 119)):=(Ext.refl w).alloc _;have H4:=hid h4;have Hr:=hid hr;have HE0:=hid hE0;clear h4 hr hE0;generalize hW:w.alloc (.cells #[.int .i8 a,.int .i8 b,.int .i8 c,.int .i8 d] 119)=W at *;go_enter Tryz.func72,Tryz.ntmps72
 go_wp2
 go_loopw [5,6] (fun v i wr=>∃ k:Nat,i=.int .i64 k∧k≤p.length∧zc2 wr W.heap.size v (ivl k [a,b,c,d])∧Ext W wr) (fun _ i _=>p.length - (zal i).toNat)
 case atStart=>exact ⟨0,rfl,Nat.zero_le _,World.ownsRow_nil _ _ _ 1,Ext.refl _⟩
 case round =>
  obtain ⟨k,rfl,hk,hown,hext⟩:=hrel;obtain ⟨av,cv,rfl⟩:=zc3 hown;rw [zgV] at *;have Hown:=hid hown;have Hext:=hid hext;clear hown hext;by_cases hlt:k<p.length
  ·have hcell:=Hext.out.cell (H4.out k (by omega));have hin:-128≤zas [a,b,c,d] k∧zas [a,b,c,d] k≤127:=Hr.out _ (zav (by simp;omega));have ht:=zgW (zas [a,b,c,d] k);have hs:=zgU k [a,b,c,d];have Hs:=hid hs;clear hs;generalize zas [a,b,c,d] k=z at *;obtain ⟨hi1,hi2⟩:=hin;obtain ⟨ht1,ht2⟩:=ht;have hk4:(k:Int)<4:=(by omega);have hk0:(0:Int)≤(k:Int):=(by omega);have hown:=Hown.out;unfold zc2 at hown;rw [zgV] at hown;have hm3:k+1≤maxLen:=(by unfold maxLen;omega);have hm4:(k+1) * 8≤140737488355328:=(by omega);have hsz:=Hext.out.size;have hm5:W.heap.size≤(wr.alloc (.cells #[.int .i64 (z.tmod 10)] 3)).heap.size:=(by rw [World.size_alloc];omega);go_wp2_with (at_builtin;refine wpList_append_own _ rfl _ _ 33 rfl W.heap.size 3 i0 (.int .i64 0) 1 8 Tryz.underlying33 hi hz0 hz1 hz2 rfl (by decide) _ _ _ rfl (hown.alloc _) ⟨wr.heap.size,0,none⟩ 1 1 [.int .i64 (z.tmod 10)] rfl rfl (cell_one_new _ _ _) (by simp [Value.oneCell']) hm3 hm4 hm5 ?_;intro v' w1 hown' hgrow _)
   have hE9:Ext W w1:=zc4 Hext.out hown hgrow;have hown9:zc2 w1 W.heap.size v' (ivl (k+1) [a,b,c,d]):=by
    unfold zc2;rw [Hs.out,List.length_append,zgV];simpa [zap] using hown'
   have Hown9:=hid hown9;have HE9:=hid hE9;clear hown hown' hgrow hE9 hown9;go_wp2
   go_roundw
   case rel=>exact ⟨k+1,by go_num,by omega,Hown9.out,HE9.out⟩
   case measure=>simp [zal];omega
  ·obtain rfl:k=p.length:=by omega
   go_wp2
   go_ret
   exact ⟨_,rfl,zam Hown.out HE0.out.size,HE0.out.trans Hext.out⟩
def zgZ : List (List Nat):=[[2,3,5],[2,3,5,7],[2,3],[2,3,7],[2,5,7],[3,5,7],[2,3,5,11],[2],[2,3,7,13],[3,5,7,13]]
def zha (n:Nat):List Nat:=zgZ.getD (n % 10) []
theorem zhb : ∀ (os:List Obj)(w:World)(i:Nat),i<os.length→(os.foldl World.alloc w).heap[w.heap.size+i]?=os[i]?
 | [],_,_,h=>by simp at h
 | o::r,w,0,_=>by
  have keep:∀ (l:List Obj)(v:World)(k:Nat),k<v.heap.size→(l.foldl World.alloc v).heap[k]?=v.heap[k]?:=by
   intro l;induction l with
   | nil=>intro v k _;rfl
   | cons a l ih =>
    intro v k hk
    rw [List.foldl_cons,ih (v.alloc a) k (by rw [World.size_alloc];omega)]
    exact Below.heap_alloc v a k hk
  rw [List.foldl_cons,keep r (w.alloc o) _ (by rw [World.size_alloc];omega)];exact World.alloc_heap_new w o
 | o::r,w,i+1,h=>by
  rw [List.foldl_cons];have:=zhb r (w.alloc o) i (by simpa using h);rw [World.size_alloc] at this;rw [show w.heap.size+(i+1)=w.heap.size+1+i by omega,this];rfl
theorem zhc {w:World}{B b:Nat}{xs:List Value}{t:TypeId}(h:w.heap[b]?=some (.cells xs.toArray t (0,0)))(hb:B≤b)(hm:xs.length≤maxLen):w.ownsRow B t 1 (.slice (some ⟨b,0,none⟩) xs.length xs.length) xs.length xs :=
 ⟨by simp,.inr ⟨b,xs.length,xs.toArray,rfl,hb,h,Nat.le_refl _,hm,by simp,by simp⟩⟩
theorem zhd (w:World):∀ os:List Obj,Ext w (os.foldl World.alloc w):=by
 have:∀ (os:List Obj)(v:World),Ext w v→Ext w (os.foldl World.alloc v):=by
  intro os;induction os with
  | nil=>intro v h;exact h
  | cons o r ih=>intro v h;exact ih _ (h.alloc o)
 exact fun os=>this os w (Ext.refl w)
def zhe : List Obj:=zgZ.map fun l=>Obj.cells (zap (zgS l)).toArray 3 (0,0)
theorem zhf (w:World)(o:Obj)(r:Nat)(hr:r<10):zc2 ((zhe++[o]).foldl World.alloc w) w.heap.size (.slice (some ⟨w.heap.size+r,0,none⟩) (zgZ.getD r []).length (zgZ.getD r []).length) (zgS (zgZ.getD r []))∧Ext w ((zhe++[o]).foldl World.alloc w):=by
 refine ⟨?_,zhd w _⟩;have h:=zhb (zhe++[o]) w r (by simp [zhe,zgZ];omega);have hlen:(zgZ.getD r []).length=(zap (zgS (zgZ.getD r []))).length:=by rw [zar,zgT]
 have hlen2:(zgS (zgZ.getD r [])).length=(zap (zgS (zgZ.getD r []))).length:=by rw [zar]
 unfold zc2;rw [hlen,hlen2];refine zhc (t:=3) ?_ (by omega) ?_
 ·rw [h,List.getElem?_append_left (by simp [zhe,zgZ];omega)];unfold zhe;have hl:r<zgZ.length:=by simp [zgZ];omega
  rw [List.getElem?_map,List.getElem?_eq_getElem hl,List.getD_eq_getElem?_getD,List.getElem?_eq_getElem hl];rfl
 ·rw [← hlen];rcases (show r=0∨r=1∨r=2∨r=3∨r=4∨r=5∨r=6∨r=7∨r=8∨r=9 by omega) with rfl | rfl | rfl | rfl | rfl | rfl | rfl | rfl | rfl | rfl <;> decide
theorem zhg (n r:Nat)(w:World)(hn:n<256)(hr:n % 10=r) :
  Calls Tryz.prog 29 #[.int .u8 n] w fun e w'=>∃ v,e=.returned v∧zc2 w' w.heap.size v (zgS (zgZ.getD r []))∧Ext w w':=by
 have hm:(n:Int) % 10=(r:Int):=by omega
 have hr10:r<10:=by omega
 clear hr;rcases (show r=0∨r=1∨r=2∨r=3∨r=4∨r=5∨r=6∨r=7∨r=8∨r=9 by omega) with rfl | rfl | rfl | rfl | rfl | rfl | rfl | rfl | rfl | rfl
 ·go_enter Tryz.func29,Tryz.ntmps29
  go_wp2
  go_ret
  exact ⟨_,rfl,zhf w _ 0 (by omega)⟩
 ·go_enter Tryz.func29,Tryz.ntmps29
  go_wp2
  go_ret
  exact ⟨_,rfl,zhf w _ 1 (by omega)⟩
 ·go_enter Tryz.func29,Tryz.ntmps29
  go_wp2
  go_ret
  exact ⟨_,rfl,zhf w _ 2 (by omega)⟩
 ·go_enter Tryz.func29,Tryz.ntmps29
  go_wp2
  go_ret
  exact ⟨_,rfl,zhf w _ 3 (by omega)⟩
 ·go_enter Tryz.func29,Tryz.ntmps29
  go_wp2
  go_ret
  exact ⟨_,rfl,zhf w _ 4 (by omega)⟩
 ·go_enter Tryz.func29,Tryz.ntmps29
  go_wp2
  go_ret
  exact ⟨_,rfl,zhf w _ 5 (by omega)⟩
 ·go_enter Tryz.func29,Tryz.ntmps29
  go_wp2
  go_ret
  exact ⟨_,rfl,zhf w _ 6 (by omega)⟩
 ·go_enter Tryz.func29,Tryz.ntmps29
  go_wp2
  go_ret
  exact ⟨_,rfl,zhf w _ 7 (by omega)⟩
 ·go_enter Tryz.func29,Tryz.ntmps29
  go_wp2
  go_ret
  exact ⟨_,rfl,zhf w _ 8 (by omega)⟩
 ·go_enter Tryz.func29,Tryz.ntmps29
  go_wp2
  go_ret
  exact ⟨_,rfl,zhf w _ 9 (by omega)⟩
theorem zhh (n:Nat)(w:World)(hn:n<256) :
  Calls Tryz.prog 29 #[.int .u8 n] w fun e w'=>∃ v,e=.returned v∧zc2 w' w.heap.size v (zgS (zha n))∧Ext w w':=zhg n _ w hn rfl
end
end Go.Proofs.YtipkdebkdnbieaaGreatDoor
