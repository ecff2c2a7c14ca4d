/- Walks: monzo's Check, CheckAll, sides and Sign, row's Check: out of XIvlA. (Printed by rebase.py.) Plain: what table.Rank and smith.Solve compute, step by step; none where a number grows too great or the steps run out. Walk: epimorphism.steps: the sum of products. (KEEPALL) Plain: the first error of a set of intervals, as the program finds it and as law 37 does. Walk: monzo.Compare at right or wrong intervals. (KEEPALL) -/
import Derived.Test.YtkdgmahilfnnmaaGreatDoorPc02
import Derived.Test.YtkdgmahilfnnmaaGreatDoorPc11
import Derived.RangeFuncNested
import Derived.RangeFuncBound
import Derived.RangeFuncCalls
import Derived.RangeFuncLeaves
import Derived.RangeFuncBox
import Derived.RangeFuncWrites
import Derived.Shelf.Abstract
import Derived.OwnWalkIn
import Derived.TacticsInMore
import Derived.LoopNIn
import Derived.LoopIn
import Derived.Maps.AppendAt
import Derived.Test.YtkdgmahilfnnmaaGreatDoorShelfA
import Derived.Test.YtkdgmahilfnnmaaGreatDoorShelfM
import Derived.Shelf.SlicesE.IndexFunc
import Derived.Test.YtkdgmahilfnnmaaGreatDoorPc06
set_option maxRecDepth 100000
set_option maxHeartbeats 2000000
namespace Go.Proofs.YtkdgmahilfnnmaaGreatDoor
section
open Go.RowKit Go.Lib
attribute [local go_sem] Oper.semAt_some
def Mat (w:World)(v:Value)(l:List (List Int)):Prop :=
 ∃ vs:List Value,vs.length=l.length∧Sl w v vs∧∀ i u,vs[i]?=some u→Sl w u (zap (l.getD i []))
def far (z:Int):Bool:=decide (1000<z) || decide (z < -1000)
def zge (n:Nat)(x:List Int):Int:=if x.length ≠ n then 5 else if x.any far then 4 else 0
def zgf (n:Nat):List (List Int)→Int
 | []=>0
 | x::r=>if zge n x ≠ 0 then zge n x else zgf n r
def zgg (p:List Int)(l:List (List Int)):Int:=if zcw p ≠ 0 then zcw p else zgf p.length l
theorem zgh {z:Int}(h:1000<z):far z=true:=by unfold far;rw [decide_eq_true h];rfl
theorem zgi {z:Int}(h:z < -1000):far z=true:=by unfold far;rw [decide_eq_true h];simp
theorem zgj {z:Int}(h1:¬ 1000<z)(h2:¬ z < -1000):far z=false:=by unfold far;rw [decide_eq_false h1,decide_eq_false h2];rfl
theorem zgk {x:List Int}{k:Nat}(hk:k<x.length)(h:far (zas x k)=true):x.any far=true :=
 List.any_eq_true.2 ⟨_,zav hk,h⟩
theorem zgl {x:List Int}(h:∀ k,k<x.length→far (zas x k)=false):x.any far=false:=by
 rw [List.any_eq_false];intro z hz;obtain ⟨k,hk,rfl⟩:=List.getElem_of_mem hz;have:=h k hk;unfold zas at this;rw [List.getD_eq_getElem?_getD,List.getElem?_eq_getElem hk] at this;simpa using this
theorem zgm {n:Nat}{l:List (List Int)}{k:Nat}(hk:k<l.length):zgf n (l.drop k)=if zge n (l.getD k []) ≠ 0 then zge n (l.getD k []) else zgf n (l.drop (k+1)):=by
 rw [List.drop_eq_getElem_cons hk,zgf];rw [List.getD_eq_getElem?_getD,List.getElem?_eq_getElem hk];rfl
theorem zgn (vp vl:Value)(p:List Int)(l:List (List Int))(w:World)(hp:Sl w vp (zap p))(hl:Mat w vl l)(hlp:p.length≤1000000)(hll:l.length≤1000000)(hrow:∀ i,(l.getD i []).length≤1000000) :
  Calls Tryz.prog 48 #[vp,vl] w fun e w'=>e=.returned (.int .i64 (zgg p l))∧w=w':=by
 have hpc:=zcx vp p w hp hlp;obtain ⟨ap,cp,rfl,_,_,_⟩:=hp.parts;rw [zar] at *;have Hpc:=hid hpc;clear hpc;obtain ⟨vs,hvs,hsl,hrows⟩:=hl;obtain ⟨a,cap,rfl,_,_,hc⟩:=hsl.parts;rw [hvs];have Hc:=hid hc;clear hc hsl;have Hrows:=hid hrows;clear hrows;have Hvs:=hid hvs;clear hvs;have Hrow:=hid hrow;clear hrow;unfold zgg;generalize hpe:zcw p=pe at *;have Hpe:=hid hpe;clear hpe;by_cases hp0:pe=0
 ·subst hp0;rw [if_neg (by simp)];obtain ⟨r,hr⟩:∃ r,r=zgf p.length l:=⟨_,rfl⟩;rw [← hr];have Hr:=hid hr;clear hr;go_enter Tryz.func48,Tryz.ntmps48
  go_wp2_with fail
  refine Hpc.out.mono ?_;rintro e w1 ⟨rfl,rfl⟩;go_wp2
  go_loop [17] (fun i=>∃ k:Nat,i=.int .i64 k∧k≤l.length∧r=zgf p.length (l.drop k)) (fun i=>l.length - (zal i).toNat)
  case atStart=>exact ⟨0,rfl,Nat.zero_le _,by rw [List.drop_zero];exact Hr.out⟩
  case round =>
   obtain ⟨k,rfl,hk,hr⟩:=hrel;by_cases hlt:k<l.length
   ·obtain ⟨u,hu⟩:∃ u,vs[k]?=some u:=⟨_,List.getElem?_eq_getElem (by rw [Hvs.out];exact hlt)⟩;obtain ⟨b,off,rfl,hcell⟩:=Hc.out k u hu;have hrk:=Hrows.out k u hu;have hxl:=Hrow.out k;rw [zgm hlt] at hr;generalize hx:l.getD k []=x at *;have Hx:=hid hx;clear hx hu;obtain ⟨ax,cx,rfl,_,_,hcx⟩:=hrk.parts;rw [zar] at hcell;have Hcx:=hid hcx;clear hcx hrk;by_cases hne:x.length=p.length
    ·have ht:((x.length:Int) != (p.length:Int))=false:=(by rw [bne_eq_false_iff_eq];omega);have hre:zge p.length x=if x.any far then 4 else 0:=(by unfold zge;rw [if_neg (by simpa using hne)]);rw [hre] at hr;have Hr2:=hid hr;clear hr hre hne;go_wp2
     go_loop [28] (fun i=>∃ j:Nat,i=.int .i64 j∧j≤x.length∧∀ t,t<j→far (zas x t)=false) (fun i=>x.length - (zal i).toNat)
     case atStart=>exact ⟨0,rfl,Nat.zero_le _,fun t ht=>by omega⟩
     case round =>
      obtain ⟨j,rfl,hj,hfar⟩:=hrel;have Hfar:=hid hfar;clear hfar;by_cases hjl:j<x.length
      ·obtain ⟨b2,off2,rfl,hcell2⟩:=Hcx.out j _ (zau hjl);have h3:(1000<zas x j)∨(¬ 1000<zas x j∧zas x j < -1000)∨(¬ 1000<zas x j∧¬ zas x j < -1000):=(by omega);rcases h3 with g | ⟨g,g2⟩ | ⟨g,g2⟩
       ·have hr4:r=4:=(by rw [Hr2.out,if_pos (zgk hjl (zgh g)),if_pos (by simp)]);have Hr4:=hid hr4;clear hr4;generalize zas x j=z at *;go_wp2
        go_ret
        exact ⟨zbi Hr4.out.symm,rfl⟩
       ·have hr4:r=4:=(by rw [Hr2.out,if_pos (zgk hjl (zgi g2)),if_pos (by simp)]);have Hr4:=hid hr4;clear hr4;generalize zas x j=z at *;go_wp2
        go_ret
        exact ⟨zbi Hr4.out.symm,rfl⟩
       ·have hfj:=zgj g g2;have Hfj:=hid hfj;clear hfj;generalize hz:zas x j=z at *;have Hz:=hid hz;clear hz;go_wp2
        go_round
        case rel=>exact ⟨j+1,by go_num,by omega,fun t h4=>by
         rcases Nat.lt_or_ge t j with g3 | g3
         ·exact Hfar.out t g3
         ·rw [show t=j by omega,Hz.out];exact Hfj.out⟩
        case measure=>simp [zal];omega
      ·have hall:x.any far=false:=zgl fun t ht=>Hfar.out t (by omega);have hr5:r=zgf p.length (l.drop (k+1)):=by
        have:=Hr2.out;rw [hall] at this;rw [this];simp
       have Hr5:=hid hr5;clear hr5 hall;go_wp2
       go_round
       case rel=>exact ⟨k+1,by go_num,by omega,Hr5.out⟩
       case measure=>simp [zal];omega
    ·have ht:((x.length:Int) != (p.length:Int))=true:=(by rw [bne_iff_ne];omega);have hr5:r=5:=by
      rw [hr];unfold zge;rw [if_pos hne,if_pos (by simp)]
     have Hr5:=hid hr5;clear hr5 hr hne;go_wp2
     go_ret
     exact ⟨zbi Hr5.out.symm,rfl⟩
   ·have hr0:r=0:=(by rw [hr,List.drop_eq_nil_of_le (by omega)];rfl);have Hr0:=hid hr0;clear hr0 hr;go_wp2
    go_ret
    exact ⟨zbi Hr0.out.symm,rfl⟩
 ·rw [if_pos hp0];have ht:(pe != 0)=true:=by rw [bne_iff_ne];exact hp0
  clear hp0;go_enter Tryz.func48,Tryz.ntmps48
  go_wp2_with fail
  refine Hpc.out.mono ?_;rintro e w1 ⟨rfl,rfl⟩;go_wp2
  go_ret
  exact ⟨rfl,rfl⟩
def zgo (p x:List Int):Int:=zgg p [x]
theorem zgp (vp vx:Value)(p x:List Int)(w:World)(hp:Sl w vp (zap p))(hx:Sl w vx (zap x))(hlp:p.length≤1000000)(hlx:x.length≤1000000) :
  Calls Tryz.prog 35 #[vp,vx] w fun e w'=>e=.returned (.int .i64 (zgo p x))∧Ext w w':=by
 have hext:Ext w (w.alloc (.cells #[vx] 26)):=(Ext.refl w).alloc _;have hm:Mat (w.alloc (.cells #[vx] 26)) (.slice (some ⟨w.heap.size,0,none⟩) 1 1) [x]:=by
  refine ⟨[vx],rfl,.inr ⟨w.heap.size,0,1,rfl,Nat.le_refl _,by unfold maxLen;omega,?_⟩,?_⟩
  ·intro i u hu
   cases i with
   | zero=>simp at hu;subst hu;rw [World.cell?_alloc_new];rfl
   | succ i=>simp at hu
  ·intro i u hu
   cases i with
   | zero=>simp at hu;subst hu;exact hext.sl hx
   | succ i=>simp at hu
 have hc:=zgn vp (.slice (some ⟨w.heap.size,0,none⟩) 1 1) p [x] _ (hext.sl hp) hm hlp (by simp) (fun i=>by cases i <;> simp [hlx])
 have Hc:=hid hc;clear hc hm;have Hext:=hid hext;clear hext;obtain ⟨ap,cp,rfl,_,_,_⟩:=hp.parts;obtain ⟨ax,cx,rfl,_,_,_⟩:=hx.parts;clear hp hx;go_enter Tryz.func35,Tryz.ntmps35
 go_wp2_with fail
 refine Hc.out.mono ?_;rintro e w1 ⟨rfl,rfl⟩;go_wp2
 go_ret
 exact ⟨rfl,Hext.out⟩
def zgq (p x:List Int):Nat→Nat
 | 0=>1
 | k+1=>if 0<zas x k then zgq p x k * (zas p k).toNat ^ (zas x k).natAbs else zgq p x k
def zgr (p x:List Int):Nat→Nat
 | 0=>1
 | k+1=>if 0<zas x k then zgr p x k else zgr p x k * (zas p k).toNat ^ (zas x k).natAbs
def zgs (p x:List Int):Nat:=zgq p x x.length
def zgt (p x:List Int):Nat:=zgr p x x.length
def zgu (p x:List Int):Prop:=x.length≤p.length∧x.length≤64∧∀ i,i<x.length→0≤zas p i∧zas p i<10000∧-1000≤zas x i∧zas x i≤1000
theorem zgv {a n:Nat}(ha:a<10000)(hn:n≤1000):nDigits (a ^ n)≤4000:=by
 by_cases h:n=0
 ·subst h;rw [Nat.pow_zero];exact Nat.le_trans (Dec.nDigits_le (n:=1) (k:=1) (by omega) (by omega)) (by omega)
 ·have h1:=zcp a n (by omega);have h2:nDigits a≤4:=Dec.nDigits_le (by omega) (by omega);have h3:n * nDigits a≤1000 * 4:=Nat.mul_le_mul hn h2;omega
theorem zgw {p x:List Int}(h:zgu p x):∀ k,k≤x.length→nDigits (zgq p x k)≤1+4000 * k
 | 0,_=>Dec.nDigits_le (by omega) (by simp [zgq])
 | k+1,hk=>by
  have ih:=zgw h k (by omega);have h2:=h.2.2 k (by omega);rw [zgq];split
  ·have:=zbD (zgq p x k) ((zas p k).toNat ^ (zas x k).natAbs);have:=zgv (a:=(zas p k).toNat) (n:=(zas x k).natAbs) (by omega) (by omega);omega
  ·omega
theorem zgx {p x:List Int}(h:zgu p x):∀ k,k≤x.length→nDigits (zgr p x k)≤1+4000 * k
 | 0,_=>Dec.nDigits_le (by omega) (by simp [zgr])
 | k+1,hk=>by
  have ih:=zgx h k (by omega);have h2:=h.2.2 k (by omega);rw [zgr];split
  ·omega
  ·have:=zbD (zgr p x k) ((zas p k).toNat ^ (zas x k).natAbs);have:=zgv (a:=(zas p k).toNat) (n:=(zas x k).natAbs) (by omega) (by omega);omega
def zgy (p x:List Int)(w0:World)(n d i:Value)(wr:World):Prop :=
 ∃ k:Nat,i=.int .i64 k∧k≤x.length∧n=.string (D (zgq p x k))∧d=.string (D (zgr p x k))∧Ext w0 wr
theorem zgz (vp vx:Value)(p x:List Int)(w:World)(he:Env w)(hp:Sl w vp (zap p))(hx:Sl w vx (zap x))(hn:zgu p x) :
  Calls Tryz.prog 62 #[vp,vx] w fun e w'=>e=.returned (.tuple #[.string (D (zgs p x)),.string (D (zgt p x))])∧Ext w w':=by
 obtain ⟨ap,cp,rfl,_,_,hcp⟩:=hp.parts;obtain ⟨ax,cx,rfl,_,_,hcx⟩:=hx.parts;rw [zar,zar];have Hcp:=hid hcp;clear hcp hp;have Hcx:=hid hcx;clear hcx hx;have hl1:=hn.1;have hl2:=hn.2.1;have Hn:=hid hn;clear hn;have He:=hid he;clear he;go_enter Tryz.func62,Tryz.ntmps62
 go_wp2
 go_loopw [4,5,12] (fun n d i wr=>zgy p x w n d i wr) (fun _ _ i _=>x.length - (zal i).toNat)
 case atStart=>exact ⟨0,rfl,Nat.zero_le _,by rw [zgq,zbs],by rw [zgr,zbs],Ext.refl _⟩
 case round =>
  obtain ⟨k,rfl,hk,rfl,rfl,hext⟩:=hrel;have Hext:=hid hext;clear hext;by_cases hlt:k<x.length
  ·obtain ⟨bp,op,rfl,hcellp0⟩:=Hcp.out k _ (zau (by omega));obtain ⟨bx,ox,rfl,hcellx0⟩:=Hcx.out k _ (zau hlt);have hcellp:=Hext.out.cell hcellp0;have hcellx:=Hext.out.cell hcellx0;clear hcellp0 hcellx0;have hb:=Hn.out.2.2 k hlt;have hdN:=zgw Hn.out k (by omega);have hdD:=zgx Hn.out k (by omega);have HdN:=hid hdN;clear hdN;have HdD:=hid hdD;clear hdD;have hsN:zgq p x (k+1)=if 0<zas x k then zgq p x k * (zas p k).toNat ^ (zas x k).natAbs else zgq p x k:=rfl;have hsD:zgr p x (k+1)=if 0<zas x k then zgr p x k else zgr p x k * (zas p k).toNat ^ (zas x k).natAbs:=rfl;obtain ⟨q,hq⟩:∃ q:Nat,zas p k=q:=⟨(zas p k).toNat,by omega⟩;have hq4:q<10000:=(by omega);rw [hq] at hcellp hsN hsD;rw [Int.toNat_natCast] at hsN hsD;have hcase:(∃ e:Nat,0<e∧e≤1000∧zas x k=e)∨(∃ e:Nat,e≤1000∧zas x k=-(e:Int)):=by
    by_cases g:0<zas x k
    ·exact .inl ⟨(zas x k).toNat,by omega,by omega,by omega⟩
    ·exact .inr ⟨(-(zas x k)).toNat,by omega,by omega⟩
   rcases hcase with ⟨e,he0,he1,hz⟩ | ⟨e,he1,hz⟩
   ·rw [hz] at hcellx hsN hsD;rw [Int.natAbs_natCast,if_pos (by omega)] at hsN hsD;have hmax:max (e:Int) (-(e:Int))=e:=(by omega);clear hb hq hz;have hpow:nDigits (q ^ e)≤4000:=zgv hq4 he1;have Hpow:=hid hpow;clear hpow;have HsN:=hid hsN;clear hsN;have HsD:=hid hsD;clear hsD;generalize zgq p x k=N at *;generalize zgr p x k=M at *;go_wp2_with fail
    refine (zaO q (by omega) wr (He.out.ext Hext.out)).mono ?_;rintro e1 w1 ⟨rfl,hx1⟩;have Hx1:=hid hx1;clear hx1;go_wp2_with fail
    refine (zco q e w1 ((He.out.ext Hext.out).ext Hx1.out) (Dec.nDigits_le (by omega) (by omega)) (by omega) (by have:=Hpow.out;omega)).mono ?_;rintro e1 w2 ⟨rfl,hx2⟩;have Hx2:=hid hx2;clear hx2;go_wp2_with fail
    refine (zbE N (q ^ e) w2 (((He.out.ext Hext.out).ext Hx1.out).ext Hx2.out) (by have:=HdN.out;omega) (by have:=Hpow.out;omega)).mono ?_;rintro e1 w3 ⟨rfl,hx3⟩;have Hx3:=hid hx3;clear hx3;go_wp2
    go_roundw
    case rel=>exact ⟨k+1,by go_num,by omega,by rw [HsN.out],by rw [HsD.out],((Hext.out.trans Hx1.out).trans Hx2.out).trans Hx3.out⟩
    case measure=>simp [zal];omega
   ·rw [hz] at hcellx hsN hsD;rw [Int.natAbs_neg,Int.natAbs_natCast,if_neg (by omega)] at hsN hsD;have hmax:max (-(e:Int)) e=e:=(by omega);clear hb hq hz;have hpow:nDigits (q ^ e)≤4000:=zgv hq4 he1;have Hpow:=hid hpow;clear hpow;have HsN:=hid hsN;clear hsN;have HsD:=hid hsD;clear hsD;generalize zgq p x k=N at *;generalize zgr p x k=M at *;go_wp2_with fail
    refine (zaO q (by omega) wr (He.out.ext Hext.out)).mono ?_;rintro e1 w1 ⟨rfl,hx1⟩;have Hx1:=hid hx1;clear hx1;go_wp2_with fail
    refine (zco q e w1 ((He.out.ext Hext.out).ext Hx1.out) (Dec.nDigits_le (by omega) (by omega)) (by omega) (by have:=Hpow.out;omega)).mono ?_;rintro e1 w2 ⟨rfl,hx2⟩;have Hx2:=hid hx2;clear hx2;go_wp2_with fail
    refine (zbE M (q ^ e) w2 (((He.out.ext Hext.out).ext Hx1.out).ext Hx2.out) (by have:=HdD.out;omega) (by have:=Hpow.out;omega)).mono ?_;rintro e1 w3 ⟨rfl,hx3⟩;have Hx3:=hid hx3;clear hx3;go_wp2
    go_roundw
    case rel=>exact ⟨k+1,by go_num,by omega,by rw [HsN.out],by rw [HsD.out],((Hext.out.trans Hx1.out).trans Hx2.out).trans Hx3.out⟩
    case measure=>simp [zal];omega
  ·obtain rfl:k=x.length:=by omega
   go_wp2
   go_ret2
   exact ⟨rfl,Hext.out⟩
theorem zg0 {n:Nat}{x:List Int}(h:zge n x=0):x.length=n∧∀ i,i<x.length→-1000≤zas x i∧zas x i≤1000:=by
 unfold zge at h;by_cases h0:x.length=n
 ·rw [if_neg (by simpa using h0)] at h;by_cases hf:x.any far=true
  ·rw [if_pos hf] at h;omega
  ·refine ⟨h0,fun i hi=>?_⟩;by_cases g1:1000<zas x i
   ·exact absurd (zgk hi (zgh g1)) hf
   ·by_cases g2:zas x i < -1000
    ·exact absurd (zgk hi (zgi g2)) hf
    ·omega
 ·rw [if_pos h0] at h;omega
theorem zg1 {p x:List Int}(h:zgo p x=0):zcw p=0∧zge p.length x=0:=by
 unfold zgo zgg at h;by_cases h0:zcw p=0
 ·rw [if_neg (by simpa using h0)] at h;refine ⟨h0,?_⟩;rw [zgf] at h;by_cases h1:zge p.length x=0
  ·exact h1
  ·rw [if_pos h1] at h;exact h
 ·rw [if_pos h0] at h;exact absurd h h0
theorem zg2 {p x:List Int}(h1:zcw p=0)(h2:zge p.length x=0):zgu p x:=by
 obtain ⟨a,b,c⟩:=zc0 h1;obtain ⟨d,e⟩:=zg0 h2;refine ⟨by omega,by omega,fun i hi=>?_⟩;have:=c i (by omega);have:=e i hi;omega
theorem zg3 {p x:List Int}(h:zgu p x):nDigits (zgs p x)≤256001:=by
 have:=zgw h x.length (Nat.le_refl _);have:=h.2.1;unfold zgs;omega
theorem zg4 {p x:List Int}(h:zgu p x):nDigits (zgt p x)≤256001:=by
 have:=zgx h x.length (Nat.le_refl _);have:=h.2.1;unfold zgt;omega
def zg5 (p x:List Int):Int:=if zgo p x ≠ 0 then 0 else zbj (zgs p x:Nat) (zgt p x:Nat)
theorem zg6 (vp vx:Value)(p x:List Int)(w:World)(he:Env w)(hp:Sl w vp (zap p))(hx:Sl w vx (zap x))(hlp:p.length≤1000000)(hlx:x.length≤1000000) :
  Calls Tryz.prog 36 #[vp,vx] w fun e w'=>e=.returned (.tuple #[.int .i64 (zg5 p x),.int .i64 (zgo p x)])∧Ext w w':=by
 have hc:=zgp vp vx p x w hp hx hlp hlx;have Hc:=hid hc;clear hc;have He:=hid he;clear he;have Hp:=hid hp;have Hx:=hid hx;obtain ⟨ap,cp,rfl,_,_,_⟩:=hp.parts;obtain ⟨ax,cx,rfl,_,_,_⟩:=hx.parts;clear hp hx;unfold zg5;by_cases h0:zgo p x=0
 ·rw [if_neg (by simpa using h0),h0];have hn:=zg2 (zg1 h0).1 (zg1 h0).2;rw [h0] at Hc;have Hn:=hid hn;clear hn h0;go_enter Tryz.func36,Tryz.ntmps36
  go_wp2_with fail
  refine Hc.out.mono ?_;rintro e w1 ⟨rfl,hx1⟩;have Hx1:=hid hx1;clear hx1;go_wp2_with fail
  refine (zgz _ _ p x w1 (He.out.ext Hx1.out) (Hx1.out.sl Hp.out) (Hx1.out.sl Hx.out) Hn.out).mono ?_;rintro e w2 ⟨rfl,hx2⟩;have Hx2:=hid hx2;clear hx2;go_wp2_with fail
  refine (zb8 (zgs p x) (zgt p x) w2 (by have:=zg3 Hn.out;omega) (by have:=zg4 Hn.out;omega)).mono ?_;rintro e w3 ⟨rfl,rfl⟩;go_wp2
  go_ret2
  exact ⟨rfl,Hx1.out.trans Hx2.out⟩
 ·rw [if_pos h0];have ht:(zgo p x != 0)=true:=by rw [bne_iff_ne];exact h0
  generalize zgo p x=r at *;clear h0;go_enter Tryz.func36,Tryz.ntmps36
  go_wp2_with fail
  refine Hc.out.mono ?_;rintro e w1 ⟨rfl,hx1⟩;have Hx1:=hid hx1;clear hx1;go_wp2
  go_ret2
  exact ⟨rfl,Hx1.out⟩
def zg7 (n:Int):Bool:=decide (-1000000000≤n∧n≤1000000000)
theorem zg8 (n:Int)(w:World):Calls Tryz.prog 60 #[.int .i64 n] w fun e w'=>e=.returned (.bool (zg7 n))∧w=w':=by
 unfold zg7;by_cases h1:-1000000000≤n
 ·by_cases h2:n≤1000000000
  ·rw [decide_eq_true ⟨h1,h2⟩];go_enter Tryz.func60,Tryz.ntmps60
   go_wp2
   go_ret
   exact ⟨rfl,rfl⟩
  ·rw [decide_eq_false (fun h=>h2 h.2)];have hd:decide (n≤1000000000)=false:=decide_eq_false h2;go_enter Tryz.func60,Tryz.ntmps60
   go_wp2
   go_ret
   exact ⟨rfl,rfl⟩
 ·rw [decide_eq_false (fun h=>h1 h.1)];have hd:decide (-1000000000≤n)=false:=decide_eq_false h1;go_enter Tryz.func60,Tryz.ntmps60
  go_wp2
  go_ret
  exact ⟨rfl,rfl⟩
theorem zg9 (n:Int)(w:World):Calls Tryz.prog 59 #[.int .i64 n] w fun e w'=>e=.returned (.bool (!zg7 n))∧∃ q,w'=w.drewN q:=by
 have hf:=zg8 n w;have Hf:=hid hf;clear hf;generalize zg7 n=b at *;go_enter Tryz.func59,Tryz.ntmps59
 go_wp2_with fail
 refine Hf.out.mono ?_;rintro e w1 ⟨rfl,rfl⟩;go_wp2
 go_ret
 exact ⟨rfl,0,rfl⟩
theorem zgA (w:World):Go.Proofs.PredAt Tryz.prog 59 #[] (Value.int .i64) (fun n=>!zg7 n) w:=fun W x _=>zg9 x W
theorem zgB : ∀ args w,(callFunc 59 args).run Tryz.prog w=.ok (.enter 59 args) w:=enters_of Tryz.func59 (by kernel_rfl) rfl
def zgC (x:List Int):Int:=if 64<x.length∨x.any (fun n=>!zg7 n)=true then 4 else 0
theorem zgD (a:Option Addr)(cap:Nat)(x:List Int)(w:World)(hl:x.length≤1000000)
  (hc:∀ i u,(zap x)[i]?=some u→∃ b off,a=some ⟨b,off,none⟩∧w.cell? ⟨b,off+i,none⟩=some u) :
  Calls Tryz.prog 42 #[.slice a x.length cap,.func (.func 59) #[] #[]] w fun e w'=>e=.returned (.bool (x.any fun n=>!zg7 n))∧Ext w w':=by
 cases x with
 | nil=>exact (AnyE.slices_ContainsFunc_empty Tryz.lContainsR a cap _ w).mono fun e w' ⟨h,hw⟩=>⟨h,by rw [hw];exact Ext.refl _⟩
 | cons z r =>
  obtain ⟨b,off,rfl,_⟩:=hc 0 _ (zau (l:=z::r) (by simp))
  have h:=AnyE.slices_ContainsFunc Tryz.lContainsR (Value.int .i64) (fun n=>!zg7 n) 59 #[] zgB b off (z::r).length cap (z::r) w (zgA w) (Nat.le_refl _) (by omega) (fun j hj=>by
   obtain ⟨b2,off2,e2,hcell⟩:=hc j _ (zau hj);simp only [Option.some.injEq,Addr.mk.injEq,and_true] at e2;obtain ⟨rfl,rfl⟩:=e2;rw [hcell];unfold zas;rw [List.getD_eq_getElem?_getD,List.getElem?_eq_getElem hj,getElem!_pos _ j hj];rfl)
  rw [List.take_length] at h
  exact h.mono fun e w' ⟨he,q,hw⟩=>⟨he,by rw [hw];exact (Ext.refl w).drewN q⟩
theorem zgE (v:Value)(x:List Int)(w:World)(hv:Sl w v (zap x))(hl:x.length≤1000000) :
  Calls Tryz.prog 32 #[v] w fun e w'=>e=.returned (.int .i64 (zgC x))∧Ext w w':=by
 obtain ⟨a,cap,rfl,_,_,hc⟩:=hv.parts;rw [zar];have hcon:=zgD a cap x w hl hc;clear hc hv;unfold zgC;by_cases h64:64<x.length
 ·rw [if_pos (.inl h64)];clear hcon;go_enter Tryz.func32,Tryz.ntmps32
  go_wp2
  go_ret
  exact ⟨rfl,Ext.refl _⟩
 ·by_cases hb:x.any (fun n=>!zg7 n)=true
  ·rw [if_pos (.inr hb)];rw [hb] at hcon;have Hcon:=hid hcon;clear hcon hb;go_enter Tryz.func32,Tryz.ntmps32
   go_wp2_with fail
   refine Hcon.out.mono ?_;rintro e w1 ⟨rfl,hx1⟩;have Hx1:=hid hx1;clear hx1;go_wp2
   go_ret
   exact ⟨rfl,Hx1.out⟩
  ·rw [if_neg (fun h=>h.elim h64 hb)];rw [show x.any (fun n=>!zg7 n)=false by simpa using hb] at hcon;have Hcon:=hid hcon;clear hcon hb;go_enter Tryz.func32,Tryz.ntmps32
   go_wp2_with fail
   refine Hcon.out.mono ?_;rintro e w1 ⟨rfl,hx1⟩;have Hx1:=hid hx1;clear hx1;go_wp2
   go_ret
   exact ⟨rfl,Hx1.out⟩
end
section
def swp {α:Type}(l:List α)(i j:Nat):List α :=
 match l[i]?,l[j]? with
 | some x,some y=>(l.set i y).set j x
 | _,_=>l
theorem zgF {α:Type}{l:List α}{i j:Nat}{x y:α}(hx:l[i]?=some x)(hy:l[j]?=some y):swp l i j=(l.set i y).set j x:=by unfold swp;rw [hx,hy]
theorem zgG {α:Type}(l:List α)(i j:Nat):(swp l i j).length=l.length:=by
 unfold swp;split <;> simp
/-! Fractions: the reduced form of rows. -/
def okQ (q:Rat):Bool:=decide (q.num.natAbs<10 ^ 40) && decide (q.den<10 ^ 40)
def okM (m:List (List Rat)):Bool:=m.all fun r=>r.all okQ
def zgH (c:Nat):List (List Rat)→Nat
 | []=>0
 | r::m=>if r.getD c 0=0 then zgH c m+1 else 0
def zgI (f:Rat)(r:List Rat):List Rat:=r.map fun a=>a / f
def zgJ (r t:List Rat)(f:Rat):List Rat:=List.zipWith (fun a b=>a - f * b) r t
def zgK (m:List (List Rat))(k c n:Nat):List (List Rat):=m.mapIdx fun i r=>if i<n∧i ≠ k then zgJ r (m.getD k []) (r.getD c 0) else r
structure RdS where
 m:List (List Rat)
 ld:List Nat
 det:Rat
def zgL (c:Nat)(s:RdS):Option RdS :=
 if okM s.m=true∧okQ s.det=true then
  let k:=s.ld.length
  let a:=k+zgH c (s.m.drop k)
  if a=s.m.length then some ⟨s.m,s.ld,0⟩
  else
   let m1:=swp s.m k a
   let f:=(m1.getD k []).getD c 0
   some ⟨zgK (m1.set k (zgI f (m1.getD k []))) k c s.m.length,s.ld++[c],(if a=k then s.det else -s.det) * f⟩
 else none
def zgM : List Nat→RdS→Option RdS
 | [],s=>some s
 | c::cs,s=>match zgL c s with
  | some s'=>zgM cs s'
  | none=>none
def zgN (r:List Int):List Rat:=r.map fun z:Int=>(z:Rat)
def zgO (m:List (List Int)):Option Nat :=
 (zgM (List.range (m.getD 0 []).length) ⟨m.map zgN,[],1⟩).map fun s=>s.ld.length
/-! Whole numbers: the Hermite form of smith. -/
def okZ (z:Int):Bool:=decide (z.natAbs<10 ^ 40)
def okG (g:List (List Int)):Bool:=g.all fun r=>r.all okZ
def zgP (l o:List Int)(q:Int):List Int:=List.zipWith (fun a b=>a - q * b) l o
def zgQ (l:List Int):List Int:=l.map fun z=>-z
def at2 (g:List (List Int))(i c:Nat):Int:=(g.getD i []).getD c 0
def zgR (g:List (List Int))(c:Nat):Nat→Nat→Option Nat × Bool
 | _,0=>(none,false)
 | top,n+1 =>
  let r:=zgR g c top n
  let i:=top+n
  if at2 g i c=0 then r
  else match r.1 with
   | none=>(some i,r.2)
   | some k=>(some (if (at2 g i c).natAbs<(at2 g k c).natAbs then i else k),true)
def zgS (g:List (List Int))(t c lo n:Nat):List (List Int):=g.mapIdx fun i r=>if lo≤i∧i<n then zgP r (g.getD t []) (fdv (r.getD c 0) (at2 g t c)) else r
def zgT (g:List (List Int))(t c:Nat):List (List Int):=if at2 g t c<0 then g.set t (zgQ (g.getD t [])) else g
def zgU (g:List (List Int))(t c:Nat):List (List Int):=zgS (zgT g t c) t c 0 t
def inZ : Nat→List (List Int)→Nat→Nat→Option (List (List Int) × Nat)
 | 0,_,_,_=>none
 | n+1,g,top,c =>
  if okG g=true then
   match zgR g c top (g.length - top) with
   | (none,_)=>some (g,top)
   | (some k,more) =>
    if okG (swp g top k)=true∧okG (zgT (swp g top k) top c)=true then
     if more=true then inZ n (zgS (swp g top k) top c (top+1) g.length) top c
     else some (zgU (swp g top k) top c,top+1)
    else none
  else none
def zgV : Nat→List (List Int)→Nat→Nat→Nat→Option (List (List Int) × Nat)
 | 0,_,_,_,_=>none
 | n+1,g,top,c,cols =>
  if c<cols∧top<g.length then
   match inZ 100 g top c with
   | some (g',top')=>zgV n g' top' (c+1) cols
   | none=>none
  else some (g,top)
def zgW (g:List (List Int))(cols:Nat):Option (List (List Int)):=(zgV 100 g 0 0 cols).map fun r=>r.1.take r.2
def zgX (n:Nat):List (List Int):=(List.range n).map fun i=>(List.replicate n (0:Int)).set i 1
def zgY (m:List (List Int)):Option (List (List Int)):=zgW (List.zipWith (fun r u=>r++u) m (zgX m.length)) ((m.getD 0 []).length+m.length)
def zgZ : List Int→Nat
 | []=>0
 | z::l=>if z=0 then zgZ l+1 else 0
def zha (f:List (List Int))(cols:Nat):List (List Int):=(f.filter fun l=>cols≤zgZ l).map fun l=>l.drop cols
def zhb (l r:List Int):List Int:=if zgZ r<l.length then zgP l r (fdv (l.getD (zgZ r) 0) (r.getD (zgZ r) 0)) else l
def zhc : List (List Int)→List Int→Option (List Int)
 | [],l=>some l
 | r::f,l=>if l.all okZ=true∧r.all okZ=true then zhc f (zhb l r) else none
def zhd (m:List (List Int))(b:List Int):Option (Option (List Int)) :=
 match zgY m with
 | none=>none
 | some f =>
  let cols:=(m.getD 0 []).length
  match zhc (f.filter fun l=>zgZ l<cols) (b++List.replicate m.length 0) with
  | none=>none
  | some l=>if zgZ l<cols then some none else
   match zhc (zha f cols) (zgQ (l.drop cols)) with
   | none=>none
   | some x=>if x.all (fun z=>decide (z.natAbs≤1000000000)) then some (some x) else none
def zhe : List (List Int)→Nat→List (List Int)→List Int→Option (List (List Int) × List Int)
 | [],_,m,a=>some (m,a)
 | x::l,i,m,a =>
  match zgO (m++[x]) with
  | none=>none
  | some r=>if r=(m++[x]).length then zhe l (i+1) (m++[x]) (a++[((i+1:Nat):Int)]) else zhe l (i+1) m a
def zhf (m:List (List Int)):List (List Int):=(List.range (m.getD 0 []).length).map fun c=>m.map fun r=>r.getD c 0
def zhg (v x:List Int):Int:=(List.zipWith (fun a b=>a * b) v x).sum
def zhh (v:List Int)(l:List (List Int)):Nat:=((List.range l.length).find? fun i=>zhg v (l.getD i []) != ((i+1:Nat):Int)).elim 0 (·+1)
def zhi (l:List (List Int)):Option (Option (List Int)) :=
 match zhe l 0 [] [] with
 | none=>none
 | some (m,a)=>match zhd (zhf m) a with
  | none=>none
  | some none=>some none
  | some (some v)=>if 0<zhh v l then some none else some (some v)
def zhj : List (List Int):=[[-3,2,0],[-2,0,1],[2,-1,0],[-1,1,0],[0,-1,1],[-3,1,1],[1,0,0]]
theorem zhk : zhi zhj=some (some [7,11,16]):=by decide +kernel
theorem zhl : zhi [[-3,2,0],[-2,0,1],[-1,1,0],[1,0,0]]=some none:=by decide +kernel
theorem zhm : zhi [[-3,2,0],[-6,4,0],[-1,1,0],[-4,3,0],[1,0,0]]=some (some [5,8,0]):=by decide +kernel
end
section
open Go.RowKit Go.Lib
def zhn (v x:List Int):Nat→Int
 | 0=>0
 | j+1=>zhn v x j+zas v j * zas x j
theorem zho {v x:List Int}:∀ {n:Nat},n≤v.length→n≤x.length→zhn v x n=((List.zipWith (fun a b=>a * b) v x).take n).sum
 | 0,_,_=>rfl
 | n+1,h1,h2=>by
  have hl:n<(List.zipWith (fun a b=>a * b) v x).length:=by rw [List.length_zipWith];omega
  rw [zhn,zho (n:=n) (by omega) (by omega),List.take_succ_eq_append_getElem hl,List.sum_append,List.getElem_zipWith];unfold zas;rw [List.getD_eq_getElem?_getD,List.getElem?_eq_getElem (by omega),List.getD_eq_getElem?_getD,List.getElem?_eq_getElem (by omega)];simp
theorem zhp {v x:List Int}(h:x.length=v.length):zhn v x x.length=zhg v x:=by
 rw [zho (by omega) (Nat.le_refl _),List.take_of_length_le (by rw [List.length_zipWith];omega)];rfl
theorem zhq {v x:List Int}(hb:∀ i,i<x.length→-1000000000000≤zas v i * zas x i∧zas v i * zas x i≤1000000000000):∀ {n:Nat},n≤x.length→-((n:Int) * 1000000000000)≤zhn v x n∧zhn v x n≤(n:Int) * 1000000000000
 | 0,_=>by simp [zhn]
 | n+1,h=>by
  have:=zhq hb (n:=n) (by omega);have:=hb n (by omega);rw [zhn];omega
theorem zhr (vv vx:Value)(v x:List Int)(w:World)(hv:Sl w vv (zap v))(hx:Sl w vx (zap x))(hl:x.length=v.length)(hn:x.length≤1000)(hb:∀ i,i<x.length→-1000000000000≤zas v i * zas x i∧zas v i * zas x i≤1000000000000) :
  Calls Tryz.prog 30 #[vv,vx] w fun e w'=>e=.returned (.int .i64 (zhg v x))∧w=w':=by
 obtain ⟨av,cv,rfl,_,_,hcv⟩:=hv.parts;obtain ⟨ax,cx,rfl,_,_,hcx⟩:=hx.parts;rw [zar,zar,← zhp hl];have hbd:=fun j (hj:j≤x.length)=>zhq hb hj;have hsu:=fun j=>(show zhn v x (j+1)=zhn v x j+zas v j * zas x j from rfl);have hvl:v.length=x.length:=hl.symm;have Hcv:=hid hcv;have Hcx:=hid hcx;have Hbd:=hid hbd;have Hsu:=hid hsu;have Hb:=hid hb;have Hvl:=hid hvl;clear hcv hcx hbd hsu hb hvl;clear hv hx hl;go_enter Tryz.func30,Tryz.ntmps30
 go_wp2_with fail
 go_loop [5,10] (fun v5 v10=>∃ j:Nat,v10=.int .i64 j∧j≤x.length∧v5=.int .i64 (zhn v x j)) (fun _ v10=>x.length - (zal v10).toNat)
 case atStart=>exact ⟨0,rfl,Nat.zero_le _,rfl⟩
 case round =>
  obtain ⟨j,rfl,hj,rfl⟩:=hrel;by_cases hjn:j<x.length
  ·obtain ⟨b1,o1,rfl,hc1⟩:=Hcx.out j _ (zau hjn);obtain ⟨b2,o2,rfl,hc2⟩:=Hcv.out j _ (zau (by rw [Hvl.out];exact hjn));have h1:=Hbd.out j hj;have h2:=Hb.out j hjn;have h3:=Hsu.out j;have hlz:(x.length:Int)≤1000:=(by omega);have hjz:(j:Int) * 1000000000000≤1000000000000000:=(by omega);obtain ⟨h4,h5⟩:=h1;obtain ⟨h6,h7⟩:=h2;have h8:-1000000000000000≤zhn v x j:=(by omega);have h9:zhn v x j≤1000000000000000:=(by omega);have hj0:(0:Int)≤(j:Int):=(by omega);have hj1:(j:Int)<(x.length:Int):=(by omega);have hj2:(j:Int)<(v.length:Int):=(by have:=Hvl.out;omega);have H3:=hid h3;clear h3;clear h4 h5 hjz hlz;generalize zhn v x j=s at *;generalize zas v j=zv at *;generalize zas x j=zx at *;go_wp2_with fail
   go_round
   case rel=>exact ⟨j+1,by go_num,hjn,by rw [H3.out]⟩
   case measure=>simp [zal];omega
  ·have hjl:j=x.length:=(by omega);have hnj:¬ (j:Int)<(x.length:Int):=(by omega);subst hjl;go_wp2
   go_ret
   exact ⟨rfl,rfl⟩
def zhs (p x y:List Int):Int:=zbj ((zgs p x * zgt p y:Nat):Int) ((zgs p y * zgt p x:Nat):Int)
theorem zht (a b:Int):zbj b a=-zbj a b:=by unfold zbj;(repeat' split) <;> omega
theorem zhu (a b:Int):zbj a b≤0 ↔ a≤b:=by unfold zbj;(repeat' split) <;> omega
theorem zhv (p x y:List Int):zhs p y x=-zhs p x y:=by unfold zhs;rw [zht]
def zhw (n:Nat):List Int:=List.replicate n 0
def zhx (p:List Int):List Int→List (List Int)→Int
 | _,[]=>0
 | b,x::l=>if zgo p x ≠ 0 then zgo p x else if 0≤zhs p b x then 6 else zhx p x l
def zhy (p:List Int)(l:List (List Int)):Int:=if zcw p ≠ 0 then zcw p else if l.length=0 then 13 else if 60<l.length then 4 else zhx p (zhw p.length) l
theorem zhz (n i:Nat):zas (List.replicate n (0:Int)) i=0:=by
 unfold zas;rw [List.getD_eq_getElem?_getD,List.getElem?_replicate];split <;> rfl
theorem zh0 (p:List Int)(n:Nat):∀ k,zgq p (List.replicate n 0) k=1∧zgr p (List.replicate n 0) k=1
 | 0=>⟨rfl,rfl⟩
 | k+1=>by
  obtain ⟨h1,h2⟩:=zh0 p n k;unfold zgq zgr;rw [zhz,h1,h2];simp
theorem zh1 {p x:List Int}(h:zgo p x=0):0≤zhs p (zhw p.length) x ↔ zg5 p x≤0:=by
 unfold zhs zg5;rw [if_neg (by omega),zhu];have e1:zgs p (zhw p.length)=1:=(zh0 p _ _).1;have e2:zgt p (zhw p.length)=1:=(zh0 p _ _).2;rw [e1,e2,Nat.one_mul,Nat.mul_one,zht];have:=zhu (zgs p x:Nat) (zgt p x:Nat);omega
def zh2 (p x y:List Int):Int:=zgg p [x,y]
theorem zh3 {p x y:List Int}(h:zh2 p x y=0):zcw p=0∧zge p.length x=0∧zge p.length y=0:=by
 unfold zh2 zgg at h;by_cases h0:zcw p=0
 ·rw [if_neg (by simpa using h0)] at h;refine ⟨h0,?_⟩;rw [zgf] at h;by_cases h1:zge p.length x=0
  ·rw [if_neg (by simpa using h1),zgf] at h;refine ⟨h1,?_⟩;by_cases h2:zge p.length y=0
   ·exact h2
   ·rw [if_pos h2] at h;exact h
  ·rw [if_pos h1] at h;exact absurd h h1
 ·rw [if_pos h0] at h;exact absurd h h0
theorem zh4 {p x y:List Int}(h1:zgo p x=0)(h2:zgo p y=0):zh2 p x y=0:=by
 obtain ⟨a,b⟩:=zg1 h1;obtain ⟨_,c⟩:=zg1 h2;unfold zh2 zgg;rw [if_neg (by simpa using a),zgf,if_neg (by simpa using b),zgf,if_neg (by simpa using c)];rfl
def zh5 (p x y:List Int):Int:=if zh2 p x y ≠ 0 then 0 else zhs p x y
theorem zh6 (w:World)(vx vy:Value)(x y:List Int)(hx:Sl w vx (zap x))(hy:Sl w vy (zap y)):Mat (w.alloc (.cells #[vx,vy] 26)) (.slice (some ⟨w.heap.size,0,none⟩) 2 2) [x,y]:=by
 have hext:Ext w (w.alloc (.cells #[vx,vy] 26)):=(Ext.refl w).alloc _;refine ⟨[vx,vy],rfl,.inr ⟨w.heap.size,0,2,rfl,Nat.le_refl _,by unfold maxLen;omega,?_⟩,?_⟩
 ·intro i u hu;match i,hu with
  | 0,hu=>simp at hu;subst hu;rw [World.cell?_alloc_new];rfl
  | 1,hu=>simp at hu;subst hu;rw [World.cell?_alloc_new];rfl
  | i+2,hu=>simp at hu
 ·intro i u hu;match i,hu with
  | 0,hu=>simp at hu;subst hu;exact hext.sl hx
  | 1,hu=>simp at hu;subst hu;exact hext.sl hy
  | i+2,hu=>simp at hu
theorem zh7 (vp vx vy:Value)(p x y:List Int)(w:World)(he:Env w)(hp:Sl w vp (zap p))(hx:Sl w vx (zap x))(hy:Sl w vy (zap y))(hlp:p.length≤1000000)(hlx:x.length≤1000000)(hly:y.length≤1000000) :
  Calls Tryz.prog 37 #[vp,vx,vy] w fun e w'=>e=.returned (.tuple #[.int .i64 (zh5 p x y),.int .i64 (zh2 p x y)])∧Ext w w':=by
 have hext:Ext w (w.alloc (.cells #[vx,vy] 26)):=(Ext.refl w).alloc _;have hc:=zgn vp (.slice (some ⟨w.heap.size,0,none⟩) 2 2) p [x,y] _ (hext.sl hp) (zh6 w vx vy x y hx hy) hlp (by simp) (fun i=>by match i with | 0=>simpa using hlx | 1=>simpa using hly | i+2=>simp)
 have Hc:=hid hc;clear hc;have Hext:=hid hext;clear hext;have He:=hid he;clear he;have Hp:=hid hp;have Hx:=hid hx;have Hy:=hid hy;obtain ⟨ap,cp,rfl,_,_,_⟩:=hp.parts;obtain ⟨ax,cx,rfl,_,_,_⟩:=hx.parts;obtain ⟨ay,cy,rfl,_,_,_⟩:=hy.parts;simp only [zar] at *;clear hp hx hy;have hae:zgg p [x,y]=zh2 p x y:=rfl;rw [hae] at Hc;clear hae;unfold zh5;by_cases h0:zh2 p x y=0
 ·rw [if_neg (by simpa using h0),h0];obtain ⟨hp0,hx0,hy0⟩:=zh3 h0;have hnx:=zg2 hp0 hx0;have hny:=zg2 hp0 hy0;rw [h0] at Hc;unfold zhs;have d1:=zg3 hnx;have d2:=zg4 hnx;have d3:=zg3 hny;have d4:=zg4 hny;have Hnx:=hid hnx;have Hny:=hid hny;have m1:=zbD (zgs p x) (zgt p y);have m2:=zbD (zgs p y) (zgt p x);have HD:=hid (And.intro d1 (And.intro d2 (And.intro d3 (And.intro d4 (And.intro m1 m2)))));clear h0 hp0 hx0 hy0 hnx hny d1 d2 d3 d4 m1 m2;go_enter Tryz.func37,Tryz.ntmps37
  go_wp2_with fail
  refine Hc.out.mono ?_;rintro e w1 ⟨rfl,rfl⟩;go_wp2_with fail
  refine (zgz _ _ p x _ (He.out.ext Hext.out) (Hext.out.sl Hp.out) (Hext.out.sl Hx.out) Hnx.out).mono ?_;rintro e w2 ⟨rfl,hx2⟩;have Hx2:=hid (Hext.out.trans hx2);clear hx2;go_wp2_with fail
  refine (zgz _ _ p y w2 (He.out.ext Hx2.out) (Hx2.out.sl Hp.out) (Hx2.out.sl Hy.out) Hny.out).mono ?_;rintro e w3 ⟨rfl,hx3⟩;have Hx3:=hid (Hx2.out.trans hx3);clear hx3;go_wp2_with fail
  refine (zbE (zgs p x) (zgt p y) w3 (He.out.ext Hx3.out) (by have:=HD.out;omega) (by have:=HD.out;omega)).mono ?_;rintro e w4 ⟨rfl,hx4⟩;have Hx4:=hid (Hx3.out.trans hx4);clear hx4;go_wp2_with fail
  refine (zbE (zgs p y) (zgt p x) w4 (He.out.ext Hx4.out) (by have:=HD.out;omega) (by have:=HD.out;omega)).mono ?_;rintro e w5 ⟨rfl,hx5⟩;have Hx5:=hid (Hx4.out.trans hx5);clear hx5;go_wp2_with fail
  refine (zb8 (zgs p x * zgt p y) (zgs p y * zgt p x) w5 (by have:=HD.out;omega) (by have:=HD.out;omega)).mono ?_;rintro e w6 ⟨rfl,rfl⟩;go_wp2
  go_ret2
  exact ⟨rfl,Hx5.out⟩
 ·rw [if_pos h0];have ht:(zh2 p x y != 0)=true:=by rw [bne_iff_ne];exact h0
  generalize zh2 p x y=r at *;clear h0;go_enter Tryz.func37,Tryz.ntmps37
  go_wp2_with fail
  refine Hc.out.mono ?_;rintro e w1 ⟨rfl,rfl⟩;go_wp2
  go_ret2
  exact ⟨rfl,Hext.out⟩
end
end Go.Proofs.YtkdgmahilfnnmaaGreatDoor
