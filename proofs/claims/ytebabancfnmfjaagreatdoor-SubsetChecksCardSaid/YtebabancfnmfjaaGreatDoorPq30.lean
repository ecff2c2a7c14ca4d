/- Walks: subset: a query as data; checkNotes, Check. Plain: how many candidates there are: by the program's way of reckoning, and how many lists there are. Walks: subset: the number of candidates, and whether there are few. Walk: law 38's twelve. Walks: slices.Equal at primes, slices.EqualFunc at sizes; law 31's same, scale.same. Walks: class.Varieties. -/
import Derived.Test.YtebabancfnmfjaaGreatDoorPq29
import Derived.Test.YtebabancfnmfjaaGreatDoorPq18
import Derived.Test.YtebabancfnmfjaaGreatDoorPq17
import Derived.Test.YtebabancfnmfjaaGreatDoorPq14
import Derived.Test.YtebabancfnmfjaaGreatDoorPq27
set_option maxRecDepth 100000
set_option maxHeartbeats 2000000
namespace Go.Proofs.YtebabancfnmfjaaGreatDoor
section
open Go.RowKit Go.Lib Go.Shelf
attribute [local go_sem] Oper.semAt_some
def QyV (w:World)(v:Value)(p:List Int)(rs:List Qw)(m P:Int)(M:List Int)(b:Bool):Prop:=∃ vp vn vm,v=.agg #[vp,vn,.int .i64 m,.int .i64 P,vm,.bool b]∧Sl w vp (zap p)∧RdM w vn rs∧Sl w vm (zap M)
theorem QyV.ext {w w':World}{v:Value}{p:List Int}{rs:List Qw}{m P:Int}{M:List Int}{b:Bool}(h:QyV w v p rs m P M b)(hx:Ext w w'):QyV w' v p rs m P M b:=by
 obtain ⟨vp,vn,vm,e,h1,h2,h3⟩:=h;exact ⟨vp,vn,vm,e,hx.sl h1,hx.rdM h2,hx.sl h3⟩
theorem QyV.let {w:World}{v:Value}{p:List Int}{rs:List Qw}{m P:Int}{M:List Int}{b:Bool}(h:QyV w v p rs m P M b) :
  ∃ ap cp an cn am cm,v=.agg #[.slice ap p.length cp,.slice an rs.length cn,.int .i64 m,.int .i64 P,.slice am M.length cm,.bool b]∧ScV w (.agg #[.slice ap p.length cp,.slice an rs.length cn]) p rs∧Sl w (.slice am M.length cm) (zap M):=by
 obtain ⟨vp,vn,vm,rfl,h1,h2,h3⟩:=h;obtain ⟨ap,cp,rfl,_,_,_⟩:=h1.parts;obtain ⟨an,cn,rfl,_,_,_⟩:=h2.1.parts;obtain ⟨am,cm,rfl,_,_,_⟩:=h3.parts;rw [zar] at *;rw [zar] at *;rw [zfz] at *;exact ⟨ap,cp,an,cn,am,cm,rfl,⟨_,_,rfl,h1,h2⟩,h3⟩
def zno (w:World)(k:Nat)(vp vn:Value)(m P:Int)(vm:Value)(b:Bool):Prop:=w.heap[k]?=some (.cells #[vp,vn,.int .i64 m,.int .i64 P,vm,.bool b] 59 (0,0))
section
variable {w w' : World} {k : Nat} {vp vn vm : Value} {m P : Int} {b : Bool}
theorem zno.new (w:World)(vp vn:Value)(m P:Int)(vm:Value)(b:Bool):zno (w.alloc (.cells #[vp,vn,.int .i64 m,.int .i64 P,vm,.bool b] 59)) w.heap.size vp vn m P vm b:=World.alloc_heap_new w _
theorem zno.ext (h:zno w k vp vn m P vm b)(hx:Ext w w'):zno w' k vp vn m P vm b:=hx.heap h
theorem zno.cs (h:zno w k vp vn m P vm b):w.cell? ⟨k,0,none⟩=some vp∧w.cell? ⟨k,1,none⟩=some vn∧w.cell? ⟨k,2,none⟩=some (.int .i64 m)∧w.cell? ⟨k,3,none⟩=some (.int .i64 P)∧w.cell? ⟨k,4,none⟩=some vm∧w.cell? ⟨k,5,none⟩=some (.bool b):=by
 unfold zno at h;unfold World.cell?;dsimp only;rw [h];exact ⟨rfl,rfl,rfl,rfl,rfl,rfl⟩
end
theorem znp (vl:Value)(l:List Int)(n:Nat)(w:World)(hvl:Sl w vl (zap l))(hl:l.length≤1000000) :
  Calls Tryz.prog 77 #[vl,.int .i64 (n:Int)] w fun e w'=>e=.returned (.int .i64 (zj3 n l 0 l.length))∧w=w':=by
 obtain ⟨al,cl,rfl,_,hcl,hlc⟩:=hvl.parts;have hlat:∀ k,k<l.length→∃ b off,al=some ⟨b,off,none⟩∧w.cell? ⟨b,off+k,none⟩=some (.int .i64 ((l[k]?).getD 0)):=fun k hk=>by
  obtain ⟨b,off,e,hc⟩:=hlc k (.int .i64 ((l[k]?).getD 0)) (by unfold zap;rw [List.getElem?_map,List.getElem?_eq_getElem hk];rfl);exact ⟨b,off,e,hc⟩
 rw [zar] at *;have Hlat:=hid hlat;clear hvl hlc hlat;generalize hLl:l.length=L at *;have HLl:=hid hLl;clear hLl;go_enter Tryz.func77,Tryz.ntmps77
 go_wp2_with fail
 go_loopw [5,6,9] (fun v5 v6 v9 wr=>∃ k:Nat,v9=.int .i64 k∧k≤L∧Hid (zj3 n l 0 L=zj3 n l k (L - k))∧wr=w) (fun _ _ v9 _=>L - (zal v9).toNat)
 case atStart=>exact ⟨0,rfl,Nat.zero_le _,hid rfl,rfl⟩
 case round =>
  obtain ⟨k,rfl,hk,HS,rfl⟩:=hrel;by_cases hkl:k<L
  ·obtain ⟨b,off,rfl,hc⟩:=Hlat.out k hkl;have hgo:zj2 n l k=0→zj3 n l 0 L=zj3 n l (k+1) (L - (k+1)):=fun e=>by
    have:=zj5 (n:=n) (l:=l) (k:=k) (by rw [HLl.out];exact hkl) e;rw [HLl.out] at this;exact HS.out.trans this
   have hst:zj2 n l k ≠ 0→zj3 n l 0 L=zj2 n l k:=fun e=>by
    have:=zj6 (n:=n) (l:=l) (k:=k) (by rw [HLl.out];exact hkl) e;rw [HLl.out] at this;exact HS.out.trans this
   have hun:zj2 n l k=if (l[k]?).getD 0<0∨(n:Int)≤(l[k]?).getD 0 then 3 else if 0<k∧(l[k]?).getD 0≤(l[k - 1]?).getD 0 then 6 else 0:=rfl;have hpv:=fun (h0:0<k)=>Hlat.out (k - 1) (by omega);generalize (l[k]?).getD 0=x at *;generalize (l[k - 1]?).getD 0=y at *;have hk0:(0:Int)≤(k:Int):=(by omega);have hk1:(k:Int)<(L:Int):=(by omega);have Hgo:=hid hgo;have Hst:=hid hst;have Hun:=hid hun;have Hpv:=hid hpv;clear hgo hst hun hpv;by_cases hx0:x<0
   ·have hec:zj3 n l 0 L=3:=by
     have hs:zj2 n l k=3:=(by rw [Hun.out,if_pos (.inl hx0)]);exact (Hst.out (by rw [hs];decide)).trans hs
    have Hec:=hid hec;clear hec;rcases Nat.eq_zero_or_pos k with hk00 | hk00
    ·subst hk00;rw [Nat.add_zero] at hc;go_wp2_with fail
     go_ret
     exact ⟨by rw [Hec.out];rfl,rfl⟩
    ·go_wp2_with fail
     go_ret
     exact ⟨by rw [Hec.out];rfl,rfl⟩
   ·by_cases hxn:(n:Int)≤x
    ·have hec:zj3 n l 0 L=3:=by
      have hs:zj2 n l k=3:=(by rw [Hun.out,if_pos (.inr hxn)]);exact (Hst.out (by rw [hs];decide)).trans hs
     have Hec:=hid hec;clear hec;rcases Nat.eq_zero_or_pos k with hk00 | hk00
     ·subst hk00;rw [Nat.add_zero] at hc;go_wp2_with fail
      go_ret
      exact ⟨by rw [Hec.out];rfl,rfl⟩
     ·go_wp2_with fail
      go_ret
      exact ⟨by rw [Hec.out];rfl,rfl⟩
    ·rcases Nat.eq_zero_or_pos k with hk00 | hk00
     ·subst hk00;rw [Nat.add_zero] at hc;have hs:zj2 n l 0=0:=(by rw [Hun.out,if_neg (by omega),if_neg (by omega)]);have Hnx:=hid (Hgo.out hs);clear hs;go_wp2_with fail
      go_roundw
      case rel=>exact ⟨1,by go_num,by omega,Hnx,trivial⟩
      case measure=>simp [zal];omega
     ·obtain ⟨j,rfl⟩:∃ j,k=j+1:=⟨k - 1,by omega⟩;obtain ⟨b',off',e',hc'⟩:=Hpv.out hk00
      cases e'
      rw [Nat.add_sub_cancel] at hc';have hwj:IntKind.i64.wrap (((j+1:Nat):Int) - 1)=(j:Int):=(by rw [show (((j+1:Nat):Int) - 1)=(j:Int) by omega];exact IntWalk.i64_in _ (by omega));have hwj2:IntKind.i64.wrap (j:Int)=(j:Int):=IntWalk.i64_in _ (by omega);have hj0:(0:Int)≤(j:Int):=(by omega);have hj1:(j:Int)<(L:Int):=(by omega);have hjc:((j+1:Nat):Int)=(j:Int)+1:=(by omega);have hjp:(0:Int)<(j:Int)+1:=(by omega);by_cases hxy:x≤y
      ·have hec:zj3 n l 0 L=6:=by
        have hs:zj2 n l (j+1)=6:=(by rw [Hun.out,if_neg (by omega),if_pos ⟨hk00,hxy⟩]);exact (Hst.out (by rw [hs];decide)).trans hs
       have Hec:=hid hec;clear hec;go_wp2_with fail
       go_ret
       exact ⟨by rw [Hec.out];rfl,rfl⟩
      ·have hs:zj2 n l (j+1)=0:=(by rw [Hun.out,if_neg (by omega),if_neg (fun g=>hxy g.2)]);have Hnx:=hid (Hgo.out hs);clear hs;go_wp2_with fail
       go_roundw
       case rel=>exact ⟨j+1+1,by go_num,by omega,Hnx,trivial⟩
       case measure=>simp [zal];omega
  ·obtain rfl:k=L:=by omega
   have hec:zj3 n l 0 k=0:=(by rw [HS.out,Nat.sub_self];rfl);have Hec:=hid hec;clear hec;go_wp2_with fail
   go_ret
   exact ⟨by rw [Hec.out];rfl,rfl⟩
def znq (n:Nat)(m P:Int)(M:List Int):Int:=if m<1∨(n:Int)<m then 3 else if P<1∨6<P then 12 else zj3 n M 0 M.length
def orE (ce z:Int):Int:=if ce ≠ 0 then ce else z
theorem znr (z:Int):orE 0 z=z:=by unfold orE;rw [if_neg (fun h=>h rfl)]
theorem zns {ce:Int}(z:Int)(h:ce ≠ 0):orE ce z=ce:=by unfold orE;rw [if_pos h]
theorem znt (v:Value)(p:List Int)(rs:List Qw)(m P:Int)(M:List Int)(b:Bool)(ce:Int)(w:World)(hv:QyV w v p rs m P M b)(hM:M.length≤1000000)
  (hck:∀ W sv,Ext w W→ScV W sv p rs→Calls Tryz.prog 34 #[sv] W fun e w'=>e=.returned (.int .i64 ce)∧Ext W w') :
  Calls Tryz.prog 30 #[v] w fun e w'=>e=.returned (.int .i64 (orE ce (znq rs.length m P M)))∧Ext w w':=by
 obtain ⟨ap,cp,an,cn,am,cm,rfl,hs,hm⟩:=hv.let;have hE0:Ext w (w.alloc (.cells #[.slice ap p.length cp,.slice an rs.length cn,.int .i64 m,.int .i64 P,.slice am M.length cm,.bool b] 59)):=(Ext.refl w).alloc _;have hb:=zno.new w (.slice ap p.length cp) (.slice an rs.length cn) m P (.slice am M.length cm) b;have hc1:=hck _ _ hE0 (hs.ext hE0);have hnt:=fun W (hE:Ext w W)=>znp (.slice am M.length cm) M rs.length W (hE.sl hm) hM;have hq:znq rs.length m P M=if m<1∨(rs.length:Int)<m then 3 else if P<1∨6<P then 12 else zj3 rs.length M 0 M.length:=rfl;generalize zj3 rs.length M 0 M.length=E at *;have Hc1:=hid hc1;have Hnt:=hid hnt;have HE0:=hid hE0;have Hb:=hid hb;have Hq:=hid hq;clear hs hm hc1 hnt hE0 hb hq hck hv;generalize znq rs.length m P M=Z at *;generalize rs.length=n at *;generalize M.length=L at *;go_enter Tryz.func30,Tryz.ntmps30
 obtain ⟨q0,q1,_,_,_,_⟩:=Hb.out.cs;go_wp2_with fail
 refine Hc1.out.mono ?_;rintro e w1 ⟨rfl,hx1⟩;obtain ⟨q0,q1,q2,q3,q4,_⟩:=(Hb.out.ext hx1).cs;have Hx1:=hid (HE0.out.trans hx1);clear hx1;by_cases hce:ce=0
 ·subst hce;by_cases h1:m<1
  ·go_wp2_with fail
   go_ret
   exact ⟨by rw [znr,Hq.out,if_pos (.inl h1)];rfl,Hx1.out⟩
  ·by_cases h2:(n:Int)<m
   ·go_wp2_with fail
    go_ret
    exact ⟨by rw [znr,Hq.out,if_pos (.inr h2)];rfl,Hx1.out⟩
   ·by_cases h3:P<1
    ·go_wp2_with fail
     go_ret
     exact ⟨by rw [znr,Hq.out,if_neg (by omega),if_pos (.inl h3)];rfl,Hx1.out⟩
    ·by_cases h4:6<P
     ·go_wp2_with fail
      go_ret
      exact ⟨by rw [znr,Hq.out,if_neg (by omega),if_pos (.inr h4)];rfl,Hx1.out⟩
     ·go_wp2_with fail
      refine (Hnt.out _ Hx1.out).mono ?_;rintro e w2 ⟨rfl,rfl⟩;go_wp2_with fail
      go_ret
      exact ⟨by rw [znr,Hq.out,if_neg (by omega),if_neg (by omega)];rfl,Hx1.out⟩
 ·have hce1:(ce == 0)=false:=by simpa using hce
  have hce2:(ce != 0)=true:=by simpa using hce
  have Hce:=hid hce;clear hce;go_wp2_with fail
  go_ret
  exact ⟨by rw [zns _ Hce.out];rfl,Hx1.out⟩
end
section
def pas : Nat→Nat→Nat
 | _,0=>1
 | 0,_+1=>0
 | n+1,k+1=>pas n k+pas n (k+1)
theorem znu (n:Nat):pas n 0=1:=by cases n <;> rfl
theorem znv : ∀ {n k:Nat},n<k→pas n k=0
 | n,0,h=>by omega
 | 0,k+1,_=>rfl
 | n+1,k+1,h=>by rw [pas,znv (n:=n) (k:=k) (by omega),znv (n:=n) (k:=k+1) (by omega)]
theorem znw (n:Nat):∀ (f k:Nat),(cmb n k f).length=pas f k
 | f,0=>by rw [zjr,znu];rfl
 | 0,k+1=>rfl
 | f+1,k+1=>by rw [cmb,List.length_append,List.length_map,znw n f k,znw n f (k+1),pas]
def znx (n:Nat):Prop:=∀ k:Nat,k≤n→((k:Int)+1) * (pas n (k+1):Int)=(pas n k:Int) * ((n:Int) - k)
def zny (n:Nat):Prop:=∀ k:Nat,k≤n+1→(pas (n+1) k:Int) * ((n:Int)+1 - k)=((n:Int)+1) * (pas n k:Int)
theorem znz {n:Nat}(h:znx n):zny n:=fun k hk=>by
 cases k with
 | zero=>rw [znu,znu];omega
 | succ k =>
  have e:(pas (n+1) (k+1):Int)=(pas n k:Int)+(pas n (k+1):Int):=by rw [pas];omega
  have e2:(n:Int)+1 - ((k+1:Nat):Int)=(n:Int) - k:=by omega
  rcases Nat.lt_or_ge n k with g | g
  ·omega
  ·have h1:=h k g
   rw [e,e2,Int.add_mul,← h1]
   generalize (pas n (k+1):Int)=x
   grind
theorem zn0 {n:Nat}(ha:znx n)(hb:zny n):znx (n+1):=fun k hk=>by
 have h2:=hb k hk;rcases Nat.lt_or_ge n k with g | g
 ·obtain rfl:k=n+1:=by omega
  have e:pas (n+1) (n+1+1)=0:=znv (by omega);rw [e,Int.sub_self];simp
 ·have h1:=ha k g;have e:(pas (n+1) (k+1):Int)=(pas n k:Int)+(pas n (k+1):Int):=by rw [pas];omega
  have e2:((n+1:Nat):Int) - (k:Int)=(n:Int)+1 - k:=by omega
  rw [e,e2,h2,Int.mul_add,h1];generalize (pas n k:Int)=x;grind
theorem zn1 (n:Nat):znx n∧zny n:=by
 induction n with
 | zero =>
  have h:znx 0:=fun k hk=>by
   obtain rfl:k=0:=by omega
   rfl
  exact ⟨h,znz h⟩
 | succ n ih =>
  have h:=zn0 ih.1 ih.2
  exact ⟨h,znz h⟩
def zn2 (n:Int):Nat→Int
 | 0=>1
 | i+1=>zn2 n i * (n - (i:Int)) / ((i:Int)+1)
theorem zn3 (n:Nat):∀ k:Nat,k≤n→zn2 (n:Int) k=(pas n k:Int)
 | 0,_=>by rw [znu];rfl
 | k+1,h=>by
  rw [zn2,zn3 n k (by omega),← (zn1 n).1 k (by omega)];exact Int.mul_ediv_cancel_left _ (by omega)
theorem zn4 : ∀ n:Nat,n<61→∀ k:Nat,k<n+1→0≤zn2 (n:Int) k∧zn2 (n:Int) k≤1000000000000000000:=by decide +kernel
theorem zn5 : ∀ n:Nat,n<13→∀ k:Nat,k<n+1→zn2 (n:Int) k≤5000:=by decide +kernel
end
section
open Go.RowKit Go.Lib Go.Shelf
attribute [local go_sem] Oper.semAt_some
theorem zn6 : I 0=⟨#[48]⟩:=by decide +kernel
theorem zn7 : I 1=⟨#[49]⟩:=by decide +kernel
theorem zn8 {z:Int}(h0:-100000000000000000000≤z)(h1:z≤100000000000000000000):Fit z :=
 Nat.le_trans (Dec.nDigits_le (k:=21) (by omega) (show z.natAbs<1000000000000000000000 by omega)) (by omega)
def zn9 (n:Nat)(m:Int)(L:Nat):Int:=if m - (L:Int)<0 then 0 else zn2 (((n - L:Nat):Int)) (m - (L:Int)).toNat
theorem znA {n L:Nat}{m:Int}(hn:n≤60)(hm:m≤n)(hL:L≤n):0≤zn9 n m L∧zn9 n m L≤1000000000000000000:=by
 unfold zn9;split
 ·omega
 ·exact zn4 (n - L) (by omega) _ (by omega)
theorem znB (v:Value)(p:List Int)(rs:List Qw)(m P:Int)(M:List Int)(b:Bool)(w:World)(he:Env w)(hv:QyV w v p rs m P M b)(hn:rs.length≤60)(hm0:0≤m)(hm:m≤rs.length)(hM:M.length≤rs.length) :
  Calls Tryz.prog 61 #[v] w fun e w'=>e=.returned (.string (I (zn9 rs.length m M.length)))∧Ext w w':=by
 obtain ⟨ap,cp,an,cn,am,cm,rfl,hs,hmm⟩:=hv.let;have hE0:Ext w (w.alloc (.cells #[.slice ap p.length cp,.slice an rs.length cn,.int .i64 m,.int .i64 P,.slice am M.length cm,.bool b] 59)):=(Ext.refl w).alloc _;have hb:=zno.new w (.slice ap p.length cp) (.slice an rs.length cn) m P (.slice am M.length cm) b;have hof:=fun (z:Int)(h0:-1000≤z)(h1:z≤1000) W (hE:Ext w W)=>zaQ z (by omega) (by omega) W (he.ext hE);have hmu:=fun (x y:Int)(h0:0≤x)(h1:x≤1000000000000000000)(g0:-1000≤y)(g1:y≤1000) W (hE:Ext w W)=>zbZ x y W (he.ext hE) (zn8 (by omega) (by omega)) (zn8 (by omega) (by omega));have hdm:=fun (x y:Int)(h0:0≤x)(h1:x≤100000000000000000000)(g0:0<y)(g1:y≤1000) W (hE:Ext w W)=>zd1 x y W (he.ext hE) (by omega) (zn8 (by omega) (by omega)) (zn8 (by omega) (by omega));have hcd:zn9 rs.length m M.length=if m - (M.length:Int)<0 then 0 else zn2 (((rs.length - M.length:Nat):Int)) (m - (M.length:Int)).toNat:=rfl;have Hof:=hid hof;have Hmu:=hid hmu;have Hdm:=hid hdm;have HE0:=hid hE0;have Hb:=hid hb;have Hcd:=hid hcd;clear hs hmm hof hmu hdm hE0 hb hcd hv he;generalize zn9 rs.length m M.length=Z at *;generalize rs.length=n at *;generalize M.length=L at *;obtain ⟨N,hN⟩:∃ N,N=n - L:=⟨_,rfl⟩;have hw1:IntKind.i64.wrap ((n:Int) - (L:Int))=(N:Int):=by rw [IntWalk.i64_in _ (by omega)];omega
 have hw2:IntKind.i64.wrap (m - (L:Int))=m - (L:Int):=IntWalk.i64_in _ (by omega);have Hw1:=hid hw1;have Hw2:=hid hw2;have HN:=hid hN;clear hw1 hw2;go_enter Tryz.func61,Tryz.ntmps61
 obtain ⟨q0,q1,q2,q3,q4,_⟩:=Hb.out.cs;go_wp2_with fail
 go_quiet (fail)
 by_cases hneg:m - (L:Int)<0
 ·go_wp2_with fail
  go_ret
  exact ⟨by rw [Hcd.out,if_pos hneg,zn6] <;> rfl,HE0.out.drewN _⟩
 ·obtain ⟨K,hK⟩:∃ K:Nat,(K:Int)=m - (L:Int):=⟨(m - (L:Int)).toNat,by omega⟩;have hcd2:Z=zn2 (N:Int) K:=by rw [Hcd.out,if_neg hneg,← HN.out,← hK,Int.toNat_natCast]
  have Hcd2:=hid hcd2;have hKN:K≤N:=by omega
  have hN60:N≤60:=by omega
  have hKm:m - (L:Int)=(K:Int):=hK.symm;have hbd:∀ i:Nat,i<K+1→0≤zn2 (N:Int) i∧zn2 (N:Int) i≤1000000000000000000:=fun i hi=>zn4 N (by omega) i (by omega);have hst:∀ i:Nat,zn2 (N:Int) (i+1)=zn2 (N:Int) i * ((N:Int) - (i:Int)) / ((i:Int)+1):=fun i=>rfl;have h01:zn2 (N:Int) 0=1:=rfl;have Hbd:=hid hbd;have Hst:=hid hst;have H01:=hid h01;have hNL:(n:Int) - (L:Int)=(N:Int):=by omega
  rw [hKm,hNL];clear hNL hcd2 hneg hm0 hm hM hn hK hKm hN q0 q1 q2 q3 q4 hbd hst h01;have hk0:¬ (K:Int)<0:=by omega
  go_wp2_with fail
  go_loopw [5,6,24] (fun v5 v6 v24 wr=>∃ i:Nat,v24=.int .i64 (i:Int)∧i≤K∧v5=.string (I (zn2 (N:Int) i))∧Hid (Ext w wr)) (fun _ _ v24 _=>K - (zal v24).toNat)
  case atStart=>exact ⟨0,rfl,Nat.zero_le _,by rw [H01.out,zn7],hid (HE0.out.drewN _)⟩
  case round =>
   obtain ⟨i,rfl,hi,rfl,HE⟩:=hrel;by_cases hik:i<K
   ·have hbi:=Hbd.out i (by omega);have hsi:=Hst.out i;have hw3:IntKind.i64.wrap ((N:Int) - (i:Int))=(N:Int) - (i:Int):=IntWalk.i64_in _ (by omega);have ho1:=Hof.out ((N:Int) - (i:Int)) (by omega) (by omega) wr HE.out;have ho2:=Hof.out ((i:Int)+1) (by omega) (by omega);have hm1:=Hmu.out (zn2 (N:Int) i) ((N:Int) - (i:Int)) hbi.1 hbi.2 (by omega) (by omega);have hpr:0≤zn2 (N:Int) i * ((N:Int) - (i:Int))∧zn2 (N:Int) i * ((N:Int) - (i:Int))≤100000000000000000000:=by
     refine ⟨Int.mul_nonneg hbi.1 (by omega),?_⟩;have h1:=Int.mul_le_mul_of_nonneg_left (show (N:Int) - (i:Int)≤60 by omega) hbi.1;omega
    have hd1:=Hdm.out (zn2 (N:Int) i * ((N:Int) - (i:Int))) ((i:Int)+1) hpr.1 hpr.2 (by omega) (by omega);have hfd:fdv (zn2 (N:Int) i * ((N:Int) - (i:Int))) ((i:Int)+1)=zn2 (N:Int) (i+1):=(by unfold fdv;rw [if_pos (by omega),hsi]);rw [hfd] at hd1;generalize hz2:zn2 (N:Int) (i+1)=z2 at *;have Hz2:=hid hz2;clear hz2;generalize fmd (zn2 (N:Int) i * ((N:Int) - (i:Int))) ((i:Int)+1)=r2 at *;generalize zn2 (N:Int) i * ((N:Int) - (i:Int))=z1 at *;generalize zn2 (N:Int) i=z0 at *;have Ho1:=hid ho1;have Ho2:=hid ho2;have Hm1:=hid hm1;have Hd1:=hid hd1;have hi0:(0:Int)≤(i:Int):=(by omega);have hi1:(i:Int)<(K:Int):=(by omega);clear hbi hsi ho1 ho2 hm1 hpr hd1 hfd;go_wp2_with fail
    refine Ho1.out.mono ?_;rintro e w1 ⟨rfl,hx1⟩;have HE1:=hid (HE.out.trans hx1);clear hx1;go_wp2_with fail
    refine (Hm1.out _ HE1.out).mono ?_;rintro e w2 ⟨rfl,hx2⟩;have HE2:=hid (HE1.out.trans hx2);clear hx2;go_wp2_with fail
    refine (Ho2.out _ HE2.out).mono ?_;rintro e w3 ⟨rfl,hx3⟩;have HE3:=hid (HE2.out.trans hx3);clear hx3;go_wp2_with fail
    refine (Hd1.out _ HE3.out).mono ?_;rintro e w4 ⟨rfl,hx4⟩;have HE4:=hid (HE3.out.trans hx4);clear hx4;go_wp2_with fail
    go_roundw
    case rel=>exact ⟨i+1,by go_num,by omega,by rw [Hz2.out],HE4⟩
    case measure=>simp [zal];omega
   ·obtain rfl:i=K:=by omega
    have hi1:¬ (i:Int)<(i:Int):=(by omega);go_wp2_with fail
    go_ret
    exact ⟨by rw [Hcd2.out] <;> rfl,HE.out⟩
theorem znC (v:Value)(p:List Int)(rs:List Qw)(m P:Int)(M:List Int)(b:Bool)(w:World)(he:Env w)(hv:QyV w v p rs m P M b)(hn:rs.length≤60)(hm0:0≤m)(hm:m≤rs.length)(hM:M.length≤rs.length) :
  Calls Tryz.prog 114 #[v] w fun e w'=>e=.returned (.bool (decide (zn9 rs.length m M.length≤5000)))∧Ext w w':=by
 have hca:=fun W u (hE:Ext w W)(hu:QyV W u p rs m P M b)=>znB u p rs m P M b W (he.ext hE) hu hn hm0 hm hM;have hof:=fun W (hE:Ext w W)=>zaQ 5000 (by omega) (by omega) W (he.ext hE);have hcb:=znA hn hm hM;have hcm:=fun W=>zbU (zn9 rs.length m M.length) 5000 W (zn8 (by omega) (by omega)) (zn8 (by omega) (by omega));obtain ⟨ap,cp,an,cn,am,cm,rfl,hs,hmm⟩:=hv.let;have hE0:Ext w (w.alloc (.cells #[.slice ap p.length cp,.slice an rs.length cn,.int .i64 m,.int .i64 P,.slice am M.length cm,.bool b] 59)):=(Ext.refl w).alloc _;have hb:=zno.new w (.slice ap p.length cp) (.slice an rs.length cn) m P (.slice am M.length cm) b;have hc:=hca _ _ hE0 (hv.ext hE0);have Hc:=hid hc;have Hof:=hid hof;have Hcm:=hid hcm;have HE0:=hid hE0;have Hb:=hid hb;clear hca hof hcm hs hmm hE0 hb hc hv he hcb hM hm hm0 hn;generalize zn9 rs.length m M.length=Z at *;generalize rs.length=n at *;generalize M.length=L at *;obtain ⟨q0,q1,q2,q3,q4,q5⟩:=Hb.out.cs;by_cases hz:Z≤5000
 ·have hdz:=decide_eq_true hz;have hcz:zbj Z 5000≤0:=by unfold zbj;split <;> (try split) <;> omega
  have Hdz:=hid hdz;generalize hcc:zbj Z 5000=C at *;clear hdz hz hcc;go_enter Tryz.func114,Tryz.ntmps114
  go_wp2_with fail
  refine Hc.out.mono ?_;rintro e w1 ⟨rfl,hx1⟩;have HE1:=hid (HE0.out.trans hx1);clear hx1 q0 q1 q2 q3 q4 q5;go_wp2_with fail
  refine (Hof.out _ HE1.out).mono ?_;rintro e w2 ⟨rfl,hx2⟩;have HE2:=hid (HE1.out.trans hx2);clear hx2;go_wp2_with fail
  refine (Hcm.out _).mono ?_;rintro e w3 ⟨rfl,hx3⟩;have HE3:=hid (HE2.out.trans hx3);clear hx3;go_wp2_with fail
  go_ret
  exact ⟨by rw [Hdz.out] <;> simp_all,HE3.out⟩
 ·have hdz:=decide_eq_false hz;have hcz:¬ zbj Z 5000≤0:=by unfold zbj;rw [if_neg (by omega),if_neg (by omega)];omega
  have Hdz:=hid hdz;generalize hcc:zbj Z 5000=C at *;clear hdz hz hcc;go_enter Tryz.func114,Tryz.ntmps114
  go_wp2_with fail
  refine Hc.out.mono ?_;rintro e w1 ⟨rfl,hx1⟩;have HE1:=hid (HE0.out.trans hx1);clear hx1 q0 q1 q2 q3 q4 q5;go_wp2_with fail
  refine (Hof.out _ HE1.out).mono ?_;rintro e w2 ⟨rfl,hx2⟩;have HE2:=hid (HE1.out.trans hx2);clear hx2;go_wp2_with fail
  refine (Hcm.out _).mono ?_;rintro e w3 ⟨rfl,hx3⟩;have HE3:=hid (HE2.out.trans hx3);clear hx3;go_wp2_with fail
  go_ret
  exact ⟨by rw [Hdz.out] <;> simp_all,HE3.out⟩
theorem znD : (rcs (ov 1)).toArray=#[.string ⟨#[49]⟩,.string ⟨#[49]⟩,.string ⟨#[48]⟩,.string ⟨#[49]⟩]:=by
 have h:rcs (ov 1)=[.string (I 1),.string (I 1),.string (I 0),.string (I 1)]:=rfl;rw [h,zn7,zn6]
theorem znE (W:World)(k:Nat)(hk:W.heap.size=k):Sl ((W.alloc (.cells #[.int .i64 2,.int .i64 3] 3)).alloc (.cells #[.string ⟨#[49]⟩,.string ⟨#[49]⟩,.string ⟨#[48]⟩,.string ⟨#[49]⟩] 65)) (.slice (some ⟨k,0,none⟩) 2 2) (zap [2,3]) ∧
  Rd ((W.alloc (.cells #[.int .i64 2,.int .i64 3] 3)).alloc (.cells #[.string ⟨#[49]⟩,.string ⟨#[49]⟩,.string ⟨#[48]⟩,.string ⟨#[49]⟩] 65)) (.slice (some ⟨k+1,0,none⟩) 2 2) (ov 1):=by
 subst hk;refine ⟨((Ext.refl _).alloc _).sl (zhn (us:=[.int .i64 2,.int .i64 3]) (World.alloc_heap_new W _) (by unfold maxLen;simp)),?_⟩;have h:=World.alloc_heap_new (W.alloc (.cells #[.int .i64 2,.int .i64 3] 3)) (.cells #[.string ⟨#[49]⟩,.string ⟨#[49]⟩,.string ⟨#[48]⟩,.string ⟨#[49]⟩] 65);rw [World.size_alloc] at h;exact zho (x:=ov 1) (by rw [znD];exact h) (by unfold maxLen;decide)
theorem znF (w:World)(he:Env w) :
  Calls Tryz.prog 56 #[] w fun e w'=>∃ v rs,e=.returned v∧ScO w' w.heap.size v [2,3] rs∧rs.map Qw.x=eqN 12∧Ext w w':=by
 have heq:=fun W vp vb (hE:Ext w W)(hp:Sl W vp (zap [2,3]))(hb:Rd W vb (ov 1))=>znj vp vb 12 W (he.ext hE) hp hb (by omega) (by omega);have Heq:=hid heq;clear heq he;go_enter Tryz.func56,Tryz.ntmps56
 go_wp2_with fail
 have hE3:Ext w (((w.alloc (.cells #[.slice none 0 0,.slice none 0 0] 28)).alloc (.cells #[.string ⟨#[48]⟩,.string ⟨#[49]⟩] 65)).alloc (.cells #[.string ⟨#[49]⟩,.string ⟨#[49]⟩] 65)):=(((Ext.refl w).alloc _).alloc _).alloc _;have hb0:=(((zjl.new 28 w (.slice none 0 0) (.slice none 0 0)).ext ((Ext.refl _).alloc (.cells #[.string ⟨#[48]⟩,.string ⟨#[49]⟩] 65))).ext ((Ext.refl _).alloc (.cells #[.string ⟨#[49]⟩,.string ⟨#[49]⟩] 65)));generalize hW3:((w.alloc (.cells #[.slice none 0 0,.slice none 0 0] 28)).alloc (.cells #[.string ⟨#[48]⟩,.string ⟨#[49]⟩] 65)).alloc (.cells #[.string ⟨#[49]⟩,.string ⟨#[49]⟩] 65)=W3 at *;have hz3:W3.heap.size=w.heap.size+1+1+1:=by rw [← hW3,World.size_alloc,World.size_alloc,World.size_alloc]
 obtain ⟨hp,hb⟩:=znE W3 _ hz3;have hE5:=(hE3.alloc (.cells #[.int .i64 2,.int .i64 3] 3)).alloc (.cells #[.string ⟨#[49]⟩,.string ⟨#[49]⟩,.string ⟨#[48]⟩,.string ⟨#[49]⟩] 65);have hb5:=(hb0.ext ((Ext.refl _).alloc (.cells #[.int .i64 2,.int .i64 3] 3))).ext ((Ext.refl _).alloc (.cells #[.string ⟨#[49]⟩,.string ⟨#[49]⟩,.string ⟨#[48]⟩,.string ⟨#[49]⟩] 65));refine (Heq.out _ _ _ hE5 hp hb).mono ?_;have Hb5:=hid hb5;have HE5:=hid hE5;clear hE5 hb5 hp hb hE3 hb0 hz3 hW3;rintro e w1 ⟨v,rs,rfl,hso,hm,hx1⟩;obtain ⟨vp,vn,rfl,hop,hqn⟩:=hso;obtain ⟨a1,c1,rfl⟩:=zfi hop;obtain ⟨a2,c2,rfl⟩:=zfi hqn.1;have hlo:=HE5.out.size;have hop2:=zam hop hlo;have hqn2:=hqn.mono hlo hlo;have hx2:=(Ext.refl w1).alloc (.cells #[.slice a1 2 c1,.slice a2 rs.length c2] 28);have hbn:=zjl.new 28 w1 (.slice a1 2 c1) (.slice a2 rs.length c2);have n0:=hbn.c0;have n1:=hbn.c1;have hbr:=(Hb5.out.ext hx1).ext hx2;have hK:K0 28 w (w1.alloc (.cells #[.slice a1 2 c1,.slice a2 rs.length c2] 28)) w.heap.size:=⟨(HE5.out.trans hx1).trans hx2,_,_,hbr⟩;have k0:=hK.res.c0;have k1:=hK.res.c1;have z0:=hK.res.fz 0;have z1:=hK.res.fz 1;have hfin:=hK.fin (by omega) (.slice a1 2 c1) (.slice a2 rs.length c2);have hq4:=((hx2.qwM hqn2).set hbr 0 (.slice a1 2 c1)).set (zjl.put0 hbr (.slice a1 2 c1)) 1 (.slice a2 rs.length c2);have ho4:=zga (zjl.put0 hbr (.slice a1 2 c1)) (zga hbr (hx2.own hop2) (by decide) 0 (.slice a1 2 c1)) (by decide) 1 (.slice a2 rs.length c2);have Hfin:=hid hfin;have Hq4:=hid hq4;have Ho4:=hid ho4;have Hm:=hid hm;clear hfin hq4 ho4 hm hK hbr hop hqn hop2 hqn2 hx1 hx2 hbn;go_wp2_with fail
 obtain ⟨hb5,hx5⟩:=Hfin.out;have hd0:=hb5.c0;have hd1:=hb5.c1;exact bodyPost_ret (v:=.agg #[.slice a1 2 c1,.slice a2 rs.length c2]) (by simp [results,Tryz.results56,go_sem,hd0,hd1]) rfl ⟨_,rs,rfl,⟨_,_,rfl,Ho4.out,Hq4.out⟩,Hm.out,hx5⟩
theorem znG {w:World}{v:Value}{p:List Int}{rs:List Qw}(h:ScV w v p rs):∃ a c b d,v=.agg #[.slice a p.length c,.slice b rs.length d]∧ScV w (.agg #[.slice a p.length c,.slice b rs.length d]) p rs:=by
 obtain ⟨vp,vn,rfl,hp,hn⟩:=h;obtain ⟨a,c,rfl,_,_,_⟩:=hp.parts;obtain ⟨b,d,rfl,_,_,_⟩:=hn.1.parts;rw [zar] at *;rw [zfz] at *;exact ⟨a,c,b,d,rfl,_,_,rfl,hp,hn⟩
theorem znH (va vb:Value)(p q:List Int)(w:World)(ha:Sl w va (zap p))(hb:Sl w vb (zap q))(hp:p.length≤1000)(hq:q.length≤1000) :
  Calls Tryz.prog 145 #[va,vb] w fun e w'=>e=.returned (.bool (decide (p=q)))∧Ext w w':=by
 obtain ⟨aa,ca,rfl,_,_,hca⟩:=ha.parts;obtain ⟨ab,cb,rfl,_,_,hcb⟩:=hb.parts;rw [zar] at *;rw [zar] at *;have h1:∀ k x,p[k]?=some x→∃ b off,aa=some ⟨b,off,none⟩∧w.cell? ⟨b,off+k,none⟩=some (.int .i64 x):=fun k x h=>hca k _ (by unfold zap;rw [List.getElem?_map,h];rfl);have h2:∀ k x,q[k]?=some x→∃ b off,ab=some ⟨b,off,none⟩∧w.cell? ⟨b,off+k,none⟩=some (.int .i64 x):=fun k x h=>hcb k _ (by unfold zap;rw [List.getElem?_map,h];rfl);clear hca hcb ha hb;by_cases hl:p.length=q.length
 ·have Hl:=hid hl;rw [← hl];have hfin:(∀ i,i<p.length→p[i]?=q[i]?)→decide (p=q)=true:=fun h=>by
   rw [decide_eq_true_eq];apply List.ext_getElem?;intro i;rcases Nat.lt_or_ge i p.length with g | g
   ·exact h i g
   ·rw [List.getElem?_eq_none g,List.getElem?_eq_none (by omega)]
  have hbad:∀ (i:Nat)(x y:Int),p[i]?=some x→q[i]?=some y→x ≠ y→decide (p=q)=false:=fun i x y h1 h2 h3=>by
   rw [decide_eq_false_iff_not];rintro rfl;rw [h1] at h2;exact h3 (Option.some.inj h2)
  generalize hn:p.length=n at *;clear hl hq;have H1:=hid h1;have H2:=hid h2;have Hfin:=hid hfin;have Hbad:=hid hbad;have Hn:=hid hn;clear h1 h2 hfin hbad hn;go_enter Tryz.func145,Tryz.ntmps145
  go_wp2_with fail
  go_loopw [5,13] (fun v5 v13 wr=>∃ k:Nat,v13=.int .i64 k∧k≤n∧Hid (∀ i,i<k→p[i]?=q[i]?)∧Hid (Ext w wr)) (fun _ v13 _=>n - (zal v13).toNat)
  case atStart=>exact ⟨0,rfl,Nat.zero_le _,hid (fun i h=>by omega),hid (Ext.refl _)⟩
  case round =>
   obtain ⟨k,rfl,hk,Hall,HE⟩:=hrel;by_cases hkn:k<n
   ·obtain ⟨x,hx⟩:∃ x,p[k]?=some x:=⟨_,List.getElem?_eq_getElem (by rw [Hn.out];exact hkn)⟩;obtain ⟨y,hy⟩:∃ y,q[k]?=some y:=⟨_,List.getElem?_eq_getElem (by rw [← Hl.out];exact hkn)⟩;obtain ⟨ba,oa,rfl,c0⟩:=H1.out k x hx;obtain ⟨bb,ob,rfl,c1⟩:=H2.out k y hy;have c0:=HE.out.cell c0;have c1:=HE.out.cell c1;have hk0:(0:Int)≤(k:Int):=(by omega);have hk1:(k:Int)<(n:Int):=(by omega);by_cases hxy:x=y
    ·subst hxy;have Hnx:Hid (∀ i,i<k+1→p[i]?=q[i]?):=hid (fun i hi=>by
      rcases Nat.lt_or_ge i k with g | g
      ·exact Hall.out i g
      ·rw [show i=k by omega,hx,hy])
     clear hx hy;go_wp2_with fail
     go_quiet (fail)
     go_wp2_with fail
     go_roundw
     case rel=>exact ⟨k+1,by go_num,by omega,Hnx,hid (HE.out.drewN _)⟩
     case measure=>simp [zal];omega
    ·have hb1:=Hbad.out k x y hx hy hxy;have hxb:(x == y)=false:=beq_eq_false_iff_ne.2 hxy;have Hb1:=hid hb1;clear hb1 hx hy;go_wp2_with fail
     go_quiet (fail)
     go_wp2
     go_ret
     exact ⟨by rw [Hb1.out];rfl,HE.out.drewN _⟩
   ·obtain rfl:n=k:=by omega
    have Hf:=hid (Hfin.out Hall.out);go_wp2
    go_ret
    exact ⟨by rw [Hf.out];rfl,HE.out⟩
 ·have hne:decide (p=q)=false:=by
   rw [decide_eq_false_iff_not];rintro rfl;exact hl rfl
  rw [hne];have hl2:¬ (p.length:Int)=(q.length:Int):=by omega
  clear h1 h2 hne;generalize p.length=n at *;generalize q.length=m at *;go_enter Tryz.func145,Tryz.ntmps145
  go_wp2
  go_ret
  exact ⟨rfl,Ext.refl _⟩
theorem znI (va vb:Value)(rs ts:List Qw)(w:World)(ha:RdM w va rs)(hb:RdM w vb ts)(hr:rs.length≤1000)(_ht:ts.length≤1000)(hr2:∀ r∈rs,r.x.length≤1000)(ht2:∀ r∈ts,r.x.length≤1000) :
  Calls Tryz.prog 146 #[va,vb,.func (.func 15) #[] #[]] w fun e w'=>e=.returned (.bool (decide (rs.map Qw.x=ts.map Qw.x)))∧Ext w w':=by
 have heq:=fun (r s:Qw)(h:r∈rs)(k:s∈ts) W (hE:Ext w W)=>zja r.u s.u r.x s.x W (hE.rd (ha.2 r h)) (hE.rd (hb.2 s k)) (hr2 r h) (ht2 s k);obtain ⟨aa,ca,rfl,_,_,hca⟩:=ha.1.parts;obtain ⟨ab,cb,rfl,_,_,hcb⟩:=hb.1.parts;rw [zfz] at *;rw [zfz] at *;have h1:∀ k r,rs[k]?=some r→∃ b off,aa=some ⟨b,off,none⟩∧w.cell? ⟨b,off+k,none⟩=some r.u:=fun k x h=>hca k _ (by unfold qwc;rw [List.getElem?_map,h];rfl);have h2:∀ k r,ts[k]?=some r→∃ b off,ab=some ⟨b,off,none⟩∧w.cell? ⟨b,off+k,none⟩=some r.u:=fun k x h=>hcb k _ (by unfold qwc;rw [List.getElem?_map,h];rfl);clear hca hcb ha hb hr2 ht2;by_cases hl:rs.length=ts.length
 ·have Hl:=hid hl;rw [← hl];have hfin:(∀ i,i<rs.length→(rs.map Qw.x)[i]?=(ts.map Qw.x)[i]?)→decide (rs.map Qw.x=ts.map Qw.x)=true:=fun h=>by
   rw [decide_eq_true_eq];apply List.ext_getElem?;intro i;rcases Nat.lt_or_ge i rs.length with g | g
   ·exact h i g
   ·rw [List.getElem?_eq_none (by rw [List.length_map];exact g),List.getElem?_eq_none (by rw [List.length_map];omega)]
  have hbad:∀ (i:Nat)(r s:Qw),rs[i]?=some r→ts[i]?=some s→r.x ≠ s.x→decide (rs.map Qw.x=ts.map Qw.x)=false:=fun i r s h1 h2 h3=>by
   rw [decide_eq_false_iff_not];intro e;have:=congrArg (fun l=>l[i]?) e;simp only [List.getElem?_map,h1,h2,Option.map_some,Option.some.injEq] at this;exact h3 this
  generalize hn:rs.length=n at *;clear hl _ht;have H1:=hid h1;have H2:=hid h2;have Hfin:=hid hfin;have Hbad:=hid hbad;have Hn:=hid hn;have Heq:=hid heq;clear h1 h2 hfin hbad hn heq;go_enter Tryz.func146,Tryz.ntmps146
  go_wp2_with fail
  go_loopw [7,8,9,17] (fun v7 v8 v9 v17 wr=>∃ k:Nat,v17=.int .i64 k∧k≤n∧Hid (∀ i,i<k→(rs.map Qw.x)[i]?=(ts.map Qw.x)[i]?)∧Hid (Ext w wr)) (fun _ _ _ v17 _=>n - (zal v17).toNat)
  case atStart=>exact ⟨0,rfl,Nat.zero_le _,hid (fun i h=>by omega),hid (Ext.refl _)⟩
  case round =>
   obtain ⟨k,rfl,hk,Hall,HE⟩:=hrel;by_cases hkn:k<n
   ·obtain ⟨r,hx⟩:∃ x,rs[k]?=some x:=⟨_,List.getElem?_eq_getElem (by rw [Hn.out];exact hkn)⟩;obtain ⟨s,hy⟩:∃ y,ts[k]?=some y:=⟨_,List.getElem?_eq_getElem (by rw [← Hl.out];exact hkn)⟩;obtain ⟨ba,oa,rfl,c0⟩:=H1.out k r hx;obtain ⟨bb,ob,rfl,c1⟩:=H2.out k s hy;have c0:=HE.out.cell c0;have c1:=HE.out.cell c1;have hk0:(0:Int)≤(k:Int):=(by omega);have hk1:(k:Int)<(n:Int):=(by omega);have hq:=Heq.out r s (List.mem_of_getElem? hx) (List.mem_of_getElem? hy) wr HE.out;by_cases hxy:r.x=s.x
    ·have Hnx:Hid (∀ i,i<k+1→(rs.map Qw.x)[i]?=(ts.map Qw.x)[i]?):=hid (fun i hi=>by
      rcases Nat.lt_or_ge i k with g | g
      ·exact Hall.out i g
      ·rw [show i=k by omega,List.getElem?_map,List.getElem?_map,hx,hy,Option.map_some,Option.map_some,hxy])
     rw [decide_eq_true hxy] at hq;have Hq:=hid hq;clear hx hy hq hxy;generalize r.u=ur at *;generalize s.u=us at *;go_wp2_with fail
     refine Hq.out.mono ?_;rintro e w2 ⟨rfl,hx2⟩;have HE2:=hid (HE.out.trans hx2);clear hx2;go_wp2_with fail
     go_roundw
     case rel=>exact ⟨k+1,by go_num,by omega,Hnx,HE2⟩
     case measure=>simp [zal];omega
    ·have hb1:=Hbad.out k r s hx hy hxy;rw [decide_eq_false hxy] at hq;have Hb1:=hid hb1;have Hq:=hid hq;clear hb1 hx hy hq hxy;generalize r.u=ur at *;generalize s.u=us at *;go_wp2_with fail
     refine Hq.out.mono ?_;rintro e w2 ⟨rfl,hx2⟩;have HE2:=hid (HE.out.trans hx2);clear hx2;go_wp2
     go_ret
     exact ⟨by rw [Hb1.out];rfl,HE2.out⟩
   ·obtain rfl:n=k:=by omega
    have Hf:=hid (Hfin.out Hall.out);go_wp2
    go_ret
    exact ⟨by rw [Hf.out];rfl,HE.out⟩
 ·have hne:decide (rs.map Qw.x=ts.map Qw.x)=false:=by
   rw [decide_eq_false_iff_not];intro e;have:=congrArg List.length e;rw [List.length_map,List.length_map] at this;exact hl this
  rw [hne];have hl2:¬ (rs.length:Int)=(ts.length:Int):=by omega
  clear h1 h2 hne heq;generalize rs.length=n at *;generalize ts.length=m at *;go_enter Tryz.func146,Tryz.ntmps146
  go_wp2
  go_ret
  exact ⟨rfl,Ext.refl _⟩
theorem znJ (v1 v2:Value)(p q:List Int)(rs ts:List Qw)(w:World)(h1:ScV w v1 p rs)(h2:ScV w v2 q ts)(hp:p.length≤1000)(hq:q.length≤1000)(hr:rs.length≤1000)(ht:ts.length≤1000)(hr2:∀ r∈rs,r.x.length≤1000)(ht2:∀ r∈ts,r.x.length≤1000) :
  Calls Tryz.prog 178 #[v1,v2] w fun e w'=>e=.returned (.bool (decide (p=q) && decide (rs.map Qw.x=ts.map Qw.x)))∧Ext w w':=by
 obtain ⟨vp,vn,rfl,hp1,hn1⟩:=h1;obtain ⟨vq,vm,rfl,hq1,hm1⟩:=h2;have he1:=fun W (hE:Ext w W)=>znH vp vq p q W (hE.sl hp1) (hE.sl hq1) hp hq;have he2:=fun W (hE:Ext w W)=>znI vn vm rs ts W (hE.rdM hn1) (hE.rdM hm1) hr ht hr2 ht2;obtain ⟨ap,cp,rfl,_,_,_⟩:=hp1.parts;obtain ⟨aq,cq,rfl,_,_,_⟩:=hq1.parts;obtain ⟨an,cn,rfl,_,_,_⟩:=hn1.1.parts;obtain ⟨am,cm,rfl,_,_,_⟩:=hm1.1.parts;generalize (zap p).length=lp at *;generalize (zap q).length=lq at *;generalize (qwc rs).length=ln at *;generalize (qwc ts).length=lm at *;generalize decide (p=q)=b1 at *;generalize decide (rs.map Qw.x=ts.map Qw.x)=b2 at *;have hE0:Ext w ((w.alloc (.cells #[.slice ap lp cp,.slice an ln cn] 28)).alloc (.cells #[.slice aq lq cq,.slice am lm cm] 28)):=((Ext.refl w).alloc _).alloc _;have k1:=(zjl.new 28 w (.slice ap lp cp) (.slice an ln cn)).ext ((Ext.refl _).alloc (.cells #[.slice aq lq cq,.slice am lm cm] 28));have k2:=zjl.new 28 (w.alloc (.cells #[.slice ap lp cp,.slice an ln cn] 28)) (.slice aq lq cq) (.slice am lm cm);rw [World.size_alloc] at k2;have q0:=k1.c0;have q2:=k2.c0;have He1:=hid he1;have He2:=hid he2;have HE0:=hid hE0;have K1:=hid k1;have K2':=hid k2;clear hp1 hq1 hn1 hm1 he1 he2 hE0 k1 k2 hr2 ht2
 cases b1
 ·go_enter Tryz.func178,Tryz.ntmps178
  go_wp2_with fail
  refine (He1.out _ HE0.out).mono ?_;rintro e w1 ⟨rfl,hx1⟩;have Hx1:=hid (HE0.out.trans hx1);clear hx1;go_wp2
  go_ret
  exact ⟨rfl,Hx1.out⟩
 ·go_enter Tryz.func178,Tryz.ntmps178
  go_wp2_with fail
  refine (He1.out _ HE0.out).mono ?_;rintro e w1 ⟨rfl,hx1⟩;have q1:=(K1.out.ext hx1).c1;have q3:=(K2'.out.ext hx1).c1;have Hx1:=hid (HE0.out.trans hx1);clear hx1 q0 q2;go_wp2_with fail
  refine (He2.out _ Hx1.out).mono ?_;rintro e w2 ⟨rfl,hx2⟩;have Hx2:=hid (Hx1.out.trans hx2);clear hx2 q1 q3;go_wp2
  go_ret
  exact ⟨rfl,Hx2.out⟩
theorem znK {w:World}{B:Nat}{v:Value}{p:List Int}{N:List (List Rat)}{ls:List Lq}(h:LqM w B B v ls)(hx:lqx ls=zmh p N){d:Nat}(hd:d≤N.length) :
  ∃ l a c,ls[d]?=some l∧l.u=.slice a (cls p N (d:Int)).length c∧QwM w B B (.slice a (cls p N (d:Int)).length c) l.rs∧l.rs.map Qw.x=cls p N (d:Int):=by
 have h1:(zmh p N)[d]?=some (cls p N (d:Int)):=by
  unfold zmh;rw [List.getElem?_map,List.getElem?_range (by omega)];rfl
 rw [← hx] at h1;unfold lqx at h1;rw [List.getElem?_map] at h1;obtain ⟨l,hl,e⟩:=Option.map_eq_some_iff.1 h1;have hq:=h.2 l (List.mem_of_getElem? hl);obtain ⟨a,c,hu⟩:=zfi hq.1;have hlen:l.rs.length=(cls p N (d:Int)).length:=by rw [← e,List.length_map]
 rw [hlen] at hu;rw [hu] at hq;exact ⟨l,a,c,hl,hu,hq,e⟩
end
end Go.Proofs.YtebabancfnmfjaaGreatDoor
