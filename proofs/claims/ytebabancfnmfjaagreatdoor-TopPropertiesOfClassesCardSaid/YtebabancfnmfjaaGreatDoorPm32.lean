/- Walks: subset: the tests of properties, has, Holds. Walks: subset: has, Holds. Walks: subset.subsets: what it makes. What a search of subsets has found, in memory. A list of lists of ints that a call made, in memory. Plain: how many candidates there are: by the program's way of reckoning, and how many lists there are. An append of a slice, nil or not, to a row that the call owns, as one step of a region that draws. Walks: law 31's primes of a world. Walks: schismaref06.EqualRows, law 38's sameInts. Walk: law 38's holds. -/
import Derived.Test.YtebabancfnmfjaaGreatDoorPm29
import Derived.Test.YtebabancfnmfjaaGreatDoorPm15
import Derived.Test.YtebabancfnmfjaaGreatDoorPm31
import Derived.Test.YtebabancfnmfjaaGreatDoorPm30
import Derived.Test.YtebabancfnmfjaaGreatDoorPm23
import Derived.Test.YtebabancfnmfjaaGreatDoorPm07
import Derived.Laws.OwnMore
import Derived.Deep.RegionLaw
import Derived.Deep.AppendLies
import Derived.Test.YtebabancfnmfjaaGreatDoorPm27
import Derived.Test.YtebabancfnmfjaaGreatDoorPm28
set_option maxRecDepth 100000
set_option maxHeartbeats 2000000
namespace Go.Proofs.YtebabancfnmfjaaGreatDoor
section
open Go.RowKit Go.Lib Go.Shelf
attribute [local go_sem] Oper.semAt_some
theorem znT {w:World}{B:Nat}{c:Value}{a b:Int}{x y:List Rat}(h:zm9 w B c a b x y):∃ j1 j2 a1 n1 c1 a2 n2 c2,c=.agg #[.int .i64 j1,.int .i64 j2,.slice a1 n1 c1,.slice a2 n2 c2]:=by
 obtain ⟨u1,u2,rfl,h1,h2⟩:=h;obtain ⟨a1,c1,rfl⟩:=zfj h1;obtain ⟨a2,c2,rfl⟩:=zfj h2;exact ⟨_,_,_,_,_,_,_,_,rfl⟩
theorem znU : ∃ j1 j2 a1 n1 c1 a2 n2 c2,zmA=.agg #[.int .i64 j1,.int .i64 j2,.slice a1 n1 c1,.slice a2 n2 c2]:=⟨_,_,_,_,_,_,_,_,rfl⟩
def znV (W0:World)(g:Nat)(lb:Array Value)(P:Int):Prop :=
 ∀ W v p rs,Ext W0 W→Env W→ScV W v p rs→(2≤P→P≤6→Wc p (rs.map Qw.x))→Calls Tryz.prog g (#[v]++lb) W fun e w'=>e=.returned (.tuple #[.bool (tst P p (rs.map Qw.x)),.int .i64 0])∧Ext W w'
theorem znV.ext {W0 W1:World}{g:Nat}{lb:Array Value}{P:Int}(h:znV W0 g lb P)(hx:Ext W0 W1):znV W1 g lb P:=fun W v p rs hE he hs hw=>h W v p rs (hx.trans hE) he hs hw
theorem znW (b:Nat)(k:Int)(v:Value)(p:List Int)(rs:List Qw)(w:World)(he:Env w)(hb:w.cell? ⟨b,0,none⟩=some (.int .i64 k))(hs:ScV w v p rs)(h:Wc p (rs.map Qw.x)) :
  Calls Tryz.prog 108 #[v,.pointer (some ⟨b,0,none⟩)] w fun e w'=>e=.returned (.tuple #[.bool (decide (kd p (rs.map Qw.x)=k)),.int .i64 0])∧Ext w w':=by
 have hkc:=fun W sv (hE:Ext w W)(hs:ScV W sv p rs)=>znJ sv p rs W (he.ext hE) hs h;obtain ⟨ap,cp,an,cn,rfl,hs⟩:=zif hs;have hE0:Ext w (w.alloc (.cells #[.slice ap p.length cp,.slice an rs.length cn] 28)):=(Ext.refl w).alloc _;have hb1:=zic.new 28 w (.slice ap p.length cp) (.slice an rs.length cn);have hc:=hkc _ _ hE0 (hs.ext hE0);have q0:=hb1.c0;have q1:=hb1.c1;have Hc:=hid hc;have HE0:=hid hE0;have Hb:=hid hb;clear hkc hs hE0 hb1 hc he h hb;generalize kd p (rs.map Qw.x)=K at *;go_enter Tryz.func108,Tryz.ntmps108
 go_wp2_with fail
 refine Hc.out.mono ?_;rintro e w1 ⟨rfl,hx1⟩;have hb2:=(HE0.out.trans hx1).cell Hb.out;have Hx1:=hid (HE0.out.trans hx1);clear hx1 q0 q1;by_cases hk:K=k
 ·have hk2:(K == k)=true:=by simpa using hk
  have Hk:=hid (decide_eq_true hk);clear hk;go_wp2_with fail
  go_ret2
  exact ⟨by rw [Hk.out] <;> rfl,Hx1.out⟩
 ·have hk2:(K == k)=false:=by simpa using hk
  have Hk:=hid (decide_eq_false hk);clear hk;go_wp2_with fail
  go_ret2
  exact ⟨by rw [Hk.out] <;> rfl,Hx1.out⟩
theorem znX (b f:Nat)(is:Bool)(v:Value)(p:List Int)(rs:List Qw)(w:World)(hb:w.cell? ⟨b,0,none⟩=some (.func (.func f) #[] #[]))(hs:ScV w v p rs)
  (eg:∀ args w,(callFunc f args).run Tryz.prog w=.ok (.enter f args) w)
  (hf:∀ W sv,Ext w W→ScV W sv p rs→Calls Tryz.prog f #[sv] W fun e w'=>(∃ j1 j2 a1 n1 c1 a2 n2 c2,e=.returned (.tuple #[.agg #[.int .i64 j1,.int .i64 j2,.slice a1 n1 c1,.slice a2 n2 c2],.bool is,.int .i64 0]))∧Ext W w') :
  Calls Tryz.prog 110 #[v,.pointer (some ⟨b,0,none⟩)] w fun e w'=>e=.returned (.tuple #[.bool is,.int .i64 0])∧Ext w w':=by
 obtain ⟨ap,cp,an,cn,rfl,hs⟩:=zif hs;have hE0:Ext w (w.alloc (.cells #[.slice ap p.length cp,.slice an rs.length cn] 28)):=(Ext.refl w).alloc _;have hb1:=zic.new 28 w (.slice ap p.length cp) (.slice an rs.length cn);have hc:=hf _ _ hE0 (hs.ext hE0);have q0:=hb1.c0;have q1:=hb1.c1;have q2:=hE0.cell hb;have Hc:=hid hc;have HE0:=hid hE0;clear hf hs hE0 hb1 hc hb;go_enter Tryz.func110,Tryz.ntmps110
 go_wp2_with fail
 refine Hc.out.mono ?_;rintro e w1 ⟨⟨j1,j2,a1,n1,c1,a2,n2,c2,rfl⟩,hx1⟩;have Hx1:=hid ((HE0.out.trans hx1).alloc (.cells #[.int .i64 j1,.int .i64 j2,.slice a1 n1 c1,.slice a2 n2 c2] 43));clear hx1 q0 q1 q2;go_wp2_with fail
 go_ret2
 exact ⟨rfl,Hx1.out⟩
theorem znY (v:Value)(p:List Int)(rs:List Qw)(w:World)(hs:ScV w v p rs) :
  Calls Tryz.prog 113 #[v] w fun e w'=>e=.returned (.tuple #[.bool true,.int .i64 0])∧Ext w w':=by
 obtain ⟨ap,cp,an,cn,rfl,hs⟩:=zif hs;have HE0:=hid ((Ext.refl w).alloc (.cells #[.slice ap p.length cp,.slice an rs.length cn] 28));clear hs;go_enter Tryz.func113,Tryz.ntmps113
 go_wp2_with fail
 go_ret2
 exact ⟨rfl,HE0.out⟩
theorem znZ (k:Int)(w:World):Calls Tryz.prog 107 #[.int .i64 k] w fun e w'=>e=.returned (.func (.func 108) #[] #[.pointer (some ⟨w.heap.size,0,none⟩)])∧w'=w.alloc (.cells #[.int .i64 k] 3):=by
 go_enter Tryz.func107,Tryz.ntmps107
 go_wp2_with fail
 go_ret
 exact ⟨rfl,rfl⟩
theorem zoa (f:Nat)(w:World):Calls Tryz.prog 109 #[.func (.func f) #[] #[]] w fun e w'=>e=.returned (.func (.func 110) #[] #[.pointer (some ⟨w.heap.size,0,none⟩)])∧w'=w.alloc (.cells #[.func (.func f) #[] #[]] 45):=by
 go_enter Tryz.func109,Tryz.ntmps109
 go_wp2_with fail
 go_ret
 exact ⟨rfl,rfl⟩
theorem zob {p:List Int}{N:List (List Rat)}:tst 4 p N=decide (Pro p N):=rfl
theorem zoc {p:List Int}{N:List (List Rat)}:tst 5 p N=decide (Str p N):=rfl
theorem zod {p:List Int}{N:List (List Rat)}:tst 6 p N=decide (Cst p N):=rfl
theorem zoe {b:Bool}{q:Prop}[Decidable q](h:b=true ↔ q):b=decide q:=by
 rw [Bool.eq_iff_iff,h,decide_eq_true_iff]
theorem zof (w:World)(v:Value)(T:TypeId):(w.alloc (.cells #[v] T)).cell? ⟨w.heap.size,0,none⟩=some v:=by
 unfold World.cell?;dsimp only;rw [World.alloc_heap_new];rfl
theorem zog (w:World)(k P:Int)(hP:(P=2∧k=1)∨(P=3∧k=2)):znV (w.alloc (.cells #[.int .i64 k] 3)) 108 #[.pointer (some ⟨w.heap.size,0,none⟩)] P:=fun W v p rs hE he hs hw=>by
 have:=znW w.heap.size k v p rs W he (hE.cell (zof w _ _)) hs (hw (by omega) (by omega));rcases hP with ⟨rfl,rfl⟩ | ⟨rfl,rfl⟩ <;> exact this
theorem zoh (w:World)(T:TypeId):znV (w.alloc (.cells #[.func (.func 11) #[] #[]] T)) 110 #[.pointer (some ⟨w.heap.size,0,none⟩)] 4:=fun W v p rs hE he hs hw=>by
 have hc:=hw (by omega) (by omega);refine znX w.heap.size 11 (tst 4 p (rs.map Qw.x)) v p rs W (hE.cell (zof w _ _)) hs (fun _ _=>rfl) fun W2 sv hE2 hs2=>(znM sv p rs W2 (he.ext hE2) hs2 hc).mono fun e w' ⟨⟨c,is,hr,ho⟩,hx⟩=>?_;have e1:is=tst 4 p (rs.map Qw.x):=by rw [zob];exact zoe (ho.is.trans hc.pro_iff.symm)
 subst hr e1;refine ⟨?_,hx⟩;rcases ho with ⟨_,e,_⟩ | ⟨_,d,x,y,_,hv⟩
 ·obtain ⟨j1,j2,a1,n1,c1,a2,n2,c2,h⟩:=znU;exact ⟨j1,j2,a1,n1,c1,a2,n2,c2,by rw [e,h]⟩
 ·obtain ⟨j1,j2,a1,n1,c1,a2,n2,c2,h⟩:=znT hv;exact ⟨j1,j2,a1,n1,c1,a2,n2,c2,by rw [h]⟩
theorem zoi (w:World)(T:TypeId):znV (w.alloc (.cells #[.func (.func 111) #[] #[]] T)) 110 #[.pointer (some ⟨w.heap.size,0,none⟩)] 5:=fun W v p rs hE he hs hw=>by
 have hc:=hw (by omega) (by omega);refine znX w.heap.size 111 (tst 5 p (rs.map Qw.x)) v p rs W (hE.cell (zof w _ _)) hs (fun _ _=>rfl) fun W2 sv hE2 hs2=>(znN sv p rs W2 (he.ext hE2) hs2 hc).mono fun e w' ⟨⟨c,is,hr,ho⟩,hx⟩=>?_;have e1:is=tst 5 p (rs.map Qw.x):=by rw [zoc];exact zoe (ho.is.trans hc.str_iff2.symm)
 subst hr e1;refine ⟨?_,hx⟩;rcases ho with ⟨_,e,_⟩ | ⟨_,d,x,y,_,hv⟩
 ·obtain ⟨j1,j2,a1,n1,c1,a2,n2,c2,h⟩:=znU;exact ⟨j1,j2,a1,n1,c1,a2,n2,c2,by rw [e,h]⟩
 ·obtain ⟨j1,j2,a1,n1,c1,a2,n2,c2,h⟩:=znT hv;exact ⟨j1,j2,a1,n1,c1,a2,n2,c2,by rw [h]⟩
theorem zoj (w:World)(T:TypeId):znV (w.alloc (.cells #[.func (.func 112) #[] #[]] T)) 110 #[.pointer (some ⟨w.heap.size,0,none⟩)] 6:=fun W v p rs hE he hs hw=>by
 have hc:=hw (by omega) (by omega);refine znX w.heap.size 112 (tst 6 p (rs.map Qw.x)) v p rs W (hE.cell (zof w _ _)) hs (fun _ _=>rfl) fun W2 sv hE2 hs2=>(znS sv p rs W2 (he.ext hE2) hs2 hc).mono fun e w' ⟨⟨c,is,hr,ho⟩,hx⟩=>?_;have e1:is=tst 6 p (rs.map Qw.x):=by rw [zod];exact zoe ho.is
 subst hr e1;refine ⟨?_,hx⟩;rcases ho with ⟨_,e,_⟩ | ⟨_,d,u,i,x,_,hv⟩
 ·obtain ⟨j1,j2,a1,n1,c1,a2,n2,c2,h⟩:=znU;exact ⟨j1,j2,a1,n1,c1,a2,n2,c2,by rw [e,h]⟩
 ·obtain ⟨j1,j2,a1,n1,c1,a2,n2,c2,h⟩:=znT hv;exact ⟨j1,j2,a1,n1,c1,a2,n2,c2,by rw [h]⟩
theorem zok (w:World)(P:Int)(h:P<2∨6<P):znV w 113 #[] P:=fun W v p rs _ _ hs _=>by
 have e:tst P p (rs.map Qw.x)=true:=by
  unfold tst;rw [if_neg (by omega),if_neg (by omega),if_neg (by omega),if_neg (by omega),if_neg (by omega)]
 rw [e];exact znY v p rs W hs
theorem zol (P:Int)(w:World) :
  Calls Tryz.prog 53 #[.int .i64 P] w fun e w'=>∃ g lb,e=.returned (.func (.func g) #[] lb)∧(∀ args w,(callFunc g args).run Tryz.prog w=.ok (.enter g args) w)∧znV w' g lb P∧Ext w w':=by
 by_cases h2:P=2
 ·subst h2;have hk:=zog w 1 2 (.inl ⟨rfl,rfl⟩);have Hk:=hid hk;clear hk;go_enter Tryz.func53,Tryz.ntmps53
  go_wp2_with fail
  refine (znZ _ _).mono ?_;rintro e w1 ⟨rfl,rfl⟩;go_wp2_with fail
  go_ret
  exact ⟨_,_,rfl,fun _ _=>rfl,Hk.out,(Ext.refl w).alloc _⟩
 ·by_cases h3:P=3
  ·subst h3;have hk:=zog w 2 3 (.inr ⟨rfl,rfl⟩);have Hk:=hid hk;clear hk h2;go_enter Tryz.func53,Tryz.ntmps53
   go_wp2_with fail
   refine (znZ _ _).mono ?_;rintro e w1 ⟨rfl,rfl⟩;go_wp2_with fail
   go_ret
   exact ⟨_,_,rfl,fun _ _=>rfl,Hk.out,(Ext.refl w).alloc _⟩
  ·by_cases h4:P=4
   ·subst h4;have hk:=zoh w 45;have Hk:=hid hk;clear hk h2 h3;go_enter Tryz.func53,Tryz.ntmps53
    go_wp2_with fail
    refine (zoa _ _).mono ?_;rintro e w1 ⟨rfl,rfl⟩;go_wp2_with fail
    go_ret
    exact ⟨_,_,rfl,fun _ _=>rfl,Hk.out,(Ext.refl w).alloc _⟩
   ·by_cases h5:P=5
    ·subst h5;have hk:=zoi w 45;have Hk:=hid hk;clear hk h2 h3 h4;go_enter Tryz.func53,Tryz.ntmps53
     go_wp2_with fail
     refine (zoa _ _).mono ?_;rintro e w1 ⟨rfl,rfl⟩;go_wp2_with fail
     go_ret
     exact ⟨_,_,rfl,fun _ _=>rfl,Hk.out,(Ext.refl w).alloc _⟩
    ·by_cases h6:P=6
     ·subst h6;have hk:=zoj w 45;have Hk:=hid hk;clear hk h2 h3 h4 h5;go_enter Tryz.func53,Tryz.ntmps53
      go_wp2_with fail
      refine (zoa _ _).mono ?_;rintro e w1 ⟨rfl,rfl⟩;go_wp2_with fail
      go_ret
      exact ⟨_,_,rfl,fun _ _=>rfl,Hk.out,(Ext.refl w).alloc _⟩
     ·have e2:(P == 2)=false:=(by simpa using h2);have e3:(P == 3)=false:=(by simpa using h3);have e4:(P == 4)=false:=(by simpa using h4);have e5:(P == 5)=false:=(by simpa using h5);have e6:(P == 6)=false:=(by simpa using h6);have hk:=zok w P (by omega);have Hk:=hid hk;clear hk h2 h3 h4 h5 h6;go_enter Tryz.func53,Tryz.ntmps53
      go_wp2_with fail
      go_ret
      exact ⟨_,_,rfl,fun _ _=>rfl,Hk.out,Ext.refl w⟩
theorem zom (v vl:Value)(p:List Int)(rs:List Qw)(m P:Int)(M:List Int)(b:Bool)(l:List Int)(w:World)(he:Env w)(hv:QyV w v p rs m P M b)(h:Wd p (rs.map Qw.x))(hvl:Sl w vl (zaq l))(hl60:l.length≤60)(hse:zkV rs.length l=0)
  (hw:2≤P→P≤6→Wc p (zlb p (rs.map Qw.x) l)) :
  Calls Tryz.prog 81 #[v,vl] w fun e w'=>e=.returned (.tuple #[.bool (tst P p (zlb p (rs.map Qw.x) l)),.int .i64 0])∧Ext w w':=by
 have hsb:=fun W sv (hE:Ext w W)(hs:ScV W sv p rs)=>znm sv vl p rs l W (he.ext hE) hs h (hE.sl hvl) hl60;obtain ⟨ap,cp,an,cn,am,cm,rfl,hs,hmm⟩:=hv.let;have hE0:Ext w (w.alloc (.cells #[.slice ap p.length cp,.slice an rs.length cn,.int .i64 m,.int .i64 P,.slice am M.length cm,.bool b] 59)):=(Ext.refl w).alloc _;have hb:=znn.new w (.slice ap p.length cp) (.slice an rs.length cn) m P (.slice am M.length cm) b;have hc:=(hsb _ _ hE0 (hs.ext hE0)).mono fun e w' ⟨u,he,_,h2,hx⟩=>(show ∃ u out,e=Ending.returned (.tuple #[u,.int .i64 0])∧ScO w' (w.alloc (.cells #[.slice ap p.length cp,.slice an rs.length cn,.int .i64 m,.int .i64 P,.slice am M.length cm,.bool b] 59)).heap.size u p out∧out.map Qw.x=zlb p (rs.map Qw.x) l∧Ext _ w' by
  obtain ⟨out,ho,hm⟩:=h2 hse;rw [hse] at he;exact ⟨u,out,he,ho,hm,hx⟩)
 obtain ⟨al,cl,rfl,_,_,_⟩:=hvl.parts;rw [zas] at *;have Hc:=hid hc;have HE0:=hid hE0;have Hb:=hid hb;have He:=hid he;have Hw:=hid hw;clear hsb hs hmm hE0 hb hc hv he hw hse hvl h hl60;generalize hN:zlb p (rs.map Qw.x) l=N at *;clear hN;generalize rs.length=n at *;generalize l.length=L at *;generalize M.length=ML at *;go_enter Tryz.func81,Tryz.ntmps81
 obtain ⟨q0,q1,_,_,_,_⟩:=Hb.out.cs;go_wp2_with fail
 refine Hc.out.mono ?_;rintro e w1 ⟨u,out,rfl,hso,hout,hx1⟩;obtain ⟨a2,c2,a3,c3,rfl,hs2⟩:=zif hso.scV;have hE1:=HE0.out.trans hx1;have hE2:=hE1.alloc (.cells #[.slice a2 p.length c2,.slice a3 out.length c3] 28);have hb2:=zic.new 28 w1 (.slice a2 p.length c2) (.slice a3 out.length c3);have hbq:=Hb.out.ext (hx1.alloc (.cells #[.slice a2 p.length c2,.slice a3 out.length c3] 28));have hs3:=hs2.ext ((Ext.refl w1).alloc (.cells #[.slice a2 p.length c2,.slice a3 out.length c3] 28));have Hout:=hid hout;clear hso hs2 hx1 q0 q1 hE1 hout;go_wp2_with fail
 generalize hW2:w1.alloc (.cells #[.slice a2 p.length c2,.slice a3 out.length c3] 28)=W2 at *;have hg0:=hb2.c0;have hg1:=hb2.c1;have hg3:=hbq.cs.2.2.2.1;have Hs3:=hid hs3;have HE2:=hid hE2;clear hs3 hE2 hb2 hbq hW2;go_region_held3 (fun w'=>Ext W2 w'∧w'.cell? ⟨w1.heap.size,0,none⟩=some (.slice a2 p.length c2)∧w'.cell? ⟨w1.heap.size,1,none⟩=some (.slice a3 out.length c3)∧w'.cell? ⟨w.heap.size,3,none⟩=some (.int .i64 P))
  (first | (with_reducible assumption) | exact ⟨(Ext.refl W2).drew,hg0,hg1,hg3⟩)
  (first
   | (go_at_call 53;refine (zol P _).mono ?_;rintro e9 VA ⟨g,lb,rfl,eg,htf,hxa⟩;have hEA:Ext W2 VA:=Ext.trans (And.left (by assumption)) hxa;have hS2:Ext W2 VA∧VA.cell? ⟨w1.heap.size,0,none⟩=some (.slice a2 p.length c2)∧VA.cell? ⟨w1.heap.size,1,none⟩=some (.slice a3 out.length c3)∧VA.cell? ⟨w.heap.size,3,none⟩=some (.int .i64 P):=⟨hEA,hEA.cell hg0,hEA.cell hg1,hEA.cell hg3⟩;have HEA:=hid hEA;have Htf:=hid htf;clear hxa hEA htf)
   | (refine (Htf.out _ _ p out (Ext.refl _) (He.out.ext (HE2.out.trans HEA.out)) (Hs3.out.ext HEA.out) (by rw [Hout.out];exact Hw.out)).mono ?_;rintro e9 VB ⟨rfl,hxa⟩;have hEB:Ext W2 VB:=HEA.out.trans hxa;have hS3:Ext W2 VB∧VB.cell? ⟨w1.heap.size,0,none⟩=some (.slice a2 p.length c2)∧VB.cell? ⟨w1.heap.size,1,none⟩=some (.slice a3 out.length c3)∧VB.cell? ⟨w.heap.size,3,none⟩=some (.int .i64 P):=⟨hEB,hEB.cell hg0,hEB.cell hg1,hEB.cell hg3⟩;have HEB:=hid hEB;clear hxa hEB))
 all_goals
  go_wp2_with fail
  go_ret2
  exact ⟨by rw [Hout.out] <;> rfl,HE2.out.trans HEB.out⟩
def zon (P:Int)(b:Bool):Value:=if P<1∨6<P then .tuple #[.bool false,.int .i64 12] else .tuple #[.bool b,.int .i64 0]
theorem zoo {P:Int}{b:Bool}(h:P<1∨6<P):zon P b=.tuple #[.bool false,.int .i64 12]:=by unfold zon;rw [if_pos h]
theorem zop {P:Int}{b:Bool}(h:¬ (P<1∨6<P)):zon P b=.tuple #[.bool b,.int .i64 0]:=by unfold zon;rw [if_neg h]
theorem zoq (v:Value)(p:List Int)(rs:List Qw)(P:Int)(w:World)(he:Env w)(hv:ScV w v p rs)(h:Wd p (rs.map Qw.x))(hw:2≤P→P≤6→Wc p (rs.map Qw.x)) :
  Calls Tryz.prog 16 #[v,.int .i64 P] w fun e w'=>e=.returned (zon P (tst P p (rs.map Qw.x)))∧Ext w w':=by
 have hck:=fun W sv (hE:Ext w W)(hs:ScV W sv p rs)=>ziz sv p rs W (he.ext hE) hs h.right;obtain ⟨ap,cp,an,cn,rfl,hs⟩:=zif hv;have hE0:Ext w (w.alloc (.cells #[.slice ap p.length cp,.slice an rs.length cn] 28)):=(Ext.refl w).alloc _;have hb1:=zic.new 28 w (.slice ap p.length cp) (.slice an rs.length cn);have hc:=hck _ _ hE0 (hs.ext hE0);have q0:=hb1.c0;have q1:=hb1.c1;have Hc:=hid hc;have HE0:=hid hE0;have Hb:=hid hb1;have He:=hid he;have Hw:=hid hw;have Hs:=hid hs;clear hck hs hE0 hb1 hc he h hw hv;generalize hN:rs.map Qw.x=N at *;have HN:=hid hN;clear hN;generalize hn:rs.length=n at *;clear hn;go_enter Tryz.func16,Tryz.ntmps16
 go_wp2_with fail
 refine Hc.out.mono ?_;rintro e w1 ⟨rfl,hx1⟩;have hg0:=(Hb.out.ext hx1).c0;have hg1:=(Hb.out.ext hx1).c1;have Hx1:=hid (HE0.out.trans hx1);clear hx1 q0 q1;by_cases h1:P<1
 ·go_wp2_with fail
  go_ret2
  exact ⟨by rw [zoo (.inl h1)] <;> rfl,Hx1.out⟩
 ·by_cases h6:6<P
  ·go_wp2_with fail
   go_ret2
   exact ⟨by rw [zoo (.inr h6)] <;> rfl,Hx1.out⟩
  ·have hno:¬ (P<1∨6<P):=(by omega);have Hno:=hid hno;clear hno;go_wp2_with fail
   go_region_held3 (fun w'=>Ext w1 w'∧w'.cell? ⟨w.heap.size,0,none⟩=some (.slice ap p.length cp)∧w'.cell? ⟨w.heap.size,1,none⟩=some (.slice an n cn))
    (first | (with_reducible assumption) | exact ⟨(Ext.refl w1).drew,hg0,hg1⟩)
    (first
     | (go_at_call 53;refine (zol P _).mono ?_;rintro e9 VA ⟨g,lb,rfl,eg,htf,hxa⟩;have hEA:Ext w1 VA:=Ext.trans (And.left (by assumption)) hxa;have hS2:Ext w1 VA∧VA.cell? ⟨w.heap.size,0,none⟩=some (.slice ap p.length cp)∧VA.cell? ⟨w.heap.size,1,none⟩=some (.slice an n cn):=⟨hEA,hEA.cell hg0,hEA.cell hg1⟩;have HEA:=hid hEA;have Htf:=hid htf;clear hxa hEA htf)
     | (refine (Htf.out _ _ p rs (Ext.refl _) (He.out.ext (Hx1.out.trans HEA.out)) (Hs.out.ext (Hx1.out.trans HEA.out)) (by rw [HN.out];exact Hw.out)).mono ?_;rintro e9 VB ⟨rfl,hxa⟩;have hEB:Ext w1 VB:=HEA.out.trans hxa;have hS3:Ext w1 VB∧VB.cell? ⟨w.heap.size,0,none⟩=some (.slice ap p.length cp)∧VB.cell? ⟨w.heap.size,1,none⟩=some (.slice an n cn):=⟨hEB,hEB.cell hg0,hEB.cell hg1⟩;have HEB:=hid hEB;clear hxa hEB))
   all_goals
    go_wp2_with fail
    go_ret2
    exact ⟨by rw [zop Hno.out,← HN.out] <;> rfl,Hx1.out.trans HEB.out⟩
theorem zor (vp vm:Value)(an:Option Addr)(n cn:Nat)(m P:Int)(b:Bool)(w:World) :
  Calls Tryz.prog 115 #[.agg #[vp,.slice an n cn,.int .i64 m,.int .i64 P,vm,.bool b]] w fun e w' =>
   e=.returned (.func (.func 174) #[] #[.pointer (some ⟨w.heap.size,0,none⟩),.pointer (some ⟨w.heap.size+1,0,none⟩)])∧w'.heap.size=w.heap.size+2∧znn w' w.heap.size vp (.slice an n cn) m P vm b∧Boxed w' (w.heap.size+1) 3 (.int .i64 (n:Int))∧Ext w w':=by
 have hb:=znn.new w vp (.slice an n cn) m P vm b;have hE:=(Ext.refl w).alloc (.cells #[vp,.slice an n cn,.int .i64 m,.int .i64 P,vm,.bool b] 59);have hE2:=(Ext.refl (w.alloc (.cells #[vp,.slice an n cn,.int .i64 m,.int .i64 P,vm,.bool b] 59))).alloc (.cells #[.int .i64 (n:Int)] 3);have hb2:=Boxed.new (w.alloc (.cells #[vp,.slice an n cn,.int .i64 m,.int .i64 P,vm,.bool b] 59)) 3 (.int .i64 (n:Int));have hs:((w.alloc (.cells #[vp,.slice an n cn,.int .i64 m,.int .i64 P,vm,.bool b] 59)).alloc (.cells #[.int .i64 (n:Int)] 3)).heap.size=w.heap.size+2:=by rw [World.size_alloc,World.size_alloc]
 rw [World.size_alloc] at hb2;have q1:=hb.cs.2.1;have Hall:=hid (And.intro hs (And.intro (hb.ext hE2) (And.intro hb2 (hE.trans hE2))));clear hb hE hE2 hb2 hs;go_enter Tryz.func115,Tryz.ntmps115
 go_wp2_with fail
 go_ret
 exact ⟨rfl,Hall.out⟩
end
section
open Go.RowKit Go.Lib Go.Shelf
theorem zos : (Tryz.prog.info? 24).map (fun i=>(i.zero,i.size,i.bytes))=some (some (.slice none 0 0),1,24):=by kernel_rfl
theorem zot : (Tryz.prog.info? 28).map (fun i=>(i.zero,i.size,i.bytes))=some (some (.agg #[.slice none 0 0,.slice none 0 0]),2,48):=by kernel_rfl
structure Fw where
 u:Value
 l:List Int
 vp:Value
 vn:Value
 rs:List Qw
def fwU (fs:List Fw):List Value:=fs.map Fw.u
def fwS (fs:List Fw):List Value:=fs.flatMap fun f=>[f.vp,f.vn]
theorem zou (fs:List Fw)(f:Fw):fwU (fs++[f])=fwU fs++[f.u]:=by unfold fwU;rw [List.map_append];rfl
theorem zov (fs:List Fw)(f:Fw):fwS (fs++[f])=fwS fs++[f.vp,f.vn]:=by unfold fwS;rw [List.flatMap_append];rfl
theorem zow (f:Fw)(fs:List Fw):fwS (f::fs)=f.vp::f.vn::fwS fs:=rfl
theorem zox : ∀ {fs:List Fw}{i:Nat}{f:Fw},fs[i]?=some f→(fwS fs)[i * 2]?=some f.vp∧(fwS fs)[i * 2+1]?=some f.vn
 | [],_,_,h=>by cases h
 | s::fs,0,f,h=>by
  cases h
  exact ⟨rfl,rfl⟩
 | s::fs,i+1,f,h=>by
  have:=zox (fs:=fs) (i:=i) (f:=f) (by simpa using h);rw [zow,show (i+1) * 2=i * 2+1+1 by omega];simpa using this
structure Fnd (W:World)(B:Nat)(p:List Int)(N:List (List Rat))(us vs:Value)(fs:List Fw):Prop where
 us:W.ownsRow B 24 1 us fs.length (fwU fs)
 vs:W.ownsRow B 28 2 vs fs.length (fwS fs)
 all:∀ f∈fs,zfi W B f.u f.l∧zfi W B f.vp p∧QwM W B B f.vn f.rs∧f.rs.map Qw.x=zlb p N f.l∧Wd p (zlb p N f.l)
theorem zoy {p:List Int}{N C:List (List Rat)}:∀ {fs:List Fw},(∀ f∈fs,f.rs.map Qw.x=zlb p N f.l)→((fs.map Fw.l).any fun a=>zmQ p (zlb p N a) C)=fs.any fun f=>zmQ p (f.rs.map Qw.x) C
 | [],_=>rfl
 | f::fs,h=>by
  rw [List.map_cons,List.any_cons,List.any_cons,h f (List.mem_cons_self ..),zoy fun g hg=>h g (List.mem_cons_of_mem _ hg)]
section
variable {W W' : World} {B : Nat} {p : List Int} {N : List (List Rat)} {us vs : Value} {fs : List Fw}
theorem Fnd.nil (W:World)(B:Nat)(p:List Int)(N:List (List Rat)):Fnd W B p N (.slice none 0 0) (.slice none 0 0) []:=⟨⟨rfl,.inl ⟨rfl,rfl⟩⟩,⟨rfl,.inl ⟨rfl,rfl⟩⟩,fun f hf=>by cases hf⟩
theorem Fnd.ext (h:Fnd W B p N us vs fs)(hx:Ext W W'):Fnd W' B p N us vs fs :=
 ⟨hx.own h.us,hx.own h.vs,fun f hf=>let ⟨a,b,c,d⟩:=h.all f hf;⟨hx.ownI a,hx.ownI b,hx.qwM c,d⟩⟩
theorem Fnd.mono {B':Nat}(h:Fnd W B p N us vs fs)(hB:B'≤B):Fnd W B' p N us vs fs :=
 ⟨zan h.us hB,zan h.vs hB,fun f hf=>let ⟨a,b,c,d⟩:=h.all f hf;⟨zan a hB,zan b hB,c.mono hB hB,d⟩⟩
theorem Fnd.grown {row:Option Nat}(h:Fnd W B p N us vs fs)(hg:W.grownBy W' row)(hr:∀ r,row=some r→r<B):Fnd W' B p N us vs fs:=by
 have key:∀ {E s n:Nat}{v:Value}{xs:List Value},W.ownsRow B E s v n xs→W'.ownsRow B E s v n xs:=fun {E s n v xs} k =>
  World.ownsRow.kept k hg (by
   cases hv:v.ownBlock with
   | none=>exact .inl rfl
   | some r=>exact .inr fun e=>by have:=(World.ownsRow.lt k r hv).1;have:=hr r e.symm;omega)
 exact ⟨key h.us,key h.vs,fun f hf=>let ⟨a,b,c,d⟩:=h.all f hf;⟨key a,key b,⟨key c.1,fun r hr=>key (c.2 r hr)⟩,d⟩⟩
end
structure Fn2 (W:World)(B:Nat)(p:List Int)(N:List (List Rat))(us vs:Value)(nu nv:Nat)(xu xv:List Value)(gs:List Fw):Prop where
 us:W.ownsRow B 24 1 us nu xu
 vs:W.ownsRow B 28 2 vs nv xv
 all:∀ f∈gs,zfi W B f.u f.l∧zfi W B f.vp p∧QwM W B B f.vn f.rs∧f.rs.map Qw.x=zlb p N f.l∧Wd p (zlb p N f.l)
section
variable {W W' : World} {B : Nat} {p : List Int} {N : List (List Rat)} {us vs : Value} {nu nv : Nat} {xu xv : List Value} {gs : List Fw}
theorem Fn2.ext (h:Fn2 W B p N us vs nu nv xu xv gs)(hx:Ext W W'):Fn2 W' B p N us vs nu nv xu xv gs :=
 ⟨hx.own h.us,hx.own h.vs,fun f hf=>let ⟨a,b,c,d⟩:=h.all f hf;⟨hx.ownI a,hx.ownI b,hx.qwM c,d⟩⟩
theorem Fn2.putU {us' u:Value}(h:Fn2 W B p N us vs nu nv xu xv gs)(hg:W.grownBy W' us.ownBlock)(ho:W'.ownsRow B 24 1 us' (nu+1) (xu++[u])):Fn2 W' B p N us' vs (nu+1) nv (xu++[u]) xv gs:=by
 have key:∀ {E s n:Nat}{v:Value}{xs:List Value},E ≠ 24→W.ownsRow B E s v n xs→W'.ownsRow B E s v n xs:=fun {E s n v xs} hE k=>World.ownsRow.kept k hg (zfm k h.us hE);exact ⟨ho,key (by decide) h.vs,fun f hf=>let ⟨a,b,c,d⟩:=h.all f hf;⟨key (by decide) a,key (by decide) b,⟨key (by decide) c.1,fun r hr=>key (by decide) (c.2 r hr)⟩,d⟩⟩
theorem Fn2.putV {vs' x y:Value}(h:Fn2 W B p N us vs nu nv xu xv gs)(hg:W.grownBy W' vs.ownBlock)(ho:W'.ownsRow B 28 2 vs' (nv+1) (xv++[x,y])):Fn2 W' B p N us vs' nu (nv+1) xu (xv++[x,y]) gs:=by
 have key:∀ {E s n:Nat}{v:Value}{xs:List Value},E ≠ 28→W.ownsRow B E s v n xs→W'.ownsRow B E s v n xs:=fun {E s n v xs} hE k=>World.ownsRow.kept k hg (zfm k h.vs hE);exact ⟨key (by decide) h.us,ho,fun f hf=>let ⟨a,b,c,d⟩:=h.all f hf;⟨key (by decide) a,key (by decide) b,⟨key (by decide) c.1,fun r hr=>key (by decide) (c.2 r hr)⟩,d⟩⟩
theorem Fnd.two {f:Fw}{fs:List Fw}(h:Fnd W B p N us vs fs)(hf:zfi W B f.u f.l∧zfi W B f.vp p∧QwM W B B f.vn f.rs∧f.rs.map Qw.x=zlb p N f.l∧Wd p (zlb p N f.l)):Fn2 W B p N us vs fs.length fs.length (fwU fs) (fwS fs) (fs++[f]) :=
 ⟨h.us,h.vs,fun g hg=>by
  rcases List.mem_append.1 hg with e | e
  ·exact h.all g e
  ·rw [List.mem_singleton] at e;subst e;exact hf⟩
theorem Fn2.done {f:Fw}{fs:List Fw}(h:Fn2 W B p N us vs (fs.length+1) (fs.length+1) (fwU fs++[f.u]) (fwS fs++[f.vp,f.vn]) (fs++[f])):Fnd W B p N us vs (fs++[f]) :=
 ⟨by rw [List.length_append,List.length_singleton,zou];exact h.us,by rw [List.length_append,List.length_singleton,zov];exact h.vs,h.all⟩
end
theorem zoz {p:List Int}{N:List (List Rat)}(h:Wd p N){l:List Int}(hse:zkV N.length l=0)(h60:l.length≤60):Wd p (zlb p N l):=by
 unfold zkV at hse;split at hse
 ·cases hse
 ·rename_i hne;have:=zkZ hse;exact zle h hne h60 this.1 this.2
def SrI (w:World)(B:Nat)(p:List Int)(N:List (List Rat))(vp vn vm:Value)(m P:Int)(b:Bool)(pre:List Iw)(W:World):Prop :=
 Ext w W∧znn W w.heap.size vp vn m P vm b∧Boxed W (w.heap.size+1+1+1) 31 (.int .i64 0) ∧
  ∃ us vs fs,Boxed W (w.heap.size+1) 55 us∧Boxed W (w.heap.size+1+1) 74 vs∧Fnd W B p N us vs fs∧fs.map Fw.l=srL P b p N (pre.map Iw.l)
theorem SrI.stays (w:World)(D:Nat)(p:List Int)(N:List (List Rat))(vp vn vm:Value)(m P:Int)(b:Bool)(hD:w.heap.size+4≤D):znu D (D+2+3) (SrI w (D+2+3) p N vp vn vm m P b):=by
 rintro pre A C row ⟨h1,h2,h3,us,vs,fs,h4,h5,h6,h7⟩ hg hr;have low:∀ {k:Nat}{o:Obj},k<D→A.heap[k]?=some o→C.heap[k]?=some o:=fun {k o} hk ho=>(hg.block k (Array.getElem?_eq_some_iff.1 ho).1 fun e=>by have:=hr k e.symm;omega).trans ho;refine ⟨h1.grown hg fun k e=>by have:=hr k e;omega,low (by omega) h2,low (by omega) h3,us,vs,fs,low (by omega) h4,low (by omega) h5,h6.grown hg fun r e=>by have:=hr r e;omega,h7⟩
def iwU (fs:List Iw):List Value:=fs.map Iw.u
theorem zo0 (fs:List Iw)(f:Iw):iwU (fs++[f])=iwU fs++[f.u]:=by unfold iwU;rw [List.map_append];rfl
structure LsI (W:World)(B:Nat)(v:Value)(fs:List Iw):Prop where
 row:W.ownsRow B 24 1 v fs.length (iwU fs)
 all:∀ f∈fs,zfi W B f.u f.l
section
variable {W W' : World} {B : Nat} {v : Value} {fs : List Iw}
theorem LsI.nil (W:World)(B:Nat):LsI W B (.slice none 0 0) []:=⟨⟨rfl,.inl ⟨rfl,rfl⟩⟩,fun f hf=>by cases hf⟩
theorem LsI.ext (h:LsI W B v fs)(hx:Ext W W'):LsI W' B v fs:=⟨hx.own h.row,fun f hf=>hx.ownI (h.all f hf)⟩
theorem LsI.less {B':Nat}(h:LsI W B v fs)(hB:B'≤B):LsI W B' v fs:=⟨zan h.row hB,fun f hf=>zan (h.all f hf) hB⟩
theorem LsI.kept {u:Value}{n:Nat}{xs:List Value}{D:Nat}(h:LsI W B v fs)(hu:W.ownsRow D 24 1 u n xs)(hg:W.grownBy W' u.ownBlock)(hv:∀ r,v.ownBlock=some r→r<D):LsI W' B v fs:=by
 refine ⟨World.ownsRow.kept h.row hg ?_,fun f hf=>World.ownsRow.kept (h.all f hf) hg (zfm (h.all f hf) hu (by decide))⟩
 cases e:v.ownBlock with
 | none=>exact .inl rfl
 | some r =>
  refine .inr fun e2=>?_
  have h1:=hv r e
  have h2:=(World.ownsRow.lt hu r e2.symm).1
  omega
theorem LsI.other {u:Value}{E s n:Nat}{xs:List Value}{D:Nat}(h:LsI W B v fs)(hu:W.ownsRow D E s u n xs)(hE:E ≠ 24)(hE2:E ≠ 3)(hg:W.grownBy W' u.ownBlock):LsI W' B v fs :=
 ⟨World.ownsRow.kept h.row hg (zfm h.row hu hE.symm),fun f hf=>World.ownsRow.kept (h.all f hf) hg (zfm (h.all f hf) hu hE2.symm)⟩
theorem LsI.put {v':Value}{f:Iw}(h:LsI W B v fs)(hf:zfi W B f.u f.l)(hg:W.grownBy W' v.ownBlock)(ho:W'.ownsRow B 24 1 v' (fs.length+1) (iwU fs++[f.u])):LsI W' B v' (fs++[f]):=by
 refine ⟨by rw [List.length_append,List.length_singleton,zo0];exact ho,fun g hg2=>?_⟩;have key:∀ {g:Iw},zfi W B g.u g.l→zfi W' B g.u g.l:=fun k=>World.ownsRow.kept k hg (zfm k h.row (by decide));rcases List.mem_append.1 hg2 with e | e
 ·exact key (h.all g e)
 ·rw [List.mem_singleton] at e;subst e;exact key hf
theorem LsI.lt (h:LsI W B v fs):∀ r,v.ownBlock=some r→B≤r∧r<W.heap.size:=fun r e=>World.ownsRow.lt h.row r e
theorem LsI.at' {a:Option Addr}{L c k:Nat}{f:Iw}(h:LsI W B (.slice a L c) fs)(hf:fs[k]?=some f) :
  ∃ g a2 c2,a=some ⟨g,0,none⟩∧W.cell? ⟨g,k,none⟩=some (.slice a2 f.l.length c2)∧f.u=.slice a2 f.l.length c2∧zfi W B (.slice a2 f.l.length c2) f.l:=by
 have hm:=h.all f (List.mem_of_getElem? hf);obtain ⟨a2,c2,e2⟩:=zfj hm;rcases h.row.2 with ⟨e,h0⟩ | ⟨g,cap,cur,e,_⟩
 ·have:=(List.getElem?_eq_some_iff.1 hf).1;omega
 ·injection e with e1 e3 e4;subst e1;have hc:=World.ownsRow.cells h.row (g:=g) rfl k f.u (by unfold iwU;rw [List.getElem?_map,hf];rfl);rw [Addr.add_lit,Nat.zero_add,e2] at hc;rw [e2] at hm;exact ⟨g,a2,c2,rfl,hc,e2,hm⟩
end
end
section
def pas : Nat→Nat→Nat
 | _,0=>1
 | 0,_+1=>0
 | n+1,k+1=>pas n k+pas n (k+1)
theorem zo1 (n:Nat):pas n 0=1:=by cases n <;> rfl
theorem zo2 : ∀ {n k:Nat},n<k→pas n k=0
 | n,0,h=>by omega
 | 0,k+1,_=>rfl
 | n+1,k+1,h=>by rw [pas,zo2 (n:=n) (k:=k) (by omega),zo2 (n:=n) (k:=k+1) (by omega)]
theorem zo3 (n:Nat):∀ (f k:Nat),(cmb n k f).length=pas f k
 | f,0=>by rw [zkI,zo1];rfl
 | 0,k+1=>rfl
 | f+1,k+1=>by rw [cmb,List.length_append,List.length_map,zo3 n f k,zo3 n f (k+1),pas]
def zo4 (n:Nat):Prop:=∀ k:Nat,k≤n→((k:Int)+1) * (pas n (k+1):Int)=(pas n k:Int) * ((n:Int) - k)
def zo5 (n:Nat):Prop:=∀ k:Nat,k≤n+1→(pas (n+1) k:Int) * ((n:Int)+1 - k)=((n:Int)+1) * (pas n k:Int)
theorem zo6 {n:Nat}(h:zo4 n):zo5 n:=fun k hk=>by
 cases k with
 | zero=>rw [zo1,zo1];omega
 | succ k =>
  have e:(pas (n+1) (k+1):Int)=(pas n k:Int)+(pas n (k+1):Int):=by rw [pas];omega
  have e2:(n:Int)+1 - ((k+1:Nat):Int)=(n:Int) - k:=by omega
  rcases Nat.lt_or_ge n k with g | g
  ·omega
  ·have h1:=h k g
   rw [e,e2,Int.add_mul,← h1]
   generalize (pas n (k+1):Int)=x
   grind
theorem zo7 {n:Nat}(ha:zo4 n)(hb:zo5 n):zo4 (n+1):=fun k hk=>by
 have h2:=hb k hk;rcases Nat.lt_or_ge n k with g | g
 ·obtain rfl:k=n+1:=by omega
  have e:pas (n+1) (n+1+1)=0:=zo2 (by omega);rw [e,Int.sub_self];simp
 ·have h1:=ha k g;have e:(pas (n+1) (k+1):Int)=(pas n k:Int)+(pas n (k+1):Int):=by rw [pas];omega
  have e2:((n+1:Nat):Int) - (k:Int)=(n:Int)+1 - k:=by omega
  rw [e,e2,h2,Int.mul_add,h1];generalize (pas n k:Int)=x;grind
theorem zo8 (n:Nat):zo4 n∧zo5 n:=by
 induction n with
 | zero =>
  have h:zo4 0:=fun k hk=>by
   obtain rfl:k=0:=by omega
   rfl
  exact ⟨h,zo6 h⟩
 | succ n ih =>
  have h:=zo7 ih.1 ih.2
  exact ⟨h,zo6 h⟩
def zo9 (n:Int):Nat→Int
 | 0=>1
 | i+1=>zo9 n i * (n - (i:Int)) / ((i:Int)+1)
theorem zoA (n:Nat):∀ k:Nat,k≤n→zo9 (n:Int) k=(pas n k:Int)
 | 0,_=>by rw [zo1];rfl
 | k+1,h=>by
  rw [zo9,zoA n k (by omega),← (zo8 n).1 k (by omega)];exact Int.mul_ediv_cancel_left _ (by omega)
theorem zoB : ∀ n:Nat,n<61→∀ k:Nat,k<n+1→0≤zo9 (n:Int) k∧zo9 (n:Int) k≤1000000000000000000:=by decide +kernel
theorem zoC : ∀ n:Nat,n<13→∀ k:Nat,k<n+1→zo9 (n:Int) k≤5000:=by decide +kernel
end
section
open Go.RowKit Go.Lib
theorem zoD {P:Program}(w:World){ops:Array Oper}{o:Oper}{a:Act}{K:Act→World→Prop}{Q:Exit→Act→World→Prop}{E:Prop}(hgd:o.guard=none)(s x:Operand)(t:TypeId)
  (ho:o.op=.call { callee:=.builtin .append,args:=#[s,x],argTypes:=#[t,t] })
  (base:Nat) (e:TypeId) (i:TypeInfo) (z:Value) (size bytes:Nat) (ht:P.underlying t=some (.slice e)) (hi:P.info? e=some i) (hz:i.zero=some z)
  (hsize:i.size=size) (hby:i.bytes=bytes) (hzs:z.cells.size=size) (hsz:0<size)
  (v:Value) (n:Nat) (xs:List Value) (hs:a.eval s=v) (hown:w.ownsRow base e size v n xs)
  (ao:Option Addr) (m c:Nat) (news:List Value) (hx:a.eval x=.slice ao m c) (hnone:ao=none→m=0∧c=0) (hl:news.length=m * size) (hnews:∀ ad,ao=some ad→∀ j u,news[j]?=some u→w.cell? (ad.add j)=some u) (h1:∀ u∈news,u.oneCell'=true)
  (h63:n+m≤maxLen) (hbytes:(n+m) * bytes≤140737488355328) (hbase:base≤w.heap.size)
  (h:∀ v' w',w'.ownsRow base e size v' (n+m) (xs++news)→w.grownBy w' v.ownBlock→K (a.put o.dst v') w') :
  if Region.wanted o (yielded ops a.tmps)=true then Oper.wp P o a w K Q else E:=by
 have hw:Region.wanted o (yielded ops a.tmps)=true:=by simp [Region.wanted,hgd]
 rw [if_pos hw]
 cases ao with
 | none =>
  obtain ⟨rfl,rfl⟩:=hnone rfl
  obtain rfl:news=[]:=List.eq_nil_of_length_eq_zero (by simpa using hl)
  have hr:=run_append_owned_none (P:=P) (w:=w) base t o.type e i size ht hi v n xs hown
  unfold Oper.wp
  simp [execOp,ho,resolve,invoke,builtin,hs,hx,hr,Result.andThen]
  exact h v w (by rw [List.append_nil];exact hown) ⟨rfl,rfl,rfl,Nat.le_refl _,fun _ _ _=>rfl⟩
 | some ad =>
  obtain ⟨v',w',hr,h2,h3,_⟩:=run_append_own (P:=P) w base t o.type e i z size bytes ht hi hz hsize hby hzs hsz v n xs hown ad m c news hl (hnews ad rfl) h1 h63 hbytes hbase
  unfold Oper.wp
  simp [execOp,ho,resolve,invoke,builtin,hs,hx,hr,Result.andThen]
  exact h v' w' h2 h3
end
section
open Go.RowKit Go.Lib Go.Shelf
attribute [local go_sem] Oper.semAt_some
def Wl.cs (a:Wl):Array Value:=#[.bool a.three,.int .u8 a.kind,.int .u8 a.num,.int .i8 (a.xs 0).a,.int .i8 (a.xs 0).b,.int .i8 (a.xs 0).c,.int .i8 (a.xs 1).a,.int .i8 (a.xs 1).b,.int .i8 (a.xs 1).c,.int .i8 (a.xs 2).a,.int .i8 (a.xs 2).b,.int .i8 (a.xs 2).c,.int .i8 (a.xs 3).a,.int .i8 (a.xs 3).b,.int .i8 (a.xs 3).c,.int .i8 (a.xs 4).a,.int .i8 (a.xs 4).b,.int .i8 (a.xs 4).c,.int .i8 (a.xs 5).a,.int .i8 (a.xs 5).b,.int .i8 (a.xs 5).c,.int .i8 (a.xs 6).a,.int .i8 (a.xs 6).b,.int .i8 (a.xs 6).c,.int .i8 (a.xs 7).a,.int .i8 (a.xs 7).b,.int .i8 (a.xs 7).c]
def Wl.v (a:Wl):Value:=.agg a.cs
theorem zoE {w:World}{B:Nat}(T:TypeId)(xs:Array Value)(hB:B≤w.heap.size)(hm:xs.size≤maxLen):(w.alloc (.cells xs T)).ownsRow B T 1 (.slice (some ⟨w.heap.size,0,none⟩) xs.size xs.size) xs.size xs.toList :=
 ⟨by simp,.inr ⟨w.heap.size,xs.size,xs,rfl,hB,World.alloc_heap_new w _,Nat.le_refl _,hm,by simp,by rw [Nat.mul_one,← Array.length_toList,List.take_length]⟩⟩
theorem zoF {w:World}{al:Option Addr}{n c:Nat}{l:List Int}(h:Sl w (.slice al n c) (zaq l))(k:Nat)(hk:k<l.length):∃ b off,al=some ⟨b,off,none⟩∧w.cell? ⟨b,off+k,none⟩=some (.int .i64 ((l[k]?).getD 0)):=by
 obtain ⟨a2,c2,e,_,_,hc⟩:=h.parts;injection e with e1 _ _;subst e1;exact hc k (.int .i64 ((l[k]?).getD 0)) (by unfold zaq;rw [List.getElem?_map,List.getElem?_eq_getElem hk];rfl)
theorem zoG (v:Value)(p:List Int)(rs:List Qw)(w:World)(he:Env w)(hs:ScV w v p rs)(hc:Wc p (rs.map Qw.x)) :
  Calls Tryz.prog 11 #[v] w fun e w'=>(∃ j1 j2 a1 n1 c1 a2 n2 c2,e=.returned (.tuple #[.agg #[.int .i64 j1,.int .i64 j2,.slice a1 n1 c1,.slice a2 n2 c2],.bool (tst 4 p (rs.map Qw.x)),.int .i64 0]))∧Ext w w' :=
 (znM v p rs w he hs hc).mono fun e w' ⟨⟨c,is,hr,ho⟩,hx⟩=>by
  have e1:is=tst 4 p (rs.map Qw.x):=by rw [zob];exact zoe (ho.is.trans hc.pro_iff.symm)
  subst hr e1;refine ⟨?_,hx⟩;rcases ho with ⟨_,e,_⟩ | ⟨_,d,x,y,_,hv⟩
  ·obtain ⟨j1,j2,a1,n1,c1,a2,n2,c2,h⟩:=znU;exact ⟨j1,j2,a1,n1,c1,a2,n2,c2,by rw [e,h]⟩
  ·obtain ⟨j1,j2,a1,n1,c1,a2,n2,c2,h⟩:=znT hv;exact ⟨j1,j2,a1,n1,c1,a2,n2,c2,by rw [h]⟩
end
end Go.Proofs.YtebabancfnmfjaaGreatDoor
