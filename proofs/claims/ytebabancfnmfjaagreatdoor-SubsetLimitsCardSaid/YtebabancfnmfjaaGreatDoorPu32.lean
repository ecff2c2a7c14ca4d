/- Walk: schismaref02's Compare at positive numbers. Plain: which lists are candidates, each once; what a search without modes finds. Plain: a search of any subset of an equal scale. Walks: subset.search, All, Scales, Fits, Candidates where a query is wrong, or has too many candidates. Walks: subset: what the functions with a query answer where its search ends with an error, or Check finds one. A list of lists of ints that a call made, in memory. A list of lists of ints to be read; walks: law 38's sameLists, behind. Walks: subset.Count, subset.Next where nothing is wrong. Walk: the law SubsetLimits. What the rows' condition gives the walks, and the last step of a law (the seat of chapters 31 and 32). A world that came in. -/
import Derived.Test.YtebabancfnmfjaaGreatDoorPu31
import Derived.Test.YtebabancfnmfjaaGreatDoorPu21
import Derived.Test.YtebabancfnmfjaaGreatDoorPu29
import Derived.Test.YtebabancfnmfjaaGreatDoorPu28
import Derived.Test.YtebabancfnmfjaaGreatDoorPu27
import Derived.Test.YtebabancfnmfjaaGreatDoorPu26
import Derived.Test.YtebabancfnmfjaaGreatDoorShelfI
import Derived.Shelf.SlicesG.Cmp
import Derived.Test.YtebabancfnmfjaaGreatDoorPu25
import Derived.Test.YtebabancfnmfjaaGreatDoorPu00
import Derived.Below
import Derived.ChangeSame
import Derived.OpenShut
import Derived.LaidMore
import Derived.ProofKit
import Derived.Stop.Joined
import Derived.Laws.IdiomArrays
import Derived.Test.YtebabancfnmfjaaGreatDoorRows
import Derived.Test.YtebabancfnmfjaaGreatDoorTie
import Derived.Test.YtebabancfnmfjaaGreatDoorCards
import Derived.Handy
import Derived.Lay
import Derived.SevenTiedAt
import Derived.Stop.LaidErr
import Derived.Carry
import Derived.Lib.SmallJoins
set_option maxRecDepth 100000
set_option maxHeartbeats 4000000
namespace Go.Proofs.YtebabancfnmfjaaGreatDoor
section
open Go.RowKit Go.Lib Go.Shelf
attribute [local go_sem] Oper.semAt_some
theorem zoM (a b:Nat)(w:World)(ha:0<a)(hb:0<b)(ha1:nDigits a≤100)(hb1:nDigits b≤100) :
  Calls Tryz.prog 23 #[.string (D a),.string (D b)] w fun e w'=>e=.returned (.int .i64 (znV a b))∧Ext w w':=by
 have hsa:=fun W=>zo5 a W;have hsb:=fun W=>zo5 b W;rw [if_neg (by omega)] at hsa hsb;have hda:=fun W=>znI a W (by omega);have hdb:=fun W=>znI b W (by omega);have hss:=fun W=>zo6 a W;have hne:(D a).size ≠ (D b).size→(((D a).size<(D b).size→znV a b=-1)∧((D b).size<(D a).size→znV a b=1)):=fun _=>by
  rw [zav,zav];exact ⟨fun h=>znW (Dec.lt_of_nDigits_lt h),fun h=>znX (Dec.lt_of_nDigits_lt h)⟩
 have hl1:(D a).size=(D b).size→Op.bytesLess (D a).toList (D b).toList=decide (a<b)∧Op.bytesLess (D b).toList (D a).toList=decide (b<a)∧(!(D a).toList == (D b).toList)=!decide (a=b):=fun h=>by
  rw [zav,zav] at h;exact ⟨zbj a b h,zbj b a h.symm,by rw [zbk]⟩
 have hs1:(D a).size≤100:=by rw [zav];exact ha1
 have hs2:(D b).size≤100:=by rw [zav];exact hb1
 generalize D a=SA at *;generalize D b=SB at *;have Hsa:=Lib.hid hsa;have Hsb:=Lib.hid hsb;have Hda:=Lib.hid hda;have Hdb:=Lib.hid hdb;have Hss:=Lib.hid hss;have Hne:=Lib.hid hne;have Hl1:=Lib.hid hl1;clear hsa hsb hda hdb hss hne hl1;go_enter Tryz.func23,Tryz.ntmps23
 go_wp2_with fail
 refine (Hsa.out _).mono ?_;rintro e w1 ⟨rfl,rfl⟩;go_wp2_with fail
 refine (Hsb.out _).mono ?_;rintro e w1 ⟨rfl,rfl⟩;go_wp2_with fail
 refine (Hda.out _).mono ?_;rintro e w1 ⟨rfl,rfl⟩;go_wp2_with fail
 refine (Hdb.out _).mono ?_;rintro e w1 ⟨rfl,rfl⟩;by_cases hl:SA.size=SB.size
 ·obtain ⟨l1,l2,l3⟩:=Hl1.out hl;have hli:(SA.size:Int)=(SB.size:Int):=by omega
  rcases Nat.lt_trichotomy a b with g | g | g
  ·have He:=Lib.hid (znW g);rw [decide_eq_true g] at l1;rw [decide_eq_false (by omega),Bool.not_false] at l3;go_wp2_with fail
   refine (Hss.out _).mono ?_;rintro e w1 ⟨rfl,rfl⟩;go_wp2_with fail
   go_ret
   exact ⟨by rw [He.out] <;> rfl,Ext.refl _⟩
  ·subst g;have He:=Lib.hid (znY a);rw [decide_eq_false (Nat.lt_irrefl _)] at l1 l2;rw [decide_eq_true rfl,Bool.not_true] at l3;go_wp2_with fail
   refine (Hss.out _).mono ?_;rintro e w1 ⟨rfl,rfl⟩;go_wp2_with fail
   go_ret
   exact ⟨by rw [He.out] <;> rfl,Ext.refl _⟩
  ·have He:=Lib.hid (znX g);rw [decide_eq_false (by omega)] at l1;rw [decide_eq_true g] at l2;rw [decide_eq_false (by omega),Bool.not_false] at l3;go_wp2_with fail
   refine (Hss.out _).mono ?_;rintro e w1 ⟨rfl,rfl⟩;go_wp2_with fail
   go_ret
   exact ⟨by rw [He.out] <;> rfl,Ext.refl _⟩
 ·obtain ⟨l1,l2⟩:=Hne.out hl;have hli:¬ (SA.size:Int)=(SB.size:Int):=by omega
  rcases Nat.lt_or_ge SA.size SB.size with g | g
  ·have He:=Lib.hid (l1 g);have g1:(SA.size:Int)<(SB.size:Int):=(by omega);clear l1 l2;go_wp2_with fail
   refine (Hss.out _).mono ?_;rintro e w1 ⟨rfl,rfl⟩;go_wp2_with fail
   go_ret
   exact ⟨by rw [He.out] <;> rfl,Ext.refl _⟩
  ·have He:=Lib.hid (l2 (by omega));have g1:¬ (SA.size:Int)<(SB.size:Int):=(by omega);clear l1 l2;go_wp2_with fail
   refine (Hss.out _).mono ?_;rintro e w1 ⟨rfl,rfl⟩;go_wp2_with fail
   go_ret
   exact ⟨by rw [He.out] <;> rfl,Ext.refl _⟩
end
section
theorem zoN {P:Int}{p:List Int}{N:List (List Rat)}(cs:List (List Int)):srL P false p N cs=cs.filter fun c=>tst P p (zjc p N c):=by
 have key:∀ (cs acc:List (List Int)),cs.foldl (srA P false p N) acc=acc++cs.filter fun c=>tst P p (zjc p N c):=by
  intro cs;induction cs with
  | nil=>intro acc;simp
  | cons c cs ih =>
   intro acc
   rw [List.foldl_cons,ih]
   unfold srA
   cases h:tst P p (zjc p N c) <;> simp [h]
 unfold srL;rw [key,List.nil_append]
end
section
open Go.RowKit Go.Lib
theorem zoO : ∀ n:Nat,n<61→∀ k:Nat,k<n+1→0<zl4 (n:Int) k∧zl4 (n:Int) k≤1000000000000000000:=by decide +kernel
theorem zoP (n m:Nat):ziS n m []=cmb n m n:=by
 unfold ziS;rw [List.filter_eq_self];intro c _
 first | rfl | simp [ziO]
theorem zoQ (p:List Int)(N:List (List Rat))(cs:List (List Int)):srL 1 false p N cs=cs:=by
 rw [zoN,List.filter_eq_self];intro c _;rfl
theorem zoR (n m:Nat):zlB n (m:Int) 0=zl4 (n:Int) m:=by
 unfold zlB;rw [if_neg (by omega),Nat.sub_zero,show ((m:Int) - ((0:Nat):Int)).toNat=m by omega]
theorem zoS (n m:Nat):cho n m [] n [] 0=cmb n m n:=by
 rw [ziT List.Pairwise.nil (by simp),zoP]
theorem znx.any {n m:Nat}(h0:0<n)(h60:n≤60)(h1:1≤m)(h2:m≤n)(hf:zl4 (n:Int) m≤5000):znx [2,3] (eqN n) m 1 []:=by
 have hl:(cmb n m n).length≤5000:=by
  rw [zly];have:=zl5 n m h2;omega
 refine ⟨zld h0 h60,h1,by rw [zkY];exact h2,by decide,by decide,rfl,?_,?_,?_⟩
 ·rw [zkY];show zlB n (m:Int) 0≤5000;rw [zoR];exact hf
 ·rw [zkY,zoS];exact hl
 ·rw [zkY,zoS,← zoP];intro l hl2;obtain ⟨a,b,c⟩:=zn3 hl2;have hn:l ≠ []:=by
   intro e;rw [e] at a;simp at a;omega
  exact ⟨by omega,zn1 hn b c,fun h=>absurd h (by decide)⟩
theorem zoT {n m:Nat}(h2:m≤n):(((srL 1 false [2,3] (eqN n) (cho n m [] n [] 0)).length:Nat):Int)=zl4 (n:Int) m:=by
 rw [zoQ,zoS,zly,zl5 n m h2]
end
section
open Go.RowKit Go.Lib Go.Shelf
attribute [local go_sem] Oper.semAt_some
def zoU (w:World)(v:Value)(ce:Int):Prop:=ce ≠ 0∧∀ W,Ext w W→Calls Tryz.prog 30 #[v] W fun e w'=>e=.returned (.int .i64 ce)∧Ext W w'
theorem zoU.ext {w w':World}{v:Value}{ce:Int}(h:zoU w v ce)(hx:Ext w w'):zoU w' v ce:=⟨h.1,fun W hE=>h.2 W (hx.trans hE)⟩
def QyS (v:Value):Prop:=∃ a1 n1 c1 a2 n2 c2 m P a3 n3 c3 b,v=.agg #[.slice a1 n1 c1,.slice a2 n2 c2,.int .i64 m,.int .i64 P,.slice a3 n3 c3,.bool b]
theorem zoV (v:Value)(ce:Int)(w:World)(hv:QyS v)(hb:zoU w v ce) :
  Calls Tryz.prog 54 #[v] w fun e w'=>e=.returned (.tuple #[.slice none 0 0,.slice none 0 0,.int .i64 ce])∧Ext w w':=by
 obtain ⟨a1,n1,c1,a2,n2,c2,m,P,a3,n3,c3,b,rfl⟩:=hv;obtain ⟨hE0,b0,b1,b2,b3⟩:=Fw.four w (.cells #[.slice a1 n1 c1,.slice a2 n2 c2,.int .i64 m,.int .i64 P,.slice a3 n3 c3,.bool b] 59) (.cells #[.slice none 0 0] 55) (.cells #[.slice none 0 0] 74) (.cells #[.int .i64 0] 31);have hck:=hb.2 _ hE0;have hc1:(ce == 0)=false:=by simpa using hb.1
 have hc2:(ce != 0)=true:=by simpa using hb.1
 have Hck:=Lib.hid hck;have HE0:=Lib.hid hE0;have B0:=Lib.hid b0;have B1:=Lib.hid b1;have B2:=Lib.hid b2;have B3:=Lib.hid b3;clear hck hE0 b0 b1 b2 b3 hb;refine (callsIn_wide (n:=3)).1 ?_;refine callsIn_of_wp_marks Tryz.func54 rfl trivial ?_ rfl;simp only [Tryz.ntmps54,List.size_toArray,List.length_cons,List.length_nil,Nat.reduceAdd,Nat.reduceSub,Array.replicate_succ,Array.replicate_zero,List.push_toArray,List.append_toArray,List.nil_append,List.cons_append];gi_wp2_with fail;refine ⟨trivial,?_⟩;refine (callsIn_wide.2 Hck.out).mono ?_;rintro e w1 ⟨rfl,hx1⟩;have d1:=(show Boxed w1 (w.heap.size+1) _ _ from hx1.heap B1.out);have d2:=(show Boxed w1 (w.heap.size+1+1) _ _ from hx1.heap B2.out);have d3:=(show Boxed w1 (w.heap.size+1+1+1) _ _ from hx1.heap B3.out);have y1:=d1.cell;have y2:=d2.cell;have y3:=d3.cell;have z1:=d1.frozen;have z2:=d2.frozen;have z3:=d3.frozen;have D1:=Lib.hid d1;have D2:=Lib.hid d2;have D3:=Lib.hid d3;have HE1:=Lib.hid (HE0.out.trans hx1);clear d1 d2 d3 hx1;gi_wp2_with fail;have b1:=Boxed.set (.slice none 0 0) D1.out;have o2:=fun k (hk:k ≠ w.heap.size+1)=>Below.heap_setCell w1 ⟨w.heap.size+1,0,none⟩ (.slice none 0 0) k hk;have b2:=Boxed.set (.slice none 0 0) (show Boxed _ (w.heap.size+1+1) _ _ from (o2 _ (by omega)).trans D2.out);have b1':=(show Boxed _ (w.heap.size+1) _ _ from (Below.heap_setCell _ ⟨w.heap.size+1+1,0,none⟩ (.slice none 0 0) _ (by dsimp only;omega)).trans b1);have b3:=Boxed.set (.int .i64 ce) (show Boxed _ (w.heap.size+1+1+1) _ _ from (Below.heap_setCell _ ⟨w.heap.size+1+1,0,none⟩ (.slice none 0 0) _ (by dsimp only;omega)).trans ((o2 _ (by omega)).trans D3.out));have b1'':=(show Boxed _ (w.heap.size+1) _ _ from (Below.heap_setCell _ ⟨w.heap.size+1+1+1,0,none⟩ (.int .i64 ce) _ (by dsimp only;omega)).trans b1');have b2'':=(show Boxed _ (w.heap.size+1+1) _ _ from (Below.heap_setCell _ ⟨w.heap.size+1+1+1,0,none⟩ (.int .i64 ce) _ (by dsimp only;omega)).trans b2);have e1:=b1''.cell;have e2:=b2''.cell;have e3:=b3.cell;refine ⟨.tuple #[.slice none 0 0,.slice none 0 0,.int .i64 ce],by simp [results,Tryz.results54,go_sem,e1,e2,e3],rfl,?_⟩;exact ((HE1.out.setCell (by dsimp only;omega) _).setCell (by dsimp only;omega) _).setCell (by dsimp only;omega) _
theorem zoW (v:Value)(p:List Int)(rs:List Qw)(m P:Int)(M:List Int)(b:Bool)(w:World)(he:Env w)(hv:QyV w v p rs m P M b)(h:Wd p (rs.map Qw.x))(hn:rs.length≤60)(hm0:0≤m)(hm:m≤rs.length)(hML:M.length≤rs.length)(hq:zlr rs.length m P M=0)(hmany:5000<zlB rs.length m M.length) :
  Calls Tryz.prog 54 #[v] w fun e w'=>e=.returned (.tuple #[.slice none 0 0,.slice none 0 0,.int .i64 4])∧Ext w w':=by
 have hck:=fun W vq (hE:Ext w W)(hq:QyV W vq p rs m P M b)=>zlv vq p rs m P M b 0 W hq (by omega) (fun W' sv hE' hs=>zhQ sv p rs W' (he.ext (hE.trans hE')) hs h.right);rw [hq,zls] at hck;have hfw:=fun W vq (hE:Ext w W)(hq:QyV W vq p rs m P M b)=>zlE vq p rs m P M b W (he.ext hE) hq hn hm0 hm hML;rw [decide_eq_false (by omega:¬ zlB rs.length m M.length≤5000)] at hfw;obtain ⟨ap,cp,an,cn,am,cm,rfl,_,_⟩:=hv.let;obtain ⟨hE0,b0,b1,b2,b3⟩:=Fw.four w (.cells #[.slice ap p.length cp,.slice an rs.length cn,.int .i64 m,.int .i64 P,.slice am M.length cm,.bool b] 59) (.cells #[.slice none 0 0] 55) (.cells #[.slice none 0 0] 74) (.cells #[.int .i64 0] 31);have hck0:=hck _ _ hE0 (hv.ext hE0);have Hck:=Lib.hid hck0;have Hfw:=Lib.hid hfw;have HE0:=Lib.hid hE0;have B0:=Lib.hid b0;have B1:=Lib.hid b1;have B2:=Lib.hid b2;have B3:=Lib.hid b3;have Hv:=Lib.hid hv;clear hck hck0 hfw hE0 b0 b1 b2 b3 hv h hq he hn hm0 hm hML hmany;refine (callsIn_wide (n:=3)).1 ?_;refine callsIn_of_wp_marks Tryz.func54 rfl trivial ?_ rfl;simp only [Tryz.ntmps54,List.size_toArray,List.length_cons,List.length_nil,Nat.reduceAdd,Nat.reduceSub,Array.replicate_succ,Array.replicate_zero,List.push_toArray,List.append_toArray,List.nil_append,List.cons_append];gi_wp2_with fail;refine ⟨trivial,?_⟩;refine (callsIn_wide.2 Hck.out).mono ?_;rintro e w0 ⟨rfl,hx0⟩;obtain ⟨q0,q1,q2,q3,q4,q5⟩:=(show zlp w0 w.heap.size _ _ _ _ _ _ from hx0.heap B0.out).cs;have Hx0:=Lib.hid hx0;clear hx0;gi_wp2_with fail;refine ⟨trivial,?_⟩;refine (callsIn_wide.2 (Hfw.out _ _ (HE0.out.trans Hx0.out) (Hv.out.ext (HE0.out.trans Hx0.out)))).mono ?_;rintro e w1 ⟨rfl,hx2⟩;have hx1:=Hx0.out.trans hx2;have d1:=(show Boxed w1 (w.heap.size+1) _ _ from hx1.heap B1.out);have d2:=(show Boxed w1 (w.heap.size+1+1) _ _ from hx1.heap B2.out);have d3:=(show Boxed w1 (w.heap.size+1+1+1) _ _ from hx1.heap B3.out);have y1:=d1.cell;have y2:=d2.cell;have y3:=d3.cell;have z1:=d1.frozen;have z2:=d2.frozen;have z3:=d3.frozen;have D1:=Lib.hid d1;have D2:=Lib.hid d2;have D3:=Lib.hid d3;have HE1:=Lib.hid (HE0.out.trans hx1);clear d1 d2 d3 hx1 hx2 q0 q1 q2 q3 q4 q5;gi_wp2_with fail;have b1:=Boxed.set (.slice none 0 0) D1.out;have o2:=fun k (hk:k ≠ w.heap.size+1)=>Below.heap_setCell w1 ⟨w.heap.size+1,0,none⟩ (.slice none 0 0) k hk;have b2:=Boxed.set (.slice none 0 0) (show Boxed _ (w.heap.size+1+1) _ _ from (o2 _ (by omega)).trans D2.out);have b1':=(show Boxed _ (w.heap.size+1) _ _ from (Below.heap_setCell _ ⟨w.heap.size+1+1,0,none⟩ (.slice none 0 0) _ (by dsimp only;omega)).trans b1);have b3:=Boxed.set (.int .i64 4) (show Boxed _ (w.heap.size+1+1+1) _ _ from (Below.heap_setCell _ ⟨w.heap.size+1+1,0,none⟩ (.slice none 0 0) _ (by dsimp only;omega)).trans ((o2 _ (by omega)).trans D3.out));have b1'':=(show Boxed _ (w.heap.size+1) _ _ from (Below.heap_setCell _ ⟨w.heap.size+1+1+1,0,none⟩ (.int .i64 4) _ (by dsimp only;omega)).trans b1');have b2'':=(show Boxed _ (w.heap.size+1+1) _ _ from (Below.heap_setCell _ ⟨w.heap.size+1+1+1,0,none⟩ (.int .i64 4) _ (by dsimp only;omega)).trans b2);have e1:=b1''.cell;have e2:=b2''.cell;have e3:=b3.cell;refine ⟨.tuple #[.slice none 0 0,.slice none 0 0,.int .i64 4],by simp [results,Tryz.results54,go_sem,e1,e2,e3],rfl,?_⟩;exact ((HE1.out.setCell (by dsimp only;omega) _).setCell (by dsimp only;omega) _).setCell (by dsimp only;omega) _
def zoX (w:World)(v:Value)(ce:Int):Prop:=∀ W,Ext w W→Calls Tryz.prog 54 #[v] W fun e w'=>e=.returned (.tuple #[.slice none 0 0,.slice none 0 0,.int .i64 ce])∧Ext W w'
theorem zoU.s {w:World}{v:Value}{ce:Int}(h:zoU w v ce)(hv:QyS v):zoX w v ce:=fun W hE=>zoV v ce W hv (h.ext hE)
theorem zoY (v:Value)(ce:Int)(w:World)(hv:QyS v)(hs:zoX w v ce) :
  Calls Tryz.prog 17 #[v] w fun e w'=>e=.returned (.tuple #[.slice none 0 0,.int .i64 ce])∧Ext w w':=by
 obtain ⟨a1,n1,c1,a2,n2,c2,m,P,a3,n3,c3,b,rfl⟩:=hv;have hE0:Ext w (w.alloc (.cells #[.slice a1 n1 c1,.slice a2 n2 c2,.int .i64 m,.int .i64 P,.slice a3 n3 c3,.bool b] 59)):=(Ext.refl w).alloc _;have hb:=zlp.new w (.slice a1 n1 c1) (.slice a2 n2 c2) m P (.slice a3 n3 c3) b;have hs0:=hs _ hE0;obtain ⟨q0,q1,q2,q3,q4,q5⟩:=hb.cs;have Hs0:=Lib.hid hs0;have HE0:=Lib.hid hE0;clear hs hs0 hE0 hb;go_enter Tryz.func17,Tryz.ntmps17
 go_wp2_with fail
 refine Hs0.out.mono ?_;rintro e w1 ⟨rfl,hx⟩;have HE1:=Lib.hid (HE0.out.trans hx);clear hx q0 q1 q2 q3 q4 q5;go_wp2_with fail
 go_ret2
 exact ⟨rfl,HE1.out⟩
theorem zoZ (v:Value)(ce:Int)(w:World)(hv:QyS v)(hs:zoX w v ce) :
  Calls Tryz.prog 26 #[v] w fun e w'=>e=.returned (.tuple #[.slice none 0 0,.int .i64 ce])∧Ext w w':=by
 obtain ⟨a1,n1,c1,a2,n2,c2,m,P,a3,n3,c3,b,rfl⟩:=hv;have hE0:Ext w (w.alloc (.cells #[.slice a1 n1 c1,.slice a2 n2 c2,.int .i64 m,.int .i64 P,.slice a3 n3 c3,.bool b] 59)):=(Ext.refl w).alloc _;have hb:=zlp.new w (.slice a1 n1 c1) (.slice a2 n2 c2) m P (.slice a3 n3 c3) b;have hs0:=hs _ hE0;obtain ⟨q0,q1,q2,q3,q4,q5⟩:=hb.cs;have Hs0:=Lib.hid hs0;have HE0:=Lib.hid hE0;clear hs hs0 hE0 hb;go_enter Tryz.func26,Tryz.ntmps26
 go_wp2_with fail
 refine Hs0.out.mono ?_;rintro e w1 ⟨rfl,hx⟩;have HE1:=Lib.hid (HE0.out.trans hx);clear hx q0 q1 q2 q3 q4 q5;go_wp2_with fail
 go_ret2
 exact ⟨rfl,HE1.out⟩
theorem zpa (v:Value)(ce:Int)(w:World)(hv:QyS v)(hs:zoX w v ce) :
  Calls Tryz.prog 24 #[v] w fun e w'=>e=.returned (.tuple #[.int .i64 0,.int .i64 ce])∧Ext w w':=by
 obtain ⟨a1,n1,c1,a2,n2,c2,m,P,a3,n3,c3,b,rfl⟩:=hv;have hE0:Ext w (w.alloc (.cells #[.slice a1 n1 c1,.slice a2 n2 c2,.int .i64 m,.int .i64 P,.slice a3 n3 c3,.bool b] 59)):=(Ext.refl w).alloc _;have hb:=zlp.new w (.slice a1 n1 c1) (.slice a2 n2 c2) m P (.slice a3 n3 c3) b;have hs0:=hs _ hE0;obtain ⟨q0,q1,q2,q3,q4,q5⟩:=hb.cs;have Hs0:=Lib.hid hs0;have HE0:=Lib.hid hE0;clear hs hs0 hE0 hb;go_enter Tryz.func24,Tryz.ntmps24
 go_wp2_with fail
 refine Hs0.out.mono ?_;rintro e w1 ⟨rfl,hx⟩;have HE1:=Lib.hid (HE0.out.trans hx);clear hx q0 q1 q2 q3 q4 q5;go_wp2_with fail
 go_ret2
 exact ⟨rfl,HE1.out⟩
theorem zpb (v vl:Value)(ce:Int)(w:World)(hv:QyS v)(hs:zoX w v ce)(hl:∃ al L cl,vl=.slice al L cl)(hce:ce ≠ 0) :
  Calls Tryz.prog 25 #[v,vl] w fun e w'=>e=.returned (.tuple #[.slice none 0 0,.bool false,.int .i64 ce])∧Ext w w':=by
 obtain ⟨al,L,cl,rfl⟩:=hl;obtain ⟨a1,n1,c1,a2,n2,c2,m,P,a3,n3,c3,b,rfl⟩:=hv;have hE0:Ext w (w.alloc (.cells #[.slice a1 n1 c1,.slice a2 n2 c2,.int .i64 m,.int .i64 P,.slice a3 n3 c3,.bool b] 59)):=(Ext.refl w).alloc _;have hb:=zlp.new w (.slice a1 n1 c1) (.slice a2 n2 c2) m P (.slice a3 n3 c3) b;have hs0:=hs _ hE0;obtain ⟨q0,q1,q2,q3,q4,q5⟩:=hb.cs;have hc1:(ce == 0)=false:=by simpa using hce
 have hc2:(ce != 0)=true:=by simpa using hce
 have Hs0:=Lib.hid hs0;have HE0:=Lib.hid hE0;clear hs hs0 hE0 hb hce;go_enter Tryz.func25,Tryz.ntmps25
 go_wp2_with fail
 refine Hs0.out.mono ?_;rintro e w1 ⟨rfl,hx⟩;have HE1:=Lib.hid (HE0.out.trans hx);clear hx q0 q1 q2 q3 q4 q5;go_wp2_with fail
 go_ret3
 exact ⟨rfl,HE1.out⟩
end
section
open Go.RowKit Go.Lib Go.Shelf
def iwU (fs:List Iw):List Value:=fs.map Iw.u
theorem zpc (fs:List Iw)(f:Iw):iwU (fs++[f])=iwU fs++[f.u]:=by unfold iwU;rw [List.map_append];rfl
structure LsI (W:World)(B:Nat)(v:Value)(fs:List Iw):Prop where
 row:W.ownsRow B 24 1 v fs.length (iwU fs)
 all:∀ f∈fs,zeZ W B f.u f.l
section
variable {W W' : World} {B : Nat} {v : Value} {fs : List Iw}
theorem LsI.nil (W:World)(B:Nat):LsI W B (.slice none 0 0) []:=⟨⟨rfl,.inl ⟨rfl,rfl⟩⟩,fun f hf=>by cases hf⟩
theorem LsI.ext (h:LsI W B v fs)(hx:Ext W W'):LsI W' B v fs:=⟨hx.own h.row,fun f hf=>hx.ownI (h.all f hf)⟩
theorem LsI.less {B':Nat}(h:LsI W B v fs)(hB:B'≤B):LsI W B' v fs:=⟨zai h.row hB,fun f hf=>zai (h.all f hf) hB⟩
theorem LsI.kept {u:Value}{n:Nat}{xs:List Value}{D:Nat}(h:LsI W B v fs)(hu:W.ownsRow D 24 1 u n xs)(hg:W.grownBy W' u.ownBlock)(hv:∀ r,v.ownBlock=some r→r<D):LsI W' B v fs:=by
 refine ⟨World.ownsRow.kept h.row hg ?_,fun f hf=>World.ownsRow.kept (h.all f hf) hg (zfd (h.all f hf) hu (by decide))⟩
 cases e:v.ownBlock with
 | none=>exact .inl rfl
 | some r =>
  refine .inr fun e2=>?_
  have h1:=hv r e
  have h2:=(World.ownsRow.lt hu r e2.symm).1
  omega
theorem LsI.other {u:Value}{E s n:Nat}{xs:List Value}{D:Nat}(h:LsI W B v fs)(hu:W.ownsRow D E s u n xs)(hE:E ≠ 24)(hE2:E ≠ 3)(hg:W.grownBy W' u.ownBlock):LsI W' B v fs :=
 ⟨World.ownsRow.kept h.row hg (zfd h.row hu hE.symm),fun f hf=>World.ownsRow.kept (h.all f hf) hg (zfd (h.all f hf) hu hE2.symm)⟩
theorem LsI.put {v':Value}{f:Iw}(h:LsI W B v fs)(hf:zeZ W B f.u f.l)(hg:W.grownBy W' v.ownBlock)(ho:W'.ownsRow B 24 1 v' (fs.length+1) (iwU fs++[f.u])):LsI W' B v' (fs++[f]):=by
 refine ⟨by rw [List.length_append,List.length_singleton,zpc];exact ho,fun g hg2=>?_⟩;have key:∀ {g:Iw},zeZ W B g.u g.l→zeZ W' B g.u g.l:=fun k=>World.ownsRow.kept k hg (zfd k h.row (by decide));rcases List.mem_append.1 hg2 with e | e
 ·exact key (h.all g e)
 ·rw [List.mem_singleton] at e;subst e;exact key hf
theorem LsI.lt (h:LsI W B v fs):∀ r,v.ownBlock=some r→B≤r∧r<W.heap.size:=fun r e=>World.ownsRow.lt h.row r e
theorem LsI.at' {a:Option Addr}{L c k:Nat}{f:Iw}(h:LsI W B (.slice a L c) fs)(hf:fs[k]?=some f) :
  ∃ g a2 c2,a=some ⟨g,0,none⟩∧W.cell? ⟨g,k,none⟩=some (.slice a2 f.l.length c2)∧f.u=.slice a2 f.l.length c2∧zeZ W B (.slice a2 f.l.length c2) f.l:=by
 have hm:=h.all f (List.mem_of_getElem? hf);obtain ⟨a2,c2,e2⟩:=zfa hm;rcases h.row.2 with ⟨e,h0⟩ | ⟨g,cap,cur,e,_⟩
 ·have:=(List.getElem?_eq_some_iff.1 hf).1;omega
 ·injection e with e1 e3 e4;subst e1;have hc:=World.ownsRow.cells h.row (g:=g) rfl k f.u (by unfold iwU;rw [List.getElem?_map,hf];rfl);rw [Addr.add_lit,Nat.zero_add,e2] at hc;rw [e2] at hm;exact ⟨g,a2,c2,rfl,hc,e2,hm⟩
end
end
section
open Go.RowKit Go.Lib Go.Shelf
attribute [local go_sem] Oper.semAt_some
structure LsR (W:World)(v:Value)(fs:List Iw):Prop where
 row:Sl W v (iwU fs)
 all:∀ f∈fs,Sl W f.u (zal f.l)
theorem LsR.ext {W W':World}{v:Value}{fs:List Iw}(h:LsR W v fs)(hx:Ext W W'):LsR W' v fs:=⟨hx.sl h.row,fun f hf=>hx.sl (h.all f hf)⟩
theorem LsI.r {W:World}{B:Nat}{v:Value}{fs:List Iw}(h:LsI W B v fs):LsR W v fs:=⟨zaj h.row,fun f hf=>zaj (h.all f hf)⟩
def fwI (fs:List Fw):List Iw:=fs.map fun f=>⟨f.u,f.l⟩
theorem zpd (fs:List Fw):iwU (fwI fs)=fwU fs:=by unfold iwU fwI fwU;rw [List.map_map];rfl
theorem Fnd.r {W:World}{B:Nat}{p:List Int}{N:List (List Rat)}{us vs:Value}{fs:List Fw}(h:Fnd W B p N us vs fs):LsR W us (fwI fs) :=
 ⟨by rw [zpd];exact zaj h.us,fun f hf=>by
  obtain ⟨g,hg,rfl⟩:=List.mem_map.1 hf;exact zaj (h.all g hg).1⟩
theorem LsR.at' {W:World}{fs:List Iw}{a:Option Addr}{L c k:Nat}{f:Iw}(h:LsR W (.slice a L c) fs)(hf:fs[k]?=some f):∃ b off a2 c2,a=some ⟨b,off,none⟩∧W.cell? ⟨b,off+k,none⟩=some (.slice a2 f.l.length c2)∧Sl W (.slice a2 f.l.length c2) (zal f.l):=by
 obtain ⟨a9,c9,e9,_,_,hc⟩:=h.row.parts;injection e9 with e9 _ _;obtain ⟨b,off,e,hcell⟩:=hc k f.u (by unfold iwU;rw [List.getElem?_map,hf];rfl);have hs:=h.all f (List.mem_of_getElem? hf);obtain ⟨a2,c2,e2,_⟩:=hs.parts;rw [zan] at e2;rw [e2] at hcell hs;exact ⟨b,off,a2,c2,e9.trans e,hcell,hs⟩
theorem zpe (v:Value)(p:List Int)(rs:List Qw)(m:Nat)(P:Int)(M:List Int)(b:Bool)(w:World)(he:Env w)(hv:QyV w v p rs (m:Int) P M b)(h:znx p (rs.map Qw.x) m P M) :
  Calls Tryz.prog 24 #[v] w fun e w'=>e=.returned (.tuple #[.int .i64 ((srL P b p (rs.map Qw.x) (cho rs.length m M rs.length [] 0)).length:Nat),.int .i64 0])∧Ext w w':=by
 have hsr:=fun W u (hE:Ext w W)(hu:QyV W u p rs (m:Int) P M b)=>zny u p rs m P M b W (he.ext hE) hu h;obtain ⟨ap,cp,an,cn,am,cm,rfl,hs,hmm⟩:=hv.let;have hE0:Ext w (w.alloc (.cells #[.slice ap p.length cp,.slice an rs.length cn,.int .i64 (m:Int),.int .i64 P,.slice am M.length cm,.bool b] 59)):=(Ext.refl w).alloc _;have hb:=zlp.new w (.slice ap p.length cp) (.slice an rs.length cn) (m:Int) P (.slice am M.length cm) b;have hs0:=hsr _ _ hE0 (hv.ext hE0);have Hs0:=Lib.hid hs0;have HE0:=Lib.hid hE0;have Hb:=Lib.hid hb;clear hsr hE0 hb hs0 hs hmm hv h he;obtain ⟨q0,q1,q2,q3,q4,q5⟩:=Hb.out.cs;generalize srL P b p (rs.map Qw.x) (cho rs.length m M rs.length [] 0)=L at *;go_enter Tryz.func24,Tryz.ntmps24
 go_wp2_with fail
 refine Hs0.out.mono ?_;rintro e w1 ⟨us,vs,fs,rfl,hf,hm,hx⟩;have hf2:=hf.mono (HE0.out).size;have hL:L.length=fs.length:=by rw [← hm,List.length_map]
 obtain ⟨a1,c1,rfl⟩:=zfa hf2.us;obtain ⟨a2,c2,rfl⟩:=zfa hf2.vs;have HL:=Lib.hid hL;have HE1:=Lib.hid (HE0.out.trans hx);clear hf hf2 hm hx q0 q1 q2 q3 q4 q5 hL;go_wp2_with fail
 go_ret2
 exact ⟨by rw [HL.out] <;> rfl,HE1.out⟩
theorem zpf (n x:Nat)(w:World)(he:Env w)(hn:n<256)(hx:x<256) :
  Calls Tryz.prog 4 #[.int .u8 (n:Int),.int .u8 (x:Int)] w fun e w'=>e=.returned (.bool true)∧Ext w w':=by
 have hkn:=znE w he;obtain ⟨k,hk⟩:∃ k:Nat,k=1+n % 60:=⟨_,rfl⟩;have hkc:(1:Int)+(n:Int) % 60=(k:Int):=by omega
 have hk1:1≤k∧k≤60:=by omega
 have heq:=fun W vp vb (hE:Ext w W)(hp:Sl W vp (zal [2,3]))(hb:Rd W vb (ov 1))=>(zlk vp vb k W (he.ext hE) hp hb (by omega) (by omega)).mono fun e w' ⟨v,rs,h1,h2,h3,h4⟩=>(show ∃ a1 c1 a2 c2 rs,e=Ending.returned (.tuple #[.agg #[.slice a1 2 c1,.slice a2 k c2],.int .i64 0])∧Sl w' (.slice a1 2 c1) (zal [2,3])∧RdM w' (.slice a2 k c2) rs∧rs.map Qw.x=eqN k∧Ext W w' by
  obtain ⟨vp,vn,rfl,hop,hqn⟩:=h2;obtain ⟨a1,c1,rfl⟩:=zfa hop;obtain ⟨a2,c2,rfl⟩:=zfa hqn.1;have hl:=zn9 h3 (zkY k);have hr:=hqn.rd;rw [hl] at hr h1;exact ⟨a1,c1,a2,c2,rs,h1,zaj hop,hr,h3,h4⟩)
 have He:=Lib.hid he;have Hkn:=Lib.hid hkn;have Heq:=Lib.hid heq;clear he hkn heq hk;go_enter Tryz.func4,Tryz.ntmps4
 go_wp2_with fail
 refine Hkn.out.mono ?_;rintro e w1 ⟨rfl,hx1⟩;have HE1:=Lib.hid hx1;clear hx1;go_wp2_with fail
 have hE3:=((Ext.refl w1).alloc (.cells #[.string ⟨#[48]⟩,.string ⟨#[49]⟩] 65)).alloc (.cells #[.string ⟨#[49]⟩,.string ⟨#[49]⟩] 65);generalize hW3:(w1.alloc (.cells #[.string ⟨#[48]⟩,.string ⟨#[49]⟩] 65)).alloc (.cells #[.string ⟨#[49]⟩,.string ⟨#[49]⟩] 65)=W3 at *;have hz3:W3.heap.size=w1.heap.size+1+1:=by rw [← hW3,World.size_alloc,World.size_alloc]
 obtain ⟨hp,hbb⟩:=zlG W3 _ hz3;have hE5:=(hE3.alloc (.cells #[.int .i64 2,.int .i64 3] 3)).alloc (.cells #[.string ⟨#[49]⟩,.string ⟨#[49]⟩,.string ⟨#[48]⟩,.string ⟨#[49]⟩] 65);refine (Heq.out _ _ _ (HE1.out.trans hE5) hp hbb).mono ?_;have HE5:=Lib.hid (HE1.out.trans hE5);clear hE5 hp hbb hE3 hz3 hW3;rintro e w2 ⟨a1,c1,a2,c2,rs,rfl,hp2,hn2,hm,hx2⟩;have hb2:=ziF.new 28 w2 (.slice a1 2 c1) (.slice a2 k c2);have q0:=hb2.c0;have q1:=hb2.c1;have hE6:=(Ext.refl w2).alloc (.cells #[.slice a1 2 c1,.slice a2 k c2] 28);have HE6:=Lib.hid ((HE5.out.trans hx2).trans hE6);have Hp2:=Lib.hid (hE6.sl hp2);have Hn2:=Lib.hid (hE6.rdM hn2);have Hm:=Lib.hid hm;obtain ⟨s0,hs0⟩:∃ s0:Nat,x % k=s0:=⟨_,rfl⟩;have hsz:(x:Int) % (k:Int)=(s0:Int):=by rw [← hs0];rfl
 have hsn:s0<k:=by rw [← hs0];exact Nat.mod_lt _ (by omega)
 have htm:(x:Int).tmod (k:Int)=(s0:Int):=by rw [Int.tmod_eq_emod_of_nonneg (by omega)];exact hsz
 have hws:IntKind.i64.wrap (s0:Int)=(s0:Int):=IntWalk.i64_in _ (by omega);have hw1:IntKind.i64.wrap (1+(s0:Int))=1+(s0:Int):=IntWalk.i64_in _ (by omega);have hwx:IntKind.i64.wrap (x:Int)=(x:Int):=IntWalk.i64_in _ (by omega);have hkN:¬ k=0:=by omega
 have hkI:¬ (k:Int)=0:=by omega
 have hk0':((k:Int) == 0)=false:=by simpa using hkI
 clear hp2 hn2 hx2 hE6 hb2 hm hs0;go_wp2_with fail
 generalize w2.alloc (.cells #[.slice a1 2 c1,.slice a2 k c2] 28)=W6 at *;have hS0:W6.drew.cell? ⟨w2.heap.size,0,none⟩=some (.slice a1 2 c1)∧W6.drew.cell? ⟨w2.heap.size,1,none⟩=some (.slice a2 k c2):=⟨(Ext.refl W6).drew.cell q0,(Ext.refl W6).drew.cell q1⟩;have hS:=fun W (hE:Ext W6 W)=>(show Ext W6 W∧W.cell? ⟨w2.heap.size,0,none⟩=some (.slice a1 2 c1)∧W.cell? ⟨w2.heap.size,1,none⟩=some (.slice a2 k c2) from ⟨hE,hE.cell q0,hE.cell q1⟩);have HS:=Lib.hid hS;clear hS hS0;go_region_held3 (fun w'=>Ext W6 w'∧w'.cell? ⟨w2.heap.size,0,none⟩=some (.slice a1 2 c1)∧w'.cell? ⟨w2.heap.size,1,none⟩=some (.slice a2 k c2))
  (first | (with_reducible assumption) | exact HS.out _ (Ext.refl W6).drew | exact HS.out _ (((Ext.refl W6).alloc _).drew))
  (fail)
 clear htm hws hw1 hwx q0 q1 HS;go_wp2_with fail
 have hb7:=(zlp.new W6 (.slice a1 2 c1) (.slice a2 k c2) (1+(s0:Int)) 1 (.slice none 0 0) false).ext ((Ext.refl _).drew);have hE7:=((Ext.refl W6).alloc (.cells #[.slice a1 2 c1,.slice a2 k c2,.int .i64 (1+(s0:Int)),.int .i64 1,.slice none 0 0,.bool false] 59)).drew;generalize (W6.alloc (.cells #[.slice a1 2 c1,.slice a2 k c2,.int .i64 (1+(s0:Int)),.int .i64 1,.slice none 0 0,.bool false] 59)).drew=W7 at *;obtain ⟨M,hM⟩:∃ M:Nat,M=1+s0:=⟨_,rfl⟩;have hMi:1+(s0:Int)=(M:Int):=by omega
 have hMk:1≤M∧M≤k:=by omega
 rw [hMi] at hb7 ⊢;have hlen:rs.length=k:=zn9 Hm.out (zkY k);obtain ⟨c,hc⟩:∃ c:Nat,zl4 (k:Int) M=(c:Int):=⟨(zl4 (k:Int) M).toNat,by have:=zoO k (by omega) M (by omega);omega⟩;have hcb:0<c∧c≤1000000000000000000:=by have:=zoO k (by omega) M (by omega);omega
 have hcd:nDigits c≤100:=Nat.le_trans (Dec.nDigits_le (k:=19) (by decide) (by omega)) (by decide);have hqv:∀ W,Ext W7 W→QyV W (.agg #[.slice a1 2 c1,.slice a2 k c2,.int .i64 (M:Int),.int .i64 1,.slice none 0 0,.bool false]) [2,3] rs (M:Int) 1 [] false:=fun W hE =>
  ⟨_,_,_,rfl,(hE7.trans hE).sl Hp2.out,(hE7.trans hE).rdM Hn2.out,.inl ⟨none,0,rfl,Nat.zero_le _,rfl⟩⟩
 have hwd:Wd [2,3] (rs.map Qw.x):=by rw [Hm.out];exact zld (by omega) (by omega)
 have hqe:zlr rs.length (M:Int) 1 []=0:=by
  unfold zlr;rw [if_neg (by omega),if_neg (by omega)];rfl
 have hW:=HE6.out.trans hE7;have hca:=fun W (hE:Ext W7 W)=>zm8 _ [2,3] rs (M:Int) 1 [] false W (He.out.ext (hW.trans hE)) (hqv W hE) hwd (by omega) (by omega) (by omega) (Nat.zero_le _) hqe;have hcn:zlB rs.length (M:Int) ([]:List Int).length=(c:Int):=by rw [hlen];show zlB k (M:Int) 0=_;rw [zoR,hc]
 rw [hcn,zaw] at hca;have hch:=fun W (hE:Ext W7 W)=>zoL k (M:Int) W (He.out.ext (hW.trans hE)) hk1.2 (by omega);rw [if_neg (by omega),Int.toNat_natCast,hc,zaw] at hch;have h5:=fun W=>zoM c 5000 W hcb.1 (by decide) hcd (by decide +kernel);have h1:=fun W=>zoM c 100 W hcb.1 (by decide) hcd (by decide +kernel);rw [show D 5000=⟨#[53,48,48,48]⟩ by decide +kernel] at h5;rw [show D 100=⟨#[49,48,48]⟩ by decide +kernel] at h1;have hbad:5000<c→∀ W,Ext W7 W→zoX W (.agg #[.slice a1 2 c1,.slice a2 k c2,.int .i64 (M:Int),.int .i64 1,.slice none 0 0,.bool false]) 4:=fun h W hE W' hE' =>
  zoW _ [2,3] rs (M:Int) 1 [] false W' (He.out.ext (hW.trans (hE.trans hE'))) (hqv W' (hE.trans hE')) hwd (by omega) (by omega) (by omega) (Nat.zero_le _) hqe (by rw [hcn];omega)
 have hcnt:=fun (h:c≤100) W (hE:Ext W7 W)=>zpe _ [2,3] rs M 1 [] false W (He.out.ext (hW.trans hE)) (hqv W hE) (by rw [Hm.out];exact znx.any (by omega) hk1.2 hMk.1 hMk.2 (by rw [hc];omega));rw [Hm.out,hlen,zoT hMk.2,hc] at hcnt;have hof:=fun (h:c≤100) W (hE:Ext W7 W)=>znM (c:Int) W (He.out.ext (hW.trans hE)) (by omega) (by omega);rw [zaw] at hof;generalize D c=S at *;have hqs:QyS (.agg #[.slice a1 2 c1,.slice a2 k c2,.int .i64 (M:Int),.int .i64 1,.slice none 0 0,.bool false]):=⟨_,_,_,_,_,_,_,_,none,0,0,_,rfl⟩;have Hca:=Lib.hid hca;have Hch:=Lib.hid hch;have H5:=Lib.hid h5;have H1:=Lib.hid h1;have Hbad:=Lib.hid hbad;have Hcnt:=Lib.hid hcnt;have Hof:=Lib.hid hof;have Hqs:=Lib.hid hqs;have Hb7:=Lib.hid hb7;have HW:=Lib.hid hW;clear hca hch h5 h1 hbad hcnt hof hqs hb7 hW hcn hqe hwd hqv hcd hc hlen hM hE7 Hn2 Hp2 hMi;refine (Hca.out _ (Ext.refl _)).mono ?_;rintro e w8 ⟨rfl,hx8⟩;obtain ⟨q0,q1,q2,q3,q4,q5⟩:=(Hb7.out.ext hx8).cs;have Hx8:=Lib.hid hx8;clear hx8;go_wp2_with fail
 refine (Hch.out _ Hx8.out).mono ?_;rintro e w9 ⟨rfl,hx9⟩;have Hx9:=Lib.hid (Hx8.out.trans hx9);clear hx9 q0 q1 q2 q3 q4 q5;go_wp2_with fail
 refine (H5.out _).mono ?_;rintro e w10 ⟨rfl,hx10⟩;have Hx10:=Lib.hid (Hx9.out.trans hx10);clear hx10;rcases Nat.lt_or_ge 5000 c with g | g
 ·have ho:znV c 5000=1:=znX g;rw [ho];clear ho;obtain ⟨q0,q1,q2,q3,q4,q5⟩:=(Hb7.out.ext Hx10.out).cs;go_wp2_with fail
  refine (zoY _ 4 _ Hqs.out (Hbad.out g _ Hx10.out)).mono ?_;rintro e w11 ⟨rfl,hx11⟩;have Hx11:=Lib.hid (Hx10.out.trans hx11);clear hx11 q0 q1 q2 q3 q4 q5;obtain ⟨q0,q1,q2,q3,q4,q5⟩:=(Hb7.out.ext Hx11.out).cs;go_wp2_with fail
  refine (zpa _ 4 _ Hqs.out (Hbad.out g _ Hx11.out)).mono ?_;rintro e w12 ⟨rfl,hx12⟩;have Hx12:=Lib.hid (Hx11.out.trans hx12);clear hx12 q0 q1 q2 q3 q4 q5;obtain ⟨q0,q1,q2,q3,q4,q5⟩:=(Hb7.out.ext Hx12.out).cs;go_wp2_with fail
  refine (zpb _ (.slice none 0 0) 4 _ Hqs.out (Hbad.out g _ Hx12.out) ⟨_,_,_,rfl⟩ (by decide)).mono ?_;rintro e w13 ⟨rfl,hx13⟩;have Hx13:=Lib.hid (Hx12.out.trans hx13);clear hx13 q0 q1 q2 q3 q4 q5;obtain ⟨q0,q1,q2,q3,q4,q5⟩:=(Hb7.out.ext Hx13.out).cs;go_wp2_with fail
  refine (zoZ _ 4 _ Hqs.out (Hbad.out g _ Hx13.out)).mono ?_;rintro e w14 ⟨rfl,hx14⟩;have HF:=Lib.hid ((HW.out.trans Hx13.out).trans hx14);clear hx14 q0 q1 q2 q3 q4 q5;go_wp2_with fail
  go_ret
  exact ⟨rfl,HF.out⟩
 ·have ho:¬ (0:Int)<znV c 5000:=by have:=(znZ (a:=c) (b:=5000)).2 g;omega
  generalize znV c 5000=z at *;go_wp2_with fail
  refine (H1.out _).mono ?_;rintro e w11 ⟨rfl,hx11⟩;have Hx11:=Lib.hid (Hx10.out.trans hx11);clear hx11;rcases Nat.lt_or_ge 100 c with g1 | g1
  ·have ho1:znV c 100=1:=znX g1;rw [ho1];clear ho1;have HF:=Lib.hid (HW.out.trans Hx11.out);go_wp2_with fail
   go_ret
   exact ⟨rfl,HF.out⟩
  ·have ho1:znV c 100≤0:=znZ.2 g1;generalize znV c 100=z1 at *;obtain ⟨q0,q1,q2,q3,q4,q5⟩:=(Hb7.out.ext Hx11.out).cs;go_wp2_with fail
   refine (Hcnt.out g1 _ Hx11.out).mono ?_;rintro e w12 ⟨rfl,hx12⟩;have Hx12:=Lib.hid (Hx11.out.trans hx12);clear hx12 q0 q1 q2 q3 q4 q5;go_wp2_with fail
   refine (Hof.out g1 _ Hx12.out).mono ?_;rintro e w13 ⟨rfl,hx13⟩;have HF:=Lib.hid ((HW.out.trans Hx12.out).trans hx13);clear hx13;go_wp2_with fail
   go_ret
   exact ⟨rfl,HF.out⟩
end
section
open Go.ChangeShapes Go.WideShapes Go.ChangeAt Go.WideMaps Go.WideElems Go.RowKit
theorem zpg {n:Int}(h:(Lit.int .u8 n).wf=true):0≤n∧n≤255:=by
 simp [Lit.wf,IntKind.min,IntKind.max,IntKind.signed,IntKind.bits] at h;omega
section
variable {H : Type} {enc : TypeId × Value → H} {P : Program}
theorem zph {f:Func}{s:ChangeSpec}{apart fresh handsOn again:Bool}{W W':World}{args:Array Value}{v:Value}{ds gs:List (DataW H)}{before pa pv:List MemPlace}
  (hW:DataW.Whole enc P f.params.toList s.vars apart W args.toList ds gs before)
  (hres:∀ (b:Nat)(sp:Nat→Bool)(hd:Bool),DataW.TrodAll enc P W' b sp hd f.resultTypes.toList (v.resultList f.resultTypes.size) (s.fn H (ds++gs)).results [])
  (hargs:∀ sp:Nat→Bool,(∀ p∈before,sp p.block=true)→DataW.TrodAll enc P W' 0 sp true f.params.toList args.toList (s.fn H (ds++gs)).args pa)
  (hvars:∀ sp:Nat→Bool,(∀ p∈before,sp p.block=true)→DataW.TrodVars enc P W' sp s.vars (s.fn H (ds++gs)).vars pv)
  (hps:before=pa++pv) (hb:Below W.heap.size W W')
  (hok:∀ (j:Nat)(t:TypeId)(r:Value),f.resultTypes[j]?=some t→(v.resultList f.resultTypes.size)[j]?=some r→Value.okWide P W' .any 0 t r) :
  s.post enc P f apart fresh handsOn again W args v W':=by
 have hlt:∀ p∈before,p.block<W.heap.size:=fun p hp=>hW.lt p hp;have hold:∀ p∈before,(fun b=>decide (b<W.heap.size)) p.block=true:=fun p hp=>by simpa using hlt p hp
 refine ⟨ds,gs,before,[],pa,pv,hW,hres _ _ _,hargs _ hold,hvars _ hold,World.keptBut_mono (fun p hp=>⟨hp,?_⟩) (hb.frame (·∈before)),fun _=>?_⟩
 ·rw [hps,List.mem_append] at hp;exact Or.inr hp
 ·obtain ⟨_,_,_,_,_,hz,hn⟩:=hW;refine ⟨hok,_,_,([]++pa)++pv,⟨[]++pa,pv,trodAll_append (hargs _ (fun _ _=>rfl)) (hres _ _ _),hvars _ (fun _ _=>rfl),rfl,?_,?_⟩,?_⟩
  ·intro b off hp;have hin:MemPlace.cell b off∈before:=(by rw [hps];simpa using hp);rw [hb.frozen (hlt _ hin)];exact hz b off hin
  ·intro ha;have:=hn ha;rw [hps] at this;simpa using this
  ·intro p hp _;rw [hps];simpa using hp
end
theorem zpi : ownKnob Tryz.prog.godebug=none:=by kernel_rfl
theorem zpj : (Tryz.prog.globals[0]?).map (·.type)=some 322:=by kernel_rfl
theorem zpk : Tryz.prog.cellsOf 221=1:=by kernel_rfl
theorem zpl : Tryz.prog.cellsOf 322=20:=by kernel_rfl
theorem zpm {W : World} (h : laidMetH Tryz.prog [("math/bits.deBruijn32tab", Rows.laid_math_bits_deBruijn32tab), ("math/bits.deBruijn64tab", Rows.laid_math_bits_deBruijn64tab), ("internal/strconv.uint64pow10", Rows.laid_internal_strconv_uint64pow10), ("strconv.ErrRange", Rows.laid_strconv_ErrRange), ("strconv.ErrSyntax", Rows.laid_strconv_ErrSyntax)] W) : Env W := by
 rw [MakeChecks.laidMetH_plain _ _ _ (by kernel_rfl)] at h;exact Lib.tabIs_of_head (k:=.u64) (zs:=Lib.pow10Tab) zax zpj Tryz.underlying322 Tryz.underlying221 zpk zpl h.tail.tail
def zpn : List (String × DataW Unit) := [("math/bits.deBruijn32tab", Rows.laid_math_bits_deBruijn32tab), ("math/bits.deBruijn64tab", Rows.laid_math_bits_deBruijn64tab), ("internal/strconv.uint64pow10", Rows.laid_internal_strconv_uint64pow10), ("strconv.ErrRange", Rows.laid_strconv_ErrRange), ("strconv.ErrSyntax", Rows.laid_strconv_ErrSyntax)]
theorem zpo (os:Os)(args:Array Value):((World.laidAll Tryz.prog os zpn).forCall (fun _ _=>0) ⟨#[],args,[]⟩).Shaped Tryz.prog:=World.shaped_of_ZipB (by kernel_rfl) (by kernel_rfl)
theorem zpp (os:Os)(args:Array Value):laidMetH Tryz.prog zpn ((World.laidAll Tryz.prog os zpn).forCall (fun _ _=>0) ⟨#[],args,[]⟩).memory:=by
 rw [MakeChecks.laidMetH_plain _ _ _ (by kernel_rfl)];exact laidMet_laidAll _ (by kernel_rfl) (by kernel_rfl)
theorem zpq : laidOutB Tryz.prog=true:=by kernel_rfl
section
variable {H : Type} {enc : TypeId × Value → H} {W W' : World} {sp : Nat → Bool}
theorem zpr : ∀ {ts:List TypeId}{vs:List Value}{ds:List (DataW H)}{ps:List MemPlace},(∀ t∈ts,Tryz.prog.readableRec t=true∧t<Tryz.prog.types.size) →
  DataW.TrodAll enc Tryz.prog W 0 (fun _=>true) true ts vs ds ps→(∀ x∈ps,W.sameAt W' x)→(∀ x∈ps,sp x.block=true)→DataW.TrodAll enc Tryz.prog W' 0 sp true ts vs ds ps
 | [],_,_,_,_,h,_,_=>by
  obtain ⟨rfl,rfl,rfl⟩:=trodAll_nil h;exact trodAll_mk0
 | t::ts,vs,ds,ps,hts,h,hs,hp=>by
  obtain ⟨v,vs',d,ds',p,p',rfl,rfl,rfl,h1,h2⟩:=trodAll_cons h;obtain ⟨hr,hw⟩:=hts t (List.mem_cons_self ..);exact trodAll_cons_mk (WideElems.Trod_stays zpq hr hw h1 (fun x hx=>hs x (List.mem_append_left _ hx)) (fun x hx=>hp x (List.mem_append_left _ hx)))
   (zpr (fun t ht=>hts t (List.mem_cons_of_mem _ ht)) h2 (fun x hx=>hs x (List.mem_append_right _ hx)) (fun x hx=>hp x (List.mem_append_right _ hx)))
end
theorem zps {H:Type}{enc:TypeId × Value→H}{f:Func}{s:ChangeSpec}{W W':World}{args:Array Value}{ds:List (DataW H)}{before:List MemPlace}(hv:s.vars=[])(hts:∀ t∈f.params.toList,Tryz.prog.readableRec t=true∧t<Tryz.prog.types.size)
  (hres:f.resultTypes=#[4]) (hfn:s.fn H ds={ results:=[.lit (.bool true)],args:=ds })
  (hW:DataW.Whole enc Tryz.prog f.params.toList s.vars false W args.toList ds [] before) (hb:Below W.heap.size W W'):s.post enc Tryz.prog f false true false false W args (.bool true) W':=by
 have hW':=hW;obtain ⟨p,q,hA0,hV,rfl,_,_⟩:=hW;rw [hv] at hV;obtain ⟨_,rfl⟩:=trodVars_none hV;have hlt:∀ x∈p++[],x.block<W.heap.size:=fun x hx=>hW'.lt x hx;refine zph (pa:=p) (pv:=[]) hW' (fun _ _ _=>?_) (fun sp hsp=>?_) (fun _ _=>?_) rfl hb ?_
 ·rw [List.append_nil,hfn,hres];exact trodAll_mk1 (shut_bool Tryz.underlying4 _)
 ·rw [List.append_nil,hfn];exact zpr hts hA0 (fun x hx=>hb.same (hlt x (List.mem_append_left _ hx))) (fun x hx=>hsp x (List.mem_append_left _ hx))
 ·rw [List.append_nil,hfn,hv];rfl
 ·exact ok_one hres rfl (okWide_bool_mk Tryz.underlying4 _)
section
variable {H : Type} {enc : TypeId × Value → H} {w : World} {base : Nat} {spare : Nat → Bool} {held : Bool}
theorem zpt {n:Int}(h:(Lit.int .u8 n).wf=true):∃ k:Nat,n=k∧k<256:=by
 have:=zpg h;exact ⟨n.toNat,by omega,by omega⟩
end
end
end Go.Proofs.YtebabancfnmfjaaGreatDoor
