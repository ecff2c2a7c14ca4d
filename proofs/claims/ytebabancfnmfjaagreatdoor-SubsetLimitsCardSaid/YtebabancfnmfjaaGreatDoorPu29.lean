/- Walks: subset.All, subset.Scales where nothing is wrong. A search of few notes has no errors. Walks: schismaref06.EqualRows, law 38's sameInts. Walk: law 38's known. Walk: the law SubsetTurns. Walks: schismaref02's digits, Small, quick and Of at numerals that are not negative. Plain: numerals in parts of nine digits, as the reference joins them. -/
import Derived.Test.YtebabancfnmfjaaGreatDoorPu28
import Derived.Test.YtebabancfnmfjaaGreatDoorPu22
import Derived.Test.YtebabancfnmfjaaGreatDoorPu21
import Derived.Test.YtebabancfnmfjaaGreatDoorPu25
import Derived.Test.YtebabancfnmfjaaGreatDoorPu01
import Derived.BigQuiet
set_option maxRecDepth 100000
set_option maxHeartbeats 4000000
namespace Go.Proofs.YtebabancfnmfjaaGreatDoor
section
open Go.RowKit Go.Lib Go.Shelf
attribute [local go_sem] Oper.semAt_some
structure znx (p:List Int)(N:List (List Rat))(m:Nat)(P:Int)(M:List Int):Prop where
 wd:Wd p N
 m1:1≤m
 mn:m≤N.length
 P1:1≤P
 P6:P≤6
 M0:ziV N.length M 0 M.length=0
 few:zlB N.length m M.length≤5000
 cs:(cho N.length m M N.length [] 0).length≤5000
 all:∀ l∈cho N.length m M N.length [] 0,l.length≤60∧ziW N.length l=0∧(2≤P→P≤6→Wc p (zjc p N l))
theorem zny (v:Value)(p:List Int)(rs:List Qw)(m:Nat)(P:Int)(M:List Int)(b:Bool)(w:World)(he:Env w)(hv:QyV w v p rs (m:Int) P M b)(h:znx p (rs.map Qw.x) m P M) :
  Calls Tryz.prog 54 #[v] w fun e w'=>∃ us vs fs,e=.returned (.tuple #[us,vs,.int .i64 0])∧Fnd w' w.heap.size p (rs.map Qw.x) us vs fs∧fs.map Fw.l=srL P b p (rs.map Qw.x) (cho rs.length m M rs.length [] 0)∧Ext w w':=by
 have hL:(rs.map Qw.x).length=rs.length:=List.length_map ..;obtain ⟨h1,h2,h3,h4,h5,h6,h7,h8,h9⟩:=h;rw [hL] at h3 h6 h7 h8 h9;exact znw v p rs m P M b w he hv h1 h2 h3 h4 h5 h6 h7 h8 h9
theorem znz (v:Value)(p:List Int)(rs:List Qw)(m:Nat)(P:Int)(M:List Int)(b:Bool)(w:World)(he:Env w)(hv:QyV w v p rs (m:Int) P M b)(h:znx p (rs.map Qw.x) m P M) :
  Calls Tryz.prog 17 #[v] w fun e w'=>∃ us vs fs,e=.returned (.tuple #[us,.int .i64 0])∧Fnd w' w.heap.size p (rs.map Qw.x) us vs fs∧fs.map Fw.l=srL P b p (rs.map Qw.x) (cho rs.length m M rs.length [] 0)∧Ext w w':=by
 have hsr:=fun W u (hE:Ext w W)(hu:QyV W u p rs (m:Int) P M b)=>zny u p rs m P M b W (he.ext hE) hu h;obtain ⟨ap,cp,an,cn,am,cm,rfl,hs,hmm⟩:=hv.let;have hE0:Ext w (w.alloc (.cells #[.slice ap p.length cp,.slice an rs.length cn,.int .i64 (m:Int),.int .i64 P,.slice am M.length cm,.bool b] 59)):=(Ext.refl w).alloc _;have hb:=zlp.new w (.slice ap p.length cp) (.slice an rs.length cn) (m:Int) P (.slice am M.length cm) b;have hs0:=hsr _ _ hE0 (hv.ext hE0);have Hs0:=hid hs0;have HE0:=hid hE0;have Hb:=hid hb;clear hsr hE0 hb hs0 hs hmm hv h he;obtain ⟨q0,q1,q2,q3,q4,q5⟩:=Hb.out.cs;generalize srL P b p (rs.map Qw.x) (cho rs.length m M rs.length [] 0)=L at *;go_enter Tryz.func17,Tryz.ntmps17
 go_wp2_with fail
 refine Hs0.out.mono ?_;rintro e w1 ⟨us,vs,fs,rfl,hf,hm,hx⟩;have hf2:=hf.mono (HE0.out).size;obtain ⟨a1,c1,rfl⟩:=zfa hf2.us;obtain ⟨a2,c2,rfl⟩:=zfa hf2.vs;have Hf:=hid hf2;have Hm:=hid hm;have HE1:=hid (HE0.out.trans hx);clear hf hf2 hm hx q0 q1 q2 q3 q4 q5;go_wp2_with fail
 go_ret2
 exact ⟨_,_,fs,rfl,Hf.out,Hm.out,HE1.out⟩
end
section
open Go.RowKit Go.Lib
theorem zn0 {n:Nat}{l:List Int}(hb:∀ x∈l,0≤x∧x<(n:Int))(hp:l.Pairwise (·<·)):ziV n l 0 l.length=0:=by
 have key:∀ i,i<l.length→ziU n l i=0:=fun i hi=>by
  unfold ziU;have h1:=hb _ (List.getElem_mem hi);rw [List.getElem?_eq_getElem hi,Option.getD_some,if_neg (by omega)];by_cases h0:0<i
  ·have h2:=List.pairwise_iff_getElem.1 hp (i - 1) i (by omega) hi (by omega);rw [List.getElem?_eq_getElem (show i - 1<l.length by omega),Option.getD_some,if_neg (by omega)]
  ·rw [if_neg (by omega)]
 have all:∀ m k,k+m=l.length→ziV n l k m=0:=by
  intro m;induction m with
  | zero=>intro k _;rfl
  | succ m ih =>
   intro k hk
   rw [ziV,if_pos (key k (by omega))]
   exact ih (k+1) (by omega)
 exact all l.length 0 (by omega)
theorem zn1 {n:Nat}{l:List Int}(hn:l ≠ [])(hb:∀ x∈l,0≤x∧x<(n:Int))(hp:l.Pairwise (·<·)):ziW n l=0:=by
 unfold ziW;rw [if_neg hn];exact zn0 hb hp
theorem zn2 {n:Nat}{M:List Int}(hb:∀ x∈M,0≤x∧x<(n:Int))(hp:M.Pairwise (·<·)):M.length≤n:=by
 have hs:M ⊆ (List.range n).map (fun (k:Nat)=>(k:Int)):=fun x hx=>by
  have hb:=hb x hx;exact List.mem_map.2 ⟨x.toNat,List.mem_range.2 (by omega),by omega⟩
 have:=ziN (hp.imp (fun h=>by omega)) hs;simpa using this
theorem zn3 {n m:Nat}{M l:List Int}(h:l∈ziS n m M):l.length=m∧(∀ x∈l,0≤x∧x<(n:Int))∧l.Pairwise (·<·):=by
 have h1:=(List.mem_filter.1 h).1;have h2:=ziL (Nat.le_refl _) h1;rw [Nat.sub_self] at h2;exact ⟨ziK h1,h2⟩
theorem znx.of {p:List Int}{N:List (List Rat)}{m:Nat}{P:Int}{M:List Int}(h:Wc p N)(h1:1≤m)(h2:m≤N.length)(P1:1≤P)(P6:P≤6)(M0:ziV N.length M 0 M.length=0):znx p N m P M:=by
 obtain ⟨hb,hp⟩:=zja M0;have hL:=zn2 hb hp;have hf:=h.few;have hcc:=ziT (m:=m) hp hb;refine ⟨h.wd,h1,h2,P1,P6,M0,?_,?_,?_⟩
 ·unfold zlB;split
  ·omega
  ·exact zl7 (N.length - M.length) (by omega) (((m:Int) - (M.length:Int)).toNat) (by omega)
 ·rw [hcc];refine Nat.le_trans (List.length_filter_le _ _) ?_;rw [zly];have a:=zl7 N.length (by omega) m (by omega);rw [zl5 _ _ h2] at a;omega
 ·rw [hcc];intro l hl;obtain ⟨a,b,c⟩:=zn3 hl;have hn:l ≠ []:=by
   intro e;rw [e] at a;simp at a;omega
  exact ⟨by omega,zn1 hn b c,fun _ _=>zkQ h hn (by omega) b c⟩
end
section
open Go.RowKit Go.Lib Go.Shelf
attribute [local go_sem] Oper.semAt_some
theorem zn4 {a b:List Int}{k:Nat}(hl:a.length=b.length)(hk:a.length≤k)(h:a.take k=b.take k):a=b:=by
 rwa [List.take_of_length_le hk,List.take_of_length_le (by omega)] at h
theorem zn5 {a b:List Int}{k:Nat}(hl:a.length=b.length)(hk:k<a.length)(h:a.take k=b.take k)(e:(a[k]?).getD 0=(b[k]?).getD 0):a.take (k+1)=b.take (k+1):=by
 rw [List.take_succ_eq_append_getElem hk,List.take_succ_eq_append_getElem (by omega),h];rw [List.getElem?_eq_getElem hk,List.getElem?_eq_getElem (by omega)] at e;exact congrArg (fun x=>_++[x]) e
theorem zn6 {w:World}{al:Option Addr}{n c:Nat}{l:List Int}(h:Sl w (.slice al n c) (zal l))(k:Nat)(hk:k<l.length):∃ b off,al=some ⟨b,off,none⟩∧w.cell? ⟨b,off+k,none⟩=some (.int .i64 ((l[k]?).getD 0)):=by
 obtain ⟨a2,c2,e,_,_,hc⟩:=h.parts;injection e with e1 _ _;subst e1;exact hc k (.int .i64 ((l[k]?).getD 0)) (by unfold zal;rw [List.getElem?_map,List.getElem?_eq_getElem hk];rfl)
theorem zn7 (va vb:Value)(a b:List Int)(w:World)(ha:Sl w va (zal a))(hb:Sl w vb (zal b))(hla:a.length≤1000)(hlb:b.length≤1000) :
  Calls Tryz.prog 117 #[va,vb] w fun e w'=>e=.returned (.bool (decide (a=b)))∧Ext w w':=by
 obtain ⟨aa,ca,rfl,_,_,_⟩:=ha.parts;obtain ⟨ab,cb,rfl,_,_,_⟩:=hb.parts;rw [zan] at *;rw [zan] at *;have hca:=zn6 ha;have hcb:=zn6 hb;have hla2:=hla;generalize hn:a.length=n at *;generalize hm:b.length=m at *;have Hn:=hid hn;have Hm:=hid hm;have Hca:=hid hca;have Hcb:=hid hcb;clear ha hb hca hcb hn hm;go_enter Tryz.func117,Tryz.ntmps117
 by_cases hnm:n=m
 ·subst hnm;have Hl:=hid (Hn.out.trans Hm.out.symm);go_wp2_with fail
  go_loopw [5] (fun v5 wr=>∃ k:Nat,v5=.int .i64 k∧k≤n∧Hid (a.take k=b.take k)∧Ext w wr) (fun v5 _=>n - (zah v5).toNat)
  case atStart=>exact ⟨0,rfl,Nat.zero_le _,hid rfl,Ext.refl _⟩
  case round =>
   obtain ⟨k,rfl,hk,HT,hE⟩:=hrel;have HE:=hid hE;by_cases hkn:k<n
   ·obtain ⟨b1,o1,rfl,h1⟩:=Hca.out k hkn;obtain ⟨b2,o2,rfl,h2⟩:=Hcb.out k hkn;have c1:=hE.cell h1;have c2:=hE.cell h2;have hk0:(0:Int)≤(k:Int):=(by omega);have hk1:(k:Int)<(n:Int):=(by omega);clear h1 h2 hE;generalize hx:(a[k]?).getD 0=x at *;generalize hy:(b[k]?).getD 0=y at *;have Hx:=hid hx;have Hy:=hid hy;clear hx hy;by_cases hxy:x=y
    ·subst hxy;have Hnx:=hid (zn5 Hl.out (by rw [Hn.out];exact hkn) HT.out (Hx.out.trans Hy.out.symm));go_wp2_with fail
     go_quiet (fail)
     go_wp2_with fail
     go_roundw
     case rel=>exact ⟨k+1,by go_num,hkn,Hnx,HE.out.drewN _⟩
     case measure=>simp [zah];omega
    ·have f1:(x == y)=false:=(by simpa using hxy);have f2:(x != y)=true:=(by simpa using hxy);have hne:decide (a=b)=false:=decide_eq_false fun e=>hxy (by rw [← Hx.out,← Hy.out,e]);have Hne:=hid hne;clear hne hxy;go_wp2_with fail
     go_quiet (fail)
     go_wp2_with fail
     go_ret
     exact ⟨by rw [Hne.out] <;> rfl,HE.out.drewN _⟩
   ·have hkk:¬ (k:Int)<(n:Int):=(by omega);have hyes:decide (a=b)=true:=decide_eq_true (zn4 Hl.out (by rw [Hn.out];omega) HT.out);have Hyes:=hid hyes;clear hyes hE;go_wp2_with fail
    go_ret
    exact ⟨by rw [Hyes.out] <;> rfl,HE.out⟩
 ·have f1:((n:Int) == (m:Int))=false:=by simp;omega
  have f2:((n:Int) != (m:Int))=true:=by simp;omega
  have hne:decide (a=b)=false:=decide_eq_false fun e=>hnm (by rw [← Hn.out,← Hm.out,e]);have Hne:=hid hne;clear hne;go_wp2_with fail
  go_ret
  exact ⟨by rw [Hne.out] <;> rfl,Ext.refl _⟩
theorem zn8 (va vb:Value)(a b:List Int)(w:World)(ha:Sl w va (zal a))(hb:Sl w vb (zal b))(hla:a.length≤1000)(hlb:b.length≤1000) :
  Calls Tryz.prog 57 #[va,vb] w fun e w'=>e=.returned (.bool (decide (a=b)))∧Ext w w':=by
 have h:=zn7 va vb a b w ha hb hla hlb;obtain ⟨aa,ca,rfl,_,_,_⟩:=ha.parts;obtain ⟨ab,cb,rfl,_,_,_⟩:=hb.parts;have Hh:=hid h;clear h ha hb;generalize decide (a=b)=D at *;go_enter Tryz.func57,Tryz.ntmps57
 go_wp2_with fail
 refine Hh.out.mono ?_;rintro e w1 ⟨rfl,hx⟩;have Hx:=hid hx;clear hx;go_wp2_with fail
 go_ret
 exact ⟨rfl,Hx.out⟩
theorem zn9 {rs:List Qw}{N:List (List Rat)}{n:Nat}(h:rs.map Qw.x=N)(hn:N.length=n):rs.length=n:=by
 have:=congrArg List.length h;rw [List.length_map] at this;omega
theorem znA {W:World}{a1:Option Addr}{c1:Nat}{a2:Option Addr}{c2:Nat}{vm:Value}{p:List Int}{rs:List Qw}{n:Nat}{m P:Int}{M:List Int}{b:Bool}(hp:Sl W (.slice a1 p.length c1) (zal p))(hn:RdM W (.slice a2 n c2) rs)(hm:Sl W vm (zal M)) :
  QyV W (.agg #[.slice a1 p.length c1,.slice a2 n c2,.int .i64 m,.int .i64 P,vm,.bool b]) p rs m P M b:=⟨_,_,_,rfl,hp,hn,hm⟩
theorem znB : zm6 3 [2,3] (eqN 12) 12 5 [0,7] [0,2,4,7,9]=.tuple #[.bool true,.int .i64 0]:=by
 unfold zm6;rw [if_pos (by decide),zlg.1];rfl
theorem znC : zm6 3 [2,3] (eqN 12) 12 5 [0,7] [0,1,4,7,9]=.tuple #[.bool false,.int .i64 0]:=by
 unfold zm6;rw [if_pos (by decide),zlg.2];rfl
theorem znD {W:World}(l:List Int)(T:TypeId)(h:l.length≤100):Sl (W.alloc (.cells (zal l).toArray T)) (.slice (some ⟨W.heap.size,0,none⟩) l.length l.length) (zal l):=by
 have:=zhg (us:=zal l) (World.alloc_heap_new W (.cells (zal l).toArray T)) (by rw [zan];unfold maxLen;omega);rw [zan] at this;exact this
theorem znE (w:World)(he:Env w) :
  Calls Tryz.prog 19 #[] w fun e w'=>e=.returned (.bool true)∧Ext w w':=by
 have hwc:Wc [2,3] (eqN 12):=zle (by omega) (by omega);have hel:(eqN 12).length=12:=zkY 12;have htw:=fun W (hE:Ext w W)=>(zlH W (he.ext hE)).mono fun e w' ⟨v,rs,h1,h2,h3,h4⟩=>(show ∃ a1 c1 a2 c2 rs,e=Ending.returned (.agg #[.slice a1 2 c1,.slice a2 12 c2])∧Sl w' (.slice a1 2 c1) (zal [2,3])∧RdM w' (.slice a2 12 c2) rs∧rs.map Qw.x=eqN 12∧Ext W w' by
  obtain ⟨vp,vn,rfl,hop,hqn⟩:=h2;obtain ⟨a1,c1,rfl⟩:=zfa hop;obtain ⟨a2,c2,rfl⟩:=zfa hqn.1;have hl:=zn9 h3 hel;have hr:=hqn.rd;rw [hl] at hr h1;exact ⟨a1,c1,a2,c2,rs,h1,zaj hop,hr,h3,h4⟩)
 have hca:=fun W v rs (hE:Ext w W)(hv:QyV W v [2,3] rs 5 3 [0,7] false)(hm:rs.map Qw.x=eqN 12)=>(show Calls Tryz.prog 21 #[v] W fun e w'=>e=.returned (.tuple #[.string ⟨#[49,50,48]⟩,.int .i64 0])∧Ext W w' from by
  have hl:=zn9 hm hel;have:=zm8 v [2,3] rs 5 3 [0,7] false W (he.ext hE) hv (by rw [hm];exact hwc.wd) (by omega) (by omega) (by omega) (by rw [hl];decide) (by rw [hl];decide);rw [hl,show I (zlB 12 5 ([0,7]:List Int).length)=⟨#[49,50,48]⟩ from by decide +kernel] at this;exact this)
 have hft:=fun (l:List Int) W v vl rs (r:Bool)(hE:Ext w W)(hv:QyV W v [2,3] rs 5 3 [0,7] false)(hm:rs.map Qw.x=eqN 12)(hvl:Sl W vl (zal l))(h0:l ≠ [])(h6:l.length≤12)(hse:ziV 12 l 0 l.length=0)(hr:zm6 3 [2,3] (eqN 12) 12 5 [0,7] l=.tuple #[.bool r,.int .i64 0])=>(show Calls Tryz.prog 31 #[v,vl] W fun e w'=>e=.returned (.tuple #[.bool r,.int .i64 0])∧Ext W w' from by
  have hl:=zn9 hm hel;have hb:=zja hse;have:=zm7 v vl [2,3] rs 5 3 [0,7] false l W (he.ext hE) hv (by rw [hm];exact hwc.wd) hvl (by omega) (by rw [hl];decide) (by decide) (fun _ _ _=>by rw [hm];exact zkQ hwc h0 (by omega) (by rw [hel];exact hb.1) hb.2);rw [hl,hm,hr] at this;exact this)
 have hal:=fun W v rs (hE:Ext w W)(hv:QyV W v [2,3] rs 1 2 [] true)(hm:rs.map Qw.x=eqN 12)=>(show Calls Tryz.prog 17 #[v] W fun e w'=>(∃ g c a5 c5,e=.returned (.tuple #[.slice (some ⟨g,0,none⟩) 1 c,.int .i64 0])∧w'.cell? ⟨g,0,none⟩=some (.slice a5 1 c5)∧Sl w' (.slice a5 1 c5) (zal [0]))∧Ext W w' from by
  have hl:=zn9 hm hel;have h:=znz v [2,3] rs 1 2 [] true W (he.ext hE) hv (by rw [hm];exact znx.of hwc (by omega) (by rw [hel];omega) (by omega) (by omega) (by rw [hel];decide));refine h.mono fun e w' ⟨us,vs,fs,h1,h2,h3,h4⟩=>⟨?_,h4⟩;rw [hl,hm,ziT List.Pairwise.nil (fun x hx=>by cases hx),zlh] at h3;obtain ⟨f,rfl,hfl⟩:=List.map_eq_singleton_iff.1 h3;have hfo:=(h2.all f (List.mem_singleton.2 rfl)).1;rw [hfl] at hfo;obtain ⟨a5,c5,e5⟩:=zfa hfo;have hus:=h2.us;rcases hus.2 with ⟨_,e0⟩ | ⟨g,cap,cur,e0,_⟩
  ·simp at e0
  ·have hc:=World.ownsRow.cells hus (g:=g) (by rw [e0];rfl) 0 f.u rfl;rw [e5] at hc hfo;exact ⟨g,cap,a5,c5,by rw [h1,e0];rfl,hc,zaj hfo⟩)
 have hsi:=fun W va vb (ha:Sl W va (zal [0]))(hb:Sl W vb (zal [0]))=>zn8 va vb [0] [0] W ha hb (by decide) (by decide);have Htw:=hid htw;have Hca:=hid hca;have Hft:=hid hft;have Hal:=hid hal;have Hsi:=hid hsi;clear htw hca hft hal hsi hwc hel he;go_enter Tryz.func19,Tryz.ntmps19
 go_wp2_with fail
 refine (Htw.out _ (Ext.refl _)).mono ?_;rintro e w1 ⟨a1,c1,a2,c2,rs,rfl,hp,hn,hm,hx1⟩;have hE2:=(Ext.refl w1).alloc (.cells #[.int .i64 0,.int .i64 7] 3);have hm2:=znD (W:=w1) [0,7] 3 (by decide);have hE3:=hE2.alloc (.cells #[.slice a1 2 c1,.slice a2 12 c2,.int .i64 5,.int .i64 3,.slice (some ⟨w1.heap.size,0,none⟩) 2 2,.bool false] 59);have hb3:=zlp.new (w1.alloc (.cells #[.int .i64 0,.int .i64 7] 3)) (.slice a1 2 c1) (.slice a2 12 c2) 5 3 (.slice (some ⟨w1.heap.size,0,none⟩) 2 2) false;have hq3:=znA (p:=[2,3]) (m:=5) (P:=3) (b:=false) (hE3.sl hp) (hE3.rdM hn) (((Ext.refl (w1.alloc (.cells #[.int .i64 0,.int .i64 7] 3))).alloc (.cells #[.slice a1 2 c1,.slice a2 12 c2,.int .i64 5,.int .i64 3,.slice (some ⟨w1.heap.size,0,none⟩) 2 2,.bool false] 59)).sl hm2);rw [World.size_alloc] at hb3;have Hq3:=hid hq3;have Hb3:=hid hb3;have HE3:=hid (hx1.trans hE3);have Hm:=hid hm;obtain ⟨q0,q1,q2,q3,q4,q5⟩:=hb3.cs;clear hq3 hb3 hE3 hE2 hm2 hp hn hx1 hm;go_wp2_with fail
 refine (Hca.out _ _ rs HE3.out Hq3.out Hm.out).mono ?_;generalize hW3:(w1.alloc (.cells #[.int .i64 0,.int .i64 7] 3)).alloc (.cells #[.slice a1 2 c1,.slice a2 12 c2,.int .i64 5,.int .i64 3,.slice (some ⟨w1.heap.size,0,none⟩) 2 2,.bool false] 59)=W3 at *;rintro e w2 ⟨rfl,hx2⟩;have hE4:=hx2.alloc (.cells #[.int .i64 0,.int .i64 2,.int .i64 4,.int .i64 7,.int .i64 9] 3);have hl4:=znD (W:=w2) [0,2,4,7,9] 3 (by decide);have hft1:=Hft.out [0,2,4,7,9] _ _ _ rs true (HE3.out.trans hE4) (Hq3.out.ext hE4) Hm.out hl4 (by simp) (by decide) (by decide) znB;obtain ⟨q0,q1,q2,q3,q4,q5⟩:=(Hb3.out.ext hx2).cs;have HE4:=hid hE4;have Hft1:=hid hft1;clear hx2 hE4 hl4 hft1 hW3;go_wp2_with fail
 refine Hft1.out.mono ?_;rintro e w4 ⟨rfl,hx4⟩;have hX4:=HE4.out.trans hx4;have hE5:=hX4.alloc (.cells #[.int .i64 0,.int .i64 1,.int .i64 4,.int .i64 7,.int .i64 9] 3);have hl5:=znD (W:=w4) [0,1,4,7,9] 3 (by decide);have hft2:=Hft.out [0,1,4,7,9] _ _ _ rs false (HE3.out.trans hE5) (Hq3.out.ext hE5) Hm.out hl5 (by simp) (by decide) (by decide) znC;obtain ⟨q0,q1,q2,q3,q4,q5⟩:=(Hb3.out.ext hX4).cs;have HE5:=hid hE5;have Hft2:=hid hft2;clear hx4 hX4 hE5 hl5 hft2 Hft1;go_wp2_with fail
 refine Hft2.out.mono ?_;rintro e w5 ⟨rfl,hx5⟩;have HE6:=hid (HE3.out.trans (HE5.out.trans hx5));clear hx5 q0 q1 q2 q3 q4 q5 Hft2;go_wp2_with fail
 refine (Htw.out _ HE6.out).mono ?_;rintro e w6 ⟨a3,c3,a4,c4,rs6,rfl,hp6,hn6,hm6,hx6⟩;have hq6:=znA (p:=[2,3]) (m:=1) (P:=2) (b:=true) (vm:=.slice none 0 0) (M:=[]) hp6 hn6 (.inl ⟨none,0,rfl,Nat.zero_le _,rfl⟩);have hal6:=Hal.out w6 _ rs6 (HE6.out.trans hx6) hq6 hm6;have HE7:=hid (HE6.out.trans hx6);have Hal6:=hid hal6;clear hx6 hq6 hal6 hp6 hn6 hm6;go_wp2_with fail
 refine Hal6.out.mono ?_;rintro e w7 ⟨⟨g,c,a5,c5,rfl,hc7,hs7⟩,hx7⟩;have hE8:=(Ext.refl w7).alloc (.cells #[.int .i64 0] 3);have hl8:=znD (W:=w7) [0] 3 (by decide);have hsi:=Hsi.out _ _ _ (hE8.sl hs7) hl8;have HE8:=hid (HE7.out.trans (hx7.trans hE8));have Hsi8:=hid hsi;clear hx7 hs7 hE8 hl8 hsi;go_wp2_with fail
 refine Hsi8.out.mono ?_;rintro e w8 ⟨rfl,hx8⟩;have HE9:=hid (HE8.out.trans hx8);clear hx8 hc7;go_wp2_with fail
 go_ret
 exact ⟨by simp,HE9.out⟩
structure znF (W0 w:World)(va vb:Value)(la lb:List Int):Prop where
 a:zeZ w W0.heap.size va la
 b:zeZ w W0.heap.size vb lb
 ne:∀ r,va.ownBlock=some r→vb.ownBlock ≠ some r
 x:Ext W0 w
theorem znF.nil (W:World):znF W W (.slice none 0 0) (.slice none 0 0) [] []:=⟨⟨rfl,.inl ⟨rfl,rfl⟩⟩,⟨rfl,.inl ⟨rfl,rfl⟩⟩,fun r h=>(by simp [Value.ownBlock] at h),Ext.refl _⟩
theorem znF.swap {W0 w:World}{va vb:Value}{la lb:List Int}(h:znF W0 w va vb la lb):znF W0 w vb va lb la:=⟨h.b,h.a,fun r e f=>h.ne r f e,h.x⟩
theorem znF.ext {W0 w w':World}{va vb:Value}{la lb:List Int}(h:znF W0 w va vb la lb)(hx:Ext w w'):znF W0 w' va vb la lb:=⟨hx.ownI h.a,hx.ownI h.b,h.ne,h.x.trans hx⟩
theorem znF.put {W0 w V:World}{va vb:Value}{la lb:List Int}{o:Obj}{x:Int}{g cap n:Nat}(h:znF W0 w va vb la lb)(hn:la.length=n)
  (hown:V.ownsRow W0.heap.size 3 1 (.slice (some ⟨g,0,none⟩) (n+1) cap) (n+1) (zal la++[.int .i64 x])) (hg:(w.alloc o).grownBy V va.ownBlock) (hat:va.ownBlock=some g∨g=w.heap.size+1) :
  znF W0 V (.slice (some ⟨g,0,none⟩) (n+1) cap) vb (la++[x]) lb:=by
 subst hn;refine ⟨?_,?_,fun r e=>?_,?_⟩
 ·unfold zeZ;rw [List.length_append,List.length_singleton,zal,List.map_append];exact hown
 ·refine World.ownsRow.kept (World.ownsRow.alloc h.b o) hg ?_
  cases hv:vb.ownBlock with
  | none=>exact .inl rfl
  | some r=>exact .inr fun e=>h.ne r e.symm hv
 ·have e2:g=r:=by simpa [Value.ownBlock] using e
  subst e2;intro f;rcases hat with k | k
  ·exact h.ne g k f
  ·have:=(World.ownsRow.lt h.b g f).2;omega
 ·exact (h.x.alloc o).grown hg fun k e=>(World.ownsRow.lt h.a k e).1
theorem znG {n i:Nat}(h:i<(D n).size):(D n)[i]=(decDigits n)[i]'(by rw [decDigits_length,← zav];exact h):=rfl
theorem znH {n i:Nat}(h:i<(D n).size):48≤((D n)[i]).toNat∧((D n)[i]).toNat≤57:=by
 rw [znG h];exact Dec.dig_dec n _ (List.getElem_mem _)
theorem znI (n:Nat)(w:World)(hn:nDigits n≤1000) :
  Calls Tryz.prog 65 #[.string (D n)] w fun e w'=>e=.returned (.string (D n))∧w=w':=by
 have hs:=zav n;have hp:=zbi n;have h0:=znH hp;go_enter Tryz.func65,Tryz.ntmps65
 go_wp2_with fail
 go_ret
 exact ⟨rfl,rfl⟩
theorem znJ (n:Nat)(w:World)(hn:n<1000000000000000000) :
  Calls Tryz.prog 189 #[.string (D n)] w fun e w'=>e=.returned (.tuple #[.int .i64 (n:Int),.bool true])∧Ext w w':=by
 have hs:=zav n;have hp:=zbi n;have h0:=znH hp;have h18:=Dec.nDigits_le (n:=n) (k:=18) (by decide) hn;have hat:∀ i (h:i<(D n).size),(48≤((D n)[i]).toNat∧((D n)[i]).toNat≤57)∧Dec.val 0 ((decDigits n).take (i+1))=10 * Dec.val 0 ((decDigits n).take i)+(((D n)[i]).toNat - 48):=fun i h=>by
  refine ⟨znH h,?_⟩;have hl:i<(decDigits n).length:=by rw [decDigits_length,← hs];exact h
  rw [List.take_succ_eq_append_getElem hl,Dec.val_append,Dec.val_cons,Dec.val_nil,znG h];rfl
 have hle:∀ i,i≤(D n).size→Dec.val 0 ((decDigits n).take i)≤n:=fun i h=>by
  have e:=Dec.val_append ((decDigits n).take i) ((decDigits n).drop i) 0;rw [List.take_append_drop,Dec.val_dec,Dec.val_acc] at e;have h10:0<10 ^ ((decDigits n).drop i).length:=Nat.pos_of_ne_zero (by simp);have:=Nat.le_mul_of_pos_right (Dec.val 0 ((decDigits n).take i)) h10;omega
 have hfull:Dec.val 0 ((decDigits n).take (D n).size)=n:=by
  rw [hs,← decDigits_length,List.take_length,Dec.val_dec]
 generalize hS:D n=S at *;have Hat:=hid hat;have Hle:=hid hle;have Hfull:=hid hfull;clear hat hle hfull hS;have hsz:S.size≤18:=by omega
 clear hs h18;go_enter Tryz.func189,Tryz.ntmps189
 go_wp2_with fail
 go_loopw [5,7,8] (fun v5 v7 _ wr=>∃ i:Nat,v5=.int .i64 i∧i≤S.size∧v7=.int .i64 (-(Dec.val 0 ((decDigits n).take i):Nat))∧Ext w wr) (fun v5 _ _ _=>S.size - (zah v5).toNat)
 case atStart=>exact ⟨0,rfl,Nat.zero_le _,rfl,Ext.refl _⟩
 case round =>
  obtain ⟨i,rfl,hi,rfl,hE⟩:=hrel;have hv:=Hle.out i hi;have HE:=hid hE;clear hE;by_cases hlt:i<S.size
  ·obtain ⟨hd,hnx⟩:=Hat.out i hlt;have hv2:=Hle.out (i+1) hlt;generalize Dec.val 0 ((decDigits n).take i)=V at *;have ht:¬ (-(V:Int)<(-9223372036854775808+((S[i].toNat:Int) - 48)).tdiv 10):=by
    rw [show (-9223372036854775808+((S[i].toNat:Int) - 48))=-(9223372036854775808 - ((S[i].toNat:Int) - 48)) by omega,Int.neg_tdiv,Int.tdiv_eq_ediv_of_nonneg (by omega)];omega
   have hi0:(0:Int)≤(i:Int):=(by omega);have hi1:(i:Int)<(S.size:Int):=(by omega);go_wp2_with fail
   go_roundw
   case rel =>
    refine ⟨_,_,_,_,⟨i+1,rfl,hlt,rfl,HE.out⟩,rfl,rfl,?_,?_⟩
    ·go_num
    ·rw [hnx];congr 1;omega
   case measure=>simp [zah];omega
  ·obtain rfl:i=S.size:=by omega
   have hf:=Hfull.out;rw [hf] at hv ⊢;go_wp2_with fail
   go_ret2
   refine ⟨?_,HE.out⟩;congr 4
theorem znK (n:Nat)(w:World)(hn:n<1000000000000000000) :
  Calls Tryz.prog 123 #[.string (D n)] w fun e w'=>e=.returned (.tuple #[.int .i64 (n:Int),.bool true])∧Ext w w':=by
 have h18:=Dec.nDigits_le (n:=n) (k:=18) (by decide) hn;have hdg:=fun W=>znI n W (by omega);have hsm:=fun W=>znJ n W hn;have hs:(D n).size≤18:=by rw [zav];exact h18
 generalize D n=S at *;have Hdg:=hid hdg;have Hsm:=hid hsm;clear hdg hsm;go_enter Tryz.func123,Tryz.ntmps123
 go_wp2_with fail
 refine (Hdg.out _).mono ?_;rintro e w1 ⟨rfl,rfl⟩;go_wp2_with fail
 refine (Hsm.out _).mono ?_;rintro e w2 ⟨rfl,hx2⟩;go_wp2_with fail
 go_ret2
 exact ⟨rfl,hx2⟩
theorem znL (n:Nat)(w:World)(hn:1000000000000000000≤n)(h6:nDigits n≤1000) :
  Calls Tryz.prog 123 #[.string (D n)] w fun e w'=>e=.returned (.tuple #[.int .i64 0,.bool false])∧Ext w w':=by
 have h18:18<nDigits n:=by
  rcases Nat.lt_or_ge 18 (nDigits n) with h | h
  ·exact h
  ·have h1:=lt_pow_nDigits n;have h2:=Nat.pow_le_pow_right (n:=10) (by decide) h;rw [show (10:Nat) ^ 18=1000000000000000000 from rfl] at h2;omega
 have hdg:=fun W=>znI n W h6;have hs:(18:Int)<((D n).size:Int):=by rw [zav];omega
 have hs6:(D n).size≤1000:=by rw [zav];exact h6
 generalize D n=S at *;have Hdg:=hid hdg;clear hdg hn h18 h6;go_enter Tryz.func123,Tryz.ntmps123
 go_wp2_with fail
 refine (Hdg.out _).mono ?_;rintro e w1 ⟨rfl,rfl⟩;go_wp2_with fail
 go_ret2
 exact ⟨rfl,Ext.refl _⟩
theorem znM (z:Int)(w:World)(he:Env w)(h0:-9223372036854775808≤z)(h1:z≤9223372036854775807) :
  Calls Tryz.prog 27 #[.int .i64 z] w fun e w'=>e=.returned (.string (I z))∧Ext w w':=by
 have hi:=zaA z h0 h1 w he;have Hi:=hid hi;clear hi;go_enter Tryz.func27,Tryz.ntmps27
 go_wp2_with fail
 refine Hi.out.mono ?_;rintro e w1 ⟨rfl,hx1⟩;go_wp2_with fail
 go_ret
 exact ⟨rfl,hx1⟩
theorem znN (a b:Nat)(w:World)(he:Env w)(h:nDigits a+nDigits b≤18) :
  Calls Tryz.prog 63 #[.string (D a),.string (D b)] w fun e w'=>e=.returned (.string (D (a * b)))∧Ext w w':=by
 have ha:=lt_pow_nDigits a;have hb:=lt_pow_nDigits b;have pa:=nDigits_pos a;have pb:=nDigits_pos b;have hab:a * b<1000000000000000000:=by
  have h1:a * b<10 ^ nDigits a * 10 ^ nDigits b:=Nat.mul_lt_mul'' ha hb;rw [← Nat.pow_add] at h1;have h2:=Nat.pow_le_pow_right (n:=10) (by decide) h;rw [show (10:Nat) ^ 18=1000000000000000000 from rfl] at h2;omega
 have ha2:a<1000000000000000000:=by
  have h2:=Nat.pow_le_pow_right (n:=10) (by decide) (show nDigits a≤18 by omega);rw [show (10:Nat) ^ 18=1000000000000000000 from rfl] at h2;omega
 have hb2:b<1000000000000000000:=by
  have h2:=Nat.pow_le_pow_right (n:=10) (by decide) (show nDigits b≤18 by omega);rw [show (10:Nat) ^ 18=1000000000000000000 from rfl] at h2;omega
 have hda:=fun W=>znI a W (by omega);have hdb:=fun W=>znI b W (by omega);have hqa:=fun W=>znK a W ha2;have hqb:=fun W=>znK b W hb2;have hof:=fun W (hE:Ext w W)=>znM ((a * b:Nat):Int) W (he.ext hE) (by omega) (by omega);rw [zaw,Int.natCast_mul] at hof;have hsz:(D a).size+(D b).size≤18:=by rw [zav,zav];exact h
 have hm0:(0:Int)≤(a:Int) * (b:Int)∧(a:Int) * (b:Int)<1000000000000000000:=by rw [← Int.natCast_mul];omega
 have hwr:IntKind.i64.wrap ((a:Int) * (b:Int))=(a:Int) * (b:Int):=IntWalk.i64_in _ (by omega);generalize D a=SA at *;generalize D b=SB at *;generalize D (a * b)=SC at *;have Hda:=hid hda;have Hdb:=hid hdb;have Hqa:=hid hqa;have Hqb:=hid hqb;have Hof:=hid hof;clear hda hdb hqa hqb hof ha hb ha2 hb2 hab pa pb h;go_enter Tryz.func63,Tryz.ntmps63
 go_wp2_with fail
 refine (Hda.out _).mono ?_;rintro e w1 ⟨rfl,rfl⟩;go_wp2_with fail
 refine (Hdb.out _).mono ?_;rintro e w1 ⟨rfl,rfl⟩;go_wp2_with fail
 refine (Hqa.out _).mono ?_;rintro e w2 ⟨rfl,hx2⟩;have Hx2:=hid hx2;clear hx2;go_wp2_with fail
 refine (Hqb.out _).mono ?_;rintro e w3 ⟨rfl,hx3⟩;have Hx3:=hid (Hx2.out.trans hx3);clear hx3;go_wp2_with fail
 refine (Hof.out _ Hx3.out).mono ?_;rintro e w4 ⟨rfl,hx4⟩;go_wp2_with fail
 go_ret
 exact ⟨rfl,Hx3.out.trans hx4⟩
theorem znO (a b:Nat)(w:World)(he:Env w)(ha:a<1000000000000000000)(hb:b<1000000000000000000)(hb0:0<b) :
  Calls Tryz.prog 62 #[.string (D a),.string (D b)] w fun e w'=>e=.returned (.tuple #[.string (D (a / b)),.string (D (a % b))])∧Ext w w':=by
 have hqa:=fun W=>znK a W ha;have hqb:=fun W=>znK b W hb;obtain ⟨q,hq⟩:∃ q,q=a / b:=⟨_,rfl⟩;obtain ⟨r,hr⟩:∃ r,r=a % b:=⟨_,rfl⟩;rw [← hq,← hr];have hd:q≤a:=by rw [hq];exact Nat.div_le_self _ _
 have hm:r<b:=by rw [hr];exact Nat.mod_lt _ hb0
 have hof1:=fun W (hE:Ext w W)=>znM (q:Int) W (he.ext hE) (by omega) (by omega);have hof2:=fun W (hE:Ext w W)=>znM (r:Int) W (he.ext hE) (by omega) (by omega);rw [zaw] at hof1 hof2;have e1:(a:Int).tdiv (b:Int)=(q:Int):=by rw [Int.tdiv_eq_ediv_of_nonneg (by omega),hq];exact (Int.natCast_ediv a b).symm
 have e2:(a:Int).tmod (b:Int)=(r:Int):=by rw [Int.tmod_eq_emod_of_nonneg (by omega),hr];exact (Int.natCast_emod a b).symm
 clear hq hr;have hbi:¬ (b:Int)=0:=by omega
 have hbn:¬ b=0:=by omega
 generalize D a=SA at *;generalize D b=SB at *;generalize D q=SC at *;generalize D r=SR at *;have Hqa:=hid hqa;have Hqb:=hid hqb;have Hof1:=hid hof1;have Hof2:=hid hof2;clear hqa hqb hof1 hof2;have hwq:IntKind.i64.wrap (q:Int)=(q:Int):=IntWalk.i64_in _ (by omega);have hwr:IntKind.i64.wrap (r:Int)=(r:Int):=IntWalk.i64_in _ (by omega);have hr0:¬ (r:Int)<0:=by omega
 have hb1:¬ (b:Int)<0:=by omega
 go_enter Tryz.func62,Tryz.ntmps62
 go_wp2_with fail
 refine (Hqa.out _).mono ?_;rintro e w2 ⟨rfl,hx2⟩;have Hx2:=hid hx2;clear hx2;go_wp2_with fail
 refine (Hqb.out _).mono ?_;rintro e w3 ⟨rfl,hx3⟩;have Hx3:=hid (Hx2.out.trans hx3);clear hx3;go_wp2_with fail
 go_quiet (fail)
 rcases Nat.eq_zero_or_pos r with h0 | h0
 case' inl =>
  have h2:((r:Int) == 0)=true:=by rw [h0];rfl
  have h3:((r:Int) != 0)=false:=by rw [h0];rfl
  clear h0;go_wp2_with fail
 case' inr =>
  have h2:((r:Int) == 0)=false:=by simpa using (show ¬ (r:Int)=0 by omega)
  have h3:((r:Int) != 0)=true:=by simpa using (show ¬ (r:Int)=0 by omega)
  clear h0;go_wp2_with fail
 all_goals
  clear h2 h3;refine (Hof1.out _ (Hx3.out.drewN _)).mono ?_;rintro e w4 ⟨rfl,hx4⟩;have Hx4:=hid ((Hx3.out.drewN _).trans hx4);clear hx4;go_wp2_with fail
  refine (Hof2.out _ Hx4.out).mono ?_;rintro e w5 ⟨rfl,hx5⟩;have Hx5:=hid (Hx4.out.trans hx5);clear hx5;go_wp2_with fail
  go_ret2
  exact ⟨rfl,Hx5.out⟩
end
section
open Go.RowKit Go.Lib
theorem znP : ∀ {a b:List UInt8},Dec.Dig a→Dec.Dig b→a.length=b.length→Dec.val 0 a=Dec.val 0 b→a=b
 | [],[],_,_,_,_=>rfl
 | [],_::_,_,_,h,_=>by cases h
 | _::_,[],_,_,h,_=>by cases h
 | c::a,d::b,ha,hb,hl,hv=>by
  have hc:=ha c (List.mem_cons_self ..);have hd:=hb d (List.mem_cons_self ..);have ha':Dec.Dig a:=fun x hx=>ha x (List.mem_cons_of_mem _ hx);have hb':Dec.Dig b:=fun x hx=>hb x (List.mem_cons_of_mem _ hx);have hl':a.length=b.length:=by simpa using hl
  have h1:=Dec.val_lt a ha';have h2:=Dec.val_lt b hb';rw [Dec.val_cons,Dec.val_cons,Dec.val_acc a,Dec.val_acc b,← hl',Nat.mul_zero,Nat.zero_add,Nat.zero_add] at hv;rw [← hl'] at h2;have e:Dec.dv c=Dec.dv d:=by
   have k1:(Dec.dv c * 10 ^ a.length+Dec.val 0 a) / 10 ^ a.length=Dec.dv c:=by
    rw [Nat.mul_comm,Nat.mul_add_div (Nat.pos_of_ne_zero (by simp)),Nat.div_eq_of_lt h1,Nat.add_zero]
   have k2:(Dec.dv d * 10 ^ a.length+Dec.val 0 b) / 10 ^ a.length=Dec.dv d:=by
    rw [Nat.mul_comm,Nat.mul_add_div (Nat.pos_of_ne_zero (by simp)),Nat.div_eq_of_lt h2,Nat.add_zero]
   rw [← k1,← k2,hv]
  have e2:c=d:=by
   unfold Dec.dv at e;apply UInt8.toNat_inj.1;omega
  rw [e] at hv;rw [e2,znP ha' hb' hl' (by omega)]
theorem znQ {n k:Nat}(h1:10 ^ k≤n)(h2:n<10 ^ (k+1)):nDigits n=k+1:=by
 have a:=Dec.nDigits_le (n:=n) (k:=k+1) (by omega) h2;have b:¬ nDigits n≤k:=fun h=>by
  have:=lt_pow_nDigits n;have:=Nat.pow_le_pow_right (n:=10) (by decide) h;omega
 omega
theorem znR {h l:Nat}(hh:0<h)(hl:l<1000000000):decDigits (h * 1000000000+l)=decDigits h++(List.replicate (9 - nDigits l) 48++decDigits l):=by
 have hd9:=Dec.nDigits_le (n:=l) (k:=9) (by decide) hl;have hz:∀ k:Nat,Dec.Dig (List.replicate k 48):=fun k c hc=>by rw [(List.mem_replicate.1 hc).2];decide
 have hv:∀ k acc:Nat,Dec.val acc (List.replicate k 48)=acc * 10 ^ k:=fun k=>by
  induction k with
  | zero=>intro acc;rw [List.replicate_zero,Dec.val_nil,Nat.pow_zero,Nat.mul_one]
  | succ k ih =>
   intro acc
   rw [List.replicate_succ,Dec.val_cons,ih,show Dec.dv 48=0 from rfl,Nat.add_zero,Nat.pow_succ,Nat.mul_comm 10 acc,Nat.mul_assoc,Nat.mul_comm 10]
 refine znP (Dec.dig_dec _) (Dec.dig_append (Dec.dig_dec _) (Dec.dig_append (hz _) (Dec.dig_dec _))) ?_ ?_
 ·simp only [List.length_append,List.length_replicate,decDigits_length];have a:=lt_pow_nDigits h;have b:=Dec.pow_le_of_nDigits h (by omega);have hn:=nDigits_pos h;have e:(10:Nat) ^ (nDigits h - 1+9)=10 ^ (nDigits h - 1) * 1000000000:=by rw [Nat.pow_add]
  have e2:(10:Nat) ^ (nDigits h+9)=10 ^ nDigits h * 1000000000:=by rw [Nat.pow_add]
  have h1:10 ^ (nDigits h - 1+9)≤h * 1000000000+l:=by
   rw [e];exact Nat.le_trans (Nat.mul_le_mul_right 1000000000 b) (Nat.le_add_right _ _)
  have h2:h * 1000000000+l<10 ^ (nDigits h - 1+9+1):=by
   rw [show nDigits h - 1+9+1=nDigits h+9 by omega,e2];have h3:h * 1000000000+l<(h+1) * 1000000000:=by
    rw [Nat.add_mul,Nat.one_mul];exact Nat.add_lt_add_left hl _
   exact Nat.lt_of_lt_of_le h3 (Nat.mul_le_mul_right 1000000000 a)
  clear e e2;rw [znQ h1 h2];omega
 ·rw [Dec.val_dec,Dec.val_append,Dec.val_dec,Dec.val_append,hv,Dec.val_acc,decDigits_length,Dec.val_dec,Nat.mul_assoc,← Nat.pow_add,show 9 - nDigits l+nDigits l=9 by omega]
end
end Go.Proofs.YtebabancfnmfjaaGreatDoor
