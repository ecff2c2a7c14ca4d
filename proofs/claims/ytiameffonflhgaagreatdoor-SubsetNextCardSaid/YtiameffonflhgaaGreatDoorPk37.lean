/- Walks: subset.All, subset.Scales where nothing is wrong. A search of few notes has no errors. Walks: schismaref06.EqualRows, law 38's sameInts. Walk: law 38's known. Plain: subsets of equal scales turn into modes when all indices move. Walk: the law SubsetTurns. Walk: law 38's Make: the query of a draft. -/
import Derived.Test.YtiameffonflhgaaGreatDoorPk36
import Derived.Test.YtiameffonflhgaaGreatDoorPk30
import Derived.Test.YtiameffonflhgaaGreatDoorPk29
import Derived.Test.YtiameffonflhgaaGreatDoorPk33
import Derived.Test.YtiameffonflhgaaGreatDoorPk23
import Derived.Test.YtiameffonflhgaaGreatDoorPk25
import Derived.Test.YtiameffonflhgaaGreatDoorPk08
set_option maxRecDepth 100000
set_option maxHeartbeats 4000000
namespace Go.Proofs.YtiameffonflhgaaGreatDoor
open Go.RowKit Go.Lib Go.Shelf
attribute [local go_sem] Oper.semAt_some
structure zpS (p:List Int)(N:List (List Rat))(m:Nat)(P:Int)(M:List Int):Prop where
 wd:Wd p N
 m1:1≤m
 mn:m≤N.length
 P1:1≤P
 P6:P≤6
 M0:zld N.length M 0 M.length=0
 few:zof N.length m M.length≤5000
 cs:(cho N.length m M N.length [] 0).length≤5000
 all:∀ l∈cho N.length m M N.length [] 0,l.length≤60∧zle N.length l=0∧(2≤P→P≤6→Wc p (zlk p N l))
theorem zpT (v:Value)(p:List Int)(rs:List Qw)(m:Nat)(P:Int)(M:List Int)(b:Bool)(w:World)(he:Env w)(hv:QyV w v p rs (m:Int) P M b)(h:zpS p (rs.map Qw.x) m P M) :
  Calls Tryz.prog 62 #[v] w fun e w'=>∃ us vs fs,e=.returned (.tuple #[us,vs,.int .i64 0])∧Fnd w' w.heap.size p (rs.map Qw.x) us vs fs∧fs.map Fw.l=srL P b p (rs.map Qw.x) (cho rs.length m M rs.length [] 0)∧Ext w w':=by
 have hL:(rs.map Qw.x).length=rs.length:=List.length_map ..;obtain ⟨h1,h2,h3,h4,h5,h6,h7,h8,h9⟩:=h;rw [hL] at h3 h6 h7 h8 h9;exact zpR v p rs m P M b w he hv h1 h2 h3 h4 h5 h6 h7 h8 h9
theorem zpU (v:Value)(p:List Int)(rs:List Qw)(m:Nat)(P:Int)(M:List Int)(b:Bool)(w:World)(he:Env w)(hv:QyV w v p rs (m:Int) P M b)(h:zpS p (rs.map Qw.x) m P M) :
  Calls Tryz.prog 19 #[v] w fun e w'=>∃ us vs fs,e=.returned (.tuple #[us,.int .i64 0])∧Fnd w' w.heap.size p (rs.map Qw.x) us vs fs∧fs.map Fw.l=srL P b p (rs.map Qw.x) (cho rs.length m M rs.length [] 0)∧Ext w w':=by
 have hsr:=fun W u (hE:Ext w W)(hu:QyV W u p rs (m:Int) P M b)=>zpT u p rs m P M b W (he.ext hE) hu h;obtain ⟨ap,cp,an,cn,am,cm,rfl,hs,hmm⟩:=hv.let;have hE0:Ext w (w.alloc (.cells #[.slice ap p.length cp,.slice an rs.length cn,.int .i64 (m:Int),.int .i64 P,.slice am M.length cm,.bool b] 59)):=(Ext.refl w).alloc _;have hb:=znK.new w (.slice ap p.length cp) (.slice an rs.length cn) (m:Int) P (.slice am M.length cm) b;have hs0:=hsr _ _ hE0 (hv.ext hE0);have Hs0:=hid hs0;have HE0:=hid hE0;have Hb:=hid hb;clear hsr hE0 hb hs0 hs hmm hv h he;obtain ⟨q0,q1,q2,q3,q4,q5⟩:=Hb.out.cs;generalize srL P b p (rs.map Qw.x) (cho rs.length m M rs.length [] 0)=L at *;go_enter Tryz.func19,Tryz.ntmps19
 go_wp2_with fail
 refine Hs0.out.mono ?_;rintro e w1 ⟨us,vs,fs,rfl,hf,hm,hx⟩;have hf2:=hf.mono (HE0.out).size;obtain ⟨a1,c1,rfl⟩:=zec hf2.us;obtain ⟨a2,c2,rfl⟩:=zec hf2.vs;have Hf:=hid hf2;have Hm:=hid hm;have HE1:=hid (HE0.out.trans hx);clear hf hf2 hm hx q0 q1 q2 q3 q4 q5;go_wp2_with fail
 go_ret2
 exact ⟨_,_,fs,rfl,Hf.out,Hm.out,HE1.out⟩
theorem zpV (v:Value)(p:List Int)(rs:List Qw)(m:Nat)(P:Int)(M:List Int)(b:Bool)(w:World)(he:Env w)(hv:QyV w v p rs (m:Int) P M b)(h:zpS p (rs.map Qw.x) m P M) :
  Calls Tryz.prog 28 #[v] w fun e w'=>∃ us vs fs,e=.returned (.tuple #[vs,.int .i64 0])∧Fnd w' w.heap.size p (rs.map Qw.x) us vs fs∧fs.map Fw.l=srL P b p (rs.map Qw.x) (cho rs.length m M rs.length [] 0)∧Ext w w':=by
 have hsr:=fun W u (hE:Ext w W)(hu:QyV W u p rs (m:Int) P M b)=>zpT u p rs m P M b W (he.ext hE) hu h;obtain ⟨ap,cp,an,cn,am,cm,rfl,hs,hmm⟩:=hv.let;have hE0:Ext w (w.alloc (.cells #[.slice ap p.length cp,.slice an rs.length cn,.int .i64 (m:Int),.int .i64 P,.slice am M.length cm,.bool b] 59)):=(Ext.refl w).alloc _;have hb:=znK.new w (.slice ap p.length cp) (.slice an rs.length cn) (m:Int) P (.slice am M.length cm) b;have hs0:=hsr _ _ hE0 (hv.ext hE0);have Hs0:=hid hs0;have HE0:=hid hE0;have Hb:=hid hb;clear hsr hE0 hb hs0 hs hmm hv h he;obtain ⟨q0,q1,q2,q3,q4,q5⟩:=Hb.out.cs;generalize srL P b p (rs.map Qw.x) (cho rs.length m M rs.length [] 0)=L at *;go_enter Tryz.func28,Tryz.ntmps28
 go_wp2_with fail
 refine Hs0.out.mono ?_;rintro e w1 ⟨us,vs,fs,rfl,hf,hm,hx⟩;have hf2:=hf.mono (HE0.out).size;obtain ⟨a1,c1,rfl⟩:=zec hf2.us;obtain ⟨a2,c2,rfl⟩:=zec hf2.vs;have Hf:=hid hf2;have Hm:=hid hm;have HE1:=hid (HE0.out.trans hx);clear hf hf2 hm hx q0 q1 q2 q3 q4 q5;go_wp2_with fail
 go_ret2
 exact ⟨_,_,fs,rfl,Hf.out,Hm.out,HE1.out⟩
end Go.Proofs.YtiameffonflhgaaGreatDoor

namespace Go.Proofs.YtiameffonflhgaaGreatDoor
open Go.RowKit Go.Lib
theorem zpW {n:Nat}{l:List Int}(hb:∀ x∈l,0≤x∧x<(n:Int))(hp:l.Pairwise (·<·)):zld n l 0 l.length=0:=by
 have key:∀ i,i<l.length→zlc n l i=0:=fun i hi=>by
  unfold zlc;have h1:=hb _ (List.getElem_mem hi);rw [List.getElem?_eq_getElem hi,Option.getD_some,if_neg (by omega)];by_cases h0:0<i
  ·have h2:=List.pairwise_iff_getElem.1 hp (i - 1) i (by omega) hi (by omega);rw [List.getElem?_eq_getElem (show i - 1<l.length by omega),Option.getD_some,if_neg (by omega)]
  ·rw [if_neg (by omega)]
 have all:∀ m k,k+m=l.length→zld n l k m=0:=by
  intro m;induction m with
  | zero=>intro k _;rfl
  | succ m ih =>
   intro k hk
   rw [zld,if_pos (key k (by omega))]
   exact ih (k+1) (by omega)
 exact all l.length 0 (by omega)
theorem zpX {n:Nat}{l:List Int}(hn:l ≠ [])(hb:∀ x∈l,0≤x∧x<(n:Int))(hp:l.Pairwise (·<·)):zle n l=0:=by
 unfold zle;rw [if_neg hn];exact zpW hb hp
theorem zpY {n:Nat}{M:List Int}(hb:∀ x∈M,0≤x∧x<(n:Int))(hp:M.Pairwise (·<·)):M.length≤n:=by
 have hs:M ⊆ (List.range n).map (fun (k:Nat)=>(k:Int)):=fun x hx=>by
  have hb:=hb x hx;exact List.mem_map.2 ⟨x.toNat,List.mem_range.2 (by omega),by omega⟩
 have:=zlQ (hp.imp (fun h=>by omega)) hs;simpa using this
theorem zpZ {n m:Nat}{M l:List Int}(h:l∈zlV n m M):l.length=m∧(∀ x∈l,0≤x∧x<(n:Int))∧l.Pairwise (·<·):=by
 have h1:=(List.mem_filter.1 h).1;have h2:=zlO (Nat.le_refl _) h1;rw [Nat.sub_self] at h2;exact ⟨zlN h1,h2⟩
theorem zpS.of {p:List Int}{N:List (List Rat)}{m:Nat}{P:Int}{M:List Int}(h:Wc p N)(h1:1≤m)(h2:m≤N.length)(P1:1≤P)(P6:P≤6)(M0:zld N.length M 0 M.length=0):zpS p N m P M:=by
 obtain ⟨hb,hp⟩:=zli M0;have hL:=zpY hb hp;have hf:=h.few;have hcc:=zlW (m:=m) hp hb;refine ⟨h.wd,h1,h2,P1,P6,M0,?_,?_,?_⟩
 ·unfold zof;split
  ·omega
  ·exact zob (N.length - M.length) (by omega) (((m:Int) - (M.length:Int)).toNat) (by omega)
 ·rw [hcc];refine Nat.le_trans (List.length_filter_le _ _) ?_;rw [znS];have a:=zob N.length (by omega) m (by omega);rw [znZ _ _ h2] at a;omega
 ·rw [hcc];intro l hl;obtain ⟨a,b,c⟩:=zpZ hl;have hn:l ≠ []:=by
   intro e;rw [e] at a;simp at a;omega
  exact ⟨by omega,zpX hn b c,fun _ _=>zns h hn (by omega) b c⟩
end Go.Proofs.YtiameffonflhgaaGreatDoor

namespace Go.Proofs.YtiameffonflhgaaGreatDoor
open Go.RowKit Go.Lib Go.Shelf
attribute [local go_sem] Oper.semAt_some
theorem zqa {a b:List Int}{k:Nat}(hl:a.length=b.length)(hk:a.length≤k)(h:a.take k=b.take k):a=b:=by
 rwa [List.take_of_length_le hk,List.take_of_length_le (by omega)] at h
theorem zqb {a b:List Int}{k:Nat}(hl:a.length=b.length)(hk:k<a.length)(h:a.take k=b.take k)(e:(a[k]?).getD 0=(b[k]?).getD 0):a.take (k+1)=b.take (k+1):=by
 rw [List.take_succ_eq_append_getElem hk,List.take_succ_eq_append_getElem (by omega),h];rw [List.getElem?_eq_getElem hk,List.getElem?_eq_getElem (by omega)] at e;exact congrArg (fun x=>_++[x]) e
theorem zqc {w:World}{al:Option Addr}{n c:Nat}{l:List Int}(h:Sl w (.slice al n c) (zaq l))(k:Nat)(hk:k<l.length):∃ b off,al=some ⟨b,off,none⟩∧w.cell? ⟨b,off+k,none⟩=some (.int .i64 ((l[k]?).getD 0)):=by
 obtain ⟨a2,c2,e,_,_,hc⟩:=h.parts;injection e with e1 _ _;subst e1;exact hc k (.int .i64 ((l[k]?).getD 0)) (by unfold zaq;rw [List.getElem?_map,List.getElem?_eq_getElem hk];rfl)
theorem zqd (va vb:Value)(a b:List Int)(w:World)(ha:Sl w va (zaq a))(hb:Sl w vb (zaq b))(hla:a.length≤1000)(hlb:b.length≤1000) :
  Calls Tryz.prog 82 #[va,vb] w fun e w'=>e=.returned (.bool (decide (a=b)))∧Ext w w':=by
 obtain ⟨aa,ca,rfl,_,_,_⟩:=ha.parts;obtain ⟨ab,cb,rfl,_,_,_⟩:=hb.parts;rw [zas] at *;rw [zas] at *;have hca:=zqc ha;have hcb:=zqc hb;have hla2:=hla;generalize hn:a.length=n at *;generalize hm:b.length=m at *;have Hn:=hid hn;have Hm:=hid hm;have Hca:=hid hca;have Hcb:=hid hcb;clear ha hb hca hcb hn hm;go_enter Tryz.func82,Tryz.ntmps82
 by_cases hnm:n=m
 ·subst hnm;have Hl:=hid (Hn.out.trans Hm.out.symm);go_wp2_with fail
  go_loopw [5] (fun v5 wr=>∃ k:Nat,v5=.int .i64 k∧k≤n∧Hid (a.take k=b.take k)∧Ext w wr) (fun v5 _=>n - (zam v5).toNat)
  case atStart=>exact ⟨0,rfl,Nat.zero_le _,hid rfl,Ext.refl _⟩
  case round =>
   obtain ⟨k,rfl,hk,HT,hE⟩:=hrel;have HE:=hid hE;by_cases hkn:k<n
   ·obtain ⟨b1,o1,rfl,h1⟩:=Hca.out k hkn;obtain ⟨b2,o2,rfl,h2⟩:=Hcb.out k hkn;have c1:=hE.cell h1;have c2:=hE.cell h2;have hk0:(0:Int)≤(k:Int):=(by omega);have hk1:(k:Int)<(n:Int):=(by omega);clear h1 h2 hE;generalize hx:(a[k]?).getD 0=x at *;generalize hy:(b[k]?).getD 0=y at *;have Hx:=hid hx;have Hy:=hid hy;clear hx hy;by_cases hxy:x=y
    ·subst hxy;have Hnx:=hid (zqb Hl.out (by rw [Hn.out];exact hkn) HT.out (Hx.out.trans Hy.out.symm));go_wp2_with fail
     go_quiet (fail)
     go_wp2_with fail
     go_roundw
     case rel=>exact ⟨k+1,by go_num,hkn,Hnx,HE.out.drewN _⟩
     case measure=>simp [zam];omega
    ·have f1:(x == y)=false:=(by simpa using hxy);have f2:(x != y)=true:=(by simpa using hxy);have hne:decide (a=b)=false:=decide_eq_false fun e=>hxy (by rw [← Hx.out,← Hy.out,e]);have Hne:=hid hne;clear hne hxy;go_wp2_with fail
     go_quiet (fail)
     go_wp2_with fail
     go_ret
     exact ⟨by rw [Hne.out] <;> rfl,HE.out.drewN _⟩
   ·have hkk:¬ (k:Int)<(n:Int):=(by omega);have hyes:decide (a=b)=true:=decide_eq_true (zqa Hl.out (by rw [Hn.out];omega) HT.out);have Hyes:=hid hyes;clear hyes hE;go_wp2_with fail
    go_ret
    exact ⟨by rw [Hyes.out] <;> rfl,HE.out⟩
 ·have f1:((n:Int) == (m:Int))=false:=by simp;omega
  have f2:((n:Int) != (m:Int))=true:=by simp;omega
  have hne:decide (a=b)=false:=decide_eq_false fun e=>hnm (by rw [← Hn.out,← Hm.out,e]);have Hne:=hid hne;clear hne;go_wp2_with fail
  go_ret
  exact ⟨by rw [Hne.out] <;> rfl,Ext.refl _⟩
theorem zqe (va vb:Value)(a b:List Int)(w:World)(ha:Sl w va (zaq a))(hb:Sl w vb (zaq b))(hla:a.length≤1000)(hlb:b.length≤1000) :
  Calls Tryz.prog 36 #[va,vb] w fun e w'=>e=.returned (.bool (decide (a=b)))∧Ext w w':=by
 have h:=zqd va vb a b w ha hb hla hlb;obtain ⟨aa,ca,rfl,_,_,_⟩:=ha.parts;obtain ⟨ab,cb,rfl,_,_,_⟩:=hb.parts;have Hh:=hid h;clear h ha hb;generalize decide (a=b)=D at *;go_enter Tryz.func36,Tryz.ntmps36
 go_wp2_with fail
 refine Hh.out.mono ?_;rintro e w1 ⟨rfl,hx⟩;have Hx:=hid hx;clear hx;go_wp2_with fail
 go_ret
 exact ⟨rfl,Hx.out⟩
theorem zqf {rs:List Qw}{N:List (List Rat)}{n:Nat}(h:rs.map Qw.x=N)(hn:N.length=n):rs.length=n:=by
 have:=congrArg List.length h;rw [List.length_map] at this;omega
theorem zqg {W:World}{a1:Option Addr}{c1:Nat}{a2:Option Addr}{c2:Nat}{vm:Value}{p:List Int}{rs:List Qw}{n:Nat}{m P:Int}{M:List Int}{b:Bool}(hp:Sl W (.slice a1 p.length c1) (zaq p))(hn:RdM W (.slice a2 n c2) rs)(hm:Sl W vm (zaq M)) :
  QyV W (.agg #[.slice a1 p.length c1,.slice a2 n c2,.int .i64 m,.int .i64 P,vm,.bool b]) p rs m P M b:=⟨_,_,_,rfl,hp,hn,hm⟩
theorem zqh : zpb 3 [2,3] (eqN 12) 12 5 [0,7] [0,2,4,7,9]=.tuple #[.bool true,.int .i64 0]:=by
 unfold zpb;rw [if_pos (by decide),znB.1];rfl
theorem zqi : zpb 3 [2,3] (eqN 12) 12 5 [0,7] [0,1,4,7,9]=.tuple #[.bool false,.int .i64 0]:=by
 unfold zpb;rw [if_pos (by decide),znB.2];rfl
theorem zqj {W:World}(l:List Int)(T:TypeId)(h:l.length≤100):Sl (W.alloc (.cells (zaq l).toArray T)) (.slice (some ⟨W.heap.size,0,none⟩) l.length l.length) (zaq l):=by
 have:=zia (us:=zaq l) (World.alloc_heap_new W (.cells (zaq l).toArray T)) (by rw [zas];unfold maxLen;omega);rw [zas] at this;exact this
theorem zqk (w:World)(he:Env w) :
  Calls Tryz.prog 21 #[] w fun e w'=>e=.returned (.bool true)∧Ext w w':=by
 have hwc:Wc [2,3] (eqN 12):=zn9 (by omega) (by omega);have hel:(eqN 12).length=12:=zn3 12;have htw:=fun W (hE:Ext w W)=>(zol W (he.ext hE)).mono fun e w' ⟨v,rs,h1,h2,h3,h4⟩=>(show ∃ a1 c1 a2 c2 rs,e=Ending.returned (.agg #[.slice a1 2 c1,.slice a2 12 c2])∧Sl w' (.slice a1 2 c1) (zaq [2,3])∧RdM w' (.slice a2 12 c2) rs∧rs.map Qw.x=eqN 12∧Ext W w' by
  obtain ⟨vp,vn,rfl,hop,hqn⟩:=h2;obtain ⟨a1,c1,rfl⟩:=zec hop;obtain ⟨a2,c2,rfl⟩:=zec hqn.1;have hl:=zqf h3 hel;have hr:=hqn.rd;rw [hl] at hr h1;exact ⟨a1,c1,a2,c2,rs,h1,zao hop,hr,h3,h4⟩)
 have hca:=fun W v rs (hE:Ext w W)(hv:QyV W v [2,3] rs 5 3 [0,7] false)(hm:rs.map Qw.x=eqN 12)=>(show Calls Tryz.prog 23 #[v] W fun e w'=>e=.returned (.tuple #[.string ⟨#[49,50,48]⟩,.int .i64 0])∧Ext W w' from by
  have hl:=zqf hm hel;have:=zpd v [2,3] rs 5 3 [0,7] false W (he.ext hE) hv (by rw [hm];exact hwc.wd) (by omega) (by omega) (by omega) (by rw [hl];decide) (by rw [hl];decide);rw [hl,show I (zof 12 5 ([0,7]:List Int).length)=⟨#[49,50,48]⟩ from by decide +kernel] at this;exact this)
 have hft:=fun (l:List Int) W v vl rs (r:Bool)(hE:Ext w W)(hv:QyV W v [2,3] rs 5 3 [0,7] false)(hm:rs.map Qw.x=eqN 12)(hvl:Sl W vl (zaq l))(h0:l ≠ [])(h6:l.length≤12)(hse:zld 12 l 0 l.length=0)(hr:zpb 3 [2,3] (eqN 12) 12 5 [0,7] l=.tuple #[.bool r,.int .i64 0])=>(show Calls Tryz.prog 39 #[v,vl] W fun e w'=>e=.returned (.tuple #[.bool r,.int .i64 0])∧Ext W w' from by
  have hl:=zqf hm hel;have hb:=zli hse;have:=zpc v vl [2,3] rs 5 3 [0,7] false l W (he.ext hE) hv (by rw [hm];exact hwc.wd) hvl (by omega) (by rw [hl];decide) (by decide) (fun _ _ _=>by rw [hm];exact zns hwc h0 (by omega) (by rw [hel];exact hb.1) hb.2);rw [hl,hm,hr] at this;exact this)
 have hal:=fun W v rs (hE:Ext w W)(hv:QyV W v [2,3] rs 1 2 [] true)(hm:rs.map Qw.x=eqN 12)=>(show Calls Tryz.prog 19 #[v] W fun e w'=>(∃ g c a5 c5,e=.returned (.tuple #[.slice (some ⟨g,0,none⟩) 1 c,.int .i64 0])∧w'.cell? ⟨g,0,none⟩=some (.slice a5 1 c5)∧Sl w' (.slice a5 1 c5) (zaq [0]))∧Ext W w' from by
  have hl:=zqf hm hel;have h:=zpU v [2,3] rs 1 2 [] true W (he.ext hE) hv (by rw [hm];exact zpS.of hwc (by omega) (by rw [hel];omega) (by omega) (by omega) (by rw [hel];decide));refine h.mono fun e w' ⟨us,vs,fs,h1,h2,h3,h4⟩=>⟨?_,h4⟩;rw [hl,hm,zlW List.Pairwise.nil (fun x hx=>by cases hx),znC] at h3;obtain ⟨f,rfl,hfl⟩:=List.map_eq_singleton_iff.1 h3;have hfo:=(h2.all f (List.mem_singleton.2 rfl)).1;rw [hfl] at hfo;obtain ⟨a5,c5,e5⟩:=zec hfo;have hus:=h2.us;rcases hus.2 with ⟨_,e0⟩ | ⟨g,cap,cur,e0,_⟩
  ·simp at e0
  ·have hc:=World.ownsRow.cells hus (g:=g) (by rw [e0];rfl) 0 f.u rfl;rw [e5] at hc hfo;exact ⟨g,cap,a5,c5,by rw [h1,e0];rfl,hc,zao hfo⟩)
 have hsi:=fun W va vb (ha:Sl W va (zaq [0]))(hb:Sl W vb (zaq [0]))=>zqe va vb [0] [0] W ha hb (by decide) (by decide);have Htw:=hid htw;have Hca:=hid hca;have Hft:=hid hft;have Hal:=hid hal;have Hsi:=hid hsi;clear htw hca hft hal hsi hwc hel he;go_enter Tryz.func21,Tryz.ntmps21
 go_wp2_with fail
 refine (Htw.out _ (Ext.refl _)).mono ?_;rintro e w1 ⟨a1,c1,a2,c2,rs,rfl,hp,hn,hm,hx1⟩;have hE2:=(Ext.refl w1).alloc (.cells #[.int .i64 0,.int .i64 7] 3);have hm2:=zqj (W:=w1) [0,7] 3 (by decide);have hE3:=hE2.alloc (.cells #[.slice a1 2 c1,.slice a2 12 c2,.int .i64 5,.int .i64 3,.slice (some ⟨w1.heap.size,0,none⟩) 2 2,.bool false] 59);have hb3:=znK.new (w1.alloc (.cells #[.int .i64 0,.int .i64 7] 3)) (.slice a1 2 c1) (.slice a2 12 c2) 5 3 (.slice (some ⟨w1.heap.size,0,none⟩) 2 2) false;have hq3:=zqg (p:=[2,3]) (m:=5) (P:=3) (b:=false) (hE3.sl hp) (hE3.rdM hn) (((Ext.refl (w1.alloc (.cells #[.int .i64 0,.int .i64 7] 3))).alloc (.cells #[.slice a1 2 c1,.slice a2 12 c2,.int .i64 5,.int .i64 3,.slice (some ⟨w1.heap.size,0,none⟩) 2 2,.bool false] 59)).sl hm2);rw [World.size_alloc] at hb3;have Hq3:=hid hq3;have Hb3:=hid hb3;have HE3:=hid (hx1.trans hE3);have Hm:=hid hm;obtain ⟨q0,q1,q2,q3,q4,q5⟩:=hb3.cs;clear hq3 hb3 hE3 hE2 hm2 hp hn hx1 hm;go_wp2_with fail
 refine (Hca.out _ _ rs HE3.out Hq3.out Hm.out).mono ?_;generalize hW3:(w1.alloc (.cells #[.int .i64 0,.int .i64 7] 3)).alloc (.cells #[.slice a1 2 c1,.slice a2 12 c2,.int .i64 5,.int .i64 3,.slice (some ⟨w1.heap.size,0,none⟩) 2 2,.bool false] 59)=W3 at *;rintro e w2 ⟨rfl,hx2⟩;have hE4:=hx2.alloc (.cells #[.int .i64 0,.int .i64 2,.int .i64 4,.int .i64 7,.int .i64 9] 3);have hl4:=zqj (W:=w2) [0,2,4,7,9] 3 (by decide);have hft1:=Hft.out [0,2,4,7,9] _ _ _ rs true (HE3.out.trans hE4) (Hq3.out.ext hE4) Hm.out hl4 (by simp) (by decide) (by decide) zqh;obtain ⟨q0,q1,q2,q3,q4,q5⟩:=(Hb3.out.ext hx2).cs;have HE4:=hid hE4;have Hft1:=hid hft1;clear hx2 hE4 hl4 hft1 hW3;go_wp2_with fail
 refine Hft1.out.mono ?_;rintro e w4 ⟨rfl,hx4⟩;have hX4:=HE4.out.trans hx4;have hE5:=hX4.alloc (.cells #[.int .i64 0,.int .i64 1,.int .i64 4,.int .i64 7,.int .i64 9] 3);have hl5:=zqj (W:=w4) [0,1,4,7,9] 3 (by decide);have hft2:=Hft.out [0,1,4,7,9] _ _ _ rs false (HE3.out.trans hE5) (Hq3.out.ext hE5) Hm.out hl5 (by simp) (by decide) (by decide) zqi;obtain ⟨q0,q1,q2,q3,q4,q5⟩:=(Hb3.out.ext hX4).cs;have HE5:=hid hE5;have Hft2:=hid hft2;clear hx4 hX4 hE5 hl5 hft2 Hft1;go_wp2_with fail
 refine Hft2.out.mono ?_;rintro e w5 ⟨rfl,hx5⟩;have HE6:=hid (HE3.out.trans (HE5.out.trans hx5));clear hx5 q0 q1 q2 q3 q4 q5 Hft2;go_wp2_with fail
 refine (Htw.out _ HE6.out).mono ?_;rintro e w6 ⟨a3,c3,a4,c4,rs6,rfl,hp6,hn6,hm6,hx6⟩;have hq6:=zqg (p:=[2,3]) (m:=1) (P:=2) (b:=true) (vm:=.slice none 0 0) (M:=[]) hp6 hn6 (.inl ⟨none,0,rfl,Nat.zero_le _,rfl⟩);have hal6:=Hal.out w6 _ rs6 (HE6.out.trans hx6) hq6 hm6;have HE7:=hid (HE6.out.trans hx6);have Hal6:=hid hal6;clear hx6 hq6 hal6 hp6 hn6 hm6;go_wp2_with fail
 refine Hal6.out.mono ?_;rintro e w7 ⟨⟨g,c,a5,c5,rfl,hc7,hs7⟩,hx7⟩;have hE8:=(Ext.refl w7).alloc (.cells #[.int .i64 0] 3);have hl8:=zqj (W:=w7) [0] 3 (by decide);have hsi:=Hsi.out _ _ _ (hE8.sl hs7) hl8;have HE8:=hid (HE7.out.trans (hx7.trans hE8));have Hsi8:=hid hsi;clear hx7 hs7 hE8 hl8 hsi;go_wp2_with fail
 refine Hsi8.out.mono ?_;rintro e w8 ⟨rfl,hx8⟩;have HE9:=hid (HE8.out.trans hx8);clear hx8 hc7;go_wp2_with fail
 go_ret
 exact ⟨by simp,HE9.out⟩
end Go.Proofs.YtiameffonflhgaaGreatDoor

namespace Go.Proofs.YtiameffonflhgaaGreatDoor
section
variable {p : List Int} {N : List (List Rat)} (h : Wd p N)
include h
end
def zql (n:Nat)(q:Nat→Bool):List Int:=((List.range n).filter q).map fun (i:Nat)=>(i:Int)
end Go.Proofs.YtiameffonflhgaaGreatDoor

namespace Go.Proofs.YtiameffonflhgaaGreatDoor
open Go.RowKit Go.Lib Go.Shelf
attribute [local go_sem] Oper.semAt_some
structure zqm (W0 w:World)(va vb:Value)(la lb:List Int):Prop where
 a:zeb w W0.heap.size va la
 b:zeb w W0.heap.size vb lb
 ne:∀ r,va.ownBlock=some r→vb.ownBlock ≠ some r
 x:Ext W0 w
theorem zqm.nil (W:World):zqm W W (.slice none 0 0) (.slice none 0 0) [] []:=⟨⟨rfl,.inl ⟨rfl,rfl⟩⟩,⟨rfl,.inl ⟨rfl,rfl⟩⟩,fun r h=>(by simp [Value.ownBlock] at h),Ext.refl _⟩
theorem zqm.swap {W0 w:World}{va vb:Value}{la lb:List Int}(h:zqm W0 w va vb la lb):zqm W0 w vb va lb la:=⟨h.b,h.a,fun r e f=>h.ne r f e,h.x⟩
theorem zqm.ext {W0 w w':World}{va vb:Value}{la lb:List Int}(h:zqm W0 w va vb la lb)(hx:Ext w w'):zqm W0 w' va vb la lb:=⟨hx.ownI h.a,hx.ownI h.b,h.ne,h.x.trans hx⟩
theorem zqm.put {W0 w V:World}{va vb:Value}{la lb:List Int}{o:Obj}{x:Int}{g cap n:Nat}(h:zqm W0 w va vb la lb)(hn:la.length=n)
  (hown:V.ownsRow W0.heap.size 3 1 (.slice (some ⟨g,0,none⟩) (n+1) cap) (n+1) (zaq la++[.int .i64 x])) (hg:(w.alloc o).grownBy V va.ownBlock) (hat:va.ownBlock=some g∨g=w.heap.size+1) :
  zqm W0 V (.slice (some ⟨g,0,none⟩) (n+1) cap) vb (la++[x]) lb:=by
 subst hn;refine ⟨?_,?_,fun r e=>?_,?_⟩
 ·unfold zeb;rw [List.length_append,List.length_singleton,zaq,List.map_append];exact hown
 ·refine World.ownsRow.kept (World.ownsRow.alloc h.b o) hg ?_
  cases hv:vb.ownBlock with
  | none=>exact .inl rfl
  | some r=>exact .inr fun e=>h.ne r e.symm hv
 ·have e2:g=r:=by simpa [Value.ownBlock] using e
  subst e2;intro f;rcases hat with k | k
  ·exact h.ne g k f
  ·have:=(World.ownsRow.lt h.b g f).2;omega
 ·exact (h.x.alloc o).grown hg fun k e=>(World.ownsRow.lt h.a k e).1
theorem zqn (b k:Nat)(hb:b<65536):(bits .and .u16 ((b:Int) / 2 ^ k) 1 == 1)=b.testBit k:=by
 have e:((b:Int) / 2 ^ k)=((b / 2 ^ k:Nat):Int):=by
  rw [Int.natCast_ediv,Int.natCast_pow];rfl
 have hlt:b / 2 ^ k≤b:=Nat.div_le_self _ _;have hx:b / 2 ^ k &&& 1<2 ^ 16:=Nat.and_lt_two_pow _ (by omega);have h1:(BitVec.ofInt 16 ((b / 2 ^ k:Nat):Int)).toNat=b / 2 ^ k:=by
  rw [BitVec.ofInt_natCast,BitVec.toNat_ofNat];exact Nat.mod_eq_of_lt (by omega)
 have h2:(BitVec.ofInt 16 (1:Int)).toNat=1:=by decide
 have h3:bits .and .u16 ((b:Int) / 2 ^ k) 1=((b / 2 ^ k % 2:Nat):Int):=by
  rw [e];show IntKind.u16.wrap ((BitVec.ofInt 16 ((b / 2 ^ k:Nat):Int) &&& BitVec.ofInt 16 (1:Int)).toNat:Int)=_;rw [BitVec.toNat_and,h1,h2,Nat.and_one_is_mod];have:b / 2 ^ k % 2<2:=Nat.mod_lt _ (by omega);generalize b / 2 ^ k % 2=z at *;have:z=0∨z=1:=by omega
  rcases this with rfl | rfl <;> decide
 rw [h3,Nat.testBit_eq_decide_div_mod_eq,Bool.eq_iff_iff,beq_iff_eq,decide_eq_true_iff];omega
theorem zqo (k:Nat)(q:Nat→Bool):zql (k+1) q=zql k q++if q k=true then [(k:Int)] else []:=by
 unfold zql;rw [List.range_succ,List.filter_append,List.map_append];congr 1;by_cases h:q k=true
 ·rw [if_pos h,List.filter_cons_of_pos h];rfl
 ·rw [if_neg h,List.filter_cons_of_neg h];rfl
theorem zqp (k:Nat)(q:Nat→Bool):(∀ x∈zql k q,0≤x∧x<(k:Int))∧(zql k q).Pairwise (·<·):=by
 unfold zql;constructor
 ·intro x hx;obtain ⟨i,hi,rfl⟩:=List.mem_map.1 hx;have:=List.mem_range.1 (List.mem_filter.1 hi).1;omega
 ·rw [List.pairwise_map];exact (List.pairwise_lt_range.sublist List.filter_sublist).imp fun h=>by omega
theorem zqq (k:Nat)(q:Nat→Bool):(zql k q).length≤k:=by
 unfold zql;rw [List.length_map];exact Nat.le_trans (List.length_filter_le _ _) (by rw [List.length_range];exact Nat.le_refl _)
end Go.Proofs.YtiameffonflhgaaGreatDoor

namespace Go.Proofs.YtiameffonflhgaaGreatDoor
open Go.RowKit Go.Lib Go.Shelf
attribute [local go_sem] Oper.semAt_some
structure Dl where
 wl:Wl
 size:Nat
 prop:Nat
 must:Nat
 modes:Bool
namespace Dl
def cs (d:Dl):Array Value:=#[.bool d.wl.three,.int .u8 d.wl.kind,.int .u8 d.wl.num,.int .i8 (d.wl.xs 0).a,.int .i8 (d.wl.xs 0).b,.int .i8 (d.wl.xs 0).c,.int .i8 (d.wl.xs 1).a,.int .i8 (d.wl.xs 1).b,.int .i8 (d.wl.xs 1).c,.int .i8 (d.wl.xs 2).a,.int .i8 (d.wl.xs 2).b,.int .i8 (d.wl.xs 2).c,.int .i8 (d.wl.xs 3).a,.int .i8 (d.wl.xs 3).b,.int .i8 (d.wl.xs 3).c,.int .i8 (d.wl.xs 4).a,.int .i8 (d.wl.xs 4).b,.int .i8 (d.wl.xs 4).c,.int .i8 (d.wl.xs 5).a,.int .i8 (d.wl.xs 5).b,.int .i8 (d.wl.xs 5).c,.int .i8 (d.wl.xs 6).a,.int .i8 (d.wl.xs 6).b,.int .i8 (d.wl.xs 6).c,.int .i8 (d.wl.xs 7).a,.int .i8 (d.wl.xs 7).b,.int .i8 (d.wl.xs 7).c,.int .u8 (d.size:Int),.int .u8 (d.prop:Int),.int .u16 (d.must:Int),.bool d.modes]
def v (d:Dl):Value:=.agg d.cs
structure Ok (d:Dl):Prop where
 wl:d.wl.Ok
 size:d.size<256
 prop:d.prop<256
 must:d.must<65536
def m (d:Dl)(n:Nat):Nat:=1+d.size % n
def P (d:Dl):Int:=1+((d.prop:Int) % 6)
def M (d:Dl)(n:Nat):List Int:=zql n fun i=>d.must.testBit i
end Dl
theorem zqr (d:Dl):d.cs.toList=d.wl.cs.toList++[.int .u8 (d.size:Int),.int .u8 (d.prop:Int),.int .u16 (d.must:Int),.bool d.modes]:=rfl
theorem zqs (d:Dl):Dl.cs d=#[.bool d.wl.three,.int .u8 d.wl.kind,.int .u8 d.wl.num,.int .i8 (d.wl.xs 0).a,.int .i8 (d.wl.xs 0).b,.int .i8 (d.wl.xs 0).c,.int .i8 (d.wl.xs 1).a,.int .i8 (d.wl.xs 1).b,.int .i8 (d.wl.xs 1).c,.int .i8 (d.wl.xs 2).a,.int .i8 (d.wl.xs 2).b,.int .i8 (d.wl.xs 2).c,.int .i8 (d.wl.xs 3).a,.int .i8 (d.wl.xs 3).b,.int .i8 (d.wl.xs 3).c,.int .i8 (d.wl.xs 4).a,.int .i8 (d.wl.xs 4).b,.int .i8 (d.wl.xs 4).c,.int .i8 (d.wl.xs 5).a,.int .i8 (d.wl.xs 5).b,.int .i8 (d.wl.xs 5).c,.int .i8 (d.wl.xs 6).a,.int .i8 (d.wl.xs 6).b,.int .i8 (d.wl.xs 6).c,.int .i8 (d.wl.xs 7).a,.int .i8 (d.wl.xs 7).b,.int .i8 (d.wl.xs 7).c,.int .u8 (d.size:Int),.int .u8 (d.prop:Int),.int .u16 (d.must:Int),.bool d.modes]:=rfl
theorem zqt {W:World}{k:Nat}{d:Dl}(h:W.heap[k]?=some (.cells d.cs 85 (0,0))) :
  W.rangeAt k 0 d.wl.cs.toList∧W.cell? ⟨k,27,none⟩=some (.int .u8 (d.size:Int))∧W.cell? ⟨k,28,none⟩=some (.int .u8 (d.prop:Int))∧W.cell? ⟨k,29,none⟩=some (.int .u16 (d.must:Int))∧W.cell? ⟨k,30,none⟩=some (.bool d.modes):=by
 have hc:∀ j,W.cell? ⟨k,j,none⟩=d.cs[j]?:=fun j=>by
  unfold World.cell?;dsimp only;rw [h];rfl
 refine ⟨fun j v hj=>?_,?_,?_,?_,?_⟩
 ·have hl:=(List.getElem?_eq_some_iff.1 hj).1;rw [hc,Nat.zero_add,← Array.getElem?_toList,zqr,List.getElem?_append_left hl];exact hj
 all_goals (rw [hc];rfl)
theorem zqu {w:World}{k:Nat}{arr:Array Value}{T:TypeId}(hk:w.heap[k]?=some (.cells arr T (0,0))){b o:Nat}{u:Value}(hc:w.cell? ⟨b,o,none⟩=some u)(hn:∀ x∈arr.toList,x ≠ u):b ≠ k:=by
 intro e;subst e;have h2:w.cell? ⟨b,o,none⟩=arr[o]?:=by
  unfold World.cell?;dsimp only;rw [hk];rfl
 rw [h2,← Array.getElem?_toList] at hc;exact hn u (List.mem_of_getElem? hc) rfl
theorem zqv {w W:World}{k:Nat}{arr:Array Value}{T:TypeId}{v:Value}{us:List Value}(hk:w.heap[k]?=some (.cells arr T (0,0)))(h:Sl w v us)(hn:∀ u∈us,∀ x∈arr.toList,x ≠ u)(hW:∀ b o,b ≠ k→W.cell? ⟨b,o,none⟩=w.cell? ⟨b,o,none⟩):Sl W v us:=by
 rcases h with h | ⟨b,off,cap,e,h1,h2,hc⟩
 ·exact .inl h
 ·exact .inr ⟨b,off,cap,e,h1,h2,fun i u hu=>by
   have h3:=hc i u hu;rw [hW b (off+i) (zqu hk h3 (hn u (List.mem_of_getElem? hu)))];exact h3⟩
theorem zqw {w W:World}{k:Nat}{arr:Array Value}{T:TypeId}{v:Value}{x:List Rat}(hk:w.heap[k]?=some (.cells arr T (0,0)))(h:Rd w v x)(hn:∀ s,Value.string s ∉ arr.toList)(hW:∀ b o,b ≠ k→W.cell? ⟨b,o,none⟩=w.cell? ⟨b,o,none⟩):Rd W v x:=by
 rcases h with h | ⟨b,off,cap,e,h1,h2,hc⟩
 ·exact .inl h
 ·exact .inr ⟨b,off,cap,e,h1,h2,fun i r hr=>by
   have h3:=hc i r hr;have hb:=zqu hk h3.1 (fun x hx e=>hn _ (e ▸ hx));rw [hW b _ hb,hW b _ hb];exact h3⟩
theorem zqx {w W:World}{k:Nat}{arr:Array Value}{T:TypeId}{v:Value}{rs:List Qw}(hk:w.heap[k]?=some (.cells arr T (0,0)))(h:RdM w v rs)(hs:∀ s,Value.string s ∉ arr.toList)(hn:∀ a n c,0<n→Value.slice a n c ∉ arr.toList)(hl:∀ r∈rs,0<r.x.length)(hW:∀ b o,b ≠ k→W.cell? ⟨b,o,none⟩=w.cell? ⟨b,o,none⟩):RdM W v rs:=by
 refine ⟨zqv hk h.1 (fun u hu x hx e=>?_) hW,fun r hr=>zqw hk (h.2 r hr) hs hW⟩;unfold qwc at hu;obtain ⟨r,hr,rfl⟩:=List.mem_map.1 hu;obtain ⟨a,c,e2,_⟩:=(h.2 r hr).parts;rw [e2] at e;exact hn a r.x.length c (hl r hr) (e ▸ hx)
def MkR (W0:World)(vp vn:Value)(m P:Int)(b:Bool)(l:List Int)(wr:World):Prop:=∃ vm,znK wr W0.heap.size vp vn m P vm b∧zeb wr W0.heap.size vm l∧Ext W0 wr
theorem MkR.more {W0 wr V:World}{vp vn vm v7:Value}{m P:Int}{b:Bool}{l:List Int}{n:Nat}{x:Int}{o:Obj}(hb:znK wr W0.heap.size vp vn m P vm b)(ho:zeb wr W0.heap.size vm l)(hE:Ext W0 wr)(hn:l.length=n)
  (hown:V.ownsRow W0.heap.size 3 1 v7 (n+1) (zaq l++[.int .i64 x])) (hg:(wr.alloc o).grownBy V vm.ownBlock):MkR W0 vp vn m P b (l++[x]) (V.setCell ⟨W0.heap.size,4,none⟩ v7):=by
 subst hn;have hbV:znK V W0.heap.size vp vn m P vm b:=zgd (((Ext.refl wr).alloc o).heap hb) (World.ownsRow.alloc ho o) (by decide) hg;refine ⟨v7,heap_setCell_same _ _ 4 _ _ v7 hbV,?_,((hE.alloc o).grown hg fun k e=>(World.ownsRow.lt ho k e).1).setCell (Nat.le_refl _) _⟩;refine zgg hbV ?_ (by decide) 4 v7;rw [List.length_append,List.length_singleton,zaq,List.map_append];exact hown
theorem zqy (d:Dl)(w:World)(he:Env w)(hd:d.Ok) :
  Calls Tryz.prog 30 #[d.v] w fun e w'=>∃ v rs,e=.returned v∧QyV w' v d.wl.p rs (d.m rs.length:Int) d.P (d.M rs.length) d.modes∧zjD d.wl.p d.wl.sizes (rs.map Qw.x)∧Ext w w':=by
 have hmk:=fun W (hE:Ext w W)=>zla d.wl W (he.ext hE) hd.wl;obtain ⟨W1,hW1⟩:∃ W1,W1=(w.alloc (.cells d.cs 85)).alloc (.cells #[.slice none 0 0,.slice none 0 0,.int .i64 0,.int .i64 0,.slice none 0 0,.bool false] 59):=⟨_,rfl⟩;have hE1:Ext w W1:=by rw [hW1];exact ((Ext.refl w).alloc _).alloc _
 have hbd:W1.heap[w.heap.size]?=some (.cells d.cs 85 (0,0)):=by
  rw [hW1];exact ((Ext.refl _).alloc _).heap (World.alloc_heap_new w _)
 have hb0:znK W1 (w.heap.size+1) (.slice none 0 0) (.slice none 0 0) 0 0 (.slice none 0 0) false:=by
  have:=znK.new (w.alloc (.cells d.cs 85)) (.slice none 0 0) (.slice none 0 0) 0 0 (.slice none 0 0) false;rw [World.size_alloc] at this;rw [hW1];exact this
 have hmk1:=hmk W1 hE1;have hrl1:=(zqt hbd).1;rw [hW1] at hrl1;have hun:=Tryz.underlying83;have hin:=zlb d.wl;have hv1:d.wl.v=.agg d.wl.cs:=rfl;have Hmk1:=hid hmk1;have Hrl1:=hid hrl1;have Hun:=hid hun;have Hin:=hid hin;have HE1:=hid hE1;have Hbd:=hid hbd;have Hb0:=hid hb0;have Hv:=hid hv1;have Hd:=hid hd;clear hmk hmk1 hrl1 hun hin hE1 hbd hb0 hv1 hd he;have hv:d.v=.agg d.cs:=rfl;rw [hv];clear hv;rw [zqs];go_enter Tryz.func30,Tryz.ntmps30
 rw [← zqs];go_wp2_with (refine wpList_load_mid rfl 83 (.tmp 7) rfl w.heap.size 0 rfl d.wl.cs.toList _ Hrl1.out Hun.out rfl Hin.out ?_)
 rw [← Hv.out,← hW1];refine Hmk1.out.mono ?_;rintro e w2 ⟨v2,rs,rfl,hs2,hc2,hx2⟩;have hw2:=zlI d.wl hc2;obtain ⟨a2,c2,b2,d2,rfl,hs2⟩:=zom hs2;have hb2:=zdM.new 28 w2 (.slice a2 d.wl.p.length c2) (.slice b2 rs.length d2);have hE2:=(Ext.refl w2).alloc (.cells #[.slice a2 d.wl.p.length c2,.slice b2 rs.length d2] 28);have hE3:=hx2.trans hE2;have hpos:=hw2.wd.pos;rw [List.length_map] at hpos;have hfew:=hw2.few;rw [List.length_map] at hfew;have Hs2:=hid (hs2.ext hE2);have HE3:=hid hE3;have Hb2:=hid hb2;have Hc2:=hid hc2;have q0:=hb2.c0;have q1:=hb2.c1;clear hx2 hs2 hE2 hE3 hb2 hc2 hw2 Hmk1 Hrl1 Hun Hin;obtain ⟨n,hn⟩:∃ n,n=rs.length:=⟨_,rfl⟩;rw [← hn] at hpos hfew Hs2 Hb2 q1 q0 HE3;simp only [← hn];have Hn:=hid hn;clear hn;have hn0:¬ (n:Int)=0:=by omega
 have hn0':((n:Int) == 0)=false:=by simpa using hn0
 go_wp2_with fail
 generalize w2.alloc (.cells #[.slice a2 d.wl.p.length c2,.slice b2 n d2] 28)=W3 at *;obtain ⟨_,c27,c28,c29,c30⟩:=zqt (HE3.out.heap Hbd.out);obtain ⟨s0,hs0⟩:∃ s0:Nat,d.size % n=s0:=⟨_,rfl⟩;have hsz:(d.size:Int) % (n:Int)=(s0:Int):=by rw [← hs0];rfl
 have hsn:s0<n:=by rw [← hs0];exact Nat.mod_lt _ hpos
 have hd1:=Hd.out.size;have hd2:=Hd.out.prop;have Hm:=hid (show ((d.m n:Nat):Int)=1+(s0:Int) by unfold Dl.m;rw [hs0];omega);have HP:=hid (show d.P=1+((d.prop:Int) % 6) from rfl);have htm:(d.size:Int).tmod (n:Int)=(s0:Int):=by rw [Int.tmod_eq_emod_of_nonneg (by omega)];exact hsz
 have hws:IntKind.i64.wrap (s0:Int)=(s0:Int):=IntWalk.i64_in _ (by omega);have hw1:IntKind.i64.wrap (1+(s0:Int))=1+(s0:Int):=IntWalk.i64_in _ (by omega);have hS:=fun W (hE:Ext W3 W)=>(show Ext W3 W∧W.cell? ⟨w2.heap.size,0,none⟩=some (.slice a2 d.wl.p.length c2)∧W.cell? ⟨w2.heap.size,1,none⟩=some (.slice b2 n d2)∧W.cell? ⟨w.heap.size,27,none⟩=some (.int .u8 (d.size:Int))∧W.cell? ⟨w.heap.size,28,none⟩=some (.int .u8 (d.prop:Int))∧W.cell? ⟨w.heap.size,30,none⟩=some (.bool d.modes) from ⟨hE,hE.cell q0,hE.cell q1,hE.cell c27,hE.cell c28,hE.cell c30⟩);have HS:=hid hS;clear hs0 hS;have hnN:¬ n=0:=by omega
 have htp:(d.prop:Int).tmod 6=(d.prop:Int) % 6:=Int.tmod_eq_emod_of_nonneg (by omega);have hwp:IntKind.i64.wrap ((d.prop:Int) % 6)=(d.prop:Int) % 6:=IntWalk.i64_in _ (by omega);have hwp1:IntKind.i64.wrap (1+(d.prop:Int) % 6)=1+(d.prop:Int) % 6:=IntWalk.i64_in _ (by omega);have hwz:IntKind.i64.wrap (d.size:Int)=(d.size:Int):=IntWalk.i64_in _ (by omega);go_region_held3 (fun w'=>Ext W3 w'∧w'.cell? ⟨w2.heap.size,0,none⟩=some (.slice a2 d.wl.p.length c2)∧w'.cell? ⟨w2.heap.size,1,none⟩=some (.slice b2 n d2)∧w'.cell? ⟨w.heap.size,27,none⟩=some (.int .u8 (d.size:Int))∧w'.cell? ⟨w.heap.size,28,none⟩=some (.int .u8 (d.prop:Int))∧w'.cell? ⟨w.heap.size,30,none⟩=some (.bool d.modes))
  (first | (with_reducible assumption) | exact HS.out _ (Ext.refl W3).drew | exact HS.out _ (((Ext.refl W3).alloc _).drew))
  (fail)
 go_wp2_with fail
 have hb4:znK (W3.alloc (.cells #[.slice a2 d.wl.p.length c2,.slice b2 n d2,.int .i64 (1+(s0:Int)),.int .i64 (1+(d.prop:Int) % 6),.slice none 0 0,.bool d.modes] 59)).drew W3.heap.size (.slice a2 d.wl.p.length c2) (.slice b2 n d2) (1+(s0:Int)) (1+(d.prop:Int) % 6) (.slice none 0 0) d.modes:=(znK.new W3 _ _ _ _ _ _).ext (Ext.refl _).drew;have hE4:=((Ext.refl W3).alloc (.cells #[.slice a2 d.wl.p.length c2,.slice b2 n d2,.int .i64 (1+(s0:Int)),.int .i64 (1+(d.prop:Int) % 6),.slice none 0 0,.bool d.modes] 59)).drew;generalize (W3.alloc (.cells #[.slice a2 d.wl.p.length c2,.slice b2 n d2,.int .i64 (1+(s0:Int)),.int .i64 (1+(d.prop:Int) % 6),.slice none 0 0,.bool d.modes] 59)).drew=W4 at *;have H4:=hid (show MkR W3 (.slice a2 d.wl.p.length c2) (.slice b2 n d2) (1+(s0:Int)) (1+(d.prop:Int) % 6) d.modes [] W4 from ⟨_,hb4,⟨rfl,.inl ⟨rfl,rfl⟩⟩,hE4⟩);have hlt0:w.heap.size<W3.heap.size:=(Array.getElem?_eq_some_iff.1 (HE3.out.heap Hbd.out)).1;have hlt1:w.heap.size+1<W3.heap.size:=(Array.getElem?_eq_some_iff.1 (HE3.out.heap Hb0.out)).1;obtain ⟨p,hp⟩:∃ p:Nat→Bool,p=fun i=>d.must.testBit i:=⟨_,rfl⟩;have hmb:=Hd.out.must;obtain ⟨i0,hj,hz0,hz1,hz2⟩:=info_parts zea;have Hp:=hid hp;have C29:=hid c29;clear htp hwp hwp1 hb4 hE4 hp c27 c28 c29 c30 q0 q1 htm hws hw1 hwz hsz HS;go_loopw [6] (fun v6 wr=>∃ k:Nat,v6=.int .i64 k∧k≤n∧MkR W3 (.slice a2 d.wl.p.length c2) (.slice b2 n d2) (1+(s0:Int)) (1+(d.prop:Int) % 6) d.modes (zql k p) wr) (fun v6 _=>n - (zam v6).toNat)
 case atStart=>exact ⟨0,rfl,Nat.zero_le _,H4.out⟩
 case round =>
  clear H4;obtain ⟨k,rfl,hk,vm,hbk,hok,hEk⟩:=hrel;obtain ⟨am,cm,rfl⟩:=zec hok;have hLk:=zqq k p;have hsp:=zqo k p;have c29:=hEk.cell C29.out;obtain ⟨q0,q1,q2,q3,q4,q5⟩:=hbk.cs;by_cases hkn:k<n
  ·have hk0:(k:Int)<(n:Int):=(by omega);have hq1:=zqn d.must k hmb;rw [show d.must.testBit k=p k by rw [Hp.out]] at hq1
   cases hb1:p k with
   | true =>
    have Hs1:=hid (show zql (k+1) p=zql k p++[(k:Int)] by rw [hsp,hb1];simp)
    rw [hb1] at hq1
    clear hsp
    generalize hla:(zql k p).length=L at *
    have ha:=hok
    unfold zeb at ha
    rw [hla] at ha
    have hm3:L+1≤maxLen:=by unfold maxLen;omega
    have hm4:(L+1) * 8≤140737488355328:=by omega
    have hwr:=hEk.size
    have Hla:=hid hla;have Ha:=hid ha;have Hbk:=hid hbk;have Hok:=hid hok;have HEk:=hid hEk
    clear hla ha hbk hok hEk
    go_wp2_with (at_builtin;refine wpList_append_own _ rfl _ _ 24 rfl W3.heap.size 3 i0 (.int .i64 0) 1 8 Tryz.underlying24 hj hz0 hz1 hz2 rfl (by decide) _ _ _ rfl (Ha.out.alloc _) ⟨wr.heap.size,0,none⟩ 1 1 [.int .i64 (k:Int)] rfl rfl (cell_one_new _ _ _) (by simp [Value.oneCell']) hm3 hm4 (by rw [World.size_alloc];omega) ?_;intro v7 V7 hown7 hgrow7 _;have hbV:znK V7 W3.heap.size (.slice a2 d.wl.p.length c2) (.slice b2 n d2) (1+(s0:Int)) (1+(d.prop:Int) % 6) (.slice am L cm) d.modes:=zgd (((Ext.refl wr).alloc _).heap Hbk.out) (World.ownsRow.alloc Ha.out (.cells #[.int .i64 (k:Int)] 3)) (by decide) hgrow7;have d4:=hbV.cs.2.2.2.2.1;have e4:=frozen_of_row V7 W3.heap.size 4 _ _ hbV;obtain ⟨a7,c7,rfl⟩:=zec hown7)
    have hR:=MkR.more Hbk.out Hok.out HEk.out Hla.out hown7 hgrow7
    rw [← Hs1.out] at hR
    have HR:=hid hR
    clear hR d4 e4 hgrow7 hown7 hbV
    go_roundw
    case rel=>exact ⟨k+1,by go_num,hkn,HR.out⟩
    case measure=>simp [zam];omega
   | false =>
    have Hs1:=hid (show zql (k+1) p=zql k p by rw [hsp,hb1];simp)
    rw [hb1] at hq1
    have HR:=hid (show MkR W3 (.slice a2 d.wl.p.length c2) (.slice b2 n d2) (1+(s0:Int)) (1+(d.prop:Int) % 6) d.modes (zql k p) wr from ⟨_,hbk,hok,hEk⟩)
    clear hsp hbk hok hEk
    go_wp2_with fail
    go_roundw
    case rel=>exact ⟨k+1,by go_num,hkn,by rw [Hs1.out];exact HR.out⟩
    case measure=>simp [zam];omega
  ·obtain rfl:k=n:=by omega
   have hkn2:¬ (k:Int)<(k:Int):=(by omega);clear hsp;have hr0:znK wr (w.heap.size+1) (.slice none 0 0) (.slice none 0 0) 0 0 (.slice none 0 0) false:=hEk.heap (HE3.out.heap Hb0.out);obtain ⟨r0,r1,r2,r3,r4,r5⟩:=hr0.cs;have z0:=frozen_of_row wr (w.heap.size+1) 0 _ _ hr0;have z1:=frozen_of_row wr (w.heap.size+1) 1 _ _ hr0;have z2:=frozen_of_row wr (w.heap.size+1) 2 _ _ hr0;have z3:=frozen_of_row wr (w.heap.size+1) 3 _ _ hr0;have z4:=frozen_of_row wr (w.heap.size+1) 4 _ _ hr0;have z5:=frozen_of_row wr (w.heap.size+1) 5 _ _ hr0;have Hr0:=hid hr0;have Hok:=hid hok;have HEk:=hid hEk;clear hr0 hok hEk hbk;go_wp2_with fail
   have b0:=heap_setCell_same _ _ 0 _ _ (.slice a2 d.wl.p.length c2) Hr0.out;have b1:=heap_setCell_same _ _ 1 _ _ (.slice b2 k d2) b0;have b2':=heap_setCell_same _ _ 2 _ _ (.int .i64 (1+(s0:Int))) b1;have b3:=heap_setCell_same _ _ 3 _ _ (.int .i64 (1+(d.prop:Int) % 6)) b2';have b4:=heap_setCell_same _ _ 4 _ _ (.slice am (zql k p).length cm) b3;have b5:=heap_setCell_same _ _ 5 _ _ (.bool d.modes) b4;have o0:=zgg Hr0.out Hok.out (by decide) 0 (.slice a2 d.wl.p.length c2);have o1:=zgg b0 o0 (by decide) 1 (.slice b2 k d2);have o2:=zgg b1 o1 (by decide) 2 (.int .i64 (1+(s0:Int)));have o3:=zgg b2' o2 (by decide) 3 (.int .i64 (1+(d.prop:Int) % 6));have o4:=zgg b3 o3 (by decide) 4 (.slice am (zql k p).length cm);have o5:=zgg b4 o4 (by decide) 5 (.bool d.modes);generalize hWE:((((((wr.setCell ⟨w.heap.size+1,0,none⟩ (.slice a2 d.wl.p.length c2)).setCell ⟨w.heap.size+1,1,none⟩ (.slice b2 k d2)).setCell ⟨w.heap.size+1,2,none⟩ (.int .i64 (1+(s0:Int)))).setCell ⟨w.heap.size+1,3,none⟩ (.int .i64 (1+(d.prop:Int) % 6))).setCell ⟨w.heap.size+1,4,none⟩ (.slice am (zql k p).length cm)).setCell ⟨w.heap.size+1,5,none⟩ (.bool d.modes))=WE at *;have hoth:∀ b o,b ≠ w.heap.size+1→WE.cell? ⟨b,o,none⟩=wr.cell? ⟨b,o,none⟩:=fun b o hb=>by
    rw [← hWE];refine World.cell?_of_block ?_;dsimp only;rw [heap_setCell_other _ _ _ _ hb,heap_setCell_other _ _ _ _ hb,heap_setCell_other _ _ _ _ hb,heap_setCell_other _ _ _ _ hb,heap_setCell_other _ _ _ _ hb,heap_setCell_other _ _ _ _ hb]
   have hEw:Ext w wr:=(HE1.out.trans HE3.out).trans HEk.out;have hEE:Ext w WE:=by
    rw [← hWE];exact (((((hEw.setCell (Nat.le_succ _) _).setCell (Nat.le_succ _) _).setCell (Nat.le_succ _) _).setCell (Nat.le_succ _) _).setCell (Nat.le_succ _) _).setCell (Nat.le_succ _) _
   have hB6:znK WE (w.heap.size+1) (.slice a2 d.wl.p.length c2) (.slice b2 k d2) (1+(s0:Int)) (1+(d.prop:Int) % 6) (.slice am (zql k p).length cm) d.modes:=b5;obtain ⟨e0,e1,e2,e3,e4,e5⟩:=hB6.cs;obtain ⟨vp3,vn3,ev3,hsp3,hsn3⟩:=Hs2.out.ext HEk.out;injection ev3 with ev3;injection ev3 with ev3;injection ev3 with ev31 ev32;injection ev32 with ev32 _;subst ev31 ev32;have hlen:∀ r∈rs,0<r.x.length:=fun r hr=>by
    have h1:=(zlI d.wl Hc2.out).wd.len r.x (List.mem_map_of_mem hr);rw [h1];rcases d.wl.pw with e | e <;> rw [e] <;> decide
   have hpz:∀ u∈zaq d.wl.p,∀ x∈(#[.slice none 0 0,.slice none 0 0,.int .i64 0,.int .i64 0,.slice none 0 0,.bool false]:Array Value).toList,x ≠ u:=fun u hu x hx e=>by
    subst e;rcases d.wl.pw with e | e <;> rw [e] at hu <;> simp [zaq] at hu hx <;> rcases hx with rfl | rfl | rfl | rfl | rfl | rfl <;> simp at hu
   have hP:=zqv Hr0.out hsp3 hpz hoth;have hN:=zqx Hr0.out hsn3 (by simp) (by intro a n c h;simp;omega) hlen hoth;have hM:Sl WE (.slice am (zql k p).length cm) (zaq (zql k p)):=zao o5;refine bodyPost_ret (v:=.agg #[.slice a2 d.wl.p.length c2,.slice b2 k d2,.int .i64 (1+(s0:Int)),.int .i64 (1+(d.prop:Int) % 6),.slice am (zql k p).length cm,.bool d.modes]) (by simp [results,Tryz.results30,go_sem,e0,e1,e2,e3,e4,e5]) rfl ⟨_,rfl,rs,?_,Hc2.out,hEE⟩;rw [← Hn.out,Hm.out,HP.out,show d.M k=zql k p by rw [Hp.out];rfl];exact ⟨_,_,_,rfl,hP,hN,hM⟩
end Go.Proofs.YtiameffonflhgaaGreatDoor
