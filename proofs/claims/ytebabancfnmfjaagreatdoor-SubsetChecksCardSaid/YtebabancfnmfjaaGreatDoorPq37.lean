/- Walks: subset.All, subset.Scales where nothing is wrong. A search of few notes has no errors. Walks: schismaref06.EqualRows, law 38's sameInts. Walk: law 38's known. Walks: law 38's indices, check, isMode. Walk: law 38's check, with whatever scale.Check says. Walk: scale.Check of a scale whose note j is not greater than the one before. Walks: subset.search, All, Scales, Fits, Candidates where a query is wrong, or has too many candidates. -/
import Derived.Test.YtebabancfnmfjaaGreatDoorPq36
import Derived.Test.YtebabancfnmfjaaGreatDoorPq30
import Derived.Test.YtebabancfnmfjaaGreatDoorPq29
import Derived.Test.YtebabancfnmfjaaGreatDoorPq33
import Derived.Test.YtebabancfnmfjaaGreatDoorPq35
import Derived.Test.YtebabancfnmfjaaGreatDoorPq14
import Derived.Test.YtebabancfnmfjaaGreatDoorPq16
set_option maxRecDepth 100000
set_option maxHeartbeats 4000000
namespace Go.Proofs.YtebabancfnmfjaaGreatDoor
section
open Go.RowKit Go.Lib Go.Shelf
attribute [local go_sem] Oper.semAt_some
structure zpu (p:List Int)(N:List (List Rat))(m:Nat)(P:Int)(M:List Int):Prop where
 wd:Wd p N
 m1:1≤m
 mn:m≤N.length
 P1:1≤P
 P6:P≤6
 M0:zj3 N.length M 0 M.length=0
 few:zn9 N.length m M.length≤5000
 cs:(cho N.length m M N.length [] 0).length≤5000
 all:∀ l∈cho N.length m M N.length [] 0,l.length≤60∧zj4 N.length l=0∧(2≤P→P≤6→Wc p (zjA p N l))
theorem zpv (v:Value)(p:List Int)(rs:List Qw)(m:Nat)(P:Int)(M:List Int)(b:Bool)(w:World)(he:Env w)(hv:QyV w v p rs (m:Int) P M b)(h:zpu p (rs.map Qw.x) m P M) :
  Calls Tryz.prog 54 #[v] w fun e w'=>∃ us vs fs,e=.returned (.tuple #[us,vs,.int .i64 0])∧Fnd w' w.heap.size p (rs.map Qw.x) us vs fs∧fs.map Fw.l=srL P b p (rs.map Qw.x) (cho rs.length m M rs.length [] 0)∧Ext w w':=by
 have hL:(rs.map Qw.x).length=rs.length:=List.length_map ..;obtain ⟨h1,h2,h3,h4,h5,h6,h7,h8,h9⟩:=h;rw [hL] at h3 h6 h7 h8 h9;exact zpt v p rs m P M b w he hv h1 h2 h3 h4 h5 h6 h7 h8 h9
theorem zpw (v:Value)(p:List Int)(rs:List Qw)(m:Nat)(P:Int)(M:List Int)(b:Bool)(w:World)(he:Env w)(hv:QyV w v p rs (m:Int) P M b)(h:zpu p (rs.map Qw.x) m P M) :
  Calls Tryz.prog 17 #[v] w fun e w'=>∃ us vs fs,e=.returned (.tuple #[us,.int .i64 0])∧Fnd w' w.heap.size p (rs.map Qw.x) us vs fs∧fs.map Fw.l=srL P b p (rs.map Qw.x) (cho rs.length m M rs.length [] 0)∧Ext w w':=by
 have hsr:=fun W u (hE:Ext w W)(hu:QyV W u p rs (m:Int) P M b)=>zpv u p rs m P M b W (he.ext hE) hu h;obtain ⟨ap,cp,an,cn,am,cm,rfl,hs,hmm⟩:=hv.let;have hE0:Ext w (w.alloc (.cells #[.slice ap p.length cp,.slice an rs.length cn,.int .i64 (m:Int),.int .i64 P,.slice am M.length cm,.bool b] 59)):=(Ext.refl w).alloc _;have hb:=zno.new w (.slice ap p.length cp) (.slice an rs.length cn) (m:Int) P (.slice am M.length cm) b;have hs0:=hsr _ _ hE0 (hv.ext hE0);have Hs0:=hid hs0;have HE0:=hid hE0;have Hb:=hid hb;clear hsr hE0 hb hs0 hs hmm hv h he;obtain ⟨q0,q1,q2,q3,q4,q5⟩:=Hb.out.cs;generalize srL P b p (rs.map Qw.x) (cho rs.length m M rs.length [] 0)=L at *;go_enter Tryz.func17,Tryz.ntmps17
 go_wp2_with fail
 refine Hs0.out.mono ?_;rintro e w1 ⟨us,vs,fs,rfl,hf,hm,hx⟩;have hf2:=hf.mono (HE0.out).size;obtain ⟨a1,c1,rfl⟩:=zfi hf2.us;obtain ⟨a2,c2,rfl⟩:=zfi hf2.vs;have Hf:=hid hf2;have Hm:=hid hm;have HE1:=hid (HE0.out.trans hx);clear hf hf2 hm hx q0 q1 q2 q3 q4 q5;go_wp2_with fail
 go_ret2
 exact ⟨_,_,fs,rfl,Hf.out,Hm.out,HE1.out⟩
end
section
open Go.RowKit Go.Lib
theorem zpx {n:Nat}{l:List Int}(hb:∀ x∈l,0≤x∧x<(n:Int))(hp:l.Pairwise (·<·)):zj3 n l 0 l.length=0:=by
 have key:∀ i,i<l.length→zj2 n l i=0:=fun i hi=>by
  unfold zj2;have h1:=hb _ (List.getElem_mem hi);rw [List.getElem?_eq_getElem hi,Option.getD_some,if_neg (by omega)];by_cases h0:0<i
  ·have h2:=List.pairwise_iff_getElem.1 hp (i - 1) i (by omega) hi (by omega);rw [List.getElem?_eq_getElem (show i - 1<l.length by omega),Option.getD_some,if_neg (by omega)]
  ·rw [if_neg (by omega)]
 have all:∀ m k,k+m=l.length→zj3 n l k m=0:=by
  intro m;induction m with
  | zero=>intro k _;rfl
  | succ m ih =>
   intro k hk
   rw [zj3,if_pos (key k (by omega))]
   exact ih (k+1) (by omega)
 exact all l.length 0 (by omega)
theorem zpy {n:Nat}{l:List Int}(hn:l ≠ [])(hb:∀ x∈l,0≤x∧x<(n:Int))(hp:l.Pairwise (·<·)):zj4 n l=0:=by
 unfold zj4;rw [if_neg hn];exact zpx hb hp
theorem zpz {n:Nat}{M:List Int}(hb:∀ x∈M,0≤x∧x<(n:Int))(hp:M.Pairwise (·<·)):M.length≤n:=by
 have hs:M ⊆ (List.range n).map (fun (k:Nat)=>(k:Int)):=fun x hx=>by
  have hb:=hb x hx;exact List.mem_map.2 ⟨x.toNat,List.mem_range.2 (by omega),by omega⟩
 have:=zjv (hp.imp (fun h=>by omega)) hs;simpa using this
theorem zp0 {n m:Nat}{M l:List Int}(h:l∈zj0 n m M):l.length=m∧(∀ x∈l,0≤x∧x<(n:Int))∧l.Pairwise (·<·):=by
 have h1:=(List.mem_filter.1 h).1;have h2:=zjt (Nat.le_refl _) h1;rw [Nat.sub_self] at h2;exact ⟨zjs h1,h2⟩
theorem zpu.of {p:List Int}{N:List (List Rat)}{m:Nat}{P:Int}{M:List Int}(h:Wc p N)(h1:1≤m)(h2:m≤N.length)(P1:1≤P)(P6:P≤6)(M0:zj3 N.length M 0 M.length=0):zpu p N m P M:=by
 obtain ⟨hb,hp⟩:=zj8 M0;have hL:=zpz hb hp;have hf:=h.few;have hcc:=zj1 (m:=m) hp hb;refine ⟨h.wd,h1,h2,P1,P6,M0,?_,?_,?_⟩
 ·unfold zn9;split
  ·omega
  ·exact zn5 (N.length - M.length) (by omega) (((m:Int) - (M.length:Int)).toNat) (by omega)
 ·rw [hcc];refine Nat.le_trans (List.length_filter_le _ _) ?_;rw [znw];have a:=zn5 N.length (by omega) m (by omega);rw [zn3 _ _ h2] at a;omega
 ·rw [hcc];intro l hl;obtain ⟨a,b,c⟩:=zp0 hl;have hn:l ≠ []:=by
   intro e;rw [e] at a;simp at a;omega
  exact ⟨by omega,zpy hn b c,fun _ _=>zmP h hn (by omega) b c⟩
end
section
open Go.RowKit Go.Lib Go.Shelf
attribute [local go_sem] Oper.semAt_some
theorem zp1 {a b:List Int}{k:Nat}(hl:a.length=b.length)(hk:a.length≤k)(h:a.take k=b.take k):a=b:=by
 rwa [List.take_of_length_le hk,List.take_of_length_le (by omega)] at h
theorem zp2 {a b:List Int}{k:Nat}(hl:a.length=b.length)(hk:k<a.length)(h:a.take k=b.take k)(e:(a[k]?).getD 0=(b[k]?).getD 0):a.take (k+1)=b.take (k+1):=by
 rw [List.take_succ_eq_append_getElem hk,List.take_succ_eq_append_getElem (by omega),h];rw [List.getElem?_eq_getElem hk,List.getElem?_eq_getElem (by omega)] at e;exact congrArg (fun x=>_++[x]) e
theorem zp3 {w:World}{al:Option Addr}{n c:Nat}{l:List Int}(h:Sl w (.slice al n c) (zap l))(k:Nat)(hk:k<l.length):∃ b off,al=some ⟨b,off,none⟩∧w.cell? ⟨b,off+k,none⟩=some (.int .i64 ((l[k]?).getD 0)):=by
 obtain ⟨a2,c2,e,_,_,hc⟩:=h.parts;injection e with e1 _ _;subst e1;exact hc k (.int .i64 ((l[k]?).getD 0)) (by unfold zap;rw [List.getElem?_map,List.getElem?_eq_getElem hk];rfl)
theorem zp4 (va vb:Value)(a b:List Int)(w:World)(ha:Sl w va (zap a))(hb:Sl w vb (zap b))(hla:a.length≤1000)(hlb:b.length≤1000) :
  Calls Tryz.prog 117 #[va,vb] w fun e w'=>e=.returned (.bool (decide (a=b)))∧Ext w w':=by
 obtain ⟨aa,ca,rfl,_,_,_⟩:=ha.parts;obtain ⟨ab,cb,rfl,_,_,_⟩:=hb.parts;rw [zar] at *;rw [zar] at *;have hca:=zp3 ha;have hcb:=zp3 hb;have hla2:=hla;generalize hn:a.length=n at *;generalize hm:b.length=m at *;have Hn:=hid hn;have Hm:=hid hm;have Hca:=hid hca;have Hcb:=hid hcb;clear ha hb hca hcb hn hm;go_enter Tryz.func117,Tryz.ntmps117
 by_cases hnm:n=m
 ·subst hnm;have Hl:=hid (Hn.out.trans Hm.out.symm);go_wp2_with fail
  go_loopw [5] (fun v5 wr=>∃ k:Nat,v5=.int .i64 k∧k≤n∧Hid (a.take k=b.take k)∧Ext w wr) (fun v5 _=>n - (zal v5).toNat)
  case atStart=>exact ⟨0,rfl,Nat.zero_le _,hid rfl,Ext.refl _⟩
  case round =>
   obtain ⟨k,rfl,hk,HT,hE⟩:=hrel;have HE:=hid hE;by_cases hkn:k<n
   ·obtain ⟨b1,o1,rfl,h1⟩:=Hca.out k hkn;obtain ⟨b2,o2,rfl,h2⟩:=Hcb.out k hkn;have c1:=hE.cell h1;have c2:=hE.cell h2;have hk0:(0:Int)≤(k:Int):=(by omega);have hk1:(k:Int)<(n:Int):=(by omega);clear h1 h2 hE;generalize hx:(a[k]?).getD 0=x at *;generalize hy:(b[k]?).getD 0=y at *;have Hx:=hid hx;have Hy:=hid hy;clear hx hy;by_cases hxy:x=y
    ·subst hxy;have Hnx:=hid (zp2 Hl.out (by rw [Hn.out];exact hkn) HT.out (Hx.out.trans Hy.out.symm));go_wp2_with fail
     go_quiet (fail)
     go_wp2_with fail
     go_roundw
     case rel=>exact ⟨k+1,by go_num,hkn,Hnx,HE.out.drewN _⟩
     case measure=>simp [zal];omega
    ·have f1:(x == y)=false:=(by simpa using hxy);have f2:(x != y)=true:=(by simpa using hxy);have hne:decide (a=b)=false:=decide_eq_false fun e=>hxy (by rw [← Hx.out,← Hy.out,e]);have Hne:=hid hne;clear hne hxy;go_wp2_with fail
     go_quiet (fail)
     go_wp2_with fail
     go_ret
     exact ⟨by rw [Hne.out] <;> rfl,HE.out.drewN _⟩
   ·have hkk:¬ (k:Int)<(n:Int):=(by omega);have hyes:decide (a=b)=true:=decide_eq_true (zp1 Hl.out (by rw [Hn.out];omega) HT.out);have Hyes:=hid hyes;clear hyes hE;go_wp2_with fail
    go_ret
    exact ⟨by rw [Hyes.out] <;> rfl,HE.out⟩
 ·have f1:((n:Int) == (m:Int))=false:=by simp;omega
  have f2:((n:Int) != (m:Int))=true:=by simp;omega
  have hne:decide (a=b)=false:=decide_eq_false fun e=>hnm (by rw [← Hn.out,← Hm.out,e]);have Hne:=hid hne;clear hne;go_wp2_with fail
  go_ret
  exact ⟨by rw [Hne.out] <;> rfl,Ext.refl _⟩
theorem zp5 (va vb:Value)(a b:List Int)(w:World)(ha:Sl w va (zap a))(hb:Sl w vb (zap b))(hla:a.length≤1000)(hlb:b.length≤1000) :
  Calls Tryz.prog 57 #[va,vb] w fun e w'=>e=.returned (.bool (decide (a=b)))∧Ext w w':=by
 have h:=zp4 va vb a b w ha hb hla hlb;obtain ⟨aa,ca,rfl,_,_,_⟩:=ha.parts;obtain ⟨ab,cb,rfl,_,_,_⟩:=hb.parts;have Hh:=hid h;clear h ha hb;generalize decide (a=b)=D at *;go_enter Tryz.func57,Tryz.ntmps57
 go_wp2_with fail
 refine Hh.out.mono ?_;rintro e w1 ⟨rfl,hx⟩;have Hx:=hid hx;clear hx;go_wp2_with fail
 go_ret
 exact ⟨rfl,Hx.out⟩
theorem zp6 {rs:List Qw}{N:List (List Rat)}{n:Nat}(h:rs.map Qw.x=N)(hn:N.length=n):rs.length=n:=by
 have:=congrArg List.length h;rw [List.length_map] at this;omega
theorem zp7 {W:World}{a1:Option Addr}{c1:Nat}{a2:Option Addr}{c2:Nat}{vm:Value}{p:List Int}{rs:List Qw}{n:Nat}{m P:Int}{M:List Int}{b:Bool}(hp:Sl W (.slice a1 p.length c1) (zap p))(hn:RdM W (.slice a2 n c2) rs)(hm:Sl W vm (zap M)) :
  QyV W (.agg #[.slice a1 p.length c1,.slice a2 n c2,.int .i64 m,.int .i64 P,vm,.bool b]) p rs m P M b:=⟨_,_,_,rfl,hp,hn,hm⟩
theorem zp8 : zo3 3 [2,3] (eqN 12) 12 5 [0,7] [0,2,4,7,9]=.tuple #[.bool true,.int .i64 0]:=by
 unfold zo3;rw [if_pos (by decide),znf.1];rfl
theorem zp9 : zo3 3 [2,3] (eqN 12) 12 5 [0,7] [0,1,4,7,9]=.tuple #[.bool false,.int .i64 0]:=by
 unfold zo3;rw [if_pos (by decide),znf.2];rfl
theorem zpA {W:World}(l:List Int)(T:TypeId)(h:l.length≤100):Sl (W.alloc (.cells (zap l).toArray T)) (.slice (some ⟨W.heap.size,0,none⟩) l.length l.length) (zap l):=by
 have:=zhn (us:=zap l) (World.alloc_heap_new W (.cells (zap l).toArray T)) (by rw [zar];unfold maxLen;omega);rw [zar] at this;exact this
theorem zpB (w:World)(he:Env w) :
  Calls Tryz.prog 19 #[] w fun e w'=>e=.returned (.bool true)∧Ext w w':=by
 have hwc:Wc [2,3] (eqN 12):=znd (by omega) (by omega);have hel:(eqN 12).length=12:=zmX 12;have htw:=fun W (hE:Ext w W)=>(znF W (he.ext hE)).mono fun e w' ⟨v,rs,h1,h2,h3,h4⟩=>(show ∃ a1 c1 a2 c2 rs,e=Ending.returned (.agg #[.slice a1 2 c1,.slice a2 12 c2])∧Sl w' (.slice a1 2 c1) (zap [2,3])∧RdM w' (.slice a2 12 c2) rs∧rs.map Qw.x=eqN 12∧Ext W w' by
  obtain ⟨vp,vn,rfl,hop,hqn⟩:=h2;obtain ⟨a1,c1,rfl⟩:=zfi hop;obtain ⟨a2,c2,rfl⟩:=zfi hqn.1;have hl:=zp6 h3 hel;have hr:=hqn.rd;rw [hl] at hr h1;exact ⟨a1,c1,a2,c2,rs,h1,zan hop,hr,h3,h4⟩)
 have hca:=fun W v rs (hE:Ext w W)(hv:QyV W v [2,3] rs 5 3 [0,7] false)(hm:rs.map Qw.x=eqN 12)=>(show Calls Tryz.prog 21 #[v] W fun e w'=>e=.returned (.tuple #[.string ⟨#[49,50,48]⟩,.int .i64 0])∧Ext W w' from by
  have hl:=zp6 hm hel;have:=zo5 v [2,3] rs 5 3 [0,7] false W (he.ext hE) hv (by rw [hm];exact hwc.wd) (by omega) (by omega) (by omega) (by rw [hl];decide) (by rw [hl];decide);rw [hl,show I (zn9 12 5 ([0,7]:List Int).length)=⟨#[49,50,48]⟩ from by decide +kernel] at this;exact this)
 have hft:=fun (l:List Int) W v vl rs (r:Bool)(hE:Ext w W)(hv:QyV W v [2,3] rs 5 3 [0,7] false)(hm:rs.map Qw.x=eqN 12)(hvl:Sl W vl (zap l))(h0:l ≠ [])(h6:l.length≤12)(hse:zj3 12 l 0 l.length=0)(hr:zo3 3 [2,3] (eqN 12) 12 5 [0,7] l=.tuple #[.bool r,.int .i64 0])=>(show Calls Tryz.prog 31 #[v,vl] W fun e w'=>e=.returned (.tuple #[.bool r,.int .i64 0])∧Ext W w' from by
  have hl:=zp6 hm hel;have hb:=zj8 hse;have:=zo4 v vl [2,3] rs 5 3 [0,7] false l W (he.ext hE) hv (by rw [hm];exact hwc.wd) hvl (by omega) (by rw [hl];decide) (by decide) (fun _ _ _=>by rw [hm];exact zmP hwc h0 (by omega) (by rw [hel];exact hb.1) hb.2);rw [hl,hm,hr] at this;exact this)
 have hal:=fun W v rs (hE:Ext w W)(hv:QyV W v [2,3] rs 1 2 [] true)(hm:rs.map Qw.x=eqN 12)=>(show Calls Tryz.prog 17 #[v] W fun e w'=>(∃ g c a5 c5,e=.returned (.tuple #[.slice (some ⟨g,0,none⟩) 1 c,.int .i64 0])∧w'.cell? ⟨g,0,none⟩=some (.slice a5 1 c5)∧Sl w' (.slice a5 1 c5) (zap [0]))∧Ext W w' from by
  have hl:=zp6 hm hel;have h:=zpw v [2,3] rs 1 2 [] true W (he.ext hE) hv (by rw [hm];exact zpu.of hwc (by omega) (by rw [hel];omega) (by omega) (by omega) (by rw [hel];decide));refine h.mono fun e w' ⟨us,vs,fs,h1,h2,h3,h4⟩=>⟨?_,h4⟩;rw [hl,hm,zj1 List.Pairwise.nil (fun x hx=>by cases hx),zng] at h3;obtain ⟨f,rfl,hfl⟩:=List.map_eq_singleton_iff.1 h3;have hfo:=(h2.all f (List.mem_singleton.2 rfl)).1;rw [hfl] at hfo;obtain ⟨a5,c5,e5⟩:=zfi hfo;have hus:=h2.us;rcases hus.2 with ⟨_,e0⟩ | ⟨g,cap,cur,e0,_⟩
  ·simp at e0
  ·have hc:=World.ownsRow.cells hus (g:=g) (by rw [e0];rfl) 0 f.u rfl;rw [e5] at hc hfo;exact ⟨g,cap,a5,c5,by rw [h1,e0];rfl,hc,zan hfo⟩)
 have hsi:=fun W va vb (ha:Sl W va (zap [0]))(hb:Sl W vb (zap [0]))=>zp5 va vb [0] [0] W ha hb (by decide) (by decide);have Htw:=hid htw;have Hca:=hid hca;have Hft:=hid hft;have Hal:=hid hal;have Hsi:=hid hsi;clear htw hca hft hal hsi hwc hel he;go_enter Tryz.func19,Tryz.ntmps19
 go_wp2_with fail
 refine (Htw.out _ (Ext.refl _)).mono ?_;rintro e w1 ⟨a1,c1,a2,c2,rs,rfl,hp,hn,hm,hx1⟩;have hE2:=(Ext.refl w1).alloc (.cells #[.int .i64 0,.int .i64 7] 3);have hm2:=zpA (W:=w1) [0,7] 3 (by decide);have hE3:=hE2.alloc (.cells #[.slice a1 2 c1,.slice a2 12 c2,.int .i64 5,.int .i64 3,.slice (some ⟨w1.heap.size,0,none⟩) 2 2,.bool false] 59);have hb3:=zno.new (w1.alloc (.cells #[.int .i64 0,.int .i64 7] 3)) (.slice a1 2 c1) (.slice a2 12 c2) 5 3 (.slice (some ⟨w1.heap.size,0,none⟩) 2 2) false;have hq3:=zp7 (p:=[2,3]) (m:=5) (P:=3) (b:=false) (hE3.sl hp) (hE3.rdM hn) (((Ext.refl (w1.alloc (.cells #[.int .i64 0,.int .i64 7] 3))).alloc (.cells #[.slice a1 2 c1,.slice a2 12 c2,.int .i64 5,.int .i64 3,.slice (some ⟨w1.heap.size,0,none⟩) 2 2,.bool false] 59)).sl hm2);rw [World.size_alloc] at hb3;have Hq3:=hid hq3;have Hb3:=hid hb3;have HE3:=hid (hx1.trans hE3);have Hm:=hid hm;obtain ⟨q0,q1,q2,q3,q4,q5⟩:=hb3.cs;clear hq3 hb3 hE3 hE2 hm2 hp hn hx1 hm;go_wp2_with fail
 refine (Hca.out _ _ rs HE3.out Hq3.out Hm.out).mono ?_;generalize hW3:(w1.alloc (.cells #[.int .i64 0,.int .i64 7] 3)).alloc (.cells #[.slice a1 2 c1,.slice a2 12 c2,.int .i64 5,.int .i64 3,.slice (some ⟨w1.heap.size,0,none⟩) 2 2,.bool false] 59)=W3 at *;rintro e w2 ⟨rfl,hx2⟩;have hE4:=hx2.alloc (.cells #[.int .i64 0,.int .i64 2,.int .i64 4,.int .i64 7,.int .i64 9] 3);have hl4:=zpA (W:=w2) [0,2,4,7,9] 3 (by decide);have hft1:=Hft.out [0,2,4,7,9] _ _ _ rs true (HE3.out.trans hE4) (Hq3.out.ext hE4) Hm.out hl4 (by simp) (by decide) (by decide) zp8;obtain ⟨q0,q1,q2,q3,q4,q5⟩:=(Hb3.out.ext hx2).cs;have HE4:=hid hE4;have Hft1:=hid hft1;clear hx2 hE4 hl4 hft1 hW3;go_wp2_with fail
 refine Hft1.out.mono ?_;rintro e w4 ⟨rfl,hx4⟩;have hX4:=HE4.out.trans hx4;have hE5:=hX4.alloc (.cells #[.int .i64 0,.int .i64 1,.int .i64 4,.int .i64 7,.int .i64 9] 3);have hl5:=zpA (W:=w4) [0,1,4,7,9] 3 (by decide);have hft2:=Hft.out [0,1,4,7,9] _ _ _ rs false (HE3.out.trans hE5) (Hq3.out.ext hE5) Hm.out hl5 (by simp) (by decide) (by decide) zp9;obtain ⟨q0,q1,q2,q3,q4,q5⟩:=(Hb3.out.ext hX4).cs;have HE5:=hid hE5;have Hft2:=hid hft2;clear hx4 hX4 hE5 hl5 hft2 Hft1;go_wp2_with fail
 refine Hft2.out.mono ?_;rintro e w5 ⟨rfl,hx5⟩;have HE6:=hid (HE3.out.trans (HE5.out.trans hx5));clear hx5 q0 q1 q2 q3 q4 q5 Hft2;go_wp2_with fail
 refine (Htw.out _ HE6.out).mono ?_;rintro e w6 ⟨a3,c3,a4,c4,rs6,rfl,hp6,hn6,hm6,hx6⟩;have hq6:=zp7 (p:=[2,3]) (m:=1) (P:=2) (b:=true) (vm:=.slice none 0 0) (M:=[]) hp6 hn6 (.inl ⟨none,0,rfl,Nat.zero_le _,rfl⟩);have hal6:=Hal.out w6 _ rs6 (HE6.out.trans hx6) hq6 hm6;have HE7:=hid (HE6.out.trans hx6);have Hal6:=hid hal6;clear hx6 hq6 hal6 hp6 hn6 hm6;go_wp2_with fail
 refine Hal6.out.mono ?_;rintro e w7 ⟨⟨g,c,a5,c5,rfl,hc7,hs7⟩,hx7⟩;have hE8:=(Ext.refl w7).alloc (.cells #[.int .i64 0] 3);have hl8:=zpA (W:=w7) [0] 3 (by decide);have hsi:=Hsi.out _ _ _ (hE8.sl hs7) hl8;have HE8:=hid (HE7.out.trans (hx7.trans hE8));have Hsi8:=hid hsi;clear hx7 hs7 hE8 hl8 hsi;go_wp2_with fail
 refine Hsi8.out.mono ?_;rintro e w8 ⟨rfl,hx8⟩;have HE9:=hid (HE8.out.trans hx8);clear hx8 hc7;go_wp2_with fail
 go_ret
 exact ⟨by simp,HE9.out⟩
theorem zpC (vl:Value)(l:List Int)(n:Nat)(w:World)(hvl:Sl w vl (zap l))(hl:l.length≤1000000) :
  Calls Tryz.prog 76 #[vl,.int .i64 (n:Int)] w fun e w'=>e=.returned (.int .i64 (zj3 n l 0 l.length))∧Ext w w':=by
 obtain ⟨al,cl,rfl,_,_,_⟩:=hvl.parts;rw [zar] at *;have hlat:=zp3 hvl;have Hlat:=hid hlat;clear hvl hlat;generalize hLl:l.length=L at *;have HLl:=hid hLl;clear hLl;go_enter Tryz.func76,Tryz.ntmps76
 go_wp2_with fail
 go_loopw [5] (fun v5 wr=>∃ k:Nat,v5=.int .i64 k∧k≤L∧Hid (zj3 n l 0 L=zj3 n l k (L - k))∧Ext w wr) (fun v5 _=>L - (zal v5).toNat)
 case atStart=>exact ⟨0,rfl,Nat.zero_le _,hid rfl,Ext.refl _⟩
 case round =>
  obtain ⟨k,rfl,hk,HS,hE⟩:=hrel;have HE:=hid hE;by_cases hkl:k<L
  ·obtain ⟨b,off,rfl,hc0⟩:=Hlat.out k hkl;have hc:=hE.cell hc0;clear hE hc0;have hgo:zj2 n l k=0→zj3 n l 0 L=zj3 n l (k+1) (L - (k+1)):=fun e=>by
    have:=zj5 (n:=n) (l:=l) (k:=k) (by rw [HLl.out];exact hkl) e;rw [HLl.out] at this;exact HS.out.trans this
   have hst:zj2 n l k ≠ 0→zj3 n l 0 L=zj2 n l k:=fun e=>by
    have:=zj6 (n:=n) (l:=l) (k:=k) (by rw [HLl.out];exact hkl) e;rw [HLl.out] at this;exact HS.out.trans this
   have hun:zj2 n l k=if (l[k]?).getD 0<0∨(n:Int)≤(l[k]?).getD 0 then 3 else if 0<k∧(l[k]?).getD 0≤(l[k - 1]?).getD 0 then 6 else 0:=rfl;have hpv:=fun (h0:0<k)=>Hlat.out (k - 1) (by omega);generalize (l[k]?).getD 0=x at *;generalize (l[k - 1]?).getD 0=y at *;have hk0:(0:Int)≤(k:Int):=(by omega);have hk1:(k:Int)<(L:Int):=(by omega);have Hgo:=hid hgo;have Hst:=hid hst;have Hun:=hid hun;have Hpv:=hid hpv;clear hgo hst hun hpv;by_cases hx0:x<0
   ·have hec:zj3 n l 0 L=3:=by
     have hs:zj2 n l k=3:=(by rw [Hun.out,if_pos (.inl hx0)]);exact (Hst.out (by rw [hs];decide)).trans hs
    have Hec:=hid hec;clear hec;go_wp2_with fail
    go_ret
    exact ⟨by rw [Hec.out];rfl,HE.out⟩
   ·by_cases hxn:(n:Int)≤x
    ·have hec:zj3 n l 0 L=3:=by
      have hs:zj2 n l k=3:=(by rw [Hun.out,if_pos (.inr hxn)]);exact (Hst.out (by rw [hs];decide)).trans hs
     have Hec:=hid hec;clear hec;go_wp2_with fail
     go_ret
     exact ⟨by rw [Hec.out];rfl,HE.out⟩
    ·rcases Nat.eq_zero_or_pos k with hk00 | hk00
     ·subst hk00;have hs:zj2 n l 0=0:=(by rw [Hun.out,if_neg (by omega),if_neg (by omega)]);have Hnx:=hid (Hgo.out hs);clear hs;rw [Nat.add_zero] at hc;go_wp2_with fail
      go_quiet (fail)
      go_wp2_with fail
      go_roundw
      case rel=>exact ⟨1,by go_num,by omega,Hnx,HE.out.drewN _⟩
      case measure=>simp [zal];omega
     ·obtain ⟨j,rfl⟩:∃ j,k=j+1:=⟨k - 1,by omega⟩;obtain ⟨b',off',e',hc1⟩:=Hpv.out hk00
      cases e'
      have hc':=HE.out.cell hc1;clear hc1;rw [Nat.add_sub_cancel] at hc';have hwj:IntKind.i64.wrap (((j+1:Nat):Int) - 1)=(j:Int):=(by rw [show (((j+1:Nat):Int) - 1)=(j:Int) by omega];exact IntWalk.i64_in _ (by omega));have hwj2:IntKind.i64.wrap (j:Int)=(j:Int):=IntWalk.i64_in _ (by omega);have hj0:(0:Int)≤(j:Int):=(by omega);have hj1:(j:Int)<(L:Int):=(by omega);have hjc:((j+1:Nat):Int)=(j:Int)+1:=(by omega);have hjp:(0:Int)<(j:Int)+1:=(by omega);by_cases hxy:x≤y
      ·have hec:zj3 n l 0 L=6:=by
        have hs:zj2 n l (j+1)=6:=(by rw [Hun.out,if_neg (by omega),if_pos ⟨hk00,hxy⟩]);exact (Hst.out (by rw [hs];decide)).trans hs
       have Hec:=hid hec;clear hec;go_wp2_with fail
       go_quiet (fail)
       go_wp2_with fail
       go_ret
       exact ⟨by rw [Hec.out];rfl,HE.out.drewN _⟩
      ·have hs:zj2 n l (j+1)=0:=(by rw [Hun.out,if_neg (by omega),if_neg (fun g=>hxy g.2)]);have Hnx:=hid (Hgo.out hs);clear hs;go_wp2_with fail
       go_quiet (fail)
       go_wp2_with fail
       go_roundw
       case rel=>exact ⟨j+1+1,by go_num,by omega,Hnx,HE.out.drewN _⟩
       case measure=>simp [zal];omega
  ·obtain rfl:k=L:=by omega
   have hec:zj3 n l 0 k=0:=(by rw [HS.out,Nat.sub_self];rfl);have Hec:=hid hec;clear hec hE;go_wp2_with fail
   go_ret
   exact ⟨by rw [Hec.out];rfl,HE.out⟩
theorem zpD (v:Value)(p:List Int)(rs:List Qw)(m P:Int)(M:List Int)(b:Bool)(ce:Int)(w:World)(hv:QyV w v p rs m P M b)(hM:M.length≤1000000)
  (hck:∀ W sv,Ext w W→ScV W sv p rs→Calls Tryz.prog 34 #[sv] W fun e w'=>e=.returned (.int .i64 ce)∧Ext W w') :
  Calls Tryz.prog 29 #[v] w fun e w'=>e=.returned (.int .i64 (orE ce (znq rs.length m P M)))∧Ext w w':=by
 obtain ⟨ap,cp,an,cn,am,cm,rfl,hs,hm⟩:=hv.let;have hE0:Ext w (w.alloc (.cells #[.slice ap p.length cp,.slice an rs.length cn,.int .i64 m,.int .i64 P,.slice am M.length cm,.bool b] 59)):=(Ext.refl w).alloc _;have hb:=zno.new w (.slice ap p.length cp) (.slice an rs.length cn) m P (.slice am M.length cm) b;have hc1:=hck _ _ hE0 (hs.ext hE0);have hnt:=fun W (hE:Ext w W)=>zpC (.slice am M.length cm) M rs.length W (hE.sl hm) hM;have hq:znq rs.length m P M=if m<1∨(rs.length:Int)<m then 3 else if P<1∨6<P then 12 else zj3 rs.length M 0 M.length:=rfl;generalize zj3 rs.length M 0 M.length=E at *;have Hc1:=hid hc1;have Hnt:=hid hnt;have HE0:=hid hE0;have Hb:=hid hb;have Hq:=hid hq;clear hs hm hc1 hnt hE0 hb hq hck hv;generalize znq rs.length m P M=Z at *;generalize rs.length=n at *;generalize M.length=L at *;obtain ⟨q0,q1,_,_,_,_⟩:=Hb.out.cs;go_enter Tryz.func29,Tryz.ntmps29
 go_wp2_with fail
 refine Hc1.out.mono ?_;rintro e w1 ⟨rfl,hx1⟩;obtain ⟨q0,q1,q2,q3,q4,_⟩:=(Hb.out.ext hx1).cs;have Hx1:=hid (HE0.out.trans hx1);clear hx1;by_cases hce:ce=0
 ·subst hce;by_cases h1:m<1
  ·have HZ:=hid (show Z=3 by rw [Hq.out,if_pos (.inl h1)]);go_wp2_with fail
   go_ret
   exact ⟨by rw [znr,HZ.out];rfl,Hx1.out⟩
  ·by_cases h2:(n:Int)<m
   ·have HZ:=hid (show Z=3 by rw [Hq.out,if_pos (.inr h2)]);go_wp2_with fail
    go_ret
    exact ⟨by rw [znr,HZ.out];rfl,Hx1.out⟩
   ·by_cases h3:P<1
    ·have HZ:=hid (show Z=12 by rw [Hq.out,if_neg (by omega),if_pos (.inl h3)]);go_wp2_with fail
     go_ret
     exact ⟨by rw [znr,HZ.out];rfl,Hx1.out⟩
    ·by_cases h4:6<P
     ·have HZ:=hid (show Z=12 by rw [Hq.out,if_neg (by omega),if_pos (.inr h4)]);go_wp2_with fail
      go_ret
      exact ⟨by rw [znr,HZ.out];rfl,Hx1.out⟩
     ·have HZ:=hid (show Z=E by rw [Hq.out,if_neg (by omega),if_neg (by omega)]);go_wp2_with fail
      refine (Hnt.out _ Hx1.out).mono ?_;rintro e w2 ⟨rfl,hx2⟩;have Hx2:=hid (Hx1.out.trans hx2);clear hx2;go_wp2_with fail
      go_ret
      exact ⟨by rw [znr,HZ.out];rfl,Hx2.out⟩
 ·have hce1:(ce == 0)=false:=by simpa using hce
  have hce2:(ce != 0)=true:=by simpa using hce
  have Hce:=hid hce;clear hce;go_wp2_with fail
  go_ret
  exact ⟨by rw [zns _ Hce.out];rfl,Hx1.out⟩
end
section
open Go.RowKit Go.Lib
attribute [local go_sem] Oper.semAt_some
structure zpE (p:List Int)(rs:List Qw)(j:Nat):Prop where
 pe:zfb p=0
 few:p.length≤100
 most:rs.length≤60
 at':j<rs.length
 len:∀ r∈rs,r.x.length=p.length
 ft:∀ r∈rs,∀ q∈r.x,Ft 30 q
 quick:∀ k r,k≤j→rs[k]?=some r→zh0 p (zew (zii p.length rs k) r.x)
 up:∀ k r,k<j→rs[k]?=some r→ze5 (tms p (dn (zew (zii p.length rs k) r.x)) (zew (zii p.length rs k) r.x))=-1
 down:∀ r,rs[j]?=some r→0≤ze5 (tms p (dn (zew (zii p.length rs j) r.x)) (zew (zii p.length rs j) r.x))
theorem zpF (v:Value)(p:List Int)(rs:List Qw)(j:Nat)(w:World)(he:Env w)(hv:ScV w v p rs)(h:zpE p rs j) :
  Calls Tryz.prog 34 #[v] w fun e w'=>e=.returned (.int .i64 6)∧Ext w w':=by
 obtain ⟨vp,vn,rfl,hp,hs,hm⟩:=hv;have hpl:=h.few;have hjr:=h.at';have h0:rs.length ≠ 0:=by omega
 have h60:=h.most;have hpr:=fun W (hE:Ext w W)=>zfc vp p W (hE.sl hp) (by omega);rw [h.pe] at hpr;have hz:=fun W (hE:Ext w W)=>zhp vp p W (he.ext hE) (hE.sl hp) h.pe;have hck:=fun (r:Qw)(hr:r∈rs) W (hE:Ext w W)=>zfG vp r.u p r.x W (he.ext hE) (hE.sl hp) (hE.rd (hm r hr)) h.pe (h.len r hr) (h.ft r hr);have hcm:=fun k (r:Qw)(hkj:k≤j)(hr:rs[k]?=some r) vb W (hE:Ext w W)(hb:Rd W vb (zii p.length rs k))(hbl:(zii p.length rs k).length=p.length)(hbf:∀ q∈zii p.length rs k,Ft 30 q) =>
  zh2 vp vb r.u p (zii p.length rs k) r.x W (he.ext hE) (hE.sl hp) hb (hE.rd (hm r (List.mem_of_getElem? hr))) h.pe hpl hbl (h.len r (List.mem_of_getElem? hr)) hbf (h.ft r (List.mem_of_getElem? hr)) (h.quick k r hkj hr)
 have hpv:∀ k,k≤rs.length→(zii p.length rs k).length=p.length∧∀ q∈zii p.length rs k,Ft 30 q:=fun k hk=>by
  unfold zii;by_cases h1:k=0
  ·rw [if_pos h1];refine ⟨List.length_replicate,fun q hq=>?_⟩;obtain rfl:=List.eq_of_mem_replicate hq;exact zgV.mono (by omega)
  ·rw [if_neg h1,List.getElem?_eq_getElem (by omega)];exact ⟨h.len _ (List.getElem_mem _),h.ft _ (List.getElem_mem _)⟩
 have hup:=h.up;have hdown:=h.down;have hln:=h.len;have hone:=fun (r:Qw)(hr:r∈rs)=>(hm r hr).parts;have hm2:=fun (r:Qw)(hr:r∈rs) W (hE:Ext w W)=>hE.rd (hm r hr);obtain ⟨ap,cp,rfl,_,_,_⟩:=hp.parts;obtain ⟨an,cn,rfl,_,_,hc⟩:=hs.parts;rw [zar] at hpr hz hck hcm ⊢;rw [zfz];have bx:(w.alloc (.cells #[.slice ap p.length cp,.slice an rs.length cn] 28)).heap[w.heap.size]?=some (.cells #[.slice ap p.length cp,.slice an rs.length cn] 28 (0,0)):=World.alloc_heap_new w _;have hE0:Ext w (w.alloc (.cells #[.slice ap p.length cp,.slice an rs.length cn] 28)):=(Ext.refl w).alloc _;have hbox:∀ W,Ext (w.alloc (.cells #[.slice ap p.length cp,.slice an rs.length cn] 28)) W→W.cell? ⟨w.heap.size,0,none⟩=some (.slice ap p.length cp)∧W.cell? ⟨w.heap.size,1,none⟩=some (.slice an rs.length cn):=fun W hE=>by
  have hb:=hE.heap bx;unfold World.cell?;dsimp only;rw [hb];exact ⟨rfl,rfl⟩
 clear hp hs hm he h hpl bx;have Hpr:=hid hpr;have Hz:=hid hz;have Hck:=hid hck;have Hcm:=hid hcm;have Hpv:=hid hpv;have Hup:=hid hup;have Hdown:=hid hdown;have Hln:=hid hln;have Hone:=hid hone;have Hm2:=hid hm2;have Hc:=hid hc;have HE0:=hid hE0;have Hbox:=hid hbox;clear hpr hz hck hcm hpv hup hdown hln hone hm2 hc hE0 hbox;go_enter Tryz.func34,Tryz.ntmps34
 go_wp2_with fail
 refine (Hpr.out _ HE0.out).mono ?_;rintro e w1 ⟨rfl,rfl⟩;go_wp2_with fail
 refine (Hz.out _ HE0.out).mono ?_;rintro e w1 ⟨rfl,hoz,hx1⟩;obtain ⟨q0,q1⟩:=Hbox.out w1 hx1;have hrz:Rd w1 (.slice (some ⟨w.heap.size+1,0,none⟩) p.length p.length) (zii p.length rs 0):=by
  have:=hoz.rd;rw [World.size_alloc] at this;exact this
 have Hrz:=hid hrz;have Hx1:=hid hx1;clear hrz hx1;clear hoz;go_wp2_with fail
 have hcs:∀ k,(zii p.length rs (k+1))=((rs[k]?).map Qw.x).getD []:=fun k=>by unfold zii;rw [if_neg (by omega)];rfl
 have Hcs:=hid hcs;clear hcs;go_loopw [4,7,8,9,10,36] (fun v4 v7 v8 v9 v10 v36 wr=>∃ (k:Nat)(a:Option Addr)(c:Nat),v36=.int .i64 k∧k≤j∧v4=.slice a p.length c∧Rd wr (.slice a p.length c) (zii p.length rs k)∧Ext w1 wr) (fun _ _ _ _ _ v36 _=>rs.length - (zal v36).toNat)
 case atStart=>exact ⟨0,_,_,rfl,Nat.zero_le _,rfl,Hrz.out,Ext.refl _⟩
 case round =>
  clear q0 q1;obtain ⟨k,ab,cb,rfl,hk,rfl,hrd,hE⟩:=hrel;have hkn:k<rs.length:=by omega
  by_cases hkj:k<j
  ·obtain ⟨r,hr⟩:∃ r,rs[k]?=some r:=⟨_,List.getElem?_eq_getElem hkn⟩;have hmem:=List.mem_of_getElem? hr;obtain ⟨b,off,rfl,hc0⟩:=Hc.out k r.u (by unfold qwc;rw [List.getElem?_map,hr];rfl);obtain ⟨ar,cr,hru,_,_,_⟩:=Hone.out r hmem;have hEw:=(HE0.out.trans Hx1.out).trans hE;have hcu:=hEw.cell hc0;have hrl:r.x.length=p.length:=Hln.out r hmem;rw [hru,hrl] at hcu;have h1:=Hck.out r hmem wr hEw;have hp1:=Hpv.out k (by omega);have h2:=fun W (hx:Ext wr W)=>Hcm.out k r hk hr (.slice ab p.length cb) W (hEw.trans hx) (hx.rd hrd) hp1.1 hp1.2;have hu:=Hup.out k r hkj hr;rw [hu] at h2;have hr2:=fun W (hx:Ext wr W)=>Hm2.out r hmem W (hEw.trans hx);rw [hru,hrl] at h1 h2 hr2;have hnx:zii p.length rs (k+1)=r.x:=(by rw [Hcs.out k,hr];rfl);rw [← hnx] at hr2;have hk0:(0:Int)≤(k:Int):=(by omega);have hk1:(k:Int)<(rs.length:Int):=(by omega);obtain ⟨q0,q1⟩:=Hbox.out wr (Hx1.out.trans hE);have hbx2:=fun W (hx:Ext wr W)=>Hbox.out W ((Hx1.out.trans hE).trans hx);clear hmem hc0 hEw hrl hp1 hu hnx hrd hru hr;have H1:=hid h1;have H2:=hid h2;have Hr2:=hid hr2;have HE:=hid hE;have Hbx2:=hid hbx2;clear h1 h2 hr2 hE hbx2;go_wp2_with fail
   refine H1.out.mono ?_;rintro e w3 ⟨rfl,hx3⟩;obtain ⟨s0,s1⟩:=Hbx2.out w3 hx3;have Hx3:=hid hx3;clear hx3;clear q0 q1;go_wp2_with fail
   refine (H2.out w3 Hx3.out).mono ?_;rintro e w4 ⟨rfl,hx4⟩;have Hx4:=hid (Hx3.out.trans hx4);clear hx4 s0 s1;go_wp2_with fail
   go_roundw
   case rel=>exact ⟨k+1,_,_,by go_num,by omega,rfl,Hr2.out _ Hx4.out,HE.out.trans Hx4.out⟩
   case measure=>simp [zal];omega
  ·obtain rfl:k=j:=by omega
   obtain ⟨r,hr⟩:∃ r,rs[k]?=some r:=⟨_,List.getElem?_eq_getElem hkn⟩;have hmem:=List.mem_of_getElem? hr;obtain ⟨b,off,rfl,hc0⟩:=Hc.out k r.u (by unfold qwc;rw [List.getElem?_map,hr];rfl);obtain ⟨ar,cr,hru,_,_,_⟩:=Hone.out r hmem;have hEw:=(HE0.out.trans Hx1.out).trans hE;have hcu:=hEw.cell hc0;have hrl:r.x.length=p.length:=Hln.out r hmem;rw [hru,hrl] at hcu;have h1:=Hck.out r hmem wr hEw;have hp1:=Hpv.out k (by omega);have h2:=fun W (hx:Ext wr W)=>Hcm.out k r hk hr (.slice ab p.length cb) W (hEw.trans hx) (hx.rd hrd) hp1.1 hp1.2;have hu:=Hdown.out r hr;generalize ze5 (tms p (dn (zew (zii p.length rs k) r.x)) (zew (zii p.length rs k) r.x))=z at *;have hr2:=fun W (hx:Ext wr W)=>Hm2.out r hmem W (hEw.trans hx);rw [hru,hrl] at h1 h2 hr2;have hnx:zii p.length rs (k+1)=r.x:=(by rw [Hcs.out k,hr];rfl);rw [← hnx] at hr2;have hk0:(0:Int)≤(k:Int):=(by omega);have hk1:(k:Int)<(rs.length:Int):=(by omega);obtain ⟨q0,q1⟩:=Hbox.out wr (Hx1.out.trans hE);have hbx2:=fun W (hx:Ext wr W)=>Hbox.out W ((Hx1.out.trans hE).trans hx);clear hmem hc0 hEw hrl hp1 hnx hrd hru hr;have H1:=hid h1;have H2:=hid h2;have Hr2:=hid hr2;have HE:=hid hE;have Hbx2:=hid hbx2;clear h1 h2 hr2 hE hbx2;go_wp2_with fail
   refine H1.out.mono ?_;rintro e w3 ⟨rfl,hx3⟩;obtain ⟨s0,s1⟩:=Hbx2.out w3 hx3;have Hx3:=hid hx3;clear hx3;clear q0 q1;go_wp2_with fail
   refine (H2.out w3 Hx3.out).mono ?_;rintro e w4 ⟨rfl,hx4⟩;have Hx4:=hid (Hx3.out.trans hx4);clear hx4 s0 s1;go_wp2_with fail
   go_ret
   exact ⟨rfl,(HE0.out.trans Hx1.out).trans (HE.out.trans Hx4.out)⟩
theorem zpG {n:Nat}{rs:List Qw}{r0:Qw}{k:Nat}(hk:k≤rs.length):zii n (rs++[r0]) k=zii n rs k:=by
 unfold zii;by_cases h:k=0
 ·rw [if_pos h,if_pos h]
 ·rw [if_neg h,if_neg h,List.getElem?_append_left (by omega)]
theorem Wd.wrong {p:List Int}{rs:List Qw}(h:Wd p (rs.map Qw.x))(r0:Qw)(h0:(rs[0]?).map Qw.x=some r0.x)(h59:rs.length<60):zpE p (rs++[r0]) rs.length:=by
 have hr:=h.right;obtain ⟨n,hn⟩:=h.dif;have hN:(rs.map Qw.x).length=rs.length:=List.length_map ..;have hpos:=h.pos;rw [hN] at hpos;have hfew:=h.few;rw [hN] at hfew;obtain ⟨r1,hr1⟩:∃ r1,rs[0]?=some r1:=⟨_,List.getElem?_eq_getElem hpos⟩;have hx:r1.x=r0.x:=by rw [hr1] at h0;exact Option.some.inj h0
 have hm1:=List.mem_of_getElem? hr1;have hz1:zat p (rs.map Qw.x) 1=r0.x:=by
  unfold zat;rw [List.getElem?_cons_succ,List.getElem?_map,hr1,← hx];rfl
 have hzn:zii p.length rs rs.length=zat p (rs.map Qw.x) rs.length:=by
  unfold zii zat;rw [if_neg (by omega),show rs.length=(rs.length - 1)+1 by omega,List.getElem?_cons_succ,List.getElem?_map,Nat.add_sub_cancel]
 have hl1:=h.zlen (i:=rs.length) (by rw [hN];exact Nat.le_refl _);have hl2:=h.zlen (i:=1) (by rw [hN];omega);have hni:=hn _ (h.zmem (i:=rs.length) (by rw [hN];exact Nat.le_refl _)) _ (h.zmem (i:=1) (by rw [hN];omega));have hs:=zey p _ _ (hl1.trans hl2.symm);have hl3:=ziv (hl1.trans hl2.symm);have hle:sF p (zat p (rs.map Qw.x) 1)≤sF p (zat p (rs.map Qw.x) rs.length):=by
  rcases Nat.lt_or_ge 1 rs.length with g | g
  ·exact Rat.le_of_lt (h.zlt (i:=1) (j:=rs.length) g (by rw [hN];exact Nat.le_refl _))
  ·rw [show rs.length=1 by omega];exact Rat.le_refl
 have hup:sF p (zat p (rs.map Qw.x) rs.length)=67108864:=by
  have:=h.zlast;rw [hN] at this;rw [this,h.sov]
 have hlo:0≤sF p (zat p (rs.map Qw.x) 1):=by
  rcases Nat.lt_or_ge 1 rs.length with g | g
  ·exact (h.zbd (i:=1) (by rw [hN];exact g)).1
  ·rw [show (1:Nat)=rs.length by omega,hup];decide
 rw [hz1] at hni hl2 hs hl3 hle hlo;rw [← hzn] at hni hl1 hs hl3 hle hup;have hq:zh0 p (zew (zii p.length rs rs.length) r0.x):=zit (c:=1) (by rw [hl3.trans hl1];exact h.pr) hni (by omega) (by omega) (by
  rw [show ((1 * 67108864:Int):Rat)=67108864 from rfl];grind) (by
  rw [show ((1 * 67108864:Int):Rat)=67108864 from rfl];grind)
 refine ⟨hr.pe,hr.few,by rw [List.length_append,List.length_singleton];omega,by rw [List.length_append,List.length_singleton];omega,fun r hm=>?_,fun r hm=>?_,fun k r hk hkr=>?_,fun k r hk hkr=>?_,fun r hkr=>?_⟩
 ·rcases List.mem_append.1 hm with e | e
  ·exact hr.len r e
  ·rw [List.mem_singleton] at e;rw [e,← hx];exact hr.len r1 hm1
 ·rcases List.mem_append.1 hm with e | e
  ·exact hr.ft r e
  ·rw [List.mem_singleton] at e;rw [e,← hx];exact hr.ft r1 hm1
 ·rw [zpG hk];rcases Nat.lt_or_ge k rs.length with g | g
  ·rw [List.getElem?_append_left g] at hkr;exact hr.quick k r hkr
  ·obtain rfl:k=rs.length:=by omega
   rw [List.getElem?_append_right (Nat.le_refl _),Nat.sub_self] at hkr
   cases hkr
   exact hq
 ·rw [zpG (by omega)];rw [List.getElem?_append_left hk] at hkr;exact hr.up k r hkr
 ·rw [zpG (Nat.le_refl _)];rw [List.getElem?_append_right (Nat.le_refl _),Nat.sub_self] at hkr
  cases hkr
  rw [zeO (by rw [hl3.trans hl1];exact h.pr) hni.nice];unfold sgQ;rw [if_neg (by grind)];split <;> decide
end
section
open Go.RowKit Go.Lib Go.Shelf
attribute [local go_sem] Oper.semAt_some
def zpH (w:World)(v:Value)(ce:Int):Prop:=ce ≠ 0∧∀ W,Ext w W→Calls Tryz.prog 30 #[v] W fun e w'=>e=.returned (.int .i64 ce)∧Ext W w'
theorem zpH.ext {w w':World}{v:Value}{ce:Int}(h:zpH w v ce)(hx:Ext w w'):zpH w' v ce:=⟨h.1,fun W hE=>h.2 W (hx.trans hE)⟩
def QyS (v:Value):Prop:=∃ a1 n1 c1 a2 n2 c2 m P a3 n3 c3 b,v=.agg #[.slice a1 n1 c1,.slice a2 n2 c2,.int .i64 m,.int .i64 P,.slice a3 n3 c3,.bool b]
theorem zpI (v:Value)(ce:Int)(w:World)(hv:QyS v)(hb:zpH w v ce) :
  Calls Tryz.prog 54 #[v] w fun e w'=>e=.returned (.tuple #[.slice none 0 0,.slice none 0 0,.int .i64 ce])∧Ext w w':=by
 obtain ⟨a1,n1,c1,a2,n2,c2,m,P,a3,n3,c3,b,rfl⟩:=hv;obtain ⟨hE0,b0,b1,b2,b3⟩:=Fw.four w (.cells #[.slice a1 n1 c1,.slice a2 n2 c2,.int .i64 m,.int .i64 P,.slice a3 n3 c3,.bool b] 59) (.cells #[.slice none 0 0] 55) (.cells #[.slice none 0 0] 74) (.cells #[.int .i64 0] 31);have hck:=hb.2 _ hE0;have hc1:(ce == 0)=false:=by simpa using hb.1
 have hc2:(ce != 0)=true:=by simpa using hb.1
 have Hck:=hid hck;have HE0:=hid hE0;have B0:=hid b0;have B1:=hid b1;have B2:=hid b2;have B3:=hid b3;clear hck hE0 b0 b1 b2 b3 hb;refine (callsIn_wide (n:=3)).1 ?_;refine callsIn_of_wp_marks Tryz.func54 rfl trivial ?_ rfl;simp only [Tryz.ntmps54,List.size_toArray,List.length_cons,List.length_nil,Nat.reduceAdd,Nat.reduceSub,Array.replicate_succ,Array.replicate_zero,List.push_toArray,List.append_toArray,List.nil_append,List.cons_append];gi_wp2_with fail;refine ⟨trivial,?_⟩;refine (callsIn_wide.2 Hck.out).mono ?_;rintro e w1 ⟨rfl,hx1⟩;have d1:=(show Boxed w1 (w.heap.size+1) _ _ from hx1.heap B1.out);have d2:=(show Boxed w1 (w.heap.size+1+1) _ _ from hx1.heap B2.out);have d3:=(show Boxed w1 (w.heap.size+1+1+1) _ _ from hx1.heap B3.out);have y1:=d1.cell;have y2:=d2.cell;have y3:=d3.cell;have z1:=d1.frozen;have z2:=d2.frozen;have z3:=d3.frozen;have D1:=hid d1;have D2:=hid d2;have D3:=hid d3;have HE1:=hid (HE0.out.trans hx1);clear d1 d2 d3 hx1;gi_wp2_with fail;have b1:=Boxed.set (.slice none 0 0) D1.out;have o2:=fun k (hk:k ≠ w.heap.size+1)=>Below.heap_setCell w1 ⟨w.heap.size+1,0,none⟩ (.slice none 0 0) k hk;have b2:=Boxed.set (.slice none 0 0) (show Boxed _ (w.heap.size+1+1) _ _ from (o2 _ (by omega)).trans D2.out);have b1':=(show Boxed _ (w.heap.size+1) _ _ from (Below.heap_setCell _ ⟨w.heap.size+1+1,0,none⟩ (.slice none 0 0) _ (by dsimp only;omega)).trans b1);have b3:=Boxed.set (.int .i64 ce) (show Boxed _ (w.heap.size+1+1+1) _ _ from (Below.heap_setCell _ ⟨w.heap.size+1+1,0,none⟩ (.slice none 0 0) _ (by dsimp only;omega)).trans ((o2 _ (by omega)).trans D3.out));have b1'':=(show Boxed _ (w.heap.size+1) _ _ from (Below.heap_setCell _ ⟨w.heap.size+1+1+1,0,none⟩ (.int .i64 ce) _ (by dsimp only;omega)).trans b1');have b2'':=(show Boxed _ (w.heap.size+1+1) _ _ from (Below.heap_setCell _ ⟨w.heap.size+1+1+1,0,none⟩ (.int .i64 ce) _ (by dsimp only;omega)).trans b2);have e1:=b1''.cell;have e2:=b2''.cell;have e3:=b3.cell;refine ⟨.tuple #[.slice none 0 0,.slice none 0 0,.int .i64 ce],by simp [results,Tryz.results54,go_sem,e1,e2,e3],rfl,?_⟩;exact ((HE1.out.setCell (by dsimp only;omega) _).setCell (by dsimp only;omega) _).setCell (by dsimp only;omega) _
end
end Go.Proofs.YtebabancfnmfjaaGreatDoor
