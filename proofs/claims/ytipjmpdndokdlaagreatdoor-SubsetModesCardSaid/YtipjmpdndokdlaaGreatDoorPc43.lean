/- Walks: subset.All, subset.Scales where nothing is wrong. A search of few notes has no errors. Walks: schismaref06.EqualRows, law 38's sameInts. Walk: law 38's known. Plain: subsets of equal scales turn into modes when all indices move. Walk: the law SubsetTurns. -/
import Derived.Test.YtipjmpdndokdlaaGreatDoorPc42
import Derived.Test.YtipjmpdndokdlaaGreatDoorPc36
import Derived.Test.YtipjmpdndokdlaaGreatDoorPc35
import Derived.Test.YtipjmpdndokdlaaGreatDoorPc39
import Derived.Test.YtipjmpdndokdlaaGreatDoorPc34
set_option maxRecDepth 100000
set_option maxHeartbeats 4000000
namespace Go.Proofs.YtipjmpdndokdlaaGreatDoor
open Go.RowKit Go.Lib Go.Shelf
attribute [local go_sem] Oper.semAt_some
/-- What a query must be, for a search without errors. -/
structure SrOk (p : List Int) (N : List (List Rat)) (m : Nat) (P : Int) (M : List Int) : Prop where
 wd:Wd p N
 m1:1≤m
 mn:m≤N.length
 P1:1≤P
 P6:P≤6
 M0:subFrom N.length M 0 M.length=0
 few:candN N.length m M.length≤5000
 cs:(cho N.length m M N.length [] 0).length≤5000
 all:∀ l∈cho N.length m M N.length [] 0,l.length≤60∧subE N.length l=0∧(2≤P→P≤6→Wc p (subN p N l))
theorem search_ok (v:Value)(p:List Int)(rs:List Qw)(m:Nat)(P:Int)(M:List Int)(b:Bool)(w:World)(he:Env w)(hv:QyV w v p rs (m:Int) P M b)(h:SrOk p (rs.map Qw.x) m P M) :
  Calls Tryz.prog 43 #[v] w fun e w'=>∃ us vs fs,e=.returned (.tuple #[us,vs,.int .i64 0])∧Fnd w' w.heap.size p (rs.map Qw.x) us vs fs∧fs.map Fw.l=srL P b p (rs.map Qw.x) (cho rs.length m M rs.length [] 0)∧Ext w w':=by
 have hL:(rs.map Qw.x).length=rs.length:=List.length_map ..
 obtain ⟨h1,h2,h3,h4,h5,h6,h7,h8,h9⟩:=h
 rw [hL] at h3 h6 h7 h8 h9
 exact search_c v p rs m P M b w he hv h1 h2 h3 h4 h5 h6 h7 h8 h9
theorem all38_c (v:Value)(p:List Int)(rs:List Qw)(m:Nat)(P:Int)(M:List Int)(b:Bool)(w:World)(he:Env w)(hv:QyV w v p rs (m:Int) P M b)(h:SrOk p (rs.map Qw.x) m P M) :
  Calls Tryz.prog 24 #[v] w fun e w'=>∃ us vs fs,e=.returned (.tuple #[us,.int .i64 0])∧Fnd w' w.heap.size p (rs.map Qw.x) us vs fs∧fs.map Fw.l=srL P b p (rs.map Qw.x) (cho rs.length m M rs.length [] 0)∧Ext w w':=by
 have hsr:=fun W u (hE:Ext w W)(hu:QyV W u p rs (m:Int) P M b)=>search_ok u p rs m P M b W (he.ext hE) hu h
 obtain ⟨ap,cp,an,cn,am,cm,rfl,hs,hmm⟩:=hv.let
 have hE0:Ext w (w.alloc (.cells #[.slice ap p.length cp,.slice an rs.length cn,.int .i64 (m:Int),.int .i64 P,.slice am M.length cm,.bool b] 39)):=(Ext.refl w).alloc _
 have hb:=Box6.new w (.slice ap p.length cp) (.slice an rs.length cn) (m:Int) P (.slice am M.length cm) b
 have hs0:=hsr _ _ hE0 (hv.ext hE0)
 have Hs0:=hid hs0;have HE0:=hid hE0;have Hb:=hid hb
 clear hsr hE0 hb hs0 hs hmm hv h he
 obtain ⟨q0,q1,q2,q3,q4,q5⟩:=Hb.out.cs
 generalize srL P b p (rs.map Qw.x) (cho rs.length m M rs.length [] 0)=L at *
 go_enter Tryz.func24,Tryz.ntmps24
 go_wp2_with fail
 refine Hs0.out.mono ?_
 rintro e w1 ⟨us,vs,fs,rfl,hf,hm,hx⟩
 have hf2:=hf.mono (HE0.out).size
 obtain ⟨a1,c1,rfl⟩:=own_shape hf2.us
 obtain ⟨a2,c2,rfl⟩:=own_shape hf2.vs
 have Hf:=hid hf2;have Hm:=hid hm;have HE1:=hid (HE0.out.trans hx)
 clear hf hf2 hm hx q0 q1 q2 q3 q4 q5
 go_wp2_with fail
 go_ret2
 exact ⟨_,_,fs,rfl,Hf.out,Hm.out,HE1.out⟩
theorem scales38_c (v:Value)(p:List Int)(rs:List Qw)(m:Nat)(P:Int)(M:List Int)(b:Bool)(w:World)(he:Env w)(hv:QyV w v p rs (m:Int) P M b)(h:SrOk p (rs.map Qw.x) m P M) :
  Calls Tryz.prog 17 #[v] w fun e w'=>∃ us vs fs,e=.returned (.tuple #[vs,.int .i64 0])∧Fnd w' w.heap.size p (rs.map Qw.x) us vs fs∧fs.map Fw.l=srL P b p (rs.map Qw.x) (cho rs.length m M rs.length [] 0)∧Ext w w':=by
 have hsr:=fun W u (hE:Ext w W)(hu:QyV W u p rs (m:Int) P M b)=>search_ok u p rs m P M b W (he.ext hE) hu h
 obtain ⟨ap,cp,an,cn,am,cm,rfl,hs,hmm⟩:=hv.let
 have hE0:Ext w (w.alloc (.cells #[.slice ap p.length cp,.slice an rs.length cn,.int .i64 (m:Int),.int .i64 P,.slice am M.length cm,.bool b] 39)):=(Ext.refl w).alloc _
 have hb:=Box6.new w (.slice ap p.length cp) (.slice an rs.length cn) (m:Int) P (.slice am M.length cm) b
 have hs0:=hsr _ _ hE0 (hv.ext hE0)
 have Hs0:=hid hs0;have HE0:=hid hE0;have Hb:=hid hb
 clear hsr hE0 hb hs0 hs hmm hv h he
 obtain ⟨q0,q1,q2,q3,q4,q5⟩:=Hb.out.cs
 generalize srL P b p (rs.map Qw.x) (cho rs.length m M rs.length [] 0)=L at *
 go_enter Tryz.func17,Tryz.ntmps17
 go_wp2_with fail
 refine Hs0.out.mono ?_
 rintro e w1 ⟨us,vs,fs,rfl,hf,hm,hx⟩
 have hf2:=hf.mono (HE0.out).size
 obtain ⟨a1,c1,rfl⟩:=own_shape hf2.us
 obtain ⟨a2,c2,rfl⟩:=own_shape hf2.vs
 have Hf:=hid hf2;have Hm:=hid hm;have HE1:=hid (HE0.out.trans hx)
 clear hf hf2 hm hx q0 q1 q2 q3 q4 q5
 go_wp2_with fail
 go_ret2
 exact ⟨_,_,fs,rfl,Hf.out,Hm.out,HE1.out⟩
end Go.Proofs.YtipjmpdndokdlaaGreatDoor

namespace Go.Proofs.YtipjmpdndokdlaaGreatDoor
open Go.RowKit Go.Lib
theorem sub_yes {n:Nat}{l:List Int}(hb:∀ x∈l,0≤x∧x<(n:Int))(hp:l.Pairwise (·<·)):subFrom n l 0 l.length=0:=by
 have key:∀ i,i<l.length→stepE n l i=0:=fun i hi=>by
  unfold stepE
  have h1:=hb _ (List.getElem_mem hi)
  rw [List.getElem?_eq_getElem hi,Option.getD_some,if_neg (by omega)]
  by_cases h0:0<i
  ·have h2:=List.pairwise_iff_getElem.1 hp (i - 1) i (by omega) hi (by omega)
   rw [List.getElem?_eq_getElem (show i - 1<l.length by omega),Option.getD_some,if_neg (by omega)]
  ·rw [if_neg (by omega)]
 have all:∀ m k,k+m=l.length→subFrom n l k m=0:=by
  intro m
  induction m with
  | zero=>intro k _;rfl
  | succ m ih =>
   intro k hk
   rw [subFrom,if_pos (key k (by omega))]
   exact ih (k+1) (by omega)
 exact all l.length 0 (by omega)
theorem sub_yesE {n:Nat}{l:List Int}(hn:l ≠ [])(hb:∀ x∈l,0≤x∧x<(n:Int))(hp:l.Pairwise (·<·)):subE n l=0:=by
 unfold subE
 rw [if_neg hn]
 exact sub_yes hb hp
theorem len_le {n:Nat}{M:List Int}(hb:∀ x∈M,0≤x∧x<(n:Int))(hp:M.Pairwise (·<·)):M.length≤n:=by
 have hs:M ⊆ (List.range n).map (fun (k:Nat)=>(k:Int)):=fun x hx=>by
  have hb:=hb x hx
  exact List.mem_map.2 ⟨x.toNat,List.mem_range.2 (by omega),by omega⟩
 have:=nodup_sub (hp.imp (fun h=>by omega)) hs
 simpa using this
theorem cands_mem {n m:Nat}{M l:List Int}(h:l∈cands n m M):l.length=m∧(∀ x∈l,0≤x∧x<(n:Int))∧l.Pairwise (·<·):=by
 have h1:=(List.mem_filter.1 h).1
 have h2:=cmb_bd (Nat.le_refl _) h1
 rw [Nat.sub_self] at h2
 exact ⟨cmb_len h1,h2⟩
theorem SrOk.of {p:List Int}{N:List (List Rat)}{m:Nat}{P:Int}{M:List Int}(h:Wc p N)(h1:1≤m)(h2:m≤N.length)(P1:1≤P)(P6:P≤6)(M0:subFrom N.length M 0 M.length=0):SrOk p N m P M:=by
 obtain ⟨hb,hp⟩:=sub_ok M0
 have hL:=len_le hb hp
 have hf:=h.few
 have hcc:=cho_cands (m:=m) hp hb
 refine ⟨h.wd,h1,h2,P1,P6,M0,?_,?_,?_⟩
 ·unfold candN
  split
  ·omega
  ·exact chs_few (N.length - M.length) (by omega) (((m:Int) - (M.length:Int)).toNat) (by omega)
 ·rw [hcc]
  refine Nat.le_trans (List.length_filter_le _ _) ?_
  rw [cmb_count]
  have a:=chs_few N.length (by omega) m (by omega)
  rw [chs_pas _ _ h2] at a
  omega
 ·rw [hcc]
  intro l hl
  obtain ⟨a,b,c⟩:=cands_mem hl
  have hn:l ≠ []:=by
   intro e
   rw [e] at a
   simp at a
   omega
  exact ⟨by omega,sub_yesE hn b c,fun _ _=>sub_wc h hn (by omega) b c⟩
end Go.Proofs.YtipjmpdndokdlaaGreatDoor

namespace Go.Proofs.YtipjmpdndokdlaaGreatDoor
open Go.RowKit Go.Lib Go.Shelf
attribute [local go_sem] Oper.semAt_some
theorem take_eq_all {a b:List Int}{k:Nat}(hl:a.length=b.length)(hk:a.length≤k)(h:a.take k=b.take k):a=b:=by
 rwa [List.take_of_length_le hk,List.take_of_length_le (by omega)] at h
theorem take_eq_next {a b:List Int}{k:Nat}(hl:a.length=b.length)(hk:k<a.length)(h:a.take k=b.take k)(e:(a[k]?).getD 0=(b[k]?).getD 0):a.take (k+1)=b.take (k+1):=by
 rw [List.take_succ_eq_append_getElem hk,List.take_succ_eq_append_getElem (by omega),h]
 rw [List.getElem?_eq_getElem hk,List.getElem?_eq_getElem (by omega)] at e
 exact congrArg (fun x=>_++[x]) e
theorem sl_ints_at {w:World}{al:Option Addr}{n c:Nat}{l:List Int}(h:Sl w (.slice al n c) (i64s l))(k:Nat)(hk:k<l.length):∃ b off,al=some ⟨b,off,none⟩∧w.cell? ⟨b,off+k,none⟩=some (.int .i64 ((l[k]?).getD 0)):=by
 obtain ⟨a2,c2,e,_,_,hc⟩:=h.parts
 injection e with e1 _ _
 subst e1
 exact hc k (.int .i64 ((l[k]?).getD 0)) (by unfold i64s;rw [List.getElem?_map,List.getElem?_eq_getElem hk];rfl)
theorem eqRows_c (va vb:Value)(a b:List Int)(w:World)(ha:Sl w va (i64s a))(hb:Sl w vb (i64s b))(hla:a.length≤1000)(hlb:b.length≤1000) :
  Calls Tryz.prog 58 #[va,vb] w fun e w'=>e=.returned (.bool (decide (a=b)))∧Ext w w':=by
 obtain ⟨aa,ca,rfl,_,_,_⟩:=ha.parts
 obtain ⟨ab,cb,rfl,_,_,_⟩:=hb.parts
 rw [i64s_length] at *
 rw [i64s_length] at *
 have hca:=sl_ints_at ha
 have hcb:=sl_ints_at hb
 have hla2:=hla
 generalize hn:a.length=n at *
 generalize hm:b.length=m at *
 have Hn:=hid hn;have Hm:=hid hm;have Hca:=hid hca;have Hcb:=hid hcb
 clear ha hb hca hcb hn hm
 go_enter Tryz.func58,Tryz.ntmps58
 by_cases hnm:n=m
 ·subst hnm
  have Hl:=hid (Hn.out.trans Hm.out.symm)
  go_wp2_with fail
  go_loopw [5] (fun v5 wr=>∃ k:Nat,v5=.int .i64 k∧k≤n∧Hid (a.take k=b.take k)∧Ext w wr) (fun v5 _=>n - (intOf v5).toNat)
  case atStart=>exact ⟨0,rfl,Nat.zero_le _,hid rfl,Ext.refl _⟩
  case round =>
   obtain ⟨k,rfl,hk,HT,hE⟩:=hrel
   have HE:=hid hE
   by_cases hkn:k<n
   ·obtain ⟨b1,o1,rfl,h1⟩:=Hca.out k hkn
    obtain ⟨b2,o2,rfl,h2⟩:=Hcb.out k hkn
    have c1:=hE.cell h1
    have c2:=hE.cell h2
    have hk0:(0:Int)≤(k:Int):=by omega
    have hk1:(k:Int)<(n:Int):=by omega
    clear h1 h2 hE
    generalize hx:(a[k]?).getD 0=x at *
    generalize hy:(b[k]?).getD 0=y at *
    have Hx:=hid hx;have Hy:=hid hy
    clear hx hy
    by_cases hxy:x=y
    ·subst hxy
     have Hnx:=hid (take_eq_next Hl.out (by rw [Hn.out];exact hkn) HT.out (Hx.out.trans Hy.out.symm))
     go_wp2_with fail
     go_quiet (fail)
     go_wp2_with fail
     go_roundw
     case rel=>exact ⟨k+1,by go_num,hkn,Hnx,HE.out.drewN _⟩
     case measure=>simp [intOf];omega
    ·have f1:(x == y)=false:=by simpa using hxy
     have f2:(x != y)=true:=by simpa using hxy
     have hne:decide (a=b)=false:=decide_eq_false fun e=>hxy (by rw [← Hx.out,← Hy.out,e])
     have Hne:=hid hne
     clear hne hxy
     go_wp2_with fail
     go_quiet (fail)
     go_wp2_with fail
     go_ret
     exact ⟨by rw [Hne.out] <;> rfl,HE.out.drewN _⟩
   ·have hkk:¬ (k:Int)<(n:Int):=by omega
    have hyes:decide (a=b)=true:=decide_eq_true (take_eq_all Hl.out (by rw [Hn.out];omega) HT.out)
    have Hyes:=hid hyes
    clear hyes hE
    go_wp2_with fail
    go_ret
    exact ⟨by rw [Hyes.out] <;> rfl,HE.out⟩
 ·have f1:((n:Int) == (m:Int))=false:=by simp;omega
  have f2:((n:Int) != (m:Int))=true:=by simp;omega
  have hne:decide (a=b)=false:=decide_eq_false fun e=>hnm (by rw [← Hn.out,← Hm.out,e])
  have Hne:=hid hne
  clear hne
  go_wp2_with fail
  go_ret
  exact ⟨by rw [Hne.out] <;> rfl,Ext.refl _⟩
theorem sameInts_c (va vb:Value)(a b:List Int)(w:World)(ha:Sl w va (i64s a))(hb:Sl w vb (i64s b))(hla:a.length≤1000)(hlb:b.length≤1000) :
  Calls Tryz.prog 25 #[va,vb] w fun e w'=>e=.returned (.bool (decide (a=b)))∧Ext w w':=by
 have h:=eqRows_c va vb a b w ha hb hla hlb
 obtain ⟨aa,ca,rfl,_,_,_⟩:=ha.parts
 obtain ⟨ab,cb,rfl,_,_,_⟩:=hb.parts
 have Hh:=hid h
 clear h ha hb
 generalize decide (a=b)=D at *
 go_enter Tryz.func25,Tryz.ntmps25
 go_wp2_with fail
 refine Hh.out.mono ?_
 rintro e w1 ⟨rfl,hx⟩
 have Hx:=hid hx
 clear hx
 go_wp2_with fail
 go_ret
 exact ⟨rfl,Hx.out⟩
end Go.Proofs.YtipjmpdndokdlaaGreatDoor

namespace Go.Proofs.YtipjmpdndokdlaaGreatDoor
open Go.RowKit Go.Lib Go.Shelf
attribute [local go_sem] Oper.semAt_some
theorem len_map {rs:List Qw}{N:List (List Rat)}{n:Nat}(h:rs.map Qw.x=N)(hn:N.length=n):rs.length=n:=by
 have:=congrArg List.length h
 rw [List.length_map] at this
 omega
theorem qyv_new {W:World}{a1:Option Addr}{c1:Nat}{a2:Option Addr}{c2:Nat}{vm:Value}{p:List Int}{rs:List Qw}{n:Nat}{m P:Int}{M:List Int}{b:Bool}(hp:Sl W (.slice a1 p.length c1) (i64s p))(hn:RdM W (.slice a2 n c2) rs)(hm:Sl W vm (i64s M)) :
  QyV W (.agg #[.slice a1 p.length c1,.slice a2 n c2,.int .i64 m,.int .i64 P,vm,.bool b]) p rs m P M b:=⟨_,_,_,rfl,hp,hn,hm⟩
theorem fit_one : fitV 3 [2,3] (eqN 12) 12 5 [0,7] [0,2,4,7,9]=.tuple #[.bool true,.int .i64 0]:=by
 unfold fitV
 rw [if_pos (by decide),sbt_known.1]
 rfl
theorem fit_two : fitV 3 [2,3] (eqN 12) 12 5 [0,7] [0,1,4,7,9]=.tuple #[.bool false,.int .i64 0]:=by
 unfold fitV
 rw [if_pos (by decide),sbt_known.2]
 rfl
theorem sl_list {W:World}(l:List Int)(T:TypeId)(h:l.length≤100):Sl (W.alloc (.cells (i64s l).toArray T)) (.slice (some ⟨W.heap.size,0,none⟩) l.length l.length) (i64s l):=by
 have:=sl_cells (us:=i64s l) (World.alloc_heap_new W (.cells (i64s l).toArray T)) (by rw [i64s_length];unfold maxLen;omega)
 rw [i64s_length] at this
 exact this
theorem known38_c (w:World)(he:Env w) :
  Calls Tryz.prog 8 #[] w fun e w'=>e=.returned (.bool true)∧Ext w w':=by
 have hwc:Wc [2,3] (eqN 12):=eq_wc (by omega) (by omega)
 have hel:(eqN 12).length=12:=eqN_len 12
 have htw:=fun W (hE:Ext w W)=>(twelve_c W (he.ext hE)).mono fun e w' ⟨v,rs,h1,h2,h3,h4⟩=>(show ∃ a1 c1 a2 c2 rs,e=Ending.returned (.agg #[.slice a1 2 c1,.slice a2 12 c2])∧Sl w' (.slice a1 2 c1) (i64s [2,3])∧RdM w' (.slice a2 12 c2) rs∧rs.map Qw.x=eqN 12∧Ext W w' by
  obtain ⟨vp,vn,rfl,hop,hqn⟩:=h2
  obtain ⟨a1,c1,rfl⟩:=own_shape hop
  obtain ⟨a2,c2,rfl⟩:=own_shape hqn.1
  have hl:=len_map h3 hel
  have hr:=hqn.rd
  rw [hl] at hr h1
  exact ⟨a1,c1,a2,c2,rs,h1,sl_own hop,hr,h3,h4⟩)
 have hca:=fun W v rs (hE:Ext w W)(hv:QyV W v [2,3] rs 5 3 [0,7] false)(hm:rs.map Qw.x=eqN 12)=>(show Calls Tryz.prog 23 #[v] W fun e w'=>e=.returned (.tuple #[.string ⟨#[49,50,48]⟩,.int .i64 0])∧Ext W w' from by
  have hl:=len_map hm hel
  have:=cands38_c v [2,3] rs 5 3 [0,7] false W (he.ext hE) hv (by rw [hm];exact hwc.wd) (by omega) (by omega) (by omega) (by rw [hl];decide) (by rw [hl];decide)
  rw [hl,show I (candN 12 5 ([0,7]:List Int).length)=⟨#[49,50,48]⟩ from by decide +kernel] at this
  exact this)
 have hft:=fun (l:List Int) W v vl rs (r:Bool)(hE:Ext w W)(hv:QyV W v [2,3] rs 5 3 [0,7] false)(hm:rs.map Qw.x=eqN 12)(hvl:Sl W vl (i64s l))(h0:l ≠ [])(h6:l.length≤12)(hse:subFrom 12 l 0 l.length=0)(hr:fitV 3 [2,3] (eqN 12) 12 5 [0,7] l=.tuple #[.bool r,.int .i64 0])=>(show Calls Tryz.prog 10 #[v,vl] W fun e w'=>e=.returned (.tuple #[.bool r,.int .i64 0])∧Ext W w' from by
  have hl:=len_map hm hel
  have hb:=sub_ok hse
  have:=fits_c v vl [2,3] rs 5 3 [0,7] false l W (he.ext hE) hv (by rw [hm];exact hwc.wd) hvl (by omega) (by rw [hl];decide) (by decide) (fun _ _ _=>by rw [hm];exact sub_wc hwc h0 (by omega) (by rw [hel];exact hb.1) hb.2)
  rw [hl,hm,hr] at this
  exact this)
 have hal:=fun W v rs (hE:Ext w W)(hv:QyV W v [2,3] rs 1 2 [] true)(hm:rs.map Qw.x=eqN 12)=>(show Calls Tryz.prog 24 #[v] W fun e w'=>(∃ g c a5 c5,e=.returned (.tuple #[.slice (some ⟨g,0,none⟩) 1 c,.int .i64 0])∧w'.cell? ⟨g,0,none⟩=some (.slice a5 1 c5)∧Sl w' (.slice a5 1 c5) (i64s [0]))∧Ext W w' from by
  have hl:=len_map hm hel
  have h:=all38_c v [2,3] rs 1 2 [] true W (he.ext hE) hv (by rw [hm];exact SrOk.of hwc (by omega) (by rw [hel];omega) (by omega) (by omega) (by rw [hel];decide))
  refine h.mono fun e w' ⟨us,vs,fs,h1,h2,h3,h4⟩=>⟨?_,h4⟩
  rw [hl,hm,cho_cands List.Pairwise.nil (fun x hx=>by cases hx),sbt_one] at h3
  obtain ⟨f,rfl,hfl⟩:=List.map_eq_singleton_iff.1 h3
  have hfo:=(h2.all f (List.mem_singleton.2 rfl)).1
  rw [hfl] at hfo
  obtain ⟨a5,c5,e5⟩:=own_shape hfo
  have hus:=h2.us
  rcases hus.2 with ⟨_,e0⟩ | ⟨g,cap,cur,e0,_⟩
  ·simp at e0
  ·have hc:=World.ownsRow.cells hus (g:=g) (by rw [e0];rfl) 0 f.u rfl
   rw [e5] at hc hfo
   exact ⟨g,cap,a5,c5,by rw [h1,e0];rfl,hc,sl_own hfo⟩)
 have hsi:=fun W va vb (ha:Sl W va (i64s [0]))(hb:Sl W vb (i64s [0]))=>sameInts_c va vb [0] [0] W ha hb (by decide) (by decide)
 have Htw:=hid htw;have Hca:=hid hca;have Hft:=hid hft;have Hal:=hid hal;have Hsi:=hid hsi
 clear htw hca hft hal hsi hwc hel he
 go_enter Tryz.func8,Tryz.ntmps8
 go_wp2_with fail
 refine (Htw.out _ (Ext.refl _)).mono ?_
 rintro e w1 ⟨a1,c1,a2,c2,rs,rfl,hp,hn,hm,hx1⟩
 have hE2:=(Ext.refl w1).alloc (.cells #[.int .i64 0,.int .i64 7] 3)
 have hm2:=sl_list (W:=w1) [0,7] 3 (by decide)
 have hE3:=hE2.alloc (.cells #[.slice a1 2 c1,.slice a2 12 c2,.int .i64 5,.int .i64 3,.slice (some ⟨w1.heap.size,0,none⟩) 2 2,.bool false] 39)
 have hb3:=Box6.new (w1.alloc (.cells #[.int .i64 0,.int .i64 7] 3)) (.slice a1 2 c1) (.slice a2 12 c2) 5 3 (.slice (some ⟨w1.heap.size,0,none⟩) 2 2) false
 have hq3:=qyv_new (p:=[2,3]) (m:=5) (P:=3) (b:=false) (hE3.sl hp) (hE3.rdM hn) (((Ext.refl (w1.alloc (.cells #[.int .i64 0,.int .i64 7] 3))).alloc (.cells #[.slice a1 2 c1,.slice a2 12 c2,.int .i64 5,.int .i64 3,.slice (some ⟨w1.heap.size,0,none⟩) 2 2,.bool false] 39)).sl hm2)
 rw [World.size_alloc] at hb3
 have Hq3:=hid hq3;have Hb3:=hid hb3;have HE3:=hid (hx1.trans hE3);have Hm:=hid hm
 obtain ⟨q0,q1,q2,q3,q4,q5⟩:=hb3.cs
 clear hq3 hb3 hE3 hE2 hm2 hp hn hx1 hm
 go_wp2_with fail
 refine (Hca.out _ _ rs HE3.out Hq3.out Hm.out).mono ?_
 generalize hW3:(w1.alloc (.cells #[.int .i64 0,.int .i64 7] 3)).alloc (.cells #[.slice a1 2 c1,.slice a2 12 c2,.int .i64 5,.int .i64 3,.slice (some ⟨w1.heap.size,0,none⟩) 2 2,.bool false] 39)=W3 at *
 rintro e w2 ⟨rfl,hx2⟩
 have hE4:=hx2.alloc (.cells #[.int .i64 0,.int .i64 2,.int .i64 4,.int .i64 7,.int .i64 9] 3)
 have hl4:=sl_list (W:=w2) [0,2,4,7,9] 3 (by decide)
 have hft1:=Hft.out [0,2,4,7,9] _ _ _ rs true (HE3.out.trans hE4) (Hq3.out.ext hE4) Hm.out hl4 (by simp) (by decide) (by decide) fit_one
 obtain ⟨q0,q1,q2,q3,q4,q5⟩:=(Hb3.out.ext hx2).cs
 have HE4:=hid hE4;have Hft1:=hid hft1
 clear hx2 hE4 hl4 hft1 hW3
 go_wp2_with fail
 refine Hft1.out.mono ?_
 rintro e w4 ⟨rfl,hx4⟩
 have hX4:=HE4.out.trans hx4
 have hE5:=hX4.alloc (.cells #[.int .i64 0,.int .i64 1,.int .i64 4,.int .i64 7,.int .i64 9] 3)
 have hl5:=sl_list (W:=w4) [0,1,4,7,9] 3 (by decide)
 have hft2:=Hft.out [0,1,4,7,9] _ _ _ rs false (HE3.out.trans hE5) (Hq3.out.ext hE5) Hm.out hl5 (by simp) (by decide) (by decide) fit_two
 obtain ⟨q0,q1,q2,q3,q4,q5⟩:=(Hb3.out.ext hX4).cs
 have HE5:=hid hE5;have Hft2:=hid hft2
 clear hx4 hX4 hE5 hl5 hft2 Hft1
 go_wp2_with fail
 refine Hft2.out.mono ?_
 rintro e w5 ⟨rfl,hx5⟩
 have HE6:=hid (HE3.out.trans (HE5.out.trans hx5))
 clear hx5 q0 q1 q2 q3 q4 q5 Hft2
 go_wp2_with fail
 refine (Htw.out _ HE6.out).mono ?_
 rintro e w6 ⟨a3,c3,a4,c4,rs6,rfl,hp6,hn6,hm6,hx6⟩
 have hq6:=qyv_new (p:=[2,3]) (m:=1) (P:=2) (b:=true) (vm:=.slice none 0 0) (M:=[]) hp6 hn6 (.inl ⟨none,0,rfl,Nat.zero_le _,rfl⟩)
 have hal6:=Hal.out w6 _ rs6 (HE6.out.trans hx6) hq6 hm6
 have HE7:=hid (HE6.out.trans hx6);have Hal6:=hid hal6
 clear hx6 hq6 hal6 hp6 hn6 hm6
 go_wp2_with fail
 refine Hal6.out.mono ?_
 rintro e w7 ⟨⟨g,c,a5,c5,rfl,hc7,hs7⟩,hx7⟩
 have hE8:=(Ext.refl w7).alloc (.cells #[.int .i64 0] 3)
 have hl8:=sl_list (W:=w7) [0] 3 (by decide)
 have hsi:=Hsi.out _ _ _ (hE8.sl hs7) hl8
 have HE8:=hid (HE7.out.trans (hx7.trans hE8));have Hsi8:=hid hsi
 clear hx7 hs7 hE8 hl8 hsi
 go_wp2_with fail
 refine Hsi8.out.mono ?_
 rintro e w8 ⟨rfl,hx8⟩
 have HE9:=hid (HE8.out.trans hx8)
 clear hx8 hc7
 go_wp2_with fail
 go_ret
 exact ⟨by simp,HE9.out⟩
end Go.Proofs.YtipjmpdndokdlaaGreatDoor

namespace Go.Proofs.YtipjmpdndokdlaaGreatDoor
section
variable {p : List Int} {N : List (List Rat)} (h : Wd p N)
include h
end
/-- The indices that bits name, as they are and moved. -/
def bitL (n : Nat) (q : Nat → Bool) : List Int:=((List.range n).filter q).map fun (i : Nat) => (i : Int)
end Go.Proofs.YtipjmpdndokdlaaGreatDoor

namespace Go.Proofs.YtipjmpdndokdlaaGreatDoor
open Go.RowKit Go.Lib Go.Shelf
attribute [local go_sem] Oper.semAt_some
/-- Two lists of ints that a call made, apart. -/
structure TwoI (W0 w : World) (va vb : Value) (la lb : List Int) : Prop where
 a:OwnI w W0.heap.size va la
 b:OwnI w W0.heap.size vb lb
 ne:∀ r,va.ownBlock=some r→vb.ownBlock ≠ some r
 x:Ext W0 w
theorem TwoI.nil (W:World):TwoI W W (.slice none 0 0) (.slice none 0 0) [] []:=⟨⟨rfl,.inl ⟨rfl,rfl⟩⟩,⟨rfl,.inl ⟨rfl,rfl⟩⟩,fun r h=>(by simp [Value.ownBlock] at h),Ext.refl _⟩
theorem TwoI.swap {W0 w:World}{va vb:Value}{la lb:List Int}(h:TwoI W0 w va vb la lb):TwoI W0 w vb va lb la:=⟨h.b,h.a,fun r e f=>h.ne r f e,h.x⟩
theorem TwoI.ext {W0 w w':World}{va vb:Value}{la lb:List Int}(h:TwoI W0 w va vb la lb)(hx:Ext w w'):TwoI W0 w' va vb la lb:=⟨hx.ownI h.a,hx.ownI h.b,h.ne,h.x.trans hx⟩
theorem TwoI.put {W0 w V:World}{va vb:Value}{la lb:List Int}{o:Obj}{x:Int}{g cap n:Nat}(h:TwoI W0 w va vb la lb)(hn:la.length=n)
  (hown:V.ownsRow W0.heap.size 3 1 (.slice (some ⟨g,0,none⟩) (n+1) cap) (n+1) (i64s la++[.int .i64 x])) (hg:(w.alloc o).grownBy V va.ownBlock) (hat:va.ownBlock=some g∨g=w.heap.size+1) :
  TwoI W0 V (.slice (some ⟨g,0,none⟩) (n+1) cap) vb (la++[x]) lb:=by
 subst hn
 refine ⟨?_,?_,fun r e=>?_,?_⟩
 ·unfold OwnI
  rw [List.length_append,List.length_singleton,i64s,List.map_append]
  exact hown
 ·refine World.ownsRow.kept (World.ownsRow.alloc h.b o) hg ?_
  cases hv:vb.ownBlock with
  | none=>exact .inl rfl
  | some r=>exact .inr fun e=>h.ne r e.symm hv
 ·have e2:g=r:=by simpa [Value.ownBlock] using e
  subst e2
  intro f
  rcases hat with k | k
  ·exact h.ne g k f
  ·have:=(World.ownsRow.lt h.b g f).2
   omega
 ·exact (h.x.alloc o).grown hg fun k e=>(World.ownsRow.lt h.a k e).1
theorem bit_u16 (b k:Nat)(hb:b<65536):(bits .and .u16 ((b:Int) / 2 ^ k) 1 == 1)=b.testBit k:=by
 have e:((b:Int) / 2 ^ k)=((b / 2 ^ k:Nat):Int):=by
  rw [Int.natCast_ediv,Int.natCast_pow];rfl
 have hlt:b / 2 ^ k≤b:=Nat.div_le_self _ _
 have hx:b / 2 ^ k &&& 1<2 ^ 16:=Nat.and_lt_two_pow _ (by omega)
 have h1:(BitVec.ofInt 16 ((b / 2 ^ k:Nat):Int)).toNat=b / 2 ^ k:=by
  rw [BitVec.ofInt_natCast,BitVec.toNat_ofNat];exact Nat.mod_eq_of_lt (by omega)
 have h2:(BitVec.ofInt 16 (1:Int)).toNat=1:=by decide
 have h3:bits .and .u16 ((b:Int) / 2 ^ k) 1=((b / 2 ^ k % 2:Nat):Int):=by
  rw [e]
  show IntKind.u16.wrap ((BitVec.ofInt 16 ((b / 2 ^ k:Nat):Int) &&& BitVec.ofInt 16 (1:Int)).toNat:Int)=_
  rw [BitVec.toNat_and,h1,h2,Nat.and_one_is_mod]
  have:b / 2 ^ k % 2<2:=Nat.mod_lt _ (by omega)
  generalize b / 2 ^ k % 2=z at *
  have:z=0∨z=1:=by omega
  rcases this with rfl | rfl <;> decide
 rw [h3,Nat.testBit_eq_decide_div_mod_eq,Bool.eq_iff_iff,beq_iff_eq,decide_eq_true_iff]
 omega
theorem bitL_succ (k:Nat)(q:Nat→Bool):bitL (k+1) q=bitL k q++if q k=true then [(k:Int)] else []:=by
 unfold bitL
 rw [List.range_succ,List.filter_append,List.map_append]
 congr 1
 by_cases h:q k=true
 ·rw [if_pos h,List.filter_cons_of_pos h];rfl
 ·rw [if_neg h,List.filter_cons_of_neg h];rfl
theorem bitL_ok (k:Nat)(q:Nat→Bool):(∀ x∈bitL k q,0≤x∧x<(k:Int))∧(bitL k q).Pairwise (·<·):=by
 unfold bitL
 constructor
 ·intro x hx
  obtain ⟨i,hi,rfl⟩:=List.mem_map.1 hx
  have:=List.mem_range.1 (List.mem_filter.1 hi).1
  omega
 ·rw [List.pairwise_map]
  exact (List.pairwise_lt_range.sublist List.filter_sublist).imp fun h=>by omega
theorem bitL_len (k:Nat)(q:Nat→Bool):(bitL k q).length≤k:=by
 unfold bitL
 rw [List.length_map]
 exact Nat.le_trans (List.length_filter_le _ _) (by rw [List.length_range];exact Nat.le_refl _)
end Go.Proofs.YtipjmpdndokdlaaGreatDoor
