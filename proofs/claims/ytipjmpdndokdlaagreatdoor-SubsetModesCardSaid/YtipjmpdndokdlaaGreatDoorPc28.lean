/- Plain: which lists of indices a subset takes, and what it is. Walk: scale.note of a right scale. scale.note over a plain right scale. Plain: modes again, the subset of all notes, the collection of a scale's own notes, the sum of the steps. Plain: the classes of a right scale: the intervals of so many steps, their different sizes in order. -/
import Derived.Test.YtipjmpdndokdlaaGreatDoorPc23
import Derived.Test.YtipjmpdndokdlaaGreatDoorPc24
import Derived.Test.YtipjmpdndokdlaaGreatDoorShelfF
import Derived.Test.YtipjmpdndokdlaaGreatDoorPc21
import Derived.Deep.RegionHeld3
import Derived.Test.YtipjmpdndokdlaaGreatDoorPc25
set_option maxRecDepth 100000
set_option maxHeartbeats 2000000
namespace Go.Proofs.YtipjmpdndokdlaaGreatDoor
open Go.RowKit Go.Lib
/-- What an index of the list says. -/
def stepE (n : Nat) (l : List Int) (k : Nat) : Int :=
 if (l[k]?).getD 0<0∨(n:Int)≤(l[k]?).getD 0 then 3 else if 0<k∧(l[k]?).getD 0≤(l[k - 1]?).getD 0 then 6 else 0
/-- The first error from an index on. -/
def subFrom (n : Nat) (l : List Int) (k : Nat) : Nat → Int
 | 0=>0
 | m+1=>if stepE n l k=0 then subFrom n l (k+1) m else stepE n l k
def subE (n : Nat) (l : List Int) : Int:=if l=[] then 13 else subFrom n l 0 l.length
theorem sub_go {n:Nat}{l:List Int}{k:Nat}(hk:k<l.length)(h:stepE n l k=0):subFrom n l k (l.length - k)=subFrom n l (k+1) (l.length - (k+1)):=by
 rw [show l.length - k=(l.length - (k+1))+1 by omega,subFrom,if_pos h]
theorem sub_stop {n:Nat}{l:List Int}{k:Nat}(hk:k<l.length)(h:stepE n l k ≠ 0):subFrom n l k (l.length - k)=stepE n l k:=by
 rw [show l.length - k=(l.length - (k+1))+1 by omega,subFrom,if_neg h]
theorem sub_all {n:Nat}{l:List Int}:∀ (m k:Nat),subFrom n l k m=0→∀ i,k≤i→i<k+m→stepE n l i=0
 | 0,k,_,i,h1,h2=>by omega
 | m+1,k,h,i,h1,h2=>by
  rw [subFrom] at h
  by_cases e:stepE n l k=0
  ·rw [if_pos e] at h
   by_cases hi:i=k
   ·rw [hi];exact e
   ·exact sub_all m (k+1) h i (by omega) (by omega)
  ·rw [if_neg e] at h
   exact absurd h e
theorem step_ok {n:Nat}{l:List Int}{k:Nat}(h:stepE n l k=0):(0≤(l[k]?).getD 0∧(l[k]?).getD 0<(n:Int))∧(0<k→(l[k - 1]?).getD 0<(l[k]?).getD 0):=by
 unfold stepE at h
 split at h
 ·cases h
 ·split at h
  ·cases h
  ·rename_i h1 h2
   exact ⟨by omega,fun hk=>by omega⟩
theorem sub_ok {n:Nat}{l:List Int}(h:subFrom n l 0 l.length=0):(∀ x∈l,0≤x∧x<(n:Int))∧l.Pairwise (·<·):=by
 have ha:=fun i (hi:i<l.length)=>step_ok (sub_all l.length 0 h i (Nat.zero_le _) (by omega))
 refine ⟨fun x hx=>?_,?_⟩
 ·obtain ⟨i,hi,rfl⟩:=List.mem_iff_getElem.1 hx
  have:=(ha i hi).1
  rw [List.getElem?_eq_getElem hi] at this
  exact this
 ·rw [List.pairwise_iff_getElem]
  have key:∀ d i (hi:i+d+1<l.length),l[i]'(by omega)<l[i+d+1]:=by
   intro d
   induction d with
   | zero =>
    intro i hi
    have:=(ha (i+1) hi).2 (by omega)
    rw [Nat.add_sub_cancel,List.getElem?_eq_getElem hi,List.getElem?_eq_getElem (by omega)] at this
    exact this
   | succ d ih =>
    intro i hi
    have h1:=ih i (by omega)
    have:=(ha (i+d+1+1) hi).2 (by omega)
    rw [Nat.add_sub_cancel,List.getElem?_eq_getElem (show i+d+1+1<l.length by omega),List.getElem?_eq_getElem (show i+d+1<l.length by omega)] at this
    exact Int.lt_trans h1 this
  intro i j hi hj hij
  obtain ⟨d,rfl⟩:∃ d,j=i+d+1:=⟨j - i - 1,by omega⟩
  exact key d i hj
/-- The indices of a subset's notes. -/
def subK (n : Nat) (l : List Int) : List Int:=l.tail++[l.headD 0+(n : Int)]
/-- The subset. -/
def subN (p : List Int) (N : List (List Rat)) (l : List Int) : List (List Rat):=(subK N.length l).map fun k => subZ (nt p N k) (nt p N (l.headD 0))
theorem subK_len (n:Nat){l:List Int}(h:l ≠ []):(subK n l).length=l.length:=by
 cases l with
 | nil=>exact absurd rfl h
 | cons a l=>simp [subK]
theorem subK_up {n:Nat}{l:List Int}(h:l ≠ [])(hb:∀ x∈l,0≤x∧x<(n:Int))(hu:l.Pairwise (·<·)):(l.headD 0::subK n l).Pairwise (·<·):=by
 cases l with
 | nil=>exact absurd rfl h
 | cons a l =>
  unfold subK
  simp only [List.headD_cons,List.tail_cons]
  rw [List.pairwise_cons] at hu
  rw [List.pairwise_cons,List.pairwise_append]
  have ha:=hb a (List.mem_cons_self ..)
  refine ⟨fun x hx=>?_,hu.2,List.pairwise_singleton _ _,fun x hx y hy=>?_⟩
  ·rcases List.mem_append.1 hx with e | e
   ·exact hu.1 x e
   ·rw [List.mem_singleton] at e;omega
  ·rw [List.mem_singleton] at hy
   have:=hb x (List.mem_cons_of_mem _ hx)
   omega
theorem sub_wd {p:List Int}{N:List (List Rat)}(h:Wd p N){l:List Int}(hl:l ≠ [])(hl10:l.length≤60)(hb:∀ x∈l,0≤x∧x<(N.length:Int))(hu:l.Pairwise (·<·)):Wd p (subN p N l) :=
 h.pick (l.headD 0) (subK N.length l) (by rw [subK_len _ hl];exact hl10) (subK_up hl hb hu) (by
  unfold subK
  rw [List.length_append,List.length_singleton,Nat.add_sub_cancel,List.getElem?_append_right (Nat.le_refl _),Nat.sub_self]
  rfl)
/-- slices.Clone at ints, an empty slice too. -/
theorem cloneI_c (b off c:Nat)(l:List Int)(w:World)(hl:l.length≤1000000)(hc:∀ j z,l[j]?=some z→w.cell? ⟨b,off+j,none⟩=some (.int .i64 z)) :
  Calls Tryz.prog 37 #[.slice (some ⟨b,off,none⟩) l.length c] w fun e w'=>∃ u,e=.returned u∧OwnI w' w.heap.size u l∧u ≠ .slice none 0 0∧Ext w w':=by
 obtain ⟨i0,hi,hz0,hz1,hz2⟩:=info_parts info_int
 have hcell:∀ j u,(i64s l)[j]?=some u→w.cell? ⟨b,off+j,none⟩=some u:=fun j u hu=>by
  unfold i64s at hu
  rw [List.getElem?_map] at hu
  cases hz:l[j]? with
  | none=>rw [hz] at hu;cases hu
  | some z=>rw [hz] at hu;cases hu;exact hc j z hz
 refine (AnyE.slices_Clone Tryz.lCloneI i0 (.int .i64 0) 1 8 hi hz0 hz1 hz2 rfl (by decide) Tryz.sizeOf3 b off l.length c (i64s l) w (by rw [i64s_length];omega) (by unfold maxLen;omega) (by omega) hcell (by simp [i64s,Value.oneCell'])).mono fun e w' ⟨v',he,ho,hn,hb⟩=>⟨v',he,ho,hn,hb⟩
end Go.Proofs.YtipjmpdndokdlaaGreatDoor

namespace Go.Proofs.YtipjmpdndokdlaaGreatDoor
open Go.RowKit Go.Lib
attribute [local go_sem] Oper.semAt_some
theorem note_c (v:Value)(p:List Int)(rs:List Qw)(n:Nat)(k:Int)(r:Qw)(w:World)(he:Env w)(hv:ScV w v p rs)(h:Right p rs)(hn:rs.length=n+1)(hr:rs[n]?=some r)(hk0:-100000000≤k)(hk1:k≤100000000)
  (hq:Ft 400 ((k / ((n:Int)+1):Int):Rat)) (hf1:∀ q∈mulZ r.x ((k / ((n:Int)+1):Int):Rat),Ft 30 q) (hf2:∀ q∈noteQ rs n k,Ft 30 q) :
  Calls Tryz.prog 36 #[v,.int .i64 k] w fun e w'=>∃ g,e=.returned (.tuple #[.slice (some ⟨g,0,none⟩) p.length p.length,.int .i64 0])∧OwnQ w' w.heap.size (.slice (some ⟨g,0,none⟩) p.length p.length) (noteQ rs n k)∧Ext w w':=by
 have h60:=h.most
 have hN:(0:Int)<(n:Int)+1:=by omega
 have htf:=trunc_floor (k:=k) hN
 have h3:=Int.emod_nonneg k (show (n:Int)+1 ≠ 0 by omega)
 have h4:=Int.emod_lt_of_pos k hN
 have hqb:=div_bd (a:=k) (b:=(n:Int)+1) (m:=100000000) hN hk0 hk1 (by omega)
 have hpe:=fun W (hE:Ext w W)=>period_c v p rs n r W (hv.ext hE) hn (by omega) hr
 have hin:=fun W (hE:Ext w W)=>integer_c (k / ((n:Int)+1)) W (he.ext hE) (by omega) (by omega)
 obtain ⟨vp,vn,rfl,hp,hs,hm⟩:=hv
 have hmem:=List.mem_of_getElem? hr
 have hmr:=hm r hmem
 have hsc:=fun W (hE:Ext w W)=>sScale_c vp r.u p r.x _ W (he.ext hE) (hE.sl hp) (hE.rd hmr) h.pe (h.len r hmem) (h.ft r hmem) hq hf1
 obtain ⟨ap,cp,rfl,_,_,_⟩:=hp.parts
 obtain ⟨an,cn,rfl,_,_,hc⟩:=hs.parts
 rw [i64s_length] at hpe hsc ⊢
 rw [qwc_length,hn] at hpe ⊢
 obtain ⟨b,off,rfl,hc0⟩:=hc n r.u (by unfold qwc;rw [List.getElem?_map,hr];rfl)
 have hE0:Ext w (w.alloc (.cells #[.slice ap p.length cp,.slice (some ⟨b,off,none⟩) (n+1) cn] 32)):=(Ext.refl w).alloc _
 have hzero:k % ((n:Int)+1)=0→noteQ rs n k=mulZ r.x ((k / ((n:Int)+1):Int):Rat):=fun e=>by unfold noteQ;rw [hr];simp only [e,if_true];rfl
 have hadd:¬ k % ((n:Int)+1)=0→∃ (j:Nat)(s:Qw),(j:Int)=k % ((n:Int)+1) - 1∧(∃ a c,s.u=.slice a p.length c)∧w.cell? ⟨b,off+j,none⟩=some s.u ∧
   ∀ W vb,Ext w W→Rd W vb (mulZ r.x ((k / ((n:Int)+1):Int):Rat))→Calls Tryz.prog 67 #[.slice ap p.length cp,vb,s.u] W fun e w'=>∃ g,e=.returned (.tuple #[.slice (some ⟨g,0,none⟩) p.length p.length,.int .i64 0])∧OwnQ w' W.heap.size (.slice (some ⟨g,0,none⟩) p.length p.length) (noteQ rs n k)∧Ext W w':=fun e=>by
  obtain ⟨j,hj⟩:∃ j:Nat,(j:Int)=k % ((n:Int)+1) - 1:=⟨(k % ((n:Int)+1) - 1).toNat,by omega⟩
  obtain ⟨s,hs1⟩:∃ s,rs[j]?=some s:=⟨_,List.getElem?_eq_getElem (by omega)⟩
  have hsm:=List.mem_of_getElem? hs1
  have hrs:=hm s hsm
  obtain ⟨b2,off2,e2,hcs⟩:=hc j s.u (by unfold qwc;rw [List.getElem?_map,hs1];rfl)
  cases e2
  have hnq:noteQ rs n k=addZ (mulZ r.x ((k / ((n:Int)+1):Int):Rat)) s.x:=by
   unfold noteQ
   rw [hr,if_neg e,show (k % ((n:Int)+1)).toNat - 1=j by omega,hs1]
   rfl
  refine ⟨j,s,hj,?_,hcs,fun W vb hE hb=>?_⟩
  ·obtain ⟨a,c,hu,_⟩:=hrs.parts
   rw [h.len s hsm] at hu
   exact ⟨a,c,hu⟩
  ·have:=sAdd_c (.slice ap (i64s p).length cp) vb s.u p _ s.x W (he.ext hE) (hE.sl hp) hb (hE.rd hrs) h.pe (by unfold mulZ;rw [List.length_map];exact h.len r hmem) (h.len s hsm) hf1 (h.ft s hsm) (by rw [← hnq];exact hf2)
   rw [i64s_length,← hnq] at this
   exact this
 have hcast:((n+1:Nat):Int)=(n:Int)+1:=by omega
 have hnz:((n:Int)+1) ≠ 0:=by omega
 clear hp hs hm he h hmr hmem hc hc0 hf1 hf2 hq
 have bx:(w.alloc (.cells #[.slice ap p.length cp,.slice (some ⟨b,off,none⟩) (n+1) cn] 32)).heap[w.heap.size]?=some (.cells #[.slice ap p.length cp,.slice (some ⟨b,off,none⟩) (n+1) cn] 32 (0,0)):=World.alloc_heap_new w _
 have hbox:∀ W,Ext (w.alloc (.cells #[.slice ap p.length cp,.slice (some ⟨b,off,none⟩) (n+1) cn] 32)) W→W.cell? ⟨w.heap.size,0,none⟩=some (.slice ap p.length cp)∧W.cell? ⟨w.heap.size,1,none⟩=some (.slice (some ⟨b,off,none⟩) (n+1) cn):=fun W hE=>by
  have hb:=hE.heap bx
  unfold World.cell?
  dsimp only
  rw [hb]
  exact ⟨rfl,rfl⟩
 clear bx
 have Hpe:=hid hpe;have Hin:=hid hin;have Hsc:=hid hsc;have HE0:=hid hE0;have Htf:=hid htf;have Hbox:=hid hbox;have Hzero:=hid hzero;have Hadd:=hid hadd;clear hpe hin hsc hE0 htf hbox hzero hadd
 have hdec:k.tmod ((n:Int)+1)<0∨¬ k.tmod ((n:Int)+1)<0:=by omega
 rcases hdec with hs | hs
 case' inl=>obtain ⟨e1,e2⟩:=Htf.out.1 hs
 case' inr=>obtain ⟨e1,e2⟩:=Htf.out.2 hs
 all_goals
  go_enter Tryz.func36,Tryz.ntmps36
  go_wp2_with fail
  go_quiet (fail)
  go_wp2_with fail
  generalize hV:(w.alloc (.cells #[.slice ap p.length cp,.slice (some ⟨b,off,none⟩) (n+1) cn] 32)).drewN nq=V at *
  have hEV:Ext (w.alloc (.cells #[.slice ap p.length cp,.slice (some ⟨b,off,none⟩) (n+1) cn] 32)) V:=by rw [← hV];exact (Ext.refl _).drewN _
  obtain ⟨q0,q1⟩:=Hbox.out V hEV
  have HV:=hid (HE0.out.trans hEV)
  have HEV0:=hid hEV
  clear hV hEV
  go_region_held3 (fun w'=>Ext V w'∧w'.cell? ⟨w.heap.size,0,none⟩=some (.slice ap p.length cp)∧w'.cell? ⟨w.heap.size,1,none⟩=some (.slice (some ⟨b,off,none⟩) (n+1) cn))
   (first | (with_reducible assumption) | exact ⟨(Ext.refl V).drew,q0,q1⟩)
   (first
    | (go_at_call 65;refine (Hpe.out _ (HV.out.trans (And.left (by assumption)))).mono ?_;rintro e9 VA ⟨rfl,hxa⟩;have hEA:=((Ext.refl V).drew).trans hxa;have hS2:Ext V VA∧VA.cell? ⟨w.heap.size,0,none⟩=some (.slice ap p.length cp)∧VA.cell? ⟨w.heap.size,1,none⟩=some (.slice (some ⟨b,off,none⟩) (n+1) cn):=⟨hEA,hEA.cell q0,hEA.cell q1⟩;have HEA:=hid hEA;clear hxa hEA)
    | (go_at_call 66;refine (Hin.out _ (HV.out.trans HEA.out)).mono ?_;rintro e9 VB ⟨rfl,hxa⟩;have hEB:=HEA.out.trans hxa;have hS3:Ext V VB∧VB.cell? ⟨w.heap.size,0,none⟩=some (.slice ap p.length cp)∧VB.cell? ⟨w.heap.size,1,none⟩=some (.slice (some ⟨b,off,none⟩) (n+1) cn):=⟨hEB,hEB.cell q0,hEB.cell q1⟩;have HEB:=hid hEB;clear hxa hEB hS2)
    | (go_at_call 29;refine (Hsc.out _ (HV.out.trans HEB.out)).mono ?_;rintro e9 VC ⟨g,rfl,ho,hxa⟩;have hEC:=HEB.out.trans hxa;have hS4:Ext V VC∧VC.cell? ⟨w.heap.size,0,none⟩=some (.slice ap p.length cp)∧VC.cell? ⟨w.heap.size,1,none⟩=some (.slice (some ⟨b,off,none⟩) (n+1) cn):=⟨hEC,hEC.cell q0,hEC.cell q1⟩;have HEC:=hid hEC;have HoC:=hid (ho.mono (HV.out.trans HEB.out).size);clear hxa hEC ho hS3))
  all_goals
   clear hS4 q0 q1
   by_cases hi:k % ((n:Int)+1)=0
   ·have hnq:=Hzero.out hi
    have Hnq:=hid hnq;clear hnq
    go_wp2
    go_ret2
    exact ⟨_,rfl,by rw [Hnq.out];exact HoC.out,HV.out.trans HEC.out⟩
   ·obtain ⟨j,s,hj,⟨sa,sc,hsu⟩,hcs,had⟩:=Hadd.out hi
    rw [hsu] at hcs had
    have hEV:=HV.out.trans HEC.out
    have hcs2:=hEV.cell hcs
    obtain ⟨q0,q1⟩:=Hbox.out VC (HEV0.out.trans HEC.out)
    have haD:=had VC.drew _ hEV.drew HoC.out.rd
    have hj0:(0:Int)≤(j:Int):=by omega
    have hj1:(j:Int)<((n+1:Nat):Int):=by omega
    clear hcs had
    have hj2:IntKind.i64.wrap (k % ((n:Int)+1) - 1)=(j:Int):=by rw [IntWalk.i64_in _ (by omega)];exact hj.symm
    have hj3:(j:Int)<(n:Int)+1:=by omega
    have hj4:k % ((n:Int)+1) - 1=(j:Int):=hj.symm
    clear hj
    have HaD:=hid haD;have HEV:=hid hEV;clear haD hEV
    have hjk:k % ((n:Int)+1)=(j:Int)+1:=by omega
    clear hj2 hj4
    generalize k % ((n:Int)+1)=iv at *
    subst hjk
    have hwj:IntKind.i64.wrap ((j:Int)+1 - 1)=(j:Int):=by rw [show (j:Int)+1 - 1=(j:Int) by omega];exact IntWalk.i64_in _ (by omega)
    have hwj2:IntKind.i64.wrap (j:Int)=(j:Int):=IntWalk.i64_in _ (by omega)
    have hjn:j<n+1:=by omega
    go_wp2_with fail
    go_region_held3 (fun w'=>Ext VC w'∧w'.cell? ⟨w.heap.size,0,none⟩=some (.slice ap p.length cp)∧w'.cell? ⟨w.heap.size,1,none⟩=some (.slice (some ⟨b,off,none⟩) (n+1) cn)∧w'.cell? ⟨b,off+j,none⟩=some (.slice sa p.length sc))
     (first | (with_reducible assumption) | exact ⟨(Ext.refl VC).drew,q0,q1,hcs2⟩)
     (first
      | (go_at_call 67;refine (HaD.out).mono ?_;rintro e9 VD ⟨g2,rfl,ho2,hxa⟩;have hED:=((Ext.refl VC).drew).trans hxa;have hS5:Ext VC VD∧VD.cell? ⟨w.heap.size,0,none⟩=some (.slice ap p.length cp)∧VD.cell? ⟨w.heap.size,1,none⟩=some (.slice (some ⟨b,off,none⟩) (n+1) cn)∧VD.cell? ⟨b,off+j,none⟩=some (.slice sa p.length sc):=⟨hED,hED.cell q0,hED.cell q1,hED.cell hcs2⟩;have HED:=hid hED;have HoD:=hid (ho2.mono HEV.out.size);clear hxa hED ho2))
    all_goals
     clear hS5 q0 q1 hcs2
     go_wp2
     go_ret2
     exact ⟨_,rfl,HoD.out,HEV.out.trans HED.out⟩
end Go.Proofs.YtipjmpdndokdlaaGreatDoor

namespace Go.Proofs.YtipjmpdndokdlaaGreatDoor
open Go.RowKit Go.Lib
section
variable {p : List Int} {N : List (List Rat)} (h : Wd p N)
include h
theorem Wd.nt_bd (k:Int):((k / (N.length:Int):Int):Rat) * 67108864≤sF p (nt p N k)∧sF p (nt p N k)≤((k / (N.length:Int):Int):Rat) * 67108864+67108864:=by
 have h0:=h.pos
 have hN:(0:Int)<(N.length:Int):=by omega
 have a1:=Int.emod_nonneg k (show (N.length:Int) ≠ 0 by omega)
 have a2:=Int.emod_lt_of_pos k hN
 rw [h.sF_nt]
 have:=h.zbd (i:=(k % (N.length:Int)).toNat) (by omega)
 grind
theorem Wd.nt_sub_quick (k l:Int)(hk0:-1000≤k)(hk1:k≤1000)(hl0:-1000≤l)(hl1:l≤1000):Quick p (subZ (nt p N k) (nt p N l)):=by
 obtain ⟨n,hn⟩:=h.dif
 have h0:=h.pos
 have hN:(0:Int)<(N.length:Int):=by omega
 have e1:=div_bd (a:=k) (b:=(N.length:Int)) (m:=1000) hN hk0 hk1 (by omega)
 have e2:=div_bd (a:=l) (b:=(N.length:Int)) (m:=1000) hN hl0 hl1 (by omega)
 have b1:=h.nt_bd k
 have b2:=h.nt_bd l
 have c1:(-1000:Rat)≤((k / (N.length:Int):Int):Rat):=Rat.intCast_le_intCast.2 e1.1
 have c2:((k / (N.length:Int):Int):Rat)≤1000:=Rat.intCast_le_intCast.2 e1.2
 have c3:(-1000:Rat)≤((l / (N.length:Int):Int):Rat):=Rat.intCast_le_intCast.2 e2.1
 have c4:((l / (N.length:Int):Int):Rat)≤1000:=Rat.intCast_le_intCast.2 e2.2
 have hs:=sF_sub p (nt p N k) (nt p N l) (by rw [h.ntlen,h.ntlen])
 have hl:=(subZ_len (x:=nt p N k) (y:=nt p N l) (by rw [h.ntlen,h.ntlen])).trans (h.ntlen k)
 have hc:((2001 * 67108864:Int):Rat)=2001 * 67108864:=by rw [Rat.intCast_mul];rfl
 exact nic_quick (c:=2001) (by rw [hl];exact h.pr) (h.nt_nic hn k l) (by omega) (by omega) (by rw [hc];grind) (by rw [hc];grind)
theorem Wd.nt_quick (k:Int)(hk0:-1000≤k)(hk1:k≤1000):Quick p (nt p N k):=by
 have:=h.nt_sub_quick k 0 hk0 hk1 (by omega) (by omega)
 rw [h.nt_zero,← h.ntlen k,subZ_zer] at this
 exact this
end
theorem mul_ov_ft {n:Nat}{q:Int}(h0:-100000<q)(h1:q<100000):∀ x∈mulZ (ov n) (q:Rat),Ft 30 x:=by
 rw [mul_ov]
 unfold zer
 rw [List.replicate_succ]
 intro x hx
 simp only [shf,List.mem_cons] at hx
 rcases hx with rfl | hx
 ·rw [show (0:Rat)+(q:Rat)=(q:Rat) by grind]
  exact (int_ft (k:=5) (by show _<100000;omega) (by omega)).mono (by omega)
 ·rw [List.eq_of_mem_replicate hx]
  exact ft_zero.mono (by omega)
theorem nt_c (v:Value)(p:List Int)(rs:List Qw)(k:Int)(w:World)(he:Env w)(hv:ScV w v p rs)(h:Wd p (rs.map Qw.x))(hk0:-1000≤k)(hk1:k≤1000) :
  Calls Tryz.prog 36 #[v,.int .i64 k] w fun e w'=>∃ g,e=.returned (.tuple #[.slice (some ⟨g,0,none⟩) p.length p.length,.int .i64 0])∧OwnQ w' w.heap.size (.slice (some ⟨g,0,none⟩) p.length p.length) (nt p (rs.map Qw.x) k)∧Ext w w':=by
 have hpos:=h.pos
 rw [List.length_map] at hpos
 obtain ⟨n,hn⟩:∃ n,rs.length=n+1:=⟨rs.length - 1,by omega⟩
 obtain ⟨r,hr⟩:∃ r,rs[n]?=some r:=⟨_,List.getElem?_eq_getElem (by omega)⟩
 have hrx:r.x=ov (p.length - 1):=by
  have:=h.last
  rw [List.length_map,hn,Nat.add_sub_cancel,List.getElem?_map,hr] at this
  exact Option.some.inj this
 have hnq:=h.noteQ hn k
 have hq:=h.nt_quick k hk0 hk1
 have hd:=div_bd (a:=k) (b:=(n:Int)+1) (m:=1000) (by omega) hk0 hk1 (by omega)
 have:=note_c v p rs n k r w he hv h.right hn hr (by omega) (by omega) ((int_ft (k:=5) (by show _<100000;omega) (by omega)).mono (by omega)) (by rw [hrx];exact mul_ov_ft (by omega) (by omega)) (by rw [hnq];exact hq.1)
 rw [hnq] at this
 exact this
end Go.Proofs.YtipjmpdndokdlaaGreatDoor

namespace Go.Proofs.YtipjmpdndokdlaaGreatDoor
/-- All indices. -/
def allI (n : Nat) : List Int:=(List.range n).map fun (i : Nat) => (i : Int)
theorem subK_all {n:Nat}(h0:0<n):subK n (allI n)=(List.range n).map fun (i:Nat)=>(0:Int)+(i:Int)+1:=by
 obtain ⟨m,rfl⟩:∃ m,n=m+1:=⟨n - 1,by omega⟩
 have e:allI (m+1)=0::(List.range m).map fun (i:Nat)=>(i:Int)+1:=by
  unfold allI
  rw [List.range_succ_eq_map,List.map_cons,List.map_map]
  rfl
 unfold subK
 rw [e,List.tail_cons,List.headD_cons,List.range_succ,List.map_append]
 have e2:((List.range m).map fun (i:Nat)=>(i:Int)+1)=(List.range m).map fun (i:Nat)=>(0:Int)+(i:Int)+1:=List.map_congr_left fun i _=>by omega
 rw [e2,List.map_singleton,show (0:Int)+((m+1:Nat):Int)=0+(m:Int)+1 by omega]
section
variable {p : List Int} {N : List (List Rat)} (h : Wd p N)
include h
omit h in
theorem zat_mem {i:Nat}(hi:i<N.length):N[i]?=some (zat p N (i+1)):=by
 unfold zat
 rw [List.getElem?_cons_succ,List.getElem?_eq_getElem hi,Option.getD_some]
theorem Wd.md_zero : md p N 0=N:=by
 refine List.ext_getElem? fun i=>?_
 by_cases hi:i<N.length
 ·have e:(0:Int)+(i:Int)+1=((i+1:Nat):Int):=by omega
  have hz:=subZ_zer (nt p N ((i+1:Nat):Int))
  rw [h.ntlen] at hz
  rw [md_at hi,e,h.nt_zero,hz,h.nt_low (by omega),zat_mem (p:=p) hi]
 ·rw [List.getElem?_eq_none (by rw [md_len];omega),List.getElem?_eq_none (by omega)]
theorem Wd.sub_all : subN p N (allI N.length)=N:=by
 have h0:=h.pos
 have e:(allI N.length).headD 0=0:=by
  obtain ⟨m,hm⟩:∃ m,N.length=m+1:=⟨N.length - 1,by omega⟩
  rw [hm]
  unfold allI
  rw [List.range_succ_eq_map]
  rfl
 unfold subN
 rw [subK_all h0,e]
 exact h.md_zero
theorem Wd.lw : Lw p 1 N:=by
 obtain ⟨n,hn⟩:=h.dif
 refine ⟨h.pr,h.len,by omega,by omega,fun x hx=>?_,n,hn⟩
 obtain ⟨i,hi,e⟩:=List.getElem_of_mem hx
 have hz:=zat_mem (p:=p) hi
 rw [List.getElem?_eq_getElem hi,e] at hz
 rw [Option.some.inj hz,show ((1 * 67108864:Int):Rat)=67108864 from rfl]
 rcases Nat.lt_or_ge (i+1) N.length with g | g
 ·have:=h.zbd g
  constructor <;> grind
 ·rw [show i+1=N.length by omega,h.zlast,h.sov]
  constructor <;> grind
end
end Go.Proofs.YtipjmpdndokdlaaGreatDoor

namespace Go.Proofs.YtipjmpdndokdlaaGreatDoor
/-- In the half box (n = 0), or a part of the octave. -/
def Nic2 (n : Nat) (x : List Rat) : Prop:=(n=0 ∧ Bx 128 x)∨(0<n ∧ n≤60 ∧ Oc n x)
theorem Nic2.nic {n:Nat}{x:List Rat}(h:Nic2 n x):Nic n x:=by
 rcases h with ⟨e,h⟩ | h
 ·exact .inl ⟨e,bx_mono h (by omega)⟩
 ·exact .inr h
theorem nic2_shf {n:Nat}{q:Int}{x:List Rat}(h:Nic2 n x):Nic2 n (shf q x):=by
 rcases h with ⟨e,h⟩ | ⟨h1,h2,h⟩
 ·exact .inl ⟨e,bx_shf h⟩
 ·exact .inr ⟨h1,h2,oc_shf h⟩
theorem nic2_sub {n:Nat}{x y:List Rat}(hx:Nic2 n x)(hy:Nic2 n y)(hl:x.length=y.length):Nic n (subZ x y):=by
 rcases hx with ⟨e,hx⟩ | ⟨h1,h2,hx⟩
 ·rcases hy with ⟨_,hy⟩ | ⟨g,_⟩
  ·exact .inl ⟨e,bx_sub hx hy hl⟩
  ·omega
 ·rcases hy with ⟨g,_⟩ | ⟨_,_,hy⟩
  ·omega
  ·exact .inr ⟨h1,h2,oc_sub hx hy hl⟩
/-- The differences of a list of sizes lie in the half box. -/
def Dif2 (p : List Int) (l : List (List Rat)) : Prop:=∃ n,∀ x∈zer p.length::l,∀ y∈zer p.length::l,Nic2 n (subZ x y)
/-- A right scale with classes whose differences are nice. -/
structure Wc (p : List Int) (N : List (List Rat)) : Prop where
 wd:Wd p N
 d2:Dif2 p N
 few:N.length≤12
theorem coll_wc {p:List Int}{c:Int}{l N:List (List Rat)}(h:Lw p c l)(h2:Dif2 p l)(hc:Coll p l N)(hl:l.length≤9):Wc p N:=by
 refine ⟨coll_wd h hc (by omega),?_,by have:=coll_few h hc;omega⟩
 obtain ⟨n,hn⟩:=h2
 have key:∀ x∈zer p.length::N,∃ q,∃ z∈zer p.length::l,x=shf q z∧z.length=p.length:=fun x hx=>by
  rcases List.mem_cons.1 hx with rfl | hx
  ·exact ⟨0,_,List.mem_cons_self ..,(shf_zero _).symm,zer_len _⟩
  ·rcases (hc.2 x).1 hx with rfl | ⟨_,z,hz,rfl⟩
   ·exact ⟨1,_,List.mem_cons_self ..,ov_pr h.pr,zer_len _⟩
   ·exact ⟨_,z,List.mem_cons_of_mem _ hz,rfl,h.len z hz⟩
 refine ⟨n,fun x hx y hy=>?_⟩
 obtain ⟨q,z,hz,rfl,hl⟩:=key x hx
 obtain ⟨r,u,hu,rfl,hl2⟩:=key y hy
 rw [shf_sub (hl.trans hl2.symm)]
 exact nic2_shf (hn z hz u hu)
/-- An interval: the note d steps above the note i, less the note i. -/
def iv (p : List Int) (N : List (List Rat)) (i d : Int) : List Rat:=subZ (nt p N (i+d)) (nt p N i)
section
variable {p : List Int} {N : List (List Rat)} (h : Wc p N)
include h
theorem Wc.ivlen (i d:Int):(iv p N i d).length=p.length:=by
 unfold iv
 rw [subZ_len (by rw [h.wd.ntlen,h.wd.ntlen]),h.wd.ntlen]
theorem Wc.sF_iv (i d:Int):sF p (iv p N i d)=sF p (nt p N (i+d)) - sF p (nt p N i):=by
 unfold iv
 exact sF_sub _ _ _ (by rw [h.wd.ntlen,h.wd.ntlen])
theorem Wc.iv_nic : ∃ n,∀ i d,Nic2 n (iv p N i d):=by
 obtain ⟨n,hn⟩:=h.d2
 refine ⟨n,fun i d=>?_⟩
 have h0:=h.wd.pos
 have hN:(0:Int)<(N.length:Int):=by omega
 have a1:=Int.emod_nonneg (i+d) (show (N.length:Int) ≠ 0 by omega)
 have a2:=Int.emod_lt_of_pos (i+d) hN
 have b1:=Int.emod_nonneg i (show (N.length:Int) ≠ 0 by omega)
 have b2:=Int.emod_lt_of_pos i hN
 unfold iv nt
 rw [shf_sub (by rw [h.wd.zlen (by omega),h.wd.zlen (by omega)])]
 exact nic2_shf (hn _ (h.wd.zmem (by omega)) _ (h.wd.zmem (by omega)))
theorem Wc.iv_sub_nic : ∃ n,∀ i d j e,Nic n (subZ (iv p N i d) (iv p N j e)):=by
 obtain ⟨n,hn⟩:=h.iv_nic
 exact ⟨n,fun i d j e=>nic2_sub (hn i d) (hn j e) (by rw [h.ivlen,h.ivlen])⟩
theorem Wc.iv_inj {i d j e:Int}(g:sF p (iv p N i d)=sF p (iv p N j e)):iv p N i d=iv p N j e:=by
 obtain ⟨n,hn⟩:=h.iv_sub_nic
 exact nice_inj (by rw [h.ivlen];exact h.wd.pr) (by rw [h.ivlen,h.ivlen]) (hn i d j e).nice g
theorem Wc.iv_shift (i d q:Int):iv p N (i+q * (N.length:Int)) d=iv p N i d:=by
 unfold iv
 rw [show i+q * (N.length:Int)+d=(i+d)+q * (N.length:Int) by generalize q * (N.length:Int)=t;omega,h.wd.nt_shift,h.wd.nt_shift,shf_sub (by rw [h.wd.ntlen,h.wd.ntlen]),Int.sub_self,shf_zero]
theorem Wc.iv_rem (i d:Int):iv p N (i % (N.length:Int)) d=iv p N i d:=by
 have:=h.iv_shift (i % (N.length:Int)) d (i / (N.length:Int))
 rw [← this]
 congr 1
 have:=Int.emod_add_mul_ediv i (N.length:Int)
 rw [Int.mul_comm] at this
 exact this
/-- All steps: the period. -/
theorem Wc.iv_full (i:Int):iv p N i (N.length:Int)=ov (p.length - 1):=by
 have e:=h.wd.nt_shift i 1
 rw [Int.one_mul] at e
 have e2:=shf_sub (q:=1) (r:=0) (x:=nt p N i) (y:=nt p N i) rfl
 rw [shf_zero,subZ_self,h.wd.ntlen] at e2
 unfold iv
 rw [e,e2,ov_pr h.wd.pr]
 rfl
theorem Wc.iv_none (i:Int):iv p N i 0=zer p.length:=by
 unfold iv
 rw [Int.add_zero,subZ_self,h.wd.ntlen]
theorem Wc.iv_bd {i d:Int}(h0:0≤d)(h1:d≤(N.length:Int)):0≤sF p (iv p N i d)∧sF p (iv p N i d)≤67108864:=by
 have e:=h.sF_iv i d
 have ef:=h.sF_iv i (N.length:Int)
 rw [h.iv_full,h.wd.sov] at ef
 constructor
 ·rcases (by omega:d=0∨0<d) with g | g
  ·rw [g,h.iv_none,sF_zer]
   exact Rat.le_refl
  ·have:=h.wd.nt_lt (k:=i) (l:=i+d) (by omega)
   grind
 ·rcases (by omega:d=(N.length:Int)∨d<(N.length:Int)) with g | g
  ·rw [g,h.iv_full,h.wd.sov]
   exact Rat.le_refl
  ·have:=h.wd.nt_lt (k:=i+d) (l:=i+(N.length:Int)) (by omega)
   grind
/-- More steps from one note are a greater interval. -/
theorem Wc.iv_lt {i d e:Int}(g:d<e):sF p (iv p N i d)<sF p (iv p N i e):=by
 rw [h.sF_iv,h.sF_iv]
 have:=h.wd.nt_lt (k:=i+d) (l:=i+e) (by omega)
 grind
theorem Wc.iv_quick {i d:Int}(h0:0≤d)(h1:d≤(N.length:Int)):Quick p (iv p N i d):=by
 obtain ⟨n,hn⟩:=h.iv_nic
 have hb:=h.iv_bd (i:=i) h0 h1
 refine nic_quick (c:=1) (by rw [h.ivlen];exact h.wd.pr) (hn i d).nic (by omega) (by omega) ?_ ?_
 ·rw [show ((1 * 67108864:Int):Rat)=67108864 from rfl];grind
 ·rw [show ((1 * 67108864:Int):Rat)=67108864 from rfl];exact hb.2
theorem Wc.iv_sub_quick {i d j e:Int}(h0:0≤d)(h1:d≤(N.length:Int))(g0:0≤e)(g1:e≤(N.length:Int)):Quick p (subZ (iv p N i d) (iv p N j e)):=by
 obtain ⟨n,hn⟩:=h.iv_sub_nic
 have hl:(iv p N i d).length=(iv p N j e).length:=by rw [h.ivlen,h.ivlen]
 have hb:=h.iv_bd (i:=i) h0 h1
 have hc:=h.iv_bd (i:=j) g0 g1
 have hs:=sF_sub p _ _ hl
 refine nic_quick (c:=1) (by rw [subZ_len hl,h.ivlen];exact h.wd.pr) (hn i d j e) (by omega) (by omega) ?_ ?_
 ·rw [show ((1 * 67108864:Int):Rat)=67108864 from rfl];grind
 ·rw [show ((1 * 67108864:Int):Rat)=67108864 from rfl];grind
/-- What the comparison of two intervals answers. -/
theorem Wc.iv_sgn (i d j e:Int):sgnT (tms p (dn (subZ (iv p N i d) (iv p N j e))) (subZ (iv p N i d) (iv p N j e)))=sgQ (sF p (iv p N i d) - sF p (iv p N j e)):=by
 obtain ⟨n,hn⟩:=h.iv_sub_nic
 have hl:(iv p N i d).length=(iv p N j e).length:=by rw [h.ivlen,h.ivlen]
 rw [nice_sgn (by rw [subZ_len hl,h.ivlen];exact h.wd.pr) (hn i d j e).nice,sF_sub p _ _ hl]
end
/-- Put in order, once. -/
def insQ (p : List Int) (x : List Rat) : List (List Rat) → List (List Rat)
 | []=>[x]
 | y::t=>if sF p y<sF p x then y::insQ p x t else if y=x then y::t else x::y::t
theorem insQ_mem {p:List Int}{x z:List Rat}:∀ {l:List (List Rat)},z∈insQ p x l ↔ z=x∨z∈l
 | []=>by simp [insQ]
 | y::t=>by
  unfold insQ
  split
  ·rw [List.mem_cons,insQ_mem (l:=t),List.mem_cons]
   constructor
   ·rintro (e | e | e) <;> simp [e]
   ·rintro (e | e | e) <;> simp [e]
  ·split
   ·rename_i e
    rw [List.mem_cons]
    constructor
    ·exact fun g=>.inr g
    ·rintro (g | g)
     ·exact .inl (g.trans e.symm)
     ·exact g
   ·rw [List.mem_cons]
theorem insQ_srt {p:List Int}{x:List Rat}:∀ {l:List (List Rat)},Srt p l→(∀ y∈l,sF p x=sF p y→x=y)→Srt p (insQ p x l)
 | [],_,_=>by unfold insQ Srt;simp
 | y::t,hs,hi=>by
  have hs':=hs
  unfold Srt at hs'
  rw [List.pairwise_cons] at hs'
  unfold insQ
  split
  ·rename_i hlt
   unfold Srt
   rw [List.pairwise_cons]
   refine ⟨fun z hz=>?_,insQ_srt (l:=t) hs'.2 fun z hz=>hi z (List.mem_cons_of_mem _ hz)⟩
   rcases insQ_mem.1 hz with rfl | hz
   ·exact hlt
   ·exact hs'.1 z hz
  ·split
   ·exact hs
   ·rename_i h1 h2
    have hlt:sF p x<sF p y:=by
     have:sF p x ≠ sF p y:=fun e=>h2 (hi y (List.mem_cons_self ..) e).symm
     grind
    unfold Srt
    rw [List.pairwise_cons]
    refine ⟨fun z hz=>?_,hs⟩
    rcases List.mem_cons.1 hz with rfl | hz
    ·exact hlt
    ·have:=hs'.1 z hz
     grind
theorem insQ_len {p:List Int}{x:List Rat}:∀ (l:List (List Rat)),(insQ p x l).length≤l.length+1
 | []=>by simp [insQ]
 | y::t=>by
  have:=insQ_len (p:=p) (x:=x) t
  unfold insQ
  split
  ·simp only [List.length_cons];omega
  ·split <;> simp
/-- The different sizes of a class, among the first n notes. -/
def clsN (p : List Int) (N : List (List Rat)) (d : Int) : Nat → List (List Rat)
 | 0=>[]
 | n+1=>insQ p (iv p N (n:Int) d) (clsN p N d n)
def cls (p : List Int) (N : List (List Rat)) (d : Int) : List (List Rat):=clsN p N d N.length
theorem clsN_mem {p:List Int}{N:List (List Rat)}{d:Int}{x:List Rat}:∀ {n:Nat},x∈clsN p N d n ↔ ∃ i:Nat,i<n∧x=iv p N (i:Int) d
 | 0=>by simp [clsN]
 | n+1=>by
  unfold clsN
  rw [insQ_mem,clsN_mem (n:=n)]
  constructor
  ·rintro (e | ⟨i,hi,e⟩)
   ·exact ⟨n,by omega,e⟩
   ·exact ⟨i,by omega,e⟩
  ·rintro ⟨i,hi,e⟩
   rcases (by omega:i=n∨i<n) with g | g
   ·left;rw [e,g]
   ·exact .inr ⟨i,g,e⟩
theorem clsN_len {p:List Int}{N:List (List Rat)}{d:Int}:∀ (n:Nat),(clsN p N d n).length≤n
 | 0=>by simp [clsN]
 | n+1=>by
  have:=clsN_len (p:=p) (N:=N) (d:=d) n
  have:=insQ_len (p:=p) (x:=iv p N (n:Int) d) (clsN p N d n)
  unfold clsN
  omega
section
variable {p : List Int} {N : List (List Rat)} (h : Wc p N)
include h
theorem Wc.clsN_srt (d:Int):∀ n,Srt p (clsN p N d n)
 | 0=>by unfold clsN Srt;simp
 | n+1=>by
  unfold clsN
  refine insQ_srt (Wc.clsN_srt d n) fun y hy e=>?_
  obtain ⟨i,_,rfl⟩:=clsN_mem.1 hy
  exact h.iv_inj e
theorem Wc.cls_srt (d:Int):Srt p (cls p N d):=h.clsN_srt d _
omit h in
theorem cls_len {d:Int}:(cls p N d).length≤N.length:=clsN_len _
theorem Wc.cls_mem {d:Int}{x:List Rat}:x∈cls p N d ↔ ∃ i:Int,x=iv p N i d:=by
 unfold cls
 rw [clsN_mem]
 constructor
 ·rintro ⟨i,_,e⟩
  exact ⟨_,e⟩
 ·rintro ⟨i,e⟩
  have h0:=h.wd.pos
  have a1:=Int.emod_nonneg i (show (N.length:Int) ≠ 0 by omega)
  have a2:=Int.emod_lt_of_pos i (show (0:Int)<(N.length:Int) by omega)
  refine ⟨(i % (N.length:Int)).toNat,by omega,?_⟩
  rw [Int.toNat_of_nonneg a1,h.iv_rem]
  exact e
theorem Wc.cls_pos (d:Int):0<(cls p N d).length:=List.length_pos_of_mem (h.cls_mem.2 ⟨0,rfl⟩)
/-- A list in order with the same members is the class. -/
theorem Wc.cls_uniq {d:Int}{L:List (List Rat)}(hs:Srt p L)(hm:∀ x,x∈L ↔ ∃ i:Nat,i<N.length∧x=iv p N (i:Int) d):L=cls p N d :=
 srt_uniq hs (h.cls_srt d) fun x=>by rw [hm,cls,clsN_mem]
theorem Wc.cls_lt {d:Int}{x:List Rat}(hx:x∈cls p N d):x.length=p.length:=by
 obtain ⟨i,e⟩:=h.cls_mem.1 hx
 rw [e,h.ivlen]
end
end Go.Proofs.YtipjmpdndokdlaaGreatDoor
