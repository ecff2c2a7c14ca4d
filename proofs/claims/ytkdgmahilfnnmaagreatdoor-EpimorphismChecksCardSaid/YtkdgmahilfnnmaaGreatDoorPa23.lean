/- Walk: epimorphism.Val of a right set where the plain one answers. (KEEPALL) Walks: equal sizes: slices.Equal at fractions, size.Equal. Walks: slices.Clone at sizes and at primes; a list of sizes with one more. Walk: epimorphism.Of by the octave, where the few bits decide and the order is known. (KEEPALL) Walks: law 12's Primes and Interval: out of XLawA. (Printed by rebase.py.) -/
import Derived.Test.YtkdgmahilfnnmaaGreatDoorPa21
import Derived.Test.YtkdgmahilfnnmaaGreatDoorPa22
import Derived.Test.YtkdgmahilfnnmaaGreatDoorPa09
import Derived.Test.YtkdgmahilfnnmaaGreatDoorPa10
import Derived.Test.YtkdgmahilfnnmaaGreatDoorShelfE
import Derived.Test.YtkdgmahilfnnmaaGreatDoorPa15
import Derived.Test.YtkdgmahilfnnmaaGreatDoorPa11
import Derived.Deep.RegionHeld3
set_option maxRecDepth 100000
set_option maxHeartbeats 4000000
namespace Go.Proofs.YtkdgmahilfnnmaaGreatDoor
section
open Go.RowKit Go.Lib Go.Shelf
def One (T:TypeId)(w:World)(b:Nat)(u:Value):Prop:=w.heap[b]?=some (.cells #[u] T (0,0))
section
variable {T : TypeId} {w w' : World} {b c : Nat} {u : Value}
theorem One.new (T:TypeId)(w:World)(u:Value):One T (w.alloc (.cells #[u] T)) w.heap.size u:=World.alloc_heap_new w _
theorem One.ext (hx:Ext w w')(h:One T w b u):One T w' b u:=hx.heap h
theorem One.cell (h:One T w b u):w.cell? ⟨b,0,none⟩=some u:=by unfold World.cell?;dsimp only;rw [h];rfl
theorem One.fz (h:One T w b u):w.frozen? ⟨b,0,none⟩=false:=frozen_of_row w b 0 #[u] _ h
theorem One.sl {v y:Value}{x:List Int}(h:One T w b u)(hs:Sl w v (zaA x))(hn:∀ z,u ≠ .int .i64 z):Sl (w.setCell ⟨b,0,none⟩ y) v (zaA x):=by
 rcases hs with hs | ⟨g,off,cap,e,h1,h2,hc⟩
 ·exact .inl hs
 ·refine .inr ⟨g,off,cap,e,h1,h2,fun i t ht=>?_⟩;have h3:=hc i t ht;have hne:g ≠ b:=fun q=>by
   subst q;unfold World.cell? at h3;dsimp only at h3;rw [show w.heap[g]?=some (.cells #[u] T (0,0)) from h] at h3;have h4:(#[u]:Array Value)[off+i]?=some t:=h3;rw [← Array.getElem?_toList] at h4;have h5:=List.mem_of_getElem? h4;simp only [List.mem_singleton] at h5;unfold zaA at ht;obtain ⟨z,_,hz⟩:=List.mem_map.1 (List.mem_of_getElem? ht);exact hn z (by rw [hz,h5])
  have h6:=heap_setCell_other w ⟨b,0,none⟩ g y hne;unfold World.cell? at h3 ⊢;dsimp only at h3 ⊢;rw [h6];exact h3
theorem One.put (h:One T w b u)(x:Value):One T (w.setCell ⟨b,0,none⟩ x) b x:=heap_setCell_same w b 0 _ _ x h
end
theorem zmZ (a b:Int):(fdv a b).natAbs≤a.natAbs:=by
 by_cases h:b=0
 ·subst h;unfold fdv;simp
 ·exact zkm h
theorem zna : ∀ {f:List (List Int)}{l lF:List Int},(∀ z∈l,z.natAbs<10 ^ 81)→zgb f l=some lF→∀ z∈lF,z.natAbs<10 ^ 81
 | [],l,lF,h,hr=>by
  rw [zgb] at hr;obtain rfl:=Option.some.inj hr;exact h
 | r::f,l,lF,_,hr=>by
  obtain ⟨h1,h2,h3⟩:=zkP hr;refine zna (fun z hz=>?_) h3;unfold zga at hz;split at hz
  ·unfold zfO at hz;obtain ⟨i,hi⟩:=List.mem_iff_getElem?.1 hz;rw [List.getElem?_zipWith] at hi
   cases ha:l[i]? with
   | none=>rw [ha] at hi;simp at hi
   | some a =>
    cases hb:r[i]? with
    | none=>rw [ha,hb] at hi;simp at hi
    | some b =>
     rw [ha,hb] at hi
     have hz2:=(Option.some.inj hi).symm
     have e1:=h1 a (List.mem_of_getElem? ha)
     have e2:=h2 b (List.mem_of_getElem? hb)
     have hg:(l.getD (zfY r) 0).natAbs<10 ^ 40:=by
      rw [List.getD_eq_getElem?_getD]
      cases hg:l[zfY r]? with
      | none=>decide
      | some q=>exact h1 q (List.mem_of_getElem? hg)
     have hq:(fdv (l.getD (zfY r) 0) (r.getD (zfY r) 0)).natAbs<10 ^ 40:=Nat.lt_of_le_of_lt (zmZ _ _) hg
     generalize fdv (l.getD (zfY r) 0) (r.getD (zfY r) 0)=q at *
     have hm:(q * b).natAbs≤10 ^ 40 * 10 ^ 40:=by rw [Int.natAbs_mul];exact Nat.mul_le_mul (Nat.le_of_lt hq) (Nat.le_of_lt e2)
     generalize q * b=t at *
     have:(10:Nat) ^ 40 * 10 ^ 40+10 ^ 40<10 ^ 81:=by decide
     subst hz2
     omega
  ·have:=h1 z hz;exact Nat.lt_trans this (by decide)
theorem znb {z:Int}(h:z.natAbs<10 ^ 81):Fit z:=Nat.le_trans (Dec.nDigits_le (k:=81) (by decide) h) (by decide)
theorem znc : ∀ {l m mF:List (List Int)}{i:Nat}{a aF:List Int},zgd l i m a=some (mF,aF)→(∀ z∈a,0≤z∧z≤((i:Nat):Int))→∀ z∈aF,0≤z∧z≤((i+l.length:Nat):Int)
 | [],m,mF,i,a,aF,h,ha=>by
  rw [zgd] at h;obtain ⟨rfl,rfl⟩:=Prod.mk.inj (Option.some.inj h);exact ha
 | x::l,m,mF,i,a,aF,h,ha=>by
  obtain ⟨r,_,h1,h2⟩:=zm5 h;have key:∀ z∈aF,0≤z∧z≤((i+1+l.length:Nat):Int):=by
   by_cases e:r=(m++[x]).length
   ·refine znc (h1 e) fun z hz=>?_;rcases List.mem_append.1 hz with q | q
    ·have:=ha z q;omega
    ·rw [List.mem_singleton.1 q];omega
   ·refine znc (h2 e) fun z hz=>?_;have:=ha z hz;omega
  intro z hz;have:=key z hz;rw [List.length_cons];omega
theorem znd {p:List Int}:∀ {l:List (List Int)}{b:List Int},ziH p b l=0→∀ r∈l,zhe p r=0
 | [],_,_=>fun r h=>by cases h
 | x::l,b,h=>by
  rw [ziH] at h;by_cases h1:zhe p x=0
  ·rw [if_neg (by simpa using h1)] at h;by_cases h2:0≤ziC p b x
   ·rw [if_pos h2] at h;omega
   ·rw [if_neg h2] at h;intro r hr;rcases List.mem_cons.1 hr with q | q
    ·rw [q];exact h1
    ·exact znd h r q
  ·rw [if_pos h1] at h;exact absurd h h1
theorem zne {p:List Int}{l:List (List Int)}(h:ziI p l=0):zcG p=0∧0<l.length∧l.length≤60∧∀ r∈l,zhe p r=0:=by
 unfold ziI at h;by_cases h1:zcG p=0
 ·rw [if_neg (by simpa using h1)] at h;by_cases h2:l.length=0
  ·rw [if_pos h2] at h;omega
  ·rw [if_neg h2] at h;by_cases h3:60<l.length
   ·rw [if_pos h3] at h;omega
   ·rw [if_neg h3] at h;exact ⟨h1,by omega,by omega,znd h⟩
 ·rw [if_pos h1] at h;exact absurd h h1
theorem znf {x:List Int}{z:Int}(h:z∈x):∃ i,i<x.length∧zaD x i=z:=by
 obtain ⟨i,hi⟩:=List.mem_iff_getElem?.1 h;have hl:=(List.getElem?_eq_some_iff.1 hi).1;refine ⟨i,hl,?_⟩;unfold zaD;rw [List.getD_eq_getElem?_getD,hi];rfl
theorem zng {l:List (List Int)}{R:Option (List Int)}(h:zgh l=some R):∃ mF aF,zgd l 0 [] []=some (mF,aF)∧∃ S,zgc (zge mF) aF=some S∧(S=none→R=none)∧∀ v,S=some v→R=if 0<zgg v l then none else some v:=by
 unfold zgh at h;split at h
 ·cases h
 ·rename_i m a hi;refine ⟨m,a,hi,?_⟩;split at h
  ·cases h
  ·rename_i hs;exact ⟨none,hs,fun _=>(Option.some.inj h).symm,fun v e=>by cases e⟩
  ·rename_i v hs;refine ⟨some v,hs,fun e=>(by cases e),fun u e=>?_⟩;obtain rfl:=Option.some.inj e;split at h
   ·rename_i hw;rw [if_pos hw];exact (Option.some.inj h).symm
   ·rename_i hw;rw [if_neg hw];exact (Option.some.inj h).symm
theorem znh {m:List (List Int)}{b:List Int}{S:Option (List Int)}{n k:Nat}(h:zgc m b=some S)(hn:(m.getD 0 []).length=n)(hk:m.length=k) :
  ∃ gF tF lF xF,zfU 100 (List.zipWith (fun r u=>r++u) m (zfW k)) 0 0 (n+k)=some (gF,tF)∧zgb ((gF.take tF).filter fun l=>zfY l<n) (b++List.replicate k 0)=some lF ∧
   (¬ zfY lF<n→zgb (zfZ (gF.take tF) n) (zfP (lF.drop n))=some xF∧∀ z∈xF,z.natAbs≤1000000000)∧S=if zfY lF<n then none else some xF:=by
 unfold zgc zfX zfV at h;rw [hn,hk] at h
 cases ho:zfU 100 (List.zipWith (fun r u=>r++u) m (zfW k)) 0 0 (n+k) with
 | none=>rw [ho] at h;cases h
 | some g =>
  rw [ho] at h
  obtain ⟨gF,tF⟩:=g
  simp only [Option.map_some] at h
  cases hr:zgb ((gF.take tF).filter fun l=>zfY l<n) (b++List.replicate k 0) with
  | none=>rw [hr] at h;cases h
  | some lF =>
   rw [hr] at h
   dsimp only at h
   by_cases hl:zfY lF<n
   ·rw [if_pos hl] at h
    exact ⟨gF,tF,lF,[],rfl,hr,fun q=>absurd hl q,by rw [if_pos hl];exact (Option.some.inj h).symm⟩
   ·rw [if_neg hl] at h
    cases hx:zgb (zfZ (gF.take tF) n) (zfP (lF.drop n)) with
    | none=>rw [hx] at h;cases h
    | some xF =>
     rw [hx] at h
     dsimp only at h
     split at h
     ·rename_i ha
      refine ⟨gF,tF,lF,xF,rfl,hr,fun _=>⟨hx,fun z hz=>?_⟩,by rw [if_neg hl];exact (Option.some.inj h).symm⟩
      have:=List.all_eq_true.1 ha z hz
      simpa using this
     ·cases h
theorem zni {m:List (List Int)}{n:Nat}(hn:(m.getD 0 []).length=n):(zge m).length=n∧(∀ r∈zge m,r.length=m.length)∧(∀ P:Int→Prop,P 0→(∀ r∈m,∀ z∈r,P z)→∀ r∈zge m,∀ z∈r,P z):=by
 unfold zge;refine ⟨by rw [List.length_map,List.length_range,hn],fun r hr=>?_,fun P h0 hP r hr z hz=>?_⟩
 ·obtain ⟨c,_,rfl⟩:=List.mem_map.1 hr;rw [List.length_map]
 ·obtain ⟨c,_,rfl⟩:=List.mem_map.1 hr;obtain ⟨x,hx,rfl⟩:=List.mem_map.1 hz;rw [List.getD_eq_getElem?_getD]
  cases hg:x[c]? with
  | none=>exact h0
  | some q=>exact hP x hx q (List.mem_of_getElem? hg)
theorem znj {b:List Int}(h:b.length≤64)(h2:∀ z∈b,-1000000000≤z∧z≤1000000000):zh2 b=0:=by
 unfold zh2;rw [if_neg];intro q;rcases q with q | q
 ·omega
 ·obtain ⟨z,hz,hf⟩:=List.any_eq_true.1 q;have:=h2 z hz;unfold zhx at hf;rw [decide_eq_true this] at hf
  cases hf
def znk (n:Nat)(R:Option (List Int))(e:Ending)(w':World):Prop:=∃ v,e=.returned (.tuple #[v,.bool R.isSome,.int .i64 0])∧(R=none→v=.slice none 0 0)∧∀ x,R=some x→Sl w' v (zaA x)∧x.length=n
theorem znl (vp vl:Value)(p:List Int)(l:List (List Int))(R:Option (List Int))(w:World)(he:Env w)(hp:Sl w vp (zaA p))(hl:Mat w vl l)(hchk:ziI p l=0)(hp9:p.length≤11)(hrun:zgh l=some R)(hm0:∀ mF aF,zgd l 0 [] []=some (mF,aF)→0<mF.length) :
  Calls Tryz.prog 19 #[.agg #[vp,vl]] w fun e w'=>znk p.length R e w'∧Ext w w':=by
 obtain ⟨hpe,hl0,hl60,hone⟩:=zne hchk;have hrec:∀ r∈l,r.length=p.length:=fun r hr=>(zhq (zhr (hone r hr)).2).1;have hent:∀ r∈l,∀ z∈r,-1000≤z∧z≤1000:=fun r hr z hz=>by
  obtain ⟨i,hi,rfl⟩:=znf hz;exact (zhq (zhr (hone r hr)).2).2 i hi
 have hpl0:0<p.length:=(zcK hpe).1;have hrow:∀ i,(l.getD i []).length≤1000:=fun i=>by
  rw [List.getD_eq_getElem?_getD]
  cases h:l[i]? with
  | none=>exact Nat.zero_le _
  | some r=>have:=hrec r (List.mem_of_getElem? h);simp only [Option.getD_some];omega
 obtain ⟨mF,aF,hind,S,hsol,hR0,hR1⟩:=zng hrun;have hmF0:=hm0 mF aF hind;have hck:=fun W (hE:Ext w W)=>zmz vp vl p l W (he.ext hE) (hE.sl hp) (hE.mat hl) (by omega) (by omega) hrow;rw [hchk] at hck;have hin:=fun W (hE:Ext w W)=>zmB vp vl l mF aF p.length l.length W (he.ext hE) (hE.mat hl) rfl (by omega) hpl0 hp9 hrec (fun r hr z hz=>by have:=hent r hr z hz;omega) hind hmF0;have habd:=znc hind (fun z hz=>by cases hz);rw [Nat.zero_add] at habd;have hslv:∀ vt va W,Ext w W→Mat W vt (zge mF)→Sl W va (zaA aF)→mF.length≤p.length→aF.length=mF.length→(∀ r∈mF,r∈l)→Calls Tryz.prog 45 #[vt,va] W fun e w'=>∃ v,e=.returned (.tuple #[v,.bool S.isSome,.int .i64 0])∧(S=none→v=.slice none 0 0)∧(∀ x,S=some x→Sl w' v (zaA x)∧x.length=p.length∧∀ z∈x,z.natAbs≤1000000000)∧Ext W w':=fun vt va W hE hmt hva hfew hal hmem=>by
  have hg:(mF.getD 0 []).length=p.length:=by
   rw [List.getD_eq_getElem?_getD,List.getElem?_eq_getElem hmF0];exact hrec _ (hmem _ (List.getElem_mem _))
  obtain ⟨t1,t2,t3⟩:=zni hg;have hg2:((zge mF).getD 0 []).length=mF.length:=by
   rw [List.getD_eq_getElem?_getD,List.getElem?_eq_getElem (by omega)];exact t2 _ (List.getElem_mem _)
  obtain ⟨gF,tF,lF,xF,s1,s2,s3,s4⟩:=znh hsol hg2 t1;have hten:=t3 (fun z=>-1000≤z∧z≤1000) (by decide) (fun r hr z hz=>hent r (hmem r hr) z hz);have h0:=zmM vt va (zge mF) gF aF lF xF mF.length p.length tF W (he.ext hE) hmt hva t1 t2 hal hmF0 (by omega) hpl0 (fun r hr z hz=>by have:=hten r hr z hz;omega) (fun z hz=>by have:=habd z hz;omega)
   (zm7 (n:=mF.length) (by omega) (by omega) (by omega) t2 fun r hr z hz=>by have:=hten r hr z hz;omega) (znj (by omega) fun z hz=>by have:=habd z hz;omega) s1 s2
   (fun z hz=>znb (zna (fun z hz=>by
    rcases List.mem_append.1 hz with q | q
    ·have:=habd z q;have:(1000:Nat)<10 ^ 81:=(by decide);omega
    ·rw [List.eq_of_mem_replicate q];decide) s2 z hz)) s3
  refine h0.mono ?_;rintro e W9 ⟨v,rfl,hv1,hv2,hx⟩;by_cases hlt:zfY lF<mF.length
  ·rw [if_pos hlt] at s4;subst s4;exact ⟨v,by rw [decide_eq_false (not_not_intro hlt)] <;> rfl,fun _=>hv1 hlt,fun x q=>(by cases q),hx⟩
  ·rw [if_neg hlt] at s4;subst s4;refine ⟨v,by rw [decide_eq_true hlt] <;> rfl,fun q=>(by cases q),fun x q=>?_,hx⟩
   obtain rfl:=Option.some.inj q;exact ⟨(hv2 hlt).1,(hv2 hlt).2,(s3 hlt).2⟩
 have hwr:∀ (b:Nat)(vv:Value)(v:List Int) W,Ext w W→(∀ V,Ext W V→V.cell? ⟨b,0,none⟩=some vv)→Sl W vv (zaA v)→v.length=p.length→(∀ z∈v,z.natAbs≤1000000000)→Calls Tryz.prog 28 #[.agg #[vp,vl],.func (.func 46) #[] #[.pointer (some ⟨b,0,none⟩)]] W fun e w'=>e=.returned (.int .i64 (zgg v l))∧Ext W w':=fun b vv v W hE hc hv hvl hvb =>
  zmU 46 #[.pointer (some ⟨b,0,none⟩)] vp vl v l W (hE.mat hl) (by omega) zmW fun V hV i u hi hu=>by
   have hri:l.getD i []∈l:=by
    rw [List.getD_eq_getElem?_getD,List.getElem?_eq_getElem hi];exact List.getElem_mem _
   have hx:=zmV b vv u v (l.getD i []) ((i:Int)+1) V (hc V hV) (hV.sl hv) hu (by rw [hrec _ hri,hvl]) (hrow i) (fun j hj=>by
    have e1:=hent _ hri (zaD (l.getD i []) j) (zcR hj);have e2:=hvb (zaD v j) (zcR (by rw [hrec _ hri] at hj;omega));generalize zaD (l.getD i []) j=y at *;generalize zaD v j=z at *;have h1:(z * y).natAbs≤1000000000 * 1000:=(by rw [Int.natAbs_mul];exact Nat.mul_le_mul e2 (by omega));generalize z * y=t at *;omega)
   have hcast:((i:Int)+1)=((i+1:Nat):Int):=(by omega);rw [hcast] at hx ⊢;exact hx
 obtain ⟨ap,cp,rfl,_,_,_⟩:=hp.parts;obtain ⟨vs,hvl,hvs,_⟩:=hl;obtain ⟨am,cm,rfl,_,_,_⟩:=hvs.parts;rw [zaC,hvl] at *;have hX0:Ext w ((w.alloc (.cells #[.slice ap p.length cp,.slice am l.length cm] 32)).alloc (.cells #[.slice none 0 0] 26)):=((Ext.refl w).alloc _).alloc _;have hbA:zmX 32 ((w.alloc (.cells #[.slice ap p.length cp,.slice am l.length cm] 32)).alloc (.cells #[.slice none 0 0] 26)) w.heap.size (.slice ap p.length cp) (.slice am l.length cm):=zmX.ext ((Ext.refl _).alloc _) (zmX.new 32 w (.slice ap p.length cp) (.slice am l.length cm));have hoA:=One.new 26 (w.alloc (.cells #[.slice ap p.length cp,.slice am l.length cm] 32)) (.slice none 0 0);rw [World.size_alloc] at hoA;have c0:=hbA.c0;have c1:=hbA.c1;have HX0:=hid hX0;have HbA:=hid hbA;have HoA:=hid hoA;have Hck:=hid hck;have Hin:=hid hin;have Hslv:=hid hslv;have Hwr:=hid hwr;have HR0:=hid hR0;have HR1:=hid hR1;clear hX0 hbA hoA hck hin hslv hwr hR0 hR1;clear hp hvs he hm0 hrun hind hsol habd hrec hent hone hrow hchk hpe hmF0;go_enter Tryz.func19,Tryz.ntmps19
 go_wp2_with fail
 refine (Hck.out _ HX0.out).mono ?_;rintro e w1 ⟨rfl,hx1⟩;have Hb1:=hid (HbA.out.ext hx1);have Ho1:=hid (HoA.out.ext hx1);have Hx1:=hid (HX0.out.trans hx1);clear hx1 c0 c1;have c0:=Hb1.out.c0;have c1:=Hb1.out.c1;go_wp2_with fail
 refine (Hin.out w1 Hx1.out).mono ?_;rintro e w2 ⟨vt,va,rfl,hmt,hva,hfew,hal,hmem,hx2⟩;have hsv:=Hslv.out vt va w2 (Hx1.out.trans hx2) hmt hva hfew hal hmem;have Hb2:=hid (Hb1.out.ext hx2);have Ho2:=hid (Ho1.out.ext hx2);have Hx2:=hid (Hx1.out.trans hx2);have Hsv:=hid hsv;clear hx2 c0 c1 hmt hva hfew hal hmem hsv;go_wp2_with fail
 refine Hsv.out.mono ?_;rintro e w3 ⟨v,rfl,hv0,hv1,hx3⟩;have Hb3:=hid (Hb2.out.ext hx3);have Ho3:=hid (Ho2.out.ext hx3);have Hx3:=hid (Hx2.out.trans hx3);clear hx3;have z3:=Ho3.out.fz;have k3:=Ho3.out.cell
 cases S with
 | none =>
  have hvn:=hv0 rfl
  subst hvn
  have hRn:=HR0.out rfl
  subst hRn
  have ho4:=Ho3.out.put (.slice none 0 0)
  have ho5:=ho4.put (.slice none 0 0)
  have z4:=ho4.fz
  have k4:=ho4.cell
  have hd0:=ho5.cell
  have hE5:Ext w ((w3.setCell ⟨w.heap.size+1,0,none⟩ (.slice none 0 0)).setCell ⟨w.heap.size+1,0,none⟩ (.slice none 0 0)):=(Hx3.out.setCell (p:=⟨w.heap.size+1,0,none⟩) (Nat.le_succ _) _).setCell (p:=⟨w.heap.size+1,0,none⟩) (Nat.le_succ _) _
  have HE5:=hid hE5
  clear ho4 ho5 hE5 hv0 hv1
  go_wp2_with fail
  exact bodyPost_ret (v:=.tuple #[.slice none 0 0,.bool false,.int .i64 0]) (by simp [results,Tryz.results19,go_sem,hd0]) rfl ⟨⟨_,rfl,fun _=>rfl,fun x q=>(by cases q)⟩,HE5.out⟩
 | some x =>
  obtain ⟨hsx,hxl,hxb⟩:=hv1 x rfl
  have hR9:=HR1.out x rfl
  have hsx2:=hsx
  obtain ⟨ax,cx,rfl,_,_,_⟩:=hsx.parts
  rw [zaC,hxl] at hsx2 hsx ⊢
  have ho4:=Ho3.out.put (.slice ax p.length cx)
  have hb4:=Hb3.out.past1 (c:=w.heap.size+1) 0 (by omega) (.slice ax p.length cx)
  have hE4:Ext w (w3.setCell ⟨w.heap.size+1,0,none⟩ (.slice ax p.length cx)):=Hx3.out.setCell (p:=⟨w.heap.size+1,0,none⟩) (Nat.le_succ _) _
  have hE34:Sl (w3.setCell ⟨w.heap.size+1,0,none⟩ (.slice ax p.length cx)) (.slice ax p.length cx) (zaA x):=Ho3.out.sl hsx (fun z q=>by cases q)
  have hwr:=Hwr.out (w.heap.size+1) (.slice ax p.length cx) x _ hE4 (fun V hV=>(ho4.ext hV).cell) hE34 hxl hxb
  have c0:=hb4.c0
  have c1:=hb4.c1
  have Ho4:=hid ho4;have HE4:=hid hE4;have Hwr9:=hid hwr;have HS4:=hid hE34;have HR9:=hid hR9;have Hxl:=hid hxl
  clear ho4 hb4 hE4 hE34 hwr hv0 hv1 hsx hsx2 hR9 hxl hxb
  generalize zgg x l=q at *
  go_wp2_with fail
  refine Hwr9.out.mono ?_
  rintro e w5 ⟨rfl,hx5⟩
  have ho5:=Ho4.out.ext hx5
  have z5:=ho5.fz
  have k5:=ho5.cell
  have HE5:=hid (HE4.out.trans hx5);have HS5:=hid (hx5.sl HS4.out)
  clear hx5 c0 c1
  by_cases hq:0<q
  ·have hRn:=HR9.out
   rw [if_pos hq] at hRn
   subst hRn
   have hq2:decide ((q:Int) > 0)=true:=decide_eq_true (by omega)
   have hd0:=(ho5.put (.slice none 0 0)).cell
   have HE6:=hid (HE5.out.setCell (p:=⟨w.heap.size+1,0,none⟩) (Nat.le_succ _) (.slice none 0 0))
   clear ho5
   go_wp2_with fail
   exact bodyPost_ret (v:=.tuple #[.slice none 0 0,.bool false,.int .i64 0]) (by simp [results,Tryz.results19,go_sem,hd0]) rfl ⟨⟨_,rfl,fun _=>rfl,fun x q=>(by cases q)⟩,HE6.out⟩
  ·have hRn:=HR9.out
   rw [if_neg hq] at hRn
   subst hRn
   have hq2:decide ((q:Int) > 0)=false:=decide_eq_false (by omega)
   have hd0:=(ho5.put (.slice ax p.length cx)).cell
   have HS6:=hid (ho5.sl (y:=.slice ax p.length cx) HS5.out (fun z q=>by cases q))
   have HE6:=hid (HE5.out.setCell (p:=⟨w.heap.size+1,0,none⟩) (Nat.le_succ _) (.slice ax p.length cx))
   clear ho5
   go_wp2_with fail
   exact bodyPost_ret (v:=.tuple #[.slice ax p.length cx,.bool true,.int .i64 0]) (by simp [results,Tryz.results19,go_sem,hd0]) rfl ⟨⟨_,rfl,fun q=>(by cases q),fun y e=>⟨(by obtain rfl:=Option.some.inj e;exact HS6.out),(by obtain rfl:=Option.some.inj e;exact Hxl.out)⟩⟩,HE6.out⟩
end
section
open Go.RowKit Go.Lib
attribute [local go_sem] Oper.semAt_some
theorem toList_inj {s t:ByteArray}(h:s.toList=t.toList):s=t:=by
 rw [Lib.toList_data,Lib.toList_data] at h;exact ByteArray.ext (Array.toList_inj.1 h)
end
section
open Go.RowKit Go.Lib
theorem znm (v:Value)(p:List Int)(w:World)(hx:Sl w v (zaA p))(hl:p.length≤1000000)(hne:p ≠ []) :
  Calls Tryz.prog 38 #[v] w fun e w'=>∃ u,e=.returned u∧zcM w' w.heap.size u p∧Ext w w':=by
 obtain ⟨i0,hi,hz0,hz1,hz2⟩:=info_parts zcL;obtain ⟨a,cap,rfl,hm,h1,hc⟩:=hx.parts;obtain ⟨q,hq⟩:∃ q,p[0]?=some q:=⟨_,List.getElem?_eq_getElem (List.length_pos_iff.2 hne)⟩;obtain ⟨b,off,rfl,_⟩:=hc 0 (.int .i64 q) (by unfold zaA;rw [List.getElem?_map,hq];rfl);have hcell:∀ j u,(zaA p)[j]?=some u→w.cell? ⟨b,off+j,none⟩=some u:=fun j u hu=>by
  obtain ⟨b2,off2,e,h⟩:=hc j u hu
  cases e
  exact h
 refine (AnyE.slices_Clone Tryz.lCloneP i0 (.int .i64 0) 1 8 hi hz0 hz1 hz2 rfl (by decide) Tryz.sizeOf3 b off (zaA p).length cap (zaA p) w (by omega) (by rw [zaC];unfold maxLen;omega) (by rw [zaC];omega) hcell (by simp [zaA,Value.oneCell'])).mono fun e w' ⟨v',he,ho,_,hb⟩=>⟨v',he,?_,hb⟩;rw [zaC] at ho;exact ho
theorem znn (rs:List Qw)(r:Qw):qwc (rs++[r])=qwc rs++[r.u]:=by simp [qwc]
theorem QwM.nil (w:World)(b B:Nat):QwM w b B (.slice none 0 0) []:=⟨World.ownsRow_nil w _ _ 1,fun _ h=>by cases h⟩
theorem QwM.more {w0 W V:World}{o:Obj}{v v7:Value}{rs:List Qw}{r:Qw}(hE:Ext w0 W)(h:QwM W w0.heap.size w0.heap.size v rs)(hr:zfv W w0.heap.size r.u r.x)
  (hown:V.ownsRow w0.heap.size 79 1 v7 (rs.length+1) (qwc rs++[r.u])) (hgrow:(W.alloc o).grownBy V v.ownBlock):QwM V w0.heap.size w0.heap.size v7 (rs++[r])∧Ext w0 V:=by
 have hal:=h.1.alloc o;have hkeep:∀ s:Qw,zfv W w0.heap.size s.u s.x→zfv V w0.heap.size s.u s.x:=fun s hs=>World.ownsRow.kept (World.ownsRow.alloc hs o) hgrow (zcO (World.ownsRow.alloc hs o) hal (by decide));refine ⟨⟨?_,fun s hs=>?_⟩,(hE.alloc o).grown hgrow fun k hk=>(World.ownsRow.lt hal k hk).1⟩
 ·rw [List.length_append,List.length_singleton,znn];exact hown
 ·rcases List.mem_append.1 hs with g | g
  ·exact hkeep s (h.2 s g)
  ·rw [List.mem_singleton] at g;subst g;exact hkeep s hr
end
section
open Go.RowKit Go.Lib Go.Shelf
theorem zno (v:Value)(x:List Int)(w:World)(hx:Sl w v (zaA x))(hx0:0<x.length)(hl:x.length≤1000) :
  Calls Tryz.prog 54 #[v] w fun e w'=>∃ u,e=.returned u∧zcM w' w.heap.size u x∧Ext w w':=by
 obtain ⟨i0,hi,hz0,hz1,hz2⟩:=info_parts zcL;obtain ⟨a,c,rfl,h1,h2,hc⟩:=hx.parts;obtain ⟨b,off,rfl,_⟩:=hc 0 _ (zaF hx0);have hcell:∀ j u,(zaA x)[j]?=some u→w.cell? ⟨b,off+j,none⟩=some u:=fun j u hu=>by
  obtain ⟨b2,off2,e2,h3⟩:=hc j u hu;simp only [Option.some.injEq,Addr.mk.injEq,and_true] at e2;obtain ⟨rfl,rfl⟩:=e2;exact h3
 refine (AnyE.slices_Clone Tryz.lCloneR i0 (.int .i64 0) 1 8 hi hz0 hz1 hz2 rfl (by decide) Tryz.sizeOf3 b off (zaA x).length c (zaA x) w (by omega) (by rw [zaC];unfold maxLen;omega) (by rw [zaC];omega) hcell (by simp [zaA,Value.oneCell'])).mono fun e w' ⟨v',he,ho,_,hb⟩=>⟨v',he,?_,hb⟩;rw [zaC] at ho;exact ho
theorem znp (b:Nat)(vp vx vy:Value)(p x y:List Int)(w:World)(he:Env w)(hc:w.cell? ⟨b,0,none⟩=some vp)(hp:Sl w vp (zaA p))(hx:Sl w vx (zaA x))(hy:Sl w vy (zaA y))(hlp:p.length≤1000000)(hlx:x.length≤1000000)(hly:y.length≤1000000) :
  Calls Tryz.prog 52 #[vx,vy,.pointer (some ⟨b,0,none⟩)] w fun e w'=>e=.returned (.int .i64 (ziT p x y))∧Ext w w':=by
 have hm:=ziV vp vx vy p x y w he hp hx hy hlp hlx hly;obtain ⟨ap,cp,rfl,_,_,_⟩:=hp.parts;obtain ⟨ax,cx,rfl,_,_,_⟩:=hx.parts;obtain ⟨ay,cy,rfl,_,_,_⟩:=hy.parts;generalize ziT p x y=z at *;have Hm:=hid hm;clear hm;clear hp hx hy;go_enter Tryz.func52,Tryz.ntmps52
 go_wp2_with fail
 refine Hm.out.mono ?_;rintro e w3 ⟨rfl,hx3⟩;have Hx3:=hid hx3;clear hx3;go_wp2
 go_ret
 exact ⟨rfl,Hx3.out⟩
theorem znq : ∀ args w,(callFunc 52 args).run Tryz.prog w=.ok (.enter 52 args) w:=enters_of Tryz.func52 (by kernel_rfl) rfl
def nzI (x:List Int):Bool:=x.any fun n=>n != 0
structure znr (p:List Int)(n:Nat)(x o:List Int):Prop where
 at':∃ z0 zs q,x=z0::zs∧zs.length=n∧zhe p x=0∧QF p (zfM x)∧flP p (zfM x)=q∧-1000000≤q∧q≤1000000∧zhF x (-q) (zi6 n)=some o
 ok:zhe p o=0
theorem RwM.ext {w w':World}{b B:Nat}{v:Value}{rs:List Rw}(h:RwM w b B v rs)(hx:Ext w w'):RwM w' b B v rs:=hx.rwM h
theorem RwM.more {W V:World}{o:Obj}{b B:Nat}{v v7:Value}{rs:List Rw}{r:Rw}(h:RwM W b B v rs)(hr:zcM W b r.u r.x∧r.x.length≤1000000)
  (hown:V.ownsRow B 26 1 v7 (rs.length+1) (rwc rs++[r.u])) (hgrow:(W.alloc o).grownBy V v.ownBlock):RwM V b B v7 (rs++[r]):=by
 have hal:=h.1.alloc o;have hkeep:∀ s:Rw,zcM W b s.u s.x→zcM V b s.u s.x:=fun s hs=>World.ownsRow.kept (World.ownsRow.alloc hs o) hgrow (zcO (World.ownsRow.alloc hs o) hal zlh);refine ⟨?_,fun s hs=>?_⟩
 ·rw [List.length_append,show rwc (rs++[r])=rwc rs++[r.u] by simp [rwc]];exact hown
 ·rcases List.mem_append.1 hs with q | q
  ·exact ⟨hkeep s (h.2 s q).1,(h.2 s q).2⟩
  ·rw [List.mem_singleton.1 q];exact ⟨hkeep r hr.1,hr.2⟩
theorem RwM.reads {w:World}{b B:Nat}{v:Value}{rs:List Rw}(h:RwM w b B v rs):Mat w v (rs.map Rw.x):=by
 refine ⟨rwc rs,by simp [rwc],za8 h.1,fun i u hu=>?_⟩;unfold rwc at hu;rw [List.getElem?_map] at hu
 cases hr:rs[i]? with
 | none=>rw [hr] at hu;cases hu
 | some r =>
  rw [hr] at hu
  obtain rfl:=Option.some.inj hu
  rw [List.getD_eq_getElem?_getD,List.getElem?_map,hr]
  exact (h.2 r (List.mem_of_getElem? hr)).1.sl
theorem RwM.above {w V:World}{b B gi:Nat}{v:Value}{rs:List Rw}(h:RwM w b B v rs)(hg:w.grownBy V (some gi))(hb:gi<b)(hB:gi<B):RwM V b B v rs :=
 ⟨zlz h.1 hg hB,fun r hr=>⟨zlz (h.2 r hr).1 hg hb,(h.2 r hr).2⟩⟩
theorem zns {os:List (List Int)}{i:Nat}{o:List Int}(h:os[i]?=some o):(os.take (i+1)).filter nzI=(os.take i).filter nzI++if nzI o=true then [o] else []:=by
 obtain ⟨h1,h2⟩:=List.getElem?_eq_some_iff.1 h;rw [List.take_succ_eq_append_getElem h1,h2,List.filter_append];congr 1;by_cases hz:nzI o=true
 ·rw [if_pos hz,List.filter_cons_of_pos hz];rfl
 ·rw [if_neg hz,List.filter_cons_of_neg hz];rfl
theorem znt (vp vq vl:Value)(p:List Int)(n L:Nat)(l os fin:List (List Int))(key:List Int→Rat)(w:World)(he:Env w)(hp:Sl w vp (zaA p))(hq:Sl w vq (zaA (zi6 n)))(hl:Mat w vl l)(hpn:p.length=n+1)(hpr:Pr p (n+1))(hL:l.length=L)(hL9:L≤12)(hos:os.length=L)
  (h1:zhe p (zi6 n)=0) (h2:zhv p (zi6 n)=1) (h3:zgW p l=0) (hred:∀ (i:Nat)(x o:List Int),l[i]?=some x→os[i]?=some o→znr p n x o) (hne:os.filter nzI ≠ [])
  (hkey:∀ x∈os.filter nzI,∀ y∈os.filter nzI,(ziT p x y<0 ↔ key x<key y)) (hfin:∀ d:List (List Int),d.Perm (os.filter nzI)→(d.Pairwise fun x y=>key x≤key y)→d=fin) (hcp:∀ j,j<fin.length→zj6 fin j=true) :
  Calls Tryz.prog 23 #[vp,vq,vl] w fun e w'=>∃ vp' vn',e=.returned (.tuple #[.agg #[vp',vn'],.int .i64 0])∧Sl w' vp' (zaA p)∧Mat w' vn' (fin++[zi6 n])∧Ext w w':=by
 obtain ⟨j0,hj,hy0,hy1,hy2⟩:=info_parts zkS;have hol:(zi6 n).length=n+1:=zi8 n;have hp9:p.length≤6:=by
  have:=(zcK (zhr h1).1).2.1;exact this
 have hp0:0<p.length:=by omega
 have hrow:∀ i,(l.getD i []).length≤1000000:=fun i=>by
  rw [List.getD_eq_getElem?_getD]
  cases h:l[i]? with
  | none=>exact Nat.zero_le _
  | some r =>
   have hi:=(List.getElem?_eq_some_iff.1 h).1
   obtain ⟨o,ho⟩:∃ o,os[i]?=some o:=⟨_,List.getElem?_eq_getElem (by omega)⟩
   obtain ⟨z0,zs,q,rfl,hz,_⟩:=(hred i r o h ho).at'
   simp only [Option.getD_some,List.length_cons]
   omega
 have hck:=fun W (hE:Ext w W)=>zhf vp vq p (zi6 n) W (hE.sl hp) (hE.sl hq) (by omega) (by omega);rw [h1] at hck;have hsg:=fun W (hE:Ext w W)=>zhw vp vq p (zi6 n) W (he.ext hE) (hE.sl hp) (hE.sl hq) (by omega) (by omega);rw [h1,h2] at hsg;have hca:=fun W (hE:Ext w W)=>zhd vp vl p l W (hE.sl hp) (hE.mat hl) (by omega) (by omega) hrow;rw [h3] at hca;have hrd:∀ (i:Nat)(x o:List Int),l[i]?=some x→os[i]?=some o→∀ u W,Ext w W→Sl W u (zaA x)→Calls Tryz.prog 49 #[vp,u,vq] W fun e w'=>∃ v,e=.returned (.tuple #[v,.int .i64 0])∧zcM w' W.heap.size v o∧Ext W w':=fun i x o hx ho u W hE hu=>by
  obtain ⟨z0,zs,q,rfl,hz,r1,r2,r3,r4,r5,r6⟩:=(hred i x o hx ho).at';exact ziB vp u vq p z0 zs o q W (he.ext hE) (hE.sl hp) hu (by rw [hz];exact hE.sl hq) r1 (by rw [hz];exact h1) (by rw [hz];exact hpr) r2 r3 r4 r5 (by rw [hz];exact r6)
 have hok:∀ o∈os,o.length=n+1:=fun o ho=>by
  obtain ⟨i,hi⟩:=List.mem_iff_getElem?.1 ho;have hl9:=(List.getElem?_eq_some_iff.1 hi).1;obtain ⟨x,hx⟩:∃ x,l[i]?=some x:=⟨_,List.getElem?_eq_getElem (by omega)⟩;have:=(hred i x o hx hi).ok;have:=(zhq (zhr this).2).1;omega
 have hcl:=fun W (hE:Ext w W)=>zno vq (zi6 n) W (hE.sl hq) (by omega) (by unfold zi6;rw [List.length_cons,List.length_replicate];omega);have hcpp:=fun W (hE:Ext w W)=>znm vp p W (hE.sl hp) (by omega) (fun q=>by rw [q] at hp0;simp at hp0);have hpsl:=fun W (hE:Ext w W)=>hE.sl hp;have hen:=fun W (hE:Ext w W)=>he.ext hE;obtain ⟨ap,cp,rfl,_,_,_⟩:=hp.parts;obtain ⟨aq,cq,rfl,_,_,_⟩:=hq.parts;obtain ⟨vs,hvl,hvs,hrows⟩:=hl;obtain ⟨am,cm,rfl,_,_,hcm⟩:=hvs.parts;simp only [zaC] at *;rw [hvl,hL] at hca ⊢;rw [hpn,hol] at hck hsg hrd ⊢;rw [hpn] at hca hcpp hpsl;rw [hol] at hcl;have hX0:Ext w ((w.alloc (.cells #[.slice ap (n+1) cp] 29)).alloc (.cells #[.slice none 0 0,.slice none 0 0] 32)):=((Ext.refl w).alloc _).alloc _;have hoA:One 29 ((w.alloc (.cells #[.slice ap (n+1) cp] 29)).alloc (.cells #[.slice none 0 0,.slice none 0 0] 32)) w.heap.size (.slice ap (n+1) cp):=One.ext ((Ext.refl _).alloc _) (One.new 29 w (.slice ap (n+1) cp));have hbA:=zmX.new 32 (w.alloc (.cells #[.slice ap (n+1) cp] 29)) (.slice none 0 0) (.slice none 0 0);rw [World.size_alloc] at hbA;have c0:=hoA.cell;have HX0:=hid hX0;have HbA:=hid hbA;have HoA:=hid hoA;have Hck:=hid hck;have Hsg:=hid hsg;have Hca:=hid hca;have Hrd:=hid hrd;have Hok:=hid hok;have Hcl:=hid hcl;have Hcpp:=hid hcpp;have Hpsl:=hid hpsl;have Hen:=hid hen;have Hvl:=hid hvl;have Hrows:=hid hrows;have Hcm:=hid hcm;have HL:=hid hL;have Hos:=hid hos;have Hne:=hid hne;have Hkey:=hid hkey;have Hfin:=hid hfin;have Hcp:=hid hcp;clear hX0 hbA hoA hck hsg hca hrd hok hcl hcpp hpsl hen hvl hrows hcm hL hos hne hkey hfin hcp;clear hvs he hrow hred h1 h2 h3 hpr;go_enter Tryz.func23,Tryz.ntmps23
 go_wp2_with fail
 refine (Hck.out _ HX0.out).mono ?_;rintro e w1 ⟨rfl,hx1⟩;have Hb1:=hid (HbA.out.ext hx1);have Ho1:=hid (HoA.out.ext hx1);have Hx1:=hid (HX0.out.trans hx1);clear hx1 c0;have c0:=Ho1.out.cell;go_wp2_with fail
 refine (Hsg.out w1 Hx1.out).mono ?_;rintro e w2 ⟨rfl,hx2⟩;have Hb2:=hid (Hb1.out.ext hx2);have Ho2:=hid (Ho1.out.ext hx2);have Hx2:=hid (Hx1.out.trans hx2);clear hx2 c0;have c0:=Ho2.out.cell;go_wp2_with fail
 refine (Hca.out w2 Hx2.out).mono ?_;rintro e w3 ⟨rfl,rfl⟩;go_wp2_with fail
 clear c0;go_loopw [12,46] (fun v12 v46 wr=>∃ (i:Nat)(rs:List Rw),v46=.int .i64 i∧i≤L∧Hid (RwM wr w2.heap.size w2.heap.size v12 rs)∧Hid (rs.map Rw.x=(os.take i).filter nzI)∧Hid (Ext w2 wr)) (fun _ v46 _=>L - (za6 v46).toNat)
 case atStart=>exact ⟨0,[],rfl,Nat.zero_le _,hid ⟨World.ownsRow_nil _ _ _ 1,fun r h=>by cases h⟩,hid rfl,hid (Ext.refl _)⟩
 case round =>
  obtain ⟨i,rs,rfl,hiL,HR,HM,HE⟩:=hrel;have hrl:rs.length≤12:=by
   have h:=congrArg List.length HM.out;rw [List.length_map] at h;have h5:=List.length_filter_le nzI (os.take i);rw [List.length_take] at h5;have:=Hos.out;omega
  by_cases hin:i<L
  ·obtain ⟨x,hx⟩:∃ x,l[i]?=some x:=⟨_,List.getElem?_eq_getElem (by have:=HL.out;omega)⟩;obtain ⟨o,ho⟩:∃ o,os[i]?=some o:=⟨_,List.getElem?_eq_getElem (by have:=Hos.out;omega)⟩;obtain ⟨u,hu⟩:∃ u,vs[i]?=some u:=⟨_,List.getElem?_eq_getElem (by rw [Hvl.out,HL.out];exact hin)⟩;obtain ⟨bl,off,rfl,hcu⟩:=Hcm.out i u hu;have hru:=Hrows.out i u hu;rw [List.getD_eq_getElem?_getD,hx] at hru;simp only [Option.getD_some] at hru;have hEw:=Hx2.out.trans HE.out;have hr1:=Hrd.out i x o hx ho u wr hEw (hEw.sl hru);have hfs:=zns ho;have hool:=Hok.out o (List.mem_of_getElem? ho);obtain ⟨ax,cx,rfl,_,_,_⟩:=hru.parts;generalize (zaA x).length=lx at *;have hcw:=hEw.cell hcu;have c0:=(Ho2.out.ext HE.out).cell;have hk1:(0:Int)≤(i:Int):=(by omega);have hk2:(i:Int)<(L:Int):=(by omega);obtain ⟨a12,c12,e12⟩:=zcN HR.out.1;subst e12;have Hr1:=hid hr1;have Hfs:=hid hfs;have Hool:=hid hool;have HEw:=hid hEw;clear hr1 hfs hool hEw;clear hx ho hu hru hcu;go_wp2_with fail
   refine Hr1.out.mono ?_;rintro e w5 ⟨v5,rfl,ho5,hx5⟩;obtain ⟨a5,c5,e5⟩:=zcN ho5;subst e5;have hiz:=zja _ o w5 ho5.sl (by have:=Hool.out;omega);have ho5':=za7 ho5 HE.out.size;have hR5:=HR.out.ext hx5;have HE5:=hid (HE.out.trans hx5);have hzo:(o.any fun n=>n != 0)=nzI o:=rfl;rw [hzo] at hiz;have Hiz:=hid hiz;have Ho5':=hid ho5';have HR5:=hid hR5;clear hiz ho5' hR5;clear hzo ho5 hx5 hcw c0
   cases hb:nzI o
   ·rw [hb] at Hiz;have hfs:=Hfs.out;rw [hb,if_neg Bool.false_ne_true,List.append_nil] at hfs;have Hfs:=hid hfs;clear hfs;clear hb;go_wp2_with fail
    refine Hiz.out.mono ?_;rintro e w6 ⟨rfl,hx6⟩;have Hx6:=hid hx6;clear hx6;go_wp2_with fail
    go_roundw
    case rel=>exact ⟨i+1,rs,by go_num,hin,hid (HR5.out.ext Hx6.out),hid (by rw [Hfs.out];exact HM.out),hid (HE5.out.trans Hx6.out)⟩
    case measure=>simp [za6];omega
   ·rw [hb] at Hiz;have hfs:=Hfs.out;rw [hb,if_pos rfl] at hfs;have Hfs:=hid hfs;clear hfs;clear hb;go_wp2_with fail
    refine Hiz.out.mono ?_;rintro e w6 ⟨rfl,hx6⟩;have HR6:=hid (HR5.out.ext hx6);have Ho6:=hid (hx6.own Ho5'.out);have HE6:=hid (HE5.out.trans hx6);have hqo:=HR6.out.1;have hm3:rs.length+1≤maxLen:=(by unfold maxLen;omega);have hm4:(rs.length+1) * 24≤140737488355328:=(by omega);have hbase:=HE6.out.size;clear hx6;go_wp2_with (at_builtin;refine wpList_append_own _ rfl _ _ 30 rfl w2.heap.size 26 j0 (.slice none 0 0) 1 24 Tryz.underlying30 hj hy0 hy1 hy2 rfl (by decide) _ _ _ rfl (hqo.alloc _) ⟨w6.heap.size,0,none⟩ 1 1 [.slice a5 o.length c5] rfl rfl (cell_one_new _ _ _) (by simp [Value.oneCell']) hm3 hm4 (by rw [World.size_alloc];omega) ?_;intro v7 V7 hown7 hgrow7 _)
    go_roundw
    case rel =>
     have hmo:=HR6.out.more (r:=⟨o,.slice a5 o.length c5,rfl⟩) ⟨Ho6.out,by show o.length≤1000000;have:=Hool.out;omega⟩ hown7 hgrow7;refine ⟨i+1,rs++[⟨o,.slice a5 o.length c5,rfl⟩],by go_num,hin,hid hmo,hid (by rw [Hfs.out,List.map_append,HM.out];rfl),hid ((HE6.out.alloc _).grown hgrow7 fun q hq=>(World.ownsRow.lt hqo q hq).1)⟩
    case measure=>simp [za6];omega
  ·have hiL2:i=L:=(by omega);have hni:¬ (i:Int)<(L:Int):=(by omega);have hM:=HM.out;rw [List.take_of_length_le (by have:=Hos.out;omega)] at hM;have hr0:0<rs.length:=by
    rcases Nat.eq_zero_or_pos rs.length with q | q
    ·rw [List.eq_nil_of_length_eq_zero q] at hM;exact absurd hM.symm Hne.out
    ·exact q
   obtain ⟨g,c12,e12,hg1,hg2⟩:=zk7 HR.out.1 hr0;subst e12;have hmx:∀ r∈rs,r.x∈os.filter nzI:=fun r hr=>by rw [← hM];exact List.mem_map_of_mem hr
   have hso:=zdh Rw.u (fun r=>key r.x) 52 #[.pointer (some ⟨w.heap.size,0,none⟩)] w2.heap.size g c12 rs wr HR.out.1 hrl (fun r=>r.hu) znq fun W hW x hx y hy=>by
    have hE9:Ext w2 W:=HE.out.grown hW fun k hk=>by cases hk;exact hg1
    have kx:=(World.ownsRow.kept (HR.out.2 x hx).1 hW (zcO (HR.out.2 x hx).1 HR.out.1 zlh));have ky:=(World.ownsRow.kept (HR.out.2 y hy).1 hW (zcO (HR.out.2 y hy).1 HR.out.1 zlh));have hxx:=znp w.heap.size _ x.u y.u p x.x y.x W (Hen.out W (Hx2.out.trans hE9)) (Ho2.out.ext hE9).cell (Hpsl.out W (Hx2.out.trans hE9)) (za8 kx) (za8 ky) (by omega) (HR.out.2 x hx).2 (HR.out.2 y hy).2;refine hxx.mono ?_;rintro e W' ⟨rfl,hxw⟩;exact ⟨⟨_,rfl,Hkey.out x.x (hmx x hx) y.x (hmx y hy)⟩,hxw⟩
   have HM:=hid hM;have Hso:=hid hso;clear hM hso;clear hmx;go_wp2_with fail
   refine Hso.out.mono ?_;rintro e w5 ⟨rfl,d',hI,hpw⟩;have hE5:Ext w2 w5:=HE.out.grown hI.only fun k hk=>by cases hk;exact hg1
   have hdl:=hI.len;have hdx:d'.map Rw.x=fin:=Hfin.out _ (by rw [← HM.out];exact hI.perm.map _) (by rw [List.pairwise_map];exact hpw);have hR5:RwM w5 w2.heap.size w2.heap.size (.slice (some ⟨g,0,none⟩) d'.length c12) d':=⟨by rw [hdl];exact hI.own,fun r hr=>by
    have hr2:=hI.perm.mem_iff.1 hr;exact ⟨World.ownsRow.kept (HR.out.2 r hr2).1 hI.only (zcO (HR.out.2 r hr2).1 HR.out.1 zlh),(HR.out.2 r hr2).2⟩⟩
   have hall:zj7 Rw.x d' d'.length=d':=by
    rw [zj8 Rw.x d' d'.length (Nat.le_refl _),List.take_length];intro j hj;rw [hdx];exact Hcp.out j (by rw [← hdx,List.length_map];exact hj)
   have hcc:=zjK hR5 (by omega);rw [hall,hdl] at hcc;have hd12:d'.length≤12:=(by omega);have HE5:=hid hE5;have Hdx:=hid hdx;have Hcc:=hid hcc;clear hE5 hdx hcc;clear hI hpw hR5 hall hdl;go_wp2_with fail
   refine Hcc.out.mono ?_;rintro e w6 ⟨v6,rfl,hR6,hE6'⟩;have hE6:=hE6' w2 HE5.out rfl;obtain ⟨a6,c6,e6⟩:=zcN hR6.1;subst e6;have hcl6:=Hcl.out w6 (Hx2.out.trans hE6);have HR6:=hid hR6;have HE6:=hid hE6;have Hcl6:=hid hcl6;clear hR6 hE6 hcl6;clear hE6';go_wp2_with fail
   refine Hcl6.out.mono ?_;rintro e w7 ⟨u7,rfl,ho7,hx7⟩;have hs7:∃ a c,u7=.slice a (n+1) c:=by
    obtain ⟨a,c,e⟩:=zcN ho7;rw [hol] at e;exact ⟨a,c,e⟩
   obtain ⟨a7,c7,rfl⟩:=hs7;have HR7:=hid (HR6.out.ext hx7);have HO7:=hid (za7 ho7 HE6.out.size);have HE7:=hid (HE6.out.trans hx7);have hqo:=HR7.out.1;have hm3:d'.length+1≤maxLen:=(by unfold maxLen;omega);have hm4:(d'.length+1) * 24≤140737488355328:=(by omega);have hbase:=HE7.out.size;have hgt:decide ((d'.length:Int)+1 > 60)=false:=decide_eq_false (by omega);have hgt2:decide (60<(d'.length:Int)+1)=false:=decide_eq_false (by omega);clear hx7 ho7;go_wp2_with (at_builtin;refine wpList_append_own _ rfl _ _ 30 rfl w2.heap.size 26 j0 (.slice none 0 0) 1 24 Tryz.underlying30 hj hy0 hy1 hy2 rfl (by decide) _ _ _ rfl (hqo.alloc _) ⟨w7.heap.size,0,none⟩ 1 1 [.slice a7 (n+1) c7] rfl rfl (cell_one_new _ _ _) (by simp [Value.oneCell']) hm3 hm4 (by rw [World.size_alloc];omega) ?_;intro v8 V8 hown8 hgrow8 _;have hE8:Ext w2 V8:=(HE7.out.alloc _).grown hgrow8 fun q hq=>(World.ownsRow.lt hqo q hq).1;have c0:=(Ho2.out.ext hE8).cell;obtain ⟨a8,c8,e8⟩:=zcN hown8;subst e8)
   have hmo:=HR7.out.more (r:=⟨zi6 n,.slice a7 (n+1) c7,rfl⟩) ⟨HO7.out,by show (zi6 n).length≤1000000;rw [hol];omega⟩ hown8 hgrow8;have hcp8:=Hcpp.out V8 (Hx2.out.trans hE8);have Hmo:=hid hmo;have HE8:=hid hE8;have Hcp8:=hid hcp8;clear hmo hE8 hcp8;clear hown8 hgrow8 hqo hm3 hm4 hbase c0;refine Hcp8.out.mono ?_;rintro e w9 ⟨u9,rfl,ho9,hx9⟩;have hs9:∃ a c,u9=.slice a (n+1) c:=by
    obtain ⟨a,c,e⟩:=zcN ho9;rw [hpn] at e;exact ⟨a,c,e⟩
   obtain ⟨a9,c9,rfl⟩:=hs9;have hb9:=Hb2.out.ext (HE8.out.trans hx9);have hmo9:=Hmo.out.ext hx9;have hE9:=Hx2.out.trans (HE8.out.trans hx9);have c0:=hb9.c0;have c1:=hb9.c1;have z0:=hb9.fz 0;have z1:=hb9.fz 1;have hb10:=hb9.put (.slice a9 (n+1) c9) (.slice a8 (d'.length+1) c8);have hd0:=hb10.c0;have hd1:=hb10.c1;have hg10:=(zg4 w9 ⟨w.heap.size+1,0,none⟩ (.slice a9 (n+1) c9)).trans (zg4 (w9.setCell ⟨w.heap.size+1,0,none⟩ (.slice a9 (n+1) c9)) ⟨w.heap.size+1,1,none⟩ (.slice a8 (d'.length+1) c8));have hlt:=Hb2.out.lt;have hm10:=hmo9.above hg10 hlt hlt;have ho10:=zlz ho9 hg10 (Nat.lt_of_lt_of_le hlt HE8.out.size);have hE10:=(hE9.setCell (p:=⟨w.heap.size+1,0,none⟩) (Nat.le_succ _) (.slice a9 (n+1) c9)).setCell (p:=⟨w.heap.size+1,1,none⟩) (Nat.le_succ _) (.slice a8 (d'.length+1) c8);have Hm10:=hid hm10.reads;have Ho10:=hid (za8 ho10);have HE10:=hid hE10;clear hE10;clear hb9 hmo9 hE9 hb10 hg10 hm10 ho10 ho9 hx9;go_wp2_with fail
   exact bodyPost_ret (v:=.tuple #[.agg #[.slice a9 (n+1) c9,.slice a8 (d'.length+1) c8],.int .i64 0]) (by simp [results,Tryz.results23,go_sem,hd0,hd1]) rfl ⟨_,_,rfl,Ho10.out,by have:=Hm10.out;rw [List.map_append,Hdx.out] at this;exact this,HE10.out⟩
end
section
open Go.RowKit Go.Lib
def znu (p:List Nat):List Int:=p.map fun (n:Nat)=>(n:Int)
theorem znv : ∀ (os:List Obj)(w:World)(i:Nat),i<os.length→(os.foldl World.alloc w).heap[w.heap.size+i]?=os[i]?
 | [],_,_,h=>by simp at h
 | o::r,w,0,_=>by
  have keep:∀ (l:List Obj)(v:World)(k:Nat),k<v.heap.size→(l.foldl World.alloc v).heap[k]?=v.heap[k]?:=by
   intro l;induction l with
   | nil=>intro v k _;rfl
   | cons a l ih =>
    intro v k hk
    rw [List.foldl_cons,ih (v.alloc a) k (by rw [World.size_alloc];omega)]
    exact Below.heap_alloc v a k hk
  rw [List.foldl_cons,keep r (w.alloc o) _ (by rw [World.size_alloc];omega)];exact World.alloc_heap_new w o
 | o::r,w,i+1,h=>by
  rw [List.foldl_cons];have:=znv r (w.alloc o) i (by simpa using h);rw [World.size_alloc] at this;rw [show w.heap.size+(i+1)=w.heap.size+1+i by omega,this];rfl
theorem znw (w:World):∀ os:List Obj,Ext w (os.foldl World.alloc w):=by
 have:∀ (os:List Obj)(v:World),Ext w v→Ext w (os.foldl World.alloc v):=by
  intro os;induction os with
  | nil=>intro v h;exact h
  | cons o r ih=>intro v h;exact ih _ (h.alloc o)
 exact fun os=>this os w (Ext.refl w)
end
end Go.Proofs.YtkdgmahilfnnmaaGreatDoor
