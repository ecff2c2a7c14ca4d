/- A grid of smith's in memory: its rows' cells; take, turn and the exchange of rows in it. Walk: smith's finish: a pivot made positive, the rows above it reduced. Walk: smith's hermitian: the Hermite form of a grid in its place, step by step as XEpP's outZ. -/
import Derived.Test.YtipkdebkdnbieaaGreatDoorPe20
import Derived.Deep.RegionHeld3
import Derived.Deep.DeepCutAuto
import Derived.Deep.RegionLaw
import Derived.BigRegion
set_option maxRecDepth 100000
set_option maxHeartbeats 8000000
namespace Go.Proofs.YtipkdebkdnbieaaGreatDoor
open Go.RowKit Go.Lib Go.Shelf
def GZ (W0:World)(B gs cap:Nat)(g:List (List Int))(w:World):Prop :=
 ∃ ls:List (GR Int),Gd zlr 100 129 1 w B gs cap ls∧ls.map GR.x=g∧W0.heap.size≤B∧Ext W0 w
theorem zl4 {V w w':World}{a1 a2 a3 a4:Addr}{u1 u2 u3 u4:Value}(h:Ext V w∧w.cell? a1=some u1∧w.cell? a2=some u2∧w.cell? a3=some u3∧w.cell? a4=some u4)(hx:Ext w w') :
  Ext V w'∧w'.cell? a1=some u1∧w'.cell? a2=some u2∧w'.cell? a3=some u3∧w'.cell? a4=some u4:=⟨h.1.trans hx,hx.cell h.2.1,hx.cell h.2.2.1,hx.cell h.2.2.2.1,hx.cell h.2.2.2.2⟩
theorem zl5 : 100 ≠ 129:=by decide
section
variable {W0 w : World} {B gs cap : Nat} {g : List (List Int)}
theorem GZ.ext {w':World}(h:GZ W0 B gs cap g w)(hx:Ext w w'):GZ W0 B gs cap g w':=by
 obtain ⟨ls,h1,h2,h3,h4⟩:=h;exact ⟨ls,h1.ext hx,h2,h3,h4.trans hx⟩
theorem GZ.x (h:GZ W0 B gs cap g w):Ext W0 w:=by
 obtain ⟨_,_,_,_,h4⟩:=h;exact h4
theorem zl6 {ls:List (GR Int)}{i:Nat}{r:List Int}(h:(ls.map GR.x)[i]?=some r):∃ e,ls[i]?=some e∧e.x=r:=by
 rw [List.getElem?_map] at h
 cases hl:ls[i]? with
 | none=>rw [hl] at h;cases h
 | some e=>rw [hl] at h;exact ⟨e,rfl,Option.some.inj h⟩
theorem GZ.row (h:GZ W0 B gs cap g w){i:Nat}{r:List Int}(hr:g[i]?=some r) :
  ∃ gi ci,w.cell? ⟨gs,i,none⟩=some (.slice (some ⟨gi,0,none⟩) r.length ci)∧(∀ c,c<r.length→w.cell? ⟨gi,c,none⟩=some (.string (I (zas r c))))∧w.ownsRow B 100 1 (.slice (some ⟨gi,0,none⟩) r.length ci) r.length (zf1 r)∧gs ≠ gi:=by
 obtain ⟨ls,hd,rfl,hB,hx⟩:=h;obtain ⟨e,he,rfl⟩:=zl6 hr;have ho:=hd.rows e (List.mem_of_getElem? he);rw [zlt] at ho;exact ⟨e.g,e.c,hd.at he,fun c hc=>zkR ho (zlu hc),ho,hd.gs_ne zl5 (List.mem_of_getElem? he)⟩
theorem GZ.frozen (h:GZ W0 B gs cap g w)(i:Nat):w.frozen? ⟨gs,i,none⟩=false:=by
 obtain ⟨ls,hd,_⟩:=h;exact World.ownsRow.frozenAt hd.own i
theorem GZ.take (he0:Env W0)(h:GZ W0 B gs cap g w){i t:Nat}{r s:List Int}(hr:g[i]?=some r)(hs:g[t]?=some s)(hne:i ≠ t)(hl:r.length≤s.length)(hl2:s.length≤1000) :
  ∃ gi ci gt ct,w.cell? ⟨gs,i,none⟩=some (.slice (some ⟨gi,0,none⟩) r.length ci)∧w.cell? ⟨gs,t,none⟩=some (.slice (some ⟨gt,0,none⟩) s.length ct) ∧
   ∀ (q:Int) W,Ext w W→Fit q→(∀ z∈r,Fit z)→(∀ z∈s,Fit z)→(∀ z∈s,Fit (q * z))→Calls Tryz.prog 116 #[.slice (some ⟨gi,0,none⟩) r.length ci,.slice (some ⟨gt,0,none⟩) s.length ct,.string (I q)] W fun e w'=>e=.returned (.tuple #[])∧GZ W0 B gs cap (g.set i (ziC r s q)) w':=by
 obtain ⟨ls,hd,rfl,hB,hx⟩:=h;obtain ⟨e,hE,rfl⟩:=zl6 hr;obtain ⟨f,hF,rfl⟩:=zl6 hs;refine ⟨e.g,e.c,f.g,f.c,hd.at hE,hd.at hF,fun q W hW fq fr fs fm=>?_⟩;have hdW:=hd.ext hW;have ho:=hdW.rows e (List.mem_of_getElem? hE);have ho2:=hdW.rows f (List.mem_of_getElem? hF);have hap:=hdW.apart i t e f hE hF hne;have hgB:=(hdW.rowB (List.mem_of_getElem? hE)).1;rw [zlt] at ho ho2;refine (zlv e.g e.x.length f.x.length e.c (.slice (some ⟨f.g,0,none⟩) f.x.length f.c) q e.x f.x W0 W B he0 (hx.trans hW) hB rfl rfl hl hl2 ho (fun W2 hg=>zan (World.ownsRow.kept ho2 hg (.inr fun z=>hap (Option.some.inj z).symm))) fq fr fs fm).mono ?_;rintro e' w' ⟨rfl,ho',hg'⟩;have hlen:(ziC e.x f.x q).length=e.x.length:=by unfold ziC;rw [List.length_zipWith];omega
 refine ⟨rfl,ls.set i { e with x:=ziC e.x f.x q },hdW.upd zl5 hE hg' hlen (by rw [zlt];exact ho'),by rw [List.map_set],hB,zlq hg' (hx.trans hW) (Nat.le_trans hB hgB)⟩
theorem GZ.turn (h:GZ W0 B gs cap g w){i:Nat}{r:List Int}(hr:g[i]?=some r)(hl2:r.length≤1000)(fr:∀ z∈r,Fit z) :
  ∃ gi ci,w.cell? ⟨gs,i,none⟩=some (.slice (some ⟨gi,0,none⟩) r.length ci) ∧
   ∀ W,Ext w W→Calls Tryz.prog 82 #[.slice (some ⟨gi,0,none⟩) r.length ci] W fun e w'=>e=.returned (.tuple #[])∧GZ W0 B gs cap (g.set i (ziD r)) w':=by
 obtain ⟨ls,hd,rfl,hB,hx⟩:=h;obtain ⟨e,hE,rfl⟩:=zl6 hr;refine ⟨e.g,e.c,hd.at hE,fun W hW=>?_⟩;have hdW:=hd.ext hW;have ho:=hdW.rows e (List.mem_of_getElem? hE);have hgB:=(hdW.rowB (List.mem_of_getElem? hE)).1;rw [zlt] at ho;refine (zl3 e.g 0 e.x.length e.x.length e.c e.c e.x W B rfl (by omega) hl2 ho fr).mono ?_;rintro e' w' ⟨rfl,ho',hg'⟩;rw [zl1] at ho';have hlen:(ziD e.x).length=e.x.length:=by unfold ziD;rw [List.length_map]
 exact ⟨rfl,ls.set i { e with x:=ziD e.x },hdW.upd zl5 hE hg' hlen (by rw [zlt];exact ho'),by rw [List.map_set],hB,zlq hg' (hx.trans hW) (Nat.le_trans hB hgB)⟩
theorem GZ.swap (h:GZ W0 B gs cap g w){i j:Nat}{r s:List Int}(hr:g[i]?=some r)(hs:g[j]?=some s) :
  ∃ gi ci gj cj,w.cell? ⟨gs,i,none⟩=some (.slice (some ⟨gi,0,none⟩) r.length ci)∧w.cell? ⟨gs,j,none⟩=some (.slice (some ⟨gj,0,none⟩) s.length cj) ∧
   GZ W0 B gs cap (swp g i j) ((w.setCell ⟨gs,i,none⟩ (.slice (some ⟨gj,0,none⟩) s.length cj)).setCell ⟨gs,j,none⟩ (.slice (some ⟨gi,0,none⟩) r.length ci)):=by
 obtain ⟨ls,hd,rfl,hB,hx⟩:=h;obtain ⟨e,hE,rfl⟩:=zl6 hr;obtain ⟨f,hF,rfl⟩:=zl6 hs;obtain ⟨h1,h2⟩:=hd.swap zl5 hE hF;refine ⟨e.g,e.c,f.g,f.c,hd.at hE,hd.at hF,(ls.set i f).set j e,h1,?_,hB,zlq h2 hx (Nat.le_trans hB hd.gsB.1)⟩;rw [List.map_set,List.map_set];exact (zix hr hs).symm
end
theorem zl7 (g:List (List Int))(t c lo n i:Nat):(ziF g t c lo n)[i]?=(g[i]?).map fun r=>if lo≤i∧i<n then ziC r (g.getD t []) (fdv (r.getD c 0) (at2 g t c)) else r:=by unfold ziF;rw [List.getElem?_mapIdx]
theorem zl8 (g:List (List Int))(t c lo n:Nat):(ziF g t c lo n).length=g.length:=by unfold ziF;simp
theorem zl9 (g:List (List Int))(t c lo:Nat):ziF g t c lo lo=g:=by
 apply List.ext_getElem?;intro i;rw [zl7]
 cases g[i]? with
 | none=>rfl
 | some r=>simp only [Option.map_some];rw [if_neg (by omega)]
theorem zlA {g:List (List Int)}{t c lo n:Nat}{r:List Int}(hlo:lo≤n)(hr:g[n]?=some r):(ziF g t c lo n).set n (ziC r (g.getD t []) (fdv (r.getD c 0) (at2 g t c)))=ziF g t c lo (n+1):=by
 have hn:=(List.getElem?_eq_some_iff.1 hr).1;apply List.ext_getElem?;intro i;rw [List.getElem?_set,zl8,zl7,zl7];by_cases e:n=i
 ·subst e;rw [if_pos rfl,if_pos hn,hr];simp only [Option.map_some];rw [if_pos (by omega)]
 ·rw [if_neg e]
  cases g[i]? with
  | none=>rfl
  | some r=>simp only [Option.map_some];congr 1;by_cases q:lo≤i∧i<n <;> simp [q] <;> omega
theorem zlB {g:List (List Int)}{t c lo n i:Nat}{r:List Int}(hr:g[i]?=some r)(h:¬ (lo≤i∧i<n)):(ziF g t c lo n)[i]?=some r:=by
 rw [zl7,hr];simp only [Option.map_some];rw [if_neg h]
theorem zlC {z:Int}(h:z.natAbs<zi2):Fit z:=Nat.le_trans (Dec.nDigits_le (k:=zi1) (by unfold zi1;omega) (by unfold zi2 at h;exact h)) (by unfold zi1;omega)
theorem zlD {g:List (List Int)}(h:okG g=true){i:Nat}{r:List Int}(hr:g[i]?=some r):∀ z∈r,z.natAbs<zi2:=fun z hz=>by
 unfold okG at h;rw [List.all_eq_true] at h;have h2:=h r (List.mem_of_getElem? hr);rw [List.all_eq_true] at h2;have h3:=h2 z hz;unfold okZ at h3;exact of_decide_eq_true h3
theorem zlE {a b:Int}(_hb:b ≠ 0):(fdv a b).natAbs≤a.natAbs:=by
 unfold fdv;split
 ·exact Int.natAbs_ediv_le_natAbs a b
 ·have:=Int.natAbs_ediv_le_natAbs (-a) (-b);rwa [Int.natAbs_neg a] at this
theorem zlF {b q:Int}(hq:q.natAbs<zi2)(hb:b.natAbs<zi2):Fit (q * b):=by
 refine Nat.le_trans (Dec.nDigits_le (k:=zi1+zi1) (by unfold zi1;omega) ?_) (by unfold zi1;omega);unfold zi2 at hq hb;rw [Int.natAbs_mul,Nat.pow_add];exact Nat.mul_lt_mul'' hq hb
def zlG (g:List (List Int))(n:Nat):Prop:=∀ r∈g,r.length=n
theorem zlH {a b:List Int}(q:Int)(h:a.length≤b.length):(ziC a b q).length=a.length:=by unfold ziC;rw [List.length_zipWith];omega
theorem zlI (a:List Int):(ziD a).length=a.length:=by unfold ziD;rw [List.length_map]
theorem zlG.set {g:List (List Int)}{n i:Nat}{r:List Int}(h:zlG g n)(hr:r.length=n):zlG (g.set i r) n:=fun x hx=>by
 rcases List.mem_or_eq_of_mem_set hx with e | e
 ·exact h x e
 ·rw [e];exact hr
theorem zlG.sgn {g:List (List Int)}{n t c:Nat}(h:zlG g n)(ht:t<g.length):zlG (ziG g t c) n:=by
 unfold ziG;split
 ·refine h.set ?_;rw [zlI,List.getD_eq_getElem?_getD,List.getElem?_eq_getElem ht];exact h _ (List.getElem_mem ht)
 ·exact h
theorem zlG.pas {g:List (List Int)}{n t c lo k:Nat}(h:zlG g n)(ht:t<g.length):zlG (ziF g t c lo k) n:=fun x hx=>by
 obtain ⟨i,hi⟩:=List.mem_iff_getElem?.1 hx;rw [zl7] at hi
 cases hg:g[i]? with
 | none=>rw [hg] at hi;cases hi
 | some r =>
  rw [hg] at hi
  have hr:=h r (List.mem_of_getElem? hg)
  have hs:(g.getD t []).length=n:=by rw [List.getD_eq_getElem?_getD,List.getElem?_eq_getElem ht];exact h _ (List.getElem_mem ht)
  obtain rfl:=Option.some.inj hi
  split
  ·rw [zlH _ (by omega)];exact hr
  ·exact hr
theorem zlG.swp {g:List (List Int)}{n i j:Nat}(h:zlG g n):zlG (swp g i j) n:=by
 unfold Go.Proofs.YtipkdebkdnbieaaGreatDoor.swp;split
 ·rename_i x y hx hy;exact (h.set (h y (List.mem_of_getElem? hy))).set (h x (List.mem_of_getElem? hx))
 ·exact h
theorem zlJ (g:List (List Int))(t c:Nat):(ziG g t c).length=g.length:=by unfold ziG;split <;> simp
theorem zlK {g:List (List Int)}{i c:Nat}{r:List Int}(h:g[i]?=some r):at2 g i c=zas r c:=by unfold at2 zas;rw [List.getD_eq_getElem?_getD (l:=g),h];rfl
theorem zlL {g:List (List Int)}{i:Nat}{r:List Int}(h:g[i]?=some r):g.getD i []=r:=by rw [List.getD_eq_getElem?_getD,h];rfl
theorem GZ.pass {W0 w:World}{B gs cap n t c lo i:Nat}{g:List (List Int)}{r s:List Int}(he:Env W0)(h:GZ W0 B gs cap (ziF g t c lo i) w)(hrec:zlG g n)(hn:n≤1000)(hok:okG g=true)(hr:g[i]?=some r)(hs:g[t]?=some s)(hne:i ≠ t)(hlo:lo≤i)(htn:¬ (lo≤t∧t<i))(hc:c<n)(hnz:zas s c ≠ 0) :
  ∃ gi ci gt ct,w.cell? ⟨gs,i,none⟩=some (.slice (some ⟨gi,0,none⟩) n ci)∧w.cell? ⟨gi,c,none⟩=some (.string (I (zas r c)))∧w.cell? ⟨gs,t,none⟩=some (.slice (some ⟨gt,0,none⟩) n ct)∧w.cell? ⟨gt,c,none⟩=some (.string (I (zas s c))) ∧
   (∀ W,Ext w W→Calls Tryz.prog 115 #[.string (I (zas r c)),.string (I (zas s c))] W fun e w'=>e=.returned (.tuple #[.string (I (fdv (zas r c) (zas s c))),.string (I (fmd (zas r c) (zas s c))),.int .i64 0])∧Ext W w') ∧
   ∀ W,Ext w W→Calls Tryz.prog 116 #[.slice (some ⟨gi,0,none⟩) n ci,.slice (some ⟨gt,0,none⟩) n ct,.string (I (fdv (zas r c) (zas s c)))] W fun e w'=>e=.returned (.tuple #[])∧GZ W0 B gs cap (ziF g t c lo (i+1)) w':=by
 have hri:(ziF g t c lo i)[i]?=some r:=zlB hr (by omega);have hsi:(ziF g t c lo i)[t]?=some s:=zlB hs htn;have hrl:=hrec r (List.mem_of_getElem? hr);have hsl:=hrec s (List.mem_of_getElem? hs);obtain ⟨g1,c1,a1,a2,_,_⟩:=h.row hri;obtain ⟨g2,c2,b1,b2,_,_⟩:=h.row hsi;obtain ⟨gi,ci,gt,ct,d1,d2,htk⟩:=h.take he hri hsi hne (by omega) (by omega);rw [a1] at d1;rw [b1] at d2;injection d1 with d1;injection d2 with d2;injection d1 with e1 _ e3;injection d2 with f1 _ f3;injection e1 with e1;injection e1 with e1;injection f1 with f1;injection f1 with f1;subst e1 e3 f1 f3;have hrz:=zlD hok hr;have hsz:=zlD hok hs;have hq:(fdv (zas r c) (zas s c)).natAbs<zi2:=Nat.lt_of_le_of_lt (zlE hnz) (hrz _ (zc8 (by omega)));rw [hrl] at a1 htk;rw [hsl] at b1 htk;refine ⟨g1,c1,g2,c2,a1,a2 c (by omega),b1,b2 c (by omega),fun W hW=>zek _ _ W (he.ext (h.x.trans hW)) hnz (zlC (hrz _ (zc8 (by omega)))) (zlC (hsz _ (zc8 (by omega)))),fun W hW=>?_⟩;refine (htk (fdv (zas r c) (zas s c)) W hW (zlC hq) (fun z hz=>zlC (hrz z hz)) (fun z hz=>zlC (hsz z hz)) (fun z hz=>zlF hq (hsz z hz))).mono ?_;rintro e w' ⟨rfl,hg⟩;refine ⟨rfl,?_⟩;rw [← zlA hlo hr,zlL hs,zlK hs];exact hg
theorem zlM (W0 w:World)(B gs cap m n t c:Nat)(g:List (List Int))(he:Env W0)(h:GZ W0 B gs cap g w)(hm:g.length=m)(hrec:zlG g n)(hn:n≤1000)(hm9:m≤1000)(ht:t<m)(hc:c<n)(hok:okG g=true)(hok2:okG (ziG g t c)=true)(hnz:at2 g t c ≠ 0) :
  Calls Tryz.prog 155 #[.slice (some ⟨gs,0,none⟩) m cap,.int .i64 t,.int .i64 c] w fun e w'=>e=.returned (.tuple #[])∧GZ W0 B gs cap (ziH g t c) w':=by
 obtain ⟨s,hs⟩:∃ s,g[t]?=some s:=⟨_,List.getElem?_eq_getElem (by omega)⟩;have hsl:=hrec s (List.mem_of_getElem? hs);have hsz:=zlD hok hs;have ea:=zlK (c:=c) hs;obtain ⟨g1,c1,a1,a2,_,_⟩:=h.row hs;have a2:=a2 c (by omega);rw [hsl] at a1;obtain ⟨g2,c2,b1,htn⟩:=h.turn hs (by omega) (fun z hz=>zlC (hsz z hz));rw [hsl,a1] at b1;injection b1 with b1;injection b1 with b1 _ b3;injection b1 with b1;injection b1 with b1;subst b1 b3;rw [hsl] at htn;have hsg:=fun W=>zbR (zas s c) W (zlC (hsz _ (zc8 (by omega))));rw [ea] at hnz;have hsn:ziG g t c=if zas s c<0 then g.set t (ziD s) else g:=by unfold ziG;rw [ea,zlL hs]
 -- behind the sign
 obtain ⟨g0,hg0⟩:∃ g0,g0=ziG g t c:=⟨_,rfl⟩
 have hfin:ziH g t c=ziF g0 t c 0 t:=by rw [hg0];rfl
 obtain ⟨s0,hs0,hnz0⟩:∃ s0,g0[t]?=some s0∧zas s0 c ≠ 0:=by
  rw [hg0,hsn];split
  ·refine ⟨ziD s,by rw [List.getElem?_set,if_pos rfl,if_pos (by omega)],?_⟩;unfold ziD zas;rw [List.getD_eq_getElem?_getD,List.getElem?_map,List.getElem?_eq_getElem (by omega)];unfold zas at hnz;rw [List.getD_eq_getElem?_getD,List.getElem?_eq_getElem (by omega)] at hnz;simp only [Option.map_some,Option.getD_some] at hnz ⊢;omega
  ·exact ⟨s,hs,hnz⟩
 have hrec0:zlG g0 n:=by rw [hg0];exact hrec.sgn (by omega)
 have hok0:okG g0=true:=by rw [hg0];exact hok2
 have hl0:g0.length=m:=by rw [hg0,zlJ,hm]
 rw [hfin]
 have ht0:(0:Int)≤(t:Int):=by omega
 have ht1:(t:Int)<(m:Int):=by omega
 have hc0:(0:Int)≤(c:Int):=by omega
 have hc1:(c:Int)<(n:Int):=by omega
 have H:=hid h;have He:=hid he;have Htn:=hid htn;have Hsg:=hid hsg;have Hrec0:=hid hrec0;have Hok0:=hid hok0;have Hs0:=hid hs0;have Hl0:=hid hl0;have Hnz0:=hid hnz0
 have hstart:(zas s c<0∧g.set t (ziD s)=g0)∨(¬ zas s c<0∧g=g0):=by
  rw [hg0,hsn];by_cases q:zas s c<0
  ·exact .inl ⟨q,by rw [if_pos q]⟩
  ·exact .inr ⟨q,by rw [if_neg q]⟩
 have Hstart:=hid hstart
 clear h he htn hsg hrec hrec0 hok hok0 hok2 hs hs0 hsl hsz hg0 hfin hsn hl0 hnz hnz0 hm ea hstart
 have hcs:(zas s c<0∧zbj (zas s c) 0<0)∨(¬ zas s c<0∧¬ zbj (zas s c) 0<0):=by
  unfold zbj;by_cases q:zas s c<0
  ·left;rw [if_pos q];omega
  ·right;rw [if_neg q];refine ⟨q,?_⟩;split <;> omega
 generalize hz:zas s c=z at *
 generalize zbj z 0=sg at *
 clear hz
 go_enter Tryz.func155,Tryz.ntmps155
 go_wp2_with fail
 refine (Hsg.out _).mono ?_
 rintro e w1 ⟨rfl,rfl⟩
 go_upto_if 18 with fail
 go_cut [] (fun wx=>Hid (GZ W0 B gs cap g0 wx))
 case first =>
  rcases hcs with ⟨hz1,hz2⟩ | ⟨hz1,hz2⟩
  ·have hzd:decide (sg<0)=true:=decide_eq_true hz2
   have hg1:g.set t (ziD s)=g0:=by
    rcases Hstart.out with q | q
    ·exact q.2
    ·have:=q.1;omega
   have Hg1:=hid hg1
   clear hg1 hz1
   go_wp2_with fail
   refine (Htn.out _ (Ext.refl _)).mono ?_
   rintro e w2 ⟨rfl,hg⟩
   rw [Hg1.out] at hg
   have HG:=hid hg
   clear hg
   go_wp2_with fail
   go_meet
   exact HG
  ·have hzd:decide (sg<0)=false:=decide_eq_false (by omega)
   have hg1:g=g0:=by
    rcases Hstart.out with q | q
    ·have:=q.1;omega
    ·exact q.2
   have Hg1:=hid hg1
   clear hg1 hz1
   go_wp2_with fail
   go_meet
   rw [← Hg1.out]
   exact H
 case rest =>
  have HG:=hcut
  clear H Htn Hsg Hstart hcs a1 a2
  go_wp2_with fail
  go_loopw [25] (fun v25 wr=>∃ i:Nat,v25=.int .i64 i∧i≤t∧Hid (GZ W0 B gs cap (ziF g0 t c 0 i) wr)) (fun v25 _=>t - (zal v25).toNat)
  case atStart=>exact ⟨0,rfl,Nat.zero_le _,hid (by rw [zl9];exact HG.out)⟩
  case round =>
   clear HG
   obtain ⟨i,rfl,hi,HG⟩:=hrel
   by_cases hit:i<t
   ·obtain ⟨r,hr⟩:∃ r,g0[i]?=some r:=⟨_,List.getElem?_eq_getElem (by have:=Hl0.out;omega)⟩
    obtain ⟨gi,ci,gt,ct,a1,a2,b1,b2,hdm,htk⟩:=HG.out.pass He.out Hrec0.out hn Hok0.out hr Hs0.out (by omega) (Nat.zero_le _) (by omega) hc Hnz0.out
    have hi0:(0:Int)≤(i:Int):=by omega
    have hi1:(i:Int)<(m:Int):=by omega
    have hi2:(i:Int)<(t:Int):=by omega
    have Hdm:=hid hdm;have Htk:=hid htk
    clear hdm htk hr
    generalize I (fdv (zas r c) (zas s0 c))=sq at *
    generalize I (fmd (zas r c) (zas s0 c))=sr at *
    generalize I (zas r c)=sa at *
    generalize I (zas s0 c)=sb at *
    go_wp2_with fail
    go_region_held3 (fun w'=>Ext wr w'∧w'.cell? ⟨gs,i,none⟩=some (.slice (some ⟨gi,0,none⟩) n ci)∧w'.cell? ⟨gi,c,none⟩=some (.string sa)∧w'.cell? ⟨gs,t,none⟩=some (.slice (some ⟨gt,0,none⟩) n ct)∧w'.cell? ⟨gt,c,none⟩=some (.string sb))
     (first | (with_reducible assumption) | exact ⟨(Ext.refl wr).drew,a1,a2,b1,b2⟩)
     (first
      | (go_at_call 115;refine (Hdm.out _ (And.left (by assumption))).mono ?_;rintro e9 VA ⟨rfl,hxa⟩;have hEA:=((Ext.refl wr).drew).trans hxa;have hS2:Ext wr VA∧VA.cell? ⟨gs,i,none⟩=some (.slice (some ⟨gi,0,none⟩) n ci)∧VA.cell? ⟨gi,c,none⟩=some (.string sa)∧VA.cell? ⟨gs,t,none⟩=some (.slice (some ⟨gt,0,none⟩) n ct)∧VA.cell? ⟨gt,c,none⟩=some (.string sb):=⟨hEA,hEA.cell a1,hEA.cell a2,hEA.cell b1,hEA.cell b2⟩;have HEA:=hid hEA;clear hxa hEA))
    all_goals
     have hxd:=HEA.out.drew
     have e1:=hxd.cell a1
     have e2:=hxd.cell b1
     have htk:=Htk.out _ hxd
     have Htk2:=hid htk
     clear hS2 a1 a2 b1 b2 htk hxd
     go_wp2_with fail
     go_region_law (go_simp;go_at_call 116;refine Htk2.out.mono ?_;rintro e V5 ⟨rfl,hg5⟩;have Hg5:=hid hg5;clear hg5)
     all_goals
      go_wp2_with fail
      go_roundw
      case rel=>exact ⟨i+1,by go_num,by omega,Hg5⟩
      case measure=>simp [zal];omega
   ·obtain rfl:i=t:=by omega
    go_wp2
    go_end0
    exact ⟨rfl,HG.out⟩
def zlN : Option Nat→Value
 | none=>.int .i64 (-1)
 | some k=>.int .i64 (k:Int)
theorem zlO (g:List (List Int))(c top n:Nat):ziE g c top (n+1)=if at2 g (top+n) c=0 then ziE g c top n else match (ziE g c top n).1 with
   | none=>(some (top+n),(ziE g c top n).2)
   | some k=>(some (if (at2 g (top+n) c).natAbs<(at2 g k c).natAbs then top+n else k),true):=rfl
theorem zlP {g:List (List Int)}{c top:Nat}:∀ {n k:Nat}{b:Bool},ziE g c top n=(some k,b)→top≤k∧k<top+n∧at2 g k c ≠ 0
 | 0,k,b,h=>by cases h
 | n+1,k,b,h=>by
  rw [zlO] at h;by_cases h0:at2 g (top+n) c=0
  ·rw [if_pos h0] at h;have:=zlP h;omega
  ·rw [if_neg h0] at h
   cases hs:ziE g c top n with
   | mk o b2 =>
    rw [hs] at h
    cases o with
    | none =>
     simp only [Prod.mk.injEq,Option.some.injEq] at h
     obtain ⟨rfl,_⟩:=h
     exact ⟨by omega,by omega,h0⟩
    | some j =>
     have ih:=zlP hs
     simp only [Prod.mk.injEq,Option.some.injEq] at h
     obtain ⟨h1,_⟩:=h
     split at h1
     ·subst h1;exact ⟨by omega,by omega,h0⟩
     ·subst h1;exact ⟨ih.1,by omega,ih.2.2⟩
theorem zlQ {g:List (List Int)}{c top:Nat}:∀ {n:Nat}{b:Bool},ziE g c top n=(none,b)→b=false
 | 0,b,h=>by cases h;rfl
 | n+1,b,h=>by
  rw [zlO] at h;by_cases h0:at2 g (top+n) c=0
  ·rw [if_pos h0] at h;exact zlQ h
  ·rw [if_neg h0] at h
   cases hs:ziE g c top n with
   | mk o b2 =>
    rw [hs] at h
    cases o with
    | none=>simp at h
    | some j=>simp at h
theorem zlR {g:List (List Int)}{top c cols:Nat}{r:List (List Int) × Nat}(h:ziI 0 g top c cols=some r):False:=by cases h
theorem zlS {g:List (List Int)}{top c:Nat}{r:List (List Int) × Nat}(h:inZ 0 g top c=some r):False:=by cases h
theorem zlT {n:Nat}{g gF:List (List Int)}{top c cols tF:Nat}(h:ziI (n+1) g top c cols=some (gF,tF))(hc:¬ (c<cols∧top<g.length)):g=gF∧top=tF:=by
 unfold ziI at h;rw [if_neg hc] at h
 cases h
 exact ⟨rfl,rfl⟩
theorem zlU {n:Nat}{g gF:List (List Int)}{top c cols tF:Nat}(h:ziI (n+1) g top c cols=some (gF,tF))(hc:c<cols∧top<g.length):∃ g1 t1,inZ zi3 g top c=some (g1,t1)∧ziI n g1 t1 (c+1) cols=some (gF,tF):=by
 unfold ziI at h;rw [if_pos hc] at h
 cases hh:inZ zi3 g top c with
 | none=>rw [hh] at h;cases h
 | some r=>rw [hh] at h;exact ⟨r.1,r.2,rfl,h⟩
theorem zlV {n:Nat}{g g1:List (List Int)}{top c t1:Nat}{o:Option Nat}{b:Bool}(h:inZ (n+1) g top c=some (g1,t1))(hs:ziE g c top (g.length - top)=(o,b)) :
  okG g=true∧((o=none∧g=g1∧top=t1)∨∃ k,o=some k∧okG (swp g top k)=true∧okG (ziG (swp g top k) top c)=true ∧
   ((b=true∧inZ n (ziF (swp g top k) top c (top+1) g.length) top c=some (g1,t1))∨(b=false∧ziH (swp g top k) top c=g1∧top+1=t1))):=by
 unfold inZ at h;by_cases hok:okG g=true
 ·rw [if_pos hok,hs] at h;refine ⟨hok,?_⟩
  cases o with
  | none =>
   simp only [Option.some.injEq,Prod.mk.injEq] at h
   exact .inl ⟨rfl,h.1,h.2⟩
  | some k =>
   right
   simp only at h
   by_cases h2:okG (swp g top k)=true∧okG (ziG (swp g top k) top c)=true
   ·rw [if_pos h2] at h
    refine ⟨k,rfl,h2.1,h2.2,?_⟩
    cases b with
    | true=>rw [if_pos rfl] at h;exact .inl ⟨rfl,h⟩
    | false =>
     rw [if_neg (by decide)] at h
     simp only [Option.some.injEq,Prod.mk.injEq] at h
     exact .inr ⟨rfl,h.1,h.2⟩
   ·rw [if_neg h2] at h;cases h
 ·rw [if_neg hok] at h;cases h
theorem zlW {g:List (List Int)}{t k:Nat}{r s:List Int}(hr:g[t]?=some r)(hs:g[k]?=some s):(swp g t k)[t]?=some s:=by
 rw [zix hr hs,zlp hr hs];unfold zln;split
 ·rename_i h;rw [← h] at hs;exact hs
 ·rw [if_pos rfl];exact hs
theorem zlX (W0 w:World)(B gs cap m n cols:Nat)(g0 gF:List (List Int))(tF:Nat)(he:Env W0)(h:GZ W0 B gs cap g0 w)(hm:g0.length=m)(hrec:zlG g0 n)(hn:n≤1000)(hm9:m≤1000)(hcn:cols≤n)(hcap:m≤cap)(hrun:ziI 100 g0 0 0 cols=some (gF,tF)) :
  Calls Tryz.prog 110 #[.slice (some ⟨gs,0,none⟩) m cap,.int .i64 cols] w fun e w'=>e=.returned (.slice (some ⟨gs,0,none⟩) tF cap)∧GZ W0 B gs cap gF w'∧tF≤m∧gF.length=m∧zlG gF n:=by
 have H:=hid h;have He:=hid he;have Hrec:=hid hrec;have Hm:=hid hm;have Hrun:=hid hrun;clear h he hrec hm hrun;go_enter Tryz.func110,Tryz.ntmps110
 go_wp2_with fail
 go_loopg [5,6] 100 (fun gk v5 v6 wr=>∃ (g:List (List Int))(top c:Nat),v5=.int .i64 top∧v6=.int .i64 c∧top≤m∧c≤cols∧Hid (g.length=m∧zlG g n)∧Hid (ziI gk g top c cols=some (gF,tF))∧Hid (GZ W0 B gs cap g wr))
 case atStart=>exact ⟨g0,0,0,rfl,rfl,Nat.zero_le _,Nat.zero_le _,hid ⟨Hm.out,Hrec.out⟩,Hrun,H⟩
 case round =>
  clear H Hrun Hm Hrec;obtain ⟨g,top,c,rfl,rfl,htm,hcc,HR,HO,HG⟩:=hrel
  cases gk with
  | zero=>exact (zlR HO.out).elim
  | succ fk =>
   by_cases hlt:c<cols∧top<m
   ·obtain ⟨g1,t1,hin,hout⟩:=zlU HO.out (by rw [HR.out.1];exact hlt)
    have HI:=hid hin;have HO2:=hid hout
    obtain ⟨hl1,hl2⟩:=hlt
    have z1:(c:Int)<(cols:Int):=by omega
    have z2:(top:Int)<(m:Int):=by omega
    have hcn2:c<n:=by omega
    clear hin hout HO
    go_wp2_with fail
    obtain ⟨wa,hwa⟩:∃ wa,wa=wr:=⟨_,rfl⟩
    subst hwa
    go_loopg [5] zi3 (fun gk2 v5 wi=>∃ g':List (List Int),v5=.int .i64 top∧Hid (g'.length=m∧zlG g' n)∧Hid (inZ gk2 g' top c=some (g1,t1))∧Hid (GZ W0 B gs cap g' wi))
    case atStart=>exact ⟨g,rfl,HR,HI,HG⟩
    case round =>
     clear HR HI HG
     obtain ⟨g',rfl,HR,HI,HG⟩:=hrel
     cases gk with
     | zero=>exact (zlS HI.out).elim
     | succ f2 =>
      obtain ⟨oF,bF,hsF⟩:∃ o b,ziE g' c top (g'.length - top)=(o,b):=⟨_,_,rfl⟩
      have hnx:=zlV HI.out hsF
      rw [HR.out.1] at hsF
      have Hnx:=hid hnx;have HsF:=hid hsF
      clear hnx hsF HI
      go_wp2_with fail
      obtain ⟨wb,hwb⟩:∃ wb,wb=wr:=⟨_,rfl⟩
      subst hwb
      go_loopw [7,8,9] (fun v7 v8 v9 wj=>∃ (i:Nat)(o:Option Nat)(b:Bool),v7=zlN o∧v8=.bool b∧v9=.int .i64 i∧top≤i∧i≤m∧Hid (ziE g' c top (i - top)=(o,b))∧Hid (Ext wb wj)) (fun _ _ v9 _=>m - (zal v9).toNat)
      case atStart=>exact ⟨top,none,false,rfl,rfl,rfl,Nat.le_refl _,by omega,hid (by rw [Nat.sub_self];rfl),hid (Ext.refl _)⟩
      case round =>
       obtain ⟨i,o,b,rfl,rfl,rfl,hti,him,HS,HE⟩:=hrel
       by_cases hilt:i<m
       ·obtain ⟨r,hr⟩:∃ r,g'[i]?=some r:=⟨_,List.getElem?_eq_getElem (by rw [HR.out.1];exact hilt)⟩
        have hG:=HG.out.ext HE.out
        obtain ⟨gi,ci,a1,a2,_,_⟩:=hG.row hr
        have hrl:=HR.out.2 r (List.mem_of_getElem? hr)
        have a2:=a2 c (by omega)
        rw [hrl] at a1
        have hok:=Hnx.out.1
        have hfz:Fit (zas r c):=zlC (zlD hok hr _ (zc8 (by omega)))
        have hzk:=zb3 (zas r c)
        have hi0:(0:Int)≤(i:Int):=by omega
        have hi1:(i:Int)<(m:Int):=by omega
        have hc0:(0:Int)≤(c:Int):=by omega
        have hc1:(c:Int)<(n:Int):=by omega
        have hsc:=zlO g' c top (i - top)
        rw [show top+(i - top)=i by omega,show i - top+1=i+1 - top by omega,HS.out,zlK hr] at hsc
        by_cases hz0:zas r c=0
        ·rw [if_pos hz0] at hsc
         have Hsc:=hid hsc
         have hq1:((I (zas r c)).toList == [48])=true:=by rw [hzk,decide_eq_true hz0]
         generalize I (zas r c)=sz at *
         clear hsc hzk hz0 hfz hok hrl hG hr
         go_wp2_with fail
         go_roundw
         case rel=>exact ⟨i+1,o,b,rfl,rfl,by go_num,by omega,hilt,Hsc,HE⟩
         case measure=>simp [zal];omega
        ·rw [if_neg hz0] at hsc
         have hq1:((I (zas r c)).toList == [48])=false:=by rw [hzk,decide_eq_false hz0]
         cases o with
         | none =>
          have hb:=zlQ HS.out
          subst hb
          have Hsc:=hid hsc
          generalize I (zas r c)=sz at *
          clear hsc hzk hz0 hfz hok hrl hG hr
          unfold zlN
          go_wp2
          go_quiet (fail)
          go_wp2_with fail
          go_roundw
          case rel=>exact ⟨i+1,some i,false,rfl,rfl,by go_num,by omega,hilt,Hsc,hid (HE.out.drewN nq)⟩
          case measure=>simp [zal];omega
         | some k =>
          obtain ⟨hk1,hk2,hk3⟩:=zlP HS.out
          obtain ⟨s,hs⟩:∃ s,g'[k]?=some s:=⟨_,List.getElem?_eq_getElem (by rw [HR.out.1];omega)⟩
          obtain ⟨gq,cq,b1,b2,_,_⟩:=hG.row hs
          have hsl:=HR.out.2 s (List.mem_of_getElem? hs)
          have b2:=b2 c (by omega)
          rw [hsl] at b1
          have hfy:Fit (zas s c):=zlC (zlD hok hs _ (zc8 (by omega)))
          simp only at hsc
          rw [zlK hs] at hsc
          generalize zas r c=z at *
          generalize zas s c=y at *
          have ha1:=fun W=>zd6 z W hfz
          have ha2:=fun W=>zd6 y W hfy
          have hcm:=fun W=>zbV (z.natAbs:Int) (y.natAbs:Int) W (by unfold Fit at *;rwa [Int.natAbs_natCast]) (by unfold Fit at *;rwa [Int.natAbs_natCast])
          have hcv:(z.natAbs<y.natAbs∧zbj (z.natAbs:Int) (y.natAbs:Int)<0)∨(¬ z.natAbs<y.natAbs∧¬ zbj (z.natAbs:Int) (y.natAbs:Int)<0):=by
           rcases Nat.lt_trichotomy z.natAbs y.natAbs with g | g | g
           ·left;rw [zbk (by omega)];omega
           ·right;rw [zbl (by omega)];omega
           ·right;rw [zbm (by omega)];omega
          generalize zbj (z.natAbs:Int) (y.natAbs:Int)=cv at *
          have hk4:(0:Int)≤(k:Int):=by omega
          have hk5:(k:Int)<(m:Int):=by omega
          have hkn:decide ((k:Int)<0)=false:=decide_eq_false (by omega)
          have hkp:¬ (k:Int)<0:=by omega
          have Hsc:=hid hsc;have Ha1:=hid ha1;have Ha2:=hid ha2;have Hcm:=hid hcm;have Hcv:=hid hcv
          clear hsc hzk hz0 hfz hfy hok hrl hsl hG hr hs ha1 ha2 hcm hcv hk3
          generalize I (z.natAbs:Int)=ta at *
          generalize I (y.natAbs:Int)=tb at *
          generalize I z=sa at *
          generalize I y=sb at *
          unfold zlN
          cases b with
          | true =>
           go_wp2
           go_region_held3 (fun w'=>Ext wr w'∧w'.cell? ⟨gs,i,none⟩=some (.slice (some ⟨gi,0,none⟩) n ci)∧w'.cell? ⟨gi,c,none⟩=some (.string sa)∧w'.cell? ⟨gs,k,none⟩=some (.slice (some ⟨gq,0,none⟩) n cq)∧w'.cell? ⟨gq,c,none⟩=some (.string sb))
            (first | exact zl4 ⟨Ext.refl wr,a1,a2,b1,b2⟩ ((Ext.refl wr).drew) | exact zl4 (by assumption) hxa)
            (first
             | (go_at_call 153;refine (Hcm.out _).mono ?_;rintro e9 V4 ⟨rfl,hxa⟩)
             | (go_at_call_of 154 (Value.string sa);refine (Ha1.out _).mono ?_;rintro e9 V4 ⟨rfl,hxa⟩)
             | (go_at_call_of 154 (Value.string sb);refine (Ha2.out _).mono ?_;rintro e9 V4 ⟨rfl,hxa⟩))
           all_goals
            have hx9:=And.left (by assumption:Ext wr V4∧_)
            have HE9:=hid (HE.out.trans hx9)
            rcases Hcv.out with ⟨hlt,hcv⟩ | ⟨hlt,hcv⟩
            ·have hdc:decide (cv<0)=true:=decide_eq_true hcv
             have hn:=Hsc.out
             simp only [if_pos hlt] at hn
             have Hn:=hid hn
             clear hn hlt
             go_wp2_with fail
             go_roundw
             case rel=>exact ⟨i+1,some i,true,rfl,rfl,by go_num,by omega,hilt,Hn,HE9⟩
             case measure=>simp [zal];omega
            ·have hdc:decide (cv<0)=false:=decide_eq_false (by omega)
             have hn:=Hsc.out
             simp only [if_neg hlt] at hn
             have Hn:=hid hn
             clear hn hlt
             go_wp2_with fail
             go_roundw
             case rel=>exact ⟨i+1,some k,true,rfl,rfl,by go_num,by omega,hilt,Hn,HE9⟩
             case measure=>simp [zal];omega
          | false =>
           go_wp2
           go_region_held3 (fun w'=>Ext wr w'∧w'.cell? ⟨gs,i,none⟩=some (.slice (some ⟨gi,0,none⟩) n ci)∧w'.cell? ⟨gi,c,none⟩=some (.string sa)∧w'.cell? ⟨gs,k,none⟩=some (.slice (some ⟨gq,0,none⟩) n cq)∧w'.cell? ⟨gq,c,none⟩=some (.string sb))
            (first | exact zl4 ⟨Ext.refl wr,a1,a2,b1,b2⟩ ((Ext.refl wr).drew) | exact zl4 (by assumption) hxa)
            (first
             | (go_at_call 153;refine (Hcm.out _).mono ?_;rintro e9 V4 ⟨rfl,hxa⟩)
             | (go_at_call_of 154 (Value.string sa);refine (Ha1.out _).mono ?_;rintro e9 V4 ⟨rfl,hxa⟩)
             | (go_at_call_of 154 (Value.string sb);refine (Ha2.out _).mono ?_;rintro e9 V4 ⟨rfl,hxa⟩))
           all_goals
            have hx9:=And.left (by assumption:Ext wr V4∧_)
            have HE9:=hid (HE.out.trans hx9)
            rcases Hcv.out with ⟨hlt,hcv⟩ | ⟨hlt,hcv⟩
            ·have hdc:decide (cv<0)=true:=decide_eq_true hcv
             have hn:=Hsc.out
             simp only [if_pos hlt] at hn
             have Hn:=hid hn
             clear hn hlt
             go_wp2_with fail
             go_roundw
             case rel=>exact ⟨i+1,some i,true,rfl,rfl,by go_num,by omega,hilt,Hn,HE9⟩
             case measure=>simp [zal];omega
            ·have hdc:decide (cv<0)=false:=decide_eq_false (by omega)
             have hn:=Hsc.out
             simp only [if_neg hlt] at hn
             have Hn:=hid hn
             clear hn hlt
             go_wp2_with fail
             go_roundw
             case rel=>exact ⟨i+1,some k,true,rfl,rfl,by go_num,by omega,hilt,Hn,HE9⟩
             case measure=>simp [zal];omega
       ·have him2:i=m:=by omega
        have hso:=HS.out
        rw [him2,HsF.out] at hso
        have hoo:oF=o:=(Prod.mk.inj hso).1
        have hbb:bF=b:=(Prod.mk.inj hso).2
        have hkk:¬ (i:Int)<(m:Int):=by omega
        have hG:=HG.out.ext HE.out
        have HsF2:=HsF
        have Hnx2:=Hnx
        rw [hoo,hbb] at HsF2 Hnx2
        have HG1:=hid hG
        have HHH:=hid him2
        clear hso hoo hbb hG HsF Hnx HG HS him2 hilt
        rcases Hnx2.out.2 with ⟨ho,hg,ht⟩ | ⟨k,ho,hk1,hk2,hk3⟩
        ·have HR1:Hid (g1.length=m∧zlG g1 n):=by rw [← hg];exact HR
         have HG2:Hid (GZ W0 B gs cap g1 wr):=by rw [← hg];exact HG1
         have HO3:Hid (ziI fk g1 top (c+1) cols=some (gF,tF)):=by rw [ht];exact HO2
         rw [ho]
         clear ho hg ht HHH HE
         unfold zlN
         go_wp2_with fail
         go_roundg fk
         case measure=>omega
         case rel=>exact ⟨g1,top,c+1,rfl,by go_num,htm,by omega,HR1,HO3,HG2⟩
        ·obtain ⟨hkt,hkm,hknz⟩:=zlP (by rw [← ho];exact HsF2.out)
         have hkm2:k<m:=by omega
         obtain ⟨rt,hrt⟩:∃ r,g'[top]?=some r:=⟨_,List.getElem?_eq_getElem (by rw [HR.out.1];omega)⟩
         obtain ⟨rk,hrk⟩:∃ r,g'[k]?=some r:=⟨_,List.getElem?_eq_getElem (by rw [HR.out.1];omega)⟩
         obtain ⟨gi,ci,gj,cj,a1,b1,hsw⟩:=HG1.out.swap hrt hrk
         rw [HR.out.2 rt (List.mem_of_getElem? hrt)] at a1 hsw
         rw [HR.out.2 rk (List.mem_of_getElem? hrk)] at b1 hsw
         have hfz:=fun t=>HG1.out.frozen t
         have hpiv:at2 (swp g' top k) top c ≠ 0:=by
          rw [zlK (zlW hrt hrk),← zlK hrk];exact hknz
         have hlen2:(swp g' top k).length=m:=by rw [ziy];exact HR.out.1
         have hrec2:zlG (swp g' top k) n:=zlG.swp HR.out.2
         obtain ⟨rp,hrp⟩:∃ r,(swp g' top k)[top]?=some r:=⟨rk,zlW hrt hrk⟩
         have hpv:zas rp c ≠ 0:=by rw [← zlK hrp];exact hpiv
         have hin3:(b=true∧inZ f2 (ziF (swp g' top k) top c (top+1) m) top c=some (g1,t1))∨(b=false∧ziH (swp g' top k) top c=g1∧top+1=t1):=by rw [← HR.out.1];exact hk3
         have hk4:(0:Int)≤(k:Int):=by omega
         have hk5:(k:Int)<(m:Int):=by omega
         have hkp:¬ (k:Int)<0:=by omega
         have ht4:(0:Int)≤(top:Int):=by omega
         rw [ho]
         have Hsw:=hid hsw;have Hin3:=hid hin3;have Hpiv:=hid hpiv;have Hpv:=hid hpv;have Hrp:=hid hrp;have Hlen2:=hid hlen2;have Hrec2:=hid hrec2;have Hk1:=hid hk1;have Hk2:=hid hk2
         clear hk1 hk2 hk3 hknz hrt hrk hsw hpiv hlen2 hrec2 hrp hpv hin3 ho hkm HHH HE HR Hnx2 HsF2 HG1
         unfold zlN
         go_upto_region 14 with (fail)
         go_cut [] (fun wx=>Hid (GZ W0 B gs cap (swp g' top k) wx))
         case first =>
          rcases Nat.eq_or_lt_of_le hkt with hq | hq
          case' inl =>
           subst hq
           rw [a1] at b1
           injection b1 with b1
           injection b1 with b1 _ b3
           injection b1 with b1
           injection b1 with b1
           subst b1 b3
          case' inr =>
           have hqn:¬ top=k:=by omega
           have hqn2:¬ k=top:=by omega
          all_goals
           go_wp2
           go_region
           have hGZ:=Hsw.out.ext ((Ext.refl _).drew)
           have HGZ:=hid hGZ
           clear hGZ
           go_wp2_with fail
           go_meet
           exact HGZ
         case rest =>
          have HG:=hcut
          clear a1 b1 hfz Hsw hcut
          generalize swp g' top k=g2 at *
          rcases Hin3.out with ⟨rfl,hin2⟩ | ⟨rfl,hfin,ht1⟩
          ·have Hin2:=hid hin2
           clear hin2 Hin3
           go_wp2_with fail
           obtain ⟨wc2,hwc2⟩:∃ wc2,wc2=wc:=⟨_,rfl⟩
           subst hwc2
           go_loopw [10] (fun v10 wj=>∃ i:Nat,v10=.int .i64 i∧top+1≤i∧i≤m∧Hid (GZ W0 B gs cap (ziF g2 top c (top+1) i) wj)) (fun v10 _=>m - (zal v10).toNat)
           case atStart=>exact ⟨top+1,by go_num,Nat.le_refl _,by omega,hid (by rw [zl9];exact HG.out)⟩
           case round =>
            clear HG
            obtain ⟨i,rfl,hti,him,HG⟩:=hrel
            by_cases hit:i<m
            ·obtain ⟨r,hr⟩:∃ r,g2[i]?=some r:=⟨_,List.getElem?_eq_getElem (by have:=Hlen2.out;omega)⟩
             obtain ⟨gi,ci,gt,ct,a1,a2,b1,b2,hdm,htk⟩:=HG.out.pass He.out Hrec2.out hn Hk1.out hr Hrp.out (by omega) hti (by omega) hcn2 Hpv.out
             have hi0:(0:Int)≤(i:Int):=by omega
             have hi1:(i:Int)<(m:Int):=by omega
             have hc0:(0:Int)≤(c:Int):=by omega
             have hc1:(c:Int)<(n:Int):=by omega
             have Hdm:=hid hdm;have Htk:=hid htk
             clear hdm htk hr
             generalize I (fdv (zas r c) (zas rp c))=sq at *
             generalize I (fmd (zas r c) (zas rp c))=sr at *
             generalize I (zas r c)=sa at *
             generalize I (zas rp c)=sb at *
             go_wp2_with fail
             go_region_held3 (fun w'=>Ext wr w'∧w'.cell? ⟨gs,i,none⟩=some (.slice (some ⟨gi,0,none⟩) n ci)∧w'.cell? ⟨gi,c,none⟩=some (.string sa)∧w'.cell? ⟨gs,top,none⟩=some (.slice (some ⟨gt,0,none⟩) n ct)∧w'.cell? ⟨gt,c,none⟩=some (.string sb))
              (first | (with_reducible assumption) | exact ⟨(Ext.refl wr).drew,a1,a2,b1,b2⟩)
              (first
               | (go_at_call 115;refine (Hdm.out _ (And.left (by assumption))).mono ?_;rintro e9 VA ⟨rfl,hxa⟩;have hEA:=((Ext.refl wr).drew).trans hxa;have hS2:Ext wr VA∧VA.cell? ⟨gs,i,none⟩=some (.slice (some ⟨gi,0,none⟩) n ci)∧VA.cell? ⟨gi,c,none⟩=some (.string sa)∧VA.cell? ⟨gs,top,none⟩=some (.slice (some ⟨gt,0,none⟩) n ct)∧VA.cell? ⟨gt,c,none⟩=some (.string sb):=⟨hEA,hEA.cell a1,hEA.cell a2,hEA.cell b1,hEA.cell b2⟩;have HEA:=hid hEA;clear hxa hEA))
             all_goals
              have hxd:=HEA.out.drew
              have e1:=hxd.cell a1
              have e2:=hxd.cell b1
              have htk:=Htk.out _ hxd
              have Htk2:=hid htk
              clear hS2 a1 a2 b1 b2 htk hxd
              go_wp2_with fail
              go_region_law (go_simp;go_at_call 116;refine Htk2.out.mono ?_;rintro e V5 ⟨rfl,hg5⟩;have Hg5:=hid hg5;clear hg5)
              all_goals
               go_wp2_with fail
               go_roundw
               case rel=>exact ⟨i+1,by go_num,by omega,hit,Hg5⟩
               case measure=>simp [zal];omega
            ·have him2:i=m:=by omega
             have HG3:Hid (GZ W0 B gs cap (ziF g2 top c (top+1) m) wr):=by rw [← him2];exact HG
             have hkk:¬ (i:Int)<(m:Int):=by omega
             clear him2 HG
             go_wp2_with fail
             go_roundg f2
             case measure=>omega
             case rel=>exact ⟨_,rfl,hid ⟨by rw [zl8];exact Hlen2.out,Hrec2.out.pas (by rw [Hlen2.out];omega)⟩,Hin2,HG3⟩
          ·have hfc:=zlM W0 wc B gs cap m n top c g2 He.out HG.out Hlen2.out Hrec2.out hn hm9 (by omega) hcn2 Hk1.out Hk2.out Hpiv.out
           rw [hfin] at hfc
           have HO3:Hid (ziI fk g1 (top+1) (c+1) cols=some (gF,tF)):=by rw [ht1];exact HO2
           have HR1:Hid (g1.length=m∧zlG g1 n):=hid (by
            rw [← hfin];unfold ziH;exact ⟨by rw [zl8,zlJ];exact Hlen2.out,(Hrec2.out.sgn (by rw [Hlen2.out];omega)).pas (by rw [zlJ,Hlen2.out];omega)⟩)
           have Hfc:=hid hfc
           clear hfc hfin ht1 Hin3
           go_wp2_with fail
           refine Hfc.out.mono ?_
           rintro e w5 ⟨rfl,hg5⟩
           have Hg5:=hid hg5
           clear hg5
           go_wp2_with fail
           go_roundg fk
           case measure=>omega
           case rel=>exact ⟨g1,top+1,c+1,by go_num,by go_num,by omega,by omega,HR1,HO3,Hg5⟩
   ·obtain ⟨e1,e2⟩:=zlT HO.out (by rw [HR.out.1];exact hlt)
    have HG2:Hid (GZ W0 B gs cap gF wr):=by rw [← e1];exact HG
    have HR2:Hid (gF.length=m∧zlG gF n):=by rw [← e1];exact HR
    have ht4:(0:Int)≤(top:Int):=by omega
    have ht5:(top:Int)≤(cap:Int):=by omega
    have E2:=hid e2
    clear e1 e2 HO HR HG
    have hcase:¬ c<cols∨(c<cols∧¬ top<m):=by omega
    rcases hcase with q | ⟨q,q2⟩
    ·have z1:¬ (c:Int)<(cols:Int):=by omega
     go_wp2
     go_ret
     exact ⟨by rw [E2.out] <;> rfl,HG2.out,by first | exact htm | (rw [← E2.out];exact htm),HR2.out.1,HR2.out.2⟩
    ·have z1:(c:Int)<(cols:Int):=by omega
     have z2:¬ (top:Int)<(m:Int):=by omega
     go_wp2
     go_ret
     exact ⟨by rw [E2.out] <;> rfl,HG2.out,by first | exact htm | (rw [← E2.out];exact htm),HR2.out.1,HR2.out.2⟩
end Go.Proofs.YtipkdebkdnbieaaGreatDoor
