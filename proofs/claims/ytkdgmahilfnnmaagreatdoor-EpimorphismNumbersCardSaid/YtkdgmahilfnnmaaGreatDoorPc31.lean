/- Walks: epimorphism.Wrong and Numbers over a planned set; law 37's fits. (KEEPALL) Walk: the law EpimorphismNumbers. (KEEPALL) A set of intervals that came in, read: its primes and its rows. (KEEPALL) A plan of chapter 37 that came in, read. (KEEPALL) A slice of ints that came in, read. What the rows' condition gives the walks, and the last step of a law (the seat of chapters 31 and 32). -/
import Derived.Test.YtkdgmahilfnnmaaGreatDoorPc13
import Derived.Test.YtkdgmahilfnnmaaGreatDoorPc30
import Derived.Deep.RegionHeld3
import Derived.Test.YtkdgmahilfnnmaaGreatDoorPc12
import Derived.ChangeSlices
import Derived.WideShapes
import Derived.ChangeShapes
import Derived.ChangeSame
import Derived.DataReads
import Derived.Deep.Matrix
import Derived.Test.YtkdgmahilfnnmaaGreatDoorPc29
import Derived.OpenShut
import Derived.Laws.IdiomArrays
import Derived.Lib.SmallJoins
import Derived.Deep.Slices
import Derived.Test.YtkdgmahilfnnmaaGreatDoorPc00
import Derived.Below
import Derived.LaidMore
import Derived.ProofKit
import Derived.Stop.Joined
import Derived.Test.YtkdgmahilfnnmaaGreatDoorRows
import Derived.Test.YtkdgmahilfnnmaaGreatDoorTie
import Derived.Test.YtkdgmahilfnnmaaGreatDoorCards
import Derived.Handy
import Derived.Lay
import Derived.SevenTiedAt
import Derived.Stop.LaidErr
import Derived.Carry
set_option maxRecDepth 100000
set_option maxHeartbeats 4000000
namespace Go.Proofs.YtkdgmahilfnnmaaGreatDoor
section
open Go.RowKit Go.Lib
def wrF (n:Nat)(v:List Int)(l:List (List Int)):Nat:=if zhE n v ≠ 0 then 0 else zhh v l
theorem zpw {v x:List Int}(hv:zgC v=0)(hx:∀ i,-200≤zas x i∧zas x i≤200)(i:Nat):-1000000000000≤zas v i * zas x i∧zas v i * zas x i≤1000000000000:=by
 have e1:=(zhD hv).2 i;have e2:=hx i;generalize zas x i=y at *;generalize zas v i=z at *;have h1:(z * y).natAbs≤1000000000 * 200:=by rw [Int.natAbs_mul];exact Nat.mul_le_mul (by omega) (by omega)
 generalize z * y=t at *;omega
theorem zpx (vp vl vv:Value)(p v:List Int)(l:List (List Int))(n m:Nat)(w:World)(he:Env w)(hp:Sl w vp (zap p))(hl:Mat w vl l)(hv:Sl w vv (zap v))(hpe:zcw p=0)(hpn:p.length=n)(hvm:v.length=m)(hn:n≤4)(hm:m≤1000)(hep:zhy p l=0)(hll:l.length≤9)(hrb:zps p l) :
  Calls Tryz.prog 9 #[.agg #[vp,vl],vv] w fun e w'=>e=.returned (.tuple #[.int .i64 (wrF n v l),.bool (decide (0<wrF n v l)),.int .i64 (zhE n v)])∧Ext w w':=by
 have hrow:∀ i,(l.getD i []).length≤1000:=fun i=>by
  rw [List.getD_eq_getElem?_getD]
  cases h:l[i]? with
  | none=>simp
  | some x =>
   have:=(hrb x (List.mem_of_getElem? h)).1
   simp only [Option.getD_some]
   omega
 have hck:=fun W (hE:Ext w W)=>zhB vp vl p l W (he.ext hE) (hE.sl hp) (hE.mat hl) (by omega) (by omega) hrow;have hvc:=fun W (hE:Ext w W)=>zhG vp vv p v n m W (hE.sl hp) (hE.sl hv) hpe hpn hvm (by omega) hm;have hwr:zhE n v=0→∀ W,Ext w W→(∀ V,Ext W V→V.cell? ⟨w.heap.size+1,0,none⟩=some vv)→Calls Tryz.prog 28 #[.agg #[vp,vl],.func (.func 29) #[] #[.pointer (some ⟨w.heap.size+1,0,none⟩)]] W fun e w'=>e=.returned (.int .i64 (zhh v l))∧Ext W w':=fun hv0 W hE hc =>
  znZ 29 #[.pointer (some ⟨w.heap.size+1,0,none⟩)] vp vl v l W (hE.mat hl) (by omega) zod fun V hV i u hi hu=>by
   have hri:l.getD i []∈l:=by
    rw [List.getD_eq_getElem?_getD,List.getElem?_eq_getElem hi];exact List.getElem_mem _
   obtain ⟨hvn,hvr⟩:=zhF hv0;have hx:=zoc (w.heap.size+1) vv u v (l.getD i []) ((i:Int)+1) V (hc V hV) ((hE.trans hV).sl hv) hu (by rw [(hrb _ hri).1];omega) (hrow i) (fun j _=>zpw hvr (hrb _ hri).2 j);have hcast:((i:Int)+1)=((i+1:Nat):Int):=(by omega);rw [hcast] at hx ⊢;exact hx
 obtain ⟨ap,cp,rfl,_,_,_⟩:=hp.parts;obtain ⟨av,cv,rfl,_,_,_⟩:=hv.parts;obtain ⟨vs,hvl,hvs,_⟩:=hl;obtain ⟨am,cm,rfl,_,_,_⟩:=hvs.parts;simp only [zar,hvl,hpn,hvm,hep] at hck hvc hwr ⊢;have hX0:Ext w ((w.alloc (.cells #[.slice ap n cp,.slice am l.length cm] 32)).alloc (.cells #[.slice av m cv] 26)):=((Ext.refl w).alloc _).alloc _;have hbA:zoe 32 ((w.alloc (.cells #[.slice ap n cp,.slice am l.length cm] 32)).alloc (.cells #[.slice av m cv] 26)) w.heap.size (.slice ap n cp) (.slice am l.length cm):=zoe.ext ((Ext.refl _).alloc _) (zoe.new 32 w (.slice ap n cp) (.slice am l.length cm));have hoA:=One.new 26 (w.alloc (.cells #[.slice ap n cp,.slice am l.length cm] 32)) (.slice av m cv);rw [World.size_alloc] at hoA;have c0:=hbA.c0;have c1:=hbA.c1;have k0:=hoA.cell;unfold wrF;have HX0:=Lib.hid hX0;have HbA:=Lib.hid hbA;have HoA:=Lib.hid hoA;have Hck:=Lib.hid hck;have Hvc:=Lib.hid hvc;have Hwr:=Lib.hid hwr;clear hX0 hbA hoA hck hvc hwr;clear hp hv hvs he hep hrb hrow;by_cases hv0:zhE n v=0
 ·simp only [hv0,ne_eq,not_true_eq_false,if_false];have hwr:=Hwr.out hv0;have hvc:=Hvc.out;rw [hv0] at hvc;have Hwr:=Lib.hid hwr;have Hvc:=Lib.hid hvc;clear hwr hvc;generalize zhh v l=q at *;go_enter Tryz.func9,Tryz.ntmps9
  go_wp2_with fail
  refine (Hck.out _ HX0.out).mono ?_;rintro e w1 ⟨rfl,hx1⟩;have c2:=(zoe.ext hx1 HbA.out).c0;have c3:=(zoe.ext hx1 HbA.out).c1;have k1:=(HoA.out.ext hx1).cell;have h2:=Hvc.out w1 (HX0.out.trans hx1);have Hx1:=Lib.hid hx1;have H2:=Lib.hid h2;clear hx1 h2;clear c0 c1 k0;go_wp2_with fail
  refine H2.out.mono ?_;rintro e w2 ⟨rfl,hx2⟩;have hx12:=Hx1.out.trans hx2;have c0:=(zoe.ext hx12 HbA.out).c0;have c1:=(zoe.ext hx12 HbA.out).c1;have k0:=(HoA.out.ext hx12).cell;have h3:=Hwr.out w2 (HX0.out.trans hx12) fun V hV=>(HoA.out.ext (hx12.trans hV)).cell;have hX2:=HX0.out.trans hx12;have H3:=Lib.hid h3;have HX2:=Lib.hid hX2;clear h3 hX2;clear c2 c3 k1 hx2 hx12;go_wp2_with fail
  refine H3.out.mono ?_;rintro e w3 ⟨rfl,hx3⟩;have hX3:=HX2.out.trans hx3;have HX3:=Lib.hid hX3;clear hX3;clear hx3;go_wp2_with fail
  go_ret3
  exact ⟨rfl,HX3.out⟩
 ·simp only [ne_eq,hv0,not_false_eq_true,if_true];generalize zhE n v=z at *;have hz:(z != 0)=true:=by rw [bne_iff_ne];exact hv0
  go_enter Tryz.func9,Tryz.ntmps9
  go_wp2_with fail
  refine (Hck.out _ HX0.out).mono ?_;rintro e w1 ⟨rfl,hx1⟩;have c2:=(zoe.ext hx1 HbA.out).c0;have c3:=(zoe.ext hx1 HbA.out).c1;have k1:=(HoA.out.ext hx1).cell;have h2:=Hvc.out w1 (HX0.out.trans hx1);have Hx1:=Lib.hid hx1;have H2:=Lib.hid h2;clear hx1 h2;clear c0 c1 k0;go_wp2_with fail
  refine H2.out.mono ?_;rintro e w2 ⟨rfl,hx2⟩;have hX3:=HX0.out.trans (Hx1.out.trans hx2);have HX3:=Lib.hid hX3;clear hX3;clear hx2 c2 c3 k1;go_wp2_with fail
  go_ret3
  exact ⟨rfl,HX3.out⟩
theorem zpy (vp vl vv:Value)(p v:List Int)(l:List (List Int))(n m:Nat)(w:World)(he:Env w)(hp:Sl w vp (zap p))(hl:Mat w vl l)(hv:Sl w vv (zap v))(hpe:zcw p=0)(hpn:p.length=n)(hvm:v.length=m)(hn:n≤4)(hm:m≤1000)(hep:zhy p l=0)(hll:l.length≤9)(hrb:zps p l) :
  Calls Tryz.prog 8 #[.agg #[vp,vl],vv] w fun e w'=>e=.returned (.tuple #[.bool (decide (zhE n v=0) && !decide (0<wrF n v l)),.int .i64 (zhE n v)])∧Ext w w':=by
 have hwr:=fun W (hE:Ext w W)=>zpx vp vl vv p v l n m W (he.ext hE) (hE.sl hp) (hE.mat hl) (hE.sl hv) hpe hpn hvm hn hm hep hll hrb;obtain ⟨ap,cp,rfl,_,_,_⟩:=hp.parts;obtain ⟨av,cv,rfl,_,_,_⟩:=hv.parts;obtain ⟨vs,hvl,hvs,_⟩:=hl;obtain ⟨am,cm,rfl,_,_,_⟩:=hvs.parts;simp only [zar,hvl,hpn,hvm] at hwr ⊢;have hX0:Ext w (w.alloc (.cells #[.slice ap n cp,.slice am l.length cm] 32)):=(Ext.refl w).alloc _;have hbA:=zoe.new 32 w (.slice ap n cp) (.slice am l.length cm);have c0:=hbA.c0;have c1:=hbA.c1;have hwr0:=hwr _ hX0;generalize wrF n v l=q at *;generalize zhE n v=z at *;have HX0:=Lib.hid hX0;have Hwr0:=Lib.hid hwr0;clear hX0 hwr0;clear hp hv hvs he hep hrb hwr hbA;by_cases hz:z=0
 ·subst hz
  cases hq:decide (0<q)
  all_goals
   rw [hq] at Hwr0;go_enter Tryz.func8,Tryz.ntmps8
   go_wp2_with fail
   refine Hwr0.out.mono ?_;rintro e w1 ⟨rfl,hx1⟩;have Hx1:=Lib.hid hx1;clear hx1;go_wp2_with fail
   go_ret2
   exact ⟨rfl,HX0.out.trans Hx1.out⟩
 ·have hz1:(z == 0)=false:=beq_eq_false_iff_ne.2 hz;have hz2:decide (z=0)=false:=decide_eq_false hz;rw [hz2];generalize decide (0<q)=b at *;go_enter Tryz.func8,Tryz.ntmps8
  go_wp2_with fail
  refine Hwr0.out.mono ?_;rintro e w1 ⟨rfl,hx1⟩;have Hx1:=Lib.hid hx1;clear hx1;go_wp2_with fail
  go_ret2
  exact ⟨rfl,HX0.out.trans Hx1.out⟩
theorem zpz (n o m cm:Nat)(M:Bool)(am:Option Addr)(w:World) :
  Calls Tryz.prog 6 #[.agg #[.int .u8 n,.slice am m cm,.bool M,.int .u8 o]] w fun e w'=>e=.returned (.bool (decide (m≤8)))∧Ext w w':=by
 have hp0:=World.alloc_heap_new w (.cells #[.int .u8 n,.slice am m cm,.bool M,.int .u8 o] 24);have hX0:=(Ext.refl w).alloc (.cells #[.int .u8 n,.slice am m cm,.bool M,.int .u8 o] 24);have hpl:(w.alloc (.cells #[.int .u8 n,.slice am m cm,.bool M,.int .u8 o] 24)).cell? ⟨w.heap.size,1,none⟩=some (.slice am m cm):=by
  unfold World.cell?;dsimp only;rw [hp0];rfl
 have hd:decide (m≤8)=decide ((m:Int)≤8):=decide_eq_decide.2 (by omega);rw [hd];clear hp0 hd;have HX0:=Lib.hid hX0;clear hX0;go_enter Tryz.func6,Tryz.ntmps6
 go_wp2_with fail
 go_ret
 exact ⟨rfl,HX0.out⟩
end
section
open Go.RowKit Go.Lib Go.Shelf
def zp0 (v:List Int)(l:List (List Int))(i q:Nat):Prop:=(q=0∧∀ j,i≤j→j<l.length→(zhg v (l.getD j []) != ((j+1:Nat):Int))=false)∨∃ b,q=b+1∧i≤b∧b<l.length∧(zhg v (l.getD b []) != ((b+1:Nat):Int))=true∧∀ j,i≤j→j<b→(zhg v (l.getD j []) != ((j+1:Nat):Int))=false
section
variable {v : List Int} {l : List (List Int)} {i q : Nat}
theorem zp0.nil : zp0 v l l.length 0:=.inl ⟨rfl,fun j h1 h2=>by omega⟩
theorem zp0.bad (hi:i<l.length)(h:(zhg v (l.getD i []) != ((i+1:Nat):Int))=true):zp0 v l i (i+1):=.inr ⟨i,rfl,Nat.le_refl _,hi,h,fun j h1 h2=>by omega⟩
theorem zp0.ok (hl:zp0 v l (i+1) q)(h:(zhg v (l.getD i []) != ((i+1:Nat):Int))=false):zp0 v l i q:=by
 rcases hl with ⟨h1,h2⟩ | ⟨b,h1,h2,h3,h4,h5⟩
 ·refine .inl ⟨h1,fun j hj hl=>?_⟩;by_cases e:j=i
  ·subst e;exact h
  ·exact h2 j (by omega) hl
 ·refine .inr ⟨b,h1,by omega,h3,h4,fun j hj hl=>?_⟩;by_cases e:j=i
  ·subst e;exact h
  ·exact h5 j (by omega) hl
theorem zp0.done (hl:zp0 v l 0 q):q=zhh v l:=by
 rcases hl with ⟨h1,h2⟩ | ⟨b,h1,h2,h3,h4,h5⟩
 ·rw [h1,znY fun i hi=>h2 i (Nat.zero_le _) hi]
 ·rw [h1,znX h3 (fun i hi=>h5 i (Nat.zero_le _) hi) h4]
end
theorem zp1 {v x:List Int}{j:Nat}(hj:j<9)(h:(zhg v x != ((j+1:Nat):Int))=false):stN v x=((j+1:Nat):Int)∧stE v x=0:=by
 have e:zhg v x=((j+1:Nat):Int):=by simpa using h
 unfold stN stE;rw [e,if_neg (by omega),if_neg (by omega)];exact ⟨rfl,rfl⟩
theorem zp2 {v x:List Int}{j:Nat}(h:(zhg v x != ((j+1:Nat):Int))=true):(stE v x != 0)=true∨(stE v x=0∧(stN v x != ((j+1:Nat):Int))=true):=by
 unfold stN stE;by_cases q:1000000000<zhg v x∨zhg v x < -1000000000
 ·rw [if_pos q];exact .inl rfl
 ·rw [if_neg q,if_neg q];exact .inr ⟨rfl,h⟩
theorem zp3 (n o cm:Nat)(M:Bool)(am:Option Addr)(Q:List Q4)(vv:Value)(v:List Int)(w:World)(he:Env w)(hn:n<256)(ho:o<256)(hQ:QIn w am Q)(hb:zo7 Q)(hv:Sl w vv (zap v))(hvl:v.length≤9223372036854775807) :
  Calls Tryz.prog 3 #[.agg #[.int .u8 n,.slice am Q.length cm,.bool M,.int .u8 o],vv] w fun e w'=>e=.returned (.bool true)∧Ext w w':=by
 have hkn:=fun W (hE:Ext w W)=>zpg W (he.ext hE);have hft:=fun W=>zpz n o Q.length cm M am W;have hmk:=fun (h8:Q.length≤8) W (hE:Ext w W)=>zpv n o Q.length cm M am Q W (he.ext hE) hn ho (hQ.ext hE) rfl h8 hb;obtain ⟨m,hm⟩:∃ m,v.length=m:=⟨_,rfl⟩;obtain ⟨k,hk⟩:∃ k,Q.length=k:=⟨_,rfl⟩;have hvs:=hv;obtain ⟨av,cv,rfl,_,_,_⟩:=hv.parts;simp only [zar,hm,hk] at hvs hkn hft hmk hvl ⊢;have hp0:=World.alloc_heap_new w (.cells #[.int .u8 n,.slice am k cm,.bool M,.int .u8 o] 24);have hX0:=(Ext.refl w).alloc (.cells #[.int .u8 n,.slice am k cm,.bool M,.int .u8 o] 24);have hpl:∀ V,Ext (w.alloc (.cells #[.int .u8 n,.slice am k cm,.bool M,.int .u8 o] 24)) V→V.cell? ⟨w.heap.size,0,none⟩=some (.int .u8 n)∧V.cell? ⟨w.heap.size,1,none⟩=some (.slice am k cm)∧V.cell? ⟨w.heap.size,2,none⟩=some (.bool M)∧V.cell? ⟨w.heap.size,3,none⟩=some (.int .u8 o):=fun V hE=>by
  have h:=hE.heap hp0;unfold World.cell?;dsimp only;rw [h];exact ⟨rfl,rfl,rfl,rfl⟩
 clear hp0 hv;have Hkn:=Lib.hid hkn;have Hft:=Lib.hid hft;have Hmk:=Lib.hid hmk;have HX0:=Lib.hid hX0;have Hpl:=Lib.hid hpl;have Hvs:=Lib.hid hvs;clear hkn hft hmk hX0 hpl hvs;by_cases h8:k≤8
 ·have h8d:decide (k≤8)=true:=decide_eq_true h8;have hft:=Hft.out;rw [h8d] at hft;by_cases h9:m≤8
  ·have h9d:decide ((m:Int) > 8)=false:=decide_eq_false (by omega);have hmk:=Hmk.out h8;clear Hmk Hft hQ hb;have Hft:=Lib.hid hft;have Hmk:=Lib.hid hmk;clear hft hmk;go_enter Tryz.func3,Tryz.ntmps3
   go_wp2_with fail
   refine (Hkn.out _ HX0.out).mono ?_;rintro e w1 ⟨rfl,hx1⟩;obtain ⟨q0,q1,q2,q3⟩:=Hpl.out w1 hx1;have Hx1:=Lib.hid hx1;clear hx1;go_wp2_with fail
   refine (Hft.out _).mono ?_;rintro e w2 ⟨rfl,hx2⟩;have hx2:=Hx1.out.trans hx2;clear q0 q1 q2 q3 Hx1;obtain ⟨q0,q1,q2,q3⟩:=Hpl.out w2 hx2;have Hx2:=Lib.hid hx2;clear hx2;go_wp2_with fail
   refine (Hmk.out _ (HX0.out.trans Hx2.out)).mono ?_;rintro e w3 ⟨vp,vl,rfl,p,rs,hp3,hl3,hpk,hep,hr0,hr9,hrb,hx3⟩;have hp4:=hpk.len;obtain ⟨np,hnp⟩:∃ np,p.length=np:=⟨_,rfl⟩;obtain ⟨K,hK⟩:∃ K,rs.length=K:=⟨_,rfl⟩;have hX3:=(HX0.out.trans Hx2.out).trans hx3;have hrow:∀ j,j<K→(rs.getD j [])∈rs:=fun j hj=>by
    rw [List.getD_eq_getElem?_getD,List.getElem?_eq_getElem (by omega)];exact List.getElem_mem _
   have hnu:=fun W (hE:Ext w3 W)=>zpy vp vl (.slice av m cv) p v rs np m W (he.ext (hX3.trans hE)) (hE.sl hp3) (hE.mat hl3) ((hX3.trans hE).sl Hvs.out) hpk.pe hnp hm (by omega) (by omega) hep (by omega) hrb;have hwr:=fun W (hE:Ext w3 W)=>zpx vp vl (.slice av m cv) p v rs np m W (he.ext (hX3.trans hE)) (hE.sl hp3) (hE.mat hl3) ((hX3.trans hE).sl Hvs.out) hpk.pe hnp hm (by omega) (by omega) hep (by omega) hrb;have hvc:=fun W (hE:Ext w3 W)=>zhG vp (.slice av m cv) p v np m W (hE.sl hp3) ((hX3.trans hE).sl Hvs.out) hpk.pe hnp hm (by omega) (by omega);have hst:zhE np v=0→∀ j u W,j<K→Ext w3 W→Sl W u (zap (rs.getD j []))→Calls Tryz.prog 11 #[vp,.slice av m cv,u] W fun e w'=>e=.returned (.tuple #[.int .i64 (stN v (rs.getD j [])),.int .i64 (stE v (rs.getD j []))])∧Ext W w':=fun hv0 j u W hj hE hu=>by
    obtain ⟨h1,h2⟩:=hrb _ (hrow j hj);have hxe:zgo p (rs.getD j [])=0:=(zol hep).2.2.2 _ (hrow j hj);exact zhJ vp (.slice av m cv) u p v (rs.getD j []) np W (hE.sl hp3) ((hX3.trans hE).sl Hvs.out) hu hpk.pe hnp (by omega) hv0 hxe (by rw [h1,hnp]) fun i _=>zpw (zhF hv0).2 h2 i
   obtain ⟨ap,cp,rfl,_,_,_⟩:=hp3.parts;obtain ⟨vs,hvl2,hvs2,hrows⟩:=hl3;obtain ⟨al,cl,rfl,_,_,hcl⟩:=hvs2.parts;simp only [zar,hvl2,hnp,hK] at hnu hwr hvc hst hcl ⊢;have hbS:=zoe.new 32 w3 (.slice ap np cp) (.slice al K cl);have hx4:=(Ext.refl w3).alloc (.cells #[.slice ap np cp,.slice al K cl] 32);have c0:=hbS.c0;have c1:=hbS.c1;have hcc:∀ i,i<K→∃ u bl off,al=some ⟨bl,off,none⟩∧w3.cell? ⟨bl,off+i,none⟩=some u∧Sl w3 u (zap (rs.getD i [])):=fun i hi=>by
    obtain ⟨u,hu⟩:∃ u,vs[i]?=some u:=⟨_,List.getElem?_eq_getElem (by omega)⟩;obtain ⟨bl,off,e,h⟩:=hcl i u hu;exact ⟨u,bl,off,e,h,hrows i u hu⟩
   have hwp:zhh v rs≤K:=by
    unfold zhh;rw [hK]
    cases h:(List.range K).find? (fun i=>zhg v (rs.getD i []) != ((i+1:Nat):Int)) with
    | none=>exact Nat.zero_le _
    | some b=>exact List.mem_range.1 (List.mem_of_find?_eq_some h)
   have hK9:K≤9:=(by omega);have Hnu:=Lib.hid hnu;have Hwr:=Lib.hid hwr;have Hvc:=Lib.hid hvc;have Hst:=Lib.hid hst;have HX3:=Lib.hid hX3;have HbS:=Lib.hid hbS;have Hx4:=Lib.hid hx4;have Hcc:=Lib.hid hcc;have HK:=Lib.hid hK;clear hnu hwr hvc hst hX3 hbS hx4 hcc hK;clear Hmk hp3 hx3 hrows hcl hvs2 hvl2 Hx2 hrow hep hrb Hkn Hpl q0 q1 q2 q3;by_cases hv0:zhE np v=0
   ·have hst:=Hst.out hv0;have hwf:wrF np v rs=zhh v rs:=(by unfold wrF;rw [if_neg (by simpa using hv0)]);have hnu:=Hnu.out;have hwr:=Hwr.out;have hvc:=Hvc.out;simp only [hv0,hwf,decide_true,Bool.true_and] at hnu hwr hvc;have Hst:=Lib.hid hst;have Hnu:=Lib.hid hnu;have Hwr:=Lib.hid hwr;have Hvc:=Lib.hid hvc;clear hst hnu hwr hvc;clear hwf;go_wp2_with fail
    refine (Hnu.out _ Hx4.out).mono ?_;rintro e w5 ⟨rfl,hx5⟩;have hb5:=zoe.ext hx5 HbS.out;have d0:=hb5.c0;have d1:=hb5.c1;have h6:=Hwr.out w5 (Hx4.out.trans hx5);have Hx5:=Lib.hid hx5;have H6:=Lib.hid h6;clear hx5 h6;clear c0 c1 hb5 Hnu;generalize hq:zhh v rs=q at *;have Hq:=Lib.hid hq;clear hq;go_wp2_with fail
    refine H6.out.mono ?_;rintro e w6 ⟨rfl,hx6⟩;have hx6:=Hx5.out.trans hx6;have hb6:=zoe.ext hx6 HbS.out;have c0:=hb6.c0;have c1:=hb6.c1;have h7:=Hvc.out w6 (Hx4.out.trans hx6);have Hx6:=Lib.hid hx6;have H7:=Lib.hid h7;clear hx6 h7;clear d0 d1 hb6 Hx5 H6 Hwr;go_wp2_with fail
    refine H7.out.mono ?_;rintro e w7 ⟨rfl,hx7⟩;have hx7:=Hx6.out.trans hx7;have hb7:=zoe.ext hx7 HbS.out;have d0:=hb7.c0;have d1:=hb7.c1;have Hx7:=Lib.hid hx7;have Hb7:=Lib.hid hb7;clear hx7 hb7;clear c0 c1 Hx6 H7 Hvc;go_wp2_with fail
    clear d0 d1;go_loopw [12,13] (fun v12 v13 wr=>∃ (i z:Nat),v13=.int .i64 i∧i≤K∧v12=.int .i64 z∧Hid (zp0 v rs i z)∧Hid (Ext w7 wr)) (fun _ v13 _=>(zal v13).toNat)
    case atStart=>exact ⟨K,0,rfl,Nat.le_refl _,rfl,Lib.hid (by rw [← HK.out];exact zp0.nil),Lib.hid (Ext.refl _)⟩
    case round =>
     obtain ⟨i,z,rfl,hiK,rfl,HL,HE⟩:=hrel;have hbr:=zoe.ext HE.out Hb7.out;have c0:=hbr.c0;have c1:=hbr.c1
     cases i with
     | zero =>
      have hzq:=HL.out.done
      rw [Hq.out] at hzq
      subst hzq
      have hEr:=(HX3.out.trans (Hx4.out.trans Hx7.out)).trans HE.out
      have HEr:=Lib.hid hEr;clear hEr
      by_cases hz0:z=0
      ·subst hz0
       go_wp2_with fail
       go_ret
       exact ⟨rfl,HEr.out⟩
      ·have hz1:((z:Int) == 0)=false:=beq_eq_false_iff_ne.2 (by omega)
       have hz2:decide (0<z)=true:=decide_eq_true (by omega)
       have hz3:decide ((z:Int) > 0)=true:=decide_eq_true (by omega)
       go_wp2_with fail
       go_ret
       exact ⟨rfl,HEr.out⟩
     | succ j =>
      have hjK:j<K:=hiK
      obtain ⟨u,bl,off,rfl,g1,g2⟩:=Hcc.out j hjK
      obtain ⟨au,cu,rfl,_,_,_⟩:=g2.parts
      have hxr:=(Hx4.out.trans Hx7.out).trans HE.out
      have g3:=hxr.cell g1
      have h8:=fun W (hE:Ext wr W)=>Hst.out j _ W hjK (hxr.trans hE) ((hxr.trans hE).sl g2)
      generalize (zap (rs.getD j [])).length=lx at *
      have hw1:IntKind.i64.wrap ((j:Int)+1 - 1)=(j:Int):=by rw [IntWalk.i64_in _ (by omega)];omega
      have hw2:IntKind.i64.wrap (j:Int)=(j:Int):=IntWalk.i64_in _ (by omega)
      have hw3:IntKind.i64.wrap (((j+1:Nat):Int) - 1)=(j:Int):=by rw [IntWalk.i64_in _ (by omega)];omega
      have hj1:(0:Int)≤(j:Int):=by omega
      have hj2:(j:Int)<(K:Int):=by omega
      have hj3:((j+1:Nat):Int) ≥ 1:=by omega
      have hjr:j<rs.length:=by rw [HK.out];exact hjK
      have hlo:=fun h=>HL.out.ok (i:=j) h
      have hba:=fun h=>zp0.bad (v:=v) (l:=rs) (i:=j) hjr h
      have hso:=fun h=>zp1 (v:=v) (x:=rs.getD j []) (j:=j) (by omega) h
      have hsb:=fun h=>zp2 (v:=v) (x:=rs.getD j []) (j:=j) h
      generalize stN v (rs.getD j [])=sn at *
      generalize stE v (rs.getD j [])=se at *
      generalize (zhg v (rs.getD j []) != ((j+1:Nat):Int))=bb at *
      have H8:=Lib.hid h8;have Hxr:=Lib.hid hxr;have Hlo:=Lib.hid hlo;have Hba:=Lib.hid hba;have Hso:=Lib.hid hso;have Hsb:=Lib.hid hsb;clear h8 hxr hlo hba hso hsb
      clear g1 g2 hbr hjr
      go_wp2_with fail
      go_region_held3 (fun w'=>Ext wr w'∧w'.cell? ⟨w3.heap.size,0,none⟩=some (.slice ap np cp)∧w'.cell? ⟨w3.heap.size,1,none⟩=some (.slice (some ⟨bl,off,none⟩) K cl)∧w'.cell? ⟨bl,off+j,none⟩=some (.slice au lx cu))
       (first | (with_reducible assumption) | exact ⟨(Ext.refl wr).drew,c0,c1,g3⟩)
       (first | (go_at_call 11;refine (H8.out _ (And.left (by assumption))).mono ?_;rintro e9 VA ⟨rfl,hxa⟩;have hEA:=((Ext.refl wr).drew).trans hxa;have hS2:Ext wr VA∧VA.cell? ⟨w3.heap.size,0,none⟩=some (.slice ap np cp)∧VA.cell? ⟨w3.heap.size,1,none⟩=some (.slice (some ⟨bl,off,none⟩) K cl)∧VA.cell? ⟨bl,off+j,none⟩=some (.slice au lx cu):=⟨hEA,hEA.cell c0,hEA.cell c1,hEA.cell g3⟩;have HEA:=Lib.hid hEA;clear hxa hEA))
      have HEr:=Lib.hid (HE.out.trans HEA.out)
      clear hS2 HEA c0 c1 g3
      cases bb with
      | false =>
       obtain ⟨h1,h2⟩:=Hso.out rfl
       subst h1 h2
       have HLo:=Lib.hid (Hlo.out rfl)
       clear Hlo Hba Hso Hsb
       go_wp2_with fail
       go_roundw
       case rel=>exact ⟨j,z,by go_num,by omega,rfl,HLo,HEr⟩
       case measure=>simp [zal]
      | true =>
       have HBa:=Lib.hid (Hba.out rfl)
       rcases Hsb.out rfl with h1 | ⟨h1,h2⟩
       ·clear Hlo Hba Hso Hsb
        go_wp2_with fail
        go_roundw
        case rel=>exact ⟨j,j+1,by go_num,by omega,by go_num,HBa,HEr⟩
        case measure=>simp [zal]
       ·subst h1
        have h3:(sn != (j:Int)+1)=true:=h2
        clear Hlo Hba Hso Hsb
        go_wp2_with fail
        go_roundw
        case rel=>exact ⟨j,j+1,by go_num,by omega,by go_num,HBa,HEr⟩
        case measure=>simp [zal]
   ·have hwf:wrF np v rs=0:=(by unfold wrF;rw [if_pos hv0]);have hnu:=Hnu.out;have hwr:=Hwr.out;have hvc:=Hvc.out;simp only [hv0,hwf,decide_false,Bool.false_and,Nat.lt_irrefl] at hnu hwr hvc;clear Hst Hcc Hnu Hwr Hvc hwf;generalize zhE np v=e0 at *;have hen:(e0 != 0)=true:=(by rw [bne_iff_ne];exact hv0);have Hnu:=Lib.hid hnu;have Hwr:=Lib.hid hwr;have Hvc:=Lib.hid hvc;clear hnu hwr hvc;go_wp2_with fail
    refine (Hnu.out _ Hx4.out).mono ?_;rintro e w5 ⟨rfl,hx5⟩;have hb5:=zoe.ext hx5 HbS.out;have d0:=hb5.c0;have d1:=hb5.c1;have h6:=Hwr.out w5 (Hx4.out.trans hx5);have Hx5:=Lib.hid hx5;have H6:=Lib.hid h6;clear hx5 h6;clear c0 c1 hb5 Hnu;go_wp2_with fail
    refine H6.out.mono ?_;rintro e w6 ⟨rfl,hx6⟩;have hx6:=Hx5.out.trans hx6;have hb6:=zoe.ext hx6 HbS.out;have c0:=hb6.c0;have c1:=hb6.c1;have h7:=Hvc.out w6 (Hx4.out.trans hx6);have Hx6:=Lib.hid hx6;have H7:=Lib.hid h7;clear hx6 h7;clear d0 d1 hb6 Hx5 H6 Hwr;go_wp2_with fail
    refine H7.out.mono ?_;rintro e w7 ⟨rfl,hx7⟩;have hEr:=HX3.out.trans (Hx4.out.trans (Hx6.out.trans hx7));have HEr:=Lib.hid hEr;clear hEr;clear c0 c1 hx7;go_wp2_with fail
    go_ret
    exact ⟨rfl,HEr.out⟩
  ·have h9d:decide ((m:Int) > 8)=true:=decide_eq_true (by omega);clear Hmk Hft hQ hb;have Hft:=Lib.hid hft;clear hft;go_enter Tryz.func3,Tryz.ntmps3
   go_wp2_with fail
   refine (Hkn.out _ HX0.out).mono ?_;rintro e w1 ⟨rfl,hx1⟩;obtain ⟨q0,q1,q2,q3⟩:=Hpl.out w1 hx1;have Hx1:=Lib.hid hx1;clear hx1;go_wp2_with fail
   refine (Hft.out _).mono ?_;rintro e w2 ⟨rfl,hx2⟩;have hx2:=Hx1.out.trans hx2;clear q0 q1 q2 q3 Hx1;have h3:=Hkn.out _ (HX0.out.trans hx2);have Hx2:=Lib.hid hx2;have H3:=Lib.hid h3;clear hx2 h3;go_wp2_with fail
   refine H3.out.mono ?_;rintro e w3 ⟨rfl,hx3⟩;have hEr:=(HX0.out.trans Hx2.out).trans hx3;have HEr:=Lib.hid hEr;clear hEr;clear hx3;go_wp2_with fail
   go_ret
   exact ⟨rfl,HEr.out⟩
 ·have h8d:decide (k≤8)=false:=decide_eq_false h8;have hft:=Hft.out;rw [h8d] at hft;clear Hmk Hft hQ hb;have Hft:=Lib.hid hft;clear hft;go_enter Tryz.func3,Tryz.ntmps3
  go_wp2_with fail
  refine (Hkn.out _ HX0.out).mono ?_;rintro e w1 ⟨rfl,hx1⟩;obtain ⟨q0,q1,q2,q3⟩:=Hpl.out w1 hx1;have Hx1:=Lib.hid hx1;clear hx1;go_wp2_with fail
  refine (Hft.out _).mono ?_;rintro e w2 ⟨rfl,hx2⟩;have hx2:=Hx1.out.trans hx2;clear q0 q1 q2 q3 Hx1;have h3:=Hkn.out _ (HX0.out.trans hx2);have Hx2:=Lib.hid hx2;have H3:=Lib.hid h3;clear hx2 h3;go_wp2_with fail
  refine H3.out.mono ?_;rintro e w3 ⟨rfl,hx3⟩;have hEr:=(HX0.out.trans Hx2.out).trans hx3;have HEr:=Lib.hid hEr;clear hEr;clear hx3;go_wp2_with fail
  go_ret
  exact ⟨rfl,HEr.out⟩
end
section
open Go.ChangeShapes Go.WideShapes Go.RowKit Go.Lib
theorem zp4 {w:World}{v:Value}{xs:List Int}(h:Sl w v (zap xs)):xs.length≤9223372036854775807:=by
 obtain ⟨_,c,_,h1,h2,_⟩:=h.parts;rw [zar] at h2;unfold maxLen at h1;omega
end
section
open Go.ChangeShapes Go.WideShapes Go.ChangeAt Go.WideMaps Go.WideElems Go.RowKit Go.Lib Go.Joins
section
variable {H : Type} {enc : TypeId × Value → H} {w : World} {base : Nat} {spare : Nat → Bool} {held : Bool}
theorem zp5 {n:Int}(h:(Lit.int .u8 n).wf=true):∃ k:Nat,n=(k:Int)∧k<256:=by
 have h2:0≤n∧n≤255:=by
  simp [Lit.wf,IntKind.min,IntKind.max,IntKind.signed,IntKind.bits] at h;omega
 exact ⟨n.toNat,by omega,by omega⟩
theorem zp6 {fuel:Nat}{c0 c1 c2 c3:Value}{x:DataW H × List MemPlace}(h:DataW.trod enc Tryz.prog w base spare held fuel 101 [c0,c1,c2,c3]=some x) :
  ∃ e:Q4,c0=.int .i8 e.1∧c1=.int .i8 e.2.1∧c2=.int .i8 e.2.2.1∧c3=.int .i8 e.2.2.2∧∀ z∈q4l e,-128≤z∧z≤127:=by
 obtain ⟨y0,y1,y2,y3,n,rfl,h0,h1,h2,h3⟩:=trod_array4 Tryz.underlying101 (show Tryz.prog.cellsOf 100=1 by kernel_rfl) h;obtain ⟨a,ha,rfl,wa⟩:=DataW.trod_int Tryz.underlying100 h0;obtain ⟨b,hb,rfl,wb⟩:=DataW.trod_int Tryz.underlying100 h1;obtain ⟨c,hc,rfl,wc⟩:=DataW.trod_int Tryz.underlying100 h2;obtain ⟨d,hd,rfl,wd⟩:=DataW.trod_int Tryz.underlying100 h3;simp only [List.cons.injEq,and_true] at ha hb hc hd;refine ⟨(a,b,c,d),ha,hb,hc,hd,fun z hz=>?_⟩;unfold q4l at hz;simp only [List.mem_cons,List.not_mem_nil,or_false] at hz;rcases hz with rfl | rfl | rfl | rfl
 ·exact bounds_i8 wa
 ·exact bounds_i8 wb
 ·exact bounds_i8 wc
 ·exact bounds_i8 wd
theorem zp7 {w:World}{a:Addr}{cs:List Value}(h:w.cells? 0 a 4=some cs):∃ c0 c1 c2 c3,cs=[c0,c1,c2,c3]∧w.cell? (a.add 0)=some c0∧w.cell? (a.add 1)=some c1∧w.cell? (a.add 2)=some c2∧w.cell? (a.add 3)=some c3:=by
 obtain ⟨_,hl,hg⟩:=World.cells?_some h;match cs,hl,hg with
 | [c0,c1,c2,c3],_,hg=>exact ⟨c0,c1,c2,c3,rfl,hg 0 (by omega),hg 1 (by omega),hg 2 (by omega),hg 3 (by omega)⟩
theorem zp8 {c:Value}{fuel:Nat}{x:DataW H × List MemPlace}(hf:DataW.trod enc Tryz.prog w 0 (fun _=>true) held fuel 22 [c]=some x) :
  ∃ (am:Option Addr)(Q:List Q4)(cm:Nat),c=.slice am Q.length cm∧QIn w am Q∧zo7 Q:=by
 rcases Go.Deep.open_slice Tryz.underlying22 hf with ⟨h1,_⟩ | ⟨a,len0,cap0,m,n,D,Pl,h1,_,hl,hm,hmm,_,hel⟩
 ·obtain rfl:c=.slice none 0 0:=by simpa using h1
  exact ⟨none,[],0,rfl,fun i e he=>by simp at he,fun e he=>by cases he⟩
 ·obtain rfl:c=.slice (some a) len0 cap0:=by simpa using h1
  have hml:len0≤m:=by rw [hmm];split <;> omega
  have each:∀ i,i<len0→∃ e:Q4,(w.cell? ((a.add (i * 4)).add 0)=some (.int .i8 e.1)∧w.cell? ((a.add (i * 4)).add 1)=some (.int .i8 e.2.1)∧w.cell? ((a.add (i * 4)).add 2)=some (.int .i8 e.2.2.1)∧w.cell? ((a.add (i * 4)).add 3)=some (.int .i8 e.2.2.2))∧∀ z∈q4l e,-128≤z∧z≤127:=by
   intro i hi;obtain ⟨cs',h2,h3⟩:=hel i (by omega);rw [show Tryz.prog.cellsOf 101=4 by kernel_rfl] at h2;obtain ⟨c0,c1,c2,c3,rfl,g0,g1,g2,g3⟩:=zp7 h2;obtain ⟨e,rfl,rfl,rfl,rfl,hs⟩:=zp6 h3;exact ⟨e,⟨g0,g1,g2,g3⟩,hs⟩
  let f:Nat→Q4:=fun i=>if h:i<len0 then Classical.choose (each i h) else (0,0,0,0);have hf':∀ i (h:i<len0),f i=Classical.choose (each i h):=fun i h=>by show (if h:i<len0 then _ else _)=_;rw [dif_pos h]
  refine ⟨some a,(List.range len0).map f,cap0,by rw [List.length_map,List.length_range],?_,?_⟩
  ·intro i e he;rw [List.getElem?_map] at he;have hi:i<len0:=by
    rcases Nat.lt_or_ge i len0 with g | g
    ·exact g
    ·rw [List.getElem?_eq_none (by rw [List.length_range];exact g)] at he;cases he
   rw [List.getElem?_range hi] at he;simp only [Option.map_some,Option.some.injEq] at he;have hc:=(Classical.choose_spec (each i hi)).1;rw [← hf' i hi,he] at hc;obtain ⟨bb,off,sp⟩:=a;obtain ⟨g0,g1,g2,g3⟩:=hc;obtain ⟨_,⟨f0,_,_,_⟩,_⟩:=each 0 (by omega);have hs:=World.cell?_spot f0;have hs':sp=none:=(by simpa [Addr.add] using hs);subst hs';have ha:∀ k,((⟨bb,off,none⟩:Addr).add (i * 4)).add k=⟨bb,off+i * 4+k,none⟩:=fun k=>by
    rw [Addr.add_lit,Addr.add_lit]
   rw [ha] at g0 g1 g2 g3;exact ⟨bb,off,rfl,g0,g1,g2,g3⟩
  ·intro e he;obtain ⟨i,hi,rfl⟩:=List.mem_map.1 he;have hi:=List.mem_range.1 hi;rw [hf' i hi];exact (Classical.choose_spec (each i hi)).2
theorem zp9 {r:Reach}{b0:Nat}{v:Value}{d:DataW H}{p:List MemPlace}(hv:Value.okWide Tryz.prog w r b0 24 v)(h:DataW.Trod enc Tryz.prog w 0 (fun _=>true) held 24 v d p) :
  ∃ (n o cm:Nat)(M:Bool)(am:Option Addr)(Q:List Q4),v=.agg #[.int .u8 n,.slice am Q.length cm,.bool M,.int .u8 o]∧n<256∧o<256∧QIn w am Q∧zo7 Q:=by
 obtain ⟨cs,rfl,hsz⟩:=okWide_struct Tryz.underlying24 hv;rw [show Tryz.prog.cellsOf 24=4 by kernel_rfl] at hsz;obtain ⟨l⟩:=cs;match l,hsz with
 | [c0,c1,c2,c3],_ =>
  obtain ⟨fuel,hf⟩:=h
  obtain ⟨y0,y1,y2,y3,k,hx,_,h0,h1,h2,h3⟩:=trod_struct4 Tryz.underlying24 hf
  simp only [Value.cells,show Tryz.prog.cellsOf 5=1 by kernel_rfl,show Tryz.prog.cellsOf 22=1 by kernel_rfl,show Tryz.prog.cellsOf 4=1 by kernel_rfl,List.drop_zero,List.take_succ_cons,List.take_zero,List.drop_succ_cons] at h0 h1 h2 h3
  obtain ⟨n,hn,_,wn⟩:=DataW.trod_int Tryz.underlying5 h0
  obtain ⟨am,Q,cm,rfl,hQ,hb⟩:=zp8 h1
  obtain ⟨M,hM,_⟩:=DataW.trod_bool Tryz.underlying4 h2
  obtain ⟨o,ho,_,wo⟩:=DataW.trod_int Tryz.underlying5 h3
  simp only [List.cons.injEq,and_true] at hn hM ho
  subst hn hM ho
  obtain ⟨n',rfl,hn'⟩:=zp5 wn
  obtain ⟨o',rfl,ho'⟩:=zp5 wo
  exact ⟨n',o',cm,M,am,Q,rfl,hn',ho',hQ,hb⟩
end
end
section
open Go.ChangeShapes Go.WideShapes Go.RowKit Go.Lib
theorem zpA {H:Type}{enc:TypeId × Value→H}{r:Reach}{b0:Nat}{w:World}{base:Nat}{spare:Nat→Bool}{held:Bool}{t:TypeId}{v:Value}{d:DataW H}{p:List MemPlace}(ht:Tryz.prog.underlying t=some (.slice 3))(hv:Value.okWide Tryz.prog w r b0 t v)(h:DataW.Trod enc Tryz.prog w base spare held t v d p) :
  ∃ xs:List Int,Sl w v (zap xs)∧∀ z∈xs,(Lit.int .i64 z).wf=true:=by
 obtain ⟨a,len,cap,rfl⟩:=okWide_slice ht hv;obtain ⟨fuel,hf⟩:=h;rcases open_ints ht Tryz.underlying3 (by kernel_rfl) hf with ⟨h1,_⟩ | ⟨a',len',cap',zs,h1,_,hl,hm,hz,_,hc,hw⟩
 ·simp only [Value.cells,List.cons.injEq,Value.slice.injEq,and_true] at h1;obtain ⟨rfl,rfl,rfl⟩:=h1;exact ⟨[],.inl ⟨none,0,rfl,Nat.zero_le _,rfl⟩,fun z h=>by cases h⟩
 ·simp only [Value.cells,List.cons.injEq,Value.slice.injEq,and_true] at h1;obtain ⟨rfl,rfl,rfl⟩:=h1;have hzl:len≤zs.length:=by rw [hz];split <;> omega
  refine ⟨zs.take len,?_,fun z h=>hw z (List.mem_of_mem_take h)⟩;rcases Nat.eq_zero_or_pos len with h0 | h0
  ·subst h0;exact .inl ⟨_,cap,rfl,hm,by simp [zap]⟩
  ·have h00:=hc 0 (by omega);obtain ⟨b,off,sp⟩:=a';have hs:=World.cell?_spot h00;have hs':sp=none:=by
    cases sp with
    | none=>rfl
    | some s=>simp [Addr.add] at hs
   subst hs';refine .inr ⟨b,off,cap,?_,?_,hm,fun i u hu=>?_⟩
   ·rw [zar,List.length_take,Nat.min_eq_left hzl]
   ·rw [zar,List.length_take,Nat.min_eq_left hzl];exact hl
   ·have hi:i<(zs.take len).length:=by
     have:=(List.getElem?_eq_some_iff.1 hu).1;rwa [zar] at this
    rw [zau hi] at hu;have hi2:i<len:=(by rw [List.length_take] at hi;omega);have:=hc i (by omega);have e:zas (zs.take len) i=zs.getD i 0:=by
     unfold zas;rw [List.getD_eq_getElem?_getD,List.getElem?_take_of_lt hi2,List.getD_eq_getElem?_getD]
    rw [← e,Option.some.inj hu] at this;rwa [show ((⟨b,off,none⟩:Addr).add i)=⟨b,off+i,none⟩ by unfold Addr.add;split <;> simp_all] at this
end
section
open Go.ChangeShapes Go.WideShapes Go.ChangeAt Go.WideMaps Go.WideElems Go.RowKit
section
variable {H : Type} {enc : TypeId × Value → H} {P : Program}
theorem zpB {f:Func}{s:ChangeSpec}{apart fresh handsOn again:Bool}{W W':World}{args:Array Value}{v:Value}{ds gs:List (DataW H)}{before pa pv:List MemPlace}
  (hW:DataW.Whole enc P f.params.toList s.vars apart W args.toList ds gs before)
  (hres:∀ (b:Nat)(sp:Nat→Bool)(hd:Bool),DataW.TrodAll enc P W' b sp hd f.resultTypes.toList (v.resultList f.resultTypes.size) (s.fn H (ds++gs)).results [])
  (hargs:∀ sp:Nat→Bool,(∀ p∈before,sp p.block=true)→DataW.TrodAll enc P W' 0 sp true f.params.toList args.toList (s.fn H (ds++gs)).args pa)
  (hvars:∀ sp:Nat→Bool,(∀ p∈before,sp p.block=true)→DataW.TrodVars enc P W' sp s.vars (s.fn H (ds++gs)).vars pv)
  (hps:before=pa++pv) (hb:Below W.heap.size W W')
  (hok:∀ (j:Nat)(t:TypeId)(r:Value),f.resultTypes[j]?=some t→(v.resultList f.resultTypes.size)[j]?=some r→Value.okWide P W' .any 0 t r) :
  s.post enc P f apart fresh handsOn again W args v W':=by
 have hlt:∀ p∈before,p.block<W.heap.size:=fun p hp=>hW.lt p hp;have hold:∀ p∈before,(fun b=>decide (b<W.heap.size)) p.block=true:=fun p hp=>by simpa using hlt p hp
 refine ⟨ds,gs,before,[],pa,pv,hW,hres _ _ _,hargs _ hold,hvars _ hold,World.keptBut_mono (fun p hp=>⟨hp,?_⟩) (hb.frame (·∈before)),fun _=>?_⟩
 ·rw [hps,List.mem_append] at hp;exact Or.inr hp
 ·obtain ⟨_,_,_,_,_,hz,hn⟩:=hW;refine ⟨hok,_,_,([]++pa)++pv,⟨[]++pa,pv,trodAll_append (hargs _ (fun _ _=>rfl)) (hres _ _ _),hvars _ (fun _ _=>rfl),rfl,?_,?_⟩,?_⟩
  ·intro b off hp;have hin:MemPlace.cell b off∈before:=(by rw [hps];simpa using hp);rw [hb.frozen (hlt _ hin)];exact hz b off hin
  ·intro ha;have:=hn ha;rw [hps] at this;simpa using this
  ·intro p hp _;rw [hps];simpa using hp
end
theorem zpC : ownKnob Tryz.prog.godebug=none:=by kernel_rfl
theorem zpD : (Tryz.prog.globals[2]?).map (·.type)=some 269:=by kernel_rfl
theorem zpE : Tryz.prog.cellsOf 137=1:=by kernel_rfl
theorem zpF : Tryz.prog.cellsOf 269=20:=by kernel_rfl
theorem zpG {W : World} (h : laidMetH Tryz.prog [("math/bits.deBruijn32tab", Rows.laid_math_bits_deBruijn32tab), ("math/bits.deBruijn64tab", Rows.laid_math_bits_deBruijn64tab), ("internal/strconv.uint64pow10", Rows.laid_internal_strconv_uint64pow10), ("strconv.ErrRange", Rows.laid_strconv_ErrRange), ("strconv.ErrSyntax", Rows.laid_strconv_ErrSyntax)] W) : Env W := by
 rw [MakeChecks.laidMetH_plain _ _ _ (by kernel_rfl)] at h;exact Lib.tabIs_of_head (k:=.u64) (zs:=Lib.pow10Tab) za3 zpD Tryz.underlying269 Tryz.underlying137 zpE zpF h.tail.tail
def zpH : List (String × DataW Unit) := [("math/bits.deBruijn32tab", Rows.laid_math_bits_deBruijn32tab), ("math/bits.deBruijn64tab", Rows.laid_math_bits_deBruijn64tab), ("internal/strconv.uint64pow10", Rows.laid_internal_strconv_uint64pow10), ("strconv.ErrRange", Rows.laid_strconv_ErrRange), ("strconv.ErrSyntax", Rows.laid_strconv_ErrSyntax)]
theorem zpI (os:Os)(args:Array Value):((World.laidAll Tryz.prog os zpH).forCall (fun _ _=>0) ⟨#[],args,[]⟩).Shaped Tryz.prog:=World.shaped_of_ZipB (by kernel_rfl) (by kernel_rfl)
theorem zpJ (os:Os)(args:Array Value):laidMetH Tryz.prog zpH ((World.laidAll Tryz.prog os zpH).forCall (fun _ _=>0) ⟨#[],args,[]⟩).memory:=by
 rw [MakeChecks.laidMetH_plain _ _ _ (by kernel_rfl)];exact laidMet_laidAll _ (by kernel_rfl) (by kernel_rfl)
theorem zpK : laidOutB Tryz.prog=true:=by kernel_rfl
section
variable {H : Type} {enc : TypeId × Value → H} {W W' : World} {sp : Nat → Bool}
theorem zpL : ∀ {ts:List TypeId}{vs:List Value}{ds:List (DataW H)}{ps:List MemPlace},(∀ t∈ts,Tryz.prog.readableRec t=true∧t<Tryz.prog.types.size) →
  DataW.TrodAll enc Tryz.prog W 0 (fun _=>true) true ts vs ds ps→(∀ x∈ps,W.sameAt W' x)→(∀ x∈ps,sp x.block=true)→DataW.TrodAll enc Tryz.prog W' 0 sp true ts vs ds ps
 | [],_,_,_,_,h,_,_=>by
  obtain ⟨rfl,rfl,rfl⟩:=trodAll_nil h;exact trodAll_mk0
 | t::ts,vs,ds,ps,hts,h,hs,hp=>by
  obtain ⟨v,vs',d,ds',p,p',rfl,rfl,rfl,h1,h2⟩:=trodAll_cons h;obtain ⟨hr,hw⟩:=hts t (List.mem_cons_self ..);exact trodAll_cons_mk (WideElems.Trod_stays zpK hr hw h1 (fun x hx=>hs x (List.mem_append_left _ hx)) (fun x hx=>hp x (List.mem_append_left _ hx)))
   (zpL (fun t ht=>hts t (List.mem_cons_of_mem _ ht)) h2 (fun x hx=>hs x (List.mem_append_right _ hx)) (fun x hx=>hp x (List.mem_append_right _ hx)))
end
theorem zpM {H:Type}{enc:TypeId × Value→H}{f:Func}{s:ChangeSpec}{W W':World}{args:Array Value}{ds:List (DataW H)}{before:List MemPlace}(hv:s.vars=[])(hts:∀ t∈f.params.toList,Tryz.prog.readableRec t=true∧t<Tryz.prog.types.size)
  (hres:f.resultTypes=#[4]) (hfn:s.fn H ds={ results:=[.lit (.bool true)],args:=ds })
  (hW:DataW.Whole enc Tryz.prog f.params.toList s.vars false W args.toList ds [] before) (hb:Below W.heap.size W W'):s.post enc Tryz.prog f false true false false W args (.bool true) W':=by
 have hW':=hW;obtain ⟨p,q,hA0,hV,rfl,_,_⟩:=hW;rw [hv] at hV;obtain ⟨_,rfl⟩:=trodVars_none hV;have hlt:∀ x∈p++[],x.block<W.heap.size:=fun x hx=>hW'.lt x hx;refine zpB (pa:=p) (pv:=[]) hW' (fun _ _ _=>?_) (fun sp hsp=>?_) (fun _ _=>?_) rfl hb ?_
 ·rw [List.append_nil,hfn,hres];exact trodAll_mk1 (shut_bool Tryz.underlying4 _)
 ·rw [List.append_nil,hfn];exact zpL hts hA0 (fun x hx=>hb.same (hlt x (List.mem_append_left _ hx))) (fun x hx=>hsp x (List.mem_append_left _ hx))
 ·rw [List.append_nil,hfn,hv];rfl
 ·exact ok_one hres rfl (okWide_bool_mk Tryz.underlying4 _)
end
end Go.Proofs.YtkdgmahilfnnmaaGreatDoor
