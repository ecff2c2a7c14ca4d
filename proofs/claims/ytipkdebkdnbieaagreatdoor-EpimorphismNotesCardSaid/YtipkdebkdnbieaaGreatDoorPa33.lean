/- Walk: epimorphism.Steps of a right set. (KEEPALL) A scale as a value. (KEEPALL) Lists of rows laid out of constants: out of XLwB. (KEEPALL) (Printed by rebase.py.) Walk: epimorphism.Scale of a right set. (KEEPALL) Walk: law 37's known returns true. (KEEPALL) Walks: law 37's sameRows and same where both are alike. (KEEPALL) -/
import Derived.Test.YtipkdebkdnbieaaGreatDoorPa21
import Derived.Test.YtipkdebkdnbieaaGreatDoorPa30
import Derived.Test.YtipkdebkdnbieaaGreatDoorPa09
import Derived.Test.YtipkdebkdnbieaaGreatDoorPa13
import Derived.Deep.RegionHeld3
import Derived.RegionTactic
import Derived.ChangeAlike
import Derived.Test.YtipkdebkdnbieaaGreatDoorPa18
import Derived.Test.YtipkdebkdnbieaaGreatDoorPa14
import Derived.Test.YtipkdebkdnbieaaGreatDoorPa29
import Derived.Test.YtipkdebkdnbieaaGreatDoorPa20
set_option maxRecDepth 100000
set_option maxHeartbeats 4000000
namespace Go.Proofs.YtipkdebkdnbieaaGreatDoor
section
open Go.RowKit Go.Lib Go.Shelf
theorem zql (vp vl:Value)(p:List Int)(l:List (List Int))(n K:Nat)(w:World)(he:Env w)(hp:Sl w vp (zap p))(hl:Mat w vl l)(hep:zhf p l=0)(hpn:p.length=n)(hK:l.length=K)(hn0:0<n)(hn:n≤4)(hS:zlL n l) :
  Calls Tryz.prog 19 #[.agg #[vp,vl]] w fun e w'=>∃ v,e=.returned (.tuple #[v,.int .i64 0])∧∃ rs,RwM w' w.heap.size w.heap.size v rs∧rs.map Rw.x=zlS n l K∧Ext w w':=by
 obtain ⟨i0,hi,hz0,hz1,hz2⟩:=info_parts zc1;obtain ⟨j0,hj,hy0,hy1,hy2⟩:=info_parts zns;have hK9:K≤9:=by have:=hS.few;omega
 have hrow:∀ i,i<K→(l.getD i []).length=n∧∀ j,-200≤zas (l.getD i []) j∧zas (l.getD i []) j≤200:=fun i hi=>hS.row (by omega);have hbef:∀ i,i<K→(zlR n l i).length=n∧∀ j,-200≤zas (zlR n l i) j∧zas (zlR n l i) j≤200:=fun i hi=>hS.low (by omega);have hrl:∀ i,(l.getD i []).length≤1000:=fun i=>by
  by_cases hi:i<K
  ·rw [(hrow i hi).1];omega
  ·rw [List.getD_eq_getElem?_getD,List.getElem?_eq_none (by omega)];simp
 have hck:=fun W (hE:Ext w W)=>zk8 vp vl p l W (he.ext hE) (hE.sl hp) (hE.mat hl) (by omega) (by omega) hrl;have hpl:=fun i (hi:i<K) u vb W (hu:Sl W u (zap (l.getD i [])))(hb:Sl W vb (zap (zlR n l i)))=>(show Calls Tryz.prog 46 #[u,.int .i64 (-1),vb] W fun e w'=>(∃ v,e=.returned (.tuple #[v,.bool true])∧zc2 w' W.heap.size v (zgN (l.getD i []) (-1) (zlR n l i)))∧Ext W w' from by
  obtain ⟨h1,h2⟩:=hrow i hi;obtain ⟨h3,h4⟩:=hbef i hi;have:=zgY u vb (l.getD i []) (zlR n l i) (-1) W hu hb (by rw [h1,h3]) (by omega) (fun j _=>by have:=h2 j;omega) (fun j _=>by have:=h4 j;omega);rw [zlQ (by rw [h1,h3]) (fun j _=>by have:=h2 j;have:=h4 j;omega)] at this;exact this)
 have hlen:=fun i (hi:i<K)=>(hrow i hi).1;have hpln:∀ i,i<K→(zgN (l.getD i []) (-1) (zlR n l i)).length=n:=fun i hi=>by rw [zgQ (by rw [(hrow i hi).1,(hbef i hi).1]),(hrow i hi).1]
 obtain ⟨ap,cp,rfl,_,_,_⟩:=hp.parts;obtain ⟨vs,hvl,hvs,hrows⟩:=hl;obtain ⟨am,cm,rfl,_,_,hcm⟩:=hvs.parts;simp only [zar,hpn,hvl,hK,hep] at hck hcm ⊢;have hcc:∀ i,i<K→∃ u bl off,am=some ⟨bl,off,none⟩∧w.cell? ⟨bl,off+i,none⟩=some u∧Sl w u (zap (l.getD i [])):=fun i hi=>by
  obtain ⟨u,hu⟩:∃ u,vs[i]?=some u:=⟨_,List.getElem?_eq_getElem (by omega)⟩;obtain ⟨bl,off,e,h⟩:=hcm i u hu;exact ⟨u,bl,off,e,h,hrows i u hu⟩
 have hbA:=zmh.new 31 w (.slice ap n cp) (.slice am K cm);have hX0:Ext w (w.alloc (.cells #[.slice ap n cp,.slice am K cm] 31)):=(Ext.refl w).alloc _;have hst:=zlT n l;have hsl:=zlU n l;have hbs:=zlV n l;have c0:=hbA.c0;have c1:=hbA.c1;have Hck:=hid hck;have Hpl:=hid hpl;have Hlen:=hid hlen;have Hcc:=hid hcc;have HbA:=hid hbA;have HX0:=hid hX0;have Hst:=hid hst;have Hsl:=hid hsl;have Hbs:=hid hbs;have Hpln:=hid hpln;clear hck hpl hlen hcc hbA hX0 hst hsl hbs hpln;clear hp hvs hvl hrows hcm he hep hrl hrow hbef hS;go_enter Tryz.func19,Tryz.ntmps19
 go_wp2_with fail
 generalize w.alloc (.cells #[.slice ap n cp,.slice am K cm] 31)=W0 at *;refine (Hck.out _ HX0.out).mono ?_;rintro e w1 ⟨rfl,hx1⟩;have hbA1:=zmh.ext hx1 HbA.out;have c2:=hbA1.c0;have c3:=hbA1.c1;have Hx1:=hid hx1;clear hx1;clear c0 c1 hbA1;go_wp2_with (at_make;refine wpList_make_full _ rfl _ _ 33 rfl w1.heap.size 3 i0 (.int .i64 0) 1 Tryz.underlying33 hi hz0 hz1 _ _ _ _ n rfl rfl rfl rfl (by rw [hz2];omega) (by unfold maxLen;omega) (Nat.le_refl _) ?_;intro w2 hown hgrow;have hO:=zmg hown;have hx2:Ext w1 w2:=(Ext.refl _).grown hgrow (by simp);have hbA2:=zmh.ext (Hx1.out.trans hx2) HbA.out;have d0:=hbA2.c0;have d1:=hbA2.c1;have HO:=hid hO.sl;have Hx2:=hid (Hx1.out.trans hx2);clear hO hown hgrow hx2 hbA2)
 rw [zlM] at HO;clear c2 c3 d0 d1;go_loopw [5,6,23] (fun v5 v6 v23 wr=>∃ (i:Nat)(rs:List Rw)(a:Option Addr)(c:Nat),v23=.int .i64 i∧i≤K∧v6=.slice a n c∧Hid (Sl wr (.slice a n c) (zap (zlR n l i)))∧Hid (RwM wr w.heap.size w.heap.size v5 rs)∧Hid (rs.map Rw.x=zlS n l i)∧Hid (Ext w wr)) (fun _ _ v23 _=>K - (zal v23).toNat)
 case atStart=>exact ⟨0,[],_,_,rfl,Nat.zero_le _,rfl,HO,hid ⟨World.ownsRow_nil _ _ _ 1,fun r h=>by cases h⟩,hid rfl,hid (HX0.out.trans Hx2.out)⟩
 case round =>
  obtain ⟨i,rs,a6,c6,rfl,hiK,rfl,HB,HR,HM,HE⟩:=hrel;have hrl:rs.length=i:=by
   have h:=congrArg List.length HM.out;rw [List.length_map,Hsl.out] at h;exact h
  obtain ⟨a5,c5,e5⟩:=zc3 HR.out.1;subst e5;by_cases hin:i<K
  ·obtain ⟨u,bl,off,rfl,g1,g2⟩:=Hcc.out i hin;have hEw:=HE.out;have hcu:=hEw.cell g1;have h1:=Hpl.out i hin u _ wr (hEw.sl g2) HB.out;have hpl9:=Hpln.out i hin;have hst9:=Hst.out i;have hu9:=g2;have hbs9:=Hbs.out i;obtain ⟨ax,cx,eu,_,_,_⟩:=g2.parts;rw [zar,Hlen.out i hin] at eu;subst eu;generalize zgN (l.getD i []) (-1) (zlR n l i)=xr at *;have hk1:(0:Int)≤(i:Int):=(by omega);have hk2:(i:Int)<(K:Int):=(by omega);have Hrl:=hid hrl;have H1:=hid h1;have Hpl9:=hid hpl9;have Hst9:=hid hst9;have Hu9:=hid hu9;have Hbs9:=hid hbs9;clear h1 hpl9 hst9 hu9 hbs9;clear g1 g2 hEw hrl;go_wp2_with fail
   refine H1.out.mono ?_;rintro e w3 ⟨⟨v3,rfl,ho3⟩,hx3⟩;have hs3:∃ a c,v3=.slice a n c:=by
    obtain ⟨a,c,e⟩:=zc3 ho3;rw [Hpl9.out] at e;exact ⟨a,c,e⟩
   obtain ⟨a3,c3,rfl⟩:=hs3;have HR3:=hid (HR.out.ext hx3);have hEs:=HE.out.size;have Ho3:=hid (zam ho3 hEs);have HE3:=hid (HE.out.trans hx3);have hqo:=HR3.out.1;have hm3:rs.length+1≤maxLen:=(by unfold maxLen;have:=Hrl.out;omega);have hm4:(rs.length+1) * 24≤140737488355328:=(by have:=Hrl.out;omega);have hbase:w.heap.size≤w3.heap.size:=HE3.out.size;clear ho3 hx3 hcu hEs;go_wp2_with (at_builtin;refine wpList_append_own _ rfl _ _ 29 rfl w.heap.size 33 j0 (.slice none 0 0) 1 24 Tryz.underlying29 hj hy0 hy1 hy2 rfl (by decide) _ _ _ rfl (hqo.alloc _) ⟨w3.heap.size,0,none⟩ 1 1 [.slice a3 n c3] rfl rfl (cell_one_new _ _ _) (by simp [Value.oneCell']) hm3 hm4 (by rw [World.size_alloc];omega) ?_;intro v7 V7 hown7 hgrow7 _)
   go_roundw
   case rel =>
    have hmo:=HR3.out.more (r:=⟨xr,.slice a3 n c3,rfl⟩) ⟨Ho3.out,by show xr.length≤1000000;rw [Hpl9.out];omega⟩ hown7 hgrow7;have hE7:Ext w V7:=(HE3.out.alloc _).grown hgrow7 fun q hq=>(World.ownsRow.lt hqo q hq).1;exact ⟨i+1,rs++[⟨xr,.slice a3 n c3,rfl⟩],_,_,by go_num,hin,rfl,hid (by rw [Hbs9.out];exact hE7.sl Hu9.out),hid hmo,hid (by rw [Hst9.out,List.map_append,HM.out];rfl),hid hE7⟩
   case measure=>simp [zal];omega
  ·have hie:i=K:=(by omega);subst hie;go_wp2
   go_ret2
   exact ⟨_,rfl,rs,HR.out,HM.out,HE.out⟩
end
section
open Go.RowKit Go.Lib
def ScV (w:World)(v:Value)(p:List Int)(rs:List Qw):Prop:=∃ vp vn,v=.agg #[vp,vn]∧Sl w vp (zap p)∧RdM w vn rs
theorem ScV.ext {w w':World}{v:Value}{p:List Int}{rs:List Qw}(h:ScV w v p rs)(hx:Ext w w'):ScV w' v p rs:=by
 obtain ⟨vp,vn,e,a,b⟩:=h;exact ⟨vp,vn,e,hx.sl a,hx.rdM b⟩
end
section
open Go.RowKit Go.Lib
open Go.RowKit Go.Lib Go.Shelf
theorem zqm {w:World}{b:Nat}{xs:List Value}{t:TypeId}(h:w.heap[b]?=some (.cells xs.toArray t (0,0)))(hm:xs.length≤maxLen):Sl w (.slice (some ⟨b,0,none⟩) xs.length xs.length) xs:=by
 refine .inr ⟨b,0,xs.length,rfl,Nat.le_refl _,hm,fun i u hu=>?_⟩;unfold World.cell?;rw [h];simpa using hu
theorem zqn {w:World}{b:Nat}{us:List Value}{l:List (List Int)}{t:TypeId}(h:w.heap[b]?=some (.cells us.toArray t (0,0)))(hl:us.length=l.length)(hm:us.length≤maxLen)(hr:∀ i u,us[i]?=some u→Sl w u (zap (l.getD i []))):Mat w (.slice (some ⟨b,0,none⟩) us.length us.length) l :=
 ⟨us,hl,zqm h hm,hr⟩
theorem zqo {w:World}{b n:Nat}{cs:Array Value}{t:TypeId}(xs:List Value)(h:w.heap[b]?=some (.cells cs t (0,0)))(hx:cs.toList=xs)(hn:xs.length=n)(hm:n≤1000):Sl w (.slice (some ⟨b,0,none⟩) n n) xs:=by
 subst hn;subst hx;exact zqm (t:=t) h (by unfold maxLen;omega)
def zqp (b:Nat)(rows:List (List Int)):List Obj:=rows.map (fun x=>Obj.cells (zap x).toArray 3 (0,0))++[Obj.cells ((List.range rows.length).map fun i=>Value.slice (some ⟨b+i,0,none⟩) (rows.getD i []).length (rows.getD i []).length).toArray 33 (0,0)]
def zqq (w:World)(rows:List (List Int)):World:=(zqp w.heap.size rows).foldl World.alloc w
theorem zqr (w:World)(rows:List (List Int))(h:rows.length≤1000)(hr:∀ x∈rows,x.length≤1000):Mat (zqq w rows) (.slice (some ⟨w.heap.size+rows.length,0,none⟩) rows.length rows.length) rows∧Ext w (zqq w rows):=by
 refine ⟨?_,zhu w _⟩;have hl:(zqp w.heap.size rows).length=rows.length+1:=by simp [zqp]
 have hb:=zhs (zqp w.heap.size rows) w rows.length (by omega);have e:(zqp w.heap.size rows)[rows.length]?=some (Obj.cells ((List.range rows.length).map fun i=>Value.slice (some ⟨w.heap.size+i,0,none⟩) (rows.getD i []).length (rows.getD i []).length).toArray 33 (0,0)):=by
  unfold zqp;rw [List.getElem?_append_right (by simp)];simp
 rw [e] at hb;have hlen:((List.range rows.length).map fun i=>Value.slice (some ⟨w.heap.size+i,0,none⟩) (rows.getD i []).length (rows.getD i []).length).length=rows.length:=by simp
 have:=zqn (w:=zqq w rows) (l:=rows) hb hlen (by rw [hlen];unfold maxLen;omega) (fun i u hu=>by
  rw [List.getElem?_map] at hu;rcases Nat.lt_or_ge i rows.length with g | g
  ·rw [List.getElem?_range g] at hu;simp only [Option.map_some,Option.some.injEq] at hu;subst hu;have hi:=zhs (zqp w.heap.size rows) w i (by omega);have e2:(zqp w.heap.size rows)[i]?=some (Obj.cells (zap (rows.getD i [])).toArray 3 (0,0)):=by
    unfold zqp;rw [List.getElem?_append_left (by simpa using g),List.getElem?_map,List.getD_eq_getElem?_getD,List.getElem?_eq_getElem g];rfl
   rw [e2] at hi;exact zqo (zap (rows.getD i [])) hi rfl (by rw [zar]) (by
    rw [List.getD_eq_getElem?_getD,List.getElem?_eq_getElem g];exact hr _ (List.getElem_mem g))
  ·rw [List.getElem?_eq_none (by simpa using g)] at hu;cases hu)
 rw [hlen] at this;exact this
end
section
open Go.RowKit Go.Lib Go.Shelf
theorem zqs {W:World}{b B:Nat}{v:Value}{rs:List Qw}(h:QwM W b B v rs){c:Nat}{cs:Array Value}(hc:W.heap[c]?=some (.cells cs 53 (0,0)))(k:Nat)(u:Value):QwM (W.setCell ⟨c,k,none⟩ u) b B v rs :=
 ⟨zfA hc h.1 (by decide) k u,fun r hr=>zfA hc (h.2 r hr) (by decide) k u⟩
theorem zqt {w0 W V:World}{b B:Nat}{o:Obj}{v v7:Value}{rs:List Qw}{r:Qw}(hE:Ext w0 W)(hB:w0.heap.size≤B)(h:QwM W b B v rs)(hr:zfe W b r.u r.x)
  (hown:V.ownsRow B 65 1 v7 (rs.length+1) (qwc rs++[r.u])) (hgrow:(W.alloc o).grownBy V v.ownBlock):QwM V b B v7 (rs++[r])∧Ext w0 V:=by
 have hal:=h.1.alloc o;have hkeep:∀ s:Qw,zfe W b s.u s.x→zfe V b s.u s.x:=fun s hs=>World.ownsRow.kept (World.ownsRow.alloc hs o) hgrow (zc5 (World.ownsRow.alloc hs o) hal (by decide));refine ⟨⟨?_,fun s hs=>?_⟩,(hE.alloc o).grown hgrow fun k hk=>Nat.le_trans hB (World.ownsRow.lt hal k hk).1⟩
 ·rw [List.length_append,List.length_singleton,zpH];exact hown
 ·rcases List.mem_append.1 hs with g | g
  ·exact hkeep s (h.2 s g)
  ·rw [List.mem_singleton] at g;subst g;exact hkeep s hr
structure N37 (W6:World)(bs:Nat)(vp:Value)(xs:List (List Rat))(vn:Value)(nts:List Qw)(wr:World):Prop where
 b:zmh 53 wr bs vp vn
 q:QwM wr W6.heap.size W6.heap.size vn nts
 m:nts.map Qw.x=xs
 x:Ext W6 wr
theorem N37.ext {W6 wr w':World}{bs:Nat}{vp vn:Value}{xs:List (List Rat)}{nts:List Qw}(h:N37 W6 bs vp xs vn nts wr)(hx:Ext wr w'):N37 W6 bs vp xs vn nts w':=⟨zmh.ext hx h.b,hx.qwM h.q,h.m,h.x.trans hx⟩
theorem N37.more {W6 W V:World}{bs:Nat}{vp vn v7 u:Value}{x:List Rat}{nts:List Qw}{xs:List (List Rat)}{o:Obj}(h:N37 W6 bs vp xs vn nts W)(hbs:W6.heap.size≤bs)(ho:zfe W W6.heap.size u x)
  (hown:V.ownsRow W6.heap.size 65 1 v7 (nts.length+1) (qwc nts++[u])) (hgrow:(W.alloc o).grownBy V vn.ownBlock):N37 W6 bs vp (xs++[x]) v7 (nts++[⟨x,u,zfi ho.rd⟩]) (V.setCell ⟨bs,1,none⟩ v7):=by
 have h1:=zqt (r:=⟨x,u,zfi ho.rd⟩) h.x (Nat.le_refl _) h.q ho hown hgrow;have hbV:zmh 53 V bs vp vn:=zf7 (((Ext.refl W).alloc o).heap h.b) (World.ownsRow.alloc h.q.1 o) (by decide) hgrow;exact ⟨hbV.put1 v7,zqs h1.1 hbV 1 v7,by rw [List.map_append,h.m];rfl,h1.2.setCell (p:=⟨bs,1,none⟩) hbs v7⟩
theorem zqu (vp vl:Value)(p:List Int)(l:List (List Int))(n K:Nat)(w:World)(he:Env w)(hp:Sl w vp (zap p))(hl:Mat w vl l)(hep:zhf p l=0)(hpn:p.length=n)(hK:l.length=K)(hn0:0<n)(hn:n≤4)(hK9:K≤9)(hrow:∀ x∈l,x.length=n)(hone:∀ x∈l,zgu p x=0) :
  Calls Tryz.prog 17 #[.agg #[vp,vl]] w fun e w'=>∃ sv,e=.returned (.tuple #[sv,.int .i64 0])∧∃ rs,ScV w' sv p rs∧rs.map Qw.x=l.map ziS∧Ext w w':=by
 obtain ⟨j0,hj,hy0,hy1,hy2⟩:=info_parts zfg;have hmem:∀ i,i<K→l.getD i []∈l:=fun i hi=>by
  rw [List.getD_eq_getElem?_getD,List.getElem?_eq_getElem (by omega)];exact List.getElem_mem _
 have hrl:∀ i,(l.getD i []).length≤1000:=fun i=>by
  by_cases hi:i<K
  ·rw [hrow _ (hmem i hi)];omega
  ·rw [List.getD_eq_getElem?_getD,List.getElem?_eq_none (by omega)];simp
 have hck:=fun W (hE:Ext w W)=>zk8 vp vl p l W (he.ext hE) (hE.sl hp) (hE.mat hl) (by omega) (by omega) hrl;have hcl:=fun W (hE:Ext w W)=>zpG vp p W (hE.sl hp) (by omega) (fun h=>by rw [h] at hpn;simp at hpn;omega);have hof:=fun i (hi:i<K) u W (hE:Ext w W)(hu:Sl W u (zap (l.getD i [])))=>zjz vp u p (l.getD i []) W (he.ext hE) (hE.sl hp) hu (hone _ (hmem i hi));have hlen:=fun i (hi:i<K)=>hrow _ (hmem i hi);obtain ⟨ap,cp,rfl,_,_,_⟩:=hp.parts;obtain ⟨vs,hvl,hvs,hrows⟩:=hl;obtain ⟨am,cm,rfl,_,_,hcm⟩:=hvs.parts;simp only [zar,hpn,hvl,hK,hep] at hck hcl hof hcm ⊢;have hcc:∀ i,i<K→∃ u bl off,am=some ⟨bl,off,none⟩∧w.cell? ⟨bl,off+i,none⟩=some u∧Sl w u (zap (l.getD i [])):=fun i hi=>by
  obtain ⟨u,hu⟩:∃ u,vs[i]?=some u:=⟨_,List.getElem?_eq_getElem (by omega)⟩;obtain ⟨bl,off,e,h⟩:=hcm i u hu;exact ⟨u,bl,off,e,h,hrows i u hu⟩
 have hbA:zmh 31 ((w.alloc (.cells #[.slice ap n cp,.slice am K cm] 31)).alloc (.cells #[.slice none 0 0,.slice none 0 0] 53)) w.heap.size (.slice ap n cp) (.slice am K cm):=zmh.ext ((Ext.refl _).alloc _) (zmh.new 31 w (.slice ap n cp) (.slice am K cm));have hbB:=zmh.new 53 (w.alloc (.cells #[.slice ap n cp,.slice am K cm] 31)) (.slice none 0 0) (.slice none 0 0);rw [World.size_alloc] at hbB;have hX0:Ext w ((w.alloc (.cells #[.slice ap n cp,.slice am K cm] 31)).alloc (.cells #[.slice none 0 0,.slice none 0 0] 53)):=((Ext.refl w).alloc _).alloc _;have htk:∀ i,i<K→(l.take (i+1)).map ziS=(l.take i).map ziS++[ziS (l.getD i [])]:=fun i hi=>by
  rw [List.take_succ_eq_append_getElem (by omega),List.map_append,List.getD_eq_getElem?_getD,List.getElem?_eq_getElem (by omega)];rfl
 have hall:(l.take K).map ziS=l.map ziS:=by rw [List.take_of_length_le (by omega)]
 have c0:=hbA.c0;have c1:=hbA.c1;have Hck:=hid hck;have Hcl:=hid hcl;have Hof:=hid hof;have Hlen:=hid hlen;have Hcc:=hid hcc;have HbA:=hid hbA;have HbB:=hid hbB;have HX0:=hid hX0;have Htk:=hid htk;have Hall:=hid hall;clear hck hcl hof hlen hcc hbA hbB hX0 htk hall;clear hp hvs hvl hrows hcm he hep hrow hone hmem hrl;go_enter Tryz.func17,Tryz.ntmps17
 go_wp2_with fail
 generalize (w.alloc (.cells #[.slice ap n cp,.slice am K cm] 31)).alloc (.cells #[.slice none 0 0,.slice none 0 0] 53)=W0 at *;refine (Hck.out _ HX0.out).mono ?_;rintro e w1 ⟨rfl,hx1⟩;have hbA1:=zmh.ext hx1 HbA.out;have c2:=hbA1.c0;have c3:=hbA1.c1;have h1:=Hcl.out w1 (HX0.out.trans hx1);have Hx1:=hid hx1;have H1:=hid h1;clear hx1 h1;clear c0 c1 hbA1;go_wp2_with fail
 refine H1.out.mono ?_;rintro e w2 ⟨u2,rfl,ho2,hx2⟩;have hs2:∃ a c,u2=.slice a n c:=by
  obtain ⟨a,c,e⟩:=zc3 ho2;rw [hpn] at e;exact ⟨a,c,e⟩
 obtain ⟨a2,c2',rfl⟩:=hs2;have hX2:=Hx1.out.trans hx2;have hb6:=zmh.new 53 w2 (.slice a2 n c2') (.slice none 0 0);have hx6:=(Ext.refl w2).alloc (.cells #[.slice a2 n c2',.slice none 0 0] 53);have hN0:N37 w2 w2.heap.size (.slice a2 n c2') [] (.slice none 0 0) [] (w2.alloc (.cells #[.slice a2 n c2',.slice none 0 0] 53)):=⟨hb6,⟨World.ownsRow_nil _ _ _ 1,fun r h=>by cases h⟩,rfl,hx6⟩;have hbA2:=zmh.ext (hX2.trans hx6) HbA.out;have c0:=hbA2.c0;have c1:=hbA2.c1;have HX2:=hid hX2;have Ho2:=hid ho2;have HN0:=hid hN0;have Hx6:=hid hx6;clear hX2 ho2 hN0 hx6;clear hb6 hx2 Hx1 H1 c2 c3 hbA2 Hcl;go_upto_region 5 with fail
 generalize w2.alloc (.cells #[.slice a2 n c2',.slice none 0 0] 53)=W6 at *;go_wp2_with fail
 clear c0 c1;go_loopw [23] (fun v23 wr=>∃ (i:Nat)(vn:Value)(nts:List Qw),v23=.int .i64 i∧i≤K∧nts.length=i∧Hid (N37 w2 w2.heap.size (.slice a2 n c2') ((l.take i).map ziS) vn nts wr)) (fun v23 _=>K - (zal v23).toNat)
 case atStart=>exact ⟨0,_,_,rfl,Nat.zero_le _,rfl,HN0⟩
 case round =>
  obtain ⟨i,vn,nts,rfl,hiK,hni,HN⟩:=hrel;obtain ⟨avn,cvn,evn⟩:=zc3 HN.out.q.1;subst evn;have hEr:=HX2.out.trans HN.out.x;have hbr:=zmh.ext hEr HbA.out;have c0:=hbr.c0;by_cases hin:i<K
  ·obtain ⟨u,bl,off,rfl,g1,g2⟩:=Hcc.out i hin;have hEw:=HX0.out.trans hEr;have hcu:=hEw.cell g1;have h1:=Hof.out i hin u wr hEw (hEw.sl g2);have hrz:(ziS (l.getD i [])).length=n:=(by rw [zju];exact Hlen.out i hin);have htk:=Htk.out i hin;obtain ⟨ax,cx,eu,_,_,_⟩:=g2.parts;rw [zar,Hlen.out i hin] at eu;subst eu;generalize ziS (l.getD i [])=xr at *;have hk1:(0:Int)≤(i:Int):=(by omega);have hk2:(i:Int)<(K:Int):=(by omega);have Hni:=hid hni;have H1:=hid h1;have Hrz:=hid hrz;have Htk:=hid htk;clear h1 hrz htk;clear g1 g2 hbr hEw hni;go_wp2_with fail
   refine H1.out.mono ?_;rintro e w3 ⟨v3,rfl,ho3,hx3⟩;obtain ⟨a3,c3,e3,_,_,_⟩:=ho3.rd.parts;rw [Hrz.out] at e3;subst e3;have hN3:=HN.out.ext hx3;have hqo:=hN3.q.1;have hb3:=hN3.b;have q1:=hb3.c1;have hbase:=hN3.x.size;have ho4:=ho3.mono HN.out.x.size;have hm3:nts.length+1≤maxLen:=(by unfold maxLen;have:=Hni.out;omega);have hm4:(nts.length+1) * 24≤140737488355328:=(by have:=Hni.out;omega);have HN3:=hid hN3;have Ho4:=hid ho4;clear hN3 ho4;clear ho3 hx3 c0;go_wp2_with (at_builtin;refine wpList_append_own _ rfl _ _ 51 rfl w2.heap.size 65 j0 (.slice none 0 0) 1 24 Tryz.underlying51 hj hy0 hy1 hy2 rfl (by decide) _ _ _ rfl (hqo.alloc _) ⟨w3.heap.size,0,none⟩ 1 1 [.slice a3 n c3] rfl rfl (cell_one_new _ _ _) (by simp [Value.oneCell']) hm3 hm4 (by rw [World.size_alloc];omega) ?_;intro v7 V7 hown7 hgrow7 _;obtain ⟨a7,c7,e7⟩:=zc3 hown7;subst e7;have hbV:zmh 53 V7 w2.heap.size (.slice a2 n c2') (.slice avn nts.length cvn):=zf7 (((Ext.refl w3).alloc (.cells #[.slice a3 n c3] 65)).heap hb3) (World.ownsRow.alloc hqo _) (by decide) hgrow7;have q1V:=hbV.c1;have zV:=hbV.fz 1)
   go_roundw
   case rel =>
    have hmo:=HN3.out.more (Nat.le_refl _) Ho4.out hown7 hgrow7;exact ⟨i+1,_,nts++[⟨xr,.slice a3 n c3,rfl⟩],by go_num,hin,by rw [List.length_append,Hni.out];rfl,hid (by rw [Htk.out];exact hmo)⟩
   case measure=>simp [zal];omega
  ·have hie:i=K:=(by omega);subst hie;have hni2:=hni;have hbB2:=zmh.ext hEr HbB.out;have hm9:=HN.out.m;rw [Hall.out] at hm9;have hb:=HN.out.b;have d0:=hb.c0;have d1:=hb.c1;have r0:=hbB2.c0;have r1:=hbB2.c1;have z0:=hbB2.fz 0;have z1:=hbB2.fz 1;have ho9:=HN.out.x.own Ho2.out;have hq9:=HN.out.q;have hXr:=HX0.out.trans hEr;have Hm9:=hid hm9;have Ho9:=hid ho9;have Hq9:=hid hq9;have HXr:=hid hXr;clear hm9 ho9 hq9 hXr;clear hbr hni hni2 hEr;go_wp2_with fail
   have hfin:=hbB2.put (.slice a2 n c2') (.slice avn nts.length cvn);have hd0:=hfin.c0;have hd1:=hfin.c1;have hq4:=zqs (zqs Hq9.out hbB2 0 (.slice a2 n c2')) (hbB2.put0 (.slice a2 n c2')) 1 (.slice avn nts.length cvn);have ho4:=zfA (hbB2.put0 (.slice a2 n c2')) (zfA hbB2 Ho9.out (by decide) 0 (.slice a2 n c2')) (by decide) 1 (.slice avn nts.length cvn);exact bodyPost_ret (v:=.tuple #[.agg #[.slice a2 n c2',.slice avn nts.length cvn],.int .i64 0]) (by simp [results,Tryz.results17,go_sem,hd0,hd1]) rfl ⟨_,rfl,nts,⟨_,_,rfl,zan ho4,hq4.rd⟩,Hm9.out,(HXr.out.setCell (p:=⟨w.heap.size+1,0,none⟩) (by show w.heap.size≤w.heap.size+1;omega) _).setCell (p:=⟨w.heap.size+1,1,none⟩) (by show w.heap.size≤w.heap.size+1;omega) _⟩
def zqv (w:World)(b:Nat)(rows:List (List Int)):World:=(zqp b rows).foldl World.alloc w
theorem zqw (w:World)(b:Nat)(rows:List (List Int))(hb:w.heap.size=b)(h:rows.length≤1000)(hr:∀ x∈rows,x.length≤1000):Mat (zqv w b rows) (.slice (some ⟨b+rows.length,0,none⟩) rows.length rows.length) rows∧Ext w (zqv w b rows):=by
 subst hb;exact zqr w rows h hr
theorem zqx : ∀ (os:List Obj)(w:World),(os.foldl World.alloc w).heap.size=w.heap.size+os.length
 | [],_=>rfl
 | o::os,w=>by
  rw [List.foldl_cons,zqx os,World.size_alloc,List.length_cons];omega
theorem zqy (w:World)(b:Nat)(rows:List (List Int)):(zqv w b rows).heap.size=w.heap.size+(rows.length+1):=by
 unfold zqv;rw [zqx];unfold zqp;rw [List.length_append,List.length_map];rfl
theorem zqz (w:World):Calls Tryz.prog 27 #[] w fun e w'=>∃ p b n q c m,e=.returned (.agg #[.slice p b n,.slice q c m])∧Sl w' (.slice p b n) (zap [2,3,5])∧Mat w' (.slice q c m) zjo∧Ext w w':=by
 have hb:=zmh.new 31 w (.slice none 0 0) (.slice none 0 0);have c0:=hb.c0;have c1:=hb.c1;have z0:=hb.fz 0;have z1:=hb.fz 1;have hB:=(Ext.refl w).alloc (.cells #[.slice (some ⟨w.heap.size+1,0,none⟩) 3 3,.slice (some ⟨w.heap.size+1+1+7,0,none⟩) 7 7] 31);have hs1:(w.alloc (.cells #[.slice (some ⟨w.heap.size+1,0,none⟩) 3 3,.slice (some ⟨w.heap.size+1+1+7,0,none⟩) 7 7] 31)).heap.size=w.heap.size+1:=World.size_alloc ..;have hp0:=World.alloc_heap_new (w.alloc (.cells #[.slice (some ⟨w.heap.size+1,0,none⟩) 3 3,.slice (some ⟨w.heap.size+1+1+7,0,none⟩) 7 7] 31)) (.cells #[.int .i64 2,.int .i64 3,.int .i64 5] 3);have hs2:((w.alloc (.cells #[.slice (some ⟨w.heap.size+1,0,none⟩) 3 3,.slice (some ⟨w.heap.size+1+1+7,0,none⟩) 7 7] 31)).alloc (.cells #[.int .i64 2,.int .i64 3,.int .i64 5] 3)).heap.size=w.heap.size+1+1:=by rw [World.size_alloc,hs1]
 obtain ⟨hm,hE⟩:=zqw _ (w.heap.size+1+1) zjo hs2 (by decide) (by decide);rw [hs1] at hp0;have hp1:=hE.sl (zqo (n:=3) (zap [2,3,5]) hp0 rfl rfl (by omega));have hE9:=(hB.alloc (.cells #[.int .i64 2,.int .i64 3,.int .i64 5] 3)).trans hE;have hbx:=zmh.ext (((Ext.refl _).alloc (.cells #[.int .i64 2,.int .i64 3,.int .i64 5] 3)).trans hE) (zmh.new 31 w (.slice (some ⟨w.heap.size+1,0,none⟩) 3 3) (.slice (some ⟨w.heap.size+1+1+7,0,none⟩) 7 7));have Hm:=hid hm;have Hp1:=hid hp1;have HE9:=hid hE9;have Hbx:=hid hbx;clear hm hp1 hE9 hbx;clear hb hB hs1 hs2 hp0 hE;go_enter Tryz.func27,Tryz.ntmps27
 go_wp2_with fail
 show bodyPost _ _ _ _ _ (zqv ((w.alloc (.cells #[.slice (some ⟨w.heap.size+1,0,none⟩) 3 3,.slice (some ⟨w.heap.size+1+1+7,0,none⟩) 7 7] 31)).alloc (.cells #[.int .i64 2,.int .i64 3,.int .i64 5] 3)) (w.heap.size+1+1) zjo);generalize zqv ((w.alloc (.cells #[.slice (some ⟨w.heap.size+1,0,none⟩) 3 3,.slice (some ⟨w.heap.size+1+1+7,0,none⟩) 7 7] 31)).alloc (.cells #[.int .i64 2,.int .i64 3,.int .i64 5] 3)) (w.heap.size+1+1) zjo=W9 at *;have hd0:=Hbx.out.c0;have hd1:=Hbx.out.c1;exact bodyPost_ret (v:=.agg #[.slice (some ⟨w.heap.size+1,0,none⟩) 3 3,.slice (some ⟨w.heap.size+1+1+7,0,none⟩) 7 7]) (by simp [results,Tryz.results27,go_sem,hd0,hd1]) rfl ⟨_,_,_,_,_,_,rfl,Hp1.out,Hm.out,HE9.out⟩
def zq0 : List (List Int):=[[-3,2,0],[-2,0,1],[-1,1,0],[1,0,0]]
def ofZ : List (List Int):=[[0,1,0],[0,2,0],[0,3,0],[0,4,0],[0,0,0]]
def zq1 : List (List Int):=[[-1,1,0],[-3,2,0],[-4,3,0],[-6,4,0],[0,0,0]]
def zq2 : List (List Int):=[[-3,2,0],[-6,4,0],[-1,1,0],[-4,3,0]]
theorem zq3 {l:List (List Int)}{k:Nat}(h:(zjj l 0 [] []).map (fun r=>r.1.length)=some (k+1)):∀ mF aF,zjj l 0 [] []=some (mF,aF)→0<mF.length:=fun mF aF e=>by
 rw [e] at h;have:=Option.some.inj h;dsimp only at this;omega
theorem zq4 : (zjj zjo 0 [] []).map (fun r=>r.1.length)=some (2+1):=by decide +kernel
theorem zq5 : (zjj zq0 0 [] []).map (fun r=>r.1.length)=some (2+1):=by decide +kernel
theorem zq6 : (zjj (zq2++[zkt 2]) 0 [] []).map (fun r=>r.1.length)=some (1+1):=by decide +kernel
theorem zq7 : zhf [2,3,5] zjo=0:=by decide +kernel
theorem zq8 : zhf [2,3,5] zq0=0:=by decide +kernel
theorem zq9 : zhf [2,3,5] (zq2++[zkt 2])=0:=by decide +kernel
def zqA (x:List Int):Rat:=if x=[-3,2,0] then 0 else if x=[-6,4,0] then 1 else if x=[-1,1,0] then 2 else 3
theorem zqB : ∀ x∈zq1.filter nzI,∀ y∈zq1.filter nzI,(zhV [2,3,5] x y<0 ↔ zqA x<zqA y):=by decide +kernel
theorem zqC : ∀ x∈zq1.filter nzI,∀ y∈zq1.filter nzI,zqA x=zqA y→x=y:=by decide +kernel
theorem zqD : zq2.Perm (zq1.filter nzI):=by decide +kernel
theorem zqE : zq2.Pairwise fun x y=>zqA x≤zqA y:=by decide +kernel
theorem zqF (d:List (List Int))(h:d.Perm (zq1.filter nzI))(hs:d.Pairwise fun x y=>zqA x≤zqA y):d=zq2:=by
 refine List.Perm.eq_of_pairwise (le:=fun x y=>zqA x≤zqA y) (fun x y hx hy h1 h2=>?_) hs zqE (h.trans zqD.symm);exact zqC x (h.mem_iff.1 hx) y (zqD.mem_iff.1 hy) (Rat.le_antisymm h1 h2)
theorem zqG : ∀ (i:Nat)(x o:List Int),ofZ[i]?=some x→zq1[i]?=some o→zpL [2,3,5] 2 x o:=fun i x o hx ho=>by
 match i,hx,ho with
 | 0,hx,ho=>obtain rfl:=Option.some.inj hx;obtain rfl:=Option.some.inj ho;exact ⟨⟨0,[1,0],1,rfl,rfl,by decide +kernel,.inr (by unfold okE;decide +kernel),by decide +kernel,by decide,by decide,by decide +kernel⟩,by decide +kernel⟩
 | 1,hx,ho=>obtain rfl:=Option.some.inj hx;obtain rfl:=Option.some.inj ho;exact ⟨⟨0,[2,0],3,rfl,rfl,by decide +kernel,.inr (by unfold okE;decide +kernel),by decide +kernel,by decide,by decide,by decide +kernel⟩,by decide +kernel⟩
 | 2,hx,ho=>obtain rfl:=Option.some.inj hx;obtain rfl:=Option.some.inj ho;exact ⟨⟨0,[3,0],4,rfl,rfl,by decide +kernel,.inr (by unfold okE;decide +kernel),by decide +kernel,by decide,by decide,by decide +kernel⟩,by decide +kernel⟩
 | 3,hx,ho=>obtain rfl:=Option.some.inj hx;obtain rfl:=Option.some.inj ho;exact ⟨⟨0,[4,0],6,rfl,rfl,by decide +kernel,.inr (by unfold okE;decide +kernel),by decide +kernel,by decide,by decide,by decide +kernel⟩,by decide +kernel⟩
 | 4,hx,ho=>obtain rfl:=Option.some.inj hx;obtain rfl:=Option.some.inj ho;exact ⟨⟨0,[0,0],0,rfl,rfl,by decide +kernel,.inl (by decide +kernel),by decide +kernel,by decide,by decide,by decide +kernel⟩,by decide +kernel⟩
 | i+5,hx,_=>simp [ofZ] at hx
theorem zqH : zq1.filter nzI ≠ []:=by decide +kernel
theorem zqI : ∀ j,j<zq2.length→zlx zq2 j=true:=by decide +kernel
theorem zqJ : zgu [2,3,5] (zkt 2)=0∧zgB [2,3,5] (zkt 2)=1:=by decide +kernel
theorem zqK : zgm [2,3,5] ofZ=0:=by decide +kernel
theorem zqL (w:World)(he:Env w):Calls Tryz.prog 6 #[] w fun e w'=>e=.returned (.bool true)∧Ext w w':=by
 have hva:=fun vp vl (l:List (List Int))(R:Option (List Int)) k W (hE:Ext w W)(hp:Sl W vp (zap [2,3,5]))(hl:Mat W vl l)(h1:zhf [2,3,5] l=0)(h2:zjn l=some R)(h3:(zjj l 0 [] []).map (fun r=>r.1.length)=some (k+1))=>zpD vp vl [2,3,5] l R W (he.ext hE) hp hl h1 (by decide) h2 (zq3 h3);have hof:=fun vp vq vl W (hE:Ext w W)(hp:Sl W vp (zap [2,3,5]))(hq:Sl W vq (zap (zkt 2)))(hl:Mat W vl ofZ)=>zpN vp vq vl [2,3,5] 2 5 ofZ zq1 zq2 zqA W (he.ext hE) hp hq hl rfl (.inr ⟨rfl,rfl⟩) rfl (by decide) rfl zqJ.1 zqJ.2 zqK zqG zqH zqB zqF zqI;have hma:=fun W=>zqz W;have Hva:=hid hva;have Hof:=hid hof;have Hma:=hid hma;clear hva hof hma;clear he;go_enter Tryz.func6,Tryz.ntmps6
 go_wp2_with fail
 refine (Hma.out w).mono ?_;rintro e w1 ⟨p1,b1,n1,q1,c1,m1,rfl,hp1,hm1,hx1⟩;have hv1:=Hva.out _ _ zjo (some [7,11,16]) 2 w1 hx1 hp1 hm1 zq7 zjq zq4;have Hx1:=hid hx1;have Hv1:=hid hv1;clear hx1 hv1;clear hp1 hm1;go_wp2_with fail
 refine Hv1.out.mono ?_;rintro e w2 ⟨⟨v,rfl,_,hs⟩,hx2⟩;obtain ⟨hs2,_⟩:=hs _ rfl;obtain ⟨av,cv,rfl,_,_,_⟩:=hs2.parts;have Hx2:=hid (Hx1.out.trans hx2);have Hs2:=hid hs2;clear hs hs2 hx2
 -- the second set
 have hp0:=World.alloc_heap_new w2 (.cells #[.int .i64 2,.int .i64 3,.int .i64 5] 3)
 have hsz:=World.size_alloc w2 (.cells #[.int .i64 2,.int .i64 3,.int .i64 5] 3)
 obtain ⟨hm3,hE3⟩:=zqw _ (w2.heap.size+1) zq0 hsz (by decide) (by decide)
 have hp3:=hE3.sl (zqo (n:=3) (zap [2,3,5]) hp0 rfl rfl (by omega))
 have hX3:=((Ext.refl w2).alloc (.cells #[.int .i64 2,.int .i64 3,.int .i64 5] 3)).trans hE3
 have hbx:=zmh.new 31 (zqv (w2.alloc (.cells #[.int .i64 2,.int .i64 3,.int .i64 5] 3)) (w2.heap.size+1) zq0) (.slice (some ⟨w2.heap.size,0,none⟩) 3 3) (.slice (some ⟨w2.heap.size+1+4,0,none⟩) 4 4)
 have hls:(zqv (w2.alloc (.cells #[.int .i64 2,.int .i64 3,.int .i64 5] 3)) (w2.heap.size+1) zq0).heap.size=w2.heap.size+1+1+1+1+1+1:=by rw [zqy,hsz];rfl
 rw [hls] at hbx
 have hX4:=(hX3.alloc (.cells #[.slice (some ⟨w2.heap.size,0,none⟩) 3 3,.slice (some ⟨w2.heap.size+1+4,0,none⟩) 4 4] 31))
 have hY4:=(Ext.refl (zqv (w2.alloc (.cells #[.int .i64 2,.int .i64 3,.int .i64 5] 3)) (w2.heap.size+1) zq0)).alloc (.cells #[.slice (some ⟨w2.heap.size,0,none⟩) 3 3,.slice (some ⟨w2.heap.size+1+4,0,none⟩) 4 4] 31)
 have hm4:=hY4.mat hm3
 have hp4:=hY4.sl hp3
 have Hm4:=hid hm4;have Hp4:=hid hp4;have HX4:=hid hX4;have Hbx:=hid hbx;clear hm4 hp4 hX4 hbx
 clear hp0 hsz hE3 hls hX3 hY4 hm3 hp3
 go_upto_region 3 with fail
 show Code.wp _ _ _ _ ((zqv (w2.alloc (.cells #[.int .i64 2,.int .i64 3,.int .i64 5] 3)) (w2.heap.size+1) zq0).alloc (.cells #[.slice (some ⟨w2.heap.size,0,none⟩) 3 3,.slice (some ⟨w2.heap.size+1+4,0,none⟩) 4 4] 31))
 generalize (zqv (w2.alloc (.cells #[.int .i64 2,.int .i64 3,.int .i64 5] 3)) (w2.heap.size+1) zq0).alloc (.cells #[.slice (some ⟨w2.heap.size,0,none⟩) 3 3,.slice (some ⟨w2.heap.size+1+4,0,none⟩) 4 4] 31)=w3 at *
 have HX3:=hid (Hx2.out.trans HX4.out)
 have Hs3:=hid (HX4.out.sl Hs2.out)
 have hv3:=Hva.out _ _ zq0 none 2 w3 HX3.out Hp4.out Hm4.out zq8 zjr zq5
 have c0:=Hbx.out.c0
 have c1:=Hbx.out.c1
 have Hv3:=hid hv3;clear hv3
 go_wp2_with fail
 refine Hv3.out.mono ?_
 rintro e w4 ⟨⟨v4,rfl,hn4,_⟩,hx4⟩
 have hn5:=hn4 rfl
 subst hn5
 have Hx4:=hid (HX3.out.trans hx4)
 have Hs4:=hid (hx4.sl Hs3.out)
 clear hn4 hx4 c0 c1
 -- five fifths
 have hp0:=World.alloc_heap_new w4 (.cells #[.int .i64 2,.int .i64 3,.int .i64 5] 3)
 have hq0:=World.alloc_heap_new (w4.alloc (.cells #[.int .i64 2,.int .i64 3,.int .i64 5] 3)) (.cells #[.int .i64 1,.int .i64 0,.int .i64 0] 3)
 rw [World.size_alloc] at hq0
 have hsz:((w4.alloc (.cells #[.int .i64 2,.int .i64 3,.int .i64 5] 3)).alloc (.cells #[.int .i64 1,.int .i64 0,.int .i64 0] 3)).heap.size=w4.heap.size+1+1:=by rw [World.size_alloc,World.size_alloc]
 obtain ⟨hm5,hE5⟩:=zqw _ (w4.heap.size+1+1) ofZ hsz (by decide) (by decide)
 have hp5:=hE5.sl (((Ext.refl _).alloc (.cells #[.int .i64 1,.int .i64 0,.int .i64 0] 3)).sl (zqo (n:=3) (zap [2,3,5]) hp0 rfl rfl (by omega)))
 have hq5:=hE5.sl (zqo (n:=3) (zap (zkt 2)) hq0 rfl rfl (by omega))
 have hX5:=(((Ext.refl w4).alloc (.cells #[.int .i64 2,.int .i64 3,.int .i64 5] 3)).alloc (.cells #[.int .i64 1,.int .i64 0,.int .i64 0] 3)).trans hE5
 have ho5:=Hof.out _ _ _ (zqv ((w4.alloc (.cells #[.int .i64 2,.int .i64 3,.int .i64 5] 3)).alloc (.cells #[.int .i64 1,.int .i64 0,.int .i64 0] 3)) (w4.heap.size+1+1) ofZ) (Hx4.out.trans hX5) hp5 hq5 hm5
 have Ho5:=hid ho5;have HX5:=hid hX5;clear ho5 hX5
 clear hp0 hq0 hsz hE5 hm5 hp5 hq5
 go_wp2_with fail
 refine Ho5.out.mono ?_
 rintro e w6 ⟨vp6,vn6,rfl,hp6,hm6,hx6⟩
 obtain ⟨ap6,cp6,rfl,_,_,_⟩:=hp6.parts
 have hm6':=hm6
 obtain ⟨vs6,hvl6,hvs6,_⟩:=hm6'
 obtain ⟨am6,cm6,rfl,_,_,_⟩:=hvs6.parts
 have hl6:vs6.length=5:=by rw [hvl6];rfl
 rw [hl6] at hm6 ⊢
 have hl7:(zap [2,3,5]).length=3:=rfl
 rw [hl7] at hp6 ⊢
 have Hx6:=hid ((Hx4.out.trans HX5.out).trans hx6)
 have Hs6:=hid ((HX5.out.trans hx6).sl Hs4.out)
 have hbx6:=zmh.new 31 w6 (.slice ap6 3 cp6) (.slice am6 5 cm6)
 have hy6:=(Ext.refl w6).alloc (.cells #[.slice ap6 3 cp6,.slice am6 5 cm6] 31)
 have hv6:=Hva.out _ _ (zq2++[zkt 2]) (some [5,8,0]) 1 _ (Hx6.out.trans hy6) (hy6.sl hp6) (hy6.mat hm6) zq9 zjs zq6
 have c0:=hbx6.c0
 have c1:=hbx6.c1
 have Hv6:=hid hv6;have Hbx6:=hid hbx6;have Hy6:=hid hy6;clear hv6 hbx6 hy6
 clear hx6 hp6 hm6 hvs6 hvl6 hl6 hl7
 go_wp2_with fail
 refine Hv6.out.mono ?_
 rintro e w7 ⟨⟨v7,rfl,_,hs7⟩,hx7⟩
 obtain ⟨hs8,_⟩:=hs7 _ rfl
 obtain ⟨a7,c7,rfl,_,_,_⟩:=hs8.parts
 have hbx7:=zmh.ext hx7 Hbx6.out
 have Hx7:=hid ((Hx6.out.trans Hy6.out).trans hx7)
 have Hs7:=hid ((Hy6.out.trans hx7).sl Hs6.out)
 have Hs8:=hid hs8
 clear hs7 hs8 hx7 c0 c1
 have c0:=hbx7.c0
 have c1:=hbx7.c1
 -- the first row
 have ha0:=World.alloc_heap_new w7 (.cells #[.int .i64 7,.int .i64 11,.int .i64 16] 3)
 have hy7:=(Ext.refl w7).alloc (.cells #[.int .i64 7,.int .i64 11,.int .i64 16] 3)
 have he7:=zlv _ _ [7,11,16] [7,11,16] _ (hy7.sl Hs7.out) (zqo (n:=3) (zap [7,11,16]) ha0 rfl rfl (by omega)) (by decide) (by decide)
 rw [decide_eq_true rfl] at he7
 have He7:=hid he7;have Hy7:=hid hy7;have Hbx7:=hid hbx7;clear he7 hy7 hbx7
 clear ha0
 go_wp2_with fail
 refine He7.out.mono ?_
 rintro e w8 ⟨rfl,hq8⟩
 have hx8:=Hy7.out.trans hq8.ext
 have hb8:=zmh.ext hx8 Hbx7.out
 have Hx8:=hid (Hx7.out.trans hx8)
 have Hs9:=hid (hx8.sl Hs8.out)
 clear hq8 hx8 c0 c1
 have c0:=hb8.c0
 have c1:=hb8.c1
 have ha0:=World.alloc_heap_new w8 (.cells #[.int .i64 5,.int .i64 8,.int .i64 0] 3)
 have hy8:=(Ext.refl w8).alloc (.cells #[.int .i64 5,.int .i64 8,.int .i64 0] 3)
 have he8:=zlv _ _ [5,8,0] [5,8,0] _ (hy8.sl Hs9.out) (zqo (n:=3) (zap [5,8,0]) ha0 rfl rfl (by omega)) (by decide) (by decide)
 rw [decide_eq_true rfl] at he8
 have He8:=hid he8;have Hy8:=hid hy8;clear he8 hy8
 clear ha0 hb8
 go_wp2_with fail
 refine He8.out.mono ?_
 rintro e w9 ⟨rfl,hq9⟩
 have Hx9:=hid ((Hx8.out.trans Hy8.out).trans hq9.ext)
 clear hq9 c0 c1
 go_wp2
 go_ret
 exact ⟨rfl,Hx9.out⟩
end
section
open Go.RowKit Go.Lib
theorem zqM (va vb:Value)(l:List (List Int))(K:Nat)(w:World)(ha:Mat w va l)(hb:Mat w vb l)(hK:l.length=K)(hK9:K≤100)(hr:∀ x∈l,x.length≤1000) :
  Calls Tryz.prog 62 #[va,vb] w fun e w'=>e=.returned (.bool true)∧Ext w w':=by
 have heq:=fun i (hi:i<K) u v W (hu:Sl W u (zap (l.getD i [])))(hv:Sl W v (zap (l.getD i [])))=>(show Calls Tryz.prog 16 #[u,v] W fun e w'=>e=.returned (.bool true)∧Ext W w' from by
  have hm:l.getD i []∈l:=by
   rw [List.getD_eq_getElem?_getD,List.getElem?_eq_getElem (by omega)];exact List.getElem_mem _
  have:=zlv u v (l.getD i []) (l.getD i []) W hu hv (by have:=hr _ hm;omega) (by have:=hr _ hm;omega);rw [decide_eq_true rfl] at this;exact this.mono fun e w' ⟨h1,h2⟩=>⟨h1,h2.ext⟩)
 have prep:∀ v,Mat w v l→∃ a c,v=.slice a K c∧∀ i,i<K→∃ u bl off,a=some ⟨bl,off,none⟩∧w.cell? ⟨bl,off+i,none⟩=some u∧Sl w u (zap (l.getD i [])):=fun v hl=>by
  obtain ⟨vs,hvl,hvs,hrows⟩:=hl;obtain ⟨am,cm,rfl,_,_,hcm⟩:=hvs.parts;refine ⟨am,cm,by rw [hvl,hK],fun i hi=>?_⟩;obtain ⟨u,hu⟩:∃ u,vs[i]?=some u:=⟨_,List.getElem?_eq_getElem (by omega)⟩;obtain ⟨bl,off,e,h⟩:=hcm i u hu;exact ⟨u,bl,off,e,h,hrows i u hu⟩
 obtain ⟨aa,ca,rfl,hca⟩:=prep va ha;obtain ⟨ab,cb,rfl,hcb⟩:=prep vb hb;have Heq:=hid heq;have Hca:=hid hca;have Hcb:=hid hcb;clear heq hca hcb;clear ha hb hr prep hK;go_enter Tryz.func62,Tryz.ntmps62
 go_wp2_with fail
 go_loopw [5] (fun v5 wr=>∃ i:Nat,v5=.int .i64 i∧i≤K∧Hid (Ext w wr)) (fun v5 _=>K - (zal v5).toNat)
 case atStart=>exact ⟨0,rfl,Nat.zero_le _,hid (Ext.refl _)⟩
 case round =>
  obtain ⟨i,rfl,hiK,HE⟩:=hrel;by_cases hin:i<K
  ·obtain ⟨u,b1,o1,rfl,g1,g2⟩:=Hca.out i hin;obtain ⟨v,b2,o2,rfl,g3,g4⟩:=Hcb.out i hin;have g5:=HE.out.cell g1;have g6:=HE.out.cell g3;have h1:=fun W (hE:Ext wr W)=>Heq.out i hin u v W ((HE.out.trans hE).sl g2) ((HE.out.trans hE).sl g4);have hk0:(0:Int)≤(i:Int):=(by omega);have hk1:(i:Int)<(K:Int):=(by omega);have H1:=hid h1;clear h1;clear g1 g2 g3 g4;go_wp2_with fail
   go_region_held3 (fun w'=>Ext wr w'∧w'.cell? ⟨b1,o1+i,none⟩=some u∧w'.cell? ⟨b2,o2+i,none⟩=some v)
    (first | (with_reducible assumption) | exact ⟨(Ext.refl wr).drew,g5,g6⟩)
    (first | (go_at_call 16;refine (H1.out _ (And.left (by assumption))).mono ?_;rintro e9 VA ⟨rfl,hxa⟩;have hEA:=((Ext.refl wr).drew).trans hxa;have hS2:Ext wr VA∧VA.cell? ⟨b1,o1+i,none⟩=some u∧VA.cell? ⟨b2,o2+i,none⟩=some v:=⟨hEA,hEA.cell g5,hEA.cell g6⟩;have HEA:=hid hEA;clear hxa hEA))
   have HEr:=hid (HE.out.trans HEA.out);clear hS2 HEA g5 g6;go_wp2_with fail
   go_roundw
   case rel=>exact ⟨i+1,by go_num,hin,HEr⟩
   case measure=>simp [zal];omega
  ·have hie:i=K:=(by omega);subst hie;go_wp2
   go_ret
   exact ⟨rfl,HE.out⟩
theorem zqN (va vb ua ub:Value)(p:List Int)(l:List (List Int))(K:Nat)(w:World)(hpa:Sl w va (zap p))(hpb:Sl w ua (zap p))(hp:p.length≤1000)(ha:Mat w vb l)(hb:Mat w ub l)(hK:l.length=K)(hK9:K≤100)(hr:∀ x∈l,x.length≤1000) :
  Calls Tryz.prog 26 #[.agg #[va,vb],.agg #[ua,ub]] w fun e w'=>e=.returned (.bool true)∧Ext w w':=by
 have heq:=fun W (hE:Ext w W)=>(show Calls Tryz.prog 16 #[va,ua] W fun e w'=>e=.returned (.bool true)∧Ext W w' from by
  have:=zlv va ua p p W (hE.sl hpa) (hE.sl hpb) (by omega) (by omega);rw [decide_eq_true rfl] at this;exact this.mono fun e w' ⟨h1,h2⟩=>⟨h1,h2.ext⟩)
 have hrw:=fun W (hE:Ext w W)=>zqM vb ub l K W (hE.mat ha) (hE.mat hb) hK hK9 hr;have hbA:zmh 31 ((w.alloc (.cells #[va,vb] 31)).alloc (.cells #[ua,ub] 31)) w.heap.size va vb:=zmh.ext ((Ext.refl _).alloc _) (zmh.new 31 w va vb);have hbB:=zmh.new 31 (w.alloc (.cells #[va,vb] 31)) ua ub;rw [World.size_alloc] at hbB;have hX0:Ext w ((w.alloc (.cells #[va,vb] 31)).alloc (.cells #[ua,ub] 31)):=((Ext.refl w).alloc _).alloc _;obtain ⟨a1,c1,rfl,_,_,_⟩:=hpa.parts;obtain ⟨a2,c2,rfl,_,_,_⟩:=hpb.parts;obtain ⟨vs1,hl1,hv1,_⟩:=ha;obtain ⟨a3,c3,e3,_,_,_⟩:=hv1.parts;obtain ⟨vs2,hl2,hv2,_⟩:=hb;obtain ⟨a4,c4,e4,_,_,_⟩:=hv2.parts;rw [hl1,hK] at e3;rw [hl2,hK] at e4;subst e3 e4;generalize (zap p).length=n0 at *;have q0:=hbA.c0;have q1:=hbA.c1;have q2:=hbB.c0;have q3:=hbB.c1;have Heq:=hid heq;have Hrw:=hid hrw;have HX0:=hid hX0;have HbA:=hid hbA;have HbB:=hid hbB;clear heq hrw hX0 hbA hbB;clear hpa hpb hv1 hv2;go_enter Tryz.func26,Tryz.ntmps26
 go_wp2_with fail
 refine (Heq.out _ HX0.out).mono ?_;rintro e w1 ⟨rfl,hx1⟩;have hb1:=zmh.ext hx1 HbA.out;have hb2:=zmh.ext hx1 HbB.out;have d0:=hb1.c0;have d1:=hb1.c1;have d2:=hb2.c0;have d3:=hb2.c1;have h2:=Hrw.out w1 (HX0.out.trans hx1);have hX1:=HX0.out.trans hx1;have H2:=hid h2;have HX1:=hid hX1;clear h2 hX1;clear q0 q1 q2 q3 hx1 hb1 hb2;go_wp2_with fail
 refine H2.out.mono ?_;rintro e w2 ⟨rfl,hx2⟩;have Hx2:=hid hx2;clear hx2;clear d0 d1 d2 d3;go_wp2_with fail
 go_ret
 exact ⟨rfl,HX1.out.trans Hx2.out⟩
end
end Go.Proofs.YtipkdebkdnbieaaGreatDoor
