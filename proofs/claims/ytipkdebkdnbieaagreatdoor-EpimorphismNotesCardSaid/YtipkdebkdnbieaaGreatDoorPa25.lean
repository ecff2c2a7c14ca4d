/- Walks: the note of an index of a set; epimorphism.Note; law 37's note. (KEEPALL) Walk: law 37's note: as the program's. (KEEPALL) Plain: the notes of a mode, as the program finds them and as law 37 does. (KEEPALL) Walk: law 37's reduced. (KEEPALL) Walk: table.Columns and table.Transpose at a right table. -/
import Derived.Test.YtipkdebkdnbieaaGreatDoorPa21
import Derived.Test.YtipkdebkdnbieaaGreatDoorPa24
import Derived.Deep.Cut
import Derived.Test.YtipkdebkdnbieaaGreatDoorPa18
import Derived.Test.YtipkdebkdnbieaaGreatDoorPa19
set_option maxRecDepth 100000
set_option maxHeartbeats 4000000
namespace Go.Proofs.YtipkdebkdnbieaaGreatDoor
section
open Go.RowKit Go.Lib
theorem zn4 {K r:Nat}{q idx:Int}(hr:r<K)(hi:idx=q * (K:Int)+(r:Int)):∃ z:Int,idx.tmod (K:Int)=z∧-(K:Int)<z∧z<(K:Int)∧(z+(K:Int)).tmod (K:Int)=(r:Int)∧(idx - (r:Int)).tdiv (K:Int)=q∧idx / (K:Int)=q:=by
 have hK:(0:Int)<(K:Int):=by omega
 have h1:=Int.tmod_lt_of_pos idx hK;have h2:=Int.lt_tmod_of_pos idx hK;have hm:idx % (K:Int)=(r:Int):=by
  rw [hi,Int.add_comm,Int.add_mul_emod_self_right];exact Int.emod_eq_of_lt (by omega) (by omega)
 refine ⟨_,rfl,h2,h1,?_,?_,?_⟩
 ·rw [Int.tmod_eq_emod_of_nonneg (by omega),Int.add_emod_right];have e:=Int.tmod_add_mul_tdiv idx (K:Int);have e2:idx.tmod (K:Int) % (K:Int)=idx % (K:Int):=by
   conv=>rhs;rw [← e]
   rw [Int.add_mul_emod_self_left]
  rw [e2,hm]
 ·rw [show idx - (r:Int)=q * (K:Int) by omega];exact Int.mul_tdiv_cancel q (by omega)
 ·rw [hi,Int.add_comm,Int.add_mul_ediv_right _ _ (by omega),Int.ediv_eq_zero_of_lt (by omega) (by omega)];omega
theorem zn5 (vp vl:Value)(p:List Int)(l:List (List Int))(n K r:Nat)(q idx:Int)(w:World)(hp:Sl w vp (zap p))(hl:Mat w vl l)(hpn:p.length=n)(hK:l.length=K)(hn0:0<n)(hn:n≤4)(hS:zlL n l)(hr:r<K)(hi:idx=q * (K:Int)+(r:Int))(hq:-200≤q∧q≤200) :
  Calls Tryz.prog 45 #[.agg #[vp,vl],.int .i64 idx] w fun e w'=>(∃ v,e=.returned (.tuple #[v,.bool true])∧zc2 w' w.heap.size v (zlK n l q r))∧Ext w w':=by
 obtain ⟨i0,hi0,hz0,hz1,hz2⟩:=info_parts zc1;have hK9:K≤9:=by have:=hS.few;omega
 have hlow:=hS.low (r:=r) (by omega);have hlst:=hS.last;have hone:=hS.one;have hidx:-2000≤idx∧idx≤2000:=by
  have h1:(q * (K:Int)).natAbs≤200 * 9:=by rw [Int.natAbs_mul];exact Nat.mul_le_mul (by omega) (by omega)
  generalize q * (K:Int)=t at *;omega
 have hpl:=fun u vb W (hu:Sl W u (zap (zlR n l r)))(hb:Sl W vb (zap (l.getD (l.length - 1) [])))=>(show Calls Tryz.prog 46 #[u,.int .i64 q,vb] W fun e w'=>(∃ v,e=.returned (.tuple #[v,.bool true])∧zc2 w' W.heap.size v (zlK n l q r))∧Ext W w' from by
  have hbd:∀ j,-200≤q * zas (l.getD (l.length - 1) []) j∧q * zas (l.getD (l.length - 1) []) j≤200:=fun j=>by
   have:=hone j;rcases (show zas (l.getD (l.length - 1) []) j=0∨zas (l.getD (l.length - 1) []) j=1 by omega) with e | e <;> rw [e] <;> omega
  have hlen:(zlR n l r).length=(l.getD (l.length - 1) []).length:=by rw [show zlR n l r=if r=0 then zhd n else l.getD (r - 1) [] from rfl,hlow.1,hlst.1]
  have:=zgY u vb (zlR n l r) (l.getD (l.length - 1) []) q W hu hb hlen (by rw [hlen,hlst.1];omega) (fun j _=>by have:=hlow.2 j;unfold zlR;omega) (fun j _=>by have:=hbd j;omega);rw [zlQ hlen (fun j _=>by have:=hlow.2 j;have:=hbd j;unfold zlR;omega)] at this;exact this)
 obtain ⟨z,e1,e2,e3,e4,e5,_⟩:=zn4 hr hi;obtain ⟨ap,cp,rfl,_,_,_⟩:=hp.parts;obtain ⟨vs,hvl,hvs,hrows⟩:=hl;obtain ⟨am,cm,rfl,_,_,hcm⟩:=hvs.parts;simp only [zar,hpn,hvl,hK] at hcm hpl hlst ⊢;have hcc:∀ i,i<K→∃ u bl off,am=some ⟨bl,off,none⟩∧w.cell? ⟨bl,off+i,none⟩=some u∧Sl w u (zap (l.getD i [])):=fun i hi=>by
  obtain ⟨u,hu⟩:∃ u,vs[i]?=some u:=⟨_,List.getElem?_eq_getElem (by omega)⟩;obtain ⟨bl,off,e,h⟩:=hcm i u hu;exact ⟨u,bl,off,e,h,hrows i u hu⟩
 have hbA:=zmh.new 31 w (.slice ap n cp) (.slice am K cm);have hX0:Ext w (w.alloc (.cells #[.slice ap n cp,.slice am K cm] 31)):=(Ext.refl w).alloc _;have c0:=hbA.c0;have c1:=hbA.c1;obtain ⟨uL,bl,off,rfl,gL1,gL2⟩:=hcc (K - 1) (by omega);obtain ⟨aL,cL,eL,_,_,_⟩:=gL2.parts;rw [zar,hlst.1] at eL;subst eL;have hKz:¬ (K:Int)=0:=by omega
 have hw1:IntKind.i64.wrap z=z:=IntWalk.i64_in _ (by omega);have hw2:IntKind.i64.wrap (z+(K:Int))=z+(K:Int):=IntWalk.i64_in _ (by omega);have hw3:IntKind.i64.wrap (r:Int)=(r:Int):=IntWalk.i64_in _ (by omega);have hw4:IntKind.i64.wrap (idx - (r:Int))=idx - (r:Int):=IntWalk.i64_in _ (by omega);have hw5:IntKind.i64.wrap q=q:=IntWalk.i64_in _ (by omega);have hw6:IntKind.i64.wrap ((K:Int) - 1)=((K - 1:Nat):Int):=by rw [IntWalk.i64_in _ (by omega)];omega
 have hk0:(0:Int)≤((K - 1:Nat):Int):=by omega
 have hk1:((K - 1:Nat):Int)<(K:Int):=by omega
 have Hpl:=hid hpl;have HX0:=hid hX0;have HbA:=hid hbA;have GL1:=hid gL1;have GL2:=hid gL2;clear hpl hX0 hbA gL1 gL2;clear hp hvs hvl hrows hcm hS hlow hone hi hq e2 e3;by_cases hr0:r=0
 ·subst hr0;have hb0:zlR n l 0=zhd n:=rfl;rw [hb0] at Hpl;have e6:idx.tdiv (K:Int)=q:=by have:=e5;rwa [show ((0:Nat):Int)=0 from rfl,Int.sub_zero] at this
  have hw7:IntKind.i64.wrap idx=idx:=IntWalk.i64_in _ (by omega);clear hcc hb0;go_enter Tryz.func45,Tryz.ntmps45
  go_upto_region 1 with fail
  generalize w.alloc (.cells #[.slice ap n cp,.slice (some ⟨bl,off,none⟩) K cm] 31)=W0 at *;go_wp2_with (at_make;refine wpList_make_full _ rfl _ _ 33 rfl w.heap.size 3 i0 (.int .i64 0) 1 Tryz.underlying33 hi0 hz0 hz1 _ _ _ _ n rfl rfl rfl rfl (by rw [hz2];omega) (by unfold maxLen;omega) HX0.out.size ?_;intro w1 hown hgrow;have hO:=zmg hown;have hx1:Ext W0 w1:=(Ext.refl _).grown hgrow (by simp);have hbA1:=zmh.ext hx1 HbA.out;have d0:=hbA1.c0;have d1:=hbA1.c1;have hL:=(HX0.out.trans hx1).cell GL1.out;have HO:=hid hO.sl;have Hx1:=hid (HX0.out.trans hx1);clear hO hown hgrow hx1 hbA1)
  rw [zlM] at HO;refine (Hpl.out _ _ w1 HO.out (Hx1.out.sl GL2.out)).mono ?_;rintro e w2 ⟨⟨v2,rfl,ho2⟩,hx2⟩;have ho3:=zam ho2 Hx1.out.size;have Ho3:=hid ho3;have Hx2:=hid hx2;clear ho3 hx2;clear ho2;go_wp2_with fail
  go_ret2
  exact ⟨⟨_,rfl,Ho3.out⟩,Hx1.out.trans Hx2.out⟩
 ·obtain ⟨u,bl2,off2,e9,g1,g2⟩:=hcc (r - 1) (by omega)
  cases e9
  obtain ⟨au,cu,eu,_,_,_⟩:=g2.parts;have hw7:IntKind.i64.wrap ((r:Int) - 1)=((r - 1:Nat):Int):=by rw [IntWalk.i64_in _ (by omega)];omega
  have hk2:(0:Int)≤((r - 1:Nat):Int):=by omega
  have hk3:((r - 1:Nat):Int)<(K:Int):=by omega
  have hd:decide ((r:Int) > 0)=true:=decide_eq_true (by omega);have hbf:zlR n l r=l.getD (r - 1) []:=by unfold zlR;rw [if_neg hr0]
  rw [zar] at eu;generalize (l.getD (r - 1) []).length=lu at *;subst eu;have Hg1:=hid g1;have Hg2:=hid g2;have Hbf:=hid hbf;clear hbf;clear hcc g1 g2;go_enter Tryz.func45,Tryz.ntmps45
  go_upto_region 1 with fail
  generalize w.alloc (.cells #[.slice ap n cp,.slice (some ⟨bl,off,none⟩) K cm] 31)=W0 at *;go_wp2_with (at_make;refine wpList_make_full _ rfl _ _ 33 rfl w.heap.size 3 i0 (.int .i64 0) 1 Tryz.underlying33 hi0 hz0 hz1 _ _ _ _ n rfl rfl rfl rfl (by rw [hz2];omega) (by unfold maxLen;omega) HX0.out.size ?_;intro w1 hown hgrow;have hO:=zmg hown;have hx1:Ext W0 w1:=(Ext.refl _).grown hgrow (by simp);have hbA1:=zmh.ext hx1 HbA.out;have d0:=hbA1.c0;have d1:=hbA1.c1;have hL:=(HX0.out.trans hx1).cell GL1.out;have HO:=hid hO.sl;have Hx1:=hid (HX0.out.trans hx1);have hU:=(HX0.out.trans ((Ext.refl W0).grown hgrow (by simp))).cell Hg1.out;clear hO hown hgrow hx1 hbA1)
  refine (Hpl.out _ _ w1 (by rw [Hbf.out];exact Hx1.out.sl Hg2.out) (Hx1.out.sl GL2.out)).mono ?_;rintro e w2 ⟨⟨v2,rfl,ho2⟩,hx2⟩;have ho3:=zam ho2 Hx1.out.size;have Ho3:=hid ho3;have Hx2:=hid hx2;clear ho3 hx2;clear ho2;go_wp2_with fail
  go_ret2
  exact ⟨⟨_,rfl,Ho3.out⟩,Hx1.out.trans Hx2.out⟩
theorem zn6 (vp vl:Value)(p:List Int)(l:List (List Int))(n K r:Nat)(q idx:Int)(w:World)(he:Env w)(hp:Sl w vp (zap p))(hl:Mat w vl l)(hep:zhf p l=0)(hpn:p.length=n)(hK:l.length=K)(hn0:0<n)(hn:n≤4)(hS:zlL n l)(hr:r<K)(hi:idx=q * (K:Int)+(r:Int))(hq:-200≤q∧q≤200) :
  Calls Tryz.prog 18 #[.agg #[vp,vl],.int .i64 idx] w fun e w'=>∃ v,e=.returned (.tuple #[v,.int .i64 0])∧zc2 w' w.heap.size v (zlK n l q r)∧Ext w w':=by
 have hK9:K≤9:=by have:=hS.few;omega
 have hidx:-2000≤idx∧idx≤2000:=by
  have h1:(q * (K:Int)).natAbs≤200 * 9:=by rw [Int.natAbs_mul];exact Nat.mul_le_mul (by omega) (by omega)
  generalize q * (K:Int)=t at *;omega
 have hrl:∀ i,(l.getD i []).length≤1000:=fun i=>by
  by_cases hi:i<K
  ·rw [(hS.row (by omega)).1];omega
  ·rw [List.getD_eq_getElem?_getD,List.getElem?_eq_none (by omega)];simp
 have hck:=fun W (hE:Ext w W)=>zk8 vp vl p l W (he.ext hE) (hE.sl hp) (hE.mat hl) (by omega) (by omega) hrl;have hno:=fun W (hE:Ext w W)=>zn5 vp vl p l n K r q idx W (hE.sl hp) (hE.mat hl) hpn hK hn0 hn hS hr hi hq;obtain ⟨ap,cp,rfl,_,_,_⟩:=hp.parts;obtain ⟨vs,hvl,hvs,_⟩:=hl;obtain ⟨am,cm,rfl,_,_,_⟩:=hvs.parts;simp only [zar,hpn,hvl,hK,hep] at hck hno ⊢;have hbA:=zmh.new 31 w (.slice ap n cp) (.slice am K cm);have hX0:Ext w (w.alloc (.cells #[.slice ap n cp,.slice am K cm] 31)):=(Ext.refl w).alloc _;have c0:=hbA.c0;have c1:=hbA.c1;have hd1:decide (idx < -1000000)=false:=decide_eq_false (by omega);have hd2:decide (idx > 1000000)=false:=decide_eq_false (by omega);have Hck:=hid hck;have Hno:=hid hno;have HX0:=hid hX0;have HbA:=hid hbA;clear hck hno hX0 hbA;clear hp hvs he hep hrl hS hi hq;go_enter Tryz.func18,Tryz.ntmps18
 go_wp2_with fail
 refine (Hck.out _ HX0.out).mono ?_;rintro e w1 ⟨rfl,hx1⟩;have hbA1:=zmh.ext hx1 HbA.out;have d0:=hbA1.c0;have d1:=hbA1.c1;have h2:=Hno.out w1 (HX0.out.trans hx1);have hX1:=HX0.out.trans hx1;have H2:=hid h2;have HX1:=hid hX1;clear h2 hX1;clear c0 c1 hx1 hbA1;go_wp2_with fail
 refine H2.out.mono ?_;rintro e w2 ⟨⟨v2,rfl,ho2⟩,hx2⟩;have ho3:=zam ho2 HX1.out.size;have Ho3:=hid ho3;have Hx2:=hid hx2;clear ho3 hx2;clear ho2;go_wp2_with fail
 go_ret2
 exact ⟨_,rfl,Ho3.out,HX1.out.trans Hx2.out⟩
theorem zn7 (vp vl:Value)(p:List Int)(l:List (List Int))(n K:Nat)(w:World)(he:Env w)(hp:Sl w vp (zap p))(hl:Mat w vl l)(hep:zhf p l=0)(hpn:p.length=n)(hK:l.length=K)(hn:n≤4)(hS:zlL n l) :
  Calls Tryz.prog 18 #[.agg #[vp,vl],.int .i64 1000001] w fun e w'=>e=.returned (.tuple #[.slice none 0 0,.int .i64 3])∧Ext w w':=by
 have hK9:K≤9:=by have:=hS.few;omega
 have hrl:∀ i,(l.getD i []).length≤1000:=fun i=>by
  by_cases hi:i<K
  ·rw [(hS.row (by omega)).1];omega
  ·rw [List.getD_eq_getElem?_getD,List.getElem?_eq_none (by omega)];simp
 have hck:=fun W (hE:Ext w W)=>zk8 vp vl p l W (he.ext hE) (hE.sl hp) (hE.mat hl) (by omega) (by omega) hrl;obtain ⟨ap,cp,rfl,_,_,_⟩:=hp.parts;obtain ⟨vs,hvl,hvs,_⟩:=hl;obtain ⟨am,cm,rfl,_,_,_⟩:=hvs.parts;simp only [zar,hpn,hvl,hK,hep] at hck ⊢;have hbA:=zmh.new 31 w (.slice ap n cp) (.slice am K cm);have hX0:Ext w (w.alloc (.cells #[.slice ap n cp,.slice am K cm] 31)):=(Ext.refl w).alloc _;have c0:=hbA.c0;have c1:=hbA.c1;have Hck:=hid hck;have HX0:=hid hX0;have HbA:=hid hbA;clear hck hX0 hbA;clear hp hvs he hep hrl hS;go_enter Tryz.func18,Tryz.ntmps18
 go_wp2_with fail
 refine (Hck.out _ HX0.out).mono ?_;rintro e w1 ⟨rfl,hx1⟩;have Hx1:=hid hx1;clear hx1;clear c0 c1;go_wp2_with fail
 go_ret2
 exact ⟨rfl,HX0.out.trans Hx1.out⟩
theorem zn8 {k:Int}{x:List Int}{j:Nat}(hj:j<x.length):zas (zma k x) j=k * zas x j:=by
 unfold zma zas;rw [List.getD_eq_getElem?_getD,List.getElem?_map,List.getD_eq_getElem?_getD,List.getElem?_eq_getElem hj];rfl
theorem zn9 {x y:List Int}{j:Nat}(hj:j<x.length):zas (zme x y) j=zas x j+zas y j:=by
 show ((List.range x.length).map fun p=>zas x p+zas y p).getD j 0=_;rw [List.getD_eq_getElem?_getD,List.getElem?_map,List.getElem?_range hj];rfl
theorem znA (x y:List Int):(zme x y).length=x.length:=by unfold zme;simp
theorem znB (x y:List Int):(zlI x y).length=x.length:=by unfold zlI;simp
theorem zlL.scl {n:Nat}{l:List (List Int)}(h:zlL n l)(q:Int):zma q (l.getD (l.length - 1) [])=zlK n l q 0:=by
 have hl:=h.last.1;have h0:=h.ne;refine zlN (by rw [zmc,h.nlen h0,hl]) fun j hj=>?_;rw [zmc] at hj;rw [zn8 hj,h.nat h0 (by omega),if_pos rfl,zkA,Int.zero_add]
theorem zlL.add {n:Nat}{l:List (List Int)}(h:zlL n l)(q:Int){r:Nat}(hr:r<l.length)(hr0:r ≠ 0):zme (zma q (l.getD (l.length - 1) [])) (l.getD (r - 1) [])=zlK n l q r:=by
 have hl:=h.last.1;refine zlN (by rw [znA,zmc,h.nlen hr,hl]) fun j hj=>?_;rw [znA,zmc] at hj;rw [zn9 (by rw [zmc];exact hj),zn8 hj,h.nat hr (by omega),if_neg hr0,Int.add_comm]
theorem znC {x:List Int}(hl:x.length≤64)(h:∀ j,j<x.length→-1000000≤zas x j∧zas x j≤1000000):zgI x=0:=zlW hl fun z hz=>by
 obtain ⟨i,hi⟩:=List.mem_iff_getElem?.1 hz;have hil:=(List.getElem?_eq_some_iff.1 hi).1;have:=h i hil;unfold zas at this;rw [List.getD_eq_getElem?_getD,hi,Option.getD_some] at this;omega
theorem znD {x y:List Int}(hx:zgI x=0)(hy:zgI y=0)(hl:x.length=y.length):zlC x y=0:=by
 unfold zlC;rw [if_neg (by simpa using hx),if_neg (by simpa using hy),if_neg (by simpa using hl)]
theorem znE (vx vy:Value)(x y:List Int)(w:World)(hx:Sl w vx (zap x))(hy:Sl w vy (zap y))(hlen:x.length=y.length)(hl:x.length≤60)(bx:∀ j,j<x.length→-1000≤zas x j∧zas x j≤1000)(bY:∀ j,j<y.length→-1000≤zas y j∧zas y j≤1000) :
  Calls Tryz.prog 24 #[vx,vy] w fun e w'=>∃ v,e=.returned (.tuple #[v,.int .i64 0])∧zc2 w' w.heap.size v (zlI x y)∧Ext w w' :=
 zlJ vx vy x y w hx hy hlen (by omega) (znD (znC (by omega) fun j hj=>by have:=bx j hj;omega) (znC (by omega) fun j hj=>by have:=bY j hj;omega) hlen)
  (znC (by rw [znB];omega) fun j hj=>by
   rw [znB] at hj;have h1:=bx j hj;have h2:=bY j (by omega);have e:zas (zlI x y) j=zas x j - zas y j:=by
    show ((List.range x.length).map fun p=>zas x p - zas y p).getD j 0=_;rw [List.getD_eq_getElem?_getD,List.getElem?_map,List.getElem?_range hj];rfl
   rw [e];omega)
  (fun i hi=>by have:=bx i hi;have:=bY i (by omega);omega)
theorem znF (vx vy:Value)(x y:List Int)(w:World)(hx:Sl w vx (zap x))(hy:Sl w vy (zap y))(hlen:x.length=y.length)(hl:x.length≤60)(bx:∀ j,j<x.length→-1000≤zas x j∧zas x j≤1000)(bY:∀ j,j<y.length→-1000≤zas y j∧zas y j≤1000) :
  Calls Tryz.prog 54 #[vx,vy] w fun e w'=>∃ v,e=.returned (.tuple #[v,.int .i64 0])∧zc2 w' w.heap.size v (zme x y)∧Ext w w' :=
 zmf vx vy x y w hx hy hlen (by omega) (znD (znC (by omega) fun j hj=>by have:=bx j hj;omega) (znC (by omega) fun j hj=>by have:=bY j hj;omega) hlen)
  (znC (by rw [znA];omega) fun j hj=>by
   rw [znA] at hj;have h1:=bx j hj;have h2:=bY j (by omega);rw [zn9 hj];omega)
  (fun i hi=>by have:=bx i hi;have:=bY i (by omega);omega)
theorem znG (vp vl:Value)(p:List Int)(l:List (List Int))(n K r:Nat)(q idx:Int)(w:World)(hp:Sl w vp (zap p))(hl:Mat w vl l)(hpn:p.length=n)(hK:l.length=K)(hn:n≤4)(hS:zlL n l)(hr:r<K)(hi:idx=q * (K:Int)+(r:Int))(hq:-200≤q∧q≤200) :
  Calls Tryz.prog 22 #[.agg #[vp,vl],.int .i64 idx] w fun e w'=>∃ v,e=.returned v∧zc2 w' w.heap.size v (zlK n l q r)∧Ext w w':=by
 have hK9:K≤9:=by have:=hS.few;omega
 have hlst:=hS.last;have hone:=hS.one;have hidx:-2000≤idx∧idx≤2000:=by
  have h1:(q * (K:Int)).natAbs≤200 * 9:=by rw [Int.natAbs_mul];exact Nat.mul_le_mul (by omega) (by omega)
  generalize q * (K:Int)=t at *;omega
 obtain ⟨_,_,_,_,_,_,hqf⟩:=zn4 hr hi;have hfl:=fun W=>zlZ idx K W (by omega) (by omega) (by omega);rw [hqf] at hfl;have hsc:=fun u W (hu:Sl W u (zap (l.getD (l.length - 1) [])))=>zmd u (l.getD (l.length - 1) []) q n W hu hlst.1 (by omega) (by omega) (fun i _=>by have:=hlst.2 i;omega);have hmq:q * (K:Int)=idx - (r:Int):=by omega
 have hadd:=fun (hr0:r ≠ 0) u v W (hu:Sl W u (zap (zma q (l.getD (l.length - 1) []))))(hv:Sl W v (zap (l.getD (r - 1) [])))=>znF u v _ _ W hu hv (by rw [zmc,hlst.1,(hS.row (i:=r - 1) (by omega)).1]) (by rw [zmc,hlst.1];omega) (fun j hj=>by
  rw [zmc] at hj;rw [zn8 hj];have:=hone j;rcases (show zas (l.getD (l.length - 1) []) j=0∨zas (l.getD (l.length - 1) []) j=1 by omega) with e | e <;> rw [e] <;> omega) (fun j _=>by have:=(hS.row (i:=r - 1) (by omega)).2 j;omega)
 have hs0:=hS.scl q;have hsa:=fun (hr0:r ≠ 0)=>hS.add q (r:=r) (by omega) hr0;obtain ⟨ap,cp,rfl,_,_,_⟩:=hp.parts;obtain ⟨vs,hvl,hvs,hrows⟩:=hl;obtain ⟨am,cm,rfl,_,_,hcm⟩:=hvs.parts;simp only [zar,hpn,hvl,hK] at hcm hsc hadd hs0 hsa hlst ⊢;have hcc:∀ i,i<K→∃ u bl off,am=some ⟨bl,off,none⟩∧w.cell? ⟨bl,off+i,none⟩=some u∧Sl w u (zap (l.getD i [])):=fun i hi=>by
  obtain ⟨u,hu⟩:∃ u,vs[i]?=some u:=⟨_,List.getElem?_eq_getElem (by omega)⟩;obtain ⟨bl,off,e,h⟩:=hcm i u hu;exact ⟨u,bl,off,e,h,hrows i u hu⟩
 have hbA:=zmh.new 31 w (.slice ap n cp) (.slice am K cm);have hX0:Ext w (w.alloc (.cells #[.slice ap n cp,.slice am K cm] 31)):=(Ext.refl w).alloc _;have c0:=hbA.c0;have c1:=hbA.c1;obtain ⟨uL,bl,off,rfl,gL1,gL2⟩:=hcc (K - 1) (by omega);obtain ⟨aL,cL,eL,_,_,_⟩:=gL2.parts;rw [zar,hlst.1] at eL;subst eL;have gLx:=hX0.cell gL1;have hw5:IntKind.i64.wrap (idx - (r:Int))=idx - (r:Int):=IntWalk.i64_in _ (by omega);have hw8:idx - (idx - (r:Int))=(r:Int):=by omega
 have hw9:IntKind.i64.wrap (r:Int)=(r:Int):=IntWalk.i64_in _ (by omega);have hw6:IntKind.i64.wrap ((K:Int) - 1)=((K - 1:Nat):Int):=by rw [IntWalk.i64_in _ (by omega)];omega
 have hk0:(0:Int)≤((K - 1:Nat):Int):=by omega
 have hk1:((K - 1:Nat):Int)<(K:Int):=by omega
 have Hfl:=hid hfl;have Hsc:=hid hsc;have Hadd:=hid hadd;have Hs0:=hid hs0;have Hsa:=hid hsa;have HX0:=hid hX0;have HbA:=hid hbA;have GL1:=hid gL1;have GL2:=hid gL2;clear hfl hsc hadd hs0 hsa hX0 hbA gL1 gL2;clear hp hvs hvl hrows hcm hS hone hi hq hqf;generalize zma q (l.getD (K - 1) [])=sc at *;by_cases hr0:r=0
 ·subst hr0;clear hcc;go_enter Tryz.func22,Tryz.ntmps22
  go_wp2_with fail
  generalize w.alloc (.cells #[.slice ap n cp,.slice (some ⟨bl,off,none⟩) K cm] 31)=W0 at *;refine (Hfl.out _).mono ?_;rintro e w1 ⟨rfl,rfl⟩;have h2:=Hsc.out _ W0 (HX0.out.sl GL2.out);have H2:=hid h2;clear h2;go_wp2_with fail
  refine H2.out.mono ?_;rintro e w2 ⟨u2,rfl,ho2,hx2⟩;have ho3:=zam ho2 HX0.out.size;rw [Hs0.out] at ho3;have Ho3:=hid ho3;have Hx2:=hid hx2;clear ho3 hx2;clear ho2;go_wp2_with fail
  go_ret
  exact ⟨_,rfl,Ho3.out,HX0.out.trans Hx2.out⟩
 ·obtain ⟨u,bl2,off2,e9,g1,g2⟩:=hcc (r - 1) (by omega)
  cases e9
  have hw7:IntKind.i64.wrap ((r:Int) - 1)=((r - 1:Nat):Int):=by rw [IntWalk.i64_in _ (by omega)];omega
  have hk2:(0:Int)≤((r - 1:Nat):Int):=by omega
  have hk3:((r - 1:Nat):Int)<(K:Int):=by omega
  have hd:decide ((r:Int) > 0)=true:=decide_eq_true (by omega);have hsa:=Hsa.out hr0;have hadd:=Hadd.out hr0;have Hg1:=hid g1;have Hg2:=hid g2;have Hsa:=hid hsa;have Hadd:=hid hadd;clear hsa hadd;clear hcc g1 g2;go_enter Tryz.func22,Tryz.ntmps22
  go_wp2_with fail
  generalize w.alloc (.cells #[.slice ap n cp,.slice (some ⟨bl,off,none⟩) K cm] 31)=W0 at *;refine (Hfl.out _).mono ?_;rintro e w1 ⟨rfl,rfl⟩;have h2:=Hsc.out _ W0 (HX0.out.sl GL2.out);have H2:=hid h2;clear h2;go_wp2_with fail
  refine H2.out.mono ?_;rintro e w2 ⟨u2,rfl,ho2,hx2⟩;have hX2:=HX0.out.trans hx2;have hbA2:=zmh.ext hx2 HbA.out;have d0:=hbA2.c0;have d1:=hbA2.c1;have hU:=hX2.cell Hg1.out;have h3:=Hadd.out u2 u w2 ho2.sl (hX2.sl Hg2.out);rw [Hsa.out] at h3;have H3:=hid h3;have HX2:=hid hX2;clear h3 hX2;clear ho2 hx2 hbA2 c0 c1 gLx;go_wp2_with fail
  refine H3.out.mono ?_;rintro e w3 ⟨u3,rfl,ho3,hx3⟩;have ho4:=zam ho3 HX2.out.size;have Ho4:=hid ho4;have Hx3:=hid hx3;clear ho4 hx3;clear ho3;go_wp2_with fail
  go_ret
  exact ⟨_,rfl,Ho4.out,HX2.out.trans Hx3.out⟩
def znH (n:Nat)(l:List (List Int))(m i:Nat):List Int:=(List.range n).map fun j=>if l.length<m+i then zas (l.getD ((m+i - 1) % l.length) []) j - zas (zlR n l m) j+zas (l.getD (l.length - 1) []) j else zas (l.getD ((m+i - 1) % l.length) []) j - zas (zlR n l m) j
theorem znI (n:Nat)(l:List (List Int))(m i:Nat):(znH n l m i).length=n:=by unfold znH;simp
theorem znJ {n:Nat}{l:List (List Int)}{m i j:Nat}(hj:j<n):zas (znH n l m i) j=if l.length<m+i then zas (l.getD ((m+i - 1) % l.length) []) j - zas (zlR n l m) j+zas (l.getD (l.length - 1) []) j else zas (l.getD ((m+i - 1) % l.length) []) j - zas (zlR n l m) j:=by
 unfold znH;show ((List.range n).map _).getD j 0=_;rw [List.getD_eq_getElem?_getD,List.getElem?_map,List.getElem?_range hj];rfl
theorem znK {x y:List Int}{j:Nat}(hj:j<x.length):zas (zlI x y) j=zas x j - zas y j:=by
 show ((List.range x.length).map fun p=>zas x p - zas y p).getD j 0=_;rw [List.getD_eq_getElem?_getD,List.getElem?_map,List.getElem?_range hj];rfl
section
variable {n : Nat} {l : List (List Int)}
theorem zlL.nt (h:zlL n l){i:Nat}(hi:i<2 * l.length):(ntI n l i).length=n∧∀ j,j<n→-500≤zas (ntI n l i) j∧zas (ntI n l i) j≤500:=by
 have hr:i % l.length<l.length:=Nat.mod_lt _ h.ne;have hq:i / l.length<2:=by rw [Nat.div_lt_iff_lt_mul h.ne];exact hi
 rw [← h.two hi];generalize i / l.length=qq at *;exact ⟨h.nlen hr,fun j hj=>h.nbd (by omega) hr hj⟩
theorem zlL.mod (h:zlL n l){m i:Nat}(hm:m<l.length)(h1:1≤i)(hi:i≤l.length):znH n l m i=zlI (ntI n l (m+i)) (ntI n l m):=by
 have e2:ntI n l m=zlR n l m:=by
  unfold ntI zlR;by_cases h0:m=0
  ·rw [if_pos h0,if_pos h0]
  ·rw [if_neg h0,if_neg h0,if_pos (by omega)]
 have hl:=(h.nt (i:=m+i) (by omega)).1;refine zlN (by rw [znI,znB,hl]) fun j hj=>?_;rw [znI] at hj;have e1:ntI n l (m+i)=if m+i≤l.length then l.getD (m+i - 1) [] else zgN (l.getD (m+i - l.length - 1) []) 1 (l.getD (l.length - 1) []):=by
  unfold ntI;rw [if_neg (show ¬ m+i=0 by omega)]
 rw [znJ hj,znK (by rw [hl];exact hj),e2,e1];by_cases hc:l.length<m+i
 ·rw [if_pos hc,if_neg (show ¬ m+i≤l.length by omega)];have hmod:(m+i - 1) % l.length=m+i - l.length - 1:=by
   rw [Nat.mod_eq_sub_mod (by omega),Nat.mod_eq_of_lt (by omega)];omega
  rw [hmod,zgR (by rw [(h.row (by omega)).1,h.last.1]) (by rw [(h.row (by omega)).1];exact hj)];omega
 ·rw [if_neg hc,if_pos (show m+i≤l.length by omega),Nat.mod_eq_of_lt (show m+i - 1<l.length by omega)]
theorem zlL.modbd (h:zlL n l){m i j:Nat}(hm:m<l.length)(h1:1≤i)(hi:i≤l.length)(hj:j<n):-1000≤zas (znH n l m i) j∧zas (znH n l m i) j≤1000:=by
 rw [h.mod hm h1 hi,znK (by rw [(h.nt (i:=m+i) (by omega)).1];exact hj)];have a:=(h.nt (i:=m+i) (by omega)).2 j hj;have b:=(h.nt (i:=m) (by omega)).2 j hj;omega
end
end
section
open Go.RowKit Go.Lib Go.Shelf
theorem znL (vp vq vx:Value)(p x:List Int)(n:Nat)(w:World)(he:Env w)(hp:Sl w vp (zap p))(hq:Sl w vq (zap (zkt n)))(hx:Sl w vx (zap x))(hok:zh9 p)(hpn:p.length=n+1)(hi:Iv p x)(h0:-9≤zas x 0∧zas x 0≤9) :
  Calls Tryz.prog 71 #[vp,vq,vx] w fun e w'=>∃ v r,e=.returned v∧Rdd p r∧((v=vx∧r=x)∨zc2 w' w.heap.size v r)∧Ext w w':=by
 have hpe:=hok.pe;have hl4:=hok.len;have hol:(zkt n).length=n+1:=zkv n;have hoe:zgu p (zkt n)=0:=zk2 hpe (by omega) fun i hi=>by rcases zkw n i with e | e <;> rw [e] <;> omega
 have hper:zhN p.length=zkt n:=by rw [hpn];exact zkz n
 have hxl:x.length=n+1:=by rw [hi.len];exact hpn
 have hbd:∀ k c,Stp p x k c→Iv p c∧(-200≤zas c 0∧zas c 0≤200)∧k≤200:=fun k c h=>h.bd hok hi h0;have hone:∀ k c,Stp p x k c→zgu p c=0:=fun k c h=>by
  obtain ⟨h1,h2,_⟩:=hbd k c h;exact h1.ok hok (by omega)
 have hsg:=fun k c (h:Stp p x k c) v W (hE:Ext w W)(hv:Sl W v (zap c))=>zgC vp v p c W (he.ext hE) (hE.sl hp) hv (by omega) (by have:=(hbd k c h).1.len;omega);have hcm:=fun k c (h:Stp p x k c) v W (hE:Ext w W)(hv:Sl W v (zap c))=>zhX vp v vq p c (zkt n) W (he.ext hE) (hE.sl hp) hv (hE.sl hq) (by omega) (by have:=(hbd k c h).1.len;omega) (by omega);have hce:∀ k c,Stp p x k c→zhV p c (zkt n)=zgZ p c (zhN p.length):=fun k c h=>by
  unfold zhV;rw [if_neg (by simpa using zhU (hone k c h) hoe),hper]
 have hlen:∀ k c,Stp p x k c→c.length=n+1:=fun k c h=>by have:=(hbd k c h).1.len;omega
 have hup:∀ k c,Stp p x k c→zgy p c<zgz p c→Stp p x (k+1) (bmp 1 c):=fun k c h h1=>h.up hok hi h1;have hdn:∀ k c,Stp p x k c→¬ zgZ p c (zhN p.length)<0→Stp p x (k+1) (bmp (-1) c):=fun k c h h1=>h.down hok hi h1;have had:=fun k c (h:Stp p x k c)(h2:Stp p x (k+1) (bmp 1 c)) v W (hE:Ext w W)(hv:Sl W v (zap c))=>zip vp v vq p c (zkt n) W (hE.sl hp) hv (hE.sl hq) (hone k c h) hoe (by rw [zk1 1 (hlen k c h)];exact hone _ _ h2);have hsb:=fun k c (h:Stp p x k c)(h2:Stp p x (k+1) (bmp (-1) c)) v W (hE:Ext w W)(hv:Sl W v (zap c))=>ziq vp v vq p c (zkt n) W (hE.sl hp) hv (hE.sl hq) (hone k c h) hoe (by rw [zk1 (-1) (hlen k c h)];exact hone _ _ h2);have hpl:=fun k c (h:Stp p x k c)(z:Int)=>zk1 z (hlen k c h);have hsx:=hx;obtain ⟨ap,cp,rfl,_,_,_⟩:=hp.parts;obtain ⟨aq,cq,rfl,_,_,_⟩:=hq.parts;obtain ⟨ax,cx,rfl,_,_,_⟩:=hx.parts;simp only [zar] at *;rw [hpn] at hsg hcm had hsb ⊢;rw [hol] at hcm had hsb ⊢;rw [hxl] at hsx ⊢;have hst:Stp p x 0 x:=.inl ⟨rfl,rfl⟩;have Hsg:=hid hsg;have Hcm:=hid hcm;have Hce:=hid hce;have Had:=hid had;have Hsb:=hid hsb;have Hpl:=hid hpl;have Hbd:=hid hbd;have Hone:=hid hone;have Hlen:=hid hlen;have Hup:=hid hup;have Hdn:=hid hdn;have Hsx:=hid hsx;have Hst:=hid hst;have Hpn:=hid hpn;have Hper:=hid hper;clear hsg hcm hce had hsb hpl hbd hone hlen hup hdn hsx hst hpn hper;clear hp hq hx he hok hi h0 hoe hol hxl hpe hl4;go_enter Tryz.func71,Tryz.ntmps71
 go_wp2_with fail
 go_loopw [2,7] (fun v2 v7 wr=>∃ (k:Nat)(c:List Int)(a:Option Addr)(cap:Nat),v7=.int .i64 k∧v2=.slice a (n+1) cap∧Hid (Stp p x k c)∧Hid (Sl wr (.slice a (n+1) cap) (zap c))∧Hid ((Value.slice a (n+1) cap=.slice ax (n+1) cx∧c=x)∨zc2 wr w.heap.size (.slice a (n+1) cap) c)∧Hid (Ext w wr)) (fun _ v7 _=>20000 - (zal v7).toNat)
 case atStart=>exact ⟨0,x,_,_,rfl,rfl,Hst,Hsx,hid (.inl ⟨rfl,rfl⟩),hid (Ext.refl _)⟩
 case round =>
  obtain ⟨k,c,a,cap,rfl,rfl,HS,HV,HO,HE⟩:=hrel;obtain ⟨hiv,hb,hk⟩:=Hbd.out k c HS.out;have hk1:(k:Int)<10000:=by omega
  have hk2:k<10000:=by omega
  have h1:=Hsg.out k c HS.out _ wr HE.out HV.out;have ho1:=Hone.out k c HS.out;rw [ho1,zk3 ho1] at h1;have hng:=zhP ((zgy p c:Nat):Int) ((zgz p c:Nat):Int);generalize hs:zbj ((zgy p c:Nat):Int) ((zgz p c:Nat):Int)=sg at *;have H1:=hid h1;have Hng:=hid hng;have Hs:=hid hs;have Hiv:=hid hiv;clear h1 hng hs hiv;clear hb;by_cases hlt:sg<0
  ·have hnd:zgy p c<zgz p c:=(by have:=Hng.out.1 hlt;omega);have hst2:=Hup.out k c HS.out hnd;have h2:=fun W (hx:Ext wr W)=>Had.out k c HS.out hst2 _ W (HE.out.trans hx) (hx.sl HV.out);rw [Hpl.out k c HS.out 1] at h2;have hl2:=Hlen.out _ _ hst2;have hsd:decide (sg<0)=true:=decide_eq_true hlt;have H2:=hid h2;have Hst2:=hid hst2;have Hl2:=hid hl2;clear h2 hst2 hl2;clear hnd ho1;go_wp2_with fail
   refine H1.out.mono ?_;rintro e w1 ⟨rfl,hx1⟩;have h3:=H2.out w1 hx1;have Hx1:=hid hx1;have H3:=hid h3;clear hx1 h3;go_wp2_with fail
   refine H3.out.mono ?_;rintro e w2 ⟨v2,rfl,ho2,hx2⟩;obtain ⟨a2,c2,e2⟩:=zc3 ho2;rw [Hl2.out] at e2;subst e2;have HS2:=hid ho2.sl;have HO2:=hid (zam ho2 (HE.out.trans Hx1.out).size);have HE2:=hid ((HE.out.trans Hx1.out).trans hx2);clear ho2 hx2;go_wp2_with fail
   go_roundw
   case rel=>exact ⟨k+1,bmp 1 c,a2,c2,by go_num,rfl,Hst2,HS2,hid (.inr HO2.out),HE2⟩
   case measure=>simp [zal];omega
  ·have hdn2:zgz p c≤zgy p c:=by
    have:=Hng.out;rcases Nat.lt_or_ge (zgy p c) (zgz p c) with q | q
    ·exact absurd (this.2 (by omega)) hlt
    ·exact q
   have hsd:decide (sg<0)=false:=decide_eq_false hlt;have h2:=fun W (hx:Ext wr W)=>Hcm.out k c HS.out _ W (HE.out.trans hx) (hx.sl HV.out);rw [Hce.out k c HS.out] at h2;have hdd:=Hdn.out k c HS.out;have hrd:zgZ p c (zhN p.length)<0→Rdd p c:=fun h=>⟨Hiv.out,hdn2,h⟩;have hsb2:=fun (hst2:Stp p x (k+1) (bmp (-1) c)) W (hx:Ext wr W)=>Hsb.out k c HS.out hst2 _ W (HE.out.trans hx) (hx.sl HV.out);rw [Hpl.out k c HS.out (-1)] at hsb2;generalize zgZ p c (zhN p.length)=z at *;generalize zhS p c (zkt n)=te at *;have H2:=hid h2;have Hdd:=hid hdd;have Hrd:=hid hrd;have Hsb2:=hid hsb2;clear h2 hdd hrd hsb2;clear hdn2 ho1;by_cases hz:z<0
   ·have hzd:decide (z<0)=true:=decide_eq_true hz;have hrr:=Hrd.out hz;have Hrr:=hid hrr;clear hrr;go_wp2_with fail
    refine H1.out.mono ?_;rintro e w1 ⟨rfl,hx1⟩;have h3:=H2.out w1 hx1;have Hx1:=hid hx1;have H3:=hid h3;clear hx1 h3;go_wp2_with fail
    refine H3.out.mono ?_;rintro e w2 ⟨rfl,hx2⟩;have HO2:=hid (HO.out.imp id fun h=>(Hx1.out.trans hx2).ownI h);have HE2:=hid ((HE.out.trans Hx1.out).trans hx2);clear hx2;go_wp2
    go_ret
    exact ⟨_,c,rfl,Hrr.out,HO2.out,HE2.out⟩
   ·have hzd:decide (z<0)=false:=decide_eq_false hz;have hst2:=Hdd.out (by omega);have h4:=Hsb2.out hst2;have hl2:=Hlen.out _ _ hst2;have H4:=hid h4;have Hst2:=hid hst2;have Hl2:=hid hl2;clear h4 hst2 hl2;go_wp2_with fail
    refine H1.out.mono ?_;rintro e w1 ⟨rfl,hx1⟩;have h3:=H2.out w1 hx1;have Hx1:=hid hx1;have H3:=hid h3;clear hx1 h3;go_wp2_with fail
    refine H3.out.mono ?_;rintro e w2 ⟨rfl,hx2⟩;have h5:=H4.out w2 (Hx1.out.trans hx2);have Hx2:=hid (Hx1.out.trans hx2);have H5:=hid h5;clear h5;clear hx2;go_wp2_with fail
    refine H5.out.mono ?_;rintro e w3 ⟨v3,rfl,ho3,hx3⟩;obtain ⟨a3,c3,e3⟩:=zc3 ho3;rw [Hl2.out] at e3;subst e3;have HS3:=hid ho3.sl;have HO3:=hid (zam ho3 (HE.out.trans Hx2.out).size);have HE3:=hid ((HE.out.trans Hx2.out).trans hx3);clear ho3 hx3;go_wp2_with fail
    go_roundw
    case rel=>exact ⟨k+1,bmp (-1) c,a3,c3,by go_num,rfl,Hst2,HS3,hid (.inr HO3.out),HE3⟩
    case measure=>simp [zal];omega
theorem znM (vm:Value)(m:List (List Int))(n:Nat)(w:World)(hm:Mat w vm m)(h0:0<m.length)(hn:(m.getD 0 []).length=n)(hml:m.length≤1000) :
  Calls Tryz.prog 108 #[vm] w fun e w'=>e=.returned (.int .i64 n)∧Ext w w':=by
 obtain ⟨vs,hvs,hsl,hrows⟩:=hm;obtain ⟨am,cm,rfl,_,_,hcm⟩:=hsl.parts;obtain ⟨u,hu⟩:∃ u,vs[0]?=some u:=⟨_,List.getElem?_eq_getElem (by omega)⟩;obtain ⟨b,off,e1,hcu⟩:=hcm 0 u hu;subst e1;obtain ⟨a0,c0,rfl,_,_,_⟩:=(hrows 0 u hu).parts;rw [zar,hn,Nat.add_zero] at hcu;rw [hvs];clear hsl hrows hcm hvs hu hn;have hi1:(0:Int)<(m.length:Int):=by omega
 have hne:((m.length:Int) == 0)=false:=beq_eq_false_iff_ne.2 (by omega);go_enter Tryz.func108,Tryz.ntmps108
 go_wp2
 go_ret
 exact ⟨rfl,Ext.refl _⟩
def znN (z:Int):List Value:=[.int .i64 z]
theorem znO (l:List Int):l.flatMap znN=zap l:=by
 induction l with
 | nil=>rfl
 | cons z l ih=>rw [List.flatMap_cons,ih];rfl
theorem znP : 3 ≠ 33:=by decide
theorem GdM.mat {w:World}{B:Nat}{v:Value}{ls:List (GR Int)}(h:GdM znN 3 33 1 w B v ls):Mat w v (ls.map GR.x):=by
 refine ⟨ls.map GR.u,by simp,zan h.own,fun i u hu=>?_⟩;rw [List.getElem?_map] at hu
 cases he:ls[i]? with
 | none=>rw [he] at hu;cases hu
 | some e =>
  rw [he] at hu
  obtain rfl:=Option.some.inj hu
  rw [List.getD_eq_getElem?_getD,List.getElem?_map,he]
  have:=zan (h.rows e (List.mem_of_getElem? he))
  rw [znO] at this
  exact this
def znQ (m:List (List Int))(c j:Nat):List Int:=(m.take j).map fun r=>zas r c
theorem znR {m:List (List Int)}{c j:Nat}{r:List Int}(h:m[j]?=some r):zap (znQ m c (j+1))=zap (znQ m c j)++[.int .i64 (zas r c)]:=by
 obtain ⟨h1,h2⟩:=List.getElem?_eq_some_iff.1 h;unfold znQ zap;rw [List.take_succ_eq_append_getElem h1,h2,List.map_append,List.map_append];rfl
theorem znS {m:List (List Int)}{n c:Nat}(hn:(m.getD 0 []).length=n)(hc:c<n):(zjk m).take (c+1)=(zjk m).take c++[znQ m c m.length]:=by
 have hl:c<(zjk m).length:=by unfold zjk;rw [List.length_map,List.length_range,hn];exact hc
 rw [List.take_succ_eq_append_getElem hl];have:(zjk m)[c]=znQ m c m.length:=by
  have h2:(zjk m)[c]?=some (znQ m c m.length):=by
   unfold zjk znQ zas;rw [List.getElem?_map,List.getElem?_range (by rw [hn];exact hc),List.take_length];rfl
  exact (List.getElem?_eq_some_iff.1 h2).2
 rw [this]
theorem znT (vm:Value)(m:List (List Int))(n k:Nat)(w:World)(hm:Mat w vm m)(hk:m.length=k)(hk0:0<k)(hk9:k≤1000)(hn0:0<n)(hn9:n≤1000)(hrec:∀ r∈m,r.length=n)(ht:zkZ m=0) :
  Calls Tryz.prog 75 #[vm] w fun e w'=>∃ v,e=.returned (.tuple #[v,.int .i64 0])∧∃ ls,GdM znN 3 33 1 w' w.heap.size v ls∧ls.map GR.x=zjk m∧Ext w w':=by
 obtain ⟨i0,hi,hz0,hz1,hz2⟩:=info_parts zc1;obtain ⟨j0,hj,hy0,hy1,hy2⟩:=info_parts zns;have hg0:(m.getD 0 []).length=n:=by
  rw [List.getD_eq_getElem?_getD,List.getElem?_eq_getElem (by omega)];exact hrec _ (List.getElem_mem _)
 have hrow:∀ i,(m.getD i []).length≤1000000:=fun i=>by
  rw [List.getD_eq_getElem?_getD]
  cases h:m[i]? with
  | none=>exact Nat.zero_le _
  | some r=>have:=hrec r (List.mem_of_getElem? h);simp only [Option.getD_some];omega
 have htc:=zlb vm m w hm hrow (by omega);rw [ht] at htc;have hco:=fun W (hE:Ext w W)=>znM vm m n W (hE.mat hm) (by omega) hg0 (by omega);obtain ⟨vs,hvl,hvs,hrows⟩:=hm;obtain ⟨am,cm,rfl,_,_,hc⟩:=hvs.parts;rw [hvl,hk] at htc hco ⊢;have Htc:=hid htc;have Hco:=hid hco;have Hc:=hid hc;have Hrows:=hid hrows;have Hrec:=hid hrec;have Hk:=hid hk;have Hvl:=hid hvl;have Hg0:=hid hg0;clear htc hco hc hrows hrec hk hvl hvs hrow hg0 ht;go_enter Tryz.func75,Tryz.ntmps75
 go_wp2_with fail
 refine Htc.out.mono ?_;rintro e w1 ⟨rfl,hx1⟩;have Hx1:=hid hx1;clear hx1;go_wp2_with fail
 refine (Hco.out w1 Hx1.out).mono ?_;rintro e w2 ⟨rfl,hx2⟩;have Hx2:=hid (Hx1.out.trans hx2);clear hx2;go_wp2_with fail
 go_loopw [17,5] (fun v17 v5 wr=>∃ (c:Nat)(ls:List (GR Int)),v17=.int .i64 c∧c≤n∧Hid (GdM znN 3 33 1 wr w.heap.size v5 ls)∧Hid (ls.map GR.x=(zjk m).take c)∧Hid (Ext w wr)) (fun v17 _ _=>n - (zal v17).toNat)
 case atStart=>exact ⟨0,[],rfl,Nat.zero_le _,hid (GdM.nil _ _),hid rfl,Hx2⟩
 case round =>
  obtain ⟨c,ls,rfl,hcn,HG,HM,HE⟩:=hrel;by_cases hcc:c<n
  ·have hk1:(0:Int)≤(c:Int):=(by omega);have hk2:(c:Int)<(n:Int):=(by omega);have hll:ls.length=c:=by
    have:=congrArg List.length HM.out;rw [List.length_map,List.length_take] at this;unfold zjk at this;rw [List.length_map,List.length_range,Hg0.out] at this;omega
   have Hll:=hid hll;clear hll;go_wp2_with fail
   obtain ⟨wb,hwb⟩:∃ wb,wb=wr:=⟨_,rfl⟩;subst hwb;go_loopw [22,7] (fun v22 v7 wj=>∃ j:Nat,v22=.int .i64 j∧j≤k∧wj.ownsRow wb.heap.size 3 1 v7 j (zap (znQ m c j))∧Ext wb wj) (fun v22 _ _=>k - (zal v22).toNat)
   case atStart=>exact ⟨0,rfl,Nat.zero_le _,World.ownsRow_nil _ _ _ 1,Ext.refl _⟩
   case round =>
    obtain ⟨j,rfl,hjk,ho,hE⟩:=hrel;obtain ⟨a6,c6,rfl⟩:=zc3 ho;have hEw:=HE.out.trans hE;by_cases hjj:j<k
    ·obtain ⟨r,hr⟩:∃ r,m[j]?=some r:=⟨_,List.getElem?_eq_getElem (by have:=Hk.out;omega)⟩;obtain ⟨u,hu⟩:∃ u,vs[j]?=some u:=⟨_,List.getElem?_eq_getElem (by rw [Hvl.out,Hk.out];exact hjj)⟩;obtain ⟨b,off,rfl,hcu⟩:=Hc.out j u hu;have hru:=Hrows.out j u hu;rw [List.getD_eq_getElem?_getD,hr] at hru;simp only [Option.getD_some] at hru;have hrl:=Hrec.out r (List.mem_of_getElem? hr);obtain ⟨ar,cr,rfl,_,_,hcr⟩:=hru.parts;have hil:(zap r).length=n:=(by rw [zar];exact hrl);rw [hil] at hcu;obtain ⟨b2,o2,rfl,hcj⟩:=hcr c (.int .i64 (zas r c)) (by unfold zap zas;rw [List.getElem?_map,List.getElem?_eq_getElem (by omega),List.getD_eq_getElem?_getD,List.getElem?_eq_getElem (by omega)];rfl);have hcw:=hEw.cell hcu;have hcj2:=hEw.cell hcj;have hst:=znR (c:=c) hr;generalize zas r c=z at *;have hj1:(0:Int)≤(j:Int):=(by omega);have hj2:(j:Int)<(k:Int):=(by omega);have Hst:=hid hst;have Ho:=hid ho;have HE2:=hid hE;have hm3:j+1≤maxLen:=(by unfold maxLen;omega);have hm4:(j+1) * 8≤140737488355328:=(by omega);have hbase:=HE2.out.size;clear hst ho hE hEw hcu hcj hru hil hrl hr hu hcr;go_wp2_with (at_builtin;refine wpList_append_own _ rfl _ _ 33 rfl wb.heap.size 3 i0 (.int .i64 0) 1 8 Tryz.underlying33 hi hz0 hz1 hz2 rfl (by decide) _ _ _ rfl (Ho.out.alloc _) ⟨wr.heap.size,0,none⟩ 1 1 [.int .i64 z] rfl rfl (cell_one_new _ _ _) (by simp [Value.oneCell']) hm3 hm4 (by rw [World.size_alloc];omega) ?_;intro v7 V7 hown7 hgrow7 _)
     go_roundw
     case rel=>exact ⟨j+1,by go_num,hjj,by rw [Hst.out];exact hown7,(HE2.out.alloc _).grown hgrow7 fun q hq=>(World.ownsRow.lt Ho.out q hq).1⟩
     case measure=>simp [zal];omega
    ·have hjn2:j=k:=(by omega);subst hjn2;obtain ⟨g,cg,eg,hg1,hg2⟩:=zmX ho hk0;injection eg with eg1 _ eg2;subst eg1 eg2;have hcl:(znQ m c j).length=j:=(by unfold znQ;rw [List.length_map,List.length_take,Hk.out,Nat.min_self]);have hG:=HG.out.ext hE;have hne:∀ f∈ls,f.g ≠ g:=fun f hf=>by
      have:=(HG.out.lt hf).2;omega
     have hrow:wr.ownsRow w.heap.size 3 1 (GR.u ⟨g,c6,znQ m c j⟩) (znQ m c j).length ((znQ m c j).flatMap znN):=by
      unfold GR.u;rw [znO,show (GR.mk g c6 (znQ m c j)).x=znQ m c j from rfl,hcl];exact zam ho HE.out.size
     obtain ⟨a3,c3,e3⟩:=zc3 hG.own;subst e3;have hm3:c+1≤maxLen:=(by unfold maxLen;omega);have hm4:(c+1) * 24≤140737488355328:=(by omega);have hqo:=hG.own;rw [Hll.out] at hqo ⊢;have hbase:w.heap.size≤wr.heap.size:=hEw.size;have HG2:=hid hG;have Hrow:=hid hrow;have Hne:=hid hne;have HEw:=hid hEw;have Hcl:=hid hcl;clear hG hrow hne hEw ho hE hcl;have hkk9:¬ (j:Int)<(j:Int):=(by omega);go_wp2_with (at_builtin;refine wpList_append_own _ rfl _ _ 78 rfl w.heap.size 33 j0 (.slice none 0 0) 1 24 Tryz.underlying78 hj hy0 hy1 hy2 rfl (by decide) _ _ _ rfl (hqo.alloc _) ⟨wr.heap.size,0,none⟩ 1 1 [.slice (some ⟨g,0,none⟩) j c6] rfl rfl (cell_one_new _ _ _) (by simp [Value.oneCell']) hm3 hm4 (by rw [World.size_alloc];omega) ?_;intro v7 V7 hown7 hgrow7 _)
     go_roundw
     case rel =>
      have hown7':V7.ownsRow w.heap.size 33 1 v7 (ls.length+1) (ls.map GR.u++[GR.u ⟨g,c6,znQ m c j⟩]):=by
       rw [Hll.out];unfold GR.u;rw [show (GR.mk g c6 (znQ m c j)).x=znQ m c j from rfl,Hcl.out];exact hown7
      have hmo:=HG2.out.more (e:=⟨g,c6,znQ m c j⟩) znP Hrow.out Hne.out hown7' (by rw [Hll.out] <;> exact hgrow7)
      refine ⟨c+1,ls++[⟨g,c6,znQ m c j⟩],by go_num,hcc,hid hmo,hid ?_,hid ((HEw.out.alloc _).grown hgrow7 fun q hq=>(World.ownsRow.lt hqo q hq).1)⟩;rw [List.map_append,HM.out,znS Hg0.out hcc,Hk.out];rfl
     case measure=>simp [zal];omega
  ·have hcl:c=n:=(by omega);have hkk2:¬ (c:Int)<(n:Int):=(by omega);have hM:=HM.out;rw [hcl,List.take_of_length_le (by unfold zjk;rw [List.length_map,List.length_range,Hg0.out];exact Nat.le_refl _)] at hM;have HM2:=hid hM;clear hM hcl;go_wp2
   go_ret2
   exact ⟨_,rfl,ls,HG.out,HM2.out,HE.out⟩
end
end Go.Proofs.YtipkdebkdnbieaaGreatDoor
