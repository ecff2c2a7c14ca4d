/- Walk: epimorphism.steps: the sum of products. (KEEPALL) Walks: Set.wrong over a function that compares the steps; the closures of Val and Wrong. (KEEPALL) Blocks of two cells of any type: results and boxes. Walk: epimorphism.Val of a right set where the plain one answers. (KEEPALL) Walks: equal sizes: slices.Equal at fractions, size.Equal. Walks: slices.Clone at sizes and at primes; a list of sizes with one more. -/
import Derived.Test.YtipkdebkdnbieaaGreatDoorPe12
import Derived.Test.YtipkdebkdnbieaaGreatDoorPe14
import Derived.Test.YtipkdebkdnbieaaGreatDoorPe18
import Derived.Test.YtipkdebkdnbieaaGreatDoorPe07
import Derived.Test.YtipkdebkdnbieaaGreatDoorPe26
import Derived.Test.YtipkdebkdnbieaaGreatDoorPe09
import Derived.Test.YtipkdebkdnbieaaGreatDoorPe10
import Derived.Test.YtipkdebkdnbieaaGreatDoorShelfE
set_option maxRecDepth 100000
set_option maxHeartbeats 4000000
namespace Go.Proofs.YtipkdebkdnbieaaGreatDoor
section
open Go.RowKit Go.Lib
def znY (v x:List Int):Nat→Int
 | 0=>0
 | j+1=>znY v x j+zas v j * zas x j
theorem znZ {v x:List Int}:∀ {n:Nat},n≤v.length→n≤x.length→znY v x n=((List.zipWith (fun a b=>a * b) v x).take n).sum
 | 0,_,_=>rfl
 | n+1,h1,h2=>by
  have hl:n<(List.zipWith (fun a b=>a * b) v x).length:=by rw [List.length_zipWith];omega
  rw [znY,znZ (n:=n) (by omega) (by omega),List.take_succ_eq_append_getElem hl,List.sum_append,List.getElem_zipWith];unfold zas;rw [List.getD_eq_getElem?_getD,List.getElem?_eq_getElem (by omega),List.getD_eq_getElem?_getD,List.getElem?_eq_getElem (by omega)];simp
theorem zoa {v x:List Int}(h:x.length=v.length):znY v x x.length=ziT v x:=by
 rw [znZ (by omega) (Nat.le_refl _),List.take_of_length_le (by rw [List.length_zipWith];omega)];rfl
theorem zob {v x:List Int}(hb:∀ i,i<x.length→-1000000000000≤zas v i * zas x i∧zas v i * zas x i≤1000000000000):∀ {n:Nat},n≤x.length→-((n:Int) * 1000000000000)≤znY v x n∧znY v x n≤(n:Int) * 1000000000000
 | 0,_=>by simp [znY]
 | n+1,h=>by
  have:=zob hb (n:=n) (by omega);have:=hb n (by omega);rw [znY];omega
theorem zoc (vv vx:Value)(v x:List Int)(w:World)(hv:Sl w vv (zap v))(hx:Sl w vx (zap x))(hl:x.length=v.length)(hn:x.length≤1000)(hb:∀ i,i<x.length→-1000000000000≤zas v i * zas x i∧zas v i * zas x i≤1000000000000) :
  Calls Tryz.prog 37 #[vv,vx] w fun e w'=>e=.returned (.int .i64 (ziT v x))∧w=w':=by
 obtain ⟨av,cv,rfl,_,_,hcv⟩:=hv.parts;obtain ⟨ax,cx,rfl,_,_,hcx⟩:=hx.parts;rw [zar,zar,← zoa hl];have hbd:=fun j (hj:j≤x.length)=>zob hb hj;have hsu:=fun j=>(show znY v x (j+1)=znY v x j+zas v j * zas x j from rfl);have hvl:v.length=x.length:=hl.symm;have Hcv:=hid hcv;have Hcx:=hid hcx;have Hbd:=hid hbd;have Hsu:=hid hsu;have Hb:=hid hb;have Hvl:=hid hvl;clear hcv hcx hbd hsu hb hvl;clear hv hx hl;go_enter Tryz.func37,Tryz.ntmps37
 go_wp2_with fail
 go_loop [5,10] (fun v5 v10=>∃ j:Nat,v10=.int .i64 j∧j≤x.length∧v5=.int .i64 (znY v x j)) (fun _ v10=>x.length - (zal v10).toNat)
 case atStart=>exact ⟨0,rfl,Nat.zero_le _,rfl⟩
 case round =>
  obtain ⟨j,rfl,hj,rfl⟩:=hrel;by_cases hjn:j<x.length
  ·obtain ⟨b1,o1,rfl,hc1⟩:=Hcx.out j _ (zau hjn);obtain ⟨b2,o2,rfl,hc2⟩:=Hcv.out j _ (zau (by rw [Hvl.out];exact hjn));have h1:=Hbd.out j hj;have h2:=Hb.out j hjn;have h3:=Hsu.out j;have hlz:(x.length:Int)≤1000:=(by omega);have hjz:(j:Int) * 1000000000000≤1000000000000000:=(by omega);obtain ⟨h4,h5⟩:=h1;obtain ⟨h6,h7⟩:=h2;have h8:-1000000000000000≤znY v x j:=(by omega);have h9:znY v x j≤1000000000000000:=(by omega);have hj0:(0:Int)≤(j:Int):=(by omega);have hj1:(j:Int)<(x.length:Int):=(by omega);have hj2:(j:Int)<(v.length:Int):=(by have:=Hvl.out;omega);have H3:=hid h3;clear h3;clear h4 h5 hjz hlz;generalize znY v x j=s at *;generalize zas v j=zv at *;generalize zas x j=zx at *;go_wp2_with fail
   go_round
   case rel=>exact ⟨j+1,by go_num,hjn,by rw [H3.out]⟩
   case measure=>simp [zal];omega
  ·have hjl:j=x.length:=(by omega);have hnj:¬ (j:Int)<(x.length:Int):=(by omega);subst hjl;go_wp2
   go_ret
   exact ⟨rfl,rfl⟩
theorem zod {v:List Int}{l:List (List Int)}{k:Nat}(hk:k<l.length)(h:∀ i,i<k→(ziT v (l.getD i []) != ((i+1:Nat):Int))=false)(hw:(ziT v (l.getD k []) != ((k+1:Nat):Int))=true):ziU v l=k+1:=by
 unfold ziU;have:(List.range l.length).find? (fun i=>ziT v (l.getD i []) != ((i+1:Nat):Int))=some k:=by
  rw [List.find?_range_eq_some];exact ⟨hw,List.mem_range.2 hk,fun j hj=>by rw [h j hj];rfl⟩
 rw [this];rfl
theorem zoe {v:List Int}{l:List (List Int)}(h:∀ i,i<l.length→(ziT v (l.getD i []) != ((i+1:Nat):Int))=false):ziU v l=0:=by
 unfold ziU;have:(List.range l.length).find? (fun i=>ziT v (l.getD i []) != ((i+1:Nat):Int))=none:=by
  rw [List.find?_range_eq_none];intro i hi;rw [h i hi];rfl
 rw [this];rfl
theorem zof (g:Nat)(cb:Array Value)(vp vl:Value)(v:List Int)(l:List (List Int))(w:World)(hl:Mat w vl l)(hll:l.length≤1000)
  (eg:∀ args w,(callFunc g args).run Tryz.prog w=.ok (.enter g args) w)
  (hc:∀ W,Ext w W→∀ i u,i<l.length→Sl W u (zap (l.getD i []))→Calls Tryz.prog g (#[.int .i64 ((i:Int)+1),u]++cb) W fun e w'=>e=.returned (.bool (ziT v (l.getD i []) != ((i+1:Nat):Int)))∧Ext W w') :
  Calls Tryz.prog 35 #[.agg #[vp,vl],.func (.func g) #[] cb] w fun e w'=>e=.returned (.int .i64 (ziU v l))∧Ext w w':=by
 obtain ⟨vs,hvl,hvs,hrows⟩:=hl;obtain ⟨am,cm,rfl,_,_,hcm⟩:=hvs.parts;rw [hvl];have hbox:=zki w vp (.slice am l.length cm) 31;have hE0:Ext w (w.alloc (.cells #[vp,.slice am l.length cm] 31)):=(Ext.refl w).alloc _;have hwa:=fun k (hk:k<l.length)=>zod (v:=v) (l:=l) (k:=k) hk;have hwn:=zoe (v:=v) (l:=l);clear hvs;obtain ⟨q0,q1⟩:=hbox _ (Ext.refl _);have Hbox:=hid hbox;have HE0:=hid hE0;have Hcm:=hid hcm;have Hrows:=hid hrows;have Hvl:=hid hvl;have Hwa:=hid hwa;have Hwn:=hid hwn;have Hc:=hid hc;clear hbox hE0 hcm hrows hvl hwa hwn hc;go_enter Tryz.func35,Tryz.ntmps35
 go_wp2_with fail
 clear q0 q1;go_loopw [10] (fun v10 wr=>∃ k:Nat,v10=.int .i64 k∧k≤l.length∧Hid (∀ i,i<k→(ziT v (l.getD i []) != ((i+1:Nat):Int))=false)∧Hid (Ext w wr)) (fun v10 _=>l.length - (zal v10).toNat)
 case atStart=>exact ⟨0,rfl,Nat.zero_le _,hid (fun i hi=>by omega),HE0⟩
 case round =>
  obtain ⟨k,rfl,hk,HN,HE⟩:=hrel;by_cases hkn:k<l.length
  ·obtain ⟨u,hu⟩:∃ u,vs[k]?=some u:=⟨_,List.getElem?_eq_getElem (by rw [Hvl.out];exact hkn)⟩;obtain ⟨bl,off,rfl,hcu⟩:=Hcm.out k u hu;have hru:=Hrows.out k u hu;have h1:=Hc.out wr HE.out k u hkn (HE.out.sl hru);obtain ⟨ax,cx,rfl,_,_,_⟩:=hru.parts;have hcw:=HE.out.cell hcu;generalize (zap (l.getD k [])).length=lx at *;have hwa2:=Hwa.out k hkn HN.out;have hk1:(0:Int)≤(k:Int):=(by omega);have hk2:(k:Int)<(l.length:Int):=by omega
   cases hz:(ziT v (l.getD k []) != ((k+1:Nat):Int))
   ·rw [hz] at h1;have H1:=hid h1;have Hz:=hid hz;clear h1 hz;clear hcu hru hu hwa2;go_wp2_with fail
    go_at_fn g
    refine H1.out.mono ?_;rintro e w3 ⟨rfl,hx3⟩;have Hx3:=hid hx3;clear hx3;go_wp2_with fail
    go_roundw
    case rel =>
     refine ⟨k+1,by go_num,hkn,hid (fun i hi=>?_),hid (HE.out.trans Hx3.out)⟩;rcases Nat.lt_or_ge i k with q | q
     ·exact HN.out i q
     ·obtain rfl:i=k:=by omega
      exact Hz.out
    case measure=>simp [zal];omega
   ·rw [hz] at h1;have hw9:=hwa2 hz;have H1:=hid h1;have Hw9:=hid hw9;clear h1 hw9;clear hcu hru hu hwa2 hz;go_wp2_with fail
    go_at_fn g
    refine H1.out.mono ?_;rintro e w3 ⟨rfl,hx3⟩;have Hx3:=hid hx3;clear hx3;go_wp2
    go_ret
    exact ⟨by rw [Hw9.out] <;> rfl,HE.out.trans Hx3.out⟩
  ·have hkl:k=l.length:=(by omega);have hnk:¬ (k:Int)<(l.length:Int):=(by omega);have hw9:=Hwn.out (fun i hi=>HN.out i (by omega));have Hw9:=hid hw9;clear hw9;clear hkl;go_wp2
   go_ret
   exact ⟨by rw [Hw9.out] <;> rfl,HE.out⟩
theorem zog (b:Nat)(vv u:Value)(v x:List Int)(i:Int)(w:World)(hc:w.cell? ⟨b,0,none⟩=some vv)(hv:Sl w vv (zap v))(hx:Sl w u (zap x))(hl:x.length=v.length)(hn:x.length≤1000)(hb:∀ i,i<x.length→-1000000000000≤zas v i * zas x i∧zas v i * zas x i≤1000000000000) :
  Calls Tryz.prog 36 #[.int .i64 i,u,.pointer (some ⟨b,0,none⟩)] w fun e w'=>e=.returned (.bool (ziT v x != i))∧Ext w w':=by
 have hst:=zoc vv u v x w hv hx hl hn hb;obtain ⟨av,cv,rfl,_,_,_⟩:=hv.parts;obtain ⟨ax,cx,rfl,_,_,_⟩:=hx.parts;generalize ziT v x=s at *;have Hst:=hid hst;clear hst;clear hv hx
 cases hq:(s != i)
 all_goals
  go_enter Tryz.func36,Tryz.ntmps36
  go_wp2_with fail
  refine Hst.out.mono ?_;rintro e w3 ⟨rfl,rfl⟩;go_wp2
  go_ret
  exact ⟨rfl,Ext.refl _⟩
theorem zoh : ∀ args w,(callFunc 36 args).run Tryz.prog w=.ok (.enter 36 args) w:=enters_of Tryz.func36 (by kernel_rfl) rfl
def zoi (T:TypeId)(w:World)(b:Nat)(u v:Value):Prop:=w.heap[b]?=some (.cells #[u,v] T (0,0))
section
variable {T : TypeId} {w w' : World} {b c : Nat} {u v : Value}
theorem zoi.new (T:TypeId)(w:World)(u v:Value):zoi T (w.alloc (.cells #[u,v] T)) w.heap.size u v:=World.alloc_heap_new w _
theorem zoi.ext (hx:Ext w w')(h:zoi T w b u v):zoi T w' b u v:=hx.heap h
theorem zoi.c0 (h:zoi T w b u v):w.cell? ⟨b,0,none⟩=some u:=by unfold World.cell?;dsimp only;rw [h];rfl
theorem zoi.c1 (h:zoi T w b u v):w.cell? ⟨b,1,none⟩=some v:=by unfold World.cell?;dsimp only;rw [h];rfl
theorem zoi.fz (h:zoi T w b u v)(k:Nat):w.frozen? ⟨b,k,none⟩=false:=frozen_of_row w b k #[u,v] _ h
theorem zoi.lt (h:zoi T w b u v):b<w.heap.size:=(Array.getElem?_eq_some_iff.1 h).1
theorem zoi.put (h:zoi T w c u v)(x y:Value):zoi T ((w.setCell ⟨c,0,none⟩ x).setCell ⟨c,1,none⟩ y) c x y :=
 heap_setCell_same _ c 1 _ _ y (heap_setCell_same w c 0 _ _ x h)
theorem zoi.put0 (h:zoi T w c u v)(x:Value):zoi T (w.setCell ⟨c,0,none⟩ x) c x v:=heap_setCell_same w c 0 _ _ x h
theorem zoi.put1 (h:zoi T w c u v)(x:Value):zoi T (w.setCell ⟨c,1,none⟩ x) c u x:=heap_setCell_same w c 1 _ _ x h
theorem zoi.past1 (h:zoi T w b u v)(k:Nat)(hne:b ≠ c)(x:Value):zoi T (w.setCell ⟨c,k,none⟩ x) b u v:=(heap_setCell_other w ⟨c,k,none⟩ b x hne).trans h
theorem zoi.past (h:zoi T w b u v)(hne:b ≠ c)(x y:Value):zoi T ((w.setCell ⟨c,0,none⟩ x).setCell ⟨c,1,none⟩ y) b u v:=(h.past1 0 hne x).past1 1 hne y
end
def zoj (T:TypeId)(w:World)(c:Nat):Prop:=∃ u v,zoi T w c u v
section
variable {T : TypeId} {w w' w2 : World} {b c : Nat} {u v : Value}
theorem zoj.ext (hx:Ext w w')(h:zoj T w c):zoj T w' c:=by
 obtain ⟨u,v,h⟩:=h;exact ⟨u,v,h.ext hx⟩
theorem zoj.c0 (h:zoj T w c):w.cell? ⟨c,0,none⟩=some (zet w c 0):=by
 obtain ⟨u,v,h⟩:=h;unfold zet;rw [h.c0];rfl
theorem zoj.c1 (h:zoj T w c):w.cell? ⟨c,1,none⟩=some (zet w c 1):=by
 obtain ⟨u,v,h⟩:=h;unfold zet;rw [h.c1];rfl
theorem zoj.fz (h:zoj T w c)(k:Nat):w.frozen? ⟨c,k,none⟩=false:=by
 obtain ⟨u,v,h⟩:=h;exact h.fz k
structure K0 (T:TypeId)(w w':World)(c:Nat):Prop where
 x:Ext w w'
 res:zoj T w' c
theorem K0.ext (h:K0 T w w' c)(hx:Ext w' w2):K0 T w w2 c:=⟨h.x.trans hx,h.res.ext hx⟩
theorem K0.fin (h:K0 T w w' c)(hc:w.heap.size≤c)(x y:Value):zoi T ((w'.setCell ⟨c,0,none⟩ x).setCell ⟨c,1,none⟩ y) c x y∧Ext w ((w'.setCell ⟨c,0,none⟩ x).setCell ⟨c,1,none⟩ y):=by
 obtain ⟨u',v',h'⟩:=h.res;exact ⟨h'.put x y,(h.x.setCell hc _).setCell hc _⟩
theorem K0.set (h:K0 T w w' c){b:Nat}(hb:w.heap.size≤b)(hne:c ≠ b)(k:Nat)(x:Value):K0 T w (w'.setCell ⟨b,k,none⟩ x) c:=by
 obtain ⟨u',v',h'⟩:=h.res;exact ⟨h.x.setCell hb _,u',v',h'.past1 k hne x⟩
end
structure K2 (T1 T2 TR:TypeId)(w w':World)(b1:Nat)(u1 v1:Value)(b2:Nat)(u2 v2:Value)(c:Nat):Prop where
 x:Ext w w'
 a:zoi T1 w' b1 u1 v1
 b:zoi T2 w' b2 u2 v2
 res:zoj TR w' c
section
variable {T1 T2 TR : TypeId} {w w' w2 : World} {b1 b2 c : Nat} {u1 v1 u2 v2 : Value}
theorem K2.ext (h:K2 T1 T2 TR w w' b1 u1 v1 b2 u2 v2 c)(hx:Ext w' w2):K2 T1 T2 TR w w2 b1 u1 v1 b2 u2 v2 c:=⟨h.x.trans hx,h.a.ext hx,h.b.ext hx,h.res.ext hx⟩
theorem K2.put (h:K2 T1 T2 TR w w' b1 u1 v1 b2 u2 v2 c)(hc:w.heap.size≤c)(h1:b1 ≠ c)(h2:b2 ≠ c)(x y:Value):K2 T1 T2 TR w ((w'.setCell ⟨c,0,none⟩ x).setCell ⟨c,1,none⟩ y) b1 u1 v1 b2 u2 v2 c:=by
 obtain ⟨u,v,hr⟩:=h.res;exact ⟨(h.x.setCell hc _).setCell hc _,h.a.past h1 x y,h.b.past h2 x y,x,y,hr.put x y⟩
theorem K2.fin (h:K2 T1 T2 TR w w' b1 u1 v1 b2 u2 v2 c)(hc:w.heap.size≤c)(x y:Value):zoi TR ((w'.setCell ⟨c,0,none⟩ x).setCell ⟨c,1,none⟩ y) c x y∧Ext w ((w'.setCell ⟨c,0,none⟩ x).setCell ⟨c,1,none⟩ y):=by
 obtain ⟨u',v',h'⟩:=h.res;exact ⟨h'.put x y,(h.x.setCell hc _).setCell hc _⟩
theorem K2.all (h:K2 T1 T2 TR w w' b1 u1 v1 b2 u2 v2 c):K2 T1 T2 TR w w' b1 u1 v1 b2 u2 v2 c∧w'.cell? ⟨b1,0,none⟩=some u1∧w'.cell? ⟨b1,1,none⟩=some v1∧w'.cell? ⟨b2,0,none⟩=some u2∧w'.cell? ⟨b2,1,none⟩=some v2∧w'.cell? ⟨c,0,none⟩=some (zet w' c 0)∧w'.cell? ⟨c,1,none⟩=some (zet w' c 1)∧w'.frozen? ⟨c,0,none⟩=false∧w'.frozen? ⟨c,1,none⟩=false :=
 ⟨h,h.a.c0,h.a.c1,h.b.c0,h.b.c1,h.res.c0,h.res.c1,h.res.fz 0,h.res.fz 1⟩
end
end
section
open Go.RowKit Go.Lib Go.Shelf
def One (T:TypeId)(w:World)(b:Nat)(u:Value):Prop:=w.heap[b]?=some (.cells #[u] T (0,0))
section
variable {T : TypeId} {w w' : World} {b c : Nat} {u : Value}
theorem One.new (T:TypeId)(w:World)(u:Value):One T (w.alloc (.cells #[u] T)) w.heap.size u:=World.alloc_heap_new w _
theorem One.ext (hx:Ext w w')(h:One T w b u):One T w' b u:=hx.heap h
theorem One.cell (h:One T w b u):w.cell? ⟨b,0,none⟩=some u:=by unfold World.cell?;dsimp only;rw [h];rfl
theorem One.fz (h:One T w b u):w.frozen? ⟨b,0,none⟩=false:=frozen_of_row w b 0 #[u] _ h
theorem One.sl {v y:Value}{x:List Int}(h:One T w b u)(hs:Sl w v (zap x))(hn:∀ z,u ≠ .int .i64 z):Sl (w.setCell ⟨b,0,none⟩ y) v (zap x):=by
 rcases hs with hs | ⟨g,off,cap,e,h1,h2,hc⟩
 ·exact .inl hs
 ·refine .inr ⟨g,off,cap,e,h1,h2,fun i t ht=>?_⟩;have h3:=hc i t ht;have hne:g ≠ b:=fun q=>by
   subst q;unfold World.cell? at h3;dsimp only at h3;rw [show w.heap[g]?=some (.cells #[u] T (0,0)) from h] at h3;have h4:(#[u]:Array Value)[off+i]?=some t:=h3;rw [← Array.getElem?_toList] at h4;have h5:=List.mem_of_getElem? h4;simp only [List.mem_singleton] at h5;unfold zap at ht;obtain ⟨z,_,hz⟩:=List.mem_map.1 (List.mem_of_getElem? ht);exact hn z (by rw [hz,h5])
  have h6:=heap_setCell_other w ⟨b,0,none⟩ g y hne;unfold World.cell? at h3 ⊢;dsimp only at h3 ⊢;rw [h6];exact h3
theorem One.put (h:One T w b u)(x:Value):One T (w.setCell ⟨b,0,none⟩ x) b x:=heap_setCell_same w b 0 _ _ x h
end
theorem zok (a b:Int):(fdv a b).natAbs≤a.natAbs:=by
 by_cases h:b=0
 ·subst h;unfold fdv;simp
 ·exact zlE h
@[irreducible] def zol : Nat:=10 ^ (zi1+zi1+1)
theorem zom : zol=zi2 * zi2 * 10:=by unfold zol zi2;rw [Nat.pow_succ,Nat.pow_add]
theorem zon : 0<zi2:=by unfold zi2;exact Nat.pow_pos (by omega)
theorem zoo : zi2 * zi2+zi2<zol:=by
 rw [zom];have h1:=zon;have h2:zi2 * 1≤zi2 * zi2:=Nat.mul_le_mul_left _ h1;have h3:1 * 1≤zi2 * zi2:=Nat.mul_le_mul h1 h1;omega
theorem zop : 1000000000000<zi2:=by
 unfold zi2;exact Nat.lt_of_lt_of_le (by decide:1000000000000<10 ^ 13) (Nat.pow_le_pow_right (by omega) (by unfold zi1;omega))
theorem zoq : ∀ {f:List (List Int)}{l lF:List Int},(∀ z∈l,z.natAbs<zol)→ziP f l=some lF→∀ z∈lF,z.natAbs<zol
 | [],l,lF,h,hr=>by
  rw [ziP] at hr;obtain rfl:=Option.some.inj hr;exact h
 | r::f,l,lF,_,hr=>by
  obtain ⟨h1,h2,h3⟩:=zmr hr;refine zoq (fun z hz=>?_) h3;unfold ziO at hz;split at hz
  ·unfold ziC at hz;obtain ⟨i,hi⟩:=List.mem_iff_getElem?.1 hz;rw [List.getElem?_zipWith] at hi
   cases ha:l[i]? with
   | none=>rw [ha] at hi;simp at hi
   | some a =>
    cases hb:r[i]? with
    | none=>rw [ha,hb] at hi;simp at hi
    | some b =>
     rw [ha,hb] at hi
     have hz2:=(Option.some.inj hi).symm
     have e1:=h1 a (List.mem_of_getElem? ha)
     have e2:=h2 b (List.mem_of_getElem? hb)
     have hg:(l.getD (ziM r) 0).natAbs<zi2:=by
      rw [List.getD_eq_getElem?_getD]
      cases hg:l[ziM r]? with
      | none=>exact zon
      | some q=>exact h1 q (List.mem_of_getElem? hg)
     have hq:(fdv (l.getD (ziM r) 0) (r.getD (ziM r) 0)).natAbs<zi2:=Nat.lt_of_le_of_lt (zok _ _) hg
     generalize fdv (l.getD (ziM r) 0) (r.getD (ziM r) 0)=q at *
     have hm:(q * b).natAbs≤zi2 * zi2:=by rw [Int.natAbs_mul];exact Nat.mul_le_mul (Nat.le_of_lt hq) (Nat.le_of_lt e2)
     generalize q * b=t at *
     have:=zoo
     subst hz2
     omega
  ·have:=h1 z hz;exact Nat.lt_trans this (by have:=zoo;have:=zon;omega)
theorem zor {z:Int}(h:z.natAbs<zol):Fit z:=Nat.le_trans (Dec.nDigits_le (k:=zi1+zi1+1) (by omega) (by unfold zol at h;exact h)) (by unfold zi1;omega)
theorem zos : ∀ {l m mF:List (List Int)}{i:Nat}{a aF:List Int},ziR l i m a=some (mF,aF)→(∀ z∈a,0≤z∧z≤((i:Nat):Int))→∀ z∈aF,0≤z∧z≤((i+l.length:Nat):Int)
 | [],m,mF,i,a,aF,h,ha=>by
  rw [ziR] at h;obtain ⟨rfl,rfl⟩:=Prod.mk.inj (Option.some.inj h);exact ha
 | x::l,m,mF,i,a,aF,h,ha=>by
  obtain ⟨r,_,h1,h2⟩:=znG h;have key:∀ z∈aF,0≤z∧z≤((i+1+l.length:Nat):Int):=by
   by_cases e:r=(m++[x]).length
   ·refine zos (h1 e) fun z hz=>?_;rcases List.mem_append.1 hz with q | q
    ·have:=ha z q;omega
    ·rw [List.mem_singleton.1 q];omega
   ·refine zos (h2 e) fun z hz=>?_;have:=ha z hz;omega
  intro z hz;have:=key z hz;rw [List.length_cons];omega
theorem zot {p:List Int}:∀ {l:List (List Int)}{b:List Int},zgN p b l=0→∀ r∈l,zgr p r=0
 | [],_,_=>fun r h=>by cases h
 | x::l,b,h=>by
  rw [zgN] at h;by_cases h1:zgr p x=0
  ·rw [if_neg (by simpa using h1)] at h;by_cases h2:0≤zgI p b x
   ·rw [if_pos h2] at h;omega
   ·rw [if_neg h2] at h;intro r hr;rcases List.mem_cons.1 hr with q | q
    ·rw [q];exact h1
    ·exact zot h r q
  ·rw [if_pos h1] at h;exact absurd h h1
theorem zou {p:List Int}{l:List (List Int)}(h:zgO p l=0):zcw p=0∧0<l.length∧l.length≤60∧∀ r∈l,zgr p r=0:=by
 unfold zgO at h;by_cases h1:zcw p=0
 ·rw [if_neg (by simpa using h1)] at h;by_cases h2:l.length=0
  ·rw [if_pos h2] at h;omega
  ·rw [if_neg h2] at h;by_cases h3:60<l.length
   ·rw [if_pos h3] at h;omega
   ·rw [if_neg h3] at h;exact ⟨h1,by omega,by omega,zot h⟩
 ·rw [if_pos h1] at h;exact absurd h h1
theorem zov {x:List Int}{z:Int}(h:z∈x):∃ i,i<x.length∧zas x i=z:=by
 obtain ⟨i,hi⟩:=List.mem_iff_getElem?.1 h;have hl:=(List.getElem?_eq_some_iff.1 hi).1;refine ⟨i,hl,?_⟩;unfold zas;rw [List.getD_eq_getElem?_getD,hi];rfl
theorem zow {l:List (List Int)}{R:Option (List Int)}(h:ziV l=some R):∃ mF aF,ziR l 0 [] []=some (mF,aF)∧∃ S,ziQ (ziS mF) aF=some S∧(S=none→R=none)∧∀ v,S=some v→R=if 0<ziU v l then none else some v:=by
 unfold ziV at h;split at h
 ·cases h
 ·rename_i m a hi;refine ⟨m,a,hi,?_⟩;split at h
  ·cases h
  ·rename_i hs;exact ⟨none,hs,fun _=>(Option.some.inj h).symm,fun v e=>by cases e⟩
  ·rename_i v hs;refine ⟨some v,hs,fun e=>(by cases e),fun u e=>?_⟩;obtain rfl:=Option.some.inj e;split at h
   ·rename_i hw;rw [if_pos hw];exact (Option.some.inj h).symm
   ·rename_i hw;rw [if_neg hw];exact (Option.some.inj h).symm
theorem zox {m:List (List Int)}{b:List Int}{S:Option (List Int)}{n k:Nat}(h:ziQ m b=some S)(hn:(m.getD 0 []).length=n)(hk:m.length=k) :
  ∃ gF tF lF xF,ziI 100 (List.zipWith (fun r u=>r++u) m (ziK k)) 0 0 (n+k)=some (gF,tF)∧ziP ((gF.take tF).filter fun l=>ziM l<n) (b++List.replicate k 0)=some lF ∧
   (¬ ziM lF<n→ziP (ziN (gF.take tF) n) (ziD (lF.drop n))=some xF∧∀ z∈xF,z.natAbs≤1000000000)∧S=if ziM lF<n then none else some xF:=by
 unfold ziQ ziL ziJ at h;rw [hn,hk] at h
 cases ho:ziI 100 (List.zipWith (fun r u=>r++u) m (ziK k)) 0 0 (n+k) with
 | none=>rw [ho] at h;cases h
 | some g =>
  rw [ho] at h
  obtain ⟨gF,tF⟩:=g
  simp only [Option.map_some] at h
  cases hr:ziP ((gF.take tF).filter fun l=>ziM l<n) (b++List.replicate k 0) with
  | none=>rw [hr] at h;cases h
  | some lF =>
   rw [hr] at h
   dsimp only at h
   by_cases hl:ziM lF<n
   ·rw [if_pos hl] at h
    exact ⟨gF,tF,lF,[],rfl,hr,fun q=>absurd hl q,by rw [if_pos hl];exact (Option.some.inj h).symm⟩
   ·rw [if_neg hl] at h
    cases hx:ziP (ziN (gF.take tF) n) (ziD (lF.drop n)) with
    | none=>rw [hx] at h;cases h
    | some xF =>
     rw [hx] at h
     dsimp only at h
     split at h
     ·rename_i ha
      refine ⟨gF,tF,lF,xF,rfl,hr,fun _=>⟨hx,fun z hz=>?_⟩,by rw [if_neg hl];exact (Option.some.inj h).symm⟩
      have:=List.all_eq_true.1 ha z hz
      simpa using this
     ·cases h
theorem zoy {m:List (List Int)}{n:Nat}(hn:(m.getD 0 []).length=n):(ziS m).length=n∧(∀ r∈ziS m,r.length=m.length)∧(∀ P:Int→Prop,P 0→(∀ r∈m,∀ z∈r,P z)→∀ r∈ziS m,∀ z∈r,P z):=by
 unfold ziS;refine ⟨by rw [List.length_map,List.length_range,hn],fun r hr=>?_,fun P h0 hP r hr z hz=>?_⟩
 ·obtain ⟨c,_,rfl⟩:=List.mem_map.1 hr;rw [List.length_map]
 ·obtain ⟨c,_,rfl⟩:=List.mem_map.1 hr;obtain ⟨x,hx,rfl⟩:=List.mem_map.1 hz;rw [List.getD_eq_getElem?_getD]
  cases hg:x[c]? with
  | none=>exact h0
  | some q=>exact hP x hx q (List.mem_of_getElem? hg)
theorem zoz {b:List Int}(h:b.length≤64)(h2:∀ z∈b,-1000000000≤z∧z≤1000000000):zgF b=0:=by
 unfold zgF;rw [if_neg];intro q;rcases q with q | q
 ·omega
 ·obtain ⟨z,hz,hf⟩:=List.any_eq_true.1 q;have:=h2 z hz;unfold zgA at hf;rw [decide_eq_true this] at hf
  cases hf
def zo0 (n:Nat)(R:Option (List Int))(e:Ending)(w':World):Prop:=∃ v,e=.returned (.tuple #[v,.bool R.isSome,.int .i64 0])∧(R=none→v=.slice none 0 0)∧∀ x,R=some x→Sl w' v (zap x)∧x.length=n
theorem zo1 (vp vl:Value)(p:List Int)(l:List (List Int))(R:Option (List Int))(w:World)(he:Env w)(hp:Sl w vp (zap p))(hl:Mat w vl l)(hchk:zgO p l=0)(hp9:p.length≤11)(hrun:ziV l=some R)(hm0:∀ mF aF,ziR l 0 [] []=some (mF,aF)→0<mF.length) :
  Calls Tryz.prog 9 #[.agg #[vp,vl]] w fun e w'=>zo0 p.length R e w'∧Ext w w':=by
 obtain ⟨hpe,hl0,hl60,hone⟩:=zou hchk;have hrec:∀ r∈l,r.length=p.length:=fun r hr=>(zg3 (zg4 (hone r hr)).2).1;have hent:∀ r∈l,∀ z∈r,-1000≤z∧z≤1000:=fun r hr z hz=>by
  obtain ⟨i,hi,rfl⟩:=zov hz;exact (zg3 (zg4 (hone r hr)).2).2 i hi
 have hpl0:0<p.length:=(zc0 hpe).1;have hrow:∀ i,(l.getD i []).length≤1000:=fun i=>by
  rw [List.getD_eq_getElem?_getD]
  cases h:l[i]? with
  | none=>exact Nat.zero_le _
  | some r=>have:=hrec r (List.mem_of_getElem? h);simp only [Option.getD_some];omega
 obtain ⟨mF,aF,hind,S,hsol,hR0,hR1⟩:=zow hrun;have hmF0:=hm0 mF aF hind;have hck:=fun W (hE:Ext w W)=>zkj vp vl p l W (he.ext hE) (hE.sl hp) (hE.mat hl) (by omega) (by omega) hrow;rw [hchk] at hck;have hin:=fun W (hE:Ext w W)=>znM vp vl l mF aF p.length l.length W (he.ext hE) (hE.mat hl) rfl (by omega) hpl0 hp9 hrec (fun r hr z hz=>by have:=hent r hr z hz;omega) hind hmF0;have habd:=zos hind (fun z hz=>by cases hz);rw [Nat.zero_add] at habd;have hslv:∀ vt va W,Ext w W→Mat W vt (ziS mF)→Sl W va (zap aF)→mF.length≤p.length→aF.length=mF.length→(∀ r∈mF,r∈l)→Calls Tryz.prog 34 #[vt,va] W fun e w'=>∃ v,e=.returned (.tuple #[v,.bool S.isSome,.int .i64 0])∧(S=none→v=.slice none 0 0)∧(∀ x,S=some x→Sl w' v (zap x)∧x.length=p.length∧∀ z∈x,z.natAbs≤1000000000)∧Ext W w':=fun vt va W hE hmt hva hfew hal hmem=>by
  have hg:(mF.getD 0 []).length=p.length:=by
   rw [List.getD_eq_getElem?_getD,List.getElem?_eq_getElem hmF0];exact hrec _ (hmem _ (List.getElem_mem _))
  obtain ⟨t1,t2,t3⟩:=zoy hg;have hg2:((ziS mF).getD 0 []).length=mF.length:=by
   rw [List.getD_eq_getElem?_getD,List.getElem?_eq_getElem (by omega)];exact t2 _ (List.getElem_mem _)
  obtain ⟨gF,tF,lF,xF,s1,s2,s3,s4⟩:=zox hsol hg2 t1;have hten:=t3 (fun z=>-1000≤z∧z≤1000) (by decide) (fun r hr z hz=>hent r (hmem r hr) z hz);have h0:=znX vt va (ziS mF) gF aF lF xF mF.length p.length tF W (he.ext hE) hmt hva t1 t2 hal hmF0 (by omega) hpl0 (fun r hr z hz=>by have:=hten r hr z hz;omega) (fun z hz=>by have:=habd z hz;omega)
   (znI (n:=mF.length) (by omega) (by omega) (by omega) t2 fun r hr z hz=>by have:=hten r hr z hz;omega) (zoz (by omega) fun z hz=>by have:=habd z hz;omega) s1 s2
   (fun z hz=>zor (zoq (fun z hz=>by
    rcases List.mem_append.1 hz with q | q
    ·have:=habd z q;have:=zoo;have:=zop;omega
    ·rw [List.eq_of_mem_replicate q];show 0<zol;have:=zoo;omega) s2 z hz)) s3
  refine h0.mono ?_;rintro e W9 ⟨v,rfl,hv1,hv2,hx⟩;by_cases hlt:ziM lF<mF.length
  ·rw [if_pos hlt] at s4;subst s4;exact ⟨v,by rw [decide_eq_false (not_not_intro hlt)] <;> rfl,fun _=>hv1 hlt,fun x q=>(by cases q),hx⟩
  ·rw [if_neg hlt] at s4;subst s4;refine ⟨v,by rw [decide_eq_true hlt] <;> rfl,fun q=>(by cases q),fun x q=>?_,hx⟩
   obtain rfl:=Option.some.inj q;exact ⟨(hv2 hlt).1,(hv2 hlt).2,(s3 hlt).2⟩
 have hwr:∀ (b:Nat)(vv:Value)(v:List Int) W,Ext w W→(∀ V,Ext W V→V.cell? ⟨b,0,none⟩=some vv)→Sl W vv (zap v)→v.length=p.length→(∀ z∈v,z.natAbs≤1000000000)→Calls Tryz.prog 35 #[.agg #[vp,vl],.func (.func 36) #[] #[.pointer (some ⟨b,0,none⟩)]] W fun e w'=>e=.returned (.int .i64 (ziU v l))∧Ext W w':=fun b vv v W hE hc hv hvl hvb =>
  zof 36 #[.pointer (some ⟨b,0,none⟩)] vp vl v l W (hE.mat hl) (by omega) zoh fun V hV i u hi hu=>by
   have hri:l.getD i []∈l:=by
    rw [List.getD_eq_getElem?_getD,List.getElem?_eq_getElem hi];exact List.getElem_mem _
   have hx:=zog b vv u v (l.getD i []) ((i:Int)+1) V (hc V hV) (hV.sl hv) hu (by rw [hrec _ hri,hvl]) (hrow i) (fun j hj=>by
    have e1:=hent _ hri (zas (l.getD i []) j) (zc8 hj);have e2:=hvb (zas v j) (zc8 (by rw [hrec _ hri] at hj;omega));generalize zas (l.getD i []) j=y at *;generalize zas v j=z at *;have h1:(z * y).natAbs≤1000000000 * 1000:=(by rw [Int.natAbs_mul];exact Nat.mul_le_mul e2 (by omega));generalize z * y=t at *;omega)
   have hcast:((i:Int)+1)=((i+1:Nat):Int):=(by omega);rw [hcast] at hx ⊢;exact hx
 obtain ⟨ap,cp,rfl,_,_,_⟩:=hp.parts;obtain ⟨vs,hvl,hvs,_⟩:=hl;obtain ⟨am,cm,rfl,_,_,_⟩:=hvs.parts;rw [zar,hvl] at *;have hX0:Ext w ((w.alloc (.cells #[.slice ap p.length cp,.slice am l.length cm] 31)).alloc (.cells #[.slice none 0 0] 33)):=((Ext.refl w).alloc _).alloc _;have hbA:zoi 31 ((w.alloc (.cells #[.slice ap p.length cp,.slice am l.length cm] 31)).alloc (.cells #[.slice none 0 0] 33)) w.heap.size (.slice ap p.length cp) (.slice am l.length cm):=zoi.ext ((Ext.refl _).alloc _) (zoi.new 31 w (.slice ap p.length cp) (.slice am l.length cm));have hoA:=One.new 33 (w.alloc (.cells #[.slice ap p.length cp,.slice am l.length cm] 31)) (.slice none 0 0);rw [World.size_alloc] at hoA;have c0:=hbA.c0;have c1:=hbA.c1;have HX0:=hid hX0;have HbA:=hid hbA;have HoA:=hid hoA;have Hck:=hid hck;have Hin:=hid hin;have Hslv:=hid hslv;have Hwr:=hid hwr;have HR0:=hid hR0;have HR1:=hid hR1;clear hX0 hbA hoA hck hin hslv hwr hR0 hR1;clear hp hvs he hm0 hrun hind hsol habd hrec hent hone hrow hchk hpe hmF0;go_enter Tryz.func9,Tryz.ntmps9
 go_wp2_with fail
 refine (Hck.out _ HX0.out).mono ?_;rintro e w1 ⟨rfl,hx1⟩;have Hb1:=hid (HbA.out.ext hx1);have Ho1:=hid (HoA.out.ext hx1);have Hx1:=hid (HX0.out.trans hx1);clear hx1 c0 c1;have c0:=Hb1.out.c0;have c1:=Hb1.out.c1;go_wp2_with fail
 refine (Hin.out w1 Hx1.out).mono ?_;rintro e w2 ⟨vt,va,rfl,hmt,hva,hfew,hal,hmem,hx2⟩;have hsv:=Hslv.out vt va w2 (Hx1.out.trans hx2) hmt hva hfew hal hmem;have Hb2:=hid (Hb1.out.ext hx2);have Ho2:=hid (Ho1.out.ext hx2);have Hx2:=hid (Hx1.out.trans hx2);have Hsv:=hid hsv;clear hx2 c0 c1 hmt hva hfew hal hmem hsv;go_wp2_with fail
 refine Hsv.out.mono ?_;rintro e w3 ⟨v,rfl,hv0,hv1,hx3⟩;have Hb3:=hid (Hb2.out.ext hx3);have Ho3:=hid (Ho2.out.ext hx3);have Hx3:=hid (Hx2.out.trans hx3);clear hx3;have z3:=Ho3.out.fz;have k3:=Ho3.out.cell
 cases S with
 | none =>
  have hvn:=hv0 rfl
  subst hvn
  have hRn:=HR0.out rfl
  subst hRn
  have ho4:=Ho3.out.put (.slice none 0 0)
  have ho5:=ho4.put (.slice none 0 0)
  have z4:=ho4.fz
  have k4:=ho4.cell
  have hd0:=ho5.cell
  have hE5:Ext w ((w3.setCell ⟨w.heap.size+1,0,none⟩ (.slice none 0 0)).setCell ⟨w.heap.size+1,0,none⟩ (.slice none 0 0)):=(Hx3.out.setCell (p:=⟨w.heap.size+1,0,none⟩) (Nat.le_succ _) _).setCell (p:=⟨w.heap.size+1,0,none⟩) (Nat.le_succ _) _
  have HE5:=hid hE5
  clear ho4 ho5 hE5 hv0 hv1
  go_wp2_with fail
  exact bodyPost_ret (v:=.tuple #[.slice none 0 0,.bool false,.int .i64 0]) (by simp [results,Tryz.results9,go_sem,hd0]) rfl ⟨⟨_,rfl,fun _=>rfl,fun x q=>(by cases q)⟩,HE5.out⟩
 | some x =>
  obtain ⟨hsx,hxl,hxb⟩:=hv1 x rfl
  have hR9:=HR1.out x rfl
  have hsx2:=hsx
  obtain ⟨ax,cx,rfl,_,_,_⟩:=hsx.parts
  rw [zar,hxl] at hsx2 hsx ⊢
  have ho4:=Ho3.out.put (.slice ax p.length cx)
  have hb4:=Hb3.out.past1 (c:=w.heap.size+1) 0 (by omega) (.slice ax p.length cx)
  have hE4:Ext w (w3.setCell ⟨w.heap.size+1,0,none⟩ (.slice ax p.length cx)):=Hx3.out.setCell (p:=⟨w.heap.size+1,0,none⟩) (Nat.le_succ _) _
  have hE34:Sl (w3.setCell ⟨w.heap.size+1,0,none⟩ (.slice ax p.length cx)) (.slice ax p.length cx) (zap x):=Ho3.out.sl hsx (fun z q=>by cases q)
  have hwr:=Hwr.out (w.heap.size+1) (.slice ax p.length cx) x _ hE4 (fun V hV=>(ho4.ext hV).cell) hE34 hxl hxb
  have c0:=hb4.c0
  have c1:=hb4.c1
  have Ho4:=hid ho4;have HE4:=hid hE4;have Hwr9:=hid hwr;have HS4:=hid hE34;have HR9:=hid hR9;have Hxl:=hid hxl
  clear ho4 hb4 hE4 hE34 hwr hv0 hv1 hsx hsx2 hR9 hxl hxb
  generalize ziU x l=q at *
  go_wp2_with fail
  refine Hwr9.out.mono ?_
  rintro e w5 ⟨rfl,hx5⟩
  have ho5:=Ho4.out.ext hx5
  have z5:=ho5.fz
  have k5:=ho5.cell
  have HE5:=hid (HE4.out.trans hx5);have HS5:=hid (hx5.sl HS4.out)
  clear hx5 c0 c1
  by_cases hq:0<q
  ·have hRn:=HR9.out
   rw [if_pos hq] at hRn
   subst hRn
   have hq2:decide ((q:Int) > 0)=true:=decide_eq_true (by omega)
   have hd0:=(ho5.put (.slice none 0 0)).cell
   have HE6:=hid (HE5.out.setCell (p:=⟨w.heap.size+1,0,none⟩) (Nat.le_succ _) (.slice none 0 0))
   clear ho5
   go_wp2_with fail
   exact bodyPost_ret (v:=.tuple #[.slice none 0 0,.bool false,.int .i64 0]) (by simp [results,Tryz.results9,go_sem,hd0]) rfl ⟨⟨_,rfl,fun _=>rfl,fun x q=>(by cases q)⟩,HE6.out⟩
  ·have hRn:=HR9.out
   rw [if_neg hq] at hRn
   subst hRn
   have hq2:decide ((q:Int) > 0)=false:=decide_eq_false (by omega)
   have hd0:=(ho5.put (.slice ax p.length cx)).cell
   have HS6:=hid (ho5.sl (y:=.slice ax p.length cx) HS5.out (fun z q=>by cases q))
   have HE6:=hid (HE5.out.setCell (p:=⟨w.heap.size+1,0,none⟩) (Nat.le_succ _) (.slice ax p.length cx))
   clear ho5
   go_wp2_with fail
   exact bodyPost_ret (v:=.tuple #[.slice ax p.length cx,.bool true,.int .i64 0]) (by simp [results,Tryz.results9,go_sem,hd0]) rfl ⟨⟨_,rfl,fun q=>(by cases q),fun y e=>⟨(by obtain rfl:=Option.some.inj e;exact HS6.out),(by obtain rfl:=Option.some.inj e;exact Hxl.out)⟩⟩,HE6.out⟩
end
section
open Go.RowKit Go.Lib
attribute [local go_sem] Oper.semAt_some
theorem toList_inj {s t:ByteArray}(h:s.toList=t.toList):s=t:=by
 rw [Lib.toList_data,Lib.toList_data] at h;exact ByteArray.ext (Array.toList_inj.1 h)
end
section
open Go.RowKit Go.Lib
theorem zo2 (v:Value)(p:List Int)(w:World)(hx:Sl w v (zap p))(hl:p.length≤1000000)(hne:p ≠ []) :
  Calls Tryz.prog 44 #[v] w fun e w'=>∃ u,e=.returned u∧zc2 w' w.heap.size u p∧Ext w w':=by
 obtain ⟨i0,hi,hz0,hz1,hz2⟩:=info_parts zc1;obtain ⟨a,cap,rfl,hm,h1,hc⟩:=hx.parts;obtain ⟨q,hq⟩:∃ q,p[0]?=some q:=⟨_,List.getElem?_eq_getElem (List.length_pos_iff.2 hne)⟩;obtain ⟨b,off,rfl,_⟩:=hc 0 (.int .i64 q) (by unfold zap;rw [List.getElem?_map,hq];rfl);have hcell:∀ j u,(zap p)[j]?=some u→w.cell? ⟨b,off+j,none⟩=some u:=fun j u hu=>by
  obtain ⟨b2,off2,e,h⟩:=hc j u hu
  cases e
  exact h
 refine (AnyE.slices_Clone Tryz.lCloneP i0 (.int .i64 0) 1 8 hi hz0 hz1 hz2 rfl (by decide) Tryz.sizeOf3 b off (zap p).length cap (zap p) w (by omega) (by rw [zar];unfold maxLen;omega) (by rw [zar];omega) hcell (by simp [zap,Value.oneCell'])).mono fun e w' ⟨v',he,ho,_,hb⟩=>⟨v',he,?_,hb⟩;rw [zar] at ho;exact ho
theorem zo3 (rs:List Qw)(r:Qw):qwc (rs++[r])=qwc rs++[r.u]:=by simp [qwc]
theorem QwM.nil (w:World)(b B:Nat):QwM w b B (.slice none 0 0) []:=⟨World.ownsRow_nil w _ _ 1,fun _ h=>by cases h⟩
theorem QwM.more {w0 W V:World}{o:Obj}{v v7:Value}{rs:List Qw}{r:Qw}(hE:Ext w0 W)(h:QwM W w0.heap.size w0.heap.size v rs)(hr:zfe W w0.heap.size r.u r.x)
  (hown:V.ownsRow w0.heap.size 65 1 v7 (rs.length+1) (qwc rs++[r.u])) (hgrow:(W.alloc o).grownBy V v.ownBlock):QwM V w0.heap.size w0.heap.size v7 (rs++[r])∧Ext w0 V:=by
 have hal:=h.1.alloc o;have hkeep:∀ s:Qw,zfe W w0.heap.size s.u s.x→zfe V w0.heap.size s.u s.x:=fun s hs=>World.ownsRow.kept (World.ownsRow.alloc hs o) hgrow (zc5 (World.ownsRow.alloc hs o) hal (by decide));refine ⟨⟨?_,fun s hs=>?_⟩,(hE.alloc o).grown hgrow fun k hk=>(World.ownsRow.lt hal k hk).1⟩
 ·rw [List.length_append,List.length_singleton,zo3];exact hown
 ·rcases List.mem_append.1 hs with g | g
  ·exact hkeep s (h.2 s g)
  ·rw [List.mem_singleton] at g;subst g;exact hkeep s hr
end
end Go.Proofs.YtipkdebkdnbieaaGreatDoor
