/- Plain: the scale of a planned set is right: the few bits tell each note from the one before. (KEEPALL) Walks: epimorphism.Wrong and Numbers over a planned set; law 37's fits. (KEEPALL) -/
import Derived.Test.YtipkdebkdnbieaaGreatDoorPa34
import Derived.Test.YtipkdebkdnbieaaGreatDoorPa35
import Derived.Test.YtipkdebkdnbieaaGreatDoorPa29
import Derived.Test.YtipkdebkdnbieaaGreatDoorPa18
set_option maxHeartbeats 400000
namespace Go.Proofs.YtipkdebkdnbieaaGreatDoor
open Go.RowKit Go.Lib
theorem zrJ : ∀ (x:List Int),dn (ziS x)=1:=fun x=>by
 have key:∀ (l:List Int),(ziS l).foldl (fun d r=>Nat.lcm d r.den) 1=1:=fun l=>by
  induction l with
  | nil=>rfl
  | cons z l ih =>
   show (ziS l).foldl (fun d r=>Nat.lcm d r.den) (Nat.lcm 1 ((z:Int):Rat).den)=1
   rw [Rat.den_intCast,Nat.lcm_self]
   exact ih
 exact key x
theorem zrK (x:List Int):fcd 1 (ziS x)=x:=by
 unfold fcd ziS;rw [List.map_map]
 conv=>rhs;rw [← List.map_id x]
 refine List.map_congr_left fun z _=>?_;show ((z:Int):Rat).num * ((1 / ((z:Int):Rat).den:Nat):Int)=z;rw [Rat.num_intCast,Rat.den_intCast];simp
theorem zrL : ∀ (x y:List Int),zeX (ziS x) (ziS y)=ziS (zrk x y)
 | [],_=>rfl
 | _::_,[]=>rfl
 | a::x,b::y=>by
  have ih:=zrL x y;unfold zeX ziS zrk at *;rw [List.map_cons,List.map_cons,List.zipWith_cons_cons,List.zipWith_cons_cons,List.map_cons,ih,Rat.intCast_sub]
theorem zrM {x:List Int}{n:Nat}(h:x.length=n+1):∃ a t,x=a::t∧t.length=n:=by
 match x,h with
 | a::t,h=>exact ⟨a,t,rfl,by simpa using h⟩
def Sm (x:List Int):Prop:=Tl9 x∧-101≤zas x 0∧zas x 0≤101
theorem Sm.at {x:List Int}(h:Sm x)(i:Nat)(hi:0<i):-9≤zas x i∧zas x i≤9:=by have:=h.1 i hi;omega
theorem zrN (r:Nat){x y:List Int}(hx:x.length=(zhj (zhr r)).length)(hy:y.length=(zhj (zhr r)).length)(sx:Sm x)(sy:Sm y)(h:zgZ (zhj (zhr r)) x y<0):zrn (zhj (zhr r)) x y:=by
 have key:∀ s,s<10→x.length=(zhj (zhq.getD s [])).length→y.length=(zhj (zhq.getD s [])).length→zgZ (zhj (zhq.getD s [])) x y<0→zrn (zhj (zhq.getD s [])) x y:=fun s hs h1 h2 h3=>by
  have bx0:=sx.2;have by0:=sy.2;have bx1:=sx.at 1 (by omega);have bx2:=sx.at 2 (by omega);have bx3:=sx.at 3 (by omega);have by1:=sy.at 1 (by omega);have by2:=sy.at 2 (by omega);have by3:=sy.at 3 (by omega);clear sx sy hx hy h;match s,hs with
  | 0,_ =>
   obtain ⟨x0,xt0,rfl,xl0⟩:=zrM (n:=2) h1
   obtain ⟨x1,xt1,rfl,xl1⟩:=zrM (n:=1) xl0
   obtain ⟨x2,xt2,rfl,xl2⟩:=zrM (n:=0) xl1
   obtain rfl:=List.eq_nil_of_length_eq_zero xl2
   obtain ⟨y0,yt0,rfl,yl0⟩:=zrM (n:=2) h2
   obtain ⟨y1,yt1,rfl,yl1⟩:=zrM (n:=1) yl0
   obtain ⟨y2,yt2,rfl,yl2⟩:=zrM (n:=0) yl1
   obtain rfl:=List.eq_nil_of_length_eq_zero yl2
   exact zro x0 x1 x2 y0 y1 y2 bx0 by0 bx1 bx2 by1 by2 h3
  | 1,_ =>
   obtain ⟨x0,xt0,rfl,xl0⟩:=zrM (n:=3) h1
   obtain ⟨x1,xt1,rfl,xl1⟩:=zrM (n:=2) xl0
   obtain ⟨x2,xt2,rfl,xl2⟩:=zrM (n:=1) xl1
   obtain ⟨x3,xt3,rfl,xl3⟩:=zrM (n:=0) xl2
   obtain rfl:=List.eq_nil_of_length_eq_zero xl3
   obtain ⟨y0,yt0,rfl,yl0⟩:=zrM (n:=3) h2
   obtain ⟨y1,yt1,rfl,yl1⟩:=zrM (n:=2) yl0
   obtain ⟨y2,yt2,rfl,yl2⟩:=zrM (n:=1) yl1
   obtain ⟨y3,yt3,rfl,yl3⟩:=zrM (n:=0) yl2
   obtain rfl:=List.eq_nil_of_length_eq_zero yl3
   exact zrp x0 x1 x2 x3 y0 y1 y2 y3 bx0 by0 bx1 bx2 bx3 by1 by2 by3 h3
  | 2,_ =>
   obtain ⟨x0,xt0,rfl,xl0⟩:=zrM (n:=1) h1
   obtain ⟨x1,xt1,rfl,xl1⟩:=zrM (n:=0) xl0
   obtain rfl:=List.eq_nil_of_length_eq_zero xl1
   obtain ⟨y0,yt0,rfl,yl0⟩:=zrM (n:=1) h2
   obtain ⟨y1,yt1,rfl,yl1⟩:=zrM (n:=0) yl0
   obtain rfl:=List.eq_nil_of_length_eq_zero yl1
   exact zrq x0 x1 y0 y1 bx0 by0 bx1 by1 h3
  | 3,_ =>
   obtain ⟨x0,xt0,rfl,xl0⟩:=zrM (n:=2) h1
   obtain ⟨x1,xt1,rfl,xl1⟩:=zrM (n:=1) xl0
   obtain ⟨x2,xt2,rfl,xl2⟩:=zrM (n:=0) xl1
   obtain rfl:=List.eq_nil_of_length_eq_zero xl2
   obtain ⟨y0,yt0,rfl,yl0⟩:=zrM (n:=2) h2
   obtain ⟨y1,yt1,rfl,yl1⟩:=zrM (n:=1) yl0
   obtain ⟨y2,yt2,rfl,yl2⟩:=zrM (n:=0) yl1
   obtain rfl:=List.eq_nil_of_length_eq_zero yl2
   exact zrr x0 x1 x2 y0 y1 y2 bx0 by0 bx1 bx2 by1 by2 h3
  | 4,_ =>
   obtain ⟨x0,xt0,rfl,xl0⟩:=zrM (n:=2) h1
   obtain ⟨x1,xt1,rfl,xl1⟩:=zrM (n:=1) xl0
   obtain ⟨x2,xt2,rfl,xl2⟩:=zrM (n:=0) xl1
   obtain rfl:=List.eq_nil_of_length_eq_zero xl2
   obtain ⟨y0,yt0,rfl,yl0⟩:=zrM (n:=2) h2
   obtain ⟨y1,yt1,rfl,yl1⟩:=zrM (n:=1) yl0
   obtain ⟨y2,yt2,rfl,yl2⟩:=zrM (n:=0) yl1
   obtain rfl:=List.eq_nil_of_length_eq_zero yl2
   exact zrs x0 x1 x2 y0 y1 y2 bx0 by0 bx1 bx2 by1 by2 h3
  | 5,_ =>
   obtain ⟨x0,xt0,rfl,xl0⟩:=zrM (n:=2) h1
   obtain ⟨x1,xt1,rfl,xl1⟩:=zrM (n:=1) xl0
   obtain ⟨x2,xt2,rfl,xl2⟩:=zrM (n:=0) xl1
   obtain rfl:=List.eq_nil_of_length_eq_zero xl2
   obtain ⟨y0,yt0,rfl,yl0⟩:=zrM (n:=2) h2
   obtain ⟨y1,yt1,rfl,yl1⟩:=zrM (n:=1) yl0
   obtain ⟨y2,yt2,rfl,yl2⟩:=zrM (n:=0) yl1
   obtain rfl:=List.eq_nil_of_length_eq_zero yl2
   exact zrt x0 x1 x2 y0 y1 y2 bx0 by0 bx1 bx2 by1 by2 h3
  | 6,_ =>
   obtain ⟨x0,xt0,rfl,xl0⟩:=zrM (n:=3) h1
   obtain ⟨x1,xt1,rfl,xl1⟩:=zrM (n:=2) xl0
   obtain ⟨x2,xt2,rfl,xl2⟩:=zrM (n:=1) xl1
   obtain ⟨x3,xt3,rfl,xl3⟩:=zrM (n:=0) xl2
   obtain rfl:=List.eq_nil_of_length_eq_zero xl3
   obtain ⟨y0,yt0,rfl,yl0⟩:=zrM (n:=3) h2
   obtain ⟨y1,yt1,rfl,yl1⟩:=zrM (n:=2) yl0
   obtain ⟨y2,yt2,rfl,yl2⟩:=zrM (n:=1) yl1
   obtain ⟨y3,yt3,rfl,yl3⟩:=zrM (n:=0) yl2
   obtain rfl:=List.eq_nil_of_length_eq_zero yl3
   exact zru x0 x1 x2 x3 y0 y1 y2 y3 bx0 by0 bx1 bx2 bx3 by1 by2 by3 h3
  | 7,_ =>
   obtain ⟨x0,xt0,rfl,xl0⟩:=zrM (n:=0) h1
   obtain rfl:=List.eq_nil_of_length_eq_zero xl0
   obtain ⟨y0,yt0,rfl,yl0⟩:=zrM (n:=0) h2
   obtain rfl:=List.eq_nil_of_length_eq_zero yl0
   exact zrv x0 y0 bx0 by0   h3
  | 8,_ =>
   obtain ⟨x0,xt0,rfl,xl0⟩:=zrM (n:=3) h1
   obtain ⟨x1,xt1,rfl,xl1⟩:=zrM (n:=2) xl0
   obtain ⟨x2,xt2,rfl,xl2⟩:=zrM (n:=1) xl1
   obtain ⟨x3,xt3,rfl,xl3⟩:=zrM (n:=0) xl2
   obtain rfl:=List.eq_nil_of_length_eq_zero xl3
   obtain ⟨y0,yt0,rfl,yl0⟩:=zrM (n:=3) h2
   obtain ⟨y1,yt1,rfl,yl1⟩:=zrM (n:=2) yl0
   obtain ⟨y2,yt2,rfl,yl2⟩:=zrM (n:=1) yl1
   obtain ⟨y3,yt3,rfl,yl3⟩:=zrM (n:=0) yl2
   obtain rfl:=List.eq_nil_of_length_eq_zero yl3
   exact zrw x0 x1 x2 x3 y0 y1 y2 y3 bx0 by0 bx1 bx2 bx3 by1 by2 by3 h3
  | 9,_ =>
   obtain ⟨x0,xt0,rfl,xl0⟩:=zrM (n:=3) h1
   obtain ⟨x1,xt1,rfl,xl1⟩:=zrM (n:=2) xl0
   obtain ⟨x2,xt2,rfl,xl2⟩:=zrM (n:=1) xl1
   obtain ⟨x3,xt3,rfl,xl3⟩:=zrM (n:=0) xl2
   obtain rfl:=List.eq_nil_of_length_eq_zero xl3
   obtain ⟨y0,yt0,rfl,yl0⟩:=zrM (n:=3) h2
   obtain ⟨y1,yt1,rfl,yl1⟩:=zrM (n:=2) yl0
   obtain ⟨y2,yt2,rfl,yl2⟩:=zrM (n:=1) yl1
   obtain ⟨y3,yt3,rfl,yl3⟩:=zrM (n:=0) yl2
   obtain rfl:=List.eq_nil_of_length_eq_zero yl3
   exact zrx x0 x1 x2 x3 y0 y1 y2 y3 bx0 by0 bx1 bx2 bx3 by1 by2 by3 h3
  | s+10,hs=>omega
 exact key (r % 10) (Nat.mod_lt _ (by decide)) hx hy h
theorem zrO {p b x:List Int}{l:List (List Int)}(h:zhe p b (x::l)=0):zgu p x=0∧zgZ p b x<0∧zhe p x l=0:=by
 unfold zhe at h;by_cases h1:zgu p x ≠ 0
 ·rw [if_pos h1] at h;exact absurd h h1
 ·rw [if_neg h1] at h;by_cases h2:0≤zgZ p b x
  ·rw [if_pos h2] at h;cases h
  ·rw [if_neg h2] at h;exact ⟨Decidable.not_not.1 h1,by omega,h⟩
theorem zrP {p:List Int}:∀ {l:List (List Int)}{b:List Int},zhe p b l=0→∀ k,k<l.length→zgZ p (if k=0 then b else l.getD (k - 1) []) (l.getD k [])<0
 | [],_,_,k,hk=>by simp at hk
 | x::l,b,h,k,hk=>by
  obtain ⟨_,h2,h3⟩:=zrO h
  cases k with
  | zero=>exact h2
  | succ j =>
   have ih:=zrP h3 j (by simpa using hk)
   rw [if_neg (by omega)]
   cases j with
   | zero=>exact ih
   | succ i=>exact ih
theorem zrQ {p:List Int}{l:List (List Int)}(h:zhf p l=0):∀ k,k<l.length→zgZ p (if k=0 then zhd p.length else l.getD (k - 1) []) (l.getD k [])<0:=by
 unfold zhf at h;(repeat' split at h)
 ·exact absurd h (by assumption)
 ·cases h
 ·cases h
 ·exact fun k hk=>zrP h k hk
theorem zrR (n:Nat):Sm (zhd n):=⟨fun i _=>by rw [zkA];decide,by rw [zkA];decide⟩
theorem zrS (r:Nat):∀ q∈zhj (zhr r),q=2∨q=3∨q=5∨q=7∨q=11∨q=13:=by
 have h:∀ s,s<10→∀ q∈zhj (zhq.getD s []),q=2∨q=3∨q=5∨q=7∨q=11∨q=13:=by decide +kernel
 exact h (r % 10) (Nat.mod_lt _ (by decide))
theorem zrT {p x y:List Int}(hp:∀ q∈p,q=2∨q=3∨q=5∨q=7∨q=11∨q=13)(hd:∀ z∈zrk x y,-1000≤z∧z≤1000)(h:zrn p x y) :
  zjZ p (zeX (ziS x) (ziS y))∧zeY (tms p (dn (zeX (ziS x) (ziS y))) (zeX (ziS x) (ziS y)))=-1:=by
 rw [zrL,zrJ];have ht:tms p 1 (ziS (zrk x y))=(p.zip (zrk x y)).filter fun e=>e.2 != 0:=by unfold tms;rw [zrK]
 obtain ⟨_,_,dm,de⟩:=zeU (p.zip (zrk x y));obtain ⟨h1,h2⟩:=h;unfold zjZ;rw [zrJ,ht];have hz:∀ e∈(p.zip (zrk x y)).filter (fun e=>e.2 != 0),e∈p.zip (zrk x y):=fun e he=>(List.mem_filter.1 he).1;generalize hl:(p.zip (zrk x y)).filter (fun e=>e.2 != 0)=t at *;have hb:=zeT t;refine ⟨⟨fun q hq=>?_,fun e he=>?_,?_⟩,?_⟩
 ·unfold ziS at hq;obtain ⟨z,hz2,rfl⟩:=List.mem_map.1 hq;exact zkx (hd z hz2)
 ·have hm:=hz e he;obtain ⟨q1,q2⟩:=List.of_mem_zip hm;have:=hd _ q2;exact ⟨hp _ q1,by omega,by omega⟩
 ·right;omega
 ·unfold zeY;have hne:t ≠ []:=fun e=>by rw [e] at dm;simp [zeO] at dm;omega
  rw [if_neg hne,if_neg (by omega)]
theorem zrU {x y:List Int}(hx:∀ i,-200≤zas x i∧zas x i≤200)(hy:∀ i,-200≤zas y i∧zas y i≤200):∀ z∈zrk x y,-1000≤z∧z≤1000:=fun z hz=>by
 unfold zrk at hz;obtain ⟨i,hi,e⟩:=List.mem_iff_getElem.1 hz;rw [List.getElem_zipWith] at e;rw [List.length_zipWith] at hi;have h1:=hx i;have h2:=hy i;unfold zas at h1 h2;rw [List.getD_eq_getElem?_getD,List.getElem?_eq_getElem (by omega)] at h1 h2;simp only [Option.getD_some] at h1 h2;omega
theorem zrV {r:Nat}{p:List Int}{l:List (List Int)}{rs:List Qw}(hp:p=zhj (zhr r))(hok:zh9 p)(hep:zhf p l=0)(hl0:0<l.length)(hl9:l.length≤9)(hrb:zrC p l)(hrs:rs.map Qw.x=l.map ziS):zrH p rs:=by
 have hlen:rs.length=l.length:=by have:=congrArg List.length hrs;simpa using this
 have hat:∀ (k:Nat)(q:Qw),rs[k]?=some q→k<l.length∧q.x=ziS (l.getD k [])∧l.getD k []∈l:=fun k q hq=>by
  have hk:=(List.getElem?_eq_some_iff.1 hq).1;have h:=congrArg (fun t=>t[k]?) hrs;simp only [List.getElem?_map,hq,Option.map_some,List.getElem?_eq_getElem (show k<l.length by omega),Option.some.injEq] at h;rw [List.getD_eq_getElem?_getD,List.getElem?_eq_getElem (show k<l.length by omega)];exact ⟨by omega,h,List.getElem_mem _⟩
 have hmem:∀ q∈rs,∃ x∈l,q.x=ziS x:=fun q hq=>by
  obtain ⟨k,hk⟩:=List.mem_iff_getElem?.1 hq;obtain ⟨_,h2,h3⟩:=hat k q hk;exact ⟨_,h3,h2⟩
 have hpr:∀ k,k<l.length→zrG p.length rs k=ziS (if k=0 then zhd p.length else l.getD (k - 1) []):=fun k hk=>by
  unfold zrG;by_cases h0:k=0
  ·rw [if_pos h0,if_pos h0];unfold ziS zhd;rw [List.map_replicate];rfl
  ·rw [if_neg h0,if_neg h0];have hq:rs[k - 1]?=some rs[k - 1]:=List.getElem?_eq_getElem (by omega);rw [hq];exact (hat (k - 1) _ hq).2.1
 have hsm:∀ x∈l,Sm x:=fun x hx=>⟨(hrb x hx).2.2.1,by have:=(hrb x hx).2.2.2;omega⟩;have hboth:∀ (k:Nat)(q:Qw),rs[k]?=some q→zjZ p (zeX (zrG p.length rs k) q.x)∧zeY (tms p (dn (zeX (zrG p.length rs k) q.x)) (zeX (zrG p.length rs k) q.x))=-1:=fun k q hq=>by
  obtain ⟨hk,hx,hm⟩:=hat k q hq;rw [hpr k hk,hx];have hup:=zrQ hep k hk;have hb:∀ i,-200≤zas (if k=0 then zhd p.length else l.getD (k - 1) []) i∧zas (if k=0 then zhd p.length else l.getD (k - 1) []) i≤200:=fun i=>by
   by_cases h0:k=0
   ·rw [if_pos h0,zkA];decide
   ·rw [if_neg h0];exact (hrb _ (by rw [List.getD_eq_getElem?_getD,List.getElem?_eq_getElem (by omega)];exact List.getElem_mem _)).2.1 i
  refine zrT (by rw [hp];exact zrS r) (zrU hb (hrb _ hm).2.1) ?_;by_cases h0:k=0
  ·rw [if_pos h0] at hup ⊢;rw [hp] at hup hrb ⊢;exact zrN r List.length_replicate (hrb _ hm).1 (zrR _) (hsm _ hm) hup
  ·rw [if_neg h0] at hup ⊢;have hm2:l.getD (k - 1) []∈l:=(by rw [List.getD_eq_getElem?_getD,List.getElem?_eq_getElem (by omega)];exact List.getElem_mem _);rw [hp] at hup hrb ⊢;exact zrN r (hrb _ hm2).1 (hrb _ hm).1 (hsm _ hm2) (hsm _ hm) hup
 refine ⟨hok.pe,by have:=hok.len;omega,by omega,by omega,fun q hq=>?_,fun q hq z hz=>?_,fun k q hq=>(hboth k q hq).1,fun k q hq=>(hboth k q hq).2⟩
 ·obtain ⟨x,hx,e⟩:=hmem q hq;rw [e,zju];exact (hrb x hx).1
 ·obtain ⟨x,hx,e⟩:=hmem q hq;rw [e] at hz;unfold ziS at hz;obtain ⟨y,hy,rfl⟩:=List.mem_map.1 hz;obtain ⟨i,hi⟩:=List.mem_iff_getElem?.1 hy;have:=(hrb x hx).2.1 i;unfold zas at this;rw [List.getD_eq_getElem?_getD,hi] at this;exact zkx (by simp only [Option.getD_some] at this;omega)
theorem zrW (n o m cm:Nat)(M:Bool)(am:Option Addr)(w:World) :
  Calls Tryz.prog 7 #[.agg #[.int .u8 n,.slice am m cm,.bool M,.int .u8 o]] w fun e w'=>e=.returned (.bool (decide (m≤8)))∧Ext w w':=by
 have hp0:=World.alloc_heap_new w (.cells #[.int .u8 n,.slice am m cm,.bool M,.int .u8 o] 24);have hX0:=(Ext.refl w).alloc (.cells #[.int .u8 n,.slice am m cm,.bool M,.int .u8 o] 24);have hpl:(w.alloc (.cells #[.int .u8 n,.slice am m cm,.bool M,.int .u8 o] 24)).cell? ⟨w.heap.size,1,none⟩=some (.slice am m cm):=by
  unfold World.cell?;dsimp only;rw [hp0];rfl
 have hd:decide (m≤8)=decide ((m:Int)≤8):=decide_eq_decide.2 (by omega);rw [hd];clear hp0 hd;have HX0:=hid hX0;clear hX0;go_enter Tryz.func7,Tryz.ntmps7
 go_wp2_with fail
 go_ret
 exact ⟨rfl,HX0.out⟩
end Go.Proofs.YtipkdebkdnbieaaGreatDoor
