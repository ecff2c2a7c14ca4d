/- Plain: the notes of a set beyond the period. (KEEPALL) Plain: steps between notes; a sum that fits. (KEEPALL) Walks: schismaref09.Floor; row.Scale of a small row. (KEEPALL) Walk: row.Add: as row.Sub. (KEEPALL) (Printed by radd.py.) A row of noughts just made. (KEEPALL) Blocks of two cells of any type: results and boxes. Grids: a slice of rows that a call made, the rows lie apart; a row turns, two rows change places, a further row. -/
import Derived.Test.YtipkdebkdnbieaaGreatDoorPa12
import Derived.Test.YtipkdebkdnbieaaGreatDoorPa18
import Derived.Test.YtipkdebkdnbieaaGreatDoorPa20
import Derived.RangeFuncNested
import Derived.RangeFuncBound
import Derived.RangeFuncCalls
import Derived.RangeFuncLeaves
import Derived.RangeFuncBox
import Derived.RangeFuncWrites
import Derived.Shelf.Abstract
import Derived.OwnWalkIn
import Derived.TacticsInMore
import Derived.LoopNIn
import Derived.LoopIn
import Derived.Maps.AppendAt
import Derived.Test.YtipkdebkdnbieaaGreatDoorShelfA
import Derived.Test.YtipkdebkdnbieaaGreatDoorPa07
import Derived.Test.YtipkdebkdnbieaaGreatDoorPa14
import Derived.Test.YtipkdebkdnbieaaGreatDoorPa02
import Derived.Test.YtipkdebkdnbieaaGreatDoorPa10
set_option maxRecDepth 100000
set_option maxHeartbeats 2000000
namespace Go.Proofs.YtipkdebkdnbieaaGreatDoor
section
open Go.RowKit Go.Lib
def zlK (n:Nat)(l:List (List Int))(q:Int)(r:Nat):List Int:=zgN (if r=0 then zhd n else l.getD (r - 1) []) q (l.getD (l.length - 1) [])
def ntI (n:Nat)(l:List (List Int))(i:Nat):List Int:=if i=0 then zhd n else if i≤l.length then l.getD (i - 1) [] else zgN (l.getD (i - l.length - 1) []) 1 (l.getD (l.length - 1) [])
structure zlL (n:Nat)(l:List (List Int)):Prop where
 ne:0<l.length
 few:l.length≤9
 len:∀ x∈l,x.length=n
 bd:∀ x∈l,∀ i,-200≤zas x i∧zas x i≤200
 one:∀ i,0≤zas (l.getD (l.length - 1) []) i∧zas (l.getD (l.length - 1) []) i≤1
section
variable {n : Nat} {l : List (List Int)}
theorem zlL.mem (_:zlL n l){i:Nat}(hi:i<l.length):l.getD i []∈l:=by
 rw [List.getD_eq_getElem?_getD,List.getElem?_eq_getElem hi];exact List.getElem_mem _
theorem zlL.row (h:zlL n l){i:Nat}(hi:i<l.length):(l.getD i []).length=n∧∀ j,-200≤zas (l.getD i []) j∧zas (l.getD i []) j≤200:=⟨h.len _ (h.mem hi),h.bd _ (h.mem hi)⟩
theorem zlL.last (h:zlL n l):(l.getD (l.length - 1) []).length=n∧∀ j,-200≤zas (l.getD (l.length - 1) []) j∧zas (l.getD (l.length - 1) []) j≤200:=h.row (by have:=h.ne;omega)
theorem zlM (n:Nat):(zhd n).length=n:=List.length_replicate
theorem zlL.low (h:zlL n l){r:Nat}(hr:r<l.length):(if r=0 then zhd n else l.getD (r - 1) []).length=n∧∀ j,-200≤zas (if r=0 then zhd n else l.getD (r - 1) []) j∧zas (if r=0 then zhd n else l.getD (r - 1) []) j≤200:=by
 by_cases h0:r=0
 ·rw [if_pos h0];exact ⟨zlM n,fun j=>by rw [zkA];decide⟩
 ·rw [if_neg h0];exact h.row (by omega)
theorem zlL.nlen (h:zlL n l){q:Int}{r:Nat}(hr:r<l.length):(zlK n l q r).length=n:=by
 unfold zlK;rw [zgQ (by rw [(h.low hr).1,h.last.1]),(h.low hr).1]
theorem zlL.nat (h:zlL n l){q:Int}{r:Nat}(hr:r<l.length){j:Nat}(hj:j<n):zas (zlK n l q r) j=zas (if r=0 then zhd n else l.getD (r - 1) []) j+q * zas (l.getD (l.length - 1) []) j:=by
 unfold zlK;exact zgR (by rw [(h.low hr).1,h.last.1]) (by rw [(h.low hr).1];exact hj)
theorem zlL.nbd (h:zlL n l){q:Int}(hq:-200≤q∧q≤200){r:Nat}(hr:r<l.length){j:Nat}(hj:j<n):-500≤zas (zlK n l q r) j∧zas (zlK n l q r) j≤500:=by
 rw [h.nat hr hj];have h1:=(h.low hr).2 j;have h2:=h.one j;generalize zas (if r=0 then zhd n else l.getD (r - 1) []) j=a at *;generalize zas (l.getD (l.length - 1) []) j=b at *;have h3:(q * b).natAbs≤200 * 1:=by rw [Int.natAbs_mul];exact Nat.mul_le_mul (by omega) (by omega)
 generalize q * b=t at *;omega
theorem zlN {x y:List Int}(hl:x.length=y.length)(h:∀ j,j<x.length→zas x j=zas y j):x=y:=by
 apply List.ext_getElem hl;intro i h1 h2;have:=h i h1;unfold zas at this;rw [List.getD_eq_getElem?_getD,List.getElem?_eq_getElem h1,List.getD_eq_getElem?_getD,List.getElem?_eq_getElem h2] at this;exact this
theorem zlO {x y:List Int}(h:x.length=y.length):zgN x 0 y=x:=zlN (zgQ h) fun j hj=>by
 rw [zgQ h] at hj;rw [zgR h hj,Int.zero_mul,Int.add_zero]
theorem zlP {y:List Int}{k:Int}{j:Nat}(hj:j<y.length):zas (zgN (zhd y.length) k y) j=k * zas y j:=by
 rw [zgR (zlM _) (by rw [zlM];exact hj),zkA,Int.zero_add]
theorem zlL.two (h:zlL n l){i:Nat}(hi:i<2 * l.length):zlK n l ((i / l.length:Nat):Int) (i % l.length)=ntI n l i:=by
 have hn:=h.ne;have hl:=h.last.1;unfold ntI;by_cases h1:i<l.length
 ·rw [Nat.div_eq_of_lt h1,Nat.mod_eq_of_lt h1];unfold zlK;rw [show ((0:Nat):Int)=0 from rfl,zlO (by rw [(h.low h1).1,hl])];by_cases h0:i=0
  ·rw [if_pos h0,if_pos h0]
  ·rw [if_neg h0,if_neg h0,if_pos (by omega)]
 ·have hd:i / l.length=1:=by rw [Nat.div_eq_iff (by omega)];omega
  have hm:i % l.length=i - l.length:=by
   have:=Nat.div_add_mod i l.length;rw [hd] at this;omega
  rw [hd,hm,if_neg (by omega)];unfold zlK;by_cases h2:i=l.length
  ·rw [if_pos (by omega),if_pos (by omega)];have e:i - 1=l.length - 1:=(by omega);rw [e];generalize l.getD (l.length - 1) []=y at *;subst hl;exact zlN (zgQ (zlM _) |>.trans (zlM _)) fun j hj=>by
    rw [zgQ (zlM _),zlM] at hj;rw [zlP hj];show 1 * zas y j=zas y j;omega
  ·rw [if_neg (by omega),if_neg (by omega)];rfl
theorem zlL.step (h:zlL n l){i:Nat}(hi:i<l.length):zlI (ntI n l (i+1)) (ntI n l i)=zgN (l.getD i []) (-1) (if i=0 then zhd n else l.getD (i - 1) []):=by
 have e1:ntI n l (i+1)=l.getD i []:=by
  unfold ntI;rw [if_neg (by omega),if_pos (by omega),Nat.add_sub_cancel]
 have e2:ntI n l i=if i=0 then zhd n else l.getD (i - 1) []:=by
  unfold ntI;by_cases h0:i=0
  ·rw [if_pos h0,if_pos h0]
  ·rw [if_neg h0,if_neg h0,if_pos (by omega)]
 rw [e1,e2];have hl:=(h.row hi).1;have hb:=(h.low hi).1;generalize (if i=0 then zhd n else l.getD (i - 1) [])=b at *;generalize l.getD i []=x at *;have hx:x.length=b.length:=by omega
 refine zlN ?_ fun j hj=>?_
 ·rw [zgQ hx];unfold zlI;simp
 ·unfold zlI at hj;simp only [List.length_map,List.length_range] at hj;rw [zgR hx hj];unfold zlI zas;rw [List.getD_eq_getElem?_getD,List.getElem?_map,List.getElem?_range hj];simp only [Option.map_some,Option.getD_some];omega
end
theorem zlQ {x y:List Int}{k:Int}(hl:x.length=y.length)(h:∀ j,j<x.length→-1000≤zas x j+k * zas y j∧zas x j+k * zas y j≤1000):zgO x k y=some (zgN x k y):=by
 unfold zgO;rw [if_neg];intro q;obtain ⟨z,hz,hf⟩:=List.any_eq_true.1 q;obtain ⟨j,hj⟩:=List.mem_iff_getElem?.1 hz;have hjl:=(List.getElem?_eq_some_iff.1 hj).1;rw [zgQ hl] at hjl;have h1:=zgR (k:=k) hl hjl;unfold zas at h1;rw [List.getD_eq_getElem?_getD,hj,Option.getD_some] at h1;have h2:=h j hjl;unfold zas at h2;rw [← h1] at h2;unfold far at hf;simp only [Bool.or_eq_true,decide_eq_true_eq] at hf;omega
def zlR (n:Nat)(l:List (List Int))(i:Nat):List Int:=if i=0 then zhd n else l.getD (i - 1) []
def zlS (n:Nat)(l:List (List Int))(i:Nat):List (List Int):=(List.range i).map fun i=>zgN (l.getD i []) (-1) (zlR n l i)
theorem zlT (n:Nat)(l:List (List Int))(i:Nat):zlS n l (i+1)=zlS n l i++[zgN (l.getD i []) (-1) (zlR n l i)]:=by
 unfold zlS;rw [List.range_succ,List.map_append];rfl
theorem zlU (n:Nat)(l:List (List Int))(i:Nat):(zlS n l i).length=i:=by unfold zlS;simp
theorem zlV (n:Nat)(l:List (List Int))(i:Nat):zlR n l (i+1)=l.getD i []:=by unfold zlR;rw [if_neg (by omega),Nat.add_sub_cancel]
theorem zlW {b:List Int}(h:b.length≤64)(h2:∀ z∈b,-1000000000≤z∧z≤1000000000):zgI b=0:=by
 unfold zgI;rw [if_neg];rintro (g | g)
 ·omega
 ·obtain ⟨z,hz,hf⟩:=List.any_eq_true.1 g;unfold zgD at hf;rw [decide_eq_true (h2 z hz)] at hf
  cases hf
theorem zlX (a:List Int)(z:Int):zap (a++[z])=zap a++[.int .i64 z]:=by unfold zap;rw [List.map_append];rfl
theorem zlY (a b:Int)(hb:0<b):(a.tmod b<0∧a / b=a.tdiv b - 1)∨(0≤a.tmod b∧a / b=a.tdiv b):=by
 have h1:=Int.tmod_add_mul_tdiv a b;have h2:=Int.tmod_lt_of_pos a hb;have h3:=Int.lt_tmod_of_pos a hb;generalize a.tmod b=r at *;generalize a.tdiv b=q at *;rcases Int.lt_or_le r 0 with g | g
 ·refine .inl ⟨g,?_⟩;rw [← h1,show r+b * q=(r+b)+b * (q - 1) by rw [Int.mul_sub];omega,Int.add_mul_ediv_left _ _ (by omega),Int.ediv_eq_zero_of_lt (by omega) (by omega)];omega
 ·refine .inr ⟨g,?_⟩;rw [← h1,Int.add_mul_ediv_left _ _ (by omega),Int.ediv_eq_zero_of_lt g h2];omega
theorem zlZ (a:Int)(b:Nat)(w:World)(hb:0<b)(hb9:b≤1000)(ha:-1000000000≤a∧a≤1000000000) :
  Calls Tryz.prog 52 #[.int .i64 a,.int .i64 (b:Int)] w fun e w'=>e=.returned (.int .i64 (a / (b:Int)))∧w=w':=by
 have hbz:¬ (b:Int)=0:=by omega
 have hqb:(a.tdiv (b:Int)).natAbs≤a.natAbs:=by rw [Int.natAbs_tdiv];exact Nat.div_le_self _ _
 have hrb:=Int.tmod_lt_of_pos a (show (0:Int)<(b:Int) by omega);have hrc:=Int.lt_tmod_of_pos a (show (0:Int)<(b:Int) by omega);have hcs:=zlY a (b:Int) (by omega);generalize hq:a.tdiv (b:Int)=q at *;generalize hr:a.tmod (b:Int)=r at *;generalize a / (b:Int)=f at *;have hw1:IntKind.i64.wrap q=q:=IntWalk.i64_in _ (by omega);have hw2:IntKind.i64.wrap r=r:=IntWalk.i64_in _ (by omega);have hw3:IntKind.i64.wrap (q - 1)=q - 1:=IntWalk.i64_in _ (by omega);rcases hcs with ⟨g1,g2⟩ | ⟨g1,g2⟩
 ·have hd:decide (r<0)=true:=decide_eq_true g1;subst g2;go_enter Tryz.func52,Tryz.ntmps52
  go_wp2_with fail
  go_ret
  exact ⟨rfl,rfl⟩
 ·have hd:decide (r<0)=false:=decide_eq_false (by omega);subst g2;go_enter Tryz.func52,Tryz.ntmps52
  go_wp2_with fail
  go_ret
  exact ⟨rfl,rfl⟩
def zma (k:Int)(x:List Int):List Int:=x.map fun z=>k * z
theorem zmb {k:Int}{x:List Int}{i:Nat}(h:i<x.length):zma k (x.take (i+1))=zma k (x.take i)++[k * zas x i]:=by
 unfold zma zas;rw [List.take_succ_eq_append_getElem h,List.map_append,List.getD_eq_getElem?_getD,List.getElem?_eq_getElem h];rfl
theorem zmc (k:Int)(x:List Int):(zma k x).length=x.length:=by unfold zma;simp
theorem zmd (v:Value)(x:List Int)(k:Int)(n:Nat)(w:World)(hv:Sl w v (zap x))(hn:x.length=n)(hn9:n≤60)(hk:-1000≤k∧k≤1000)(hx:∀ i,i<n→-1000≤zas x i∧zas x i≤1000) :
  Calls Tryz.prog 53 #[v,.int .i64 k] w fun e w'=>∃ u,e=.returned (.tuple #[u,.int .i64 0])∧zc2 w' w.heap.size u (zma k x)∧Ext w w':=by
 obtain ⟨i0,hi,hz0,hz1,hz2⟩:=info_parts zc1;have hprod:∀ i,i<n→-1000000≤k * zas x i∧k * zas x i≤1000000:=fun i hi=>by
  have h2:=hx i hi;generalize zas x i=z at *;have h1:(k * z).natAbs≤1000 * 1000:=by rw [Int.natAbs_mul];exact Nat.mul_le_mul (by omega) (by omega)
  generalize k * z=t at *;omega
 have hrx:zgI x=0:=zlW (by omega) fun z hz=>by
  obtain ⟨i,hi⟩:=List.mem_iff_getElem?.1 hz;have hil:=(List.getElem?_eq_some_iff.1 hi).1;have:=hx i (by omega);unfold zas at this;rw [List.getD_eq_getElem?_getD,hi,Option.getD_some] at this;omega
 have hro:zgI (zma k x)=0:=zlW (by rw [zmc];omega) fun z hz=>by
  unfold zma at hz;obtain ⟨y,hy,rfl⟩:=List.mem_map.1 hz;obtain ⟨i,hi⟩:=List.mem_iff_getElem?.1 hy;have hil:=(List.getElem?_eq_some_iff.1 hi).1;have:=hprod i (by omega);unfold zas at this;rw [List.getD_eq_getElem?_getD,hi,Option.getD_some] at this;omega
 have hck:=zgK v x w hv (by omega);rw [hrx] at hck;have hfi:=fun W=>zgE k W;rw [show zgD k=true by unfold zgD;exact decide_eq_true (by omega)] at hfi;have hre:=fun u W (hu:Sl W u (zap (zma k x)))=>zlE u (zma k x) W hu (by rw [zmc];omega) hro;have htk:=fun i (hi:i<x.length)=>zmb (k:=k) hi;have hall:zma k (x.take n)=zma k x:=by rw [List.take_of_length_le (by omega)]
 have hln:∀ i,i≤n→(zma k (x.take i)).length=i:=fun i hi=>by rw [zmc,List.length_take];omega
 obtain ⟨a,c,rfl,_,_,hc⟩:=hv.parts;simp only [zar,hn] at hck htk ⊢;have hcc:∀ i,i<n→∃ b off,a=some ⟨b,off,none⟩∧w.cell? ⟨b,off+i,none⟩=some (.int .i64 (zas x i)):=fun i hi=>hc i _ (zau (by omega));have Hck:=hid hck;have Hfi:=hid hfi;have Hre:=hid hre;have Htk:=hid htk;have Hcc:=hid hcc;have Hprod:=hid hprod;have Hall:=hid hall;have Hln:=hid hln;clear hck hfi hre htk hcc hprod hall hln;clear hv hc hx hrx hro hk;go_enter Tryz.func53,Tryz.ntmps53
 go_wp2_with fail
 refine Hck.out.mono ?_;rintro e w1 ⟨rfl,hx1⟩;have hs1:=hx1.size;have Hx1:=hid hx1;clear hx1;go_wp2_with fail
 refine (Hfi.out _).mono ?_;rintro e w2 ⟨rfl,rfl⟩;go_wp2_with (at_make;refine wpList_make_own _ rfl _ _ 33 rfl w.heap.size 3 i0 (.int .i64 0) 1 Tryz.underlying33 hi hz0 hz1 _ _ _ n rfl rfl ?hC ?b2 ?b3 hs1 ?_)
 case hC=>simp
 case b2=>rw [hz2];omega
 case b3=>unfold maxLen;omega
 intro w3 hown hgrow;have hx3:Ext w w3:=Hx1.out.grown hgrow (by simp);have Hown:=hid hown;have Hx3:=hid hx3;clear hown hx3;clear hgrow;go_wp2_with fail
 go_loopw [7,28] (fun v7 v28 wr=>∃ i:Nat,v28=.int .i64 i∧i≤n∧Hid (wr.ownsRow w.heap.size 3 1 v7 i (zap (zma k (x.take i))))∧Hid (Ext w wr)) (fun _ v28 _=>n - (zal v28).toNat)
 case atStart=>exact ⟨0,rfl,Nat.zero_le _,Hown,Hx3⟩
 case round =>
  obtain ⟨i,rfl,hin,HO,HE⟩:=hrel;obtain ⟨a7,c7,e7⟩:=zc3 HO.out;subst e7;by_cases hlt:i<n
  ·obtain ⟨b,off,rfl,hc1⟩:=Hcc.out i hlt;have hcw:=HE.out.cell hc1;have hp1:=Hprod.out i hlt;have ht1:=Htk.out i hlt;generalize zas x i=z at *;have hk0:(0:Int)≤(i:Int):=(by omega);have hk1:(i:Int)<(n:Int):=(by omega);have hwr:IntKind.i64.wrap (k * z)=k * z:=IntWalk.i64_in _ (by omega);have hqo:=HO.out;have hm3:i+1≤maxLen:=(by unfold maxLen;omega);have hm4:(i+1) * 8≤140737488355328:=(by omega);have hbase:=HE.out.size;have Ht1:=hid ht1;clear ht1;clear hc1 hp1;go_wp2_with (at_builtin;refine wpList_append_own _ rfl _ _ 33 rfl w.heap.size 3 i0 (.int .i64 0) 1 8 Tryz.underlying33 hi hz0 hz1 hz2 rfl (by decide) _ _ _ rfl (hqo.alloc _) ⟨wr.heap.size,0,none⟩ 1 1 [.int .i64 (k * z)] rfl rfl (cell_one_new _ _ _) (by simp [Value.oneCell']) hm3 hm4 (by rw [World.size_alloc];omega) ?_;intro v8 V8 hown8 hgrow8 _)
   go_roundw
   case rel=>exact ⟨i+1,by go_num,hlt,hid (by rw [Ht1.out,zlX];exact hown8),hid ((HE.out.alloc _).grown hgrow8 fun q hq=>(World.ownsRow.lt hqo q hq).1)⟩
   case measure=>simp [zal];omega
  ·have hie:i=n:=(by omega);have ho:=HO.out;rw [hie,Hall.out] at ho;have hO9:zc2 wr w.heap.size (.slice a7 n c7) (zma k x):=by
    unfold zc2;rw [zmc,hn];exact ho
   have h9:=Hre.out _ wr hO9.sl;subst hie;have HO9:=hid hO9;have H9:=hid h9;clear hO9 h9;clear ho;go_wp2_with fail
   refine H9.out.mono ?_;rintro e w9 ⟨rfl,hx9⟩;have Hx9:=hid hx9;clear hx9;go_wp2_with fail
   go_ret2
   exact ⟨_,rfl,Hx9.out.ownI HO9.out,HE.out.trans Hx9.out⟩
end
section
open Go.RowKit Go.Lib
attribute [local go_sem] Oper.semAt_some
def zme (x y:List Int):List Int:=(List.range x.length).map fun p=>zas x p+zas y p
theorem zmf (vx vy:Value)(x y:List Int)(w:World)(hx:Sl w vx (zap x))(hy:Sl w vy (zap y))(hlen:x.length=y.length)(hl:x.length≤64)(hb:zlC x y=0)(hd:zgI (zme x y)=0)
  (hin:∀ i,i<x.length→-1000000000000≤zas x i+zas y i∧zas x i+zas y i≤1000000000000) :
  Calls Tryz.prog 54 #[vx,vy] w fun e w'=>∃ v,e=.returned (.tuple #[v,.int .i64 0])∧zc2 w' w.heap.size v (zme x y)∧Ext w w':=by
 obtain ⟨i0,hi,hz0,hz1,hz2⟩:=info_parts zc1;have hboth:=zlD vx vy x y w hx hy (by omega) (by omega);rw [hb] at hboth;have Hboth:=hid hboth;clear hboth hb;have Hd:=hid hd;clear hd;have hall:∀ i,-1000000000000≤zas x i+zas y i∧zas x i+zas y i≤1000000000000:=fun i=>by
  rcases Nat.lt_or_ge i x.length with h | h
  ·exact hin i h
  ·have e1:zas x i=0:=(by unfold zas;rw [List.getD_eq_getElem?_getD,List.getElem?_eq_none h];rfl);have e2:zas y i=0:=(by unfold zas;rw [List.getD_eq_getElem?_getD,List.getElem?_eq_none (by omega)];rfl);rw [e1,e2];omega
 have Hall:=hid hall;clear hall hin;have Hlen:=hid hlen;clear hlen;obtain ⟨aa,ca,rfl,_,_,hcx⟩:=hx.parts;obtain ⟨ab,cb,rfl,_,_,hcy⟩:=hy.parts;rw [zar] at *;rw [zar] at *;have Hcx:=hid hcx;clear hcx hx;have Hcy:=hid hcy;clear hcy hy;refine (callsIn_wide (n:=3)).1 ?_;refine callsIn_of_wp_marks Tryz.func54 rfl trivial ?_ rfl;simp only [Tryz.ntmps54,List.size_toArray,List.length_cons,List.length_nil,Nat.reduceAdd,Nat.reduceSub,Array.replicate_succ,Array.replicate_zero,List.push_toArray,List.append_toArray,List.nil_append,List.cons_append];gi_wp2_with fail;refine ⟨trivial,?_⟩;refine (callsIn_wide.2 Hboth.out).mono ?_;rintro e w1 ⟨rfl,hx1⟩;have hs1:=hx1.size;have Hx1:=hid hx1;clear hx1;gi_wp2_with (gi_at_make;refine wpListIn_make_own _ rfl _ _ 33 rfl w.heap.size 3 i0 (.int .i64 0) 1 Tryz.underlying33 hi hz0 hz1 .i64 .i64 x.length x.length rfl rfl rfl (by rw [hz2];omega) (by unfold maxLen;omega) hs1 ?_;intro w2 hown2 hgrow2);refine ⟨trivial,?_⟩;refine (zlG Fence.wide _ trivial rfl _ _ _ _ _ _ _).mono ?_;rintro e w' ⟨rfl,rfl⟩;have hs2:=hgrow2.size;have bO:=Boxed.new w2 33 (.slice (some ⟨w1.heap.size,0,none⟩) 0 x.length);have bA:=Boxed.new (w2.alloc (.cells #[.slice (some ⟨w1.heap.size,0,none⟩) 0 x.length] 33)) 33 (.slice aa x.length ca);have bB:=Boxed.new ((w2.alloc (.cells #[.slice (some ⟨w1.heap.size,0,none⟩) 0 x.length] 33)).alloc (.cells #[.slice aa x.length ca] 33)) 33 (.slice ab y.length cb);simp only [World.size_alloc] at bO bA bB;have hE2:Ext w w2:=Hx1.out.grown hgrow2 (fun k e=>by cases e);have hE5:=((hE2.alloc (.cells #[.slice (some ⟨w1.heap.size,0,none⟩) 0 x.length] 33)).alloc (.cells #[.slice aa x.length ca] 33)).alloc (.cells #[.slice ab y.length cb] 33);have hrow5:=((hown2.alloc (.cells #[.slice (some ⟨w1.heap.size,0,none⟩) 0 x.length] 33)).alloc (.cells #[.slice aa x.length ca] 33)).alloc (.cells #[.slice ab y.length cb] 33);have HE5:=hid hE5;clear hE5;gi_wp2_with fail;refine wpIn_rangeFunc_ownG (n:=3) rfl (by omega) (gf:=93) (lb:=#[.pointer (some ⟨w2.heap.size+1,0,none⟩),.pointer (some ⟨w2.heap.size+1+1,0,none⟩)]) rfl trivial (enters_of Tryz.func93 (by kernel_rfl) rfl)
  (zlH Fence.wide (3 - 1) trivial rfl (by omega) (w2.heap.size+1) (w2.heap.size+1+1) w.heap.size aa ab ca cb x y Hlen.out (by omega) _ (bA.alloc _).cell bB.cell
   (fun i hi=>by obtain ⟨b,off,e,hc⟩:=Hcx.out i _ (zau hi);exact ⟨b,off,e,World.block_lt_of_cell? _ _ hc,HE5.out.cell hc⟩)
   (fun i hi=>by obtain ⟨b,off,e,hc⟩:=Hcy.out i _ (zau hi);exact ⟨b,off,e,World.block_lt_of_cell? _ _ hc,HE5.out.cell hc⟩))
  (fun h k=>⟨h.1.trans k.1,k.2.trans h.2⟩) (fun W l o o' hl h hc hw=>⟨belowK_b HE5.out.size W l o o' hl h hc hw,World.putObj_heap_other (by simp [World.size_alloc] at hl;omega)⟩) (Below.refl _ _) (fun _=>rfl)
  (fun pre W=>(∃ v,Boxed W w2.heap.size 33 v∧W.ownsRow w.heap.size 3 1 v pre.length (zap (pre.map fun p=>zas x p+zas y p))∧True)∧Boxed W (w2.heap.size+1+1) 33 (.slice ab y.length cb)∧Below w.heap.size w W)
  (fun _ _ _=>False)
  (OwnFrom.and (Go.Own.from (holdsRow_own w.heap.size w2.heap.size 33 3 1 (fun pre:List Nat=>pre.length) (fun pre=>zap (pre.map fun p=>zas x p+zas y p)) (fun pre v=>True)) _) (OwnFrom.and (Go.Own.from zgj _) (ownFrom_below (Nat.le_refl _) HE5.out.size)))
  (fun _ _ _ _ _ hs _ _=>hs)
  ⟨⟨_,(bO.alloc _).alloc _,hrow5,trivial⟩,bB,HE5.out⟩
  (fun p=>{ tmps:=#[.slice aa x.length ca,.slice ab y.length cb,undef,undef,.slice none 0 0,.int .i64 0,.int .i64 0,.pointer (some ⟨w2.heap.size,0,none⟩),
     .int .i64 (zas x p),.int .i64 (zas y p),.slice aa x.length ca,.slice ab y.length cb,.int .i64 0,.int .i64 0,.bool false,undef,.slice aa x.length ca,.int .i64 x.length,
     .slice (some ⟨w1.heap.size,0,none⟩) 0 x.length,.slice aa x.length ca,.slice ab y.length cb,
     .func (.func 93) #[] #[.pointer (some ⟨w2.heap.size+1,0,none⟩),.pointer (some ⟨w2.heap.size+1+1,0,none⟩)],
     .int .i64 (zas x p),.int .i64 (zas y p),undef,undef,undef,undef,undef,undef,undef,undef,undef,undef],defers:=[] }) ?assign ?body ?done ?stop
 case assign =>
  intro l p W K hK;gi_wp2;exact hK
 case body =>
  rintro l pre p W ⟨⟨v,hv,hrow,_⟩,hvb,hB⟩ hlt;have hc:=hv.cell;have hpb:=Hall.out p;have hlt2:pre.length<64:=by omega
  clear hlt;gi_wp2_with (gi_at_builtin;refine wpListIn_append_own _ rfl _ _ 33 rfl w.heap.size 3 i0 (.int .i64 0) 1 8 Tryz.underlying33 hi hz0 hz1 hz2 rfl (by decide) _ _ _ rfl (hrow.alloc _) ⟨W.heap.size,0,none⟩ 1 1 [.int .i64 (zas x p+zas y p)] rfl rfl (cell_one_new _ _ _) (by simp [Value.oneCell']) (by unfold maxLen;omega) (by omega) (by have:=hB.size;simp;omega) ?_;intro v' w6 hown' hgrow _;obtain ⟨g',cap',rfl⟩:=ownsRow_succ hown';obtain ⟨hv1,hv2,hr2,hk2,hb2⟩:=hv.appended (by decide) hrow hB.size (by omega) hown' hgrow;have hc1:=hv1.cell;have hf1:=hv1.frozen);have hvb2:Boxed w6 (w2.heap.size+1+1) 33 (.slice ab y.length cb):=(hvb.alloc _).kept hgrow (hvb.not_row (by decide) hrow);have hvb3:Boxed (w6.setCell ⟨w2.heap.size,0,none⟩ (.slice (some ⟨g',0,none⟩) (pre.length+1) cap')) (w2.heap.size+1+1) 33 (.slice ab y.length cb):=(Below.heap_setCell w6 ⟨w2.heap.size,0,none⟩ _ (w2.heap.size+1+1) (by dsimp only;omega)).trans hvb2;exact ⟨hk2.from _,⟨hb2,hvb3.trans hvb.symm⟩,⟨_,hv2,by simpa [zap] using hr2,trivial⟩,hvb3,Below.trans hB hb2⟩
 case done =>
  rintro D ys W hD rfl ⟨⟨v,hv,hrow,_⟩,hvb,hB⟩ hK;have hc:=hv.cell;rw [List.length_range] at hrow;have hrow':zc2 W w.heap.size v (zme x y):=by
   have e:(zme x y).length=x.length:=(by unfold zme;rw [List.length_map,List.length_range]);show W.ownsRow _ _ 1 v (zme x y).length _;rw [e];exact hrow
  have hrc:=zlE v (zme x y) W hrow'.sl (by unfold zme;rw [List.length_map,List.length_range];omega) Hd.out;have Hrc:=hid hrc;clear hrc;gi_wp2_with fail;refine ⟨trivial,?_⟩;refine (callsIn_wide.2 Hrc.out).mono ?_;rintro e w9 ⟨rfl,hx9⟩;have hs9:=hx9.size;have hs5:=HE5.out.size;have hK9:=hx9.heap hK;have hE9:Ext w w9:=Ext.trans hB hx9;have hrow9:=hx9.ownI hrow';gi_wp2;refine ⟨by simp,.inl ⟨_,_,rfl,run_takeDeferred hK9,?_⟩⟩;refine ⟨_,results_tmp2 rfl _ _ _,v,rfl,?_,?_⟩
  ·exact ownsRow_putObj hrow9 _ hK9 rfl
  ·exact Below.trans hE9 (belowK_b (w:=w) (Nat.le_refl _) w9 D _ _ (by omega) hK9 rfl rfl)
 case stop =>
  rintro D c pre W _ _ h _;exact h.elim
end
section
open Go.RowKit Go.Lib
theorem zmg {w:World}{B g n:Nat}(h:w.ownsRow B 3 1 (.slice (some ⟨g,0,none⟩) n n) n (madeCells (Value.int .i64 0).cells (n * 1)).toList):zc2 w B (.slice (some ⟨g,0,none⟩) (zhd n).length n) (zhd n):=by
 have hzz:(zhd n).length=n:=List.length_replicate;have e:zap (zhd n)=(madeCells #[Value.int .i64 0] (n * 1)).toList:=by
  unfold zhd;rw [Nat.mul_one,toList_madeCells_one];simp [zap]
 unfold zc2;rw [hzz,e];exact h
def zmh (T:TypeId)(w:World)(b:Nat)(u v:Value):Prop:=w.heap[b]?=some (.cells #[u,v] T (0,0))
section
variable {T : TypeId} {w w' : World} {b c : Nat} {u v : Value}
theorem zmh.new (T:TypeId)(w:World)(u v:Value):zmh T (w.alloc (.cells #[u,v] T)) w.heap.size u v:=World.alloc_heap_new w _
theorem zmh.ext (hx:Ext w w')(h:zmh T w b u v):zmh T w' b u v:=hx.heap h
theorem zmh.c0 (h:zmh T w b u v):w.cell? ⟨b,0,none⟩=some u:=by unfold World.cell?;dsimp only;rw [h];rfl
theorem zmh.c1 (h:zmh T w b u v):w.cell? ⟨b,1,none⟩=some v:=by unfold World.cell?;dsimp only;rw [h];rfl
theorem zmh.fz (h:zmh T w b u v)(k:Nat):w.frozen? ⟨b,k,none⟩=false:=frozen_of_row w b k #[u,v] _ h
theorem zmh.lt (h:zmh T w b u v):b<w.heap.size:=(Array.getElem?_eq_some_iff.1 h).1
theorem zmh.put (h:zmh T w c u v)(x y:Value):zmh T ((w.setCell ⟨c,0,none⟩ x).setCell ⟨c,1,none⟩ y) c x y :=
 heap_setCell_same _ c 1 _ _ y (heap_setCell_same w c 0 _ _ x h)
theorem zmh.put0 (h:zmh T w c u v)(x:Value):zmh T (w.setCell ⟨c,0,none⟩ x) c x v:=heap_setCell_same w c 0 _ _ x h
theorem zmh.put1 (h:zmh T w c u v)(x:Value):zmh T (w.setCell ⟨c,1,none⟩ x) c u x:=heap_setCell_same w c 1 _ _ x h
theorem zmh.past1 (h:zmh T w b u v)(k:Nat)(hne:b ≠ c)(x:Value):zmh T (w.setCell ⟨c,k,none⟩ x) b u v:=(heap_setCell_other w ⟨c,k,none⟩ b x hne).trans h
theorem zmh.past (h:zmh T w b u v)(hne:b ≠ c)(x y:Value):zmh T ((w.setCell ⟨c,0,none⟩ x).setCell ⟨c,1,none⟩ y) b u v:=(h.past1 0 hne x).past1 1 hne y
end
def zmi (T:TypeId)(w:World)(c:Nat):Prop:=∃ u v,zmh T w c u v
section
variable {T : TypeId} {w w' w2 : World} {b c : Nat} {u v : Value}
theorem zmi.ext (hx:Ext w w')(h:zmi T w c):zmi T w' c:=by
 obtain ⟨u,v,h⟩:=h;exact ⟨u,v,h.ext hx⟩
theorem zmi.c0 (h:zmi T w c):w.cell? ⟨c,0,none⟩=some (zeq w c 0):=by
 obtain ⟨u,v,h⟩:=h;unfold zeq;rw [h.c0];rfl
theorem zmi.c1 (h:zmi T w c):w.cell? ⟨c,1,none⟩=some (zeq w c 1):=by
 obtain ⟨u,v,h⟩:=h;unfold zeq;rw [h.c1];rfl
theorem zmi.fz (h:zmi T w c)(k:Nat):w.frozen? ⟨c,k,none⟩=false:=by
 obtain ⟨u,v,h⟩:=h;exact h.fz k
structure K0 (T:TypeId)(w w':World)(c:Nat):Prop where
 x:Ext w w'
 res:zmi T w' c
theorem K0.ext (h:K0 T w w' c)(hx:Ext w' w2):K0 T w w2 c:=⟨h.x.trans hx,h.res.ext hx⟩
theorem K0.fin (h:K0 T w w' c)(hc:w.heap.size≤c)(x y:Value):zmh T ((w'.setCell ⟨c,0,none⟩ x).setCell ⟨c,1,none⟩ y) c x y∧Ext w ((w'.setCell ⟨c,0,none⟩ x).setCell ⟨c,1,none⟩ y):=by
 obtain ⟨u',v',h'⟩:=h.res;exact ⟨h'.put x y,(h.x.setCell hc _).setCell hc _⟩
theorem K0.set (h:K0 T w w' c){b:Nat}(hb:w.heap.size≤b)(hne:c ≠ b)(k:Nat)(x:Value):K0 T w (w'.setCell ⟨b,k,none⟩ x) c:=by
 obtain ⟨u',v',h'⟩:=h.res;exact ⟨h.x.setCell hb _,u',v',h'.past1 k hne x⟩
end
structure K2 (T1 T2 TR:TypeId)(w w':World)(b1:Nat)(u1 v1:Value)(b2:Nat)(u2 v2:Value)(c:Nat):Prop where
 x:Ext w w'
 a:zmh T1 w' b1 u1 v1
 b:zmh T2 w' b2 u2 v2
 res:zmi TR w' c
section
variable {T1 T2 TR : TypeId} {w w' w2 : World} {b1 b2 c : Nat} {u1 v1 u2 v2 : Value}
theorem K2.ext (h:K2 T1 T2 TR w w' b1 u1 v1 b2 u2 v2 c)(hx:Ext w' w2):K2 T1 T2 TR w w2 b1 u1 v1 b2 u2 v2 c:=⟨h.x.trans hx,h.a.ext hx,h.b.ext hx,h.res.ext hx⟩
theorem K2.put (h:K2 T1 T2 TR w w' b1 u1 v1 b2 u2 v2 c)(hc:w.heap.size≤c)(h1:b1 ≠ c)(h2:b2 ≠ c)(x y:Value):K2 T1 T2 TR w ((w'.setCell ⟨c,0,none⟩ x).setCell ⟨c,1,none⟩ y) b1 u1 v1 b2 u2 v2 c:=by
 obtain ⟨u,v,hr⟩:=h.res;exact ⟨(h.x.setCell hc _).setCell hc _,h.a.past h1 x y,h.b.past h2 x y,x,y,hr.put x y⟩
theorem K2.fin (h:K2 T1 T2 TR w w' b1 u1 v1 b2 u2 v2 c)(hc:w.heap.size≤c)(x y:Value):zmh TR ((w'.setCell ⟨c,0,none⟩ x).setCell ⟨c,1,none⟩ y) c x y∧Ext w ((w'.setCell ⟨c,0,none⟩ x).setCell ⟨c,1,none⟩ y):=by
 obtain ⟨u',v',h'⟩:=h.res;exact ⟨h'.put x y,(h.x.setCell hc _).setCell hc _⟩
theorem K2.all (h:K2 T1 T2 TR w w' b1 u1 v1 b2 u2 v2 c):K2 T1 T2 TR w w' b1 u1 v1 b2 u2 v2 c∧w'.cell? ⟨b1,0,none⟩=some u1∧w'.cell? ⟨b1,1,none⟩=some v1∧w'.cell? ⟨b2,0,none⟩=some u2∧w'.cell? ⟨b2,1,none⟩=some v2∧w'.cell? ⟨c,0,none⟩=some (zeq w' c 0)∧w'.cell? ⟨c,1,none⟩=some (zeq w' c 1)∧w'.frozen? ⟨c,0,none⟩=false∧w'.frozen? ⟨c,1,none⟩=false :=
 ⟨h,h.a.c0,h.a.c1,h.b.c0,h.b.c1,h.res.c0,h.res.c1,h.res.fz 0,h.res.fz 1⟩
end
end
section
open Go.RowKit Go.Lib Go.Shelf
structure GR (α:Type) where
 g:Nat
 c:Nat
 x:List α
def GR.u {α:Type}(e:GR α):Value:=.slice (some ⟨e.g,0,none⟩) e.x.length e.c
structure Gd {α:Type}(enc:α→List Value)(T TS s:Nat)(w:World)(B gs cap:Nat)(ls:List (GR α)):Prop where
 own:w.ownsRow B TS 1 (.slice (some ⟨gs,0,none⟩) ls.length cap) ls.length (ls.map GR.u)
 rows:∀ e∈ls,w.ownsRow B T s e.u e.x.length (e.x.flatMap enc)
 apart:∀ (i j:Nat)(e f:GR α),ls[i]?=some e→ls[j]?=some f→i ≠ j→e.g ≠ f.g
def zmj (i j k:Nat):Nat:=if k=j then i else if k=i then j else k
theorem zmk {i j a b:Nat}(h:zmj i j a=zmj i j b):a=b:=by unfold zmj at h;split at h <;> split at h <;> (try split at h) <;> (try split at h) <;> omega
theorem zml {α:Type}{ls:List α}{i j:Nat}{e f:α}(he:ls[i]?=some e)(hf:ls[j]?=some f)(k:Nat):((ls.set i f).set j e)[k]?=ls[zmj i j k]?:=by
 have hi:=(List.getElem?_eq_some_iff.1 he).1;have hj:=(List.getElem?_eq_some_iff.1 hf).1;unfold zmj;rw [List.getElem?_set];by_cases g:j=k
 ·rw [if_pos g,if_pos (by rw [List.length_set];exact hj),if_pos g.symm,he]
 ·rw [if_neg g,if_neg (fun q=>g q.symm),List.getElem?_set];by_cases g2:i=k
  ·rw [if_pos g2,if_pos hi,if_pos g2.symm,hf]
  ·rw [if_neg g2,if_neg (fun q=>g2 q.symm)]
section
variable {α : Type} {enc : α → List Value} {T TS s : Nat} {w w' : World} {B gs cap : Nat} {ls : List (GR α)}
theorem Gd.ext (h:Gd enc T TS s w B gs cap ls)(hx:Ext w w'):Gd enc T TS s w' B gs cap ls:=⟨hx.own h.own,fun e he=>hx.own (h.rows e he),h.apart⟩
theorem Gd.at (h:Gd enc T TS s w B gs cap ls){i:Nat}{e:GR α}(he:ls[i]?=some e):w.cell? ⟨gs,i,none⟩=some e.u:=by
 have:=World.ownsRow.cellAt h.own i (by rw [Nat.mul_one];exact (List.getElem?_eq_some_iff.1 he).1);rw [List.getElem?_map,he] at this;exact this
theorem Gd.gs_ne (h:Gd enc T TS s w B gs cap ls)(hT:T ≠ TS){e:GR α}(he:e∈ls):gs ≠ e.g:=by
 rcases zc5 (h.rows e he) h.own hT with g | g
 ·cases g
 ·exact fun q=>g (by rw [q];rfl)
theorem Gd.gsB (h:Gd enc T TS s w B gs cap ls):B≤gs∧gs<w.heap.size:=World.ownsRow.lt h.own gs rfl
theorem Gd.rowB (h:Gd enc T TS s w B gs cap ls){e:GR α}(he:e∈ls):B≤e.g∧e.g<w.heap.size:=World.ownsRow.lt (h.rows e he) e.g rfl
theorem Gd.upd (h:Gd enc T TS s w B gs cap ls)(hT:T ≠ TS){i:Nat}{e:GR α}(he:ls[i]?=some e)(hd:w.grownBy w' (some e.g)){x:List α}(hl:x.length=e.x.length)(hx:w'.ownsRow B T s e.u e.x.length (x.flatMap enc)) :
  Gd enc T TS s w' B gs cap (ls.set i { e with x:=x }):=by
 have hi:=(List.getElem?_eq_some_iff.1 he).1;have n1:=h.gs_ne hT (List.mem_of_getElem? he);have hu:GR.u { e with x:=x }=e.u:=by unfold GR.u;rw [show ({ e with x:=x }:GR α).x=x from rfl,hl]
 have hat:∀ j f,(ls.set i { e with x:=x })[j]?=some f→∃ f0,ls[j]?=some f0∧f.g=f0.g∧(j ≠ i→f=f0)∧(j=i→f={ e with x:=x }):=by
  intro j f hf;rw [List.getElem?_set] at hf;by_cases g:i=j
  ·rw [if_pos g,if_pos (by omega)] at hf;injection hf with hf;subst hf;subst g;exact ⟨e,he,rfl,fun q=>absurd rfl q,fun _=>rfl⟩
  ·rw [if_neg g] at hf;exact ⟨f,hf,rfl,fun _=>rfl,fun q=>absurd q.symm g⟩
 refine ⟨?_,fun f hf=>?_,fun p q f k hf hk hne=>?_⟩
 ·have hm:(ls.set i { e with x:=x }).map GR.u=ls.map GR.u:=by
   rw [List.map_set,hu];have:(ls.map GR.u)[i]?=some e.u:=(by rw [List.getElem?_map,he];rfl);obtain ⟨h1,h2⟩:=List.getElem?_eq_some_iff.1 this;rw [← h2];exact List.set_getElem_self h1
  rw [hm,List.length_set];exact World.ownsRow.kept h.own hd (.inr fun q=>n1 (Option.some.inj q))
 ·obtain ⟨j,hj⟩:=List.mem_iff_getElem?.1 hf;obtain ⟨f0,h1,h2,h3,h4⟩:=hat j f hj;by_cases g:j=i
  ·rw [h4 g];show w'.ownsRow B T s (GR.u { e with x:=x }) x.length (x.flatMap enc);rw [hu,hl];exact hx
  ·rw [h3 g];exact World.ownsRow.kept (h.rows f0 (List.mem_of_getElem? h1)) hd (.inr fun q=>h.apart j i f0 e h1 he g (Option.some.inj q))
 ·obtain ⟨f0,h1,h2,_⟩:=hat p f hf;obtain ⟨k0,h4,h5,_⟩:=hat q k hk;rw [h2,h5];exact h.apart p q f0 k0 h1 h4 hne
theorem Gd.swap (h:Gd enc T TS s w B gs cap ls)(hT:T ≠ TS){i j:Nat}{e f:GR α}(he:ls[i]?=some e)(hf:ls[j]?=some f) :
  Gd enc T TS s ((w.setCell ⟨gs,i,none⟩ f.u).setCell ⟨gs,j,none⟩ e.u) B gs cap ((ls.set i f).set j e)∧w.grownBy ((w.setCell ⟨gs,i,none⟩ f.u).setCell ⟨gs,j,none⟩ e.u) (some gs):=by
 have o1:=World.ownsRow.stored h.own i f.u;have o2:=World.ownsRow.stored o1.1 j e.u;have hg:=o1.2.trans o2.2;refine ⟨⟨?_,fun q hq=>?_,fun a b p q hp hq hne=>?_⟩,hg⟩
 ·rw [List.length_set,List.length_set,List.map_set,List.map_set];exact o2.1
 ·obtain ⟨k,hk⟩:=List.mem_iff_getElem?.1 hq;rw [zml he hf] at hk;have hm:=List.mem_of_getElem? hk;exact World.ownsRow.kept (h.rows q hm) hg (.inr fun q=>h.gs_ne hT hm (Option.some.inj q).symm)
 ·rw [zml he hf] at hp hq;exact h.apart _ _ p q hp hq fun g=>hne (zmk g)
theorem zmm {W:World}{b:Nat}(h:w.grownBy w' (some b))(hE:Ext W w)(hb:W.heap.size≤b):Ext W w' :=
 hE.grown h fun k hk=>by cases hk;exact hb
end
structure GdM {α:Type}(enc:α→List Value)(T TS s:Nat)(w:World)(B:Nat)(v:Value)(ls:List (GR α)):Prop where
 own:w.ownsRow B TS 1 v ls.length (ls.map GR.u)
 rows:∀ e∈ls,w.ownsRow B T s e.u e.x.length (e.x.flatMap enc)
 apart:∀ (i j:Nat)(e f:GR α),ls[i]?=some e→ls[j]?=some f→i ≠ j→e.g ≠ f.g
section
variable {α : Type} {enc : α → List Value} {T TS s : Nat} {w w' : World} {B : Nat} {v : Value} {ls : List (GR α)}
theorem GdM.nil (w:World)(B:Nat):GdM (α:=α) enc T TS s w B (.slice none 0 0) []:=⟨World.ownsRow_nil w _ _ 1,fun _ h=>(by cases h),fun _ _ _ _ h=>(by simp at h)⟩
theorem GdM.ext (h:GdM enc T TS s w B v ls)(hx:Ext w w'):GdM enc T TS s w' B v ls:=⟨hx.own h.own,fun e he=>hx.own (h.rows e he),h.apart⟩
theorem GdM.more {V:World}{v7:Value}{o:Obj}{e:GR α}(h:GdM enc T TS s w B v ls)(hT:T ≠ TS)(he:w.ownsRow B T s e.u e.x.length (e.x.flatMap enc))(hf:∀ f∈ls,f.g ≠ e.g)
  (hown:V.ownsRow B TS 1 v7 (ls.length+1) (ls.map GR.u++[e.u])) (hgrow:(w.alloc o).grownBy V v.ownBlock):GdM enc T TS s V B v7 (ls++[e]):=by
 have hk:∀ f:GR α,w.ownsRow B T s f.u f.x.length (f.x.flatMap enc)→V.ownsRow B T s f.u f.x.length (f.x.flatMap enc):=fun f hfo =>
  World.ownsRow.kept (((Ext.refl w).alloc o).own hfo) hgrow (zc5 hfo h.own hT)
 refine ⟨by rw [List.length_append,List.map_append];exact hown,fun f hm=>?_,fun i j a b ha hb hne=>?_⟩
 ·rcases List.mem_append.1 hm with g | g
  ·exact hk f (h.rows f g)
  ·rw [List.mem_singleton] at g;subst g;exact hk f he
 ·have hsplit:∀ (i:Nat)(a:GR α),(ls++[e])[i]?=some a→(i<ls.length∧ls[i]?=some a)∨(i=ls.length∧a=e):=fun i a ha=>by
   rcases Nat.lt_or_ge i ls.length with g | g
   ·rw [List.getElem?_append_left g] at ha;exact .inl ⟨g,ha⟩
   ·rw [List.getElem?_append_right g] at ha;have hl:=(List.getElem?_eq_some_iff.1 ha).1;simp only [List.length_singleton] at hl;have hi:i=ls.length:=(by omega);subst hi;rw [Nat.sub_self] at ha;exact .inr ⟨rfl,(Option.some.inj ha).symm⟩
  rcases hsplit i a ha with ⟨_,g1⟩ | ⟨g0,rfl⟩ <;> rcases hsplit j b hb with ⟨_,g3⟩ | ⟨g2,rfl⟩
  ·exact h.apart i j a b g1 g3 hne
  ·exact hf a (List.mem_of_getElem? g1)
  ·exact fun q=>hf b (List.mem_of_getElem? g3) q.symm
  ·omega
theorem GdM.gd (h:GdM enc T TS s w B v ls)(hl:0<ls.length):∃ gs cap,v=.slice (some ⟨gs,0,none⟩) ls.length cap∧Gd enc T TS s w B gs cap ls:=by
 rcases h.own.2 with ⟨_,h0⟩ | ⟨g,cap,cur,rfl,_⟩
 ·omega
 ·exact ⟨g,cap,rfl,h.own,h.rows,h.apart⟩
end
def zmn (z:Int):List Value:=[.string (I z)]
def zmo (q:Rat):List Value:=[.string (I q.num),.string (I (q.den:Int))]
theorem zmp (l:List Int):l.flatMap zmn=zf3 l:=by
 induction l with
 | nil=>rfl
 | cons z l ih=>rw [List.flatMap_cons,ih];rfl
end
end Go.Proofs.YtipkdebkdnbieaaGreatDoor
