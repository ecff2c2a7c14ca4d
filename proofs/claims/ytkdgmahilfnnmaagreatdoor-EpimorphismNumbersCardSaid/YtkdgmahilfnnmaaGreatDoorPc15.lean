/- Walk: size.Of of a right interval. (KEEPALL) A region that draws, within a round of a loop over a function: the walk that serves outside of rounds serves there too, where nothing is deferred. -/
import Derived.Test.YtkdgmahilfnnmaaGreatDoorPc14
import Derived.Test.YtkdgmahilfnnmaaGreatDoorPc12
import Derived.Test.YtkdgmahilfnnmaaGreatDoorProg
import Derived.BigRegionIn
import Derived.Deep.RegionHeld3
set_option maxRecDepth 100000
set_option maxHeartbeats 2000000
namespace Go.Proofs.YtkdgmahilfnnmaaGreatDoor
section
open Go.RowKit Go.Lib
def zji (x:List Int)(k:Nat):List Rat:=(zgN x).take k++List.replicate (x.length - k) 0
theorem zjj (x:List Int):(zgN x).length=x.length:=by unfold zgN;rw [List.length_map]
theorem zjk {x:List Int}{k:Nat}(h:k≤x.length):(zji x k).length=x.length:=by
 unfold zji;rw [List.length_append,List.length_take,List.length_replicate,zjj];omega
theorem zjl (x:List Int):zji x 0=List.replicate x.length 0:=by simp [zji]
theorem zjm (x:List Int):zji x x.length=zgN x:=by
 unfold zji;rw [List.take_of_length_le (by rw [zjj];exact Nat.le_refl _),Nat.sub_self];simp
theorem zjn {x:List Int}{k:Nat}(h:k<x.length):(zji x k).set k ((zas x k:Int):Rat)=zji x (k+1):=by
 have hl:=zjj x;have hq:(zgN x)[k]?=some ((zas x k:Int):Rat):=by
  unfold zgN zas;rw [List.getElem?_map,List.getD_eq_getElem?_getD,List.getElem?_eq_getElem h];rfl
 apply List.ext_getElem?;intro i;rw [List.getElem?_set,zjk (by omega)];unfold zji;by_cases e:k=i
 ·subst e;rw [if_pos rfl,if_pos h,List.getElem?_append_left (by rw [List.length_take];omega),List.getElem?_take_of_lt (by omega),hq]
 ·rw [if_neg e];by_cases g:i<k
  ·rw [List.getElem?_append_left (by rw [List.length_take];omega),List.getElem?_append_left (by rw [List.length_take];omega),List.getElem?_take_of_lt g,List.getElem?_take_of_lt (by omega)]
  ·rw [List.getElem?_append_right (by rw [List.length_take];omega),List.getElem?_append_right (by rw [List.length_take];omega),List.getElem?_replicate,List.getElem?_replicate,List.length_take,List.length_take];congr 1;simp only [eq_iff_iff];omega
theorem zjo (vp vx:Value)(p x:List Int)(w:World)(he:Env w)(hp:Sl w vp (zap p))(hx:Sl w vx (zap x))(h0:zgo p x=0) :
  Calls Tryz.prog 39 #[vp,vx] w fun e w'=>∃ v,e=.returned (.tuple #[v,.int .i64 0])∧zfb w' w.heap.size v (zgN x)∧Ext w w':=by
 obtain ⟨hpe,hre⟩:=zg1 h0;obtain ⟨hxl,hxb⟩:=zg0 hre;obtain ⟨hp0,hp6,_⟩:=zc0 hpe;have hck:=zgp vp vx p x w hp hx (by omega) (by omega);rw [h0] at hck;have hz:=fun W (hE:Ext w W)=>zjf p.length W (he.ext hE) (by omega);have hnu:=fun i (hi:i<x.length) W (hE:Ext w W)=>zfg (zas x i) W (he.ext hE) (by have:=hxb i hi;omega) (by have:=hxb i hi;omega);unfold Rv at hnu;rw [← hxl] at hz;obtain ⟨ap,cp,rfl,_,_,_⟩:=hp.parts;obtain ⟨ax,cx,rfl,_,_,hcx⟩:=hx.parts;rw [zar,← hxl] at hck ⊢;rw [zar] at hck ⊢;have hst:=fun k (h:k<x.length)=>zjn (x:=x) h;have hln:=fun k (h:k≤x.length)=>zjk (x:=x) h;have hz0:=zjl x;have hfu:=zjm x;have hx1000:x.length≤1000:=by omega
 have Hck:=Lib.hid hck;have Hz:=Lib.hid hz;have Hnu:=Lib.hid hnu;have Hcx:=Lib.hid hcx;have Hst:=Lib.hid hst;have Hln:=Lib.hid hln;have Hz0:=Lib.hid hz0;have Hfu:=Lib.hid hfu;clear hck hz hnu hcx hst hln hz0 hfu;clear hp hx h0 hpe hre hxb hp0 hp6 hxl he;go_enter Tryz.func39,Tryz.ntmps39
 go_wp2_with fail
 refine Hck.out.mono ?_;rintro e w1 ⟨rfl,hx1⟩;have Hx1:=Lib.hid hx1;clear hx1;go_wp2_with fail
 refine (Hz.out w1 Hx1.out).mono ?_;rintro e w2 ⟨rfl,ho2,hx2⟩;rw [← Hz0.out] at ho2;have Hx2:=Lib.hid (Hx1.out.trans hx2);have HO:=Lib.hid ho2;have hg:w.heap.size≤w1.heap.size:=Hx1.out.size;clear ho2 hx2;generalize w1.heap.size=g at *;go_wp2_with fail
 go_loopw [21] (fun v21 wr=>∃ k:Nat,v21=.int .i64 k∧k≤x.length∧Hid (zfb wr g (.slice (some ⟨g,0,none⟩) x.length x.length) (zji x k))∧Hid (Ext w wr)) (fun v21 _=>x.length - (zal v21).toNat)
 case atStart=>exact ⟨0,rfl,Nat.zero_le _,HO,Hx2⟩
 case round =>
  clear HO;obtain ⟨k,rfl,hk,HO,HE⟩:=hrel;by_cases hkn:k<x.length
  ·obtain ⟨b,off,rfl,hc0⟩:=Hcx.out k _ (zau hkn);have hcw:=HE.out.cell hc0;have hn:=Hnu.out k hkn wr HE.out;have hs:=Hst.out k hkn;generalize zas x k=z at *;have hk0:(0:Int)≤(k:Int):=(by omega);have hk1:(k:Int)<(x.length:Int):=(by omega);have hll:=Hln.out k hk;have Hn:=Lib.hid hn;have Hs:=Lib.hid hs;have Hll:=Lib.hid hll;clear hn hs hll;clear hc0;go_wp2_with fail
   refine Hn.out.mono ?_;rintro e w3 ⟨rfl,hx3⟩;have ho3:=hx3.ownQ HO.out;have hp3:=zjh ho3 Hll.out hkn ((z:Int):Rat);rw [Hs.out] at hp3;obtain ⟨c0,c1,z0,z1⟩:=(zjg ho3 Hll.out).cell hkn;have hE4:=((HE.out.trans hx3).setCell (p:=⟨g,k * 2,none⟩) hg (.string (I ((z:Int):Rat).num))).setCell (p:=⟨g,k * 2+1,none⟩) hg (.string (I ((((z:Int):Rat).den:Nat):Int)));have Hp3:=Lib.hid hp3;have HE4:=Lib.hid hE4;clear hp3 hE4;clear hx3 ho3;go_wp2_with fail
   go_roundw
   case rel=>exact ⟨k+1,by go_num,hkn,Hp3,HE4⟩
   case measure=>simp [zal];omega
  ·have hkl:k=x.length:=(by omega);have hnk:¬ (k:Int)<(x.length:Int):=(by omega);have ho:=HO.out;rw [hkl,Hfu.out] at ho;have Ho9:=Lib.hid (ho.mono hg);clear ho hkl;go_wp2
   go_ret2
   exact ⟨_,rfl,Ho9.out,HE.out⟩
end
section
open Go
def zjq (ops:Array Oper):Bool:=ops.toList.all fun o=>match o.op with | .defer _=>false | _=>true
theorem zjr {ops:Array Oper}(h:zjq ops=true){j:Nat}{o:Oper}(hj:ops[j]?=some o):∀ c,o.op ≠ .defer c:=by
 intro c hc;have hm:o∈ops.toList:=by
  rw [← Array.getElem?_toList] at hj;exact List.mem_of_getElem? hj
 have:=List.all_eq_true.1 h o hm;rw [hc] at this
 cases this
section
variable {F : Fence} {n l : Nat} {P : Program} {ops : Array Oper} {Q : Exit → Act → World → Prop} {md : Region.Mode}
theorem zjs (h:zjq ops=true)(i:Nat)(K:Act→World→Prop)(a:Act)(w:World):wpOpIn (F.inRound l) n P ops Q i K a w=wpOpIn F.plain n P ops Q i K a w:=by
 unfold wpOpIn
 cases ho:ops[i]? with
 | none=>rfl
 | some o =>
  have e:o.wpIn (F.inRound l) n P a w K Q=o.wpIn F.plain n P a w K Q:=by
   unfold Oper.wpIn;rw [Oper.semAt_eq _ _ _ (zjr h ho),Oper.semAt_eq _ _ _ (zjr h ho)];rfl
  simp only [e]
  rfl
theorem zjt (h:zjq ops=true):∀ (fuel:Nat)(listed:Array Bool)(a:Act)(w:World),wpAnyIn (F.inRound l) n P md ops Q fuel listed a w=wpAnyIn F.plain n P md ops Q fuel listed a w
 | 0,_,_,_=>rfl
 | fuel+1,listed,a,w=>by
  have ih:=fun i=>(funext fun a=>funext fun w=>zjt h fuel (listed.setIfInBounds i true) a w:wpAnyIn (F.inRound l) n P md ops Q fuel (listed.setIfInBounds i true)=_);show ((Region.ready md ops listed=[]→Q .normal a w)∧∀ i∈Region.ready md ops listed,wpOpIn (F.inRound l) n P ops Q i (wpAnyIn (F.inRound l) n P md ops Q fuel (listed.setIfInBounds i true)) a w)=((Region.ready md ops listed=[]→Q .normal a w)∧∀ i∈Region.ready md ops listed,wpOpIn F.plain n P ops Q i (wpAnyIn F.plain n P md ops Q fuel (listed.setIfInBounds i true)) a w);simp only [ih,zjs h]
theorem zju {id:Nat}{a:Act}{w:World}(hm:P.follows .mixedOrders=true)(h:zjq ops=true)
  (H:wpAnyIn F.plain n P .any ops (NoPanic Q) ops.size (Array.replicate ops.size false) a w.drew):(Code.region id ops true).wpIn (F.inRound l) n P Q a w :=
 wpIn_mono (wpIn_region_any hm ((zjt h _ _ _ _).mpr H)) NoPanic.imp
end
end
end Go.Proofs.YtkdgmahilfnnmaaGreatDoor
