/- Plain: pieces of nine digits: order, difference, division piece by piece. Walks: schismaref02's trim and split. Walk: schismaref02's times. Numbers of any length as schismaref03 holds them; its trim. Walks: schismaref03's MulW at any length. (Printed by wip/r3m.py.) Walks: schismaref03's times. Walks: schismaref02's order and minus. Walks: schismaref03's above and minus at any length. (Printed by wip/r3.py.) Walks: schismaref02's join, Sign, side, signed at numbers that are not negative. -/
import Derived.Test.YtoehmpbipbbffaaGreatDoorPa24
import Derived.Test.YtoehmpbipbbffaaGreatDoorPa01
import Derived.BigQuiet
import Derived.Test.YtoehmpbipbbffaaGreatDoorPa06
import Derived.Test.YtoehmpbipbbffaaGreatDoorPa10
import Derived.Deep.QuietTactic
import Derived.Test.YtoehmpbipbbffaaGreatDoorPa13
set_option maxRecDepth 100000
set_option maxHeartbeats 2000000
namespace Go.Proofs.YtoehmpbipbbffaaGreatDoor
section
open Go.RowKit Go.Lib
theorem zcp {a:List Nat}{i:Nat}(h:i<a.length):Dec.pv (a.drop i)=nth a i+Dec.B * Dec.pv (a.drop (i+1)):=by
 rw [List.drop_eq_getElem_cons h];have e:nth a i=a[i]:=by unfold nth;rw [List.getD_eq_getElem?_getD,List.getElem?_eq_getElem h];rfl
 rw [e];rfl
theorem zmD (a:List Nat)(i:Nat)(h:i≤a.length):Dec.pv a=Dec.pv (a.take i)+Dec.B ^ i * Dec.pv (a.drop i):=by
 have:=Dec.pv_append (a.take i) (a.drop i);rw [List.take_append_drop,List.length_take,Nat.min_eq_left h] at this;exact this
theorem zcq {a:List Nat}(h:Dec.Small a)(i:Nat):Dec.Small (a.take i):=fun x hx=>h x (List.mem_of_mem_take hx)
theorem zmE {a b:List Nat}{i:Nat}(ha:Dec.Small a)(hl:a.length=b.length)(hi:i<a.length)(hd:a.drop (i+1)=b.drop (i+1))(h:nth a i<nth b i):Dec.pv a<Dec.pv b:=by
 have e1:=zmD a i (by omega);have e2:=zmD b i (by omega);have e3:=zcp hi;have e4:=zcp (a:=b) (i:=i) (by omega);rw [hd] at e3;have l1:=Dec.pv_lt (a.take i) (zcq ha i);rw [List.length_take,Nat.min_eq_left (by omega)] at l1;have h2:Dec.pv (a.drop i)+1≤Dec.pv (b.drop i):=by omega
 have h3:=Nat.mul_le_mul_left (Dec.B ^ i) h2;rw [Nat.mul_add] at h3;omega
theorem zmF {a b:Nat}(h:(Dec.P a).length<(Dec.P b).length):a<b:=by
 have h1:=Dec.P_len_lt a;have hb:b ≠ 0:=by rintro rfl;rw [Dec.P_zero] at h;exact absurd h (by simp)
 have h2:=Dec.P_len_ge hb;have h3:=Nat.pow_le_pow_right (n:=Dec.B) Dec.B_pos (show (Dec.P a).length≤(Dec.P b).length - 1 by omega);omega
def zmG (a b:Nat):Int:=if a<b then -1 else if b<a then 1 else 0
theorem zmH {a b:Nat}(h:a<b):zmG a b=-1:=by unfold zmG;rw [if_pos h]
theorem zmI {a b:Nat}(h:b<a):zmG a b=1:=by unfold zmG;rw [if_neg (by omega),if_pos h]
theorem zmJ (a:Nat):zmG a a=0:=by unfold zmG;rw [if_neg (by omega),if_neg (by omega)]
theorem zmK {a b:Nat}:zmG a b≤0 ↔ a≤b:=by unfold zmG;split <;> (try split) <;> omega
theorem zmL {x:Nat}{l:List Nat}(hx:x<Dec.B)(h:Dec.Small l):Dec.Small (x::l):=fun y hy=>by
 rcases List.mem_cons.1 hy with rfl | hy
 ·exact hx
 ·exact h y hy
theorem zmM {m:Nat}(h0:0<m)(h:m<Dec.B):Dec.P m=[m]:=by
 rw [Dec.P_pos (by omega),Nat.div_eq_of_lt h,Nat.mod_eq_of_lt h,Dec.P_zero]
theorem zmN {a:List Nat}{b i Q R:Nat}(hi:i<a.length)(ha:Dec.Small a)(hR:R<b)(hq:Dec.pv (a.drop (i+1))=Q * b+R) :
  nth a i+Dec.B * R<b * Dec.B∧Dec.pv (a.drop i)=(Q * Dec.B+(nth a i+Dec.B * R) / b) * b+(nth a i+Dec.B * R) % b:=by
 have hx:nth a i<Dec.B:=Dec.small_getD ha i;constructor
 ·have h1:=Nat.mul_le_mul_left Dec.B (show R+1≤b by omega);rw [Nat.mul_add,Nat.mul_one,Nat.mul_comm Dec.B b] at h1;omega
 ·rw [zcp hi,hq];have h2:=Nat.div_add_mod (nth a i+Dec.B * R) b;have h3:(Q * Dec.B+(nth a i+Dec.B * R) / b) * b=Dec.B * (Q * b)+b * ((nth a i+Dec.B * R) / b):=by
   rw [Nat.add_mul,Nat.mul_comm Q Dec.B,Nat.mul_assoc,Nat.mul_comm ((nth a i+Dec.B * R) / b) b]
  rw [h3,Nat.mul_add];omega
end
section
open Go.RowKit Go.Lib Go.Shelf
attribute [local go_sem] Oper.semAt_some
def nis (l:List Nat):List Value:=l.map fun (n:Nat)=>Value.int .i64 (n:Int)
theorem zmO (l:List Nat):(nis l).length=l.length:=by simp [nis]
theorem zmP {l:List Nat}{i:Nat}(h:i<l.length):(nis l)[i]?=some (.int .i64 (nth l i:Nat)):=by
 unfold nis nth;rw [List.getElem?_map,List.getElem?_eq_getElem h,List.getD_eq_getElem?_getD,List.getElem?_eq_getElem h];rfl
def zmQ (w:World)(B:Nat)(v:Value)(l:List Nat):Prop:=w.ownsRow B 3 1 v l.length (nis l)
theorem Ext.ownN {w w':World}(h:Ext w w'){B:Nat}{v:Value}{l:List Nat}(ho:zmQ w B v l):zmQ w' B v l:=h.own ho
theorem zmQ.sl {w:World}{B:Nat}{v:Value}{l:List Nat}(ho:zmQ w B v l):Sl w v (nis l):=zai ho
def zmR (w:World)(B:Nat)(l:List Nat)(e:Ending):Prop:=∃ v,e=.returned v∧zmQ w B v l
theorem zmS {l:List UInt8}{z:Nat}(h:z≤l.length):(⟨(l.take z).toArray⟩:ByteArray).size=z:=by
 show (l.take z).toArray.size=z;rw [List.size_toArray,List.length_take];omega
theorem zmT {w:World}{B g cap n:Nat}{o:List Nat}(hn:o.length=n)(h:zmQ w B (.slice (some ⟨g,0,none⟩) n cap) o)(j x:Nat) :
  zmQ (w.setCell ⟨g,j,none⟩ (.int .i64 (x:Int))) B (.slice (some ⟨g,0,none⟩) n cap) (o.set j x):=by
 subst hn;have:=(World.ownsRow.stored h j (.int .i64 (x:Int))).1;unfold zmQ;rw [List.length_set];rwa [show (nis o).set j (.int .i64 (x:Int))=nis (o.set j x) by simp [nis,List.map_set]] at this
theorem zmU {w:World}{B g cap n:Nat}{o:List Nat}(hn:o.length=n)(h:zmQ w B (.slice (some ⟨g,0,none⟩) n cap) o)(j:Nat)(hj:j<o.length) :
  w.cell? ⟨g,j,none⟩=some (.int .i64 (nth o j:Nat)):=by
 subst hn;rw [World.ownsRow.cellAt h j (by omega),zmP hj]
theorem zmV {w:World}{B g cap n:Nat}{o:List Nat}(hn:o.length=n)(h:zmQ w B (.slice (some ⟨g,0,none⟩) n cap) o):∀ j,w.frozen? ⟨g,j,none⟩=false:=by
 subst hn;exact World.ownsRow.frozenAt h
theorem zmW {w:World}{a:Option Addr}{n c:Nat}{l:List Nat}(h:Sl w (.slice a n c) (nis l))(i:Nat)(hi:i<l.length):∃ b off,a=some ⟨b,off,none⟩∧w.cell? ⟨b,off+i,none⟩=some (.int .i64 (nth l i:Nat)):=by
 obtain ⟨a2,c2,e,_,_,hc⟩:=h.parts;injection e with e1 _ _;subst e1;exact hc i _ (zmP hi)
def zmX (p q:List Nat)(w0:World)(k:Nat)(o:List Nat)(wr:World):Prop :=
 o.length=p.length+q.length+1∧Dec.Small o∧Dec.pv o=Dec.pv (p.take k) * Dec.pv q∧(∀ j,k+q.length≤j→nth o j=0) ∧
  zmQ wr w0.heap.size (.slice (some ⟨w0.heap.size,0,none⟩) (p.length+q.length+1) (p.length+q.length+1)) o∧Ext w0 wr
def zmY (p q:List Nat)(k:Nat)(w0:World)(m c:Nat)(o:List Nat)(wr:World):Prop :=
 c<Dec.B∧o.length=p.length+q.length+1∧Dec.Small o ∧
  Dec.pv o+c * Dec.B ^ (k+m)=Dec.pv (p.take k) * Dec.pv q+p.getD k 0 * Dec.B ^ k * Dec.pv (q.take m)∧(∀ j,k+q.length+1≤j→nth o j=0)∧(m≤q.length→nth o (k+q.length)=0)∧(q.length<m→c=0) ∧
  zmQ wr w0.heap.size (.slice (some ⟨w0.heap.size,0,none⟩) (p.length+q.length+1) (p.length+q.length+1)) o∧Ext w0 wr
end
section
open Go.RowKit Go.Lib
def WB (w:World)(v:Value)(z:Int):Prop:=∃ u,v=.agg #[.bool (decide (z<0)),u]∧Sl w u (nis (Dec.P z.natAbs))
theorem WB.ext {w w':World}{v:Value}{z:Int}(hx:Ext w w')(h:WB w v z):WB w' v z:=by
 obtain ⟨u,e,h⟩:=h;exact ⟨u,e,hx.sl h⟩
theorem zmZ (l:List Nat):nis l=zak (l.map fun (n:Nat)=>(n:Int)):=by unfold nis zak;rw [List.map_map];rfl
theorem WB.let_ {w:World}{v:Value}{z:Int}(h:WB w v z):∃ b a c,v=.agg #[.bool b,.slice a (Dec.P z.natAbs).length c]∧b=decide (z<0)∧Sl w (.slice a (Dec.P z.natAbs).length c) (nis (Dec.P z.natAbs)):=by
 obtain ⟨u,rfl,hs⟩:=h;obtain ⟨a,c,rfl,_,_,_⟩:=hs.parts;rw [zmO] at hs ⊢;exact ⟨_,a,c,rfl,rfl,hs⟩
theorem WB.letl {w:World}{v:Value}{z:Int}(h:WB w v z):∃ b a l c,v=.agg #[.bool b,.slice a l c]∧WB w (.agg #[.bool b,.slice a l c]) z∧Sl w (.slice a l c) (nis (Dec.P z.natAbs)):=by
 obtain ⟨b,a,c,rfl,e,hs⟩:=h.let_;exact ⟨b,a,_,c,rfl,⟨_,by rw [e],hs⟩,hs⟩
theorem WB.past {w:World}{v:Value}{z:Int}(h:WB w v z){T:TypeId}{c:Nat}{p q:Value}(hb:zdV T w c p q)(hu:∀ z,p ≠ .int .i64 z)(hv:∀ z,q ≠ .int .i64 z)(x y:Value):WB ((w.setCell ⟨c,0,none⟩ x).setCell ⟨c,1,none⟩ y) v z:=by
 obtain ⟨u,e,hs⟩:=h;rw [zmZ] at hs;exact ⟨u,e,by rw [zmZ];exact zgu hs hb hu hv x y⟩
theorem zna {o:List Nat}{k:Nat}(hs:Dec.Small o)(hk:k≤o.length)(h0:∀ j,k≤j→j<o.length→(o.map fun (n:Nat)=>(n:Int))[j]?=some 0)(h1:∀ j,k=j+1→(o.map fun (n:Nat)=>(n:Int))[j]? ≠ some 0) :
  o.take k=Dec.P (Dec.pv o)∧decide (0<k)=decide (0<Dec.pv o):=by
 have hat:∀ j,(o.map fun (n:Nat)=>(n:Int))[j]?=(o[j]?).map fun (n:Nat)=>(n:Int):=fun j=>List.getElem?_map ..;have hP:=Dec.trim_P o k hs hk (fun j hj hj2=>by
  have:=h0 j hj hj2;rw [hat,List.getElem?_eq_getElem hj2] at this;rw [List.getD_eq_getElem?_getD,List.getElem?_eq_getElem hj2];have h3:((o[j]:Nat):Int)=0:=Option.some.inj this;simp only [Option.getD_some];omega) (fun hk0=>by
  have:=h1 (k - 1) (by omega);rw [hat,List.getElem?_eq_getElem (show k - 1<o.length by omega)] at this;rw [List.getD_eq_getElem?_getD,List.getElem?_eq_getElem (show k - 1<o.length by omega)];simp only [Option.getD_some];intro e;exact this (by rw [Option.map_some,e];rfl))
 have hpos:decide (0<k)=decide (0<Dec.pv o):=by
  have h2:(Dec.P (Dec.pv o)).length=k:=by rw [← hP,List.length_take];omega
  rcases Nat.eq_zero_or_pos (Dec.pv o) with e | e
  ·rw [e,Dec.P_zero] at h2;rw [e,← h2];rfl
  ·have h3:k ≠ 0:=fun h=>by
    have h4:=Dec.pv_P (Dec.pv o);rw [List.eq_nil_of_length_eq_zero (h2.trans h)] at h4;have:Dec.pv []=0:=rfl;omega
   rw [decide_eq_true e,decide_eq_true (by omega)]
 exact ⟨hP,hpos⟩
theorem znb (u:Value)(b:Bool)(o:List Nat)(w:World)(hu:Sl w u (nis o))(hs:Dec.Small o)(hl:o.length≤1000) :
  Calls Tryz.prog 85 #[.agg #[.bool b,u]] w fun e w'=>∃ v,e=.returned v∧WB w' v (zgv b (Dec.pv o))∧Ext w w':=by
 rw [zmZ] at hu;refine (zew u b _ w hu (by rw [List.length_map];exact hl)).mono ?_;rintro e w' ⟨u',k,rfl,hk,h0,h1,hsl,hx⟩;rw [List.length_map] at hk h0;obtain ⟨hP,hpos⟩:=zna hs hk h0 h1;refine ⟨_,rfl,⟨u',?_,?_⟩,hx⟩
 ·rw [hpos];congr 2;unfold zgv
  cases b
  ·simp
  ·simp only [Bool.true_and,if_true];rcases Nat.eq_zero_or_pos (Dec.pv o) with e | e
   ·rw [e];rfl
   ·rw [decide_eq_true e,decide_eq_true (by omega)]
 ·have e:(zgv b (Dec.pv o)).natAbs=Dec.pv o:=by unfold zgv;split <;> omega
  rw [e,← hP,zmZ,List.map_take];exact hsl
theorem znc (B:Nat)(u:Value)(b:Bool)(o:List Nat)(w:World)(ho:zmQ w B u o)(hs:Dec.Small o)(hl:o.length≤1000) :
  Calls Tryz.prog 85 #[.agg #[.bool b,u]] w fun e w'=>∃ u',e=.returned (.agg #[.bool (b && decide (0<Dec.pv o)),u'])∧zmQ w' B u' (Dec.P (Dec.pv o))∧Ext w w':=by
 have hu:=ho.sl;rw [zmZ] at hu;refine (zev u b _ w hu (by rw [List.length_map];exact hl)).mono ?_;rintro e w' ⟨u',k,rfl,hk,h0,h1,hsl,hx,a,c,hua,hub⟩;rw [List.length_map] at hk h0 hua;obtain ⟨hP,hpos⟩:=zna hs hk h0 h1;refine ⟨u',by rw [hpos],?_,hx⟩;have ho1:=hx.ownN ho;have hlen:(Dec.P (Dec.pv o)).length=k:=by rw [← hP,List.length_take];omega
 rcases ho1.2 with ⟨hv,hn⟩ | ⟨g,cap,cur,hv,hb,hg,h2,h3,h4,h5⟩
 ·obtain rfl:=List.eq_nil_of_length_eq_zero hn;rw [hua] at hv;injection hv with e1 e2 e3;have hk0:k=0:=by simpa using hk
  subst hk0;rw [hub,e1,e3,show Dec.pv []=0 from rfl,Dec.P_zero];exact World.ownsRow_nil w' B _ 1
 ·rw [hua] at hv;injection hv with e1 e2 e3;rw [hub,e1,e3];refine ⟨by rw [zmO,hlen];simp,.inr ⟨g,cap,cur,by rw [hlen],hb,hg,by omega,h3,h4,?_⟩⟩;rw [hlen,← hP];have h6:cur.toList.take (o.length * 1)=nis o:=h5;unfold nis at *;rw [List.map_take,← h6,List.take_take];congr 1;omega
end
section
open Go.RowKit Go.Lib Go.Shelf
attribute [local go_sem] Oper.semAt_some
theorem znd (x y:Int):zgv (decide (x<0) != decide (y<0)) (x.natAbs * y.natAbs)=x * y:=by
 have e:((x.natAbs * y.natAbs:Nat):Int)=(x.natAbs:Int) * (y.natAbs:Int):=by simp
 unfold zgv;rw [e];rcases (by omega:x<0∨0≤x) with h1 | h1 <;> rcases (by omega:y<0∨0≤y) with h2 | h2
 ·rw [decide_eq_true h1,decide_eq_true h2,Int.ofNat_natAbs_of_nonpos (by omega),Int.ofNat_natAbs_of_nonpos (by omega)];show -x * -y=x * y;rw [Int.neg_mul_neg]
 ·rw [decide_eq_true h1,decide_eq_false (by omega),Int.ofNat_natAbs_of_nonpos (by omega),Int.natAbs_of_nonneg h2];show -(-x * y)=x * y;rw [Int.neg_mul,Int.neg_neg]
 ·rw [decide_eq_false (by omega),decide_eq_true h2,Int.natAbs_of_nonneg h1,Int.ofNat_natAbs_of_nonpos (by omega)];show -(x * -y)=x * y;rw [Int.mul_neg,Int.neg_neg]
 ·rw [decide_eq_false (by omega),decide_eq_false (by omega),Int.natAbs_of_nonneg h1,Int.natAbs_of_nonneg h2];rfl
theorem zne (va vb:Value)(x y:Int)(w:World)(ha:WB w va x)(hb:WB w vb y)(hlx:(Dec.P x.natAbs).length≤400)(hly:(Dec.P y.natAbs).length≤400) :
  Calls Tryz.prog 99 #[va,vb] w fun e w'=>∃ v,e=.returned v∧WB w' v (x * y)∧Ext w w':=by
 obtain ⟨bx,ap,cp,rfl,hbx,hp⟩:=ha.let_;obtain ⟨by_,aq,cq,rfl,hby,hq⟩:=hb.let_;have hsg:=znd x y;rw [← hbx,← hby] at hsg;have hsp:=Dec.small_P x.natAbs;have hsq:=Dec.small_P y.natAbs;have hpa:=Dec.pv_P x.natAbs;have hpb:=Dec.pv_P y.natAbs;rw [← hpa,← hpb] at hsg;clear hbx hby ha hb hpa hpb;generalize Dec.P x.natAbs=p at *;generalize Dec.P y.natAbs=q at *;obtain ⟨i0,hi,hz0,hz1,hz2⟩:=info_parts zej;obtain ⟨V,hV⟩:∃ V,V=((w.alloc (.cells #[.bool bx,.slice ap p.length cp] 97)).alloc (.cells #[.bool by_,.slice aq q.length cq] 97)).alloc (.cells #[.bool false,.slice none 0 0] 97):=⟨_,rfl⟩;have hk2:=zdX 97 97 97 w (.bool bx) (.slice ap p.length cp) (.bool by_) (.slice aq q.length cq) (.bool false) (.slice none 0 0);rw [← hV] at hk2;obtain ⟨hk,hr⟩:=hk2;have hVs:V.heap.size=w.heap.size+3:=by rw [hV];simp
 have HVs:=hid hVs;clear hVs;have Hp:=hid (hk.x.sl hp);have Hq:=hid (hk.x.sl hq);have Hsp:=hid hsp;have Hsq:=hid hsq;have Hsg:=hid hsg;have Ka:=hid hk.a;have Kb:=hid hk.b;have Kr:=hid hr;have Kx:=hid hk.x;have HV:=hid hV;clear hp hq hsp hsq hsg hk hr hV;go_enter Tryz.func99,Tryz.ntmps99
 go_wp2_with (at_make;rw [← HV.out];refine wpList_make_full _ rfl _ _ 28 rfl V.heap.size 3 i0 (.int .i64 0) 1 Tryz.underlying28 hi hz0 hz1 _ _ _ _ (p.length+q.length+1) rfl rfl ?hL ?hC ?b2 ?b3 (Nat.le_refl _) ?_)
 case hL=>simp
 case hC=>simp
 case b2=>rw [hz2];omega
 case b3=>unfold maxLen;omega
 intro w1 hown hgrow;have h0:zmX p q V 0 (List.replicate (p.length+q.length+1) 0) w1:=by
  refine ⟨List.length_replicate ..,Dec.small_zeros _,?_,?_,?_,(Ext.refl V).grown hgrow (by simp)⟩
  ·rw [Dec.pv_zeros,List.take_zero];simp [Dec.pv]
  ·intro j _;unfold nth;rw [List.getD_eq_getElem?_getD,List.getElem?_replicate];split <;> rfl
  ·unfold zmQ;rw [List.length_replicate];have e:nis (List.replicate (p.length+q.length+1) 0)=(madeCells #[Value.int .i64 0] (p.length+q.length+1)).toList:=by
    rw [toList_madeCells_one];simp [nis]
   rw [e];exact hown
 have H0:=hid h0;clear h0 hown hgrow;go_wp2_with fail
 go_loopw [6,7,8] (fun v6 _ _ wr=>∃ (k:Nat)(o:List Nat),v6=.int .i64 k∧k≤p.length∧Hid (zmX p q V k o wr)) (fun v6 _ _ _=>p.length - (zag v6).toNat)
 case atStart=>exact ⟨0,_,rfl,Nat.zero_le _,H0⟩
 case round =>
  obtain ⟨k,o,rfl,hk,HO⟩:=hrel;have ka:=Ka.out.ext HO.out.2.2.2.2.2;have a0:=ka.c0;have a1:=ka.c1;have kb:=Kb.out.ext HO.out.2.2.2.2.2;have b0:=kb.c0;have b1:=kb.c1;clear ka kb;by_cases hlt:k<p.length
  ·have hstart:zmY p q k V 0 0 o wr:=⟨Dec.B_pos,HO.out.1,HO.out.2.1,by rw [HO.out.2.2.1];simp [Dec.pv],fun j hj=>HO.out.2.2.2.1 j (by omega),fun _=>HO.out.2.2.2.1 _ (Nat.le_refl _),fun h=>absurd h (by omega),HO.out.2.2.2.2.1,HO.out.2.2.2.2.2⟩;have Hst:=hid hstart;clear hstart;go_wp2_with fail
   go_loopw [7,8] (fun v7 v8 wr=>∃ (m c:Nat)(o:List Nat),v8=.int .i64 m∧m≤q.length+1∧v7=.int .i64 c∧Hid (zmY p q k V m c o wr)) (fun _ v8 _=>q.length+1 - (zag v8).toNat)
   case atStart=>exact ⟨0,0,o,rfl,Nat.zero_le _,rfl,Hst⟩
   case round =>
    obtain ⟨m,c,o',rfl,hm,rfl,HI⟩:=hrel;clear a0 a1 b0 b1;have ka:=Ka.out.ext HI.out.2.2.2.2.2.2.2.2;have a1:=ka.c1;have kb:=Kb.out.ext HI.out.2.2.2.2.2.2.2.2;have b1:=kb.c1;clear ka kb;have hcB:=HI.out.1;unfold Dec.B at hcB;have hol:=HI.out.2.1;have hown:=HI.out.2.2.2.2.2.2.2.1;have hX:=HI.out.2.2.2.2.2.2.2.2;have hfr:∀ j,wr.frozen? ⟨V.heap.size,j,none⟩=false:=zmV hol hown;rcases Nat.lt_or_ge m q.length with hmq | hmq
    ·obtain ⟨bp,op,rfl,hcp⟩:=zmW (hX.sl Hp.out) k hlt;obtain ⟨bq,oq,rfl,hcq⟩:=zmW (hX.sl Hq.out) m hmq;have hco:=zmU hol hown (k+m) (by omega);have hf:=hfr (k+m);have hxa:nth p k<Dec.B:=Dec.small_getD Hsp.out k;have hxb:nth q m<Dec.B:=Dec.small_getD Hsq.out m;have hxo:nth o' (k+m)<Dec.B:=Dec.small_getD HI.out.2.2.1 (k+m);have hprod:nth p k * nth q m≤999999998000000001:=Dec.prod_lt hxa hxb;have hstep:=Dec.times_step o' q k m (nth p k) c (nth q m) (c+(nth o' (k+m)+nth p k * nth q m)) (by omega) hmq rfl rfl _ HI.out.2.2.2.1;have hset:=fun nq x=>zmT hol (((Ext.refl wr).drewN nq).ownN hown) (k+m) x;unfold Dec.B at hxa hxb hxo;obtain ⟨A,hA⟩:∃ A,A=nth p k:=⟨_,rfl⟩;obtain ⟨Bq,hBq⟩:∃ Bq,Bq=nth q m:=⟨_,rfl⟩;obtain ⟨O,hO⟩:∃ O,O=nth o' (k+m):=⟨_,rfl⟩;rw [← hA] at hcp hxa hprod hstep;rw [← hBq] at hcq hxb hprod hstep;rw [← hO] at hco hxo hstep;have Hset:=hid hset;have Hstep:=hid hstep;have HA:=hid hA;have HX:=hid hX;have Hol:=hid hol;clear hset hstep hA hBq hO hfr hX hown hol;have hprod':(A:Int) * (Bq:Int)≤999999998000000001:=(by rw [← Int.natCast_mul];omega);have hprod0:0≤(A:Int) * (Bq:Int):=(by rw [← Int.natCast_mul];omega);have hm0:(m:Int)<(q.length:Int):=(by omega);have hm1:(0:Int)≤(m:Int):=(by omega);have hk0:(0:Int)≤(k:Int):=(by omega);have hk1:(k:Int)<(p.length:Int):=(by omega);go_wp2_with fail
     go_quiet (fail)
     go_wp2_with fail
     go_roundw
     case rel =>
      have e1:((c:Int)+O+A * Bq) / 1000000000=(((c+(O+A * Bq)) / Dec.B:Nat):Int):=(by unfold Dec.B;rw [← Int.natCast_mul];omega);have e2:((c:Int)+O+A * Bq) % 1000000000=(((c+(O+A * Bq)) % Dec.B:Nat):Int):=(by unfold Dec.B;rw [← Int.natCast_mul];omega);refine ⟨m+1,(c+(O+A * Bq)) / Dec.B,o'.set (k+m) ((c+(O+A * Bq)) % Dec.B),by go_num,by omega,by rw [e1],hid ⟨?_,by rw [List.length_set];exact Hol.out,Dec.small_set HI.out.2.2.1 (Nat.mod_lt _ Dec.B_pos),?_,?_,?_,fun h=>absurd h (by omega),?_,?_⟩⟩
      ·unfold Dec.B;omega
      ·have:=Hstep.out;rw [HA.out] at this ⊢;exact this
      ·intro j hj;have:=HI.out.2.2.2.2.1 j hj;unfold nth at *;rw [Dec.nthD_set _ _ _ _ (by have:=Hol.out;omega),if_neg (by omega)];exact this
      ·intro _;have:=HI.out.2.2.2.2.2.1 (by omega);unfold nth at *;rw [Dec.nthD_set _ _ _ _ (by have:=Hol.out;omega),if_neg (by omega)];exact this
      ·rw [e2];exact Hset.out _ _
      ·exact (HX.out.drewN _).setCell (Nat.le_refl _) _
     case measure=>simp [zag];omega
    ·rcases Nat.eq_zero_or_pos c with hc0 | hc0
     ·subst hc0;have hend:zmX p q V (k+1) o' wr:=by
       refine ⟨hol,HI.out.2.2.1,?_,?_,hown,hX⟩
       ·have h:=HI.out.2.2.2.1;rw [Nat.zero_mul,Nat.add_zero,List.take_of_length_le hmq] at h;rw [h,Dec.pv_take_succ p k hlt,Nat.add_mul]
       ·intro j hj;exact HI.out.2.2.2.2.1 j (by omega)
      have Hend:=hid hend;have hm0:¬ (m:Int)<(q.length:Int):=(by omega);clear hend hol hown hX hfr;go_wp2_with fail
      go_roundw
      case rel=>exact ⟨k+1,o',by go_num,hlt,Hend⟩
      case measure=>simp [zag];omega
     ·have hmq2:m=q.length:=by
       rcases Nat.lt_or_ge q.length m with g | g
       ·have:=HI.out.2.2.2.2.2.2.1 g;omega
       ·omega
      subst hmq2;have hz:=HI.out.2.2.2.2.2.1 (Nat.le_refl _);have hco:=zmU hol hown (k+q.length) (by omega);rw [hz] at hco;have hf:=hfr (k+q.length);have hset:=zmT hol hown (k+q.length) c;have hpv:=Dec.pv_set o' (k+q.length) c (by omega);have hz':o'.getD (k+q.length) 0=0:=hz;rw [hz',Nat.zero_mul,Nat.add_zero] at hpv;have Hset:=hid hset;have Hpv:=hid hpv;have HX:=hid hX;have Hol:=hid hol;clear hset hpv hX hol hown hfr hz hz';have hm0:¬ (q.length:Int)<(q.length:Int):=(by omega);have hc1:(0:Int)<(c:Int):=(by omega);have hk0:(0:Int)≤(k:Int):=(by omega);have hcm:(c:Int) % 1000000000=(c:Int):=(by omega);have hcd:(c:Int) / 1000000000=0:=(by omega);go_wp2_with fail
      go_roundw
      case rel =>
       refine ⟨q.length+1,0,o'.set (k+q.length) c,by go_num,Nat.le_refl _,by first | rfl | (rw [hcd];rfl),hid ⟨Dec.B_pos,by rw [List.length_set];exact Hol.out,Dec.small_set HI.out.2.2.1 HI.out.1,?_,?_,fun h=>absurd h (by omega),fun _=>rfl,?_,?_⟩⟩
       ·have h:=HI.out.2.2.2.1;have e1:q.take (q.length+1)=q:=List.take_of_length_le (Nat.le_succ _);have e2:q.take q.length=q:=List.take_length;rw [e2] at h;rw [Nat.zero_mul,Nat.add_zero,Hpv.out,h,e1]
       ·intro j hj;have:=HI.out.2.2.2.2.1 j hj;unfold nth at *;rw [Dec.nthD_set _ _ _ _ (by have:=Hol.out;omega),if_neg (by omega)];exact this
       ·first | exact Hset.out | (rw [hcm];exact Hset.out)
       ·exact HX.out.setCell (Nat.le_refl _) _
      case measure=>simp [zag]
  ·obtain rfl:k=p.length:=by omega
   have hval:Dec.pv o=Dec.pv p * Dec.pv q:=(by rw [HO.out.2.2.1,List.take_length]);have hsl:=HO.out.2.2.2.2.1.sl;have htr:=znb (.slice (some ⟨V.heap.size,0,none⟩) (p.length+q.length+1) (p.length+q.length+1)) (bx != by_) o wr hsl HO.out.2.1 (by rw [HO.out.1];omega);rw [hval,Hsg.out] at htr;have HX:=hid HO.out.2.2.2.2.2;have Htr:=hid htr;clear htr hval hsl;go_wp2_with fail
   refine Htr.out.mono ?_;rintro e W9 ⟨v9,rfl,hw9,hx9⟩;obtain ⟨b9,a9,c9,rfl,hb9,hs9⟩:=hw9.let_;have hr9:=Kr.out.ext (HX.out.trans hx9);have k0:=hr9.c0;have k1:=hr9.c1;have z0:=hr9.fz 0;have z1:=hr9.fz 1;have hb5:=hr9.put (.bool b9) (.slice a9 (Dec.P (x * y).natAbs).length c9);have hs5:=hw9.past hr9 (by simp) (by simp) (.bool b9) (.slice a9 (Dec.P (x * y).natAbs).length c9);have hx5:Ext w ((W9.setCell ⟨w.heap.size+1+1,0,none⟩ (.bool b9)).setCell ⟨w.heap.size+1+1,1,none⟩ (.slice a9 (Dec.P (x * y).natAbs).length c9)):=((Kx.out.trans (HX.out.trans hx9)).setCell (by dsimp only;omega) _).setCell (by dsimp only;omega) _;have Hb5:=hid hb5;have Hx5:=hid hx5;have Hs5:=hid hs5;clear hb5 hx5 hs5 hr9 hx9 hw9 hs9 hb9;go_wp2_with fail
   have hd0:=Hb5.out.c0;have hd1:=Hb5.out.c1;exact bodyPost_ret (v:=.agg #[.bool b9,.slice a9 (Dec.P (x * y).natAbs).length c9]) (by simp [results,Tryz.results99,go_sem,hd0,hd1]) rfl ⟨_,rfl,Hs5.out,Hx5.out⟩
end
section
open Go.RowKit Go.Lib
attribute [local go_sem] Oper.semAt_some
theorem znf {w:World}{a:Option Addr}{l c n:Nat}(h:Sl w (.slice a l c) (nis (Dec.P n))):WB w (.agg #[.bool false,.slice a l c]) (n:Int):=⟨_,by rw [decide_eq_false (by omega)],by rw [Int.natAbs_natCast];exact h⟩
theorem zng (vp:Value)(b d:Nat)(w:World)(hp:Sl w vp (nis (Dec.P b)))(hlb:(Dec.P b).length≤400)(hd:d<1000000000) :
  Calls Tryz.prog 137 #[vp,.int .i64 d] w fun e w'=>∃ v,e=.returned v∧Sl w' v (nis (Dec.P (b * d)))∧Ext w w':=by
 have hone:∀ W vx,Sl W vx (nis [d])→Calls Tryz.prog 85 #[.agg #[.bool false,vx]] W fun e w'=>∃ v,e=.returned v∧WB w' v (d:Int)∧Ext W w':=fun W vx h=>by
  have:=znb vx false [d] W h (by intro y hy;rw [List.mem_singleton.1 hy];exact hd) (by simp);rwa [show zgv false (Dec.pv [d])=(d:Int) by unfold zgv;simp [Dec.pv]] at this
 have hld:(Dec.P ((d:Int).natAbs)).length≤400:=by
  rw [Int.natAbs_natCast];rcases Nat.eq_zero_or_pos d with h | h
  ·rw [h,Dec.P_zero];simp
  ·rw [zmM h hd];simp
 have hmu:=fun W va vb (ha:WB W va (b:Int))(hb:WB W vb (d:Int))=>zne va vb (b:Int) (d:Int) W ha hb (by rw [Int.natAbs_natCast];exact hlb) hld;obtain ⟨ap,cp,rfl,_,_,_⟩:=hp.parts;rw [zmO] at *;generalize (Dec.P b).length=lb at *;have Hp:=hid hp;have Hone:=hid hone;have Hmu:=hid hmu;clear hp hone hmu hld;go_enter Tryz.func137,Tryz.ntmps137
 go_wp2_with fail
 have hE0:Ext w (w.alloc (.cells #[.int .i64 (d:Int)] 3)):=(Ext.refl w).alloc _;have hs0:Sl (w.alloc (.cells #[.int .i64 (d:Int)] 3)) (.slice (some ⟨w.heap.size,0,none⟩) 1 1) (nis [d]):=zhR (us:=[.int .i64 (d:Int)]) (World.alloc_heap_new w _) (by unfold maxLen;simp);refine (Hone.out _ _ hs0).mono ?_;rintro e w1 ⟨v1,rfl,hv1,hx1⟩;have hmu1:=Hmu.out w1 _ _ (znf ((hE0.trans hx1).sl Hp.out)) hv1;obtain ⟨b1,a1,l1,c1,rfl,_,_⟩:=hv1.letl;have Hmu1:=hid hmu1;have Hx1:=hid (hE0.trans hx1);clear hmu1 hv1 hx1 hE0 hs0;go_wp2_with fail
 refine Hmu1.out.mono ?_;rintro e w2 ⟨v2,rfl,hv2,hx2⟩;obtain ⟨b2,a2,l2,c2,rfl,_,hs2⟩:=hv2.letl;rw [show ((b:Int) * (d:Int)).natAbs=b * d by rw [← Int.natCast_mul,Int.natAbs_natCast]] at hs2;have Hs2:=hid hs2;have Hx2:=hid (Hx1.out.trans hx2);clear hs2 hv2 hx2;have hfield:∀ (u v:Value) W,(Instr.field 97 (.agg #[u,v]) 1).run Tryz.prog W=.ok v W:=fun u v W=>rfl;go_wp2
 go_ret
 exact ⟨_,rfl,Hs2.out,Hx2.out⟩
end
section
open Go.RowKit Go.Lib Go.Shelf
attribute [local go_sem] Oper.semAt_some
theorem znh (q:List Nat)(k:Nat):Dec.pv (q.take (k+1))=Dec.pv (q.take k)+q.getD k 0 * Dec.B ^ k:=by
 rcases Nat.lt_or_ge k q.length with h | h
 ·exact Dec.pv_take_succ q k h
 ·rw [List.take_of_length_le (by omega),List.take_of_length_le h,List.getD_eq_getElem?_getD,List.getElem?_eq_none h];simp
theorem zni {o p q:List Nat}{k bo bo' x:Nat}(ho:o.length=k)(hx:x+bo+q.getD k 0=p.getD k 0+Dec.B * bo')(h:Dec.pv o+Dec.pv (q.take k)=Dec.pv (p.take k)+bo * Dec.B ^ k) :
  Dec.pv (o++[x])+Dec.pv (q.take (k+1))=Dec.pv (p.take (k+1))+bo' * Dec.B ^ (k+1):=by
 rw [Dec.pv_append,ho,znh,znh,Nat.pow_succ];have e:=congrArg (· * Dec.B ^ k) hx;simp only [Nat.add_mul] at e;have e1:Dec.pv [x]=x:=by simp [Dec.pv]
 have e2:bo' * (Dec.B ^ k * Dec.B)=Dec.B * bo' * Dec.B ^ k:=by rw [Nat.mul_comm (Dec.B ^ k) Dec.B,← Nat.mul_assoc,Nat.mul_comm bo' Dec.B]
 have e3:Dec.B ^ k * x=x * Dec.B ^ k:=Nat.mul_comm ..;rw [e1,e2,e3];omega
structure znj (p q:List Nat)(w0:World)(k bo:Nat)(o:List Nat)(v:Value)(wr:World):Prop where
 n:o.length=k
 sm:Dec.Small o
 b1:bo≤1
 pv:Dec.pv o+Dec.pv (q.take k)=Dec.pv (p.take k)+bo * Dec.B ^ k
 own:zmQ wr w0.heap.size v o
 x:Ext w0 wr
theorem znj.next {p q:List Nat}{w0 wr V:World}{k bo bo' x:Nat}{o:List Nat}{v v7:Value}(h:znj p q w0 k bo o v wr)(hb:bo'≤1)(hxB:x<Dec.B)(hx:x+bo+q.getD k 0=p.getD k 0+Dec.B * bo')(hX:Ext w0 V)
  (hown:V.ownsRow w0.heap.size 3 1 v7 (k+1) (nis o++[Value.int .i64 (x:Int)])):znj p q w0 (k+1) bo' (o++[x]) v7 V :=
 ⟨by rw [List.length_append,List.length_singleton,h.n],Dec.small_snoc h.sm hxB,hb,zni h.n hx h.pv,by
  unfold zmQ nis;rw [List.length_append,List.length_singleton,h.n,List.map_append];exact hown,hX⟩
theorem znk (vp vq:Value)(a b:Nat)(w:World)(hp:Sl w vp (nis (Dec.P a)))(hq:Sl w vq (nis (Dec.P b)))(hlq:(Dec.P b).length≤1000) :
  Calls Tryz.prog 136 #[vp,vq] w fun e w'=>e=.returned (.int .i64 (zmG a b))∧Ext w w':=by
 obtain ⟨ap,cp,rfl,_,_,_⟩:=hp.parts;obtain ⟨aq,cq,rfl,_,_,_⟩:=hq.parts;rw [zmO] at *;rw [zmO] at *;by_cases hl:(Dec.P a).length=(Dec.P b).length
 ·have hsa:=Dec.small_P a;have hsb:=Dec.small_P b;have hpa:=Dec.pv_P a;have hpb:=Dec.pv_P b;obtain ⟨p,hpe⟩:∃ p,p=Dec.P a:=⟨_,rfl⟩;obtain ⟨q,hqe⟩:∃ q,q=Dec.P b:=⟨_,rfl⟩;rw [← hpe] at hp hl hsa hpa ⊢;rw [← hqe] at hq hlq hl hsb hpb ⊢;obtain ⟨n,hn⟩:∃ n,n=p.length:=⟨_,rfl⟩;rw [← hl] at hq hlq ⊢;rw [← hn] at hp hq hlq hl ⊢;have Hp:=hid hp;have Hq:=hid hq;have Hl:=hid hl;have Hsa:=hid hsa;have Hsb:=hid hsb;have Hpa:=hid hpa;have Hpb:=hid hpb;have Hn:=hid hn;clear hp hq hl hsa hsb hpa hpb hpe hqe hn;go_enter Tryz.func136,Tryz.ntmps136
  go_wp2_with fail
  go_loopw [5] (fun v5 wr=>∃ k:Nat,v5=.int .i64 ((k:Int) - 1)∧k≤n∧Hid (p.drop k=q.drop k)∧Ext w wr) (fun v5 _=>(zag v5+1).toNat)
  case atStart=>exact ⟨n,by go_num,Nat.le_refl _,hid (by rw [List.drop_of_length_le (by have:=Hn.out;omega),List.drop_of_length_le (by have:=Hl.out;omega)]),Ext.refl _⟩
  case round =>
   obtain ⟨k,rfl,hk,HD,hE⟩:=hrel;have HE:=hid hE;rcases Nat.eq_zero_or_pos k with hk0 | hk0
   ·subst hk0;have he:zmG a b=0:=by
     have h:p=q:=(by have:=HD.out;simpa using this);rw [← Hpa.out,← Hpb.out,h,zmJ]
    have He:=hid he;clear he hE;go_wp2_with fail
    go_ret
    exact ⟨by rw [He.out] <;> rfl,HE.out⟩
   ·obtain ⟨m,rfl⟩:∃ m,k=m+1:=⟨k - 1,by omega⟩;have hkm:((m+1:Nat):Int) - 1=(m:Int):=(by omega);rw [hkm];obtain ⟨bp,op,rfl,hcp⟩:=zmW (hE.sl Hp.out) m (by have:=Hn.out;omega);obtain ⟨bq,oq,rfl,hcq⟩:=zmW (hE.sl Hq.out) m (by have:=Hl.out;omega);have hcmp:(nth p m<nth q m→zmG a b=-1)∧(nth q m<nth p m→zmG a b=1)∧(nth p m=nth q m→p.drop m=q.drop m):=by
     have hd:=HD.out;have hln:p.length=q.length:=(by rw [← Hn.out,Hl.out]);refine ⟨fun h=>?_,fun h=>?_,fun h=>?_⟩
     ·have:=zmE Hsa.out hln (by have:=Hn.out;omega) hd h;rw [Hpa.out,Hpb.out] at this;exact zmH this
     ·have:=zmE Hsb.out hln.symm (by have:=Hl.out;omega) hd.symm h;rw [Hpa.out,Hpb.out] at this;exact zmI this
     ·have h1:m<p.length:=(by have:=Hn.out;omega);have h2:m<q.length:=(by have:=Hl.out;omega);rw [List.drop_eq_getElem_cons h1,List.drop_eq_getElem_cons h2,hd];congr 1;unfold nth at h;rw [List.getD_eq_getElem?_getD,List.getD_eq_getElem?_getD,List.getElem?_eq_getElem h1,List.getElem?_eq_getElem h2] at h;exact h
    generalize nth p m=X at *;generalize nth q m=Y at *;have Hcmp:=hid hcmp;clear hcmp;have hm0:(0:Int)≤(m:Int):=(by omega);have hm1:(m:Int)<(n:Int):=(by omega);clear hE hkm;rcases Nat.lt_trichotomy X Y with g | g | g
    ·have He:=hid (Hcmp.out.1 g);have g1:(X:Int)<(Y:Int):=(by omega);go_wp2_with fail
     go_quiet (fail)
     go_wp2_with fail
     go_ret
     exact ⟨by rw [He.out] <;> rfl,by first | exact HE.out.drewN _ | exact (HE.out.drewN _).drewN _⟩
    ·subst g;have Hd:=hid (Hcmp.out.2.2 rfl);go_wp2_with fail
     go_quiet (fail)
     go_wp2_with fail
     go_quiet (fail)
     go_wp2_with fail
     go_roundw
     case rel=>exact ⟨m,by go_num,by omega,Hd,HE.out.drewN _⟩
     case measure=>simp [zag]
    ·have He:=hid (Hcmp.out.2.1 g);have g1:(Y:Int)<(X:Int):=(by omega);have g2:¬ (X:Int)<(Y:Int):=(by omega);go_wp2_with fail
     go_quiet (fail)
     go_wp2_with fail
     go_quiet (fail)
     go_wp2_with fail
     go_ret
     exact ⟨by rw [He.out] <;> rfl,by first | exact HE.out.drewN _ | exact (HE.out.drewN _).drewN _⟩
 ·have hlt:(Dec.P a).length<(Dec.P b).length∨(Dec.P b).length<(Dec.P a).length:=by omega
  have he:((Dec.P a).length<(Dec.P b).length→zmG a b=-1)∧((Dec.P b).length<(Dec.P a).length→zmG a b=1):=⟨fun h=>zmH (zmF h),fun h=>zmI (zmF h)⟩;generalize (Dec.P a).length=x at *;generalize (Dec.P b).length=y at *;have He:=hid he;clear he hp hq;have hne:¬ (x:Int)=(y:Int):=by omega
  go_enter Tryz.func136,Tryz.ntmps136
  rcases hlt with g | g
  ·have g1:(x:Int)<(y:Int):=(by omega);have He1:=hid (He.out.1 g);go_wp2_with fail
   go_ret
   exact ⟨by rw [He1.out] <;> rfl,Ext.refl _⟩
  ·have g1:¬ (x:Int)<(y:Int):=(by omega);have He1:=hid (He.out.2 g);go_wp2_with fail
   go_ret
   exact ⟨by rw [He1.out] <;> rfl,Ext.refl _⟩
theorem znl (vp vq:Value)(a b:Nat)(w:World)(hp:Sl w vp (nis (Dec.P a)))(hq:Sl w vq (nis (Dec.P b)))(hlp:(Dec.P a).length≤1000)(hba:b≤a) :
  Calls Tryz.prog 138 #[vp,vq] w fun e w'=>(∃ o,Dec.Small o∧Dec.pv o=a - b∧o.length≤1000∧zmR w' w.heap.size o e)∧Ext w w':=by
 have hlq:(Dec.P b).length≤(Dec.P a).length:=by
  rcases Nat.lt_or_ge (Dec.P a).length (Dec.P b).length with g | g
  ·have:=zmF g;omega
  ·exact g
 have hsp:=Dec.small_P a;have hsq:=Dec.small_P b;have hpa:=Dec.pv_P a;have hpb:=Dec.pv_P b;generalize Dec.P a=p at *;generalize Dec.P b=q at *;obtain ⟨ap,cp,rfl,_,_,_⟩:=hp.parts;obtain ⟨aq,cq,rfl,_,_,_⟩:=hq.parts;rw [zmO] at *;rw [zmO] at *;obtain ⟨i0,hj,hz0,hz1,hz2⟩:=info_parts zej;have Hp:=hid hp;have Hq:=hid hq;have Hsp:=hid hsp;have Hsq:=hid hsq;have Hpa:=hid hpa;have Hpb:=hid hpb;clear hp hq hsp hsq hpa hpb;go_enter Tryz.func138,Tryz.ntmps138
 go_wp2_with fail
 go_loopw [5,6,7,8] (fun v5 v6 v7 _ wr=>∃ (k bo:Nat)(o:List Nat),v7=.int .i64 k∧k≤p.length∧v6=.int .i64 bo∧Hid (znj p q w k bo o v5 wr)) (fun _ _ v7 _ _=>p.length - (zag v7).toNat)
 case atStart=>exact ⟨0,0,[],rfl,Nat.zero_le _,rfl,hid ⟨rfl,by simp [Dec.Small],Nat.zero_le _,by simp [Dec.pv],⟨rfl,.inl ⟨rfl,rfl⟩⟩,Ext.refl _⟩⟩
 case round =>
  obtain ⟨k,bo,o,rfl,hk,rfl,HR⟩:=hrel;have hbo:=HR.out.b1;have hX:=HR.out.x;have hwr:=hX.size;have hown:=HR.out.own;unfold zmQ at hown;rw [HR.out.n] at hown;obtain ⟨al,cl,rfl⟩:=zel hown;by_cases hkp:k<p.length
  ·obtain ⟨bp,op,rfl,hcp⟩:=zmW (hX.sl Hp.out) k hkp;have hxa:nth p k<Dec.B:=Dec.small_getD Hsp.out k;have hxb:nth q k<Dec.B:=Dec.small_getD Hsq.out k;unfold Dec.B at hxa hxb;have hnx:=fun (bo' x:Nat)(v7:Value)(V:World)(hb:bo'≤1)(hxB:x<1000000000)(hx:x+bo+nth q k=nth p k+1000000000 * bo')(hE:Ext w V)(ho:V.ownsRow w.heap.size 3 1 v7 (k+1) (nis o++[Value.int .i64 (x:Int)]))=>HR.out.next hb hxB hx hE ho;have hq0:q.length≤k→nth q k=0:=fun h=>by
    unfold nth;rw [List.getD_eq_getElem?_getD,List.getElem?_eq_none h];rfl
   have hk0:(0:Int)≤(k:Int):=(by omega);have hk1:(k:Int)<(p.length:Int):=(by omega);have hm3:k+1≤maxLen:=(by unfold maxLen;omega);have hm4:(k+1) * 8≤140737488355328:=(by omega);rcases Nat.lt_or_ge k q.length with hkq | hkq
   ·obtain ⟨bq,oq,rfl,hcq⟩:=zmW (hX.sl Hq.out) k hkq;have hq1:(k:Int)<(q.length:Int):=(by omega);generalize nth p k=X at *;generalize nth q k=Y at *;have Hown:=hid hown;have HX:=hid hX;have Hnx:=hid hnx;clear hown hX hnx hq0;rcases (by omega:X<bo+Y∨bo+Y≤X) with g | g
    ·have hneg:(X:Int) - (bo:Int) - (Y:Int)<0:=(by omega);obtain ⟨x,hxe⟩:∃ x:Nat,x=(X+1000000000 - bo - Y):=⟨_,rfl⟩;have hxv:(X:Int) - (bo:Int) - (Y:Int)+1000000000=(x:Int):=(by omega);have Hxe:=hid hxe;clear hxe;go_wp2_with (at_builtin;refine wpList_append_own _ rfl _ _ 28 rfl w.heap.size 3 i0 (.int .i64 0) 1 8 Tryz.underlying28 hj hz0 hz1 hz2 rfl (by decide) _ _ _ rfl (Hown.out.alloc _) ⟨wr.heap.size,0,none⟩ 1 1 [.int .i64 (x:Int)] rfl rfl (cell_one_new _ _ _) (by simp [Value.oneCell']) hm3 hm4 (by rw [World.size_alloc];omega) ?_;intro v7 V7 hown7 hgrow7 _)
     have Hx7:=hid (show Ext w V7 from (HX.out.alloc _).grown hgrow7 fun k hk=>(World.ownsRow.lt Hown.out k hk).1);have H7:=hid (Hnx.out 1 x v7 V7 (by omega) (by have:=Hxe.out;omega) (by have:=Hxe.out;omega) Hx7.out hown7);clear hown7 hgrow7;go_wp2_with fail
     go_roundw
     case rel=>exact ⟨k+1,1,_,by go_num,hkp,rfl,H7⟩
     case measure=>simp [zag];omega
    ·have hneg:¬ (X:Int) - (bo:Int) - (Y:Int)<0:=(by omega);obtain ⟨x,hxe⟩:∃ x:Nat,x=(X - bo - Y):=⟨_,rfl⟩;have hxv:(X:Int) - (bo:Int) - (Y:Int)=(x:Int):=(by omega);have Hxe:=hid hxe;clear hxe;go_wp2_with (at_builtin;refine wpList_append_own _ rfl _ _ 28 rfl w.heap.size 3 i0 (.int .i64 0) 1 8 Tryz.underlying28 hj hz0 hz1 hz2 rfl (by decide) _ _ _ rfl (Hown.out.alloc _) ⟨wr.heap.size,0,none⟩ 1 1 [.int .i64 (x:Int)] rfl rfl (cell_one_new _ _ _) (by simp [Value.oneCell']) hm3 hm4 (by rw [World.size_alloc];omega) ?_;intro v7 V7 hown7 hgrow7 _)
     have Hx7:=hid (show Ext w V7 from (HX.out.alloc _).grown hgrow7 fun k hk=>(World.ownsRow.lt Hown.out k hk).1);have H7:=hid (Hnx.out 0 x v7 V7 (by omega) (by have:=Hxe.out;omega) (by have:=Hxe.out;omega) Hx7.out hown7);clear hown7 hgrow7;go_wp2_with fail
     go_roundw
     case rel=>exact ⟨k+1,0,_,by go_num,hkp,rfl,H7⟩
     case measure=>simp [zag];omega
   ·have hy0:=hq0 hkq;rw [hy0] at hnx;have hq1:¬ (k:Int)<(q.length:Int):=(by omega);generalize nth p k=X at *;have Hown:=hid hown;have HX:=hid hX;have Hnx:=hid hnx;clear hown hX hnx hq0 hy0 hxb;rcases (by omega:X<bo∨bo≤X) with g | g
    ·have hneg:(X:Int) - (bo:Int)<0:=(by omega);obtain ⟨x,hxe⟩:∃ x:Nat,x=(X+1000000000 - bo - 0):=⟨_,rfl⟩;have hxv:(X:Int) - (bo:Int)+1000000000=(x:Int):=(by omega);have Hxe:=hid hxe;clear hxe;go_wp2_with (at_builtin;refine wpList_append_own _ rfl _ _ 28 rfl w.heap.size 3 i0 (.int .i64 0) 1 8 Tryz.underlying28 hj hz0 hz1 hz2 rfl (by decide) _ _ _ rfl (Hown.out.alloc _) ⟨wr.heap.size,0,none⟩ 1 1 [.int .i64 (x:Int)] rfl rfl (cell_one_new _ _ _) (by simp [Value.oneCell']) hm3 hm4 (by rw [World.size_alloc];omega) ?_;intro v7 V7 hown7 hgrow7 _)
     have Hx7:=hid (show Ext w V7 from (HX.out.alloc _).grown hgrow7 fun k hk=>(World.ownsRow.lt Hown.out k hk).1);have H7:=hid (Hnx.out 1 x v7 V7 (by omega) (by have:=Hxe.out;omega) (by have:=Hxe.out;omega) Hx7.out hown7);clear hown7 hgrow7;go_wp2_with fail
     go_roundw
     case rel=>exact ⟨k+1,1,_,by go_num,hkp,rfl,H7⟩
     case measure=>simp [zag];omega
    ·have hneg:¬ (X:Int) - (bo:Int)<0:=(by omega);obtain ⟨x,hxe⟩:∃ x:Nat,x=(X - bo - 0):=⟨_,rfl⟩;have hxv:(X:Int) - (bo:Int)=(x:Int):=(by omega);have Hxe:=hid hxe;clear hxe;go_wp2_with (at_builtin;refine wpList_append_own _ rfl _ _ 28 rfl w.heap.size 3 i0 (.int .i64 0) 1 8 Tryz.underlying28 hj hz0 hz1 hz2 rfl (by decide) _ _ _ rfl (Hown.out.alloc _) ⟨wr.heap.size,0,none⟩ 1 1 [.int .i64 (x:Int)] rfl rfl (cell_one_new _ _ _) (by simp [Value.oneCell']) hm3 hm4 (by rw [World.size_alloc];omega) ?_;intro v7 V7 hown7 hgrow7 _)
     have Hx7:=hid (show Ext w V7 from (HX.out.alloc _).grown hgrow7 fun k hk=>(World.ownsRow.lt Hown.out k hk).1);have H7:=hid (Hnx.out 0 x v7 V7 (by omega) (by have:=Hxe.out;omega) (by have:=Hxe.out;omega) Hx7.out hown7);clear hown7 hgrow7;go_wp2_with fail
     go_roundw
     case rel=>exact ⟨k+1,0,_,by go_num,hkp,rfl,H7⟩
     case measure=>simp [zag];omega
  ·obtain rfl:k=p.length:=by omega
   have hend:Dec.pv o=a - b:=by
    have h:=HR.out.pv;rw [List.take_length,List.take_of_length_le hlq,Hpa.out,Hpb.out] at h;have hlt:=Dec.pv_lt o HR.out.sm;rw [HR.out.n] at hlt;rcases (by omega:bo=0∨bo=1) with e | e
    ·rw [e,Nat.zero_mul] at h;omega
    ·rw [e,Nat.one_mul] at h;omega
   have hfin:Dec.Small o∧Dec.pv o=a - b∧o.length≤1000:=⟨HR.out.sm,hend,by have:=HR.out.n;omega⟩;have Hfin:=hid hfin;have Hown:=hid HR.out.own;clear hend hown hfin;have hk1:¬ (p.length:Int)<(p.length:Int):=(by omega);go_wp2_with fail
   go_ret
   exact ⟨⟨o,Hfin.out.1,Hfin.out.2.1,Hfin.out.2.2,_,rfl,Hown.out⟩,hX⟩
def Zn (j l:Nat):ByteArray:=⟨(List.replicate j 48++decDigits l).toArray⟩
theorem znm (j l:Nat):(Zn j l).size=j+nDigits l:=by
 show ((List.replicate j 48++decDigits l).toArray).size=_;rw [List.size_toArray,List.length_append,List.length_replicate,decDigits_length]
theorem znn {h l:Nat}(hh:0<h)(hl:l<1000000000):D h++Zn (9 - nDigits l) l=D (h * 1000000000+l):=by
 apply ByteArray.ext;rw [ByteArray.data_append];show (decDigits h).toArray++(List.replicate (9 - nDigits l) 48++decDigits l).toArray=(decDigits (h * 1000000000+l)).toArray;rw [zmC hh hl];simp
theorem zno {n:Nat}{m:Nat}(hm:m+1=(Dec.P n).length):nth (Dec.P n) m=n / Dec.B ^ m∧0<n / Dec.B ^ m:=by
 have h0:n ≠ 0:=fun e=>by rw [e,Dec.P_zero] at hm;simp at hm
 have h1:=Dec.P_len_lt n;have h2:=Dec.P_len_ge h0;rw [← hm] at h1 h2;rw [Nat.add_sub_cancel] at h2;have hb:0<Dec.B ^ m:=Nat.pow_pos Dec.B_pos;constructor
 ·unfold nth;rw [Dec.P_at,Nat.mod_eq_of_lt];rw [Nat.div_lt_iff_lt_mul hb,Nat.mul_comm,← Nat.pow_succ];exact h1
 ·exact Nat.div_pos h2 hb
theorem znp (n m:Nat):n / Dec.B ^ m=n / Dec.B ^ (m+1) * 1000000000+nth (Dec.P n) m:=by
 unfold nth;rw [Dec.P_at,Nat.pow_succ,← Nat.div_div_eq_div_mul];have:=Nat.div_add_mod (n / Dec.B ^ m) Dec.B;rw [show (1000000000:Nat)=Dec.B from rfl,Nat.mul_comm];exact this.symm
end
end Go.Proofs.YtoehmpbipbbffaaGreatDoor
