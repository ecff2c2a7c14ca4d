/- Walks: slices.IndexFunc and slices.ContainsFunc at lists of sizes, with a closure that makes memory. What the reduction asks of sizes; the closure of scale.collect. Walk: scale.collect of at most nine sizes. Walk: scale.Chain of at most nine links. Walks: law 31's whole, octave, multiples. Walks: law 31's reduce, order, and the closures of its collect. -/
import Derived.Test.YtiameffonflhgaaGreatDoorPk08
import Derived.Shelf.Abstract
import Derived.Test.YtiameffonflhgaaGreatDoorPk19
import Derived.Test.YtiameffonflhgaaGreatDoorPk17
import Derived.Test.YtiameffonflhgaaGreatDoorPk20
import Derived.Test.YtiameffonflhgaaGreatDoorPk05
import Derived.Test.YtiameffonflhgaaGreatDoorPk12
set_option maxRecDepth 100000
set_option maxHeartbeats 1000000
namespace Go.Proofs.YtiameffonflhgaaGreatDoor
section
open Go.RowKit Go.Lib Go.Shelf
def zjR (P:List Rat→Bool)(rs:List Qw)(z:Int):Prop:=(z=-1∧∀ r∈rs,P r.x=false)∨∃ (k:Nat)(r:Qw),z=k∧rs[k]?=some r∧P r.x=true∧∀ s∈rs.take k,P s.x=false
theorem zjR.any {P:List Rat→Bool}{rs:List Qw}{z:Int}(h:zjR P rs z):rs.any (fun r=>P r.x)=decide (0≤z):=by
 rcases h with ⟨rfl,h⟩ | ⟨k,r,rfl,h1,h2,_⟩
 ·rw [show decide ((0:Int)≤-1)=false by decide,List.any_eq_false];intro r hr;rw [h r hr];simp
 ·rw [show decide ((0:Int)≤(k:Int))=true from decide_eq_true (by omega),List.any_eq_true];exact ⟨r,List.mem_of_getElem? h1,h2⟩
theorem zjS (g:Nat)(cb:Array Value)(v:Value)(rs:List Qw)(P:List Rat→Bool)(w:World)(hv:Sl w v (qwc rs))(hl:rs.length≤1000)
  (eg:∀ args w,(callFunc g args).run Tryz.prog w=.ok (.enter g args) w)
  (hp:∀ W,Ext w W→∀ r∈rs,Calls Tryz.prog g (#[r.u]++cb) W fun e w'=>e=.returned (.bool (P r.x))∧Ext W w') :
  Calls Tryz.prog 211 #[v,.func (.func g) #[] cb] w fun e w'=>∃ z:Int,e=.returned (.int .i64 z)∧zjR P rs z∧Ext w w':=by
 obtain ⟨a,c,rfl,_,_,hc⟩:=hv.parts;rw [zf5];have hcell:∀ k r,rs[k]?=some r→∃ b off,a=some ⟨b,off,none⟩∧w.cell? ⟨b,off+k,none⟩=some r.u:=fun k r hr=>hc k r.u (by unfold qwc;rw [List.getElem?_map,hr];rfl);generalize hn:rs.length=n at *;have Hn:=hid hn;have Hp:=hid hp;have Hc:=hid hcell;clear hv hc hn hp hcell;go_enter Tryz.func211,Tryz.ntmps211
 go_wp2_with fail
 go_loopw [5,8] (fun v5 v8 wr=>∃ k:Nat,v8=.int .i64 k∧k≤n∧(∀ s∈rs.take k,P s.x=false)∧Ext w wr) (fun _ v8 _=>n - (zam v8).toNat)
 case atStart=>exact ⟨0,rfl,Nat.zero_le _,fun r h=>by simp at h,Ext.refl _⟩
 case round =>
  obtain ⟨k,rfl,hk,hall,hE⟩:=hrel;have Hall:=hid hall;clear hall;by_cases hlt:k<n
  ·obtain ⟨r,hr⟩:∃ r,rs[k]?=some r:=⟨_,List.getElem?_eq_getElem (by rw [Hn.out];exact hlt)⟩;obtain ⟨b,off,rfl,h0⟩:=Hc.out k r hr;have hc0:=hE.cell h0;have hd:=Hp.out wr hE r (List.mem_of_getElem? hr);have HE:=hid hE;have Hr:=hid hr;clear hr h0 hE;generalize r.u=u at *;generalize hdx:P r.x=dx at *;have Hd:=hid hd;have Hdx:=hid hdx;clear hd hdx;have hk0:(0:Int)≤(k:Int):=(by omega);have hk1:(k:Int)<(n:Int):=(by omega);go_wp2_with fail
   refine Hd.out.mono ?_;rintro e W2 ⟨rfl,hx2⟩;have HE2:=hid (HE.out.trans hx2);clear hx2
   cases dx with
   | true =>
    go_wp2
    go_ret
    exact ⟨_,rfl,.inr ⟨k,r,rfl,Hr.out,Hdx.out,Hall.out⟩,HE2.out⟩
   | false =>
    go_wp2_with fail
    go_roundw
    case rel=>exact ⟨k+1,by go_num,hlt,fun s hs=>by
     obtain ⟨hl2,e⟩:=List.getElem?_eq_some_iff.1 Hr.out;rw [List.take_succ_eq_append_getElem hl2] at hs;rcases List.mem_append.1 hs with h | h
     ·exact Hall.out s h
     ·rw [List.mem_singleton] at h;rw [h,e];exact Hdx.out,HE2.out⟩
    case measure=>simp [zam];omega
  ·have hkk:¬ (k:Int)<(n:Int):=(by omega);have hkl:k=n:=(by omega);have Hkl:=hid hkl;clear hkl;have HE:=hid hE;clear hE;go_wp2
   go_ret
   exact ⟨-1,rfl,.inl ⟨rfl,fun r hr=>Hall.out r (by rw [Hkl.out,← Hn.out,List.take_length];exact hr)⟩,HE.out⟩
theorem zjT (g:Nat)(cb:Array Value)(v:Value)(rs:List Qw)(P:List Rat→Bool)(w:World)(hv:Sl w v (qwc rs))(hl:rs.length≤1000)
  (eg:∀ args w,(callFunc g args).run Tryz.prog w=.ok (.enter g args) w)
  (hp:∀ W,Ext w W→∀ r∈rs,Calls Tryz.prog g (#[r.u]++cb) W fun e w'=>e=.returned (.bool (P r.x))∧Ext W w') :
  Calls Tryz.prog 147 #[v,.func (.func g) #[] cb] w fun e w'=>e=.returned (.bool (rs.any fun r=>P r.x))∧Ext w w':=by
 have hi:=zjS g cb v rs P w hv hl eg hp;obtain ⟨a,c,rfl,_,_,_⟩:=hv.parts;have Hi:=hid hi;clear hi hp hv;go_enter Tryz.func147,Tryz.ntmps147
 go_wp2_with fail
 refine Hi.out.mono ?_;rintro e w1 ⟨z,rfl,hz,hx⟩;have Hz:=hid hz.any;have Hx:=hid hx;clear hz hx;go_wp2
 go_ret
 exact ⟨by rw [Hz.out];rfl,Hx.out⟩
theorem zjU {k:Nat}{z:Int}(h:z.natAbs<10 ^ k)(hk:0<k):Ft k (z:Rat):=by
 refine ⟨?_,?_⟩
 ·rw [Rat.num_intCast];exact Dec.nDigits_le hk h
 ·rw [Rat.den_intCast];exact Dec.nDigits_le hk (Nat.one_lt_pow (by omega) (by decide))
structure zjV (p:List Int)(a:Rat)(tl:List Rat):Prop where
 len:tl.length+1=p.length
 pr:Pr p (tl.length+1)
 ft:∀ q∈a::tl,Ft 30 q
 qf:QF p (a::tl)
 fk:Ft 400 ((-flP p (a::tl):Int):Rat)
 fit:Fit (flP p (a::tl))
 res:∀ q∈rst p (a::tl),Ft 30 q
theorem Lw.red {p:List Int}{c:Int}{l:List (List Rat)}(h:Lw p c l){x:List Rat}(hx:x∈l):∃ a tl,x=a::tl∧zjV p a tl:=by
 obtain ⟨n,hn⟩:=h.nic;have hl:=h.len x hx;have hp:Pr p x.length:=by rw [hl];exact h.pr
 have hq:=h.quick x hx;have hr:=h.range hx;have hni:=hn x hx;have hfl:=zjC hp hni (h.bd x hx).1 (h.bd x hx).2;have hc:=h.c1;have hrq:zin p (rst p x):=zjg (c:=1) (by unfold rst;rw [zjm];exact hp) (zju hni) (by omega) (by omega) (by
  rw [show ((1 * 67108864:Int):Rat)=67108864 from rfl];grind) (by
  rw [show ((1 * 67108864:Int):Rat)=67108864 from rfl];grind)
 obtain ⟨a,tl,rfl,htl,hb⟩:=zjA hp hni;refine ⟨a,tl,rfl,htl,hp,hq.1,?_,?_,?_,hrq.1⟩
 ·by_cases hz:∀ r∈tl,r=0
  ·left;rw [List.tail_cons,List.all_eq_true];simpa using hz
  ·have hbx:=hb.resolve_right hz;have hA:=zje hp hbx (h.bd _ hx).1 (h.bd _ hx).2;exact (ziF (m:=100000) hp hbx (by omega) (by omega) (fun a' ha'=>by cases ha';omega)).qf hp hbx
 ·exact (zjU (k:=5) (by show _<100000;omega) (by omega)).mono (by omega)
 ·show nDigits _≤_;have:=Dec.nDigits_le (n:=(flP p (a::tl)).natAbs) (k:=5) (by omega) (by show _<100000;omega);omega
end
section
open Go.RowKit Go.Lib Go.Shelf
attribute [local go_sem] Oper.semAt_some
theorem zjW (r:Rat):sgQ r<0 ↔ r<0:=by
 unfold sgQ;constructor
 ·intro h;by_cases g:r<0
  ·exact g
  ·rw [if_neg g] at h;split at h <;> omega
 ·intro h;rw [if_pos h];decide
theorem Lw.cmpb {p:List Int}{c:Int}{l N:List (List Rat)}(h:Lw p c l)(hN:∀ x∈N,x=zer p.length∨x=ov (p.length - 1)∨∃ z∈l,x=rst p z):zjL p N:=by
 obtain ⟨n,hn⟩:=h.play;have hlen:∀ x∈N,x.length=p.length:=fun x hx=>(hn x x (hN x hx) (hN x hx)).1;have hb:∀ x∈N,0≤sF p x∧sF p x≤67108864:=fun x hx=>by
  rcases hN x hx with e | e | ⟨z,hz,e⟩
  ·rw [e,zjy];exact ⟨Rat.le_refl,by decide⟩
  ·rw [e,sov h.pr];exact ⟨by decide,Rat.le_refl⟩
  ·rw [e];have:=h.range hz;exact ⟨this.1,Rat.le_of_lt this.2⟩
 have hpe:zdV p=0∧p.length≤100:=by rcases h.pr with ⟨e,_⟩ | ⟨e,_⟩ <;> rw [e] <;> decide
 have hpx:∀ x:List Rat,x.length=p.length→Pr p x.length:=fun x e=>by rw [e];exact h.pr
 have h1:((1 * 67108864:Int):Rat)=67108864:=rfl;refine ⟨hpe.1,hpe.2,hlen,fun x hx=>?_,fun x hx y hy=>?_,fun x hx y hy=>?_⟩
 ·have hz:=(hn x (zer p.length) (hN x hx) (.inl rfl)).2;rw [← hlen x hx,zjj] at hz;have b:=hb x hx;exact (zjg (c:=1) (hpx x (hlen x hx)) hz (by omega) (by omega) (by rw [h1];grind) (by rw [h1];exact b.2)).1
 ·have b1:=hb x hx;have b2:=hb y hy;have hl:=hlen x hx;have hl2:=hlen y hy;have hs:=zeQ p x y (hl.trans hl2.symm);exact zjg (c:=1) (hpx _ ((zji (hl.trans hl2.symm)).trans hl)) (hn x y (hN x hx) (hN y hy)).2 (by omega) (by omega) (by rw [h1];grind) (by rw [h1];grind)
 ·have hl:=hlen x hx;have hl2:=hlen y hy;rw [zfq (hpx _ ((zji (hl.trans hl2.symm)).trans hl)) (hn x y (hN x hx) (hN y hy)).2.nice,zjW,zeQ p x y (hl.trans hl2.symm)];constructor <;> intro g <;> grind
def ScO (w:World)(B:Nat)(v:Value)(p:List Int)(rs:List Qw):Prop:=∃ vp vn,v=.agg #[vp,vn]∧zeb w B vp p∧QwM w B B vn rs
theorem ScO.ext {w w':World}{B:Nat}{v:Value}{p:List Int}{rs:List Qw}(hx:Ext w w')(h:ScO w B v p rs):ScO w' B v p rs:=by
 obtain ⟨vp,vn,e,a,b⟩:=h;exact ⟨vp,vn,e,hx.own a,hx.qwM b⟩
theorem ScO.scV {w:World}{B:Nat}{v:Value}{p:List Int}{rs:List Qw}(h:ScO w B v p rs):ScV w v p rs:=by
 obtain ⟨vp,vn,e,a,b⟩:=h;exact ⟨vp,vn,e,zao a,b.rd⟩
theorem ScO.mono {w:World}{B B':Nat}{v:Value}{p:List Int}{rs:List Qw}(h:ScO w B v p rs)(hB:B'≤B):ScO w B' v p rs:=by
 obtain ⟨vp,vn,e,a,b⟩:=h;exact ⟨vp,vn,e,zan a hB,b.mono hB hB⟩
theorem QwM.set {W:World}{b B:Nat}{v:Value}{rs:List Qw}(h:QwM W b B v rs){c:Nat}{cs:Array Value}(hc:W.heap[c]?=some (.cells cs 28 (0,0)))(k:Nat)(u:Value):QwM (W.setCell ⟨c,k,none⟩ u) b B v rs :=
 ⟨zgg hc h.1 (by decide) k u,fun r hr=>zgg hc (h.2 r hr) (by decide) k u⟩
theorem QwM.more2 {w0 W V:World}{b B:Nat}{o:Obj}{v v7:Value}{rs:List Qw}{r:Qw}(hE:Ext w0 W)(hB:w0.heap.size≤B)(h:QwM W b B v rs)(hr:zf2 W b r.u r.x)
  (hown:V.ownsRow B 41 1 v7 (rs.length+1) (qwc rs++[r.u])) (hgrow:(W.alloc o).grownBy V v.ownBlock):QwM V b B v7 (rs++[r])∧Ext w0 V:=by
 have hal:=h.1.alloc o;have hkeep:∀ s:Qw,zf2 W b s.u s.x→zf2 V b s.u s.x:=fun s hs=>World.ownsRow.kept (World.ownsRow.alloc hs o) hgrow (zef (World.ownsRow.alloc hs o) hal (by decide));refine ⟨⟨?_,fun s hs=>?_⟩,(hE.alloc o).grown hgrow fun k hk=>Nat.le_trans hB (World.ownsRow.lt hal k hk).1⟩
 ·rw [List.length_append,List.length_singleton,zjQ];exact hown
 ·rcases List.mem_append.1 hs with g | g
  ·exact hkeep s (h.2 s g)
  ·rw [List.mem_singleton] at g;subst g;exact hkeep s hr
def NtR (b:Nat)(W6:World)(bs:Nat)(vp:Value)(xs:List (List Rat))(wr:World):Prop:=∃ (vn:Value)(nts:List Qw),zdM 28 wr bs vp vn∧QwM wr b W6.heap.size vn nts∧nts.map Qw.x=xs∧Ext W6 wr
theorem NtR.more {b:Nat}{W6 W V:World}{bs:Nat}{vp vn v7 u:Value}{x:List Rat}{nts:List Qw}{xs:List (List Rat)}{o:Obj}(hbs:W6.heap.size≤bs)(hb:zdM 28 W bs vp vn)(hq:QwM W b W6.heap.size vn nts)(hm:nts.map Qw.x=xs)(hE:Ext W6 W)(ho:zf2 W b u x)
  (hown:V.ownsRow W6.heap.size 41 1 v7 (nts.length+1) (qwc nts++[u])) (hgrow:(W.alloc o).grownBy V vn.ownBlock):NtR b W6 bs vp (xs++[x]) (V.setCell ⟨bs,1,none⟩ v7):=by
 have h1:=QwM.more2 (r:=⟨_,u,zf6 ho.rd⟩) hE (Nat.le_refl _) hq ho hown hgrow;have hbV:zdM 28 V bs vp vn:=zgd (((Ext.refl W).alloc o).heap hb) (World.ownsRow.alloc hq.1 o) (by decide) hgrow;exact ⟨v7,_,hbV.put1 v7,h1.1.set hbV 1 v7,by rw [List.map_append,hm];rfl,h1.2.setCell hbs v7⟩
theorem NtR.ext {b:Nat}{W6 wr w':World}{bs:Nat}{vp:Value}{xs:List (List Rat)}(h:NtR b W6 bs vp xs wr)(hx:Ext wr w'):NtR b W6 bs vp xs w':=by
 obtain ⟨vn,nts,h1,h2,h3,h4⟩:=h;exact ⟨vn,nts,h1.ext hx,hx.qwM h2,h3,h4.trans hx⟩
theorem s6 {w6 w':World}{a:Addr}{u:Value}(h6:w6.cell? a=some u)(h:Ext w6 w'):Ext w6 w'∧w'.cell? a=some u:=⟨h,h.cell h6⟩
def CoR (W:World)(p:List Int)(l:List (List Rat))(k:Nat)(v:Value)(wr:World):Prop:=∃ out:List Qw,QwM wr W.heap.size W.heap.size v out∧out.map Qw.x=zj4 p [] (l.take k)∧out.length≤k∧Ext W wr
theorem CoR.skip {W wr w':World}{p:List Int}{l:List (List Rat)}{k:Nat}{v:Value}{x:List Rat}{out:List Qw}(hq:QwM wr W.heap.size W.heap.size v out)(hm:out.map Qw.x=zj4 p [] (l.take k))(hl:out.length≤k)(hE:Ext W wr)(hx:Ext wr w')(hr:l[k]?=some x)(hs:rst p x=zer p.length∨rst p x∈out.map Qw.x):CoR W p l (k+1) v w' :=
 ⟨out,hx.qwM hq,by rw [zj6 hr,zj3,if_pos (by rw [← hm];exact hs)];exact hm,by omega,hE.trans hx⟩
theorem CoR.more {W wr V:World}{p:List Int}{l:List (List Rat)}{k:Nat}{v v7 u:Value}{x:List Rat}{out:List Qw}{o:Obj}(hE:Ext W wr)(hq:QwM wr W.heap.size W.heap.size v out)(hm:out.map Qw.x=zj4 p [] (l.take k))(hl:out.length≤k)(hr:l[k]?=some x)(hs:¬ (rst p x=zer p.length∨rst p x∈out.map Qw.x))(ho:zf2 wr W.heap.size u (rst p x))
  (hown:V.ownsRow W.heap.size 41 1 v7 (out.length+1) (qwc out++[u])) (hgrow:(wr.alloc o).grownBy V v.ownBlock):CoR W p l (k+1) v7 V:=by
 have:=QwM.more (r:=⟨_,u,zf6 ho.rd⟩) hE hq ho hown hgrow;exact ⟨_,this.1,by rw [zj6 hr,zj3,if_neg (by rw [← hm];exact hs),List.map_append,hm];rfl,by rw [List.length_append];simp;omega,this.2⟩
def zjX (g:List Rat)(a:Int)(n:Nat):List (List Rat):=(List.range n).map fun (i:Nat)=>zeP g ((a+(i:Int):Int):Rat)
theorem zjY (g:List Rat)(a:Int)(n:Nat):zjX g a (n+1)=zjX g a n++[zeP g ((a+(n:Int):Int):Rat)]:=by unfold zjX;rw [List.range_succ,List.map_append];rfl
theorem zjZ (g:List Rat)(a:Int)(n:Nat):(zjX g a n).length=n:=by unfold zjX;simp
def QsR (W:World)(xs:List (List Rat))(v:Value)(wr:World):Prop:=∃ out:List Qw,QwM wr W.heap.size W.heap.size v out∧out.map Qw.x=xs∧Ext W wr
theorem QsR.more {W wr V:World}{v v7 u:Value}{x:List Rat}{out:List Qw}{xs:List (List Rat)}{o:Obj}(hE:Ext W wr)(hq:QwM wr W.heap.size W.heap.size v out)(hm:out.map Qw.x=xs)(ho:zf2 wr W.heap.size u x)
  (hown:V.ownsRow W.heap.size 41 1 v7 (out.length+1) (qwc out++[u])) (hgrow:(wr.alloc o).grownBy V v.ownBlock):QsR W (xs++[x]) v7 V:=by
 have:=QwM.more (r:=⟨_,u,zf6 ho.rd⟩) hE hq ho hown hgrow;exact ⟨_,this.1,by rw [List.map_append,hm];rfl,this.2⟩
def zka (l:List Int):List Rat:=l.map fun (z:Int)=>(z:Rat)
theorem zkb (l:List Int):(zka l).length=l.length:=by unfold zka;simp
theorem zkc {l:List Int}{k:Nat}{z:Int}(h:l[k]?=some z):(zka l).take (k+1)=(zka l).take k++[(z:Rat)]:=by
 have h2:(zka l)[k]?=some (z:Rat):=by unfold zka;rw [List.getElem?_map,h];rfl
 obtain ⟨hk,e⟩:=List.getElem?_eq_some_iff.1 h2;rw [List.take_succ_eq_append_getElem hk,e]
theorem zkd (v:Value)(l:List Int)(w:World)(he:Env w)(hv:Sl w v (zaq l))(hl9:l.length≤1000)(hl:∀ z∈l,z.natAbs<1000000000) :
  Calls Tryz.prog 96 #[v] w fun e w'=>∃ u,e=.returned u∧zf2 w' w.heap.size u (zka l)∧Ext w w':=by
 obtain ⟨i0,hi,hz0,hz1,hz2⟩:=info_parts zf3;have hof:=fun (z:Int)(h:z∈l) W (hE:Ext w W)=>zgL z 1 W (he.ext hE) (hl z h) (by decide) (by decide);obtain ⟨a,c,rfl,_,_,hc⟩:=hv.parts;have hnx:∀ k,k<l.length→∃ z,l[k]?=some z∧z∈l:=fun k hk=>⟨_,List.getElem?_eq_getElem hk,List.getElem_mem _⟩;have hcell:∀ k z,l[k]?=some z→∃ b off,a=some ⟨b,off,none⟩∧w.cell? ⟨b,off+k,none⟩=some (.int .i64 z):=fun k z h=>hc k _ (by unfold zaq;rw [List.getElem?_map,h];rfl);have hrl:=zkb l;rw [zas];generalize hn:l.length=n at *;have Hof:=hid hof;have Hnx:=hid hnx;have Hcell:=hid hcell;have Hrl:=hid hrl;clear hv hc he hl hof hnx hcell hrl hn;go_enter Tryz.func96,Tryz.ntmps96
 go_wp2_with fail
 go_loopw [3,5,8] (fun v3 v5 v8 wr=>∃ k:Nat,v8=.int .i64 k∧k≤n∧wr.ownsRow w.heap.size 65 2 v3 k (rcs ((zka l).take k))∧Hid (Ext w wr)) (fun _ _ v8 _=>n - (zam v8).toNat)
 case atStart=>exact ⟨0,rfl,Nat.zero_le _,World.ownsRow_nil w _ _ 2,hid (Ext.refl _)⟩
 case round =>
  obtain ⟨k,rfl,hk,ho,HE⟩:=hrel;obtain ⟨a5,c5,rfl⟩:=zec ho;by_cases hkn:k<n
  ·obtain ⟨z,hz,hzm⟩:=Hnx.out k hkn;obtain ⟨b,off,rfl,h0⟩:=Hcell.out k z hz;have htk:=zkc hz;have hcl:=fun W (hE:Ext w W)=>Hof.out z hzm W hE;rw [show mkRat z 1=(z:Rat) from Rat.mkRat_one z] at hcl;unfold Rv at hcl;generalize hs1:I ((z:Rat)).num=s1 at *;generalize hs2:I ((((z:Rat)).den:Nat):Int)=s2 at *;have hrn:rcs ((zka l).take (k+1))=rcs ((zka l).take k)++[.string s1,.string s2]:=(by rw [htk,zfz,hs1,hs2]);have Hrn:=hid hrn;clear hrn hs1 hs2 htk;have hk0:(0:Int)≤(k:Int):=(by omega);have hk1:(k:Int)<(n:Int):=(by omega);have c0:=HE.out.cell h0;have hm3:k+1≤maxLen:=(by unfold maxLen;omega);have hm4:(k+1) * 32≤140737488355328:=(by omega);have Hcl:=hid hcl;have Ho:=hid ho;clear hcl ho h0 hz hzm;go_wp2_with fail
   refine (Hcl.out wr HE.out).mono ?_;rintro e VA ⟨rfl,hxa⟩;have HEA:=hid (HE.out.trans hxa);have hoA:=hxa.own Ho.out;have hbase:=HEA.out.size;clear hxa c0;go_wp2_with (at_builtin;refine wpList_append_own _ rfl _ _ 41 rfl w.heap.size 65 i0 (.agg #[.string ByteArray.empty,.string ByteArray.empty]) 2 32 Tryz.underlying41 hi hz0 hz1 hz2 rfl (by decide) _ _ _ rfl (hoA.alloc _) ⟨VA.heap.size,0,none⟩ 1 1 [.string s1,.string s2] rfl rfl (zgP VA _ _ _) (by simp [Value.oneCell']) hm3 hm4 (by rw [World.size_alloc];omega) ?_;intro v7 V7 hown7 hgrow7 _)
   go_roundw
   case rel=>exact ⟨k+1,by go_num,by omega,by rw [Hrn.out];exact hown7,hid ((HEA.out.alloc _).grown hgrow7 fun j hj=>(World.ownsRow.lt (hoA.alloc (.cells #[.string s1,.string s2] 65)) j hj).1)⟩
   case measure=>simp [zam];omega
  ·obtain rfl:n=k:=by omega
   rw [List.take_of_length_le (by rw [Hrl.out];exact Nat.le_refl _)] at ho;have Ho:=hid ho;clear ho;go_wp2
   go_ret
   exact ⟨_,rfl,by unfold zf2;rw [Hrl.out];exact Ho.out,HE.out⟩
theorem zke (vp:Value)(p:List Int)(w:World)(he:Env w)(hp:Sl w vp (zaq p))(hp0:0<p.length)(hp9:p.length≤100) :
  Calls Tryz.prog 85 #[vp] w fun e w'=>∃ u,e=.returned u∧zf2 w' w.heap.size u (ov (p.length - 1))∧Ext w w':=by
 obtain ⟨i0,hi,hz0,hz1,hz2⟩:=info_parts zea;have hwh:=fun W v (hE:Ext w W)(hv:Sl W v (zaq (List.replicate p.length 0)))=>zkd v (List.replicate p.length 0) W (he.ext hE) hv (by rw [List.length_replicate];omega) (fun z hz=>by rw [List.eq_of_mem_replicate hz];decide);have hof:=fun W (hE:Ext w W)=>zgL 1 1 W (he.ext hE) (by decide) (by decide) (by decide);rw [show mkRat 1 1=(1:Rat) from Rat.mkRat_one 1] at hof;obtain ⟨ap,cp,rfl,_,_,_⟩:=hp.parts;rw [zas];have hrl:(zka (List.replicate p.length 0)).length=p.length:=by rw [zkb,List.length_replicate]
 have hrc:((rcs (zka (List.replicate p.length 0))).set 0 (.string (I (1:Rat).num))).set 1 (.string (I (((1:Rat).den:Nat):Int)))=rcs (ov (p.length - 1)):=by
  obtain ⟨m,hm⟩:∃ m,p.length=m+1:=⟨p.length - 1,by omega⟩;rw [hm,Nat.add_sub_cancel];unfold zka ov;rw [List.map_replicate,List.replicate_succ,zfx,zfx];rfl
 have hovl:(ov (p.length - 1)).length=p.length:=by rw [zi3];omega
 unfold Rv at hof;generalize I (1:Rat).num=s1 at *;generalize I (((1:Rat).den:Nat):Int)=s2 at *;generalize hn:p.length=n at *;have Hwh:=hid hwh;have Hof:=hid hof;have Hrl:=hid hrl;have Hrc:=hid hrc;have Hovl:=hid hovl;clear hp he hwh hof hrl hrc hovl hn;go_enter Tryz.func85,Tryz.ntmps85
 go_wp2_with (at_make;refine wpList_make_full _ rfl _ _ 24 rfl w.heap.size 3 i0 _ 1 Tryz.underlying24 hi hz0 hz1 _ _ _ _ n rfl rfl rfl rfl (by rw [hz2];omega) (by unfold maxLen;omega) (Nat.le_refl _) ?_;intro w1 hown hgrow)
 have hx1:Ext w w1:=(Ext.refl w).grown hgrow (by simp);rw [show (Value.int .i64 0).cells=#[Value.int .i64 0] from rfl,toList_madeCells_one] at hown;have hsl:Sl w1 (.slice (some ⟨w.heap.size,0,none⟩) n n) (zaq (List.replicate n 0)):=by
  have:=zao hown;rw [Nat.mul_one] at this;unfold zaq;rw [List.map_replicate];exact this
 have hw1:=Hwh.out w1 _ hx1 hsl;have Hx1:=hid hx1;have Hw1:=hid hw1;clear hown hgrow hx1 hsl hw1;go_wp2_with fail
 refine Hw1.out.mono ?_;rintro e w2 ⟨u2,rfl,ho2,hx2⟩;have ho2':=ho2;unfold zf2 at ho2';rw [Hrl.out] at ho2';rcases ho2'.2 with ⟨_,h0⟩ | ⟨g,cap,cur,rfl,hbg,hg,h1,h2,h3,h4⟩
 ·omega
 ·have hf:=Hof.out w2 (Hx1.out.trans hx2);have Hf:=hid hf;have Ho2:=hid ho2';have Hx2:=hid (Hx1.out.trans hx2);have hbw:w.heap.size≤g:=Nat.le_trans Hx1.out.size hbg;clear hf ho2 ho2' hx2 hg h1 h2 h3 h4;go_wp2_with fail
  refine Hf.out.mono ?_;rintro e w3 ⟨rfl,hx3⟩;have ho3:=hx3.own Ho2.out;have c0:=World.ownsRow.cellAt ho3 0 (by omega);have c1:=World.ownsRow.cellAt ho3 1 (by omega);have hlen:(rcs (zka (List.replicate n 0))).length=2 * n:=by rw [zf0,Hrl.out]
  obtain ⟨e0,he0⟩:∃ q0,(rcs (zka (List.replicate n 0)))[0]?=some q0:=⟨_,List.getElem?_eq_getElem (by omega)⟩;obtain ⟨e1,he1⟩:∃ q0,(rcs (zka (List.replicate n 0)))[1]?=some q0:=⟨_,List.getElem?_eq_getElem (by omega)⟩;rw [he0] at c0;rw [he1] at c1;have f0:=zgC ho3 0;have f1:=zgC ho3 1;have hs0:=World.ownsRow.stored ho3 0 (.string s1);have hs1:=World.ownsRow.stored hs0.1 1 (.string s2);rw [Hrc.out] at hs1;have hE3:=((Hx2.out.trans hx3).setCell (p:=⟨g,0,none⟩) hbw (.string s1)).setCell (p:=⟨g,1,none⟩) hbw (.string s2);have Hs1:=hid (zan hs1.1 Hx1.out.size);have HE3:=hid hE3;have hni:(0:Int)<(n:Int):=by omega
  clear hs0 hs1 hE3 ho3 hx3 hlen he0 he1;go_wp2
  go_ret
  exact ⟨_,rfl,by unfold zf2;rw [Hovl.out];exact Hs1.out,HE3.out⟩
theorem zkf {r:Rat}(h1:r.num.natAbs≤30000)(h2:r.den≤1000):Sn r:=⟨h1,h2⟩
theorem zkg : Sn 0:=by unfold Sn;decide
theorem zkh {z:Int}(h:z.natAbs≤30000):Sn (z:Rat):=by
 unfold Sn;rw [Rat.num_intCast,Rat.den_intCast];exact ⟨h,by omega⟩
theorem zki {n:Nat}{p:List Int}{x:List Rat}{c:Int}(hp:Pr p x.length)(h:Nic n x)(hc:0≤c)(hc2:c≤500)(h1:-((c * 67108864:Int):Rat)≤sF p x)(h2:sF p x≤((c * 67108864:Int):Rat)):∀ r∈x,Sn r:=by
 rcases h with ⟨_,hb⟩ | ⟨hn,hn9,ho⟩
 ·obtain ⟨a,tl,rfl⟩:∃ a tl,x=a::tl:=by
   rcases hp with ⟨_,hl⟩ | ⟨_,hl⟩ <;> (cases x with | nil=>cases hl | cons a tl=>exact ⟨a,tl,rfl⟩)
  have hA:=zje hp hb h1 h2;match tl,hb with
  | [b],⟨A,B,ha,hb2,g1,g2⟩ =>
   obtain ⟨ha1,ha2⟩:=zfb ha
   intro r hr
   simp only [List.mem_cons,List.not_mem_nil,or_false] at hr
   rcases hr with rfl | rfl
   ·exact zkf (by omega) (by omega)
   ·rcases zfc hb2 with ⟨e1,e2⟩ | ⟨e1,e2⟩
    ·exact zkf (by omega) (by omega)
    ·exact zkf (by omega) (by omega)
  | [b,d],⟨A,B,C,ha,hb2,hd,g1,g2,g3,g4⟩ =>
   obtain ⟨ha1,ha2⟩:=zfb ha
   obtain ⟨hd1,hd2⟩:=zfb hd
   intro r hr
   simp only [List.mem_cons,List.not_mem_nil,or_false] at hr
   rcases hr with rfl | rfl | rfl
   ·exact zkf (by omega) (by omega)
   ·rcases zfc hb2 with ⟨e1,e2⟩ | ⟨e1,e2⟩
    ·exact zkf (by omega) (by omega)
    ·exact zkf (by omega) (by omega)
   ·exact zkf (by omega) (by omega)
 ·rcases hp with ⟨rfl,hl⟩ | ⟨rfl,hl⟩
  ·match x,hl,ho with
   | [a,b],_,⟨hb,A,ha⟩ =>
    subst hb
    have hbd:=zjf (s:=sF [2,3] [a,0]) hn hn9 ha (by simp only [sF,lgs.1];grind) h1 h2
    intro r hr
    simp only [List.mem_cons,List.not_mem_nil,or_false] at hr
    rcases hr with rfl | rfl
    ·exact zkf (by omega) (by omega)
    ·exact zkg
  ·match x,hl,ho with
   | [a,b,d],_,⟨hb,hd,A,ha⟩ =>
    subst hb
    subst hd
    have hbd:=zjf (s:=sF [2,3,5] [a,0,0]) hn hn9 ha (by simp only [sF,lgs.1];grind) h1 h2
    intro r hr
    simp only [List.mem_cons,List.not_mem_nil,or_false] at hr
    rcases hr with rfl | rfl | rfl
    ·exact zkf (by omega) (by omega)
    ·exact zkg
    ·exact zkg
theorem Lw.sn {p:List Int}{c:Int}{l:List (List Rat)}(h:Lw p c l)(hc:c≤500){x:List Rat}(hx:x∈l):∀ r∈x,Sn r:=by
 obtain ⟨n,hn⟩:=h.nic;exact zki (by rw [h.len x hx];exact h.pr) (hn x hx) h.c0 hc (h.bd x hx).1 (h.bd x hx).2
theorem Lw.snr {p:List Int}{c:Int}{l:List (List Rat)}(h:Lw p c l){x:List Rat}(hx:x∈l):∀ r∈rst p x,Sn r:=by
 obtain ⟨n,hn⟩:=h.nic;have hr:=h.range hx;exact zki (c:=1) (by unfold rst;rw [zjm,h.len x hx];exact h.pr) (zju (hn x hx)) (by omega) (by omega) (by
  rw [show ((1 * 67108864:Int):Rat)=67108864 from rfl];grind) (by
  rw [show ((1 * 67108864:Int):Rat)=67108864 from rfl];grind)
theorem Lw.fl {p:List Int}{c:Int}{l:List (List Rat)}(h:Lw p c l){x:List Rat}(hx:x∈l):-c≤flP p x∧flP p x≤c:=by
 obtain ⟨n,hn⟩:=h.nic;exact zjC (by rw [h.len x hx];exact h.pr) (hn x hx) (h.bd x hx).1 (h.bd x hx).2
theorem zkj (n:Nat):∀ r∈ov n,Sn r:=by
 intro r hr;unfold ov at hr;rcases List.mem_cons.1 hr with rfl | hr
 ·exact zgX
 ·rw [List.eq_of_mem_replicate hr];exact zkg
theorem zkk (n:Nat){q:Int}(hq:q.natAbs≤30000):∀ r∈zeP (ov n) (q:Rat),Sn r:=by
 rw [zjv];unfold zer;rw [List.replicate_succ];intro x hx;simp only [shf,List.mem_cons] at hx;rcases hx with rfl | hx
 ·rw [show (0:Rat)+(q:Rat)=(q:Rat) by grind];exact zkh hq
 ·rw [List.eq_of_mem_replicate hx];exact zkg
theorem zkl {x:List Rat}{q:Int}(hx:0<x.length):zeO x (zeP (ov (x.length - 1)) (q:Rat))=shf (-q) x:=by
 rw [zjv,show x.length - 1+1=x.length by omega];have h:=zjq (q:=0) (r:=q) (x:=x) (y:=zer x.length) (by rw [zjh]);rw [zjo,zjj,show (0:Int) - q=-q by omega] at h;exact h
theorem zkm (vp vb vx:Value)(p:List Int)(c:Int)(l:List (List Rat))(x:List Rat)(w:World)(he:Env w)(hp:Sl w vp (zaq p))(hb:Rd w vb (ov (p.length - 1)))(hxv:Rd w vx x)(hL:Lw p c l)(hc:c≤500)(hx:x∈l) :
  Calls Tryz.prog 145 #[vp,vb,vx] w fun e w'=>∃ u s,e=.returned (.tuple #[u,.string s])∧zf2 w' w.heap.size u (rst p x)∧Ext w w':=by
 have hpe:zdV p=0∧p.length≤100∧0<p.length:=by rcases hL.pr with ⟨e,_⟩ | ⟨e,_⟩ <;> rw [e] <;> decide
 have hxl:=hL.len x hx;have hflb:=hL.fl hx;have hsn:=hL.sn hc hx;have hfl:=fun W (hE:Ext w W)=>(show Calls Tryz.prog 209 #[vp,vx,vb] W fun e w'=>e=.returned (.tuple #[.string (I (flP p x)),.int .i64 0])∧Ext W w' from by
  obtain ⟨a,tl,e,h⟩:=hL.red hx;have hrd:=hE.rd hxv;rw [e] at hrd ⊢;have hlt:tl.length=p.length - 1:=by have:=h.len;omega
  exact ziR vp vx vb p a tl W (he.ext hE) (hE.sl hp) hrd (hE.rd (by rw [hlt];exact hb)) hpe.1 h.pr h.ft h.qf)
 have hti:=fun W (hE:Ext w W)=>zgT vb (ov (p.length - 1)) ((flP p x:Int):Rat) W (he.ext hE) (hE.rd hb) (by rw [zi3];omega) (zkj _) (zkh (by omega));rw [zf7] at hti;have hle:=fun W vc (hE:Ext w W)(hc:Rd W vc (zeP (ov (p.length - 1)) ((flP p x:Int):Rat)))=>zgY vx vc x (zeP (ov (p.length - 1)) ((flP p x:Int):Rat)) W (he.ext hE) (hE.rd hxv) hc (by unfold zeP;rw [List.length_map,zi3];omega) (by omega) hsn (zkk _ (by omega));have hrs:zeO x (zeP (ov (p.length - 1)) ((flP p x:Int):Rat))=rst p x:=by
  rw [← hxl];exact zkl (by omega)
 rw [hrs] at hle;have hne:((I (flP p x)).toList == [])=false:=by
  have h1:=zby (flP p x);have h2:0<(I (flP p x)).size:=by
   rcases (by omega:flP p x<0∨0≤flP p x) with g | g
   ·obtain ⟨m,hm⟩:∃ m:Nat,flP p x=-(m:Int):=⟨(flP p x).natAbs,by omega⟩;rw [hm,zbx m (by omega)];omega
   ·obtain ⟨m,hm⟩:∃ m:Nat,flP p x=(m:Int):=⟨(flP p x).toNat,by omega⟩;rw [hm,za3,za2];exact nDigits_pos m
  cases h3:(I (flP p x)).toList with
  | nil =>
   exfalso
   have:(I (flP p x)).data.toList=[]:=by rw [← Lib.toList_data];exact h3
   have h4:(I (flP p x)).size=0:=by
    show (I (flP p x)).data.size=0;rw [← Array.length_toList,this];rfl
   omega
  | cons a t=>rfl
 have hne2:¬ (I (flP p x)).toList=[]:=fun e=>by rw [e] at hne;simp at hne
 obtain ⟨ap,cp,rfl,_,_,_⟩:=hp.parts;obtain ⟨ab,cb,rfl,_,_,_⟩:=hb.parts;obtain ⟨ax,cx,rfl,_,_,_⟩:=hxv.parts;generalize (zaq p).length=n1 at *;generalize (ov (p.length - 1)).length=n2 at *;generalize x.length=n3 at *;generalize I (flP p x)=s at *;have Hfl:=hid hfl;have Hti:=hid hti;have Hle:=hid hle;clear he hp hb hxv hL hfl hti hle hrs hsn hpe hxl hflb;go_enter Tryz.func145,Tryz.ntmps145
 go_wp2_with fail
 refine (Hfl.out w (Ext.refl w)).mono ?_;rintro e w1 ⟨rfl,hx1⟩;have Hx1:=hid hx1;clear hx1;go_wp2_with fail
 refine (Hti.out w1 Hx1.out).mono ?_;rintro e w2 ⟨u2,rfl,ho2,hx2⟩;obtain ⟨a2,c2,rfl,_,_,_⟩:=ho2.rd.parts;have hle2:=Hle.out w2 _ (Hx1.out.trans hx2) ho2.rd;have Hle2:=hid hle2;have Hx2:=hid (Hx1.out.trans hx2);clear hle2 hx2 ho2;generalize (zeP (ov (p.length - 1)) ((flP p x:Int):Rat)).length=n4 at *;go_wp2_with fail
 refine Hle2.out.mono ?_;rintro e w3 ⟨u3,rfl,ho3,hx3⟩;have Ho3:=hid (ho3.mono Hx2.out.size);have Hx3:=hid (Hx2.out.trans hx3);clear ho3 hx3;go_wp2
 go_ret2
 exact ⟨_,_,rfl,Ho3.out,Hx3.out⟩
theorem zkn (vp va vb:Value)(p:List Int)(x y:List Rat)(w:World)(he:Env w)(hp:Sl w vp (zaq p))(ha:Rd w va x)(hb:Rd w vb y)(hpe:zdV p=0)(hpl:p.length≤100)(hx:x.length=p.length)(hy:y.length=p.length)(hxf:∀ q∈x,Ft 30 q)(hyf:∀ q∈y,Ft 30 q)(hq:zin p (zeO x y)) :
  Calls Tryz.prog 150 #[vp,va,vb] w fun e w'=>e=.returned (.int .i64 (zeX (tms p (dn (zeO x y)) (zeO x y))))∧Ext w w':=by
 have h:=zip vp va vb p x y w he hp ha hb hpe hpl hx hy hxf hyf hq;obtain ⟨ap,cp,rfl,_,_,_⟩:=hp.parts;obtain ⟨aa,ca,rfl,_,_,_⟩:=ha.parts;obtain ⟨ab,cb,rfl,_,_,_⟩:=hb.parts;generalize zeX (tms p (dn (zeO x y)) (zeO x y))=z at *;clear hp ha hb he hxf hyf hq hx hy hpe hpl;have H:=hid h;clear h;go_enter Tryz.func150,Tryz.ntmps150
 go_wp2_with fail
 refine H.out.mono ?_;rintro e w1 ⟨rfl,hx1⟩;have Hx1:=hid hx1;clear hx1;go_wp2
 go_ret
 exact ⟨rfl,Hx1.out⟩
theorem zko (va vb:Value)(x y:List Rat)(bx:Nat)(w:World)(h0:w.cell? ⟨bx,0,none⟩=some va)(ha:Rd w va x)(hb:Rd w vb y)(hx:x.length≤1000)(hy:y.length≤1000) :
  Calls Tryz.prog 148 #[vb,.pointer (some ⟨bx,0,none⟩)] w fun e w'=>e=.returned (.bool (decide (x=y)))∧Ext w w':=by
 have h:=zjN va vb x y w ha hb hx hy;obtain ⟨aa,ca,rfl,_,_,_⟩:=ha.parts;obtain ⟨ab,cb,rfl,_,_,_⟩:=hb.parts;generalize decide (x=y)=b at *;clear ha hb;have H:=hid h;clear h;go_enter Tryz.func148,Tryz.ntmps148
 go_wp2_with fail
 refine H.out.mono ?_;rintro e w1 ⟨rfl,hx1⟩;have Hx1:=hid hx1;clear hx1;go_wp2
 go_ret
 exact ⟨rfl,Hx1.out⟩
theorem zkp : ∀ args w,(callFunc 148 args).run Tryz.prog w=.ok (.enter 148 args) w:=enters_of Tryz.func148 (by kernel_rfl) rfl
theorem zkq : ∀ args w,(callFunc 149 args).run Tryz.prog w=.ok (.enter 149 args) w:=enters_of Tryz.func149 (by kernel_rfl) rfl
theorem zkr (vp va vb:Value)(p:List Int)(l:List (List Rat))(x y:List Rat)(bp:Nat)(w:World)(he:Env w)(h0:w.cell? ⟨bp,0,none⟩=some vp)(hp:Sl w vp (zaq p))(ha:Rd w va x)(hb:Rd w vb y)(hc:zjL p l)(hx:x∈l)(hy:y∈l) :
  Calls Tryz.prog 149 #[va,vb,.pointer (some ⟨bp,0,none⟩)] w fun e w'=>(∃ z:Int,e=.returned (.int .i64 z)∧(z<0 ↔ sF p x<sF p y))∧Ext w w':=by
 have h:=zkn vp va vb p x y w he hp ha hb hc.pe hc.few (hc.len _ hx) (hc.len _ hy) (hc.ft _ hx) (hc.ft _ hy) (hc.quick _ hx _ hy);have hsg:=hc.sgn _ hx _ hy;obtain ⟨ap,cp,rfl,_,_,_⟩:=hp.parts;obtain ⟨aa,ca,rfl,_,_,_⟩:=ha.parts;obtain ⟨ab,cb,rfl,_,_,_⟩:=hb.parts;generalize zeX (tms p (dn (zeO x y)) (zeO x y))=z at *;clear hp ha hb he hc;have H:=hid h;have Hsg:=hid hsg;clear h hsg;go_enter Tryz.func149,Tryz.ntmps149
 go_wp2_with fail
 refine H.out.mono ?_;rintro e w1 ⟨rfl,hx1⟩;have Hx1:=hid hx1;clear hx1;go_wp2
 go_ret
 exact ⟨⟨z,rfl,Hsg.out⟩,Hx1.out⟩
end
end Go.Proofs.YtiameffonflhgaaGreatDoor
