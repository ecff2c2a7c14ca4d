/- Walks: slices.IndexFunc and slices.ContainsFunc at lists of sizes, with a closure that makes memory. What the reduction asks of sizes; the closure of scale.collect. Walk: scale.collect of at most nine sizes. Walk: scale.Chain of at most nine links. Walks: law 31's whole, octave, multiples. Walks: law 31's reduce, order, and the closures of its collect. Walk: law 31's collect of at most nine sizes. Walks: law 31's Size of a world's numbers. Plain: the sizes of a world are sizes that a scale is made of. -/
import Derived.Test.YtoehmpbipbbffaaGreatDoorPa08
import Derived.Shelf.Abstract
import Derived.Test.YtoehmpbipbbffaaGreatDoorPa17
import Derived.Test.YtoehmpbipbbffaaGreatDoorPa15
import Derived.Test.YtoehmpbipbbffaaGreatDoorPa16
import Derived.Test.YtoehmpbipbbffaaGreatDoorPa05
import Derived.Test.YtoehmpbipbbffaaGreatDoorPa10
set_option maxRecDepth 100000
set_option maxHeartbeats 1000000
namespace Go.Proofs.YtoehmpbipbbffaaGreatDoor
open Go.RowKit Go.Lib Go.Shelf
def zjF (P:List Rat→Bool)(rs:List Qw)(z:Int):Prop:=(z=-1∧∀ r∈rs,P r.x=false)∨∃ (k:Nat)(r:Qw),z=k∧rs[k]?=some r∧P r.x=true∧∀ s∈rs.take k,P s.x=false
theorem zjF.any {P:List Rat→Bool}{rs:List Qw}{z:Int}(h:zjF P rs z):rs.any (fun r=>P r.x)=decide (0≤z):=by
 rcases h with ⟨rfl,h⟩ | ⟨k,r,rfl,h1,h2,_⟩
 ·rw [show decide ((0:Int)≤-1)=false by decide,List.any_eq_false];intro r hr;rw [h r hr];simp
 ·rw [show decide ((0:Int)≤(k:Int))=true from decide_eq_true (by omega),List.any_eq_true];exact ⟨r,List.mem_of_getElem? h1,h2⟩
theorem zjG (g:Nat)(cb:Array Value)(v:Value)(rs:List Qw)(P:List Rat→Bool)(w:World)(hv:Sl w v (qwc rs))(hl:rs.length≤3000)
  (eg:∀ args w,(callFunc g args).run Tryz.prog w=.ok (.enter g args) w)
  (hp:∀ W,Ext w W→∀ r∈rs,Calls Tryz.prog g (#[r.u]++cb) W fun e w'=>e=.returned (.bool (P r.x))∧Ext W w') :
  Calls Tryz.prog 59 #[v,.func (.func g) #[] cb] w fun e w'=>∃ z:Int,e=.returned (.int .i64 z)∧zjF P rs z∧Ext w w':=by
 obtain ⟨a,c,rfl,_,_,hc⟩:=hv.parts;rw [zf7];have hcell:∀ k r,rs[k]?=some r→∃ b off,a=some ⟨b,off,none⟩∧w.cell? ⟨b,off+k,none⟩=some r.u:=fun k r hr=>hc k r.u (by unfold qwc;rw [List.getElem?_map,hr];rfl);generalize hn:rs.length=n at *;have Hn:=hid hn;have Hp:=hid hp;have Hc:=hid hcell;clear hv hc hn hp hcell;go_enter Tryz.func59,Tryz.ntmps59
 go_wp2_with fail
 go_loopw [5,8] (fun v5 v8 wr=>∃ k:Nat,v8=.int .i64 k∧k≤n∧(∀ s∈rs.take k,P s.x=false)∧Ext w wr) (fun _ v8 _=>n - (zag v8).toNat)
 case atStart=>exact ⟨0,rfl,Nat.zero_le _,fun r h=>by simp at h,Ext.refl _⟩
 case round =>
  obtain ⟨k,rfl,hk,hall,hE⟩:=hrel;have Hall:=hid hall;clear hall;by_cases hlt:k<n
  ·obtain ⟨r,hr⟩:∃ r,rs[k]?=some r:=⟨_,List.getElem?_eq_getElem (by rw [Hn.out];exact hlt)⟩;obtain ⟨b,off,rfl,h0⟩:=Hc.out k r hr;have hc0:=hE.cell h0;have hd:=Hp.out wr hE r (List.mem_of_getElem? hr);have HE:=hid hE;have Hr:=hid hr;clear hr h0 hE;generalize r.u=u at *;generalize hdx:P r.x=dx at *;have Hd:=hid hd;have Hdx:=hid hdx;clear hd hdx;have hk0:(0:Int)≤(k:Int):=(by omega);have hk1:(k:Int)<(n:Int):=(by omega);go_wp2_with fail
   refine Hd.out.mono ?_;rintro e W2 ⟨rfl,hx2⟩;have HE2:=hid (HE.out.trans hx2);clear hx2
   cases dx with
   | true =>
    go_wp2
    go_ret
    exact ⟨_,rfl,.inr ⟨k,r,rfl,Hr.out,Hdx.out,Hall.out⟩,HE2.out⟩
   | false =>
    go_wp2_with fail
    go_roundw
    case rel=>exact ⟨k+1,by go_num,hlt,fun s hs=>by
     obtain ⟨hl2,e⟩:=List.getElem?_eq_some_iff.1 Hr.out;rw [List.take_succ_eq_append_getElem hl2] at hs;rcases List.mem_append.1 hs with h | h
     ·exact Hall.out s h
     ·rw [List.mem_singleton] at h;rw [h,e];exact Hdx.out,HE2.out⟩
    case measure=>simp [zag];omega
  ·have hkk:¬ (k:Int)<(n:Int):=(by omega);have hkl:k=n:=(by omega);have Hkl:=hid hkl;clear hkl;have HE:=hid hE;clear hE;go_wp2
   go_ret
   exact ⟨-1,rfl,.inl ⟨rfl,fun r hr=>Hall.out r (by rw [Hkl.out,← Hn.out,List.take_length];exact hr)⟩,HE.out⟩
theorem zjH (g:Nat)(cb:Array Value)(v:Value)(rs:List Qw)(P:List Rat→Bool)(w:World)(hv:Sl w v (qwc rs))(hl:rs.length≤3000)
  (eg:∀ args w,(callFunc g args).run Tryz.prog w=.ok (.enter g args) w)
  (hp:∀ W,Ext w W→∀ r∈rs,Calls Tryz.prog g (#[r.u]++cb) W fun e w'=>e=.returned (.bool (P r.x))∧Ext W w') :
  Calls Tryz.prog 29 #[v,.func (.func g) #[] cb] w fun e w'=>e=.returned (.bool (rs.any fun r=>P r.x))∧Ext w w':=by
 have hi:=zjG g cb v rs P w hv hl eg hp;obtain ⟨a,c,rfl,_,_,_⟩:=hv.parts;have Hi:=hid hi;clear hi hp hv;go_enter Tryz.func29,Tryz.ntmps29
 go_wp2_with fail
 refine Hi.out.mono ?_;rintro e w1 ⟨z,rfl,hz,hx⟩;have Hz:=hid hz.any;have Hx:=hid hx;clear hz hx;go_wp2
 go_ret
 exact ⟨by rw [Hz.out];rfl,Hx.out⟩
theorem zjI {q:Int}:∀ {x:List Rat},zeS x (shf q (zer x.length))=shf q x
 | []=>rfl
 | a::x=>by
  unfold zer zeS;rw [List.length_cons,List.replicate_succ];simp only [shf,List.zipWith_cons_cons];congr 1
  ·grind
  ·have:∀ l:List Rat,List.zipWith (·+·) l (List.replicate l.length 0)=l:=fun l=>by
    induction l with
    | nil=>rfl
    | cons b l ih=>rw [List.length_cons,List.replicate_succ,List.zipWith_cons_cons,ih];congr 1;grind
   exact this x
theorem zjJ {k:Nat}{z:Int}(h:z.natAbs<10 ^ k)(hk:0<k):Ft k (z:Rat):=by
 refine ⟨?_,?_⟩
 ·rw [Rat.num_intCast];exact Dec.nDigits_le hk h
 ·rw [Rat.den_intCast];exact Dec.nDigits_le hk (Nat.one_lt_pow (by omega) (by decide))
structure zjK (p:List Int)(a:Rat)(tl:List Rat):Prop where
 len:tl.length+1=p.length
 pr:Pr p (tl.length+1)
 ft:∀ q∈a::tl,Ft 30 q
 qf:QF p (a::tl)
 fk:Ft 400 ((-flP p (a::tl):Int):Rat)
 fit:Fit (flP p (a::tl))
 res:∀ q∈rst p (a::tl),Ft 30 q
theorem Lw.red {p:List Int}{c:Int}{l:List (List Rat)}(h:Lw p c l){x:List Rat}(hx:x∈l):∃ a tl,x=a::tl∧zjK p a tl:=by
 obtain ⟨n,hn⟩:=h.nic;have hl:=h.len x hx;have hp:Pr p x.length:=by rw [hl];exact h.pr
 have hq:=h.quick x hx;have hr:=h.range hx;have hni:=hn x hx;have hfl:=zjy hp hni (h.bd x hx).1 (h.bd x hx).2;have hc:=h.c1;have hrq:zid p (rst p x):=ziU (c:=1) (by unfold rst;rw [zja];exact hp) (zjh hni) (by omega) (by omega) (by
  rw [show ((1 * 67108864:Int):Rat)=67108864 from rfl];grind) (by
  rw [show ((1 * 67108864:Int):Rat)=67108864 from rfl];grind)
 obtain ⟨a,tl,rfl,htl,hb⟩:=zjw hp hni;refine ⟨a,tl,rfl,htl,hp,hq.1,?_,?_,?_,hrq.1⟩
 ·by_cases hz:∀ r∈tl,r=0
  ·left;rw [List.tail_cons,List.all_eq_true];simpa using hz
  ·have hbx:=hb.resolve_right hz;have hA:=ziS hp hbx (h.bd _ hx).1 (h.bd _ hx).2;exact (zi5 (m:=100000) hp hbx (by omega) (by omega) (fun a' ha'=>by cases ha';omega)).qf hp hbx
 ·exact (zjJ (k:=5) (by show _<100000;omega) (by omega)).mono (by omega)
 ·show nDigits _≤_;have:=Dec.nDigits_le (n:=(flP p (a::tl)).natAbs) (k:=5) (by omega) (by show _<100000;omega);omega
theorem zjK.eq {p:List Int}{a:Rat}{tl:List Rat}(_h:zjK p a tl):zeS (a::tl) (zeU (ov tl.length) ((-flP p (a::tl):Int):Rat))=rst p (a::tl):=by
 rw [zji];exact zjI (x:=a::tl)
theorem zjL (va vb:Value)(x y:List Rat)(bx:Nat)(w:World)(h0:w.cell? ⟨bx,0,none⟩=some va)(ha:Rd w va x)(hb:Rd w vb y)(hx:x.length≤1000)(hy:y.length≤1000) :
  Calls Tryz.prog 51 #[vb,.pointer (some ⟨bx,0,none⟩)] w fun e w'=>e=.returned (.bool (decide (x=y)))∧Ext w w':=by
 have h:=zj8 va vb x y w ha hb hx hy;obtain ⟨aa,ca,rfl,_,_,_⟩:=ha.parts;obtain ⟨ab,cb,rfl,_,_,_⟩:=hb.parts;generalize decide (x=y)=b at *;clear ha hb;have H:=hid h;clear h;go_enter Tryz.func51,Tryz.ntmps51
 go_wp2_with fail
 refine H.out.mono ?_;rintro e w1 ⟨rfl,hx1⟩;have Hx1:=hid hx1;clear hx1;go_wp2
 go_ret
 exact ⟨rfl,Hx1.out⟩
theorem zjM : ∀ args w,(callFunc 51 args).run Tryz.prog w=.ok (.enter 51 args) w:=enters_of Tryz.func51 (by kernel_rfl) rfl
end Go.Proofs.YtoehmpbipbbffaaGreatDoor

namespace Go.Proofs.YtoehmpbipbbffaaGreatDoor
open Go.RowKit Go.Lib Go.Shelf
attribute [local go_sem] Oper.semAt_some
def ScO (w:World)(B:Nat)(v:Value)(p:List Int)(rs:List Qw):Prop:=∃ vp vn,v=.agg #[vp,vn]∧zek w B vp p∧QwM w B B vn rs
theorem ScO.ext {w w':World}{B:Nat}{v:Value}{p:List Int}{rs:List Qw}(hx:Ext w w')(h:ScO w B v p rs):ScO w' B v p rs:=by
 obtain ⟨vp,vn,e,a,b⟩:=h;exact ⟨vp,vn,e,hx.own a,hx.qwM b⟩
theorem ScO.scV {w:World}{B:Nat}{v:Value}{p:List Int}{rs:List Qw}(h:ScO w B v p rs):ScV w v p rs:=by
 obtain ⟨vp,vn,e,a,b⟩:=h;exact ⟨vp,vn,e,zai a,b.rd⟩
theorem ScO.mono {w:World}{B B':Nat}{v:Value}{p:List Int}{rs:List Qw}(h:ScO w B v p rs)(hB:B'≤B):ScO w B' v p rs:=by
 obtain ⟨vp,vn,e,a,b⟩:=h;exact ⟨vp,vn,e,zah a hB,b.mono hB hB⟩
theorem QwM.set {W:World}{b B:Nat}{v:Value}{rs:List Qw}(h:QwM W b B v rs){c:Nat}{cs:Array Value}(hc:W.heap[c]?=some (.cells cs 36 (0,0)))(k:Nat)(u:Value):QwM (W.setCell ⟨c,k,none⟩ u) b B v rs :=
 ⟨zgi hc h.1 (by decide) k u,fun r hr=>zgi hc (h.2 r hr) (by decide) k u⟩
theorem QwM.more2 {w0 W V:World}{b B:Nat}{o:Obj}{v v7:Value}{rs:List Qw}{r:Qw}(hE:Ext w0 W)(hB:w0.heap.size≤B)(h:QwM W b B v rs)(hr:zf4 W b r.u r.x)
  (hown:V.ownsRow B 32 1 v7 (rs.length+1) (qwc rs++[r.u])) (hgrow:(W.alloc o).grownBy V v.ownBlock):QwM V b B v7 (rs++[r])∧Ext w0 V:=by
 have hal:=h.1.alloc o;have hkeep:∀ s:Qw,zf4 W b s.u s.x→zf4 V b s.u s.x:=fun s hs=>World.ownsRow.kept (World.ownsRow.alloc hs o) hgrow (zem (World.ownsRow.alloc hs o) hal (by decide));refine ⟨⟨?_,fun s hs=>?_⟩,(hE.alloc o).grown hgrow fun k hk=>Nat.le_trans hB (World.ownsRow.lt hal k hk).1⟩
 ·rw [List.length_append,List.length_singleton,zjB];exact hown
 ·rcases List.mem_append.1 hs with g | g
  ·exact hkeep s (h.2 s g)
  ·rw [List.mem_singleton] at g;subst g;exact hkeep s hr
def NtR (b:Nat)(W6:World)(bs:Nat)(vp:Value)(xs:List (List Rat))(wr:World):Prop:=∃ (vn:Value)(nts:List Qw),zdV 36 wr bs vp vn∧QwM wr b W6.heap.size vn nts∧nts.map Qw.x=xs∧Ext W6 wr
theorem NtR.more {b:Nat}{W6 W V:World}{bs:Nat}{vp vn v7 u:Value}{x:List Rat}{nts:List Qw}{xs:List (List Rat)}{o:Obj}(hbs:W6.heap.size≤bs)(hb:zdV 36 W bs vp vn)(hq:QwM W b W6.heap.size vn nts)(hm:nts.map Qw.x=xs)(hE:Ext W6 W)(ho:zf4 W b u x)
  (hown:V.ownsRow W6.heap.size 32 1 v7 (nts.length+1) (qwc nts++[u])) (hgrow:(W.alloc o).grownBy V vn.ownBlock):NtR b W6 bs vp (xs++[x]) (V.setCell ⟨bs,1,none⟩ v7):=by
 have h1:=QwM.more2 (r:=⟨_,u,zf8 ho.rd⟩) hE (Nat.le_refl _) hq ho hown hgrow;have hbV:zdV 36 V bs vp vn:=zgf (((Ext.refl W).alloc o).heap hb) (World.ownsRow.alloc hq.1 o) (by decide) hgrow;exact ⟨v7,_,hbV.put1 v7,h1.1.set hbV 1 v7,by rw [List.map_append,hm];rfl,h1.2.setCell hbs v7⟩
theorem NtR.ext {b:Nat}{W6 wr w':World}{bs:Nat}{vp:Value}{xs:List (List Rat)}(h:NtR b W6 bs vp xs wr)(hx:Ext wr w'):NtR b W6 bs vp xs w':=by
 obtain ⟨vn,nts,h1,h2,h3,h4⟩:=h;exact ⟨vn,nts,h1.ext hx,hx.qwM h2,h3,h4.trans hx⟩
theorem s6 {w6 w':World}{a:Addr}{u:Value}(h6:w6.cell? a=some u)(h:Ext w6 w'):Ext w6 w'∧w'.cell? a=some u:=⟨h,h.cell h6⟩
def CoR (W:World)(p:List Int)(l:List (List Rat))(k:Nat)(v:Value)(wr:World):Prop:=∃ out:List Qw,QwM wr W.heap.size W.heap.size v out∧out.map Qw.x=zjq p [] (l.take k)∧out.length≤k∧Ext W wr
theorem CoR.skip {W wr w':World}{p:List Int}{l:List (List Rat)}{k:Nat}{v:Value}{x:List Rat}{out:List Qw}(hq:QwM wr W.heap.size W.heap.size v out)(hm:out.map Qw.x=zjq p [] (l.take k))(hl:out.length≤k)(hE:Ext W wr)(hx:Ext wr w')(hr:l[k]?=some x)(hs:rst p x=zer p.length∨rst p x∈out.map Qw.x):CoR W p l (k+1) v w' :=
 ⟨out,hx.qwM hq,by rw [zjs hr,zjo,if_pos (by rw [← hm];exact hs)];exact hm,by omega,hE.trans hx⟩
theorem CoR.more {W wr V:World}{p:List Int}{l:List (List Rat)}{k:Nat}{v v7 u:Value}{x:List Rat}{out:List Qw}{o:Obj}(hE:Ext W wr)(hq:QwM wr W.heap.size W.heap.size v out)(hm:out.map Qw.x=zjq p [] (l.take k))(hl:out.length≤k)(hr:l[k]?=some x)(hs:¬ (rst p x=zer p.length∨rst p x∈out.map Qw.x))(ho:zf4 wr W.heap.size u (rst p x))
  (hown:V.ownsRow W.heap.size 32 1 v7 (out.length+1) (qwc out++[u])) (hgrow:(wr.alloc o).grownBy V v.ownBlock):CoR W p l (k+1) v7 V:=by
 have:=QwM.more (r:=⟨_,u,zf8 ho.rd⟩) hE hq ho hown hgrow;exact ⟨_,this.1,by rw [zjs hr,zjo,if_neg (by rw [← hm];exact hs),List.map_append,hm];rfl,by rw [List.length_append];simp;omega,this.2⟩
def zjN (g:List Rat)(a:Int)(n:Nat):List (List Rat):=(List.range n).map fun (i:Nat)=>zeU g ((a+(i:Int):Int):Rat)
theorem zjO (g:List Rat)(a:Int)(n:Nat):zjN g a (n+1)=zjN g a n++[zeU g ((a+(n:Int):Int):Rat)]:=by unfold zjN;rw [List.range_succ,List.map_append];rfl
theorem zjP (g:List Rat)(a:Int)(n:Nat):(zjN g a n).length=n:=by unfold zjN;simp
def QsR (W:World)(xs:List (List Rat))(v:Value)(wr:World):Prop:=∃ out:List Qw,QwM wr W.heap.size W.heap.size v out∧out.map Qw.x=xs∧Ext W wr
theorem QsR.more {W wr V:World}{v v7 u:Value}{x:List Rat}{out:List Qw}{xs:List (List Rat)}{o:Obj}(hE:Ext W wr)(hq:QwM wr W.heap.size W.heap.size v out)(hm:out.map Qw.x=xs)(ho:zf4 wr W.heap.size u x)
  (hown:V.ownsRow W.heap.size 32 1 v7 (out.length+1) (qwc out++[u])) (hgrow:(wr.alloc o).grownBy V v.ownBlock):QsR W (xs++[x]) v7 V:=by
 have:=QwM.more (r:=⟨_,u,zf8 ho.rd⟩) hE hq ho hown hgrow;exact ⟨_,this.1,by rw [List.map_append,hm];rfl,this.2⟩
def zjQ (l:List Int):List Rat:=l.map fun (z:Int)=>(z:Rat)
theorem zjR (l:List Int):(zjQ l).length=l.length:=by unfold zjQ;simp
theorem zjS {l:List Int}{k:Nat}{z:Int}(h:l[k]?=some z):(zjQ l).take (k+1)=(zjQ l).take k++[(z:Rat)]:=by
 have h2:(zjQ l)[k]?=some (z:Rat):=by unfold zjQ;rw [List.getElem?_map,h];rfl
 obtain ⟨hk,e⟩:=List.getElem?_eq_some_iff.1 h2;rw [List.take_succ_eq_append_getElem hk,e]
theorem zjT (v:Value)(l:List Int)(w:World)(he:Env w)(hv:Sl w v (zak l))(hl9:l.length≤1000)(hl:∀ z∈l,z.natAbs<1000000000) :
  Calls Tryz.prog 13 #[v] w fun e w'=>∃ u,e=.returned u∧zf4 w' w.heap.size u (zjQ l)∧Ext w w':=by
 obtain ⟨i0,hi,hz0,hz1,hz2⟩:=info_parts zf5;have hof:=fun (z:Int)(h:z∈l) W (hE:Ext w W)=>zgC z 1 W (he.ext hE) (hl z h) (by decide) (by decide);obtain ⟨a,c,rfl,_,_,hc⟩:=hv.parts;have hnx:∀ k,k<l.length→∃ z,l[k]?=some z∧z∈l:=fun k hk=>⟨_,List.getElem?_eq_getElem hk,List.getElem_mem _⟩;have hcell:∀ k z,l[k]?=some z→∃ b off,a=some ⟨b,off,none⟩∧w.cell? ⟨b,off+k,none⟩=some (.int .i64 z):=fun k z h=>hc k _ (by unfold zak;rw [List.getElem?_map,h];rfl);have hrl:=zjR l;rw [zam];generalize hn:l.length=n at *;have Hof:=hid hof;have Hnx:=hid hnx;have Hcell:=hid hcell;have Hrl:=hid hrl;clear hv hc he hl hof hnx hcell hrl hn;go_enter Tryz.func13,Tryz.ntmps13
 go_wp2_with fail
 go_loopw [3,5,8] (fun v3 v5 v8 wr=>∃ k:Nat,v8=.int .i64 k∧k≤n∧wr.ownsRow w.heap.size 57 2 v3 k (rcs ((zjQ l).take k))∧Hid (Ext w wr)) (fun _ _ v8 _=>n - (zag v8).toNat)
 case atStart=>exact ⟨0,rfl,Nat.zero_le _,World.ownsRow_nil w _ _ 2,hid (Ext.refl _)⟩
 case round =>
  obtain ⟨k,rfl,hk,ho,HE⟩:=hrel;obtain ⟨a5,c5,rfl⟩:=zel ho;by_cases hkn:k<n
  ·obtain ⟨z,hz,hzm⟩:=Hnx.out k hkn;obtain ⟨b,off,rfl,h0⟩:=Hcell.out k z hz;have htk:=zjS hz;have hcl:=fun W (hE:Ext w W)=>Hof.out z hzm W hE;rw [show mkRat z 1=(z:Rat) from Rat.mkRat_one z] at hcl;unfold Rv at hcl;generalize hs1:I ((z:Rat)).num=s1 at *;generalize hs2:I ((((z:Rat)).den:Nat):Int)=s2 at *;have hrn:rcs ((zjQ l).take (k+1))=rcs ((zjQ l).take k)++[.string s1,.string s2]:=(by rw [htk,zf1,hs1,hs2]);have Hrn:=hid hrn;clear hrn hs1 hs2 htk;have hk0:(0:Int)≤(k:Int):=(by omega);have hk1:(k:Int)<(n:Int):=(by omega);have c0:=HE.out.cell h0;have hm3:k+1≤maxLen:=(by unfold maxLen;omega);have hm4:(k+1) * 32≤140737488355328:=(by omega);have Hcl:=hid hcl;have Ho:=hid ho;clear hcl ho h0 hz hzm;go_wp2_with fail
   refine (Hcl.out wr HE.out).mono ?_;rintro e VA ⟨rfl,hxa⟩;have HEA:=hid (HE.out.trans hxa);have hoA:=hxa.own Ho.out;have hbase:=HEA.out.size;clear hxa c0;go_wp2_with (at_builtin;refine wpList_append_own _ rfl _ _ 32 rfl w.heap.size 57 i0 (.agg #[.string ByteArray.empty,.string ByteArray.empty]) 2 32 Tryz.underlying32 hi hz0 hz1 hz2 rfl (by decide) _ _ _ rfl (hoA.alloc _) ⟨VA.heap.size,0,none⟩ 1 1 [.string s1,.string s2] rfl rfl (zgE VA _ _ _) (by simp [Value.oneCell']) hm3 hm4 (by rw [World.size_alloc];omega) ?_;intro v7 V7 hown7 hgrow7 _)
   go_roundw
   case rel=>exact ⟨k+1,by go_num,by omega,by rw [Hrn.out];exact hown7,hid ((HEA.out.alloc _).grown hgrow7 fun j hj=>(World.ownsRow.lt (hoA.alloc (.cells #[.string s1,.string s2] 57)) j hj).1)⟩
   case measure=>simp [zag];omega
  ·obtain rfl:n=k:=by omega
   rw [List.take_of_length_le (by rw [Hrl.out];exact Nat.le_refl _)] at ho;have Ho:=hid ho;clear ho;go_wp2
   go_ret
   exact ⟨_,rfl,by unfold zf4;rw [Hrl.out];exact Ho.out,HE.out⟩
theorem zjU (vp:Value)(p:List Int)(w:World)(he:Env w)(hp:Sl w vp (zak p))(hp0:0<p.length)(hp9:p.length≤100) :
  Calls Tryz.prog 8 #[vp] w fun e w'=>∃ u,e=.returned u∧zf4 w' w.heap.size u (ov (p.length - 1))∧Ext w w':=by
 obtain ⟨i0,hi,hz0,hz1,hz2⟩:=info_parts zej;have hwh:=fun W v (hE:Ext w W)(hv:Sl W v (zak (List.replicate p.length 0)))=>zjT v (List.replicate p.length 0) W (he.ext hE) hv (by rw [List.length_replicate];omega) (fun z hz=>by rw [List.eq_of_mem_replicate hz];decide);have hof:=fun W (hE:Ext w W)=>zgC 1 1 W (he.ext hE) (by decide) (by decide) (by decide);rw [show mkRat 1 1=(1:Rat) from Rat.mkRat_one 1] at hof;obtain ⟨ap,cp,rfl,_,_,_⟩:=hp.parts;rw [zam];have hrl:(zjQ (List.replicate p.length 0)).length=p.length:=by rw [zjR,List.length_replicate]
 have hrc:((rcs (zjQ (List.replicate p.length 0))).set 0 (.string (I (1:Rat).num))).set 1 (.string (I (((1:Rat).den:Nat):Int)))=rcs (ov (p.length - 1)):=by
  obtain ⟨m,hm⟩:∃ m,p.length=m+1:=⟨p.length - 1,by omega⟩;rw [hm,Nat.add_sub_cancel];unfold zjQ ov;rw [List.map_replicate,List.replicate_succ,zfz,zfz];rfl
 have hovl:(ov (p.length - 1)).length=p.length:=by rw [zit];omega
 unfold Rv at hof;generalize I (1:Rat).num=s1 at *;generalize I (((1:Rat).den:Nat):Int)=s2 at *;generalize hn:p.length=n at *;have Hwh:=hid hwh;have Hof:=hid hof;have Hrl:=hid hrl;have Hrc:=hid hrc;have Hovl:=hid hovl;clear hp he hwh hof hrl hrc hovl hn;go_enter Tryz.func8,Tryz.ntmps8
 go_wp2_with (at_make;refine wpList_make_full _ rfl _ _ 28 rfl w.heap.size 3 i0 _ 1 Tryz.underlying28 hi hz0 hz1 _ _ _ _ n rfl rfl rfl rfl (by rw [hz2];omega) (by unfold maxLen;omega) (Nat.le_refl _) ?_;intro w1 hown hgrow)
 have hx1:Ext w w1:=(Ext.refl w).grown hgrow (by simp);rw [show (Value.int .i64 0).cells=#[Value.int .i64 0] from rfl,toList_madeCells_one] at hown;have hsl:Sl w1 (.slice (some ⟨w.heap.size,0,none⟩) n n) (zak (List.replicate n 0)):=by
  have:=zai hown;rw [Nat.mul_one] at this;unfold zak;rw [List.map_replicate];exact this
 have hw1:=Hwh.out w1 _ hx1 hsl;have Hx1:=hid hx1;have Hw1:=hid hw1;clear hown hgrow hx1 hsl hw1;go_wp2_with fail
 refine Hw1.out.mono ?_;rintro e w2 ⟨u2,rfl,ho2,hx2⟩;have ho2':=ho2;unfold zf4 at ho2';rw [Hrl.out] at ho2';rcases ho2'.2 with ⟨_,h0⟩ | ⟨g,cap,cur,rfl,hbg,hg,h1,h2,h3,h4⟩
 ·omega
 ·have hf:=Hof.out w2 (Hx1.out.trans hx2);have Hf:=hid hf;have Ho2:=hid ho2';have Hx2:=hid (Hx1.out.trans hx2);have hbw:w.heap.size≤g:=Nat.le_trans Hx1.out.size hbg;clear hf ho2 ho2' hx2 hg h1 h2 h3 h4;go_wp2_with fail
  refine Hf.out.mono ?_;rintro e w3 ⟨rfl,hx3⟩;have ho3:=hx3.own Ho2.out;have c0:=World.ownsRow.cellAt ho3 0 (by omega);have c1:=World.ownsRow.cellAt ho3 1 (by omega);have hlen:(rcs (zjQ (List.replicate n 0))).length=2 * n:=by rw [zf2,Hrl.out]
  obtain ⟨e0,he0⟩:∃ q0,(rcs (zjQ (List.replicate n 0)))[0]?=some q0:=⟨_,List.getElem?_eq_getElem (by omega)⟩;obtain ⟨e1,he1⟩:∃ q0,(rcs (zjQ (List.replicate n 0)))[1]?=some q0:=⟨_,List.getElem?_eq_getElem (by omega)⟩;rw [he0] at c0;rw [he1] at c1;have f0:=zg4 ho3 0;have f1:=zg4 ho3 1;have hs0:=World.ownsRow.stored ho3 0 (.string s1);have hs1:=World.ownsRow.stored hs0.1 1 (.string s2);rw [Hrc.out] at hs1;have hE3:=((Hx2.out.trans hx3).setCell (p:=⟨g,0,none⟩) hbw (.string s1)).setCell (p:=⟨g,1,none⟩) hbw (.string s2);have Hs1:=hid (zah hs1.1 Hx1.out.size);have HE3:=hid hE3;have hni:(0:Int)<(n:Int):=by omega
  clear hs0 hs1 hE3 ho3 hx3 hlen he0 he1;go_wp2
  go_ret
  exact ⟨_,rfl,by unfold zf4;rw [Hovl.out];exact Hs1.out,HE3.out⟩
theorem zjV {r:Rat}(h1:r.num.natAbs≤30000)(h2:r.den≤1000):Sn r:=⟨h1,h2⟩
theorem zjW : Sn 0:=by unfold Sn;decide
theorem zjX {z:Int}(h:z.natAbs≤30000):Sn (z:Rat):=by
 unfold Sn;rw [Rat.num_intCast,Rat.den_intCast];exact ⟨h,by omega⟩
theorem zjY {n:Nat}{p:List Int}{x:List Rat}{c:Int}(hp:Pr p x.length)(h:Nic n x)(hc:0≤c)(hc2:c≤500)(h1:-((c * 67108864:Int):Rat)≤sF p x)(h2:sF p x≤((c * 67108864:Int):Rat)):∀ r∈x,Sn r:=by
 rcases h with ⟨_,hb⟩ | ⟨hn,hn9,ho⟩
 ·obtain ⟨a,tl,rfl⟩:∃ a tl,x=a::tl:=by
   rcases hp with ⟨_,hl⟩ | ⟨_,hl⟩ <;> (cases x with | nil=>cases hl | cons a tl=>exact ⟨a,tl,rfl⟩)
  have hA:=ziS hp hb h1 h2;match tl,hb with
  | [b],⟨A,B,ha,hb2,g1,g2⟩ =>
   obtain ⟨ha1,ha2⟩:=zfg ha
   intro r hr
   simp only [List.mem_cons,List.not_mem_nil,or_false] at hr
   rcases hr with rfl | rfl
   ·exact zjV (by omega) (by omega)
   ·rcases zfh hb2 with ⟨e1,e2⟩ | ⟨e1,e2⟩
    ·exact zjV (by omega) (by omega)
    ·exact zjV (by omega) (by omega)
  | [b,d],⟨A,B,C,ha,hb2,hd,g1,g2,g3,g4⟩ =>
   obtain ⟨ha1,ha2⟩:=zfg ha
   obtain ⟨hd1,hd2⟩:=zfg hd
   intro r hr
   simp only [List.mem_cons,List.not_mem_nil,or_false] at hr
   rcases hr with rfl | rfl | rfl
   ·exact zjV (by omega) (by omega)
   ·rcases zfh hb2 with ⟨e1,e2⟩ | ⟨e1,e2⟩
    ·exact zjV (by omega) (by omega)
    ·exact zjV (by omega) (by omega)
   ·exact zjV (by omega) (by omega)
 ·rcases hp with ⟨rfl,hl⟩ | ⟨rfl,hl⟩
  ·match x,hl,ho with
   | [a,b],_,⟨hb,A,ha⟩ =>
    subst hb
    have hbd:=ziT (s:=sF [2,3] [a,0]) hn hn9 ha (by simp only [sF,lgs.1];grind) h1 h2
    intro r hr
    simp only [List.mem_cons,List.not_mem_nil,or_false] at hr
    rcases hr with rfl | rfl
    ·exact zjV (by omega) (by omega)
    ·exact zjW
  ·match x,hl,ho with
   | [a,b,d],_,⟨hb,hd,A,ha⟩ =>
    subst hb
    subst hd
    have hbd:=ziT (s:=sF [2,3,5] [a,0,0]) hn hn9 ha (by simp only [sF,lgs.1];grind) h1 h2
    intro r hr
    simp only [List.mem_cons,List.not_mem_nil,or_false] at hr
    rcases hr with rfl | rfl | rfl
    ·exact zjV (by omega) (by omega)
    ·exact zjW
    ·exact zjW
theorem Lw.sn {p:List Int}{c:Int}{l:List (List Rat)}(h:Lw p c l)(hc:c≤500){x:List Rat}(hx:x∈l):∀ r∈x,Sn r:=by
 obtain ⟨n,hn⟩:=h.nic;exact zjY (by rw [h.len x hx];exact h.pr) (hn x hx) h.c0 hc (h.bd x hx).1 (h.bd x hx).2
theorem Lw.fl {p:List Int}{c:Int}{l:List (List Rat)}(h:Lw p c l){x:List Rat}(hx:x∈l):-c≤flP p x∧flP p x≤c:=by
 obtain ⟨n,hn⟩:=h.nic;exact zjy (by rw [h.len x hx];exact h.pr) (hn x hx) (h.bd x hx).1 (h.bd x hx).2
theorem zjZ (va vb:Value)(x y:List Rat)(bx:Nat)(w:World)(h0:w.cell? ⟨bx,0,none⟩=some va)(ha:Rd w va x)(hb:Rd w vb y)(hx:x.length≤1000)(hy:y.length≤1000) :
  Calls Tryz.prog 30 #[vb,.pointer (some ⟨bx,0,none⟩)] w fun e w'=>e=.returned (.bool (decide (x=y)))∧Ext w w':=by
 have h:=zj8 va vb x y w ha hb hx hy;obtain ⟨aa,ca,rfl,_,_,_⟩:=ha.parts;obtain ⟨ab,cb,rfl,_,_,_⟩:=hb.parts;generalize decide (x=y)=b at *;clear ha hb;have H:=hid h;clear h;go_enter Tryz.func30,Tryz.ntmps30
 go_wp2_with fail
 refine H.out.mono ?_;rintro e w1 ⟨rfl,hx1⟩;have Hx1:=hid hx1;clear hx1;go_wp2
 go_ret
 exact ⟨rfl,Hx1.out⟩
theorem zka : ∀ args w,(callFunc 30 args).run Tryz.prog w=.ok (.enter 30 args) w:=enters_of Tryz.func30 (by kernel_rfl) rfl
theorem zkb : ∀ args w,(callFunc 32 args).run Tryz.prog w=.ok (.enter 32 args) w:=enters_of Tryz.func32 (by kernel_rfl) rfl
theorem zkc {w:World}{v:Value}{x:List Rat}{n:Nat}(h:Rd w v x)(hn:x.length=n):∃ a c,v=.slice a n c∧Rd w (.slice a n c) x:=by
 obtain ⟨a,c,rfl,_,_,_⟩:=h.parts;rw [hn] at *;exact ⟨a,c,rfl,h⟩
def LcR (W:World)(vb:Value)(o:List Rat)(p:List Int)(l:List (List Rat))(k:Nat)(v:Value)(wr:World):Prop:=∃ out:List Qw,wr.ownsRow W.heap.size 32 1 v (out.length+1) (vb::qwc out)∧(∀ r∈out,zf4 wr W.heap.size r.u r.x)∧o::out.map Qw.x=zjq p [o] (l.take k)∧out.length≤k∧Ext W wr
theorem LcR.skip {W wr w':World}{vb:Value}{o:List Rat}{p:List Int}{l:List (List Rat)}{k:Nat}{v:Value}{x:List Rat}{out:List Qw}(hq:wr.ownsRow W.heap.size 32 1 v (out.length+1) (vb::qwc out))(he:∀ r∈out,zf4 wr W.heap.size r.u r.x)(hm:o::out.map Qw.x=zjq p [o] (l.take k))(hl:out.length≤k)(hE:Ext W wr)(hx:Ext wr w')(hr:l[k]?=some x)(hs:rst p x=zer p.length∨rst p x∈o::out.map Qw.x):LcR W vb o p l (k+1) v w' :=
 ⟨out,hx.own hq,fun r hr=>hx.ownQ (he r hr),by rw [zjs hr,zjo,if_pos (by rw [← hm];exact hs)];exact hm,by omega,hE.trans hx⟩
theorem LcR.more {W wr V:World}{vb:Value}{o:List Rat}{p:List Int}{l:List (List Rat)}{k:Nat}{v v7 u:Value}{x:List Rat}{out:List Qw}{ob:Obj}(hE:Ext W wr)(hq:wr.ownsRow W.heap.size 32 1 v (out.length+1) (vb::qwc out))(he:∀ r∈out,zf4 wr W.heap.size r.u r.x)(hm:o::out.map Qw.x=zjq p [o] (l.take k))(hl:out.length≤k)(hr:l[k]?=some x)(hs:¬ (rst p x=zer p.length∨rst p x∈o::out.map Qw.x))(ho:zf4 wr W.heap.size u (rst p x))
  (hown:V.ownsRow W.heap.size 32 1 v7 (out.length+1+1) ((vb::qwc out)++[u])) (hgrow:(wr.alloc ob).grownBy V v.ownBlock):LcR W vb o p l (k+1) v7 V:=by
 have hal:=World.ownsRow.alloc hq ob;have hkeep:∀ s:Qw,zf4 wr W.heap.size s.u s.x→zf4 V W.heap.size s.u s.x:=fun s hs=>World.ownsRow.kept (World.ownsRow.alloc hs ob) hgrow (zem (World.ownsRow.alloc hs ob) hal (by decide));refine ⟨out++[⟨rst p x,u,zf8 ho.rd⟩],?_,fun s hs=>?_,?_,by rw [List.length_append];simp;omega,(hE.alloc ob).grown hgrow fun k hk=>(World.ownsRow.lt hal k hk).1⟩
 ·rw [List.length_append,List.length_singleton,zjB];exact hown
 ·rcases List.mem_append.1 hs with g | g
  ·exact hkeep s (he s g)
  ·rw [List.mem_singleton] at g;subst g;exact hkeep ⟨rst p x,u,zf8 ho.rd⟩ ho
 ·rw [zjs hr,zjo,if_neg (by rw [← hm];exact hs),List.map_append,← List.cons_append,hm];rfl
structure I3 where
 a:Int
 b:Int
 c:Int
def I3.at (x:I3):Nat→Int
 | 0=>x.a
 | 1=>x.b
 | _=>x.c
def I3.ok (x:I3):Prop:=∀ i,-128≤x.at i∧x.at i≤127
def I3.v (x:I3):Value:=.agg #[.int .i8 x.a,.int .i8 x.b,.int .i8 x.c]
def dnm (x:I3)(i:Nat):Nat:=if i=1∧x.b<0 then 2 else 1
def zkd (x:I3)(i:Nat):Rat:=mkRat ((x.at i).tmod 9) (dnm x i)
def szW (n:Nat)(x:I3):List Rat:=(List.range n).map (zkd x)
theorem zke (n:Nat)(x:I3):(szW n x).length=n:=by unfold szW;simp
theorem zkf {n:Nat}{x:I3}{k:Nat}(h:k<n):(szW n x).take (k+1)=(szW n x).take k++[zkd x k]:=by
 have h2:(szW n x)[k]?=some (zkd x k):=by unfold szW;rw [List.getElem?_map,List.getElem?_range h];rfl
 obtain ⟨hk,e⟩:=List.getElem?_eq_some_iff.1 h2;rw [List.take_succ_eq_append_getElem hk,e]
theorem zkg (z:Int):(z.tmod 9).natAbs≤8:=by
 have h1:=Int.tmod_lt_of_pos z (show (0:Int)<9 by decide);have h2:=Int.lt_tmod_of_pos z (show (0:Int)<9 by decide);omega
theorem zkh {z:Int}(h:-128≤z∧z≤127):wrap64 z=z:=by
 unfold wrap64;omega
theorem zki {x:I3}{k:Nat}(h:-128≤x.at k∧x.at k≤127)(hk:k<3):wrap64 (1+wrap64 ((k:Int) % 2 * (x.at k % 256 / 128)))=(dnm x k:Int):=by
 unfold dnm;obtain rfl | rfl | rfl:k=0∨k=1∨k=2:=by omega
 ·simp [wrap64]
 ·have e:x.at 1=x.b:=rfl;rw [e] at h ⊢;by_cases hb:x.b<0
  ·have:x.b % 256 / 128=1:=(by omega);rw [this,if_pos ⟨rfl,hb⟩];simp [wrap64]
  ·have:x.b % 256 / 128=0:=(by omega);rw [this,if_neg (fun g=>hb g.2)];simp [wrap64]
 ·simp [wrap64]
theorem zkj (vp:Value)(p:List Int)(x:I3)(w:World)(he:Env w)(hp:Sl w vp (zak p))(hp3:p.length≤3)(hx:x.ok) :
  Calls Tryz.prog 6 #[vp,x.v] w fun e w'=>∃ u,e=.returned u∧zf4 w' w.heap.size u (szW p.length x)∧Ext w w':=by
 obtain ⟨i0,hi,hz0,hz1,hz2⟩:=info_parts zf5;have hof:=fun (k:Nat) W (hE:Ext w W)=>zgC ((x.at k).tmod 9) (dnm x k) W (he.ext hE) (by have:=zkg (x.at k);omega) (by unfold dnm;split <;> decide) (by unfold dnm;split <;> decide)
 obtain ⟨a,c,rfl,_,_,hc⟩:=hp.parts;have hcut:∀ k,k<p.length→(szW p.length x).take (k+1)=(szW p.length x).take k++[zkd x k]:=fun k hk=>zkf hk;have hrl:=zke p.length x;obtain ⟨W1,hW1⟩:∃ W1,W1=w.alloc (.cells #[.int .i8 x.a,.int .i8 x.b,.int .i8 x.c] 23):=⟨_,rfl⟩;have hE0:Ext w W1:=by rw [hW1];exact (Ext.refl w).alloc _
 have hb1:W1.heap[w.heap.size]?=some (.cells #[.int .i8 x.a,.int .i8 x.b,.int .i8 x.c] 23 (0,0)):=by rw [hW1];exact World.alloc_heap_new w _
 have hcell:∀ W,Ext W1 W→∀ k,k<3→W.cell? ⟨w.heap.size,k,none⟩=some (.int .i8 (x.at k)):=fun W hE k hk=>by
  have hb:=hE.heap hb1;unfold World.cell?;dsimp only;rw [hb];obtain rfl | rfl | rfl:k=0∨k=1∨k=2:=by omega
  ·rfl
  ·rfl
  ·rfl
 unfold I3.v;rw [zam];generalize hn:p.length=n at *;have Hof:=hid hof;have Hcell:=hid hcell;have Hcut:=hid hcut;have Hrl:=hid hrl;have HE0:=hid hE0;have Hx:=hid hx;clear hp hc he hof hcut hcell hrl hE0 hn hb1 hx;go_enter Tryz.func6,Tryz.ntmps6
 go_wp2_with fail
 rw [← hW1];clear hW1;go_loopw [5,6,7,10] (fun v5 v6 v7 v10 wr=>∃ k:Nat,v10=.int .i64 k∧k≤n∧wr.ownsRow W1.heap.size 57 2 v5 k (rcs ((szW n x).take k))∧Hid (Ext W1 wr)) (fun _ _ _ v10 _=>n - (zag v10).toNat)
 case atStart=>exact ⟨0,rfl,Nat.zero_le _,World.ownsRow_nil W1 _ _ 2,hid (Ext.refl _)⟩
 case round =>
  obtain ⟨k,rfl,hk,ho,HE⟩:=hrel;obtain ⟨a5,c5,rfl⟩:=zel ho;by_cases hkn:k<n
  ·have htk:=Hcut.out k hkn;have hcl:=fun W (hE:Ext w W)=>Hof.out k W hE;have hsp:mkRat ((x.at k).tmod 9) (dnm x k)=zkd x k:=rfl;rw [hsp] at hcl;unfold Rv at hcl;generalize hs1:I (zkd x k).num=s1 at *;generalize hs2:I (((zkd x k).den:Nat):Int)=s2 at *;have hrn:rcs ((szW n x).take (k+1))=rcs ((szW n x).take k)++[.string s1,.string s2]:=(by rw [htk,zf1,hs1,hs2]);have Hrn:=hid hrn;clear hrn hs1 hs2 htk hsp;have hk0:(0:Int)≤(k:Int):=(by omega);have hk1:(k:Int)<(n:Int):=(by omega);have hk3:(k:Int)<3:=(by omega);have c0:=Hcell.out wr HE.out k (by omega);have hm3:k+1≤maxLen:=(by unfold maxLen;omega);have hm4:(k+1) * 32≤140737488355328:=(by omega);have hw:wrap64 (x.at k)=x.at k:=zkh (Hx.out k);have hd:wrap64 (1+wrap64 ((k:Int) % 2 * (x.at k % 256 / 128)))=(dnm x k:Int):=zki (Hx.out k) (by omega);have Hcl:=hid hcl;have Ho:=hid ho;have Hw:=hid hw;have Hd:=hid hd;clear hcl ho hw hd;go_wp2_with fail
   rw [Hw.out,Hd.out];refine (Hcl.out wr (HE0.out.trans HE.out)).mono ?_;rintro e VA ⟨rfl,hxa⟩;have HEA:=hid (HE.out.trans hxa);have hoA:=hxa.own Ho.out;have hbase:=HEA.out.size;clear hxa c0;go_wp2_with (at_builtin;refine wpList_append_own _ rfl _ _ 32 rfl W1.heap.size 57 i0 (.agg #[.string ByteArray.empty,.string ByteArray.empty]) 2 32 Tryz.underlying32 hi hz0 hz1 hz2 rfl (by decide) _ _ _ rfl (hoA.alloc _) ⟨VA.heap.size,0,none⟩ 1 1 [.string s1,.string s2] rfl rfl (zgE VA _ _ _) (by simp [Value.oneCell']) hm3 hm4 (by rw [World.size_alloc];omega) ?_;intro v7 V7 hown7 hgrow7 _)
   go_roundw
   case rel=>exact ⟨k+1,by go_num,by omega,by rw [Hrn.out];exact hown7,hid ((HEA.out.alloc _).grown hgrow7 fun j hj=>(World.ownsRow.lt (hoA.alloc (.cells #[.string s1,.string s2] 57)) j hj).1)⟩
   case measure=>simp [zag];omega
  ·obtain rfl:n=k:=by omega
   rw [List.take_of_length_le (by rw [Hrl.out];exact Nat.le_refl _)] at ho;have Ho:=hid ho;clear ho;go_wp2
   go_ret
   exact ⟨_,rfl,by unfold zf4;rw [Hrl.out];exact zah Ho.out HE0.out.size,HE0.out.trans HE.out⟩
end Go.Proofs.YtoehmpbipbbffaaGreatDoor

namespace Go.Proofs.YtoehmpbipbbffaaGreatDoor
open Go.RowKit Go.Lib
def sz3 (p:List Int)(A B C:Int):List Rat:=if p.length=2 then [(A:Rat),(B:Rat) / 2] else [(A:Rat),(B:Rat) / 2,(C:Rat)]
theorem zkk (B:Int):(B:Rat) / 2 * 2=B:=by grind
theorem zkl (A B C:Int):sz3 [2,3] A B C=[(A:Rat),(B:Rat) / 2]:=rfl
theorem zkm (A B C:Int):sz3 [2,3,5] A B C=[(A:Rat),(B:Rat) / 2,(C:Rat)]:=rfl
def Pw (p:List Int):Prop:=p=[2,3]∨p=[2,3,5]
theorem Pw.pr {p:List Int}(h:Pw p):Pr p p.length:=by
 rcases h with rfl | rfl
 ·exact .inl ⟨rfl,rfl⟩
 ·exact .inr ⟨rfl,rfl⟩
theorem zkn {p:List Int}(h:Pw p)(A B C:Int):(sz3 p A B C).length=p.length:=by rcases h with rfl | rfl <;> rfl
theorem zko {p:List Int}(h:Pw p):zer p.length=sz3 p 0 0 0:=by rcases h with rfl | rfl <;> decide +kernel
theorem zkp {p:List Int}(h:Pw p)(A B C A' B' C':Int):zeT (sz3 p A B C) (sz3 p A' B' C')=sz3 p (A - A') (B - B') (C - C'):=by
 rcases h with rfl | rfl
 ·rw [zkl,zkl,zkl,Rat.intCast_sub,Rat.intCast_sub];have e:(B:Rat) / 2 - (B':Rat) / 2=((B:Rat) - (B':Rat)) / 2:=by grind
  simp only [zeT,List.zipWith_cons_cons,List.zipWith_nil_left,e]
 ·rw [zkm,zkm,zkm,Rat.intCast_sub,Rat.intCast_sub,Rat.intCast_sub];have e:(B:Rat) / 2 - (B':Rat) / 2=((B:Rat) - (B':Rat)) / 2:=by grind
  simp only [zeT,List.zipWith_cons_cons,List.zipWith_nil_left,e]
theorem zkq {p:List Int}(h:Pw p)(A B C k:Int):zeU (sz3 p A B C) (k:Rat)=sz3 p (A * k) (B * k) (C * k):=by
 have e:(B:Rat) / 2 * (k:Rat)=(B:Rat) * (k:Rat) / 2:=by grind
 rcases h with rfl | rfl
 ·rw [zkl,zkl,Rat.intCast_mul,Rat.intCast_mul];simp only [zeU,List.map_cons,List.map_nil,e]
 ·rw [zkm,zkm,Rat.intCast_mul,Rat.intCast_mul,Rat.intCast_mul];simp only [zeU,List.map_cons,List.map_nil,e]
theorem zkr {p:List Int}(hp:Pw p)(x:I3):∃ A B C:Int,(-8≤A∧A≤8)∧(-16≤B∧B≤16)∧(-8≤C∧C≤8)∧szW p.length x=sz3 p A B C:=by
 have ha:=zkg x.a;have hb:=zkg x.b;have hc:=zkg x.c;have e0:zkd x 0=((x.a.tmod 9:Int):Rat):=Rat.mkRat_one _;have e2:zkd x 2=((x.c.tmod 9:Int):Rat):=Rat.mkRat_one _;have e1:zkd x 1=(((if x.b<0 then x.b.tmod 9 else x.b.tmod 9 * 2):Int):Rat) / 2:=by
  unfold zkd dnm;rw [show x.at 1=x.b from rfl];by_cases h:x.b<0
  ·rw [if_pos ⟨rfl,h⟩,if_pos h,Rat.mkRat_eq_div];rfl
  ·rw [if_neg (fun g=>h g.2),if_neg h,Rat.mkRat_one,Rat.intCast_mul,show ((2:Int):Rat)=2 from rfl];grind
 refine ⟨x.a.tmod 9,if x.b<0 then x.b.tmod 9 else x.b.tmod 9 * 2,x.c.tmod 9,by omega,by split <;> omega,by omega,?_⟩
 rcases hp with rfl | rfl
 ·rw [zkl];show [zkd x 0,zkd x 1]=_;rw [e0,e1]
 ·rw [zkm];show [zkd x 0,zkd x 1,zkd x 2]=_;rw [e0,e1,e2]
structure Wl where
 three:Bool
 kind:Nat
 num:Nat
 xs:Nat→I3
namespace Wl
def p (a:Wl):List Int:=if a.three then [2,3,5] else [2,3]
def n (a:Wl):Nat:=1+a.num % 9
def sizes (a:Wl):List (List Rat):=if a.kind % 3=0 then zjN (zeU (ov (a.p.length - 1)) (mkRat 1 a.n)) 1 a.n else if a.kind % 3=1 then zjN (szW a.p.length (a.xs 0)) 0 a.n else (List.range (min a.n 8)).map fun i=>szW a.p.length (a.xs i)
structure Ok (a:Wl):Prop where
 kind:a.kind<256
 num:a.num<256
 xs:∀ i,(a.xs i).ok
theorem pw (a:Wl):Pw a.p:=by unfold p;split <;> first | exact .inl rfl | exact .inr rfl
theorem n9 (a:Wl):0<a.n∧a.n≤9:=by unfold n;omega
theorem few (a:Wl):a.sizes.length≤9:=by
 have:=a.n9;unfold sizes;split
 ·rw [zjP];omega
 ·split
  ·rw [zjP];omega
  ·rw [List.length_map,List.length_range];omega
end Wl
end Go.Proofs.YtoehmpbipbbffaaGreatDoor
