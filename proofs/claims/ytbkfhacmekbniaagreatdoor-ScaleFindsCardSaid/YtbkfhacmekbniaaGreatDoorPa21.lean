/- Walks: slices.IndexFunc and slices.ContainsFunc at lists of sizes, with a closure that makes memory. What the reduction asks of sizes; the closure of scale.collect. Walk: scale.collect of at most nine sizes. -/
import Derived.Test.YtbkfhacmekbniaaGreatDoorPa08
import Derived.Shelf.Abstract
import Derived.Test.YtbkfhacmekbniaaGreatDoorPa19
import Derived.Test.YtbkfhacmekbniaaGreatDoorPa18
import Derived.Test.YtbkfhacmekbniaaGreatDoorPa20
import Derived.Test.YtbkfhacmekbniaaGreatDoorPa05
set_option maxRecDepth 100000
set_option maxHeartbeats 1000000
namespace Go.Proofs.YtbkfhacmekbniaaGreatDoor
section
open Go.RowKit Go.Lib Go.Shelf
def zkt (P:List Rat→Bool)(rs:List Qw)(z:Int):Prop:=(z=-1∧∀ r∈rs,P r.x=false)∨∃ (k:Nat)(r:Qw),z=k∧rs[k]?=some r∧P r.x=true∧∀ s∈rs.take k,P s.x=false
theorem zkt.any {P:List Rat→Bool}{rs:List Qw}{z:Int}(h:zkt P rs z):rs.any (fun r=>P r.x)=decide (0≤z):=by
 rcases h with ⟨rfl,h⟩ | ⟨k,r,rfl,h1,h2,_⟩
 ·rw [show decide ((0:Int)≤-1)=false by decide,List.any_eq_false];intro r hr;rw [h r hr];simp
 ·rw [show decide ((0:Int)≤(k:Int))=true from decide_eq_true (by omega),List.any_eq_true];exact ⟨r,List.mem_of_getElem? h1,h2⟩
theorem zku (g:Nat)(cb:Array Value)(v:Value)(rs:List Qw)(P:List Rat→Bool)(w:World)(hv:Sl w v (qwc rs))(hl:rs.length≤1000)
  (eg:∀ args w,(callFunc g args).run Tryz.prog w=.ok (.enter g args) w)
  (hp:∀ W,Ext w W→∀ r∈rs,Calls Tryz.prog g (#[r.u]++cb) W fun e w'=>e=.returned (.bool (P r.x))∧Ext W w') :
  Calls Tryz.prog 24 #[v,.func (.func g) #[] cb] w fun e w'=>∃ z:Int,e=.returned (.int .i64 z)∧zkt P rs z∧Ext w w':=by
 obtain ⟨a,c,rfl,_,_,hc⟩:=hv.parts;rw [zf9];have hcell:∀ k r,rs[k]?=some r→∃ b off,a=some ⟨b,off,none⟩∧w.cell? ⟨b,off+k,none⟩=some r.u:=fun k r hr=>hc k r.u (by unfold qwc;rw [List.getElem?_map,hr];rfl);generalize hn:rs.length=n at *;have Hn:=hid hn;have Hp:=hid hp;have Hc:=hid hcell;clear hv hc hn hp hcell;go_enter Tryz.func24,Tryz.ntmps24
 go_wp2_with fail
 go_loopw [5,8] (fun v5 v8 wr=>∃ k:Nat,v8=.int .i64 k∧k≤n∧(∀ s∈rs.take k,P s.x=false)∧Ext w wr) (fun _ v8 _=>n - (zag v8).toNat)
 case atStart=>exact ⟨0,rfl,Nat.zero_le _,fun r h=>by simp at h,Ext.refl _⟩
 case round =>
  obtain ⟨k,rfl,hk,hall,hE⟩:=hrel;have Hall:=hid hall;clear hall;by_cases hlt:k<n
  ·obtain ⟨r,hr⟩:∃ r,rs[k]?=some r:=⟨_,List.getElem?_eq_getElem (by rw [Hn.out];exact hlt)⟩;obtain ⟨b,off,rfl,h0⟩:=Hc.out k r hr;have hc0:=hE.cell h0;have hd:=Hp.out wr hE r (List.mem_of_getElem? hr);have HE:=hid hE;have Hr:=hid hr;clear hr h0 hE;generalize r.u=u at *;generalize hdx:P r.x=dx at *;have Hd:=hid hd;have Hdx:=hid hdx;clear hd hdx;have hk0:(0:Int)≤(k:Int):=(by omega);have hk1:(k:Int)<(n:Int):=(by omega);go_wp2_with fail
   refine Hd.out.mono ?_;rintro e W2 ⟨rfl,hx2⟩;have HE2:=hid (HE.out.trans hx2);clear hx2
   cases dx with
   | true =>
    go_wp2
    go_ret
    exact ⟨_,rfl,.inr ⟨k,r,rfl,Hr.out,Hdx.out,Hall.out⟩,HE2.out⟩
   | false =>
    go_wp2_with fail
    go_roundw
    case rel=>exact ⟨k+1,by go_num,hlt,fun s hs=>by
     obtain ⟨hl2,e⟩:=List.getElem?_eq_some_iff.1 Hr.out;rw [List.take_succ_eq_append_getElem hl2] at hs;rcases List.mem_append.1 hs with h | h
     ·exact Hall.out s h
     ·rw [List.mem_singleton] at h;rw [h,e];exact Hdx.out,HE2.out⟩
    case measure=>simp [zag];omega
  ·have hkk:¬ (k:Int)<(n:Int):=(by omega);have hkl:k=n:=(by omega);have Hkl:=hid hkl;clear hkl;have HE:=hid hE;clear hE;go_wp2
   go_ret
   exact ⟨-1,rfl,.inl ⟨rfl,fun r hr=>Hall.out r (by rw [Hkl.out,← Hn.out,List.take_length];exact hr)⟩,HE.out⟩
theorem zkv (g:Nat)(cb:Array Value)(v:Value)(rs:List Qw)(P:List Rat→Bool)(w:World)(hv:Sl w v (qwc rs))(hl:rs.length≤1000)
  (eg:∀ args w,(callFunc g args).run Tryz.prog w=.ok (.enter g args) w)
  (hp:∀ W,Ext w W→∀ r∈rs,Calls Tryz.prog g (#[r.u]++cb) W fun e w'=>e=.returned (.bool (P r.x))∧Ext W w') :
  Calls Tryz.prog 43 #[v,.func (.func g) #[] cb] w fun e w'=>e=.returned (.bool (rs.any fun r=>P r.x))∧Ext w w':=by
 have hi:=zku g cb v rs P w hv hl eg hp;obtain ⟨a,c,rfl,_,_,_⟩:=hv.parts;have Hi:=hid hi;clear hi hp hv;go_enter Tryz.func43,Tryz.ntmps43
 go_wp2_with fail
 refine Hi.out.mono ?_;rintro e w1 ⟨z,rfl,hz,hx⟩;have Hz:=hid hz.any;have Hx:=hid hx;clear hz hx;go_wp2
 go_ret
 exact ⟨by rw [Hz.out];rfl,Hx.out⟩
theorem zkw {q:Int}:∀ {x:List Rat},zeU x (shf q (zer x.length))=shf q x
 | []=>rfl
 | a::x=>by
  unfold zer zeU;rw [List.length_cons,List.replicate_succ];simp only [shf,List.zipWith_cons_cons];congr 1
  ·grind
  ·have:∀ l:List Rat,List.zipWith (·+·) l (List.replicate l.length 0)=l:=fun l=>by
    induction l with
    | nil=>rfl
    | cons b l ih=>rw [List.length_cons,List.replicate_succ,List.zipWith_cons_cons,ih];congr 1;grind
   exact this x
theorem zkx {k:Nat}{z:Int}(h:z.natAbs<10 ^ k)(hk:0<k):Ft k (z:Rat):=by
 refine ⟨?_,?_⟩
 ·rw [Rat.num_intCast];exact Dec.nDigits_le hk h
 ·rw [Rat.den_intCast];exact Dec.nDigits_le hk (Nat.one_lt_pow (by omega) (by decide))
structure zky (p:List Int)(a:Rat)(tl:List Rat):Prop where
 len:tl.length+1=p.length
 pr:Pr p (tl.length+1)
 ft:∀ q∈a::tl,Ft 30 q
 qf:QF p (a::tl)
 fk:Ft 400 ((-flP p (a::tl):Int):Rat)
 fit:Fit (flP p (a::tl))
 res:∀ q∈rst p (a::tl),Ft 30 q
theorem Lw.red {p:List Int}{c:Int}{l:List (List Rat)}(h:Lw p c l){x:List Rat}(hx:x∈l):∃ a tl,x=a::tl∧zky p a tl:=by
 obtain ⟨n,hn⟩:=h.nic;have hl:=h.len x hx;have hp:Pr p x.length:=by rw [hl];exact h.pr
 have hq:=h.quick x hx;have hr:=h.range hx;have hni:=hn x hx;have hfl:=zjS hp hni (h.bd x hx).1 (h.bd x hx).2;have hc:=h.c1;have hrq:ziz p (rst p x):=zjz (c:=1) (by unfold rst;rw [zj5];exact hp) (zjC hni) (by omega) (by omega) (by
  rw [show ((1 * 67108864:Int):Rat)=67108864 from rfl];grind) (by
  rw [show ((1 * 67108864:Int):Rat)=67108864 from rfl];grind)
 obtain ⟨a,tl,rfl,htl,hb⟩:=zjQ hp hni;refine ⟨a,tl,rfl,htl,hp,hq.1,?_,?_,?_,hrq.1⟩
 ·by_cases hz:∀ r∈tl,r=0
  ·left;rw [List.tail_cons,List.all_eq_true];simpa using hz
  ·have hbx:=hb.resolve_right hz;have hA:=zjx hp hbx (h.bd _ hx).1 (h.bd _ hx).2;exact (ziR (m:=100000) hp hbx (by omega) (by omega) (fun a' ha'=>by cases ha';omega)).qf hp hbx
 ·exact (zkx (k:=5) (by show _<100000;omega) (by omega)).mono (by omega)
 ·show nDigits _≤_;have:=Dec.nDigits_le (n:=(flP p (a::tl)).natAbs) (k:=5) (by omega) (by show _<100000;omega);omega
theorem zky.eq {p:List Int}{a:Rat}{tl:List Rat}(_h:zky p a tl):zeU (a::tl) (zeW (ov tl.length) ((-flP p (a::tl):Int):Rat))=rst p (a::tl):=by
 rw [zjD];exact zkw (x:=a::tl)
theorem zkz (va vb:Value)(x y:List Rat)(bx:Nat)(w:World)(h0:w.cell? ⟨bx,0,none⟩=some va)(ha:Rd w va x)(hb:Rd w vb y)(hx:x.length≤1000)(hy:y.length≤1000) :
  Calls Tryz.prog 75 #[vb,.pointer (some ⟨bx,0,none⟩)] w fun e w'=>e=.returned (.bool (decide (x=y)))∧Ext w w':=by
 have h:=zkk va vb x y w ha hb hx hy;obtain ⟨aa,ca,rfl,_,_,_⟩:=ha.parts;obtain ⟨ab,cb,rfl,_,_,_⟩:=hb.parts;generalize decide (x=y)=b at *;clear ha hb;have H:=hid h;clear h;go_enter Tryz.func75,Tryz.ntmps75
 go_wp2_with fail
 refine H.out.mono ?_;rintro e w1 ⟨rfl,hx1⟩;have Hx1:=hid hx1;clear hx1;go_wp2
 go_ret
 exact ⟨rfl,Hx1.out⟩
theorem zk0 : ∀ args w,(callFunc 75 args).run Tryz.prog w=.ok (.enter 75 args) w:=enters_of Tryz.func75 (by kernel_rfl) rfl
end
section
open Go.RowKit Go.Lib Go.Shelf
attribute [local go_sem] Oper.semAt_some
theorem zk1 (r:Rat):sgQ r<0 ↔ r<0:=by
 unfold sgQ;constructor
 ·intro h;by_cases g:r<0
  ·exact g
  ·rw [if_neg g] at h;split at h <;> omega
 ·intro h;rw [if_pos h];decide
theorem Lw.cmpb {p:List Int}{c:Int}{l N:List (List Rat)}(h:Lw p c l)(hN:∀ x∈N,x=zer p.length∨x=ov (p.length - 1)∨∃ z∈l,x=rst p z):zkg p N:=by
 obtain ⟨n,hn⟩:=h.play;have hlen:∀ x∈N,x.length=p.length:=fun x hx=>(hn x x (hN x hx) (hN x hx)).1;have hb:∀ x∈N,0≤sF p x∧sF p x≤67108864:=fun x hx=>by
  rcases hN x hx with e | e | ⟨z,hz,e⟩
  ·rw [e,zjG];exact ⟨Rat.le_refl,by decide⟩
  ·rw [e,sov h.pr];exact ⟨by decide,Rat.le_refl⟩
  ·rw [e];have:=h.range hz;exact ⟨this.1,Rat.le_of_lt this.2⟩
 have hpe:zee p=0∧p.length≤100:=by rcases h.pr with ⟨e,_⟩ | ⟨e,_⟩ <;> rw [e] <;> decide
 have hpx:∀ x:List Rat,x.length=p.length→Pr p x.length:=fun x e=>by rw [e];exact h.pr
 have h1:((1 * 67108864:Int):Rat)=67108864:=rfl;refine ⟨hpe.1,hpe.2,hlen,fun x hx=>?_,fun x hx y hy=>?_,fun x hx y hy=>?_⟩
 ·have hz:=(hn x (zer p.length) (hN x hx) (.inl rfl)).2;rw [← hlen x hx,zj2] at hz;have b:=hb x hx;exact (zjz (c:=1) (hpx x (hlen x hx)) hz (by omega) (by omega) (by rw [h1];grind) (by rw [h1];exact b.2)).1
 ·have b1:=hb x hx;have b2:=hb y hy;have hl:=hlen x hx;have hl2:=hlen y hy;have hs:=zeX p x y (hl.trans hl2.symm);exact zjz (c:=1) (hpx _ ((zj1 (hl.trans hl2.symm)).trans hl)) (hn x y (hN x hx) (hN y hy)).2 (by omega) (by omega) (by rw [h1];grind) (by rw [h1];grind)
 ·have hl:=hlen x hx;have hl2:=hlen y hy;rw [zfx (hpx _ ((zj1 (hl.trans hl2.symm)).trans hl)) (hn x y (hN x hx) (hN y hy)).2.nice,zk1,zeX p x y (hl.trans hl2.symm)];constructor <;> intro g <;> grind
def ScO (w:World)(B:Nat)(v:Value)(p:List Int)(rs:List Qw):Prop:=∃ vp vn,v=.agg #[vp,vn]∧zek w B vp p∧QwM w B B vn rs
theorem ScO.ext {w w':World}{B:Nat}{v:Value}{p:List Int}{rs:List Qw}(hx:Ext w w')(h:ScO w B v p rs):ScO w' B v p rs:=by
 obtain ⟨vp,vn,e,a,b⟩:=h;exact ⟨vp,vn,e,hx.own a,hx.qwM b⟩
theorem ScO.mono {w:World}{B B':Nat}{v:Value}{p:List Int}{rs:List Qw}(h:ScO w B v p rs)(hB:B'≤B):ScO w B' v p rs:=by
 obtain ⟨vp,vn,e,a,b⟩:=h;exact ⟨vp,vn,e,zah a hB,b.mono hB hB⟩
theorem QwM.set {W:World}{b B:Nat}{v:Value}{rs:List Qw}(h:QwM W b B v rs){c:Nat}{cs:Array Value}(hc:W.heap[c]?=some (.cells cs 36 (0,0)))(k:Nat)(u:Value):QwM (W.setCell ⟨c,k,none⟩ u) b B v rs :=
 ⟨zgk hc h.1 (by decide) k u,fun r hr=>zgk hc (h.2 r hr) (by decide) k u⟩
theorem QwM.more2 {w0 W V:World}{b B:Nat}{o:Obj}{v v7:Value}{rs:List Qw}{r:Qw}(hE:Ext w0 W)(hB:w0.heap.size≤B)(h:QwM W b B v rs)(hr:zf6 W b r.u r.x)
  (hown:V.ownsRow B 32 1 v7 (rs.length+1) (qwc rs++[r.u])) (hgrow:(W.alloc o).grownBy V v.ownBlock):QwM V b B v7 (rs++[r])∧Ext w0 V:=by
 have hal:=h.1.alloc o;have hkeep:∀ s:Qw,zf6 W b s.u s.x→zf6 V b s.u s.x:=fun s hs=>World.ownsRow.kept (World.ownsRow.alloc hs o) hgrow (zem (World.ownsRow.alloc hs o) hal (by decide));refine ⟨⟨?_,fun s hs=>?_⟩,(hE.alloc o).grown hgrow fun k hk=>Nat.le_trans hB (World.ownsRow.lt hal k hk).1⟩
 ·rw [List.length_append,List.length_singleton,zkn];exact hown
 ·rcases List.mem_append.1 hs with g | g
  ·exact hkeep s (h.2 s g)
  ·rw [List.mem_singleton] at g;subst g;exact hkeep s hr
def NtR (b:Nat)(W6:World)(bs:Nat)(vp:Value)(xs:List (List Rat))(wr:World):Prop:=∃ (vn:Value)(nts:List Qw),zdV 36 wr bs vp vn∧QwM wr b W6.heap.size vn nts∧nts.map Qw.x=xs∧Ext W6 wr
theorem NtR.more {b:Nat}{W6 W V:World}{bs:Nat}{vp vn v7 u:Value}{x:List Rat}{nts:List Qw}{xs:List (List Rat)}{o:Obj}(hbs:W6.heap.size≤bs)(hb:zdV 36 W bs vp vn)(hq:QwM W b W6.heap.size vn nts)(hm:nts.map Qw.x=xs)(hE:Ext W6 W)(ho:zf6 W b u x)
  (hown:V.ownsRow W6.heap.size 32 1 v7 (nts.length+1) (qwc nts++[u])) (hgrow:(W.alloc o).grownBy V vn.ownBlock):NtR b W6 bs vp (xs++[x]) (V.setCell ⟨bs,1,none⟩ v7):=by
 have h1:=QwM.more2 (r:=⟨_,u,zfA ho.rd⟩) hE (Nat.le_refl _) hq ho hown hgrow;have hbV:zdV 36 V bs vp vn:=zgh (((Ext.refl W).alloc o).heap hb) (World.ownsRow.alloc hq.1 o) (by decide) hgrow;exact ⟨v7,_,hbV.put1 v7,h1.1.set hbV 1 v7,by rw [List.map_append,hm];rfl,h1.2.setCell hbs v7⟩
theorem NtR.ext {b:Nat}{W6 wr w':World}{bs:Nat}{vp:Value}{xs:List (List Rat)}(h:NtR b W6 bs vp xs wr)(hx:Ext wr w'):NtR b W6 bs vp xs w':=by
 obtain ⟨vn,nts,h1,h2,h3,h4⟩:=h;exact ⟨vn,nts,h1.ext hx,hx.qwM h2,h3,h4.trans hx⟩
theorem s6 {w6 w':World}{a:Addr}{u:Value}(h6:w6.cell? a=some u)(h:Ext w6 w'):Ext w6 w'∧w'.cell? a=some u:=⟨h,h.cell h6⟩
def CoR (W:World)(p:List Int)(l:List (List Rat))(k:Nat)(v:Value)(wr:World):Prop:=∃ out:List Qw,QwM wr W.heap.size W.heap.size v out∧out.map Qw.x=zjK p [] (l.take k)∧out.length≤k∧Ext W wr
theorem CoR.skip {W wr w':World}{p:List Int}{l:List (List Rat)}{k:Nat}{v:Value}{x:List Rat}{out:List Qw}(hq:QwM wr W.heap.size W.heap.size v out)(hm:out.map Qw.x=zjK p [] (l.take k))(hl:out.length≤k)(hE:Ext W wr)(hx:Ext wr w')(hr:l[k]?=some x)(hs:rst p x=zer p.length∨rst p x∈out.map Qw.x):CoR W p l (k+1) v w' :=
 ⟨out,hx.qwM hq,by rw [zjM hr,zjJ,if_pos (by rw [← hm];exact hs)];exact hm,by omega,hE.trans hx⟩
theorem CoR.more {W wr V:World}{p:List Int}{l:List (List Rat)}{k:Nat}{v v7 u:Value}{x:List Rat}{out:List Qw}{o:Obj}(hE:Ext W wr)(hq:QwM wr W.heap.size W.heap.size v out)(hm:out.map Qw.x=zjK p [] (l.take k))(hl:out.length≤k)(hr:l[k]?=some x)(hs:¬ (rst p x=zer p.length∨rst p x∈out.map Qw.x))(ho:zf6 wr W.heap.size u (rst p x))
  (hown:V.ownsRow W.heap.size 32 1 v7 (out.length+1) (qwc out++[u])) (hgrow:(wr.alloc o).grownBy V v.ownBlock):CoR W p l (k+1) v7 V:=by
 have:=QwM.more (r:=⟨_,u,zfA ho.rd⟩) hE hq ho hown hgrow;exact ⟨_,this.1,by rw [zjM hr,zjJ,if_neg (by rw [← hm];exact hs),List.map_append,hm];rfl,by rw [List.length_append];simp;omega,this.2⟩
theorem zk2 {p:List Int}{c:Int}{l:List (List Rat)}{out:List Qw}{ord:List Nat}{getX:Nat→List Rat}(h:Lw p c l)(hperm:ord.Perm (List.range out.length))(hsort:ord.Pairwise fun i k=>zkh p out i≤zkh p out k)(hfull:out.map Qw.x=zjK p [] l)(hg:getX=fun i=>((out[i]?).map Qw.x).getD []):zjT p l (ord.map getX++[ov (p.length - 1)]):=by
 have e:(List.range out.length).map getX=out.map Qw.x:=by
  apply List.ext_getElem?;intro i;rw [List.getElem?_map,List.getElem?_map,hg];rcases Nat.lt_or_ge i out.length with g | g
  ·rw [List.getElem?_range g,List.getElem?_eq_getElem g];simp [g]
  ·rw [List.getElem?_eq_none (by simpa using g),List.getElem?_eq_none g];rfl
 refine zka h ?_ ?_
 ·rw [← hfull,← e];exact hperm.map getX
 ·rw [List.pairwise_map];refine hsort.imp fun {a b} g=>?_;rw [hg];exact g
theorem zk3 (vp vb vl:Value)(p:List Int)(c:Int)(rs:List Qw)(w:World)(he:Env w)(hp:Sl w vp (zak p))(hb:Rd w vb (ov (p.length - 1)))(hl:RdM w vl rs)(hL:Lw p c (rs.map Qw.x))(hn9:rs.length≤9) :
  Calls Tryz.prog 40 #[vp,vb,vl] w fun e w'=>∃ v out,e=.returned (.tuple #[v,.int .i64 0])∧ScO w' w.heap.size v p out∧zjT p (rs.map Qw.x) (out.map Qw.x)∧Ext w w':=by
 obtain ⟨j0,hj,hy0,hy1,hy2⟩:=info_parts zf8;have hpe:zee p=0∧p.length≤100∧0<p.length:=by rcases hL.pr with ⟨e,_⟩ | ⟨e,_⟩ <;> rw [e] <;> decide
 have hz:=fun W (hE:Ext w W)=>zip vp p W (he.ext hE) (hE.sl hp) hpe.1;have hred:=fun (r:Qw)(hr:r∈rs) W (hE:Ext w W)=>(show Calls Tryz.prog 52 #[vp,vb,r.u] W fun e w'=>∃ g,e=.returned (.tuple #[.slice (some ⟨g,0,none⟩) p.length p.length,.string (I (flP p r.x)),.int .i64 0])∧zf6 w' W.heap.size (.slice (some ⟨g,0,none⟩) p.length p.length) (rst p r.x)∧Ext W w' from by
  obtain ⟨a,tl,e,h⟩:=hL.red (List.mem_map_of_mem hr);have hrd:=hE.rd (hl.2 r hr);rw [e] at hrd ⊢;have hlt:tl.length=p.length - 1:=by have:=h.len;omega
  have:=zji vp r.u vb p a tl W (he.ext hE) (hE.sl hp) hrd (hE.rd (by rw [hlt];exact hb)) hpe.1 h.pr h.ft h.qf h.fk h.fit (by rw [h.eq];exact h.res);rw [h.eq] at this;exact this)
 have hrl:∀ r∈rs,(rst p r.x).length=p.length:=fun r hr=>by unfold rst;rw [zj5];exact hL.len _ (List.mem_map_of_mem hr)
 have heq:=fun W va vb x y (ha:Rd W va x)(hb:Rd W vb y)(hx:x.length=p.length)(hy:y.length=p.length)=>zkk va vb x y W ha hb (by omega) (by omega);have hcon:=fun W bx va x v out (h0:W.cell? ⟨bx,0,none⟩=some va)(ha:Rd W va x)(hx:x.length=p.length)(hv:RdM W v out)(ho:out.length≤9)(hol:∀ r∈out,r.x.length=p.length)=>zkv 75 #[.pointer (some ⟨bx,0,none⟩)] v out (fun y=>decide (x=y)) W hv.1 (by omega) zk0 (fun W2 hE r hr=>zkz va r.u x r.x bx W2 (hE.cell h0) (hE.rd ha) (hE.rd (hv.2 r hr)) (by omega) (by have:=hol r hr;omega));have hone:=fun (r:Qw)(hr:r∈rs)=>(hl.2 r hr).parts;have hlen:=fun (r:Qw)(hr:r∈rs)=>hL.len _ (List.mem_map_of_mem (f:=Qw.x) hr);obtain ⟨ap,cp,rfl,_,_,_⟩:=hp.parts;obtain ⟨ab,cb,rfl,_,_,_⟩:=hb.parts;obtain ⟨al,cl,rfl,_,_,hc⟩:=hl.1.parts;rw [zam] at *;rw [zf9] at *;have hovl:(ov (p.length - 1)).length=p.length:=by rw [ziF];omega
 simp only [hovl] at hred hb ⊢;generalize hn:rs.length=n at *;have Hn:=hid hn;have hE0:Ext w (w.alloc (.cells #[.slice none 0 0,.slice none 0 0] 36)):=(Ext.refl w).alloc _;have b0:=zdV.new 36 w (.slice none 0 0) (.slice none 0 0);have Hp:=hid hp;have Hb:=hid hb;have Hl:=hid hl;have HL:=hid hL;have He:=hid he;have Hpe:=hid hpe;have Hz:=hid hz;have Hred:=hid hred;have Hrl:=hid hrl;have Heq:=hid heq;have Hcon:=hid hcon;have Hone:=hid hone;have Hlen:=hid hlen;have Hc:=hid hc;have HE0:=hid hE0;have B0:=hid b0;clear hp hb hl hL he hpe hz hred hrl heq hcon hone hlen hc hE0 b0 hovl hn;go_enter Tryz.func40,Tryz.ntmps40
 go_wp2_with fail
 refine (Hz.out _ HE0.out).mono ?_;rintro e w1 ⟨rfl,hoz,hx1⟩;obtain ⟨gz,hgz⟩:∃ g,g=(w.alloc (.cells #[.slice none 0 0,.slice none 0 0] 36)).heap.size:=⟨_,rfl⟩;rw [← hgz] at hoz ⊢;clear hgz;have Hoz:=hid hoz.rd;have Hx1:=hid hx1;have Hx1w:=hid hx1;clear hoz hx1;go_wp2_with fail
 go_loopw [10,12,13,14,15,28] (fun v10 v12 v13 v14 v15 v28 wr=>∃ k:Nat,v28=.int .i64 k∧k≤n∧CoR w1 p (rs.map Qw.x) k v10 wr) (fun _ _ _ _ _ v28 _=>n - (zag v28).toNat)
 case atStart=>exact ⟨0,rfl,Nat.zero_le _,⟨[],QwM.nil _ _ _,rfl,Nat.le_refl _,Ext.refl _⟩⟩
 case round =>
  obtain ⟨k,rfl,hk,⟨out,hq,hmq,hlq,hE⟩⟩:=hrel;obtain ⟨a10,c10,rfl⟩:=zel hq.1;have hEw:=(HE0.out.trans Hx1.out).trans hE;by_cases hkn:k<n
  ·obtain ⟨r,hr⟩:∃ r,rs[k]?=some r:=⟨_,List.getElem?_eq_getElem (by rw [Hn.out];exact hkn)⟩;have hmem:=List.mem_of_getElem? hr;obtain ⟨b,off,rfl,hc0⟩:=Hc.out k r.u (by unfold qwc;rw [List.getElem?_map,hr];rfl);obtain ⟨ar,cr,hru,_,_,_⟩:=Hone.out r hmem;have hcu:=hEw.cell hc0;have hrl:r.x.length=p.length:=Hlen.out r hmem;rw [hru,hrl] at hcu;have hrd:=Hred.out r hmem wr hEw;rw [hru,hrl] at hrd;have hrrl:=Hrl.out r hmem;have hrx:(rs.map Qw.x)[k]?=some r.x:=(by rw [List.getElem?_map,hr];rfl);have hol:∀ s∈out,s.x.length=p.length:=fun s hs=>by
    have h1:=List.mem_map_of_mem (f:=Qw.x) hs;rw [hmq] at h1;rcases (zjO _ _ _).1 h1 with e | ⟨_,z,hz,e⟩
    ·cases e
    ·rw [e];unfold rst;rw [zj5];exact HL.out.len z (List.mem_of_mem_take hz)
   have hk0:(0:Int)≤(k:Int):=(by omega);have hk1:(k:Int)<(n:Int):=(by omega);generalize I (flP p r.x)=sfl at *;have Hrd:=hid hrd;have Hrrl:=hid hrrl;have Hrx:=hid hrx;have Hol:=hid hol;have Hq:=hid hq;have Hmq:=hid hmq;have Hlq:=hid hlq;have HE:=hid hE;have HEw:=hid hEw;clear hrd hrrl hrx hol hq hmq hE hEw hrl hru hc0 hmem hr;go_wp2_with fail
   refine Hrd.out.mono ?_;rintro e w3 ⟨g3,rfl,ho3,hx3⟩;have hbx:(w3.alloc (.cells #[.slice (some ⟨g3,0,none⟩) p.length p.length] 32)).cell? ⟨w3.heap.size,0,none⟩=some (.slice (some ⟨g3,0,none⟩) p.length p.length):=(by unfold World.cell?;rw [World.alloc_heap_new w3 _];rfl);have hE4:Ext wr (w3.alloc (.cells #[.slice (some ⟨g3,0,none⟩) p.length p.length] 32)):=hx3.alloc _;have ho4:zf6 (w3.alloc (.cells #[.slice (some ⟨g3,0,none⟩) p.length p.length] 32)) w1.heap.size (.slice (some ⟨g3,0,none⟩) p.length p.length) (rst p r.x):=(((Ext.refl w3).alloc _).ownQ ho3).mono HE.out.size;have heq4:=Heq.out _ _ (.slice (some ⟨gz,0,none⟩) p.length p.length) _ _ ho4.rd ((HE.out.trans hE4).rd Hoz.out) Hrrl.out List.length_replicate;have Hbx:=hid hbx;have Ho4:=hid ho4;have HE4:=hid hE4;have Heq4:=hid heq4;clear hx3 ho3 hE4 hcu hbx ho4 heq4;go_wp2_with fail
   generalize hW4:w3.alloc (.cells #[.slice (some ⟨g3,0,none⟩) p.length p.length] 32)=W4 at *;refine Heq4.out.mono ?_;rintro e w5 ⟨rfl,hx5⟩;have hb5:=hx5.cell Hbx.out;have hE5:=HE4.out.trans hx5;have ho5:=hx5.ownQ Ho4.out;by_cases hzr:rst p r.x=List.replicate p.length 0
   ·rw [decide_eq_true hzr];have Hzr:=hid hzr;have HE5:=hid hE5;clear hzr hb5 hE5 ho5 hx5;go_wp2_with fail
    go_roundw
    case rel=>exact ⟨k+1,by go_num,by omega,CoR.skip Hq.out Hmq.out Hlq.out HE.out HE5.out Hrx.out (.inl Hzr.out)⟩
    case measure=>simp [zag];omega
   ·rw [decide_eq_false hzr];have hcn:=Hcon.out w5 w3.heap.size _ (rst p r.x) _ out hb5 ho5.rd Hrrl.out (hE5.rdM Hq.out.rd) (by omega) Hol.out;have Hzr:=hid hzr;have HE5:=hid hE5;have Ho5:=hid ho5;have Hcn:=hid hcn;have Hb5:=hid hb5;clear hzr hb5 hE5 ho5 hx5 hcn;go_wp2_with fail
    refine Hcn.out.mono ?_;rintro e w6 ⟨rfl,hx6⟩;have hE6:=HE5.out.trans hx6;have ho6:=hx6.ownQ Ho5.out;have hb6:=hx6.cell Hb5.out;have hany:(out.any fun y=>decide (rst p r.x=y.x))=decide (rst p r.x∈out.map Qw.x):=by
     rw [Bool.eq_iff_iff,List.any_eq_true,decide_eq_true_eq,List.mem_map];constructor
     ·rintro ⟨y,hy,e⟩;exact ⟨y,hy,(of_decide_eq_true e).symm⟩
     ·rintro ⟨y,hy,e⟩;exact ⟨y,hy,decide_eq_true e.symm⟩
    rw [hany];clear hany;by_cases hin:rst p r.x∈out.map Qw.x
    ·rw [decide_eq_true hin];have Hin:=hid hin;have HE6:=hid hE6;clear hin hb6 hE6 ho6 hx6;go_wp2_with fail
     go_roundw
     case rel=>exact ⟨k+1,by go_num,by omega,CoR.skip Hq.out Hmq.out Hlq.out HE.out HE6.out Hrx.out (.inr Hin.out)⟩
     case measure=>simp [zag];omega
    ·rw [decide_eq_false hin];have hq6:=hE6.qwM Hq.out;have hqo:=hq6.1;have hE16:=HE.out.trans hE6;have hbase:=hE16.size;have hm3:out.length+1≤maxLen:=(by unfold maxLen;omega);have hm4:(out.length+1) * 24≤140737488355328:=(by omega);have Hin:=hid hin;have HE16:=hid hE16;have Hq6:=hid hq6;have Ho6:=hid ho6;clear hin hE6 ho6 hx6 hE16 hq6;go_wp2_with (at_builtin;refine wpList_append_own _ rfl _ _ 34 rfl w1.heap.size 32 j0 (.slice none 0 0) 1 24 Tryz.underlying34 hj hy0 hy1 hy2 rfl (by decide) _ _ _ rfl (hqo.alloc _) ⟨w6.heap.size,0,none⟩ 1 1 [.slice (some ⟨g3,0,none⟩) p.length p.length] rfl rfl (cell_one_new _ _ _) (by simp [Value.oneCell']) hm3 hm4 (by rw [World.size_alloc];omega) ?_;intro v7 V7 hown7 hgrow7 _)
     go_roundw
     case rel=>exact ⟨k+1,by go_num,by omega,CoR.more HE16.out Hq6.out Hmq.out Hlq.out Hrx.out (fun h=>h.elim Hzr.out Hin.out) Ho6.out hown7 hgrow7⟩
     case measure=>simp [zag];omega
  ·obtain rfl:n=k:=by omega
   have hall:∀ x∈out.map Qw.x,x=zer p.length∨x=ov (p.length - 1)∨∃ z∈rs.map Qw.x,x=rst p z:=fun x hx=>by
    rw [hmq] at hx;rcases (zjO _ _ _).1 hx with e | ⟨_,z,hz,e⟩
    ·cases e
    ·exact .inr (.inr ⟨z,List.mem_of_mem_take hz,e⟩)
   have hso:=zks (.slice ap p.length cp) (.slice a10 out.length c10) p out wr (He.out.ext hEw) (hEw.sl Hp.out) hq.rd (HL.out.cmpb hall) (by omega);have hfull:out.map Qw.x=zjK p [] (rs.map Qw.x):=(by rw [hmq,List.take_of_length_le (by rw [List.length_map,Hn.out];exact Nat.le_refl _)]);have hcl:=fun W (hE:Ext w W)=>zkm (.slice ap p.length cp) p W (hE.sl Hp.out) (by have:=Hpe.out.2.1;omega) (by intro e;have:=Hpe.out.2.2;rw [e] at this;cases this);have hcq:=fun W (hE:Ext w W)=>zkl (.slice ab p.length cb) (ov (p.length - 1)) W (hE.rd Hb.out) (by rw [ziF];have:=Hpe.out.2.1;omega) (by unfold ov;simp);have t60:¬ (60:Int)≤(out.length:Int):=(by omega);have Hso:=hid hso;have Hfull:=hid hfull;have Hq:=hid hq;have Hlq:=hid hlq;have HE:=hid hE;have HEw:=hid hEw;have Hcl:=hid hcl;have Hcq:=hid hcq;clear hso hfull hq hmq hE hEw hcl hcq hall;go_wp2_with fail
   refine Hso.out.mono ?_;rintro e w5 ⟨u5,ord,rfl,hord,hx5⟩;obtain ⟨hoo,hperm,hsort⟩:=hord;obtain ⟨ao,co,rfl⟩:=zel hoo;have Hslo:=hid (zai hoo);have Hx5:=hid hx5;have Hperm:=hid hperm;have Hsort:=hid hsort;have hcl5:=Hcl.out w5 (HEw.out.trans hx5);have Hcl5:=hid hcl5;clear hoo hx5 hperm hsort hcl5;go_wp2_with fail
   refine Hcl5.out.mono ?_;rintro e w6 ⟨u6,rfl,ho6,hx6⟩;obtain ⟨a6,c6,rfl⟩:=zel ho6;have hE56:=Hx5.out.trans hx6;have Hx6:=hid (HE.out.trans hE56);have Ho6:=hid (zah ho6 (HEw.out.trans Hx5.out).size);have Hq6:=hid (hE56.qwM Hq.out);have Hslo6:=hid (hx6.sl Hslo.out);have HEw6:=hid (HEw.out.trans hE56);clear hx6 ho6 hE56;have hb7:=zdV.new 36 w6 (.slice a6 p.length c6) (.slice none 0 0);have Hb7:=hid hb7;clear hb7;have h6x:Ext w6 (w6.alloc (.cells #[.slice a6 p.length c6,.slice none 0 0] 36)):=(Ext.refl w6).alloc _;have H6x:=hid h6x;clear h6x;have hordl:ord.length=out.length:=(by have:=Hperm.out.length_eq;rwa [List.length_range] at this);have Hordl:=hid hordl;clear hordl;obtain ⟨getX,hgetX⟩:∃ getX:Nat→List Rat,getX=fun i=>((out[i]?).map Qw.x).getD []:=⟨_,rfl⟩;have HgetX:=hid hgetX;clear hgetX;go_wp2_with fail
   go_loopw [20,78] (fun v20 v78 wr=>∃ k:Nat,v78=.int .i64 k∧k≤out.length∧NtR w1.heap.size w6 w6.heap.size (.slice a6 p.length c6) ((ord.take k).map getX) wr) (fun _ v78 _=>out.length - (zag v78).toNat)
   case atStart=>exact ⟨0,rfl,Nat.zero_le _,.slice none 0 0,[],Hb7.out,QwM.nil _ _ _,rfl,H6x.out⟩
   case round =>
    obtain ⟨k,rfl,hk,⟨vn,nts,hbn,hqn,hmn,hEn⟩⟩:=hrel;by_cases hkm:k<out.length
    ·obtain ⟨i,hi⟩:∃ i,ord[k]?=some i:=⟨_,List.getElem?_eq_getElem (by rw [Hordl.out];exact hkm)⟩;have him:i<out.length:=by
      have:=Hperm.out.mem_iff.1 (List.mem_of_getElem? hi);rwa [List.mem_range] at this
     obtain ⟨s,hs⟩:∃ s,out[i]?=some s:=⟨_,List.getElem?_eq_getElem him⟩;obtain ⟨ao',co',e1,_,_,hco⟩:=Hslo6.out.parts;injection e1 with e1 e2 e3;subst e1;obtain ⟨bo,oo,rfl,hco1⟩:=hco k (.int .i64 i) (by unfold zko;rw [List.getElem?_map,hi];rfl);obtain ⟨an',cn',f1,_,_,hcn⟩:=(zai Hq6.out.1).parts;injection f1 with f1 f2 f3;subst f1;obtain ⟨bn,on,rfl,hcn1⟩:=hcn i s.u (by unfold qwc;rw [List.getElem?_map,hs];rfl);have hso:=hEn.ownQ (Hq6.out.2 s (List.mem_of_getElem? hs));obtain ⟨as',cs,hsu,_,_,_⟩:=hso.rd.parts;rw [hsu] at hso hcn1;have c1:=hEn.cell hco1;have c2:=hEn.cell hcn1;obtain ⟨avn,cvn,rfl⟩:=zel hqn.1;have hkx:(ord.take (k+1)).map getX=(ord.take k).map getX++[s.x]:=by
      obtain ⟨hl1,e⟩:=List.getElem?_eq_some_iff.1 hi;rw [List.take_succ_eq_append_getElem hl1,List.map_append,e,HgetX.out];simp [hs]
     have hnl:nts.length=k:=by
      have:=congrArg List.length hmn;rw [List.length_map,List.length_map,List.length_take,Hordl.out] at this;omega
     have q0:=hbn.c0;have q1:=hbn.c1;have hk0:(0:Int)≤(k:Int):=(by omega);have hk1:(k:Int)<(out.length:Int):=(by omega);have hi0:(0:Int)≤(i:Int):=(by omega);have hi1:(i:Int)<(out.length:Int):=(by omega);have hm3:k+1≤maxLen:=(by unfold maxLen;omega);have hm4:(k+1) * 24≤140737488355328:=(by omega);have hqo:=hqn.1;rw [hnl] at hqo q1;have hbk:=hbn;rw [hnl] at hbk;have Hbk:=hid hbk;have H6c:=hid hcn1;have hqk:=hqn;rw [hnl] at hqk;have Hqk:=hid hqk;clear hqk;clear hbk;have hbase:=hEn.size;have z1:=hbn.fz 1;generalize s.x.length=sl at *;have Hkx:=hid hkx;have Hbn:=hid hbn;have Hqn:=hid hqn;have Hmn:=hid hmn;have HEn:=hid hEn;have Hso:=hid hso;have Hnl:=hid hnl;have Hqo:=hid hqo;clear hkx hbn hqn hmn hEn hso hnl hqo hco hcn hco1 hcn1 hi hs him hsu f2 f3 e2 e3;go_wp2_with fail
     have q1a:=(((Ext.refl wr).drew).alloc (.cells #[.slice as' sl cs] 32)).cell q1;have q1b:=((Ext.refl wr).drew).cell q1;have hs2:w6.heap.size≤(wr.drew.alloc (.cells #[.slice as' sl cs] 32)).heap.size:=((HEn.out.drew).alloc _).size;have q1c:=((Ext.refl wr).alloc (.cells #[.slice as' sl cs] 32)).drew.cell q1;go_region_law (first
       | (refine step_append_lies _ rfl (.tmp 83) (.tmp 88) 34 rfl w6.heap.size 32 j0 (.slice none 0 0) 1 24 Tryz.underlying34 hj hy0 hy1 hy2 rfl (by decide) (.slice avn k cvn) k (qwc nts) (by simp [Act.eval]) ((((Ext.refl wr).drew).own Hqo.out).alloc _) ⟨wr.heap.size,0,none⟩ 1 1 [.slice as' sl cs] (by simp [Act.eval]) rfl (cell_one_new wr.drew _ _) (by simp [Value.oneCell']) (by decide) hm3 hm4 hs2 _ rfl ?_;intro g1 cc1 V1 hown1 hgrow1 hat1 hlt1;have HA:=hid ((HEn.out.drew.alloc _).grown hgrow1 fun k hk=>(World.ownsRow.lt ((((Ext.refl wr).drew).own Hqo.out).alloc (.cells #[.slice as' sl cs] 32)) k hk).1);have hbV:zdV 36 V1 w6.heap.size (.slice a6 p.length c6) (.slice avn k cvn):=zgh ((((Ext.refl wr).drew).alloc _).heap Hbk.out) ((((Ext.refl wr).drew).own Hqo.out).alloc (.cells #[.slice as' sl cs] 32)) (by decide) hgrow1;have d1:=hbV.c1;have e1:=hbV.fz 1;have Hown1:=hid hown1;have Hgrow1:=hid hgrow1;clear hown1 hgrow1 hat1 hlt1 hbV))
     all_goals
      have hR:=NtR.more (W6:=w6) (W:=wr.drew) (v7:=.slice (some ⟨g1,0,none⟩) (k+1) cc1) (Nat.le_refl _) (zdV.ext ((Ext.refl wr).drew) Hbk.out) (((Ext.refl wr).drew).qwM Hqk.out) Hmn.out HEn.out.drew (((Ext.refl wr).drew).ownQ Hso.out) (by rw [Hnl.out];exact Hown1.out) Hgrow1.out;rw [← Hkx.out] at hR;have HR:=hid hR;clear hR d1 e1 q0 q1 q1a q1b q1c hs2 z1 c1 c2;generalize V1.setCell ⟨w6.heap.size,1,none⟩ (.slice (some ⟨g1,0,none⟩) (k+1) cc1)=V2 at *;go_wp2_with fail
      go_roundw
      case rel=>exact ⟨k+1,by go_num,by omega,HR.out⟩
      case measure=>simp [zag];omega
    ·have hkm2:k=out.length:=(by omega);have hnl:nts.length=k:=by
      have:=congrArg List.length hmn;rw [List.length_map,List.length_map,List.length_take,Hordl.out] at this;omega
     have hEwr:=HEw6.out.trans hEn;have hcq:=Hcq.out wr.drew hEwr.drew;obtain ⟨avn,cvn,rfl⟩:=zel hqn.1;have hqk:=hqn;rw [hnl] at hqk;have hqo:=hqn.1;rw [hnl] at hqo;have hbk:=hbn;rw [hnl] at hbk;have q0:=hbk.c0;have q1:=hbk.c1;have q1d:=((Ext.refl wr).drew).cell q1;have hm3:k+1≤maxLen:=(by unfold maxLen;omega);have hm4:(k+1) * 24≤140737488355328:=(by omega);have Hcqd:=hid hcq;have Hqk:=hid hqk;have Hqo:=hid hqo;have Hbk:=hid hbk;have Hnl:=hid hnl;have HEn:=hid hEn;have Hmn:=hid hmn;have Hkm2:=hid hkm2;have HEwr:=hid hEwr;clear hcq hqk hqo hbk hnl hEn hmn hqn hbn hkm2 hEwr;go_wp2_with fail
     go_region_law (first
      | (go_simp;go_at_call 70;refine Hcqd.out.mono ?_;rintro e V1 ⟨u1,rfl,ho1,hx1⟩;obtain ⟨a1,cc0,rfl,_,_,_⟩:=ho1.rd.parts;have hbV:=(zdV.ext ((Ext.refl wr).drew) Hbk.out).ext hx1;have r1:=hbV.c1;have r2:=((Ext.refl V1).alloc (.cells #[.slice a1 (ov (p.length - 1)).length cc0] 32)).cell r1;have Ho1:=hid (ho1.mono (Hx6.out.trans HEn.out.drew).size);have Hx1:=hid hx1;have HbV:=hid hbV;clear hx1 ho1 hbV)
      | (refine step_append_lies _ rfl (.tmp 93) (.tmp 96) 34 rfl w6.heap.size 32 j0 (.slice none 0 0) 1 24 Tryz.underlying34 hj hy0 hy1 hy2 rfl (by decide) (.slice avn k cvn) k (qwc nts) (by simp [Act.eval]) ((((Ext.refl wr).drew.trans Hx1.out).own Hqo.out).alloc _) ⟨V1.heap.size,0,none⟩ 1 1 [.slice a1 (ov (p.length - 1)).length cc0] (by simp [Act.eval]) rfl (cell_one_new V1 _ _) (by simp [Value.oneCell']) (by decide) hm3 hm4 ((HEn.out.drew.trans Hx1.out).alloc (.cells #[.slice a1 (ov (p.length - 1)).length cc0] 32)).size _ rfl ?_;intro g1 cc1 V2 hown1 hgrow1 hat1 hlt1;have hbV:zdV 36 V2 w6.heap.size (.slice a6 p.length c6) (.slice avn k cvn):=zgh (((Ext.refl V1).alloc _).heap HbV.out) ((((Ext.refl wr).drew.trans Hx1.out).own Hqo.out).alloc (.cells #[.slice a1 (ov (p.length - 1)).length cc0] 32)) (by decide) hgrow1;have d1:=hbV.c1;have e1:=hbV.fz 1;have HbV2:=hid hbV;have Hown1:=hid hown1;have Hgrow1:=hid hgrow1;clear hown1 hgrow1 hat1 hlt1 hbV))
     all_goals
      have hR:=NtR.more (W6:=w6) (W:=V1) (v7:=.slice (some ⟨g1,0,none⟩) (k+1) cc1) (Nat.le_refl _) HbV.out (((Ext.refl wr).drew.trans Hx1.out).qwM Hqk.out) Hmn.out (HEn.out.drew.trans Hx1.out) Ho1.out (by rw [Hnl.out];exact Hown1.out) Hgrow1.out;obtain ⟨vn,nt2,hb3,hq3,hm3',hE3⟩:=hR;have hd:=hb3.c1;have hsc:vn=.slice (some ⟨g1,0,none⟩) (k+1) cc1:=by
       have h2:=(HbV2.out.put1 (.slice (some ⟨g1,0,none⟩) (k+1) cc1)).c1;rw [hd] at h2;exact Option.some.inj h2
      subst hsc;have hE16:=Hx1w.out.trans (Hx6.out.trans hE3);have hK:K0 36 w (V2.setCell ⟨w6.heap.size,1,none⟩ (.slice (some ⟨g1,0,none⟩) (k+1) cc1)) w.heap.size:=⟨HE0.out.trans hE16,_,_,B0.out.ext hE16⟩;have hol:=Hpe.out.2.2;have ho3:=hE3.own Ho6.out;have hbr:=B0.out.ext hE16;have r0:=hb3.c0;have k0:=hK.res.c0;have k1:=hK.res.c1;have z0:=hK.res.fz 0;have z1:=hK.res.fz 1;have hfin:=hK.fin (Nat.le_refl _) (.slice a6 p.length c6) (.slice (some ⟨g1,0,none⟩) (k+1) cc1);have hq4:=(hq3.set hbr 0 (.slice a6 p.length c6)).set (zdV.put0 hbr (.slice a6 p.length c6)) 1 (.slice (some ⟨g1,0,none⟩) (k+1) cc1);have ho4:=zgk (zdV.put0 hbr (.slice a6 p.length c6)) (zgk hbr ho3 (by decide) 0 (.slice a6 p.length c6)) (by decide) 1 (.slice (some ⟨g1,0,none⟩) (k+1) cc1);have Hfin:=hid hfin;have Hq4:=hid hq4;have Ho4:=hid ho4;have Hm3:=hid hm3';clear hb3 hq3 hm3' hE3 hE16 hK ho3 hbr hfin hq4 ho4 q0 q1 q1d d1 e1;generalize V2.setCell ⟨w6.heap.size,1,none⟩ (.slice (some ⟨g1,0,none⟩) (k+1) cc1)=V3 at *;go_wp2_with fail
      obtain ⟨hb5,hx5⟩:=Hfin.out;have hd0:=hb5.c0;have hd1:=hb5.c1;have hown:w.heap.size≤w1.heap.size:=(HE0.out.trans Hx1w.out).size;have hown6:w.heap.size≤w6.heap.size:=HEw6.out.size;exact bodyPost_ret (v:=.tuple #[.agg #[.slice a6 p.length c6,.slice (some ⟨g1,0,none⟩) (k+1) cc1],.int .i64 0]) (by simp [results,Tryz.results40,go_sem,hd0,hd1]) rfl ⟨_,nt2,rfl,⟨_,_,rfl,Ho4.out,Hq4.out.mono hown hown6⟩,by
       rw [Hm3.out,List.take_of_length_le (by rw [Hordl.out,← Hkm2.out];exact Nat.le_refl _)];exact zk2 HL.out Hperm.out Hsort.out Hfull.out HgetX.out,hx5⟩
end
end Go.Proofs.YtbkfhacmekbniaaGreatDoor
