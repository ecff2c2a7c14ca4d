/- Walks: slices.IndexFunc and slices.ContainsFunc at lists of sizes, with a closure that makes memory. What the reduction asks of sizes; the closure of scale.collect. scale.note over a plain right scale. Blocks of two cells of any type: results and boxes. Walk: scale.collect of at most nine sizes. Walks: slices.Equal at primes, slices.EqualFunc at sizes; law 31's same, scale.same. Walks: scale.two, scale.Same. Walks: schismaref03's trim, Int. -/
import Derived.Test.YtbkfhacmekbniaaGreatDoorPc08
import Derived.Shelf.Abstract
import Derived.Test.YtbkfhacmekbniaaGreatDoorPc16
import Derived.Test.YtbkfhacmekbniaaGreatDoorPc15
import Derived.Test.YtbkfhacmekbniaaGreatDoorPc17
import Derived.Deep.DeepCutAuto
import Derived.Deep.RegionHeld3
import Derived.Test.YtbkfhacmekbniaaGreatDoorPc05
import Derived.Test.YtbkfhacmekbniaaGreatDoorPc07
set_option maxRecDepth 100000
set_option maxHeartbeats 2000000
namespace Go.Proofs.YtbkfhacmekbniaaGreatDoor
section
open Go.RowKit Go.Lib Go.Shelf
def zjq (P:List Rat→Bool)(rs:List Qw)(z:Int):Prop:=(z=-1∧∀ r∈rs,P r.x=false)∨∃ (k:Nat)(r:Qw),z=k∧rs[k]?=some r∧P r.x=true∧∀ s∈rs.take k,P s.x=false
theorem zjq.any {P:List Rat→Bool}{rs:List Qw}{z:Int}(h:zjq P rs z):rs.any (fun r=>P r.x)=decide (0≤z):=by
 rcases h with ⟨rfl,h⟩ | ⟨k,r,rfl,h1,h2,_⟩
 ·rw [show decide ((0:Int)≤-1)=false by decide,List.any_eq_false];intro r hr;rw [h r hr];simp
 ·rw [show decide ((0:Int)≤(k:Int))=true from decide_eq_true (by omega),List.any_eq_true];exact ⟨r,List.mem_of_getElem? h1,h2⟩
theorem zjr (g:Nat)(cb:Array Value)(v:Value)(rs:List Qw)(P:List Rat→Bool)(w:World)(hv:Sl w v (qwc rs))(hl:rs.length≤1000)
  (eg:∀ args w,(callFunc g args).run Tryz.prog w=.ok (.enter g args) w)
  (hp:∀ W,Ext w W→∀ r∈rs,Calls Tryz.prog g (#[r.u]++cb) W fun e w'=>e=.returned (.bool (P r.x))∧Ext W w') :
  Calls Tryz.prog 24 #[v,.func (.func g) #[] cb] w fun e w'=>∃ z:Int,e=.returned (.int .i64 z)∧zjq P rs z∧Ext w w':=by
 obtain ⟨a,c,rfl,_,_,hc⟩:=hv.parts;rw [zfz];have hcell:∀ k r,rs[k]?=some r→∃ b off,a=some ⟨b,off,none⟩∧w.cell? ⟨b,off+k,none⟩=some r.u:=fun k r hr=>hc k r.u (by unfold qwc;rw [List.getElem?_map,hr];rfl);generalize hn:rs.length=n at *;have Hn:=hid hn;have Hp:=hid hp;have Hc:=hid hcell;clear hv hc hn hp hcell;go_enter Tryz.func24,Tryz.ntmps24
 go_wp2_with fail
 go_loopw [5,8] (fun v5 v8 wr=>∃ k:Nat,v8=.int .i64 k∧k≤n∧(∀ s∈rs.take k,P s.x=false)∧Ext w wr) (fun _ v8 _=>n - (zag v8).toNat)
 case atStart=>exact ⟨0,rfl,Nat.zero_le _,fun r h=>by simp at h,Ext.refl _⟩
 case round =>
  obtain ⟨k,rfl,hk,hall,hE⟩:=hrel;have Hall:=hid hall;clear hall;by_cases hlt:k<n
  ·obtain ⟨r,hr⟩:∃ r,rs[k]?=some r:=⟨_,List.getElem?_eq_getElem (by rw [Hn.out];exact hlt)⟩;obtain ⟨b,off,rfl,h0⟩:=Hc.out k r hr;have hc0:=hE.cell h0;have hd:=Hp.out wr hE r (List.mem_of_getElem? hr);have HE:=hid hE;have Hr:=hid hr;clear hr h0 hE;generalize r.u=u at *;generalize hdx:P r.x=dx at *;have Hd:=hid hd;have Hdx:=hid hdx;clear hd hdx;have hk0:(0:Int)≤(k:Int):=(by omega);have hk1:(k:Int)<(n:Int):=(by omega);go_wp2_with fail
   refine Hd.out.mono ?_;rintro e W2 ⟨rfl,hx2⟩;have HE2:=hid (HE.out.trans hx2);clear hx2
   cases dx with
   | true =>
    go_wp2
    go_ret
    exact ⟨_,rfl,.inr ⟨k,r,rfl,Hr.out,Hdx.out,Hall.out⟩,HE2.out⟩
   | false =>
    go_wp2_with fail
    go_roundw
    case rel=>exact ⟨k+1,by go_num,hlt,fun s hs=>by
     obtain ⟨hl2,e⟩:=List.getElem?_eq_some_iff.1 Hr.out;rw [List.take_succ_eq_append_getElem hl2] at hs;rcases List.mem_append.1 hs with h | h
     ·exact Hall.out s h
     ·rw [List.mem_singleton] at h;rw [h,e];exact Hdx.out,HE2.out⟩
    case measure=>simp [zag];omega
  ·have hkk:¬ (k:Int)<(n:Int):=(by omega);have hkl:k=n:=(by omega);have Hkl:=hid hkl;clear hkl;have HE:=hid hE;clear hE;go_wp2
   go_ret
   exact ⟨-1,rfl,.inl ⟨rfl,fun r hr=>Hall.out r (by rw [Hkl.out,← Hn.out,List.take_length];exact hr)⟩,HE.out⟩
theorem zjs (g:Nat)(cb:Array Value)(v:Value)(rs:List Qw)(P:List Rat→Bool)(w:World)(hv:Sl w v (qwc rs))(hl:rs.length≤1000)
  (eg:∀ args w,(callFunc g args).run Tryz.prog w=.ok (.enter g args) w)
  (hp:∀ W,Ext w W→∀ r∈rs,Calls Tryz.prog g (#[r.u]++cb) W fun e w'=>e=.returned (.bool (P r.x))∧Ext W w') :
  Calls Tryz.prog 43 #[v,.func (.func g) #[] cb] w fun e w'=>e=.returned (.bool (rs.any fun r=>P r.x))∧Ext w w':=by
 have hi:=zjr g cb v rs P w hv hl eg hp;obtain ⟨a,c,rfl,_,_,_⟩:=hv.parts;have Hi:=hid hi;clear hi hp hv;go_enter Tryz.func43,Tryz.ntmps43
 go_wp2_with fail
 refine Hi.out.mono ?_;rintro e w1 ⟨z,rfl,hz,hx⟩;have Hz:=hid hz.any;have Hx:=hid hx;clear hz hx;go_wp2
 go_ret
 exact ⟨by rw [Hz.out];rfl,Hx.out⟩
theorem zjt {q:Int}:∀ {x:List Rat},ze1 x (shf q (zer x.length))=shf q x
 | []=>rfl
 | a::x=>by
  unfold zer ze1;rw [List.length_cons,List.replicate_succ];simp only [shf,List.zipWith_cons_cons];congr 1
  ·grind
  ·have:∀ l:List Rat,List.zipWith (·+·) l (List.replicate l.length 0)=l:=fun l=>by
    induction l with
    | nil=>rfl
    | cons b l ih=>rw [List.length_cons,List.replicate_succ,List.zipWith_cons_cons,ih];congr 1;grind
   exact this x
theorem zju {k:Nat}{z:Int}(h:z.natAbs<10 ^ k)(hk:0<k):Ft k (z:Rat):=by
 refine ⟨?_,?_⟩
 ·rw [Rat.num_intCast];exact Dec.nDigits_le hk h
 ·rw [Rat.den_intCast];exact Dec.nDigits_le hk (Nat.one_lt_pow (by omega) (by decide))
structure zjv (p:List Int)(a:Rat)(tl:List Rat):Prop where
 len:tl.length+1=p.length
 pr:Pr p (tl.length+1)
 ft:∀ q∈a::tl,Ft 30 q
 qf:QF p (a::tl)
 fk:Ft 400 ((-flP p (a::tl):Int):Rat)
 fit:Fit (flP p (a::tl))
 res:∀ q∈rst p (a::tl),Ft 30 q
theorem Lw.red {p:List Int}{c:Int}{l:List (List Rat)}(h:Lw p c l){x:List Rat}(hx:x∈l):∃ a tl,x=a::tl∧zjv p a tl:=by
 obtain ⟨n,hn⟩:=h.nic;have hl:=h.len x hx;have hp:Pr p x.length:=by rw [hl];exact h.pr
 have hq:=h.quick x hx;have hr:=h.range hx;have hni:=hn x hx;have hfl:=ziX hp hni (h.bd x hx).1 (h.bd x hx).2;have hc:=h.c1;have hrq:zh6 p (rst p x):=zi4 (c:=1) (by unfold rst;rw [ziA];exact hp) (ziH hni) (by omega) (by omega) (by
  rw [show ((1 * 67108864:Int):Rat)=67108864 from rfl];grind) (by
  rw [show ((1 * 67108864:Int):Rat)=67108864 from rfl];grind)
 obtain ⟨a,tl,rfl,htl,hb⟩:=ziV hp hni;refine ⟨a,tl,rfl,htl,hp,hq.1,?_,?_,?_,hrq.1⟩
 ·by_cases hz:∀ r∈tl,r=0
  ·left;rw [List.tail_cons,List.all_eq_true];simpa using hz
  ·have hbx:=hb.resolve_right hz;have hA:=zi2 hp hbx (h.bd _ hx).1 (h.bd _ hx).2;exact (zhY (m:=100000) hp hbx (by omega) (by omega) (fun a' ha'=>by cases ha';omega)).qf hp hbx
 ·exact (zju (k:=5) (by show _<100000;omega) (by omega)).mono (by omega)
 ·show nDigits _≤_;have:=Dec.nDigits_le (n:=(flP p (a::tl)).natAbs) (k:=5) (by omega) (by show _<100000;omega);omega
theorem zjv.eq {p:List Int}{a:Rat}{tl:List Rat}(_h:zjv p a tl):ze1 (a::tl) (ze3 (ov tl.length) ((-flP p (a::tl):Int):Rat))=rst p (a::tl):=by
 rw [ziI];exact zjt (x:=a::tl)
theorem zjw (va vb:Value)(x y:List Rat)(bx:Nat)(w:World)(h0:w.cell? ⟨bx,0,none⟩=some va)(ha:Rd w va x)(hb:Rd w vb y)(hx:x.length≤1000)(hy:y.length≤1000) :
  Calls Tryz.prog 75 #[vb,.pointer (some ⟨bx,0,none⟩)] w fun e w'=>e=.returned (.bool (decide (x=y)))∧Ext w w':=by
 have h:=zji va vb x y w ha hb hx hy;obtain ⟨aa,ca,rfl,_,_,_⟩:=ha.parts;obtain ⟨ab,cb,rfl,_,_,_⟩:=hb.parts;generalize decide (x=y)=b at *;clear ha hb;have H:=hid h;clear h;go_enter Tryz.func75,Tryz.ntmps75
 go_wp2_with fail
 refine H.out.mono ?_;rintro e w1 ⟨rfl,hx1⟩;have Hx1:=hid hx1;clear hx1;go_wp2
 go_ret
 exact ⟨rfl,Hx1.out⟩
theorem zjx : ∀ args w,(callFunc 75 args).run Tryz.prog w=.ok (.enter 75 args) w:=enters_of Tryz.func75 (by kernel_rfl) rfl
end
section
open Go.RowKit Go.Lib
section
variable {p : List Int} {N : List (List Rat)} (h : Wd p N)
include h
theorem Wd.nt_bd (k:Int):((k / (N.length:Int):Int):Rat) * 67108864≤sF p (nt p N k)∧sF p (nt p N k)≤((k / (N.length:Int):Int):Rat) * 67108864+67108864:=by
 have h0:=h.pos;have hN:(0:Int)<(N.length:Int):=by omega
 have a1:=Int.emod_nonneg k (show (N.length:Int) ≠ 0 by omega);have a2:=Int.emod_lt_of_pos k hN;rw [h.sF_nt];have:=h.zbd (i:=(k % (N.length:Int)).toNat) (by omega);grind
theorem Wd.nt_sub_quick (k l:Int)(hk0:-1000≤k)(hk1:k≤1000)(hl0:-1000≤l)(hl1:l≤1000):zh6 p (ze2 (nt p N k) (nt p N l)):=by
 obtain ⟨n,hn⟩:=h.dif;have h0:=h.pos;have hN:(0:Int)<(N.length:Int):=by omega
 have e1:=zhA (a:=k) (b:=(N.length:Int)) (m:=1000) hN hk0 hk1 (by omega);have e2:=zhA (a:=l) (b:=(N.length:Int)) (m:=1000) hN hl0 hl1 (by omega);have b1:=h.nt_bd k;have b2:=h.nt_bd l;have c1:(-1000:Rat)≤((k / (N.length:Int):Int):Rat):=Rat.intCast_le_intCast.2 e1.1;have c2:((k / (N.length:Int):Int):Rat)≤1000:=Rat.intCast_le_intCast.2 e1.2;have c3:(-1000:Rat)≤((l / (N.length:Int):Int):Rat):=Rat.intCast_le_intCast.2 e2.1;have c4:((l / (N.length:Int):Int):Rat)≤1000:=Rat.intCast_le_intCast.2 e2.2;have hs:=ze4 p (nt p N k) (nt p N l) (by rw [h.ntlen,h.ntlen]);have hl:=(zi6 (x:=nt p N k) (y:=nt p N l) (by rw [h.ntlen,h.ntlen])).trans (h.ntlen k);have hc:((2001 * 67108864:Int):Rat)=2001 * 67108864:=by rw [Rat.intCast_mul];rfl
 exact zi4 (c:=2001) (by rw [hl];exact h.pr) (h.nt_nic hn k l) (by omega) (by omega) (by rw [hc];grind) (by rw [hc];grind)
end
def zjy (T:TypeId)(w:World)(b:Nat)(u v:Value):Prop:=w.heap[b]?=some (.cells #[u,v] T (0,0))
section
variable {T : TypeId} {w w' : World} {b c : Nat} {u v : Value}
theorem zjy.new (T:TypeId)(w:World)(u v:Value):zjy T (w.alloc (.cells #[u,v] T)) w.heap.size u v:=World.alloc_heap_new w _
theorem zjy.ext (hx:Ext w w')(h:zjy T w b u v):zjy T w' b u v:=hx.heap h
theorem zjy.c0 (h:zjy T w b u v):w.cell? ⟨b,0,none⟩=some u:=by unfold World.cell?;dsimp only;rw [h];rfl
theorem zjy.c1 (h:zjy T w b u v):w.cell? ⟨b,1,none⟩=some v:=by unfold World.cell?;dsimp only;rw [h];rfl
theorem zjy.fz (h:zjy T w b u v)(k:Nat):w.frozen? ⟨b,k,none⟩=false:=frozen_of_row w b k #[u,v] _ h
theorem zjy.lt (h:zjy T w b u v):b<w.heap.size:=(Array.getElem?_eq_some_iff.1 h).1
theorem zjy.put (h:zjy T w c u v)(x y:Value):zjy T ((w.setCell ⟨c,0,none⟩ x).setCell ⟨c,1,none⟩ y) c x y :=
 heap_setCell_same _ c 1 _ _ y (heap_setCell_same w c 0 _ _ x h)
theorem zjy.put0 (h:zjy T w c u v)(x:Value):zjy T (w.setCell ⟨c,0,none⟩ x) c x v:=heap_setCell_same w c 0 _ _ x h
theorem zjy.put1 (h:zjy T w c u v)(x:Value):zjy T (w.setCell ⟨c,1,none⟩ x) c u x:=heap_setCell_same w c 1 _ _ x h
theorem zjy.past1 (h:zjy T w b u v)(k:Nat)(hne:b ≠ c)(x:Value):zjy T (w.setCell ⟨c,k,none⟩ x) b u v:=(heap_setCell_other w ⟨c,k,none⟩ b x hne).trans h
theorem zjy.past (h:zjy T w b u v)(hne:b ≠ c)(x y:Value):zjy T ((w.setCell ⟨c,0,none⟩ x).setCell ⟨c,1,none⟩ y) b u v:=(h.past1 0 hne x).past1 1 hne y
end
def zjz (T:TypeId)(w:World)(c:Nat):Prop:=∃ u v,zjy T w c u v
section
variable {T : TypeId} {w w' w2 : World} {b c : Nat} {u v : Value}
theorem zjz.ext (hx:Ext w w')(h:zjz T w c):zjz T w' c:=by
 obtain ⟨u,v,h⟩:=h;exact ⟨u,v,h.ext hx⟩
theorem zjz.c0 (h:zjz T w c):w.cell? ⟨c,0,none⟩=some (zdL w c 0):=by
 obtain ⟨u,v,h⟩:=h;unfold zdL;rw [h.c0];rfl
theorem zjz.c1 (h:zjz T w c):w.cell? ⟨c,1,none⟩=some (zdL w c 1):=by
 obtain ⟨u,v,h⟩:=h;unfold zdL;rw [h.c1];rfl
theorem zjz.fz (h:zjz T w c)(k:Nat):w.frozen? ⟨c,k,none⟩=false:=by
 obtain ⟨u,v,h⟩:=h;exact h.fz k
structure K0 (T:TypeId)(w w':World)(c:Nat):Prop where
 x:Ext w w'
 res:zjz T w' c
theorem K0.ext (h:K0 T w w' c)(hx:Ext w' w2):K0 T w w2 c:=⟨h.x.trans hx,h.res.ext hx⟩
theorem K0.fin (h:K0 T w w' c)(hc:w.heap.size≤c)(x y:Value):zjy T ((w'.setCell ⟨c,0,none⟩ x).setCell ⟨c,1,none⟩ y) c x y∧Ext w ((w'.setCell ⟨c,0,none⟩ x).setCell ⟨c,1,none⟩ y):=by
 obtain ⟨u',v',h'⟩:=h.res;exact ⟨h'.put x y,(h.x.setCell hc _).setCell hc _⟩
theorem K0.set (h:K0 T w w' c){b:Nat}(hb:w.heap.size≤b)(hne:c ≠ b)(k:Nat)(x:Value):K0 T w (w'.setCell ⟨b,k,none⟩ x) c:=by
 obtain ⟨u',v',h'⟩:=h.res;exact ⟨h.x.setCell hb _,u',v',h'.past1 k hne x⟩
end
structure K2 (T1 T2 TR:TypeId)(w w':World)(b1:Nat)(u1 v1:Value)(b2:Nat)(u2 v2:Value)(c:Nat):Prop where
 x:Ext w w'
 a:zjy T1 w' b1 u1 v1
 b:zjy T2 w' b2 u2 v2
 res:zjz TR w' c
section
variable {T1 T2 TR : TypeId} {w w' w2 : World} {b1 b2 c : Nat} {u1 v1 u2 v2 : Value}
theorem K2.ext (h:K2 T1 T2 TR w w' b1 u1 v1 b2 u2 v2 c)(hx:Ext w' w2):K2 T1 T2 TR w w2 b1 u1 v1 b2 u2 v2 c:=⟨h.x.trans hx,h.a.ext hx,h.b.ext hx,h.res.ext hx⟩
theorem K2.put (h:K2 T1 T2 TR w w' b1 u1 v1 b2 u2 v2 c)(hc:w.heap.size≤c)(h1:b1 ≠ c)(h2:b2 ≠ c)(x y:Value):K2 T1 T2 TR w ((w'.setCell ⟨c,0,none⟩ x).setCell ⟨c,1,none⟩ y) b1 u1 v1 b2 u2 v2 c:=by
 obtain ⟨u,v,hr⟩:=h.res;exact ⟨(h.x.setCell hc _).setCell hc _,h.a.past h1 x y,h.b.past h2 x y,x,y,hr.put x y⟩
theorem K2.fin (h:K2 T1 T2 TR w w' b1 u1 v1 b2 u2 v2 c)(hc:w.heap.size≤c)(x y:Value):zjy TR ((w'.setCell ⟨c,0,none⟩ x).setCell ⟨c,1,none⟩ y) c x y∧Ext w ((w'.setCell ⟨c,0,none⟩ x).setCell ⟨c,1,none⟩ y):=by
 obtain ⟨u',v',h'⟩:=h.res;exact ⟨h'.put x y,(h.x.setCell hc _).setCell hc _⟩
theorem K2.all (h:K2 T1 T2 TR w w' b1 u1 v1 b2 u2 v2 c):K2 T1 T2 TR w w' b1 u1 v1 b2 u2 v2 c∧w'.cell? ⟨b1,0,none⟩=some u1∧w'.cell? ⟨b1,1,none⟩=some v1∧w'.cell? ⟨b2,0,none⟩=some u2∧w'.cell? ⟨b2,1,none⟩=some v2∧w'.cell? ⟨c,0,none⟩=some (zdL w' c 0)∧w'.cell? ⟨c,1,none⟩=some (zdL w' c 1)∧w'.frozen? ⟨c,0,none⟩=false∧w'.frozen? ⟨c,1,none⟩=false :=
 ⟨h,h.a.c0,h.a.c1,h.b.c0,h.b.c1,h.res.c0,h.res.c1,h.res.fz 0,h.res.fz 1⟩
end
theorem zj0 (T1 T2 TR:TypeId)(w:World)(u1 v1 u2 v2 r1 r2:Value):K2 T1 T2 TR w (((w.alloc (.cells #[u1,v1] T1)).alloc (.cells #[u2,v2] T2)).alloc (.cells #[r1,r2] TR)) w.heap.size u1 v1 (w.heap.size+1) u2 v2 (w.heap.size+1+1)∧zjy TR (((w.alloc (.cells #[u1,v1] T1)).alloc (.cells #[u2,v2] T2)).alloc (.cells #[r1,r2] TR)) (w.heap.size+1+1) r1 r2:=by
 have b1:=zjy.new T1 w u1 v1;have b2:=zjy.new T2 (w.alloc (.cells #[u1,v1] T1)) u2 v2;have b3:=zjy.new TR ((w.alloc (.cells #[u1,v1] T1)).alloc (.cells #[u2,v2] T2)) r1 r2;rw [World.size_alloc] at b2;rw [World.size_alloc,World.size_alloc] at b3;exact ⟨⟨(((Ext.refl w).alloc _).alloc _).alloc _,(b1.ext ((Ext.refl _).alloc _)).ext ((Ext.refl _).alloc _),b2.ext ((Ext.refl _).alloc _),r1,r2,b3⟩,b3⟩
end
section
open Go.RowKit Go.Lib Go.Shelf
attribute [local go_sem] Oper.semAt_some
def ScO (w:World)(B:Nat)(v:Value)(p:List Int)(rs:List Qw):Prop:=∃ vp vn,v=.agg #[vp,vn]∧zfk w B vp p∧QwM w B B vn rs
theorem ScO.ext {w w':World}{B:Nat}{v:Value}{p:List Int}{rs:List Qw}(hx:Ext w w')(h:ScO w B v p rs):ScO w' B v p rs:=by
 obtain ⟨vp,vn,e,a,b⟩:=h;exact ⟨vp,vn,e,hx.own a,hx.qwM b⟩
theorem ScO.scV {w:World}{B:Nat}{v:Value}{p:List Int}{rs:List Qw}(h:ScO w B v p rs):ScV w v p rs:=by
 obtain ⟨vp,vn,e,a,b⟩:=h;exact ⟨vp,vn,e,zai a,b.rd⟩
theorem ScO.mono {w:World}{B B':Nat}{v:Value}{p:List Int}{rs:List Qw}(h:ScO w B v p rs)(hB:B'≤B):ScO w B' v p rs:=by
 obtain ⟨vp,vn,e,a,b⟩:=h;exact ⟨vp,vn,e,zah a hB,b.mono hB hB⟩
theorem QwM.set {W:World}{b B:Nat}{v:Value}{rs:List Qw}(h:QwM W b B v rs){c:Nat}{cs:Array Value}(hc:W.heap[c]?=some (.cells cs 36 (0,0)))(k:Nat)(u:Value):QwM (W.setCell ⟨c,k,none⟩ u) b B v rs :=
 ⟨zga hc h.1 (by decide) k u,fun r hr=>zga hc (h.2 r hr) (by decide) k u⟩
theorem QwM.more2 {w0 W V:World}{b B:Nat}{o:Obj}{v v7:Value}{rs:List Qw}{r:Qw}(hE:Ext w0 W)(hB:w0.heap.size≤B)(h:QwM W b B v rs)(hr:zfw W b r.u r.x)
  (hown:V.ownsRow B 32 1 v7 (rs.length+1) (qwc rs++[r.u])) (hgrow:(W.alloc o).grownBy V v.ownBlock):QwM V b B v7 (rs++[r])∧Ext w0 V:=by
 have hal:=h.1.alloc o;have hkeep:∀ s:Qw,zfw W b s.u s.x→zfw V b s.u s.x:=fun s hs=>World.ownsRow.kept (World.ownsRow.alloc hs o) hgrow (zfm (World.ownsRow.alloc hs o) hal (by decide));refine ⟨⟨?_,fun s hs=>?_⟩,(hE.alloc o).grown hgrow fun k hk=>Nat.le_trans hB (World.ownsRow.lt hal k hk).1⟩
 ·rw [List.length_append,List.length_singleton,zjl];exact hown
 ·rcases List.mem_append.1 hs with g | g
  ·exact hkeep s (h.2 s g)
  ·rw [List.mem_singleton] at g;subst g;exact hkeep s hr
def NtR (b:Nat)(W6:World)(bs:Nat)(vp:Value)(xs:List (List Rat))(wr:World):Prop:=∃ (vn:Value)(nts:List Qw),zjy 36 wr bs vp vn∧QwM wr b W6.heap.size vn nts∧nts.map Qw.x=xs∧Ext W6 wr
theorem NtR.more {b:Nat}{W6 W V:World}{bs:Nat}{vp vn v7 u:Value}{x:List Rat}{nts:List Qw}{xs:List (List Rat)}{o:Obj}(hbs:W6.heap.size≤bs)(hb:zjy 36 W bs vp vn)(hq:QwM W b W6.heap.size vn nts)(hm:nts.map Qw.x=xs)(hE:Ext W6 W)(ho:zfw W b u x)
  (hown:V.ownsRow W6.heap.size 32 1 v7 (nts.length+1) (qwc nts++[u])) (hgrow:(W.alloc o).grownBy V vn.ownBlock):NtR b W6 bs vp (xs++[x]) (V.setCell ⟨bs,1,none⟩ v7):=by
 have h1:=QwM.more2 (r:=⟨_,u,zf0 ho.rd⟩) hE (Nat.le_refl _) hq ho hown hgrow;have hbV:zjy 36 V bs vp vn:=zfX (((Ext.refl W).alloc o).heap hb) (World.ownsRow.alloc hq.1 o) (by decide) hgrow;exact ⟨v7,_,hbV.put1 v7,h1.1.set hbV 1 v7,by rw [List.map_append,hm];rfl,h1.2.setCell hbs v7⟩
theorem NtR.ext {b:Nat}{W6 wr w':World}{bs:Nat}{vp:Value}{xs:List (List Rat)}(h:NtR b W6 bs vp xs wr)(hx:Ext wr w'):NtR b W6 bs vp xs w':=by
 obtain ⟨vn,nts,h1,h2,h3,h4⟩:=h;exact ⟨vn,nts,h1.ext hx,hx.qwM h2,h3,h4.trans hx⟩
theorem s6 {w6 w':World}{a:Addr}{u:Value}(h6:w6.cell? a=some u)(h:Ext w6 w'):Ext w6 w'∧w'.cell? a=some u:=⟨h,h.cell h6⟩
def CoR (W:World)(p:List Int)(l:List (List Rat))(k:Nat)(v:Value)(wr:World):Prop:=∃ out:List Qw,QwM wr W.heap.size W.heap.size v out∧out.map Qw.x=ziP p [] (l.take k)∧out.length≤k∧Ext W wr
theorem CoR.skip {W wr w':World}{p:List Int}{l:List (List Rat)}{k:Nat}{v:Value}{x:List Rat}{out:List Qw}(hq:QwM wr W.heap.size W.heap.size v out)(hm:out.map Qw.x=ziP p [] (l.take k))(hl:out.length≤k)(hE:Ext W wr)(hx:Ext wr w')(hr:l[k]?=some x)(hs:rst p x=zer p.length∨rst p x∈out.map Qw.x):CoR W p l (k+1) v w' :=
 ⟨out,hx.qwM hq,by rw [ziR hr,ziO,if_pos (by rw [← hm];exact hs)];exact hm,by omega,hE.trans hx⟩
theorem CoR.more {W wr V:World}{p:List Int}{l:List (List Rat)}{k:Nat}{v v7 u:Value}{x:List Rat}{out:List Qw}{o:Obj}(hE:Ext W wr)(hq:QwM wr W.heap.size W.heap.size v out)(hm:out.map Qw.x=ziP p [] (l.take k))(hl:out.length≤k)(hr:l[k]?=some x)(hs:¬ (rst p x=zer p.length∨rst p x∈out.map Qw.x))(ho:zfw wr W.heap.size u (rst p x))
  (hown:V.ownsRow W.heap.size 32 1 v7 (out.length+1) (qwc out++[u])) (hgrow:(wr.alloc o).grownBy V v.ownBlock):CoR W p l (k+1) v7 V:=by
 have:=QwM.more (r:=⟨_,u,zf0 ho.rd⟩) hE hq ho hown hgrow;exact ⟨_,this.1,by rw [ziR hr,ziO,if_neg (by rw [← hm];exact hs),List.map_append,hm];rfl,by rw [List.length_append];simp;omega,this.2⟩
theorem zj1 {w:World}{v:Value}{p:List Int}{rs:List Qw}(h:ScV w v p rs):∃ a c b d,v=.agg #[.slice a p.length c,.slice b rs.length d]∧ScV w (.agg #[.slice a p.length c,.slice b rs.length d]) p rs:=by
 obtain ⟨vp,vn,rfl,hp,hn⟩:=h;obtain ⟨a,c,rfl,_,_,_⟩:=hp.parts;obtain ⟨b,d,rfl,_,_,_⟩:=hn.1.parts;rw [zam] at *;rw [zfz] at *;exact ⟨a,c,b,d,rfl,_,_,rfl,hp,hn⟩
theorem zj2 (va vb:Value)(p q:List Int)(w:World)(ha:Sl w va (zak p))(hb:Sl w vb (zak q))(hp:p.length≤1000)(hq:q.length≤1000) :
  Calls Tryz.prog 31 #[va,vb] w fun e w'=>e=.returned (.bool (decide (p=q)))∧Ext w w':=by
 obtain ⟨aa,ca,rfl,_,_,hca⟩:=ha.parts;obtain ⟨ab,cb,rfl,_,_,hcb⟩:=hb.parts;rw [zam] at *;rw [zam] at *;have h1:∀ k x,p[k]?=some x→∃ b off,aa=some ⟨b,off,none⟩∧w.cell? ⟨b,off+k,none⟩=some (.int .i64 x):=fun k x h=>hca k _ (by unfold zak;rw [List.getElem?_map,h];rfl);have h2:∀ k x,q[k]?=some x→∃ b off,ab=some ⟨b,off,none⟩∧w.cell? ⟨b,off+k,none⟩=some (.int .i64 x):=fun k x h=>hcb k _ (by unfold zak;rw [List.getElem?_map,h];rfl);clear hca hcb ha hb;by_cases hl:p.length=q.length
 ·have Hl:=hid hl;rw [← hl];have hfin:(∀ i,i<p.length→p[i]?=q[i]?)→decide (p=q)=true:=fun h=>by
   rw [decide_eq_true_eq];apply List.ext_getElem?;intro i;rcases Nat.lt_or_ge i p.length with g | g
   ·exact h i g
   ·rw [List.getElem?_eq_none g,List.getElem?_eq_none (by omega)]
  have hbad:∀ (i:Nat)(x y:Int),p[i]?=some x→q[i]?=some y→x ≠ y→decide (p=q)=false:=fun i x y h1 h2 h3=>by
   rw [decide_eq_false_iff_not];rintro rfl;rw [h1] at h2;exact h3 (Option.some.inj h2)
  generalize hn:p.length=n at *;clear hl hq;have H1:=hid h1;have H2:=hid h2;have Hfin:=hid hfin;have Hbad:=hid hbad;have Hn:=hid hn;clear h1 h2 hfin hbad hn;go_enter Tryz.func31,Tryz.ntmps31
  go_wp2_with fail
  go_loopw [5,13] (fun v5 v13 wr=>∃ k:Nat,v13=.int .i64 k∧k≤n∧Hid (∀ i,i<k→p[i]?=q[i]?)∧Hid (Ext w wr)) (fun _ v13 _=>n - (zag v13).toNat)
  case atStart=>exact ⟨0,rfl,Nat.zero_le _,hid (fun i h=>by omega),hid (Ext.refl _)⟩
  case round =>
   obtain ⟨k,rfl,hk,Hall,HE⟩:=hrel;by_cases hkn:k<n
   ·obtain ⟨x,hx⟩:∃ x,p[k]?=some x:=⟨_,List.getElem?_eq_getElem (by rw [Hn.out];exact hkn)⟩;obtain ⟨y,hy⟩:∃ y,q[k]?=some y:=⟨_,List.getElem?_eq_getElem (by rw [← Hl.out];exact hkn)⟩;obtain ⟨ba,oa,rfl,c0⟩:=H1.out k x hx;obtain ⟨bb,ob,rfl,c1⟩:=H2.out k y hy;have c0:=HE.out.cell c0;have c1:=HE.out.cell c1;have hk0:(0:Int)≤(k:Int):=(by omega);have hk1:(k:Int)<(n:Int):=(by omega);by_cases hxy:x=y
    ·subst hxy;have Hnx:Hid (∀ i,i<k+1→p[i]?=q[i]?):=hid (fun i hi=>by
      rcases Nat.lt_or_ge i k with g | g
      ·exact Hall.out i g
      ·rw [show i=k by omega,hx,hy])
     clear hx hy;go_wp2_with fail
     go_quiet (fail)
     go_wp2_with fail
     go_roundw
     case rel=>exact ⟨k+1,by go_num,by omega,Hnx,hid (HE.out.drewN _)⟩
     case measure=>simp [zag];omega
    ·have hb1:=Hbad.out k x y hx hy hxy;have hxb:(x == y)=false:=beq_eq_false_iff_ne.2 hxy;have Hb1:=hid hb1;clear hb1 hx hy;go_wp2_with fail
     go_quiet (fail)
     go_wp2
     go_ret
     exact ⟨by rw [Hb1.out];rfl,HE.out.drewN _⟩
   ·obtain rfl:n=k:=by omega
    have Hf:=hid (Hfin.out Hall.out);go_wp2
    go_ret
    exact ⟨by rw [Hf.out];rfl,HE.out⟩
 ·have hne:decide (p=q)=false:=by
   rw [decide_eq_false_iff_not];rintro rfl;exact hl rfl
  rw [hne];have hl2:¬ (p.length:Int)=(q.length:Int):=by omega
  clear h1 h2 hne;generalize p.length=n at *;generalize q.length=m at *;go_enter Tryz.func31,Tryz.ntmps31
  go_wp2
  go_ret
  exact ⟨rfl,Ext.refl _⟩
theorem zj3 (va vb:Value)(rs ts:List Qw)(w:World)(ha:RdM w va rs)(hb:RdM w vb ts)(hr:rs.length≤1000)(_ht:ts.length≤1000)(hr2:∀ r∈rs,r.x.length≤1000)(ht2:∀ r∈ts,r.x.length≤1000) :
  Calls Tryz.prog 49 #[va,vb,.func (.func 23) #[] #[]] w fun e w'=>e=.returned (.bool (decide (rs.map Qw.x=ts.map Qw.x)))∧Ext w w':=by
 have heq:=fun (r s:Qw)(h:r∈rs)(k:s∈ts) W (hE:Ext w W)=>zji r.u s.u r.x s.x W (hE.rd (ha.2 r h)) (hE.rd (hb.2 s k)) (hr2 r h) (ht2 s k);obtain ⟨aa,ca,rfl,_,_,hca⟩:=ha.1.parts;obtain ⟨ab,cb,rfl,_,_,hcb⟩:=hb.1.parts;rw [zfz] at *;rw [zfz] at *;have h1:∀ k r,rs[k]?=some r→∃ b off,aa=some ⟨b,off,none⟩∧w.cell? ⟨b,off+k,none⟩=some r.u:=fun k x h=>hca k _ (by unfold qwc;rw [List.getElem?_map,h];rfl);have h2:∀ k r,ts[k]?=some r→∃ b off,ab=some ⟨b,off,none⟩∧w.cell? ⟨b,off+k,none⟩=some r.u:=fun k x h=>hcb k _ (by unfold qwc;rw [List.getElem?_map,h];rfl);clear hca hcb ha hb hr2 ht2;by_cases hl:rs.length=ts.length
 ·have Hl:=hid hl;rw [← hl];have hfin:(∀ i,i<rs.length→(rs.map Qw.x)[i]?=(ts.map Qw.x)[i]?)→decide (rs.map Qw.x=ts.map Qw.x)=true:=fun h=>by
   rw [decide_eq_true_eq];apply List.ext_getElem?;intro i;rcases Nat.lt_or_ge i rs.length with g | g
   ·exact h i g
   ·rw [List.getElem?_eq_none (by rw [List.length_map];exact g),List.getElem?_eq_none (by rw [List.length_map];omega)]
  have hbad:∀ (i:Nat)(r s:Qw),rs[i]?=some r→ts[i]?=some s→r.x ≠ s.x→decide (rs.map Qw.x=ts.map Qw.x)=false:=fun i r s h1 h2 h3=>by
   rw [decide_eq_false_iff_not];intro e;have:=congrArg (fun l=>l[i]?) e;simp only [List.getElem?_map,h1,h2,Option.map_some,Option.some.injEq] at this;exact h3 this
  generalize hn:rs.length=n at *;clear hl _ht;have H1:=hid h1;have H2:=hid h2;have Hfin:=hid hfin;have Hbad:=hid hbad;have Hn:=hid hn;have Heq:=hid heq;clear h1 h2 hfin hbad hn heq;go_enter Tryz.func49,Tryz.ntmps49
  go_wp2_with fail
  go_loopw [7,8,9,17] (fun v7 v8 v9 v17 wr=>∃ k:Nat,v17=.int .i64 k∧k≤n∧Hid (∀ i,i<k→(rs.map Qw.x)[i]?=(ts.map Qw.x)[i]?)∧Hid (Ext w wr)) (fun _ _ _ v17 _=>n - (zag v17).toNat)
  case atStart=>exact ⟨0,rfl,Nat.zero_le _,hid (fun i h=>by omega),hid (Ext.refl _)⟩
  case round =>
   obtain ⟨k,rfl,hk,Hall,HE⟩:=hrel;by_cases hkn:k<n
   ·obtain ⟨r,hx⟩:∃ x,rs[k]?=some x:=⟨_,List.getElem?_eq_getElem (by rw [Hn.out];exact hkn)⟩;obtain ⟨s,hy⟩:∃ y,ts[k]?=some y:=⟨_,List.getElem?_eq_getElem (by rw [← Hl.out];exact hkn)⟩;obtain ⟨ba,oa,rfl,c0⟩:=H1.out k r hx;obtain ⟨bb,ob,rfl,c1⟩:=H2.out k s hy;have c0:=HE.out.cell c0;have c1:=HE.out.cell c1;have hk0:(0:Int)≤(k:Int):=(by omega);have hk1:(k:Int)<(n:Int):=(by omega);have hq:=Heq.out r s (List.mem_of_getElem? hx) (List.mem_of_getElem? hy) wr HE.out;by_cases hxy:r.x=s.x
    ·have Hnx:Hid (∀ i,i<k+1→(rs.map Qw.x)[i]?=(ts.map Qw.x)[i]?):=hid (fun i hi=>by
      rcases Nat.lt_or_ge i k with g | g
      ·exact Hall.out i g
      ·rw [show i=k by omega,List.getElem?_map,List.getElem?_map,hx,hy,Option.map_some,Option.map_some,hxy])
     rw [decide_eq_true hxy] at hq;have Hq:=hid hq;clear hx hy hq hxy;generalize r.u=ur at *;generalize s.u=us at *;go_wp2_with fail
     refine Hq.out.mono ?_;rintro e w2 ⟨rfl,hx2⟩;have HE2:=hid (HE.out.trans hx2);clear hx2;go_wp2_with fail
     go_roundw
     case rel=>exact ⟨k+1,by go_num,by omega,Hnx,HE2⟩
     case measure=>simp [zag];omega
    ·have hb1:=Hbad.out k r s hx hy hxy;rw [decide_eq_false hxy] at hq;have Hb1:=hid hb1;have Hq:=hid hq;clear hb1 hx hy hq hxy;generalize r.u=ur at *;generalize s.u=us at *;go_wp2_with fail
     refine Hq.out.mono ?_;rintro e w2 ⟨rfl,hx2⟩;have HE2:=hid (HE.out.trans hx2);clear hx2;go_wp2
     go_ret
     exact ⟨by rw [Hb1.out];rfl,HE2.out⟩
   ·obtain rfl:n=k:=by omega
    have Hf:=hid (Hfin.out Hall.out);go_wp2
    go_ret
    exact ⟨by rw [Hf.out];rfl,HE.out⟩
 ·have hne:decide (rs.map Qw.x=ts.map Qw.x)=false:=by
   rw [decide_eq_false_iff_not];intro e;have:=congrArg List.length e;rw [List.length_map,List.length_map] at this;exact hl this
  rw [hne];have hl2:¬ (rs.length:Int)=(ts.length:Int):=by omega
  clear h1 h2 hne heq;generalize rs.length=n at *;generalize ts.length=m at *;go_enter Tryz.func49,Tryz.ntmps49
  go_wp2
  go_ret
  exact ⟨rfl,Ext.refl _⟩
theorem zj4 (v1 v2:Value)(p q:List Int)(rs ts:List Qw)(w:World)(h1:ScV w v1 p rs)(h2:ScV w v2 q ts)(hp:p.length≤1000)(hq:q.length≤1000)(hr:rs.length≤1000)(ht:ts.length≤1000)(hr2:∀ r∈rs,r.x.length≤1000)(ht2:∀ r∈ts,r.x.length≤1000) :
  Calls Tryz.prog 14 #[v1,v2] w fun e w'=>e=.returned (.bool (decide (p=q) && decide (rs.map Qw.x=ts.map Qw.x)))∧Ext w w':=by
 obtain ⟨vp,vn,rfl,hp1,hn1⟩:=h1;obtain ⟨vq,vm,rfl,hq1,hm1⟩:=h2;have he1:=fun W (hE:Ext w W)=>zj2 vp vq p q W (hE.sl hp1) (hE.sl hq1) hp hq;have he2:=fun W (hE:Ext w W)=>zj3 vn vm rs ts W (hE.rdM hn1) (hE.rdM hm1) hr ht hr2 ht2;obtain ⟨ap,cp,rfl,_,_,_⟩:=hp1.parts;obtain ⟨aq,cq,rfl,_,_,_⟩:=hq1.parts;obtain ⟨an,cn,rfl,_,_,_⟩:=hn1.1.parts;obtain ⟨am,cm,rfl,_,_,_⟩:=hm1.1.parts;generalize (zak p).length=lp at *;generalize (zak q).length=lq at *;generalize (qwc rs).length=ln at *;generalize (qwc ts).length=lm at *;generalize decide (p=q)=b1 at *;generalize decide (rs.map Qw.x=ts.map Qw.x)=b2 at *;have hE0:Ext w ((w.alloc (.cells #[.slice ap lp cp,.slice an ln cn] 36)).alloc (.cells #[.slice aq lq cq,.slice am lm cm] 36)):=((Ext.refl w).alloc _).alloc _;have k1:=(zjy.new 36 w (.slice ap lp cp) (.slice an ln cn)).ext ((Ext.refl _).alloc (.cells #[.slice aq lq cq,.slice am lm cm] 36));have k2:=zjy.new 36 (w.alloc (.cells #[.slice ap lp cp,.slice an ln cn] 36)) (.slice aq lq cq) (.slice am lm cm);rw [World.size_alloc] at k2;have q0:=k1.c0;have q2:=k2.c0;have He1:=hid he1;have He2:=hid he2;have HE0:=hid hE0;have K1:=hid k1;have K2':=hid k2;clear hp1 hq1 hn1 hm1 he1 he2 hE0 k1 k2 hr2 ht2
 cases b1
 ·go_enter Tryz.func14,Tryz.ntmps14
  go_wp2_with fail
  refine (He1.out _ HE0.out).mono ?_;rintro e w1 ⟨rfl,hx1⟩;have Hx1:=hid (HE0.out.trans hx1);clear hx1;go_wp2
  go_ret
  exact ⟨rfl,Hx1.out⟩
 ·go_enter Tryz.func14,Tryz.ntmps14
  go_wp2_with fail
  refine (He1.out _ HE0.out).mono ?_;rintro e w1 ⟨rfl,hx1⟩;have q1:=(K1.out.ext hx1).c1;have q3:=(K2'.out.ext hx1).c1;have Hx1:=hid (HE0.out.trans hx1);clear hx1 q0 q2;go_wp2_with fail
  refine (He2.out _ Hx1.out).mono ?_;rintro e w2 ⟨rfl,hx2⟩;have Hx2:=hid (Hx1.out.trans hx2);clear hx2 q1 q3;go_wp2
  go_ret
  exact ⟨rfl,Hx2.out⟩
theorem zj5 (w:World)(x y z u:Value):zjy 36 ((w.alloc (.cells #[x,y] 36)).alloc (.cells #[z,u] 36)) w.heap.size x y∧zjy 36 ((w.alloc (.cells #[x,y] 36)).alloc (.cells #[z,u] 36)) (w.heap.size+1) z u∧Ext w ((w.alloc (.cells #[x,y] 36)).alloc (.cells #[z,u] 36)):=by
 refine ⟨(zjy.new 36 w x y).ext ((Ext.refl _).alloc _),?_,((Ext.refl w).alloc _).alloc _⟩;have:=zjy.new 36 (w.alloc (.cells #[x,y] 36)) z u;rwa [World.size_alloc] at this
theorem zj6 (v1 v2:Value)(p q:List Int)(rs ts:List Qw)(w:World)(he:Env w)(h1:ScV w v1 p rs)(h2:ScV w v2 q ts)(g1:zit p rs)(g2:zit q ts) :
  Calls Tryz.prog 95 #[v1,v2] w fun e w'=>e=.returned (.int .i64 0)∧Ext w w':=by
 obtain ⟨a1,c1,b1,d1,rfl,h1⟩:=zj1 h1;obtain ⟨a2,c2,b2,d2,rfl,h2⟩:=zj1 h2;have hc1:=fun W (hE:Ext w W)=>ziu _ p rs W (he.ext hE) (h1.ext hE) g1;have hc2:=fun W (hE:Ext w W)=>ziu _ q ts W (he.ext hE) (h2.ext hE) g2;have hb:=zj5 w (.slice a1 p.length c1) (.slice b1 rs.length d1) (.slice a2 q.length c2) (.slice b2 ts.length d2);have Hc1:=hid hc1;have Hc2:=hid hc2;have Hb:=hid hb;clear hc1 hc2 hb h1 h2 g1 g2 he;go_enter Tryz.func95,Tryz.ntmps95
 have q0:=Hb.out.1.c0;have q1:=Hb.out.1.c1;go_wp2_with fail
 refine (Hc1.out _ Hb.out.2.2).mono ?_;rintro e w1 ⟨rfl,hx1⟩;have r0:=(Hb.out.2.1.ext hx1).c0;have r1:=(Hb.out.2.1.ext hx1).c1;have Hx1:=hid (Hb.out.2.2.trans hx1);clear hx1 q0 q1;go_wp2_with fail
 refine (Hc2.out _ Hx1.out).mono ?_;rintro e w2 ⟨rfl,hx2⟩;have Hx2:=hid (Hx1.out.trans hx2);clear hx2;go_wp2
 go_ret
 exact ⟨rfl,Hx2.out⟩
end
section
open Go.RowKit Go.Lib
theorem zj7 (n:Int)(w:World)(he:Env w)(h0:-9223372036854775808≤n)(h1:n≤9223372036854775807) :
  Calls Tryz.prog 145 #[.int .i64 n] w fun e w'=>e=.returned (.string (I n))∧Ext w w':=by
 have hi:=za9 n h0 h1 w he;generalize I n=s at *;clear he;have Hi:=hid hi;clear hi;go_enter Tryz.func145,Tryz.ntmps145
 go_wp2_with fail
 refine (Hi.out).mono ?_;rintro e w1 ⟨rfl,hx1⟩;have Hx1:=hid hx1;clear hx1;go_wp2
 go_ret
 exact ⟨rfl,Hx1.out⟩
def zj8 (w:World)(b:Nat):Nat:=match w.cell? ⟨b,1,none⟩ with | some (.slice _ n _)=>n | _=>0
def zj9 (u u':Value)(n k:Nat):Prop:=∃ a c,u=.slice a n c∧u'=.slice a k c
theorem zjA (u:Value)(b:Bool)(ds:List Int)(w:World)(hu:Sl w u (zak ds))(hl:ds.length≤1000) :
  Calls Tryz.prog 111 #[.agg #[.bool b,u]] w fun e w'=>∃ (u':Value)(k:Nat),e=.returned (.agg #[.bool (b && decide (0<k)),u'])∧k≤ds.length∧(∀ j,k≤j→j<ds.length→ds[j]?=some 0)∧(∀ j,k=j+1→ds[j]? ≠ some 0)∧Sl w' u' (zak (ds.take k))∧Ext w w'∧zj9 u u' ds.length k:=by
 have htk:∀ k,k≤ds.length→∀ a c,u=.slice a ds.length c→∀ W,Ext w W→Sl W (.slice a k c) (zak (ds.take k)):=fun k hk a c e W hE=>by
  have hs:=hE.sl hu;have hlen:(zak (ds.take k)).length=k:=by rw [zam,List.length_take];omega
  rcases hs with ⟨a',cap,e',hm,h0⟩ | ⟨b',off,cap,e',h1,h2,hc⟩
  ·rw [e] at e';injection e' with e1 e2 e3;have:k=0:=(by omega);subst this;exact .inl ⟨a,c,rfl,by omega,by simp [zak]⟩
  ·rw [e] at e';injection e' with e1 e2 e3;refine .inr ⟨b',off,c,by rw [hlen,e1],by rw [hlen];rw [zam] at h1;omega,by omega,fun i x hx=>hc i x ?_⟩;have hi:i<k:=(by have:=(List.getElem?_eq_some_iff.1 hx).1;omega);unfold zak at hx ⊢;rw [List.getElem?_map,List.getElem?_take,if_pos hi] at hx;rw [List.getElem?_map];exact hx
 obtain ⟨a,c,rfl,hcm,hcl,hc⟩:=hu.parts;rw [zam] at htk hcl ⊢;have hcell:∀ j d,ds[j]?=some d→∃ b' off,a=some ⟨b',off,none⟩∧w.cell? ⟨b',off+j,none⟩=some (.int .i64 d):=fun j d hd=>hc j _ (by unfold zak;rw [List.getElem?_map,hd];rfl);have hE0:Ext w ((w.alloc (.cells #[.bool b,.slice a ds.length c] 120)).alloc (.cells #[.bool false,.slice none 0 0] 120)):=((Ext.refl _).alloc _).alloc _;have b1:=(zjy.new 120 w (.bool b) (.slice a ds.length c)).ext ((Ext.refl _).alloc (.cells #[.bool false,.slice none 0 0] 120));have b2:=zjy.new 120 (w.alloc (.cells #[.bool b,.slice a ds.length c] 120)) (.bool false) (.slice none 0 0);rw [World.size_alloc] at b2;have htk2:=fun k hk W hE=>htk k hk a c rfl W hE;clear hu hc htk;generalize hn:ds.length=n at *;have Hn:=hid hn;clear hn;have hw0:=Nat.lt_succ_self w.heap.size;have Hcell:=hid hcell;have HE0:=hid hE0;have Htk2:=hid htk2;have B1:=hid b1;have B2:=hid b2;clear hcell hE0 htk2 b1 b2;go_enter Tryz.func111,Tryz.ntmps111
 go_wp2_with fail
 go_loopw [3] (fun _ wr=>∃ k:Nat,k≤n∧zjy 120 wr w.heap.size (.bool b) (.slice a k c)∧K0 120 w wr (w.heap.size+1)∧∀ j,k≤j→j<n→ds[j]?=some 0) (fun _ wr=>zj8 wr w.heap.size)
 case atStart=>exact ⟨n,Nat.le_refl _,B1.out,⟨HE0.out,_,_,B2.out⟩,fun j h1 h2=>by omega⟩
 case round =>
  obtain ⟨k,hk,hb,hK,hz⟩:=hrel;have q0:=hb.c0;have q1:=hb.c1;have f0:=hb.fz 0;have f1:=hb.fz 1;have hme:zj8 wr w.heap.size=k:=by unfold zj8;rw [q1]
  have Hb:=hid hb;have HK:=hid hK;have Hz:=hid hz;have Hme:=hid hme;clear hb hK hz hme;by_cases hk0:0<k
  ·obtain ⟨j,hkj⟩:∃ j,k=j+1:=⟨k - 1,by omega⟩;obtain ⟨d,hd⟩:∃ d,ds[j]?=some d:=⟨_,List.getElem?_eq_getElem (by rw [Hn.out];omega)⟩;obtain ⟨b',off,rfl,hc1⟩:=Hcell.out j d hd;have hc2:=HK.out.x.cell hc1;have hwj:IntKind.i64.wrap ((k:Int) - 1)=(j:Int):=(by rw [IntKind.wrap_i64];omega);have hj0:(0:Int)≤(j:Int):=(by omega);have hj1:(j:Int)<(k:Int):=(by omega);have hj2:¬ (k:Int)<(j:Int):=(by omega);have hkz:(0:Int)<(k:Int):=(by omega);have hkd:decide ((k:Int) > 0)=true:=decide_eq_true (by omega);have Hd:=hid hd;clear hd hc1;have hjc:(j:Int)≤(c:Int):=(by omega);by_cases hd0:d=0
   ·subst hd0;have hS:=Hb.out.put1 (.slice (some ⟨b',off,none⟩) j c);have hKS:=HK.out.set (b:=w.heap.size) (Nat.le_refl _) (by omega) 1 (.slice (some ⟨b',off,none⟩) j c);have HS:=hid hS;have HKS:=hid hKS;have Hkj:=hid hkj;clear hS hKS hkj;go_wp2_with fail
    go_roundw
    case rel=>exact ⟨j,by have:=Hkj.out;omega,HS.out,HKS.out,fun i h1 h2=>by
     have:=Hkj.out;rcases (by omega:i=j∨k≤i) with e | e
     ·rw [e];exact Hd.out
     ·exact Hz.out i e h2⟩
    case measure =>
     have h1:zj8 (wr.setCell ⟨w.heap.size,1,none⟩ (.slice (some ⟨b',off,none⟩) j c)) w.heap.size=j:=(by unfold zj8;rw [HS.out.c1]);have:=Hkj.out;rw [h1,Hme.out];omega
   ·have hdn:decide (d=0)=false:=decide_eq_false hd0;have hdd:(d == 0)=false:=(by simpa using hd0);have Hd0:=hid hd0;have Hkj:=hid hkj;clear hkj
    cases b with
    | true =>
     have hS:=Hb.out.put0 (.bool true)
     have hKS:=HK.out.set (b:=w.heap.size) (Nat.le_refl _) (by omega) 0 (.bool true)
     have hsl:=Htk2.out k hk _ hKS.x
     have s0:=hS.c0
     have s1:=hS.c1
     have k0:=hKS.res.c0;have k1:=hKS.res.c1;have z0:=hKS.res.fz 0;have z1:=hKS.res.fz 1
     obtain ⟨hb5,hx5⟩:=hKS.fin (by omega) (.bool true) (.slice (some ⟨b',off,none⟩) k c)
     have hsl2:=Htk2.out k hk _ hx5
     have Hb5:=hid hb5;have Hx5:=hid hx5;have Hsl2:=hid hsl2
     clear hS hKS hsl hb5 hx5 hsl2
     go_wp2_with fail
     have hd0':=Hb5.out.c0
     have hd1':=Hb5.out.c1
     exact bodyPost_ret (v:=.agg #[.bool true,.slice (some ⟨b',off,none⟩) k c]) (by simp [results,Tryz.results111,go_sem,hd0',hd1']) rfl ⟨_,k,by rw [decide_eq_true hk0],hk,fun i h1 h2=>Hz.out i h1 h2,fun i e=>by rw [show i=j by have:=Hkj.out;omega,Hd.out];exact fun e=>Hd0.out (Option.some.inj e),Hsl2.out,Hx5.out,⟨_,_,rfl,rfl⟩⟩
    | false =>
     have hS:=Hb.out.put0 (.bool false)
     have hKS:=HK.out.set (b:=w.heap.size) (Nat.le_refl _) (by omega) 0 (.bool false)
     have hsl:=Htk2.out k hk _ hKS.x
     have s0:=hS.c0
     have s1:=hS.c1
     have k0:=hKS.res.c0;have k1:=hKS.res.c1;have z0:=hKS.res.fz 0;have z1:=hKS.res.fz 1
     obtain ⟨hb5,hx5⟩:=hKS.fin (by omega) (.bool false) (.slice (some ⟨b',off,none⟩) k c)
     have hsl2:=Htk2.out k hk _ hx5
     have Hb5:=hid hb5;have Hx5:=hid hx5;have Hsl2:=hid hsl2
     clear hS hKS hsl hb5 hx5 hsl2
     go_wp2_with fail
     have hd0':=Hb5.out.c0
     have hd1':=Hb5.out.c1
     exact bodyPost_ret (v:=.agg #[.bool false,.slice (some ⟨b',off,none⟩) k c]) (by simp [results,Tryz.results111,go_sem,hd0',hd1']) rfl ⟨_,rfl,k,hk,fun i h1 h2=>Hz.out i h1 h2,fun i e=>by rw [show i=j by have:=Hkj.out;omega,Hd.out];exact fun e=>Hd0.out (Option.some.inj e),Hsl2.out,Hx5.out,⟨_,_,rfl,rfl⟩⟩
  ·obtain rfl:k=0:=by omega
   have hkd:decide (((0:Nat):Int) > 0)=false:=by decide
   cases b with
   | true =>
    have hS:=Hb.out.put0 (.bool false)
    have hKS:=HK.out.set (b:=w.heap.size) (Nat.le_refl _) (by omega) 0 (.bool false)
    have hsl:=Htk2.out 0 hk _ hKS.x
    have s0:=hS.c0
    have s1:=hS.c1
    have k0:=hKS.res.c0;have k1:=hKS.res.c1;have z0:=hKS.res.fz 0;have z1:=hKS.res.fz 1
    obtain ⟨hb5,hx5⟩:=hKS.fin (by omega) (.bool false) (.slice a 0 c)
    have hsl2:=Htk2.out 0 hk _ hx5
    have Hb5:=hid hb5;have Hx5:=hid hx5;have Hsl2:=hid hsl2
    clear hS hKS hsl hb5 hx5 hsl2
    go_wp2_with fail
    have hd0':=Hb5.out.c0
    have hd1':=Hb5.out.c1
    exact bodyPost_ret (v:=.agg #[.bool false,.slice a 0 c]) (by simp [results,Tryz.results111,go_sem,hd0',hd1']) rfl ⟨_,0,rfl,Nat.zero_le _,fun i h1 h2=>Hz.out i h1 h2,fun i e=>by omega,Hsl2.out,Hx5.out,⟨_,_,rfl,rfl⟩⟩
   | false =>
    have hS:=Hb.out.put0 (.bool false)
    have hKS:=HK.out.set (b:=w.heap.size) (Nat.le_refl _) (by omega) 0 (.bool false)
    have hsl:=Htk2.out 0 hk _ hKS.x
    have s0:=hS.c0
    have s1:=hS.c1
    have k0:=hKS.res.c0;have k1:=hKS.res.c1;have z0:=hKS.res.fz 0;have z1:=hKS.res.fz 1
    obtain ⟨hb5,hx5⟩:=hKS.fin (by omega) (.bool false) (.slice a 0 c)
    have hsl2:=Htk2.out 0 hk _ hx5
    have Hb5:=hid hb5;have Hx5:=hid hx5;have Hsl2:=hid hsl2
    clear hS hKS hsl hb5 hx5 hsl2
    go_wp2_with fail
    have hd0':=Hb5.out.c0
    have hd1':=Hb5.out.c1
    exact bodyPost_ret (v:=.agg #[.bool false,.slice a 0 c]) (by simp [results,Tryz.results111,go_sem,hd0',hd1']) rfl ⟨_,0,rfl,Nat.zero_le _,fun i h1 h2=>Hz.out i h1 h2,fun i e=>by omega,Hsl2.out,Hx5.out,⟨_,_,rfl,rfl⟩⟩
theorem zjB (u:Value)(b:Bool)(ds:List Int)(w:World)(hu:Sl w u (zak ds))(hl:ds.length≤1000) :
  Calls Tryz.prog 111 #[.agg #[.bool b,u]] w fun e w'=>∃ (u':Value)(k:Nat),e=.returned (.agg #[.bool (b && decide (0<k)),u'])∧k≤ds.length∧(∀ j,k≤j→j<ds.length→ds[j]?=some 0)∧(∀ j,k=j+1→ds[j]? ≠ some 0)∧Sl w' u' (zak (ds.take k))∧Ext w w' :=
 (zjA u b ds w hu hl).mono fun _ _ ⟨u',k,h1,h2,h3,h4,h5,h6,_⟩=>⟨u',k,h1,h2,h3,h4,h5,h6⟩
end
end Go.Proofs.YtbkfhacmekbniaaGreatDoor
