/- Walks: slices.IndexFunc and slices.ContainsFunc at lists of sizes, with a closure that makes memory. What the reduction asks of sizes; the closure of scale.collect. scale.note over a plain right scale. Blocks of two cells of any type: results and boxes. Walk: scale.collect of at most nine sizes. Walks: scale.mode, scale.Mode. Plain: ascending lists of so many numbers in lexicographic order: as the program finds them, and as the reference does. -/
import Derived.Test.YtebabancfnmfjaaGreatDoorPq08
import Derived.Shelf.Abstract
import Derived.Test.YtebabancfnmfjaaGreatDoorPq16
import Derived.Test.YtebabancfnmfjaaGreatDoorPq14
import Derived.Test.YtebabancfnmfjaaGreatDoorPq17
import Derived.Test.YtebabancfnmfjaaGreatDoorPq05
set_option maxRecDepth 100000
set_option maxHeartbeats 1000000
namespace Go.Proofs.YtebabancfnmfjaaGreatDoor
section
open Go.RowKit Go.Lib Go.Shelf
def zje (P:List Rat→Bool)(rs:List Qw)(z:Int):Prop:=(z=-1∧∀ r∈rs,P r.x=false)∨∃ (k:Nat)(r:Qw),z=k∧rs[k]?=some r∧P r.x=true∧∀ s∈rs.take k,P s.x=false
theorem zje.any {P:List Rat→Bool}{rs:List Qw}{z:Int}(h:zje P rs z):rs.any (fun r=>P r.x)=decide (0≤z):=by
 rcases h with ⟨rfl,h⟩ | ⟨k,r,rfl,h1,h2,_⟩
 ·rw [show decide ((0:Int)≤-1)=false by decide,List.any_eq_false];intro r hr;rw [h r hr];simp
 ·rw [show decide ((0:Int)≤(k:Int))=true from decide_eq_true (by omega),List.any_eq_true];exact ⟨r,List.mem_of_getElem? h1,h2⟩
theorem zjf (g:Nat)(cb:Array Value)(v:Value)(rs:List Qw)(P:List Rat→Bool)(w:World)(hv:Sl w v (qwc rs))(hl:rs.length≤1000)
  (eg:∀ args w,(callFunc g args).run Tryz.prog w=.ok (.enter g args) w)
  (hp:∀ W,Ext w W→∀ r∈rs,Calls Tryz.prog g (#[r.u]++cb) W fun e w'=>e=.returned (.bool (P r.x))∧Ext W w') :
  Calls Tryz.prog 200 #[v,.func (.func g) #[] cb] w fun e w'=>∃ z:Int,e=.returned (.int .i64 z)∧zje P rs z∧Ext w w':=by
 obtain ⟨a,c,rfl,_,_,hc⟩:=hv.parts;rw [zfz];have hcell:∀ k r,rs[k]?=some r→∃ b off,a=some ⟨b,off,none⟩∧w.cell? ⟨b,off+k,none⟩=some r.u:=fun k r hr=>hc k r.u (by unfold qwc;rw [List.getElem?_map,hr];rfl);generalize hn:rs.length=n at *;have Hn:=hid hn;have Hp:=hid hp;have Hc:=hid hcell;clear hv hc hn hp hcell;go_enter Tryz.func200,Tryz.ntmps200
 go_wp2_with fail
 go_loopw [5,8] (fun v5 v8 wr=>∃ k:Nat,v8=.int .i64 k∧k≤n∧(∀ s∈rs.take k,P s.x=false)∧Ext w wr) (fun _ v8 _=>n - (zal v8).toNat)
 case atStart=>exact ⟨0,rfl,Nat.zero_le _,fun r h=>by simp at h,Ext.refl _⟩
 case round =>
  obtain ⟨k,rfl,hk,hall,hE⟩:=hrel;have Hall:=hid hall;clear hall;by_cases hlt:k<n
  ·obtain ⟨r,hr⟩:∃ r,rs[k]?=some r:=⟨_,List.getElem?_eq_getElem (by rw [Hn.out];exact hlt)⟩;obtain ⟨b,off,rfl,h0⟩:=Hc.out k r hr;have hc0:=hE.cell h0;have hd:=Hp.out wr hE r (List.mem_of_getElem? hr);have HE:=hid hE;have Hr:=hid hr;clear hr h0 hE;generalize r.u=u at *;generalize hdx:P r.x=dx at *;have Hd:=hid hd;have Hdx:=hid hdx;clear hd hdx;have hk0:(0:Int)≤(k:Int):=(by omega);have hk1:(k:Int)<(n:Int):=(by omega);go_wp2_with fail
   refine Hd.out.mono ?_;rintro e W2 ⟨rfl,hx2⟩;have HE2:=hid (HE.out.trans hx2);clear hx2
   cases dx with
   | true =>
    go_wp2
    go_ret
    exact ⟨_,rfl,.inr ⟨k,r,rfl,Hr.out,Hdx.out,Hall.out⟩,HE2.out⟩
   | false =>
    go_wp2_with fail
    go_roundw
    case rel=>exact ⟨k+1,by go_num,hlt,fun s hs=>by
     obtain ⟨hl2,e⟩:=List.getElem?_eq_some_iff.1 Hr.out;rw [List.take_succ_eq_append_getElem hl2] at hs;rcases List.mem_append.1 hs with h | h
     ·exact Hall.out s h
     ·rw [List.mem_singleton] at h;rw [h,e];exact Hdx.out,HE2.out⟩
    case measure=>simp [zal];omega
  ·have hkk:¬ (k:Int)<(n:Int):=(by omega);have hkl:k=n:=(by omega);have Hkl:=hid hkl;clear hkl;have HE:=hid hE;clear hE;go_wp2
   go_ret
   exact ⟨-1,rfl,.inl ⟨rfl,fun r hr=>Hall.out r (by rw [Hkl.out,← Hn.out,List.take_length];exact hr)⟩,HE.out⟩
theorem zjg (g:Nat)(cb:Array Value)(v:Value)(rs:List Qw)(P:List Rat→Bool)(w:World)(hv:Sl w v (qwc rs))(hl:rs.length≤1000)
  (eg:∀ args w,(callFunc g args).run Tryz.prog w=.ok (.enter g args) w)
  (hp:∀ W,Ext w W→∀ r∈rs,Calls Tryz.prog g (#[r.u]++cb) W fun e w'=>e=.returned (.bool (P r.x))∧Ext W w') :
  Calls Tryz.prog 134 #[v,.func (.func g) #[] cb] w fun e w'=>e=.returned (.bool (rs.any fun r=>P r.x))∧Ext w w':=by
 have hi:=zjf g cb v rs P w hv hl eg hp;obtain ⟨a,c,rfl,_,_,_⟩:=hv.parts;have Hi:=hid hi;clear hi hp hv;go_enter Tryz.func134,Tryz.ntmps134
 go_wp2_with fail
 refine Hi.out.mono ?_;rintro e w1 ⟨z,rfl,hz,hx⟩;have Hz:=hid hz.any;have Hx:=hid hx;clear hz hx;go_wp2
 go_ret
 exact ⟨by rw [Hz.out];rfl,Hx.out⟩
theorem zjh {k:Nat}{z:Int}(h:z.natAbs<10 ^ k)(hk:0<k):Ft k (z:Rat):=by
 refine ⟨?_,?_⟩
 ·rw [Rat.num_intCast];exact Dec.nDigits_le hk h
 ·rw [Rat.den_intCast];exact Dec.nDigits_le hk (Nat.one_lt_pow (by omega) (by decide))
structure zji (p:List Int)(a:Rat)(tl:List Rat):Prop where
 len:tl.length+1=p.length
 pr:Pr p (tl.length+1)
 ft:∀ q∈a::tl,Ft 30 q
 qf:QF p (a::tl)
 fk:Ft 400 ((-flP p (a::tl):Int):Rat)
 fit:Fit (flP p (a::tl))
 res:∀ q∈rst p (a::tl),Ft 30 q
theorem Lw.red {p:List Int}{c:Int}{l:List (List Rat)}(h:Lw p c l){x:List Rat}(hx:x∈l):∃ a tl,x=a::tl∧zji p a tl:=by
 obtain ⟨n,hn⟩:=h.nic;have hl:=h.len x hx;have hp:Pr p x.length:=by rw [hl];exact h.pr
 have hq:=h.quick x hx;have hr:=h.range hx;have hni:=hn x hx;have hfl:=ziP hp hni (h.bd x hx).1 (h.bd x hx).2;have hc:=h.c1;have hrq:zh0 p (rst p x):=zit (c:=1) (by unfold rst;rw [ziz];exact hp) (zi6 hni) (by omega) (by omega) (by
  rw [show ((1 * 67108864:Int):Rat)=67108864 from rfl];grind) (by
  rw [show ((1 * 67108864:Int):Rat)=67108864 from rfl];grind)
 obtain ⟨a,tl,rfl,htl,hb⟩:=ziN hp hni;refine ⟨a,tl,rfl,htl,hp,hq.1,?_,?_,?_,hrq.1⟩
 ·by_cases hz:∀ r∈tl,r=0
  ·left;rw [List.tail_cons,List.all_eq_true];simpa using hz
  ·have hbx:=hb.resolve_right hz;have hA:=zir hp hbx (h.bd _ hx).1 (h.bd _ hx).2;exact (zhS (m:=100000) hp hbx (by omega) (by omega) (fun a' ha'=>by cases ha';omega)).qf hp hbx
 ·exact (zjh (k:=5) (by show _<100000;omega) (by omega)).mono (by omega)
 ·show nDigits _≤_;have:=Dec.nDigits_le (n:=(flP p (a::tl)).natAbs) (k:=5) (by omega) (by show _<100000;omega);omega
end
section
open Go.RowKit Go.Lib
section
variable {p : List Int} {N : List (List Rat)} (h : Wd p N)
include h
theorem Wd.nt_bd (k:Int):((k / (N.length:Int):Int):Rat) * 67108864≤sF p (nt p N k)∧sF p (nt p N k)≤((k / (N.length:Int):Int):Rat) * 67108864+67108864:=by
 have h0:=h.pos;have hN:(0:Int)<(N.length:Int):=by omega
 have a1:=Int.emod_nonneg k (show (N.length:Int) ≠ 0 by omega);have a2:=Int.emod_lt_of_pos k hN;rw [h.sF_nt];have:=h.zbd (i:=(k % (N.length:Int)).toNat) (by omega);grind
theorem Wd.nt_sub_quick (k l:Int)(hk0:-1000≤k)(hk1:k≤1000)(hl0:-1000≤l)(hl1:l≤1000):zh0 p (zew (nt p N k) (nt p N l)):=by
 obtain ⟨n,hn⟩:=h.dif;have h0:=h.pos;have hN:(0:Int)<(N.length:Int):=by omega
 have e1:=zh4 (a:=k) (b:=(N.length:Int)) (m:=1000) hN hk0 hk1 (by omega);have e2:=zh4 (a:=l) (b:=(N.length:Int)) (m:=1000) hN hl0 hl1 (by omega);have b1:=h.nt_bd k;have b2:=h.nt_bd l;have c1:(-1000:Rat)≤((k / (N.length:Int):Int):Rat):=Rat.intCast_le_intCast.2 e1.1;have c2:((k / (N.length:Int):Int):Rat)≤1000:=Rat.intCast_le_intCast.2 e1.2;have c3:(-1000:Rat)≤((l / (N.length:Int):Int):Rat):=Rat.intCast_le_intCast.2 e2.1;have c4:((l / (N.length:Int):Int):Rat)≤1000:=Rat.intCast_le_intCast.2 e2.2;have hs:=zey p (nt p N k) (nt p N l) (by rw [h.ntlen,h.ntlen]);have hl:=(ziv (x:=nt p N k) (y:=nt p N l) (by rw [h.ntlen,h.ntlen])).trans (h.ntlen k);have hc:((2001 * 67108864:Int):Rat)=2001 * 67108864:=by rw [Rat.intCast_mul];rfl
 exact zit (c:=2001) (by rw [hl];exact h.pr) (h.nt_nic hn k l) (by omega) (by omega) (by rw [hc];grind) (by rw [hc];grind)
theorem Wd.nt_quick (k:Int)(hk0:-1000≤k)(hk1:k≤1000):zh0 p (nt p N k):=by
 have:=h.nt_sub_quick k 0 hk0 hk1 (by omega) (by omega);rw [h.nt_zero,← h.ntlen k,ziw] at this;exact this
end
theorem zjj {n:Nat}{q:Int}(h0:-100000<q)(h1:q<100000):∀ x∈zex (ov n) (q:Rat),Ft 30 x:=by
 rw [zi7];unfold zer;rw [List.replicate_succ];intro x hx;simp only [shf,List.mem_cons] at hx;rcases hx with rfl | hx
 ·rw [show (0:Rat)+(q:Rat)=(q:Rat) by grind];exact (zjh (k:=5) (by show _<100000;omega) (by omega)).mono (by omega)
 ·rw [List.eq_of_mem_replicate hx];exact zgV.mono (by omega)
theorem zjk (v:Value)(p:List Int)(rs:List Qw)(k:Int)(w:World)(he:Env w)(hv:ScV w v p rs)(h:Wd p (rs.map Qw.x))(hk0:-1000≤k)(hk1:k≤1000) :
  Calls Tryz.prog 35 #[v,.int .i64 k] w fun e w'=>∃ g,e=.returned (.tuple #[.slice (some ⟨g,0,none⟩) p.length p.length,.int .i64 0])∧zfw w' w.heap.size (.slice (some ⟨g,0,none⟩) p.length p.length) (nt p (rs.map Qw.x) k)∧Ext w w':=by
 have hpos:=h.pos;rw [List.length_map] at hpos;obtain ⟨n,hn⟩:∃ n,rs.length=n+1:=⟨rs.length - 1,by omega⟩;obtain ⟨r,hr⟩:∃ r,rs[n]?=some r:=⟨_,List.getElem?_eq_getElem (by omega)⟩;have hrx:r.x=ov (p.length - 1):=by
  have:=h.last;rw [List.length_map,hn,Nat.add_sub_cancel,List.getElem?_map,hr] at this;exact Option.some.inj this
 have hnq:=h.noteQ hn k;have hq:=h.nt_quick k hk0 hk1;have hd:=zh4 (a:=k) (b:=(n:Int)+1) (m:=1000) (by omega) hk0 hk1 (by omega);have:=ziF v p rs n k r w he hv h.right hn hr (by omega) (by omega) ((zjh (k:=5) (by show _<100000;omega) (by omega)).mono (by omega)) (by rw [hrx];exact zjj (by omega) (by omega)) (by rw [hnq];exact hq.1);rw [hnq] at this;exact this
def zjl (T:TypeId)(w:World)(b:Nat)(u v:Value):Prop:=w.heap[b]?=some (.cells #[u,v] T (0,0))
section
variable {T : TypeId} {w w' : World} {b c : Nat} {u v : Value}
theorem zjl.new (T:TypeId)(w:World)(u v:Value):zjl T (w.alloc (.cells #[u,v] T)) w.heap.size u v:=World.alloc_heap_new w _
theorem zjl.ext (hx:Ext w w')(h:zjl T w b u v):zjl T w' b u v:=hx.heap h
theorem zjl.c0 (h:zjl T w b u v):w.cell? ⟨b,0,none⟩=some u:=by unfold World.cell?;dsimp only;rw [h];rfl
theorem zjl.c1 (h:zjl T w b u v):w.cell? ⟨b,1,none⟩=some v:=by unfold World.cell?;dsimp only;rw [h];rfl
theorem zjl.fz (h:zjl T w b u v)(k:Nat):w.frozen? ⟨b,k,none⟩=false:=frozen_of_row w b k #[u,v] _ h
theorem zjl.lt (h:zjl T w b u v):b<w.heap.size:=(Array.getElem?_eq_some_iff.1 h).1
theorem zjl.put (h:zjl T w c u v)(x y:Value):zjl T ((w.setCell ⟨c,0,none⟩ x).setCell ⟨c,1,none⟩ y) c x y :=
 heap_setCell_same _ c 1 _ _ y (heap_setCell_same w c 0 _ _ x h)
theorem zjl.put0 (h:zjl T w c u v)(x:Value):zjl T (w.setCell ⟨c,0,none⟩ x) c x v:=heap_setCell_same w c 0 _ _ x h
theorem zjl.put1 (h:zjl T w c u v)(x:Value):zjl T (w.setCell ⟨c,1,none⟩ x) c u x:=heap_setCell_same w c 1 _ _ x h
theorem zjl.past1 (h:zjl T w b u v)(k:Nat)(hne:b ≠ c)(x:Value):zjl T (w.setCell ⟨c,k,none⟩ x) b u v:=(heap_setCell_other w ⟨c,k,none⟩ b x hne).trans h
theorem zjl.past (h:zjl T w b u v)(hne:b ≠ c)(x y:Value):zjl T ((w.setCell ⟨c,0,none⟩ x).setCell ⟨c,1,none⟩ y) b u v:=(h.past1 0 hne x).past1 1 hne y
end
def zjm (T:TypeId)(w:World)(c:Nat):Prop:=∃ u v,zjl T w c u v
section
variable {T : TypeId} {w w' w2 : World} {b c : Nat} {u v : Value}
theorem zjm.ext (hx:Ext w w')(h:zjm T w c):zjm T w' c:=by
 obtain ⟨u,v,h⟩:=h;exact ⟨u,v,h.ext hx⟩
theorem zjm.c0 (h:zjm T w c):w.cell? ⟨c,0,none⟩=some (zdA w c 0):=by
 obtain ⟨u,v,h⟩:=h;unfold zdA;rw [h.c0];rfl
theorem zjm.c1 (h:zjm T w c):w.cell? ⟨c,1,none⟩=some (zdA w c 1):=by
 obtain ⟨u,v,h⟩:=h;unfold zdA;rw [h.c1];rfl
theorem zjm.fz (h:zjm T w c)(k:Nat):w.frozen? ⟨c,k,none⟩=false:=by
 obtain ⟨u,v,h⟩:=h;exact h.fz k
structure K0 (T:TypeId)(w w':World)(c:Nat):Prop where
 x:Ext w w'
 res:zjm T w' c
theorem K0.ext (h:K0 T w w' c)(hx:Ext w' w2):K0 T w w2 c:=⟨h.x.trans hx,h.res.ext hx⟩
theorem K0.fin (h:K0 T w w' c)(hc:w.heap.size≤c)(x y:Value):zjl T ((w'.setCell ⟨c,0,none⟩ x).setCell ⟨c,1,none⟩ y) c x y∧Ext w ((w'.setCell ⟨c,0,none⟩ x).setCell ⟨c,1,none⟩ y):=by
 obtain ⟨u',v',h'⟩:=h.res;exact ⟨h'.put x y,(h.x.setCell hc _).setCell hc _⟩
theorem K0.set (h:K0 T w w' c){b:Nat}(hb:w.heap.size≤b)(hne:c ≠ b)(k:Nat)(x:Value):K0 T w (w'.setCell ⟨b,k,none⟩ x) c:=by
 obtain ⟨u',v',h'⟩:=h.res;exact ⟨h.x.setCell hb _,u',v',h'.past1 k hne x⟩
end
structure K2 (T1 T2 TR:TypeId)(w w':World)(b1:Nat)(u1 v1:Value)(b2:Nat)(u2 v2:Value)(c:Nat):Prop where
 x:Ext w w'
 a:zjl T1 w' b1 u1 v1
 b:zjl T2 w' b2 u2 v2
 res:zjm TR w' c
section
variable {T1 T2 TR : TypeId} {w w' w2 : World} {b1 b2 c : Nat} {u1 v1 u2 v2 : Value}
theorem K2.ext (h:K2 T1 T2 TR w w' b1 u1 v1 b2 u2 v2 c)(hx:Ext w' w2):K2 T1 T2 TR w w2 b1 u1 v1 b2 u2 v2 c:=⟨h.x.trans hx,h.a.ext hx,h.b.ext hx,h.res.ext hx⟩
theorem K2.put (h:K2 T1 T2 TR w w' b1 u1 v1 b2 u2 v2 c)(hc:w.heap.size≤c)(h1:b1 ≠ c)(h2:b2 ≠ c)(x y:Value):K2 T1 T2 TR w ((w'.setCell ⟨c,0,none⟩ x).setCell ⟨c,1,none⟩ y) b1 u1 v1 b2 u2 v2 c:=by
 obtain ⟨u,v,hr⟩:=h.res;exact ⟨(h.x.setCell hc _).setCell hc _,h.a.past h1 x y,h.b.past h2 x y,x,y,hr.put x y⟩
theorem K2.fin (h:K2 T1 T2 TR w w' b1 u1 v1 b2 u2 v2 c)(hc:w.heap.size≤c)(x y:Value):zjl TR ((w'.setCell ⟨c,0,none⟩ x).setCell ⟨c,1,none⟩ y) c x y∧Ext w ((w'.setCell ⟨c,0,none⟩ x).setCell ⟨c,1,none⟩ y):=by
 obtain ⟨u',v',h'⟩:=h.res;exact ⟨h'.put x y,(h.x.setCell hc _).setCell hc _⟩
theorem K2.all (h:K2 T1 T2 TR w w' b1 u1 v1 b2 u2 v2 c):K2 T1 T2 TR w w' b1 u1 v1 b2 u2 v2 c∧w'.cell? ⟨b1,0,none⟩=some u1∧w'.cell? ⟨b1,1,none⟩=some v1∧w'.cell? ⟨b2,0,none⟩=some u2∧w'.cell? ⟨b2,1,none⟩=some v2∧w'.cell? ⟨c,0,none⟩=some (zdA w' c 0)∧w'.cell? ⟨c,1,none⟩=some (zdA w' c 1)∧w'.frozen? ⟨c,0,none⟩=false∧w'.frozen? ⟨c,1,none⟩=false :=
 ⟨h,h.a.c0,h.a.c1,h.b.c0,h.b.c1,h.res.c0,h.res.c1,h.res.fz 0,h.res.fz 1⟩
end
theorem zjn (T1 T2 TR:TypeId)(w:World)(u1 v1 u2 v2 r1 r2:Value):K2 T1 T2 TR w (((w.alloc (.cells #[u1,v1] T1)).alloc (.cells #[u2,v2] T2)).alloc (.cells #[r1,r2] TR)) w.heap.size u1 v1 (w.heap.size+1) u2 v2 (w.heap.size+1+1)∧zjl TR (((w.alloc (.cells #[u1,v1] T1)).alloc (.cells #[u2,v2] T2)).alloc (.cells #[r1,r2] TR)) (w.heap.size+1+1) r1 r2:=by
 have b1:=zjl.new T1 w u1 v1;have b2:=zjl.new T2 (w.alloc (.cells #[u1,v1] T1)) u2 v2;have b3:=zjl.new TR ((w.alloc (.cells #[u1,v1] T1)).alloc (.cells #[u2,v2] T2)) r1 r2;rw [World.size_alloc] at b2;rw [World.size_alloc,World.size_alloc] at b3;exact ⟨⟨(((Ext.refl w).alloc _).alloc _).alloc _,(b1.ext ((Ext.refl _).alloc _)).ext ((Ext.refl _).alloc _),b2.ext ((Ext.refl _).alloc _),r1,r2,b3⟩,b3⟩
end
section
open Go.RowKit Go.Lib Go.Shelf
attribute [local go_sem] Oper.semAt_some
theorem zjo (r:Rat):sgQ r<0 ↔ r<0:=by
 unfold sgQ;constructor
 ·intro h;by_cases g:r<0
  ·exact g
  ·rw [if_neg g] at h;split at h <;> omega
 ·intro h;rw [if_pos h];decide
theorem Lw.cmpb {p:List Int}{c:Int}{l N:List (List Rat)}(h:Lw p c l)(hN:∀ x∈N,x=zer p.length∨x=ov (p.length - 1)∨∃ z∈l,x=rst p z):ziY p N:=by
 obtain ⟨n,hn⟩:=h.play;have hlen:∀ x∈N,x.length=p.length:=fun x hx=>(hn x x (hN x hx) (hN x hx)).1;have hb:∀ x∈N,0≤sF p x∧sF p x≤67108864:=fun x hx=>by
  rcases hN x hx with e | e | ⟨z,hz,e⟩
  ·rw [e,ziA];exact ⟨Rat.le_refl,by decide⟩
  ·rw [e,sov h.pr];exact ⟨by decide,Rat.le_refl⟩
  ·rw [e];have:=h.range hz;exact ⟨this.1,Rat.le_of_lt this.2⟩
 have hpe:zfb p=0∧p.length≤100:=by rcases h.pr with ⟨e,_⟩ | ⟨e,_⟩ <;> rw [e] <;> decide
 have hpx:∀ x:List Rat,x.length=p.length→Pr p x.length:=fun x e=>by rw [e];exact h.pr
 have h1:((1 * 67108864:Int):Rat)=67108864:=rfl;refine ⟨hpe.1,hpe.2,hlen,fun x hx=>?_,fun x hx y hy=>?_,fun x hx y hy=>?_⟩
 ·have hz:=(hn x (zer p.length) (hN x hx) (.inl rfl)).2;rw [← hlen x hx,ziw] at hz;have b:=hb x hx;exact (zit (c:=1) (hpx x (hlen x hx)) hz (by omega) (by omega) (by rw [h1];grind) (by rw [h1];exact b.2)).1
 ·have b1:=hb x hx;have b2:=hb y hy;have hl:=hlen x hx;have hl2:=hlen y hy;have hs:=zey p x y (hl.trans hl2.symm);exact zit (c:=1) (hpx _ ((ziv (hl.trans hl2.symm)).trans hl)) (hn x y (hN x hx) (hN y hy)).2 (by omega) (by omega) (by rw [h1];grind) (by rw [h1];grind)
 ·have hl:=hlen x hx;have hl2:=hlen y hy;rw [zeO (hpx _ ((ziv (hl.trans hl2.symm)).trans hl)) (hn x y (hN x hx) (hN y hy)).2.nice,zjo,zey p x y (hl.trans hl2.symm)];constructor <;> intro g <;> grind
def ScO (w:World)(B:Nat)(v:Value)(p:List Int)(rs:List Qw):Prop:=∃ vp vn,v=.agg #[vp,vn]∧zfh w B vp p∧QwM w B B vn rs
theorem ScO.ext {w w':World}{B:Nat}{v:Value}{p:List Int}{rs:List Qw}(hx:Ext w w')(h:ScO w B v p rs):ScO w' B v p rs:=by
 obtain ⟨vp,vn,e,a,b⟩:=h;exact ⟨vp,vn,e,hx.own a,hx.qwM b⟩
theorem ScO.scV {w:World}{B:Nat}{v:Value}{p:List Int}{rs:List Qw}(h:ScO w B v p rs):ScV w v p rs:=by
 obtain ⟨vp,vn,e,a,b⟩:=h;exact ⟨vp,vn,e,zan a,b.rd⟩
theorem ScO.mono {w:World}{B B':Nat}{v:Value}{p:List Int}{rs:List Qw}(h:ScO w B v p rs)(hB:B'≤B):ScO w B' v p rs:=by
 obtain ⟨vp,vn,e,a,b⟩:=h;exact ⟨vp,vn,e,zam a hB,b.mono hB hB⟩
theorem QwM.set {W:World}{b B:Nat}{v:Value}{rs:List Qw}(h:QwM W b B v rs){c:Nat}{cs:Array Value}(hc:W.heap[c]?=some (.cells cs 28 (0,0)))(k:Nat)(u:Value):QwM (W.setCell ⟨c,k,none⟩ u) b B v rs :=
 ⟨zga hc h.1 (by decide) k u,fun r hr=>zga hc (h.2 r hr) (by decide) k u⟩
theorem QwM.more2 {w0 W V:World}{b B:Nat}{o:Obj}{v v7:Value}{rs:List Qw}{r:Qw}(hE:Ext w0 W)(hB:w0.heap.size≤B)(h:QwM W b B v rs)(hr:zfw W b r.u r.x)
  (hown:V.ownsRow B 41 1 v7 (rs.length+1) (qwc rs++[r.u])) (hgrow:(W.alloc o).grownBy V v.ownBlock):QwM V b B v7 (rs++[r])∧Ext w0 V:=by
 have hal:=h.1.alloc o;have hkeep:∀ s:Qw,zfw W b s.u s.x→zfw V b s.u s.x:=fun s hs=>World.ownsRow.kept (World.ownsRow.alloc hs o) hgrow (zfl (World.ownsRow.alloc hs o) hal (by decide));refine ⟨⟨?_,fun s hs=>?_⟩,(hE.alloc o).grown hgrow fun k hk=>Nat.le_trans hB (World.ownsRow.lt hal k hk).1⟩
 ·rw [List.length_append,List.length_singleton,zjd];exact hown
 ·rcases List.mem_append.1 hs with g | g
  ·exact hkeep s (h.2 s g)
  ·rw [List.mem_singleton] at g;subst g;exact hkeep s hr
def NtR (b:Nat)(W6:World)(bs:Nat)(vp:Value)(xs:List (List Rat))(wr:World):Prop:=∃ (vn:Value)(nts:List Qw),zjl 28 wr bs vp vn∧QwM wr b W6.heap.size vn nts∧nts.map Qw.x=xs∧Ext W6 wr
theorem NtR.more {b:Nat}{W6 W V:World}{bs:Nat}{vp vn v7 u:Value}{x:List Rat}{nts:List Qw}{xs:List (List Rat)}{o:Obj}(hbs:W6.heap.size≤bs)(hb:zjl 28 W bs vp vn)(hq:QwM W b W6.heap.size vn nts)(hm:nts.map Qw.x=xs)(hE:Ext W6 W)(ho:zfw W b u x)
  (hown:V.ownsRow W6.heap.size 41 1 v7 (nts.length+1) (qwc nts++[u])) (hgrow:(W.alloc o).grownBy V vn.ownBlock):NtR b W6 bs vp (xs++[x]) (V.setCell ⟨bs,1,none⟩ v7):=by
 have h1:=QwM.more2 (r:=⟨_,u,zf0 ho.rd⟩) hE (Nat.le_refl _) hq ho hown hgrow;have hbV:zjl 28 V bs vp vn:=zfX (((Ext.refl W).alloc o).heap hb) (World.ownsRow.alloc hq.1 o) (by decide) hgrow;exact ⟨v7,_,hbV.put1 v7,h1.1.set hbV 1 v7,by rw [List.map_append,hm];rfl,h1.2.setCell hbs v7⟩
theorem NtR.ext {b:Nat}{W6 wr w':World}{bs:Nat}{vp:Value}{xs:List (List Rat)}(h:NtR b W6 bs vp xs wr)(hx:Ext wr w'):NtR b W6 bs vp xs w':=by
 obtain ⟨vn,nts,h1,h2,h3,h4⟩:=h;exact ⟨vn,nts,h1.ext hx,hx.qwM h2,h3,h4.trans hx⟩
theorem s6 {w6 w':World}{a:Addr}{u:Value}(h6:w6.cell? a=some u)(h:Ext w6 w'):Ext w6 w'∧w'.cell? a=some u:=⟨h,h.cell h6⟩
def CoR (W:World)(p:List Int)(l:List (List Rat))(k:Nat)(v:Value)(wr:World):Prop:=∃ out:List Qw,QwM wr W.heap.size W.heap.size v out∧out.map Qw.x=ziH p [] (l.take k)∧out.length≤k∧Ext W wr
theorem CoR.skip {W wr w':World}{p:List Int}{l:List (List Rat)}{k:Nat}{v:Value}{x:List Rat}{out:List Qw}(hq:QwM wr W.heap.size W.heap.size v out)(hm:out.map Qw.x=ziH p [] (l.take k))(hl:out.length≤k)(hE:Ext W wr)(hx:Ext wr w')(hr:l[k]?=some x)(hs:rst p x=zer p.length∨rst p x∈out.map Qw.x):CoR W p l (k+1) v w' :=
 ⟨out,hx.qwM hq,by rw [ziJ hr,ziG,if_pos (by rw [← hm];exact hs)];exact hm,by omega,hE.trans hx⟩
theorem CoR.more {W wr V:World}{p:List Int}{l:List (List Rat)}{k:Nat}{v v7 u:Value}{x:List Rat}{out:List Qw}{o:Obj}(hE:Ext W wr)(hq:QwM wr W.heap.size W.heap.size v out)(hm:out.map Qw.x=ziH p [] (l.take k))(hl:out.length≤k)(hr:l[k]?=some x)(hs:¬ (rst p x=zer p.length∨rst p x∈out.map Qw.x))(ho:zfw wr W.heap.size u (rst p x))
  (hown:V.ownsRow W.heap.size 41 1 v7 (out.length+1) (qwc out++[u])) (hgrow:(wr.alloc o).grownBy V v.ownBlock):CoR W p l (k+1) v7 V:=by
 have:=QwM.more (r:=⟨_,u,zf0 ho.rd⟩) hE hq ho hown hgrow;exact ⟨_,this.1,by rw [ziJ hr,ziG,if_neg (by rw [← hm];exact hs),List.map_append,hm];rfl,by rw [List.length_append];simp;omega,this.2⟩
theorem zjq (v:Value)(p:List Int)(rs:List Qw)(m:Int)(w:World)(he:Env w)(hv:ScV w v p rs)(h:Wd p (rs.map Qw.x))(hm0:-500≤m)(hm1:m≤500) :
  Calls Tryz.prog 177 #[v,.int .i64 m] w fun e w'=>∃ v out,e=.returned (.tuple #[v,.int .i64 0])∧ScO w' w.heap.size v p out∧out.map Qw.x=md p (rs.map Qw.x) m∧Ext w w':=by
 obtain ⟨j0,hj,hy0,hy1,hy2⟩:=info_parts zfy;have hpe:zfb p=0∧p.length≤100∧0<p.length:=by rcases h.pr with ⟨e,_⟩ | ⟨e,_⟩ <;> rw [e] <;> decide
 have hnt:=fun (k:Int)(h0:-1000≤k)(h1:k≤1000) W (hE:Ext w W)=>zjk v p rs k W (he.ext hE) (hv.ext hE) h h0 h1;have hfew:=h.few;have hL:(rs.map Qw.x).length=rs.length:=List.length_map ..;rw [hL] at hfew;obtain ⟨vp,vn,rfl,hp,hs,hmr⟩:=hv;have hsb:=fun (k:Int)(h0:-1000≤k)(h1:k≤1000) W va vb (hE:Ext w W)(ha:Rd W va (nt p (rs.map Qw.x) k))(hb:Rd W vb (nt p (rs.map Qw.x) m))=>zhu vp va vb p _ _ W (he.ext hE) (hE.sl hp) ha hb hpe.1 (h.ntlen k) (h.ntlen m) (h.nt_quick k h0 h1).1 (h.nt_quick m (by omega) (by omega)).1 (h.nt_sub_quick k m h0 h1 (by omega) (by omega)).1;have hcp:=fun W (hE:Ext w W)=>zjc vp p W (hE.sl hp) (by omega) (by intro e;rw [e] at hpe;exact absurd hpe.2.2 (by simp));have hmd:∀ i,i<rs.length→(md p (rs.map Qw.x) m).take (i+1)=(md p (rs.map Qw.x) m).take i++[zew (nt p (rs.map Qw.x) (m+(i:Int)+1)) (nt p (rs.map Qw.x) m)]:=fun i hi=>by
  have:=ziE (p:=p) (N:=rs.map Qw.x) (m:=m) (i:=i) (by rw [hL];exact hi);obtain ⟨hl,e⟩:=List.getElem?_eq_some_iff.1 this;rw [List.take_succ_eq_append_getElem hl,e]
 have hmf:(md p (rs.map Qw.x) m).take rs.length=md p (rs.map Qw.x) m:=List.take_of_length_le (by rw [ziD,hL];exact Nat.le_refl _);obtain ⟨ap,cp,rfl,_,_,_⟩:=hp.parts;obtain ⟨an,cn,rfl,_,_,_⟩:=hs.parts;rw [zar] at *;rw [zfz] at *;generalize hn:rs.length=n at *;have hE0:Ext w ((w.alloc (.cells #[.slice ap p.length cp,.slice an n cn] 28)).alloc (.cells #[.slice none 0 0,.slice none 0 0] 28)):=((Ext.refl w).alloc _).alloc _;have b1:=(zjl.new 28 w (.slice ap p.length cp) (.slice an n cn)).ext ((Ext.refl _).alloc (.cells #[.slice none 0 0,.slice none 0 0] 28));have b2:=zjl.new 28 (w.alloc (.cells #[.slice ap p.length cp,.slice an n cn] 28)) (.slice none 0 0) (.slice none 0 0);rw [World.size_alloc] at b2;have Hnt:=hid hnt;have Hsb:=hid hsb;have Hcp:=hid hcp;have Hmd:=hid hmd;have Hmf:=hid hmf;have HE0:=hid hE0;have B1:=hid b1;have B2:=hid b2;have Hn:=hid hn;clear hp hs hmr he h hpe hnt hsb hcp hmd hmf hE0 b1 b2 hL hn;go_enter Tryz.func177,Tryz.ntmps177
 have q0:=B1.out.c0;have q1:=B1.out.c1;go_wp2_with fail
 refine (Hnt.out m (by omega) (by omega) _ HE0.out).mono ?_;rintro e w1 ⟨g1,rfl,ho1,hx1⟩;have q0:=(B1.out.ext hx1).c0;have q1:=(B1.out.ext hx1).c1;have Ho1:=hid ho1.rd;have Hx1:=hid hx1;clear ho1 hx1;go_wp2_with fail
 refine (Hcp.out w1 (HE0.out.trans Hx1.out)).mono ?_;rintro e w6 ⟨u6,rfl,ho6,hx6⟩;obtain ⟨a6,c6,rfl⟩:=zfi ho6;have Hx6:=hid (Hx1.out.trans hx6);have Ho6:=hid (zam ho6 (HE0.out.trans Hx1.out).size);have Ho16:=hid (hx6.rd Ho1.out);clear ho6 hx6 q0 q1;have Hb7:=hid (zjl.new 28 w6 (.slice a6 p.length c6) (.slice none 0 0));have H6x:Hid (Ext w6 (w6.alloc (.cells #[.slice a6 p.length c6,.slice none 0 0] 28))):=hid ((Ext.refl w6).alloc _);go_wp2_with fail
 go_loopw [9,10,11] (fun v9 v10 v11 wr=>∃ i:Nat,v9=.int .i64 ((i:Int)+1)∧i≤n∧NtR w6.heap.size w6 w6.heap.size (.slice a6 p.length c6) ((md p (rs.map Qw.x) m).take i) wr) (fun v9 _ _ _=>n+1 - (zal v9).toNat)
 case atStart=>exact ⟨0,rfl,Nat.zero_le _,.slice none 0 0,[],Hb7.out,QwM.nil _ _ _,rfl,H6x.out⟩
 case round =>
  obtain ⟨i,rfl,hi,⟨vn,nts,hbn,hqn,hmn,hEn⟩⟩:=hrel;have hE6:=Hx6.out.trans hEn;have hEw:=HE0.out.trans hE6;have q0:=(B1.out.ext hE6).c0;have q1:=(B1.out.ext hE6).c1;by_cases hin:i<n
  ·have hik:(i:Int)+1≤(n:Int):=(by omega);have hnk:=Hnt.out (m+((i:Int)+1)) (by omega) (by omega) wr hEw;have hw1:IntKind.i64.wrap (m+((i:Int)+1))=m+((i:Int)+1):=(by rw [IntKind.wrap_i64];omega);have Hbn:=hid hbn;have Hqn:=hid hqn;have Hmn:=hid hmn;have HEn:=hid hEn;have HE6:=hid hE6;have HEw:=hid hEw;have Hnk:=hid hnk;clear hbn hqn hmn hEn hE6 hEw hnk;go_wp2_with fail
   refine Hnk.out.mono ?_;rintro e w8 ⟨g8,rfl,ho8,hx8⟩;have q0:=hx8.cell q0;have q1:=hx8.cell q1;have hsk:=Hsb.out (m+((i:Int)+1)) (by omega) (by omega) w8 _ _ (HEw.out.trans hx8) ho8.rd ((HEn.out.trans hx8).rd Ho16.out);have Hsk:=hid hsk;have Hx8:=hid hx8;clear hsk hx8 ho8;go_wp2_with fail
   refine Hsk.out.mono ?_;rintro e w9 ⟨g9,rfl,ho9,hx9⟩;have hx89:=Hx8.out.trans hx9;obtain ⟨avn,cvn,rfl⟩:=zfi Hqn.out.1;have hnl:nts.length=i:=by
    have:=congrArg List.length Hmn.out;rw [List.length_map,List.length_take,ziD,List.length_map,Hn.out] at this;omega
   have hbk:=Hbn.out.ext hx89;rw [hnl] at hbk;have hqk:=hx89.qwM Hqn.out;rw [hnl] at hqk;have hqo:=hx89.own Hqn.out.1;rw [hnl] at hqo;have hEk:=HEn.out.trans hx89;have hbase:=hEk.size;have hok:=ho9.mono (HEn.out.trans Hx8.out).size;have hm3:i+1≤maxLen:=(by unfold maxLen;omega);have hm4:(i+1) * 24≤140737488355328:=(by omega);have r1:=hbk.c1;have Hbk:=hid hbk;have Hqk:=hid hqk;have Hnl:=hid hnl;have HEk:=hid hEk;have Hok:=hid hok;clear hbk hqk hnl hEk hok hx89 ho9 hx9 q0 q1;go_wp2_with (at_builtin;refine wpList_append_own _ rfl _ _ 26 rfl w6.heap.size 41 j0 (.slice none 0 0) 1 24 Tryz.underlying26 hj hy0 hy1 hy2 rfl (by decide) _ _ _ rfl (hqo.alloc _) ⟨w9.heap.size,0,none⟩ 1 1 [.slice (some ⟨g9,0,none⟩) p.length p.length] rfl rfl (cell_one_new _ _ _) (by simp [Value.oneCell']) hm3 hm4 (by rw [World.size_alloc];omega) ?_;intro v7 V7 hown7 hgrow7 _;have hbV:zjl 28 V7 w6.heap.size (.slice a6 p.length c6) (.slice avn i cvn):=zfX (((Ext.refl w9).alloc _).heap Hbk.out) (hqo.alloc (.cells #[.slice (some ⟨g9,0,none⟩) p.length p.length] 41)) (by decide) hgrow7;have d1:=hbV.c1;have e1:=hbV.fz 1;obtain ⟨a7,c7,rfl⟩:=zfi hown7)
   have hR:=NtR.more (W6:=w6) (W:=w9) (v7:=.slice a7 (i+1) c7) (Nat.le_refl _) Hbk.out Hqk.out Hmn.out HEk.out Hok.out (by rw [Hnl.out];exact hown7) hgrow7;rw [show m+((i:Int)+1)=m+(i:Int)+1 by omega,← Hmd.out i hin] at hR;have HR:=hid hR;clear hR d1 e1 r1 hgrow7 hown7 hbV;generalize V7.setCell ⟨w6.heap.size,1,none⟩ (.slice a7 (i+1) c7)=V2 at *;go_roundw
   case rel=>exact ⟨i+1,by go_num,by omega,HR.out⟩
   case measure=>simp [zal];omega
  ·obtain rfl:n=i:=by omega
   have hik:¬ (n:Int)+1≤(n:Int):=(by omega);have hmn2:=hmn.trans Hmf.out;obtain ⟨avn,cvn,rfl⟩:=zfi hqn.1;have r0:=hbn.c0;have r1:=hbn.c1;have hbr:=B2.out.ext hE6;have hK:K0 28 w wr (w.heap.size+1):=⟨hEw,_,_,hbr⟩;have k0:=hK.res.c0;have k1:=hK.res.c1;have z0:=hK.res.fz 0;have z1:=hK.res.fz 1;have hfin:=hK.fin (by omega) (.slice a6 p.length c6) (.slice avn nts.length cvn);have hq4:=(hqn.set hbr 0 (.slice a6 p.length c6)).set (zjl.put0 hbr (.slice a6 p.length c6)) 1 (.slice avn nts.length cvn);have ho4:=zga (zjl.put0 hbr (.slice a6 p.length c6)) (zga hbr (hEn.own Ho6.out) (by decide) 0 (.slice a6 p.length c6)) (by decide) 1 (.slice avn nts.length cvn);have hlo:=(HE0.out.trans Hx6.out).size;have Hfin:=hid hfin;have Hq4:=hid hq4;have Ho4:=hid ho4;have Hmn2:=hid hmn2;clear hfin hq4 ho4 hmn2 hK hbr hqn hbn hmn hEn hE6 hEw;go_wp2_with fail
   obtain ⟨hb5,hx5⟩:=Hfin.out;have hd0:=hb5.c0;have hd1:=hb5.c1;exact bodyPost_ret (v:=.tuple #[.agg #[.slice a6 p.length c6,.slice avn nts.length cvn],.int .i64 0]) (by simp [results,Tryz.results177,go_sem,hd0,hd1]) rfl ⟨_,rfl,nts,⟨_,_,rfl,Ho4.out,Hq4.out.mono hlo hlo⟩,Hmn2.out,hx5⟩
end
section
def cmb (n:Nat):Nat→Nat→List (List Int)
 | 0,_=>[[]]
 | _+1,0=>[]
 | k+1,f+1=>((cmb n k f).map fun c=>((n - (f+1):Nat):Int)::c)++cmb n (k+1) f
theorem zjr (n f:Nat):cmb n 0 f=[[]]:=by cases f <;> rfl
theorem zjs {n:Nat}:∀ {f k:Nat}{c:List Int},c∈cmb n k f→c.length=k
 | f,0,c,h=>by rw [zjr,List.mem_singleton] at h;rw [h];rfl
 | 0,k+1,c,h=>by cases h
 | f+1,k+1,c,h=>by
  rw [cmb,List.mem_append,List.mem_map] at h;rcases h with ⟨d,hd,rfl⟩ | h
  ·rw [List.length_cons,zjs hd]
  ·exact zjs h
theorem zjt {n:Nat}:∀ {f k:Nat}{c:List Int},f≤n→c∈cmb n k f→(∀ x∈c,((n - f:Nat):Int)≤x∧x<(n:Int))∧c.Pairwise (·<·)
 | f,0,c,_,h=>by rw [zjr,List.mem_singleton] at h;rw [h];exact ⟨fun x hx=>(by cases hx),List.Pairwise.nil⟩
 | 0,k+1,c,_,h=>by cases h
 | f+1,k+1,c,hf,h=>by
  rw [cmb,List.mem_append,List.mem_map] at h;rcases h with ⟨d,hd,rfl⟩ | h
  ·obtain ⟨h1,h2⟩:=zjt (by omega) hd;refine ⟨fun x hx=>?_,List.pairwise_cons.2 ⟨fun x hx=>?_,h2⟩⟩
   ·rcases List.mem_cons.1 hx with rfl | hx
    ·omega
    ·have:=h1 x hx;omega
   ·have:=h1 x hx;omega
  ·obtain ⟨h1,h2⟩:=zjt (by omega) h;exact ⟨fun x hx=>by have:=h1 x hx;omega,h2⟩
theorem zju {n:Nat}:∀ {f k:Nat},f<k→cmb n k f=[]
 | f,0,h=>by omega
 | 0,k+1,_=>rfl
 | f+1,k+1,h=>by rw [cmb,zju (by omega),zju (by omega)];rfl
def cho (n m:Nat)(M:List Int):Nat→List Int→Nat→List (List Int)
 | 0,l,u=>if l.length=m then (if u<M.length then [] else [l]) else []
 | f+1,l,u =>
  if l.length=m then (if u<M.length then [] else [l])
  else if m - l.length≤f+1 then
   (if M[u]?=some ((n - (f+1):Nat):Int) then (if M.length≤(u+1)+(m - l.length - 1) then cho n m M f (l++[((n - (f+1):Nat):Int)]) (u+1) else [])
    else (if M.length≤u+(m - l.length - 1) then cho n m M f (l++[((n - (f+1):Nat):Int)]) u else [])++cho n m M f l u)
  else []
theorem zjv : ∀ {N M:List Int},N.Nodup→N ⊆ M→N.length≤M.length
 | [],_,_,_=>Nat.zero_le _
 | a::N,M,h,hs=>by
  rw [List.nodup_cons] at h;have ha:a∈M:=hs (List.mem_cons_self ..);have ih:=zjv (N:=N) (M:=M.erase a) h.2 fun x hx=>by
   have hxa:x ≠ a:=fun e=>h.1 (e ▸ hx);exact (List.mem_erase_of_ne hxa).2 (hs (List.mem_cons_of_mem _ hx))
  rw [List.length_erase_of_mem ha] at ih;have:=List.length_pos_of_mem ha;rw [List.length_cons];omega
def zjw (M c:List Int):Bool:=M.all fun x=>c.contains x
theorem zjx {M c:List Int}:zjw M c=true ↔ ∀ x∈M,x∈c:=by
 unfold zjw;rw [List.all_eq_true];exact ⟨fun h x hx=>List.contains_iff_mem.1 (h x hx),fun h x hx=>List.contains_iff_mem.2 (h x hx)⟩
theorem zjy (i:Int)(P Q:List Int→Bool)(l:List (List Int))(h:∀ c∈l,P (i::c)=Q c):(l.map (fun c=>i::c)).filter P=(l.filter Q).map (fun c=>i::c):=by
 rw [List.filter_map];congr 1;exact List.filter_congr fun c hc=>h c hc
theorem zjz {n m:Nat}{M:List Int}(hM:M.Pairwise (·<·)):∀ (f:Nat)(l:List Int)(u:Nat),f≤n→l.length≤m→u≤M.length→(∀ x∈M.drop u,((n - f:Nat):Int)≤x∧x<(n:Int)) →
  cho n m M f l u=((cmb n (m - l.length) f).filter (zjw (M.drop u))).map (l++·):=by
 intro f;induction f with
 | zero =>
  intro l u hf hl hu hb
  unfold cho
  have hd:M.drop u=[]:=by
   rcases hd:M.drop u with _ | ⟨x,t⟩
   ·rfl
   ·have:=hb x (by rw [hd];exact List.mem_cons_self ..);omega
  have hul:¬ u<M.length:=by rw [List.drop_eq_nil_iff] at hd;omega
  rw [hd]
  by_cases e:l.length=m
  ·rw [if_pos e,if_neg hul,e,Nat.sub_self,zjr]
   simp [zjw]
  ·rw [if_neg e,zju (by omega)];rfl
 | succ f ih =>
  intro l u hf hl hu hb
  rw [cho]
  by_cases e:l.length=m
  ·rw [if_pos e,e,Nat.sub_self,zjr]
   by_cases hul:u<M.length
   ·rw [if_pos hul]
    have:zjw (M.drop u) []=false:=by
     rw [Bool.eq_false_iff];intro h;have:=zjx.1 h M[u] (by rw [List.drop_eq_getElem_cons hul];exact List.mem_cons_self ..)
     cases this
    simp [this]
   ·rw [if_neg hul,List.drop_eq_nil_of_le (by omega)]
    simp [zjw]
  ·rw [if_neg e]
   rcases Nat.lt_or_ge (f+1) (m - l.length) with hk | hk
   ·rw [if_neg (by omega),zju (by omega)];rfl
   rw [if_pos hk]
   obtain ⟨k,hk2⟩:∃ k,m - l.length=k+1:=⟨m - l.length - 1,by omega⟩
   have hk3:m - (l++[((n - (f+1):Nat):Int)]).length=k:=by rw [List.length_append,List.length_singleton];omega
   rw [hk2,Nat.add_sub_cancel,cmb,List.filter_append,List.map_append]
   have hdn:=fun (v:Nat)=>(hM.imp (fun {a b:Int}(g:a<b)=>(Int.ne_of_lt g:a ≠ b)):M.Nodup).sublist (List.drop_sublist v M)
   -- what the prune leaves out has no subset
   have prune:∀ v,¬ M.length≤v+k→(cmb n k f).filter (zjw (M.drop v))=[]:=fun v hv=>by
    rw [List.filter_eq_nil_iff];intro c hc h;have:=zjv (hdn v) (fun x hx=>zjx.1 h x hx);rw [List.length_drop,zjs hc] at this;omega
   by_cases hit:M[u]?=some ((n - (f+1):Nat):Int)
   ·rw [if_pos hit]
    have hul:u<M.length:=(List.getElem?_eq_some_iff.1 hit).1
    have hde:M.drop u=((n - (f+1):Nat):Int)::M.drop (u+1):=by
     rw [List.drop_eq_getElem_cons hul];rw [List.getElem?_eq_getElem hul] at hit;rw [Option.some.inj hit]
    have hp:(((n - (f+1):Nat):Int)::M.drop (u+1)).Pairwise (·<·):=by rw [← hde];exact hM.sublist (List.drop_sublist u M)
    rw [List.pairwise_cons] at hp
    have hb2:∀ x∈M.drop (u+1),((n - f:Nat):Int)≤x∧x<(n:Int):=fun x hx=>by
     have h1:=hp.1 x hx;have h2:=hb x (by rw [hde];exact List.mem_cons_of_mem _ hx);omega
    have hno:(cmb n (k+1) f).filter (zjw (M.drop u))=[]:=by
     rw [List.filter_eq_nil_iff];intro c hc h;have h1:=zjx.1 h _ (by rw [hde];exact List.mem_cons_self ..);have h2:=(zjt (by omega) hc).1 _ h1;omega
    rw [hno,List.map_nil,List.append_nil,zjy _ _ (zjw (M.drop (u+1)))]
    ·rw [List.map_map]
     by_cases hpr:M.length≤u+1+k
     ·rw [if_pos hpr,ih _ _ (by omega) (by rw [List.length_append,List.length_singleton];omega) (by omega) hb2,hk3]
      congr 1
      funext c
      simp
     ·rw [if_neg hpr,prune (u+1) hpr];rfl
    ·intro c hc
     rw [Bool.eq_iff_iff,zjx,zjx,hde]
     constructor
     ·intro h x hx
      have h1:=h x (List.mem_cons_of_mem _ hx)
      rcases List.mem_cons.1 h1 with g | g
      ·have:=hp.1 x hx;omega
      ·exact g
     ·intro h x hx
      rcases List.mem_cons.1 hx with g | g
      ·rw [g];exact List.mem_cons_self ..
      ·exact List.mem_cons_of_mem _ (h x g)
   ·rw [if_neg hit]
    have hb2:∀ x∈M.drop u,((n - f:Nat):Int)≤x∧x<(n:Int):=fun x hx=>by
     have h1:=hb x hx;rcases (by omega:x=((n - (f+1):Nat):Int)∨((n - f:Nat):Int)≤x) with g | g
     ·exfalso;have hul:u<M.length:=by
       rcases Nat.lt_or_ge u M.length with g | g
       ·exact g
       ·rw [List.drop_eq_nil_of_le g] at hx;cases hx
      apply hit;rw [List.getElem?_eq_getElem hul];have hp:(M[u]::M.drop (u+1)).Pairwise (·<·):=(by rw [← List.drop_eq_getElem_cons hul];exact hM.sublist (List.drop_sublist u M));rw [List.pairwise_cons] at hp;rw [List.drop_eq_getElem_cons hul] at hx;have h0:=hb M[u] (by rw [List.drop_eq_getElem_cons hul];exact List.mem_cons_self ..);rcases List.mem_cons.1 hx with e2 | e2
      ·rw [← e2,g]
      ·have:=hp.1 x e2;omega
     ·exact ⟨g,h1.2⟩
    have hrest:=ih l u (by omega) hl hu hb2
    rw [hk2] at hrest
    rw [hrest]
    congr 1
    rw [zjy _ _ (zjw (M.drop u))]
    ·rw [List.map_map]
     by_cases hpr:M.length≤u+k
     ·rw [if_pos hpr,ih _ _ (by omega) (by rw [List.length_append,List.length_singleton];omega) hu hb2,hk3]
      congr 1
      funext c
      simp
     ·rw [if_neg hpr,prune u hpr];rfl
    ·intro c hc
     rw [Bool.eq_iff_iff,zjx,zjx]
     constructor
     ·intro h x hx
      rcases List.mem_cons.1 (h x hx) with g | g
      ·have:=hb2 x hx;omega
      ·exact g
     ·intro h x hx
      exact List.mem_cons_of_mem _ (h x hx)
def zj0 (n m:Nat)(M:List Int):List (List Int):=(cmb n m n).filter (zjw M)
theorem zj1 {n m:Nat}{M:List Int}(hM:M.Pairwise (·<·))(hb:∀ x∈M,0≤x∧x<(n:Int)):cho n m M n [] 0=zj0 n m M:=by
 rw [zjz hM n [] 0 (Nat.le_refl _) (Nat.zero_le _) (Nat.zero_le _) (fun x hx=>by rw [Nat.sub_self];exact hb x hx)];unfold zj0;simp
def nx (l:List Int):Int:=(l.getLast?.map (·+1)).getD 0
end
end Go.Proofs.YtebabancfnmfjaaGreatDoor
