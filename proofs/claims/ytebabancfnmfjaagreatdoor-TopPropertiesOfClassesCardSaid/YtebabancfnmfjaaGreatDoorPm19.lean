/- Walks: slices.IndexFunc and slices.ContainsFunc at lists of sizes, with a closure that makes memory. What the reduction asks of sizes; the closure of scale.collect. scale.note over a plain right scale. Walks: schismaref03's trim, Int. Walks: schismaref03's To and Of at one digit. Walks: schismaref03's plus, above, minus at one digit. Walks: schismaref03's AddW and SignW at one digit. Walk: schismaref03's MulW at one digit. -/
import Derived.Test.YtebabancfnmfjaaGreatDoorPm08
import Derived.Shelf.Abstract
import Derived.Test.YtebabancfnmfjaaGreatDoorPm17
import Derived.Test.YtebabancfnmfjaaGreatDoorPm14
import Derived.Test.YtebabancfnmfjaaGreatDoorPm18
import Derived.Test.YtebabancfnmfjaaGreatDoorPm15
import Derived.Test.YtebabancfnmfjaaGreatDoorPm07
import Derived.Test.YtebabancfnmfjaaGreatDoorShelfF
import Derived.Shelf.Strings.Prefix
import Derived.Test.YtebabancfnmfjaaGreatDoorPm09
import Derived.Deep.QuietTactic
import Derived.Deep.RegionHeld3
set_option maxRecDepth 100000
set_option maxHeartbeats 2000000
namespace Go.Proofs.YtebabancfnmfjaaGreatDoor
section
open Go.RowKit Go.Lib Go.Shelf
def zj3 (P:List Rat→Bool)(rs:List Qw)(z:Int):Prop:=(z=-1∧∀ r∈rs,P r.x=false)∨∃ (k:Nat)(r:Qw),z=k∧rs[k]?=some r∧P r.x=true∧∀ s∈rs.take k,P s.x=false
theorem zj3.any {P:List Rat→Bool}{rs:List Qw}{z:Int}(h:zj3 P rs z):rs.any (fun r=>P r.x)=decide (0≤z):=by
 rcases h with ⟨rfl,h⟩ | ⟨k,r,rfl,h1,h2,_⟩
 ·rw [show decide ((0:Int)≤-1)=false by decide,List.any_eq_false];intro r hr;rw [h r hr];simp
 ·rw [show decide ((0:Int)≤(k:Int))=true from decide_eq_true (by omega),List.any_eq_true];exact ⟨r,List.mem_of_getElem? h1,h2⟩
theorem zj4 (g:Nat)(cb:Array Value)(v:Value)(rs:List Qw)(P:List Rat→Bool)(w:World)(hv:Sl w v (qwc rs))(hl:rs.length≤1000)
  (eg:∀ args w,(callFunc g args).run Tryz.prog w=.ok (.enter g args) w)
  (hp:∀ W,Ext w W→∀ r∈rs,Calls Tryz.prog g (#[r.u]++cb) W fun e w'=>e=.returned (.bool (P r.x))∧Ext W w') :
  Calls Tryz.prog 200 #[v,.func (.func g) #[] cb] w fun e w'=>∃ z:Int,e=.returned (.int .i64 z)∧zj3 P rs z∧Ext w w':=by
 obtain ⟨a,c,rfl,_,_,hc⟩:=hv.parts;rw [zf0];have hcell:∀ k r,rs[k]?=some r→∃ b off,a=some ⟨b,off,none⟩∧w.cell? ⟨b,off+k,none⟩=some r.u:=fun k r hr=>hc k r.u (by unfold qwc;rw [List.getElem?_map,hr];rfl);generalize hn:rs.length=n at *;have Hn:=hid hn;have Hp:=hid hp;have Hc:=hid hcell;clear hv hc hn hp hcell;go_enter Tryz.func200,Tryz.ntmps200
 go_wp2_with fail
 go_loopw [5,8] (fun v5 v8 wr=>∃ k:Nat,v8=.int .i64 k∧k≤n∧(∀ s∈rs.take k,P s.x=false)∧Ext w wr) (fun _ v8 _=>n - (zam v8).toNat)
 case atStart=>exact ⟨0,rfl,Nat.zero_le _,fun r h=>by simp at h,Ext.refl _⟩
 case round =>
  obtain ⟨k,rfl,hk,hall,hE⟩:=hrel;have Hall:=hid hall;clear hall;by_cases hlt:k<n
  ·obtain ⟨r,hr⟩:∃ r,rs[k]?=some r:=⟨_,List.getElem?_eq_getElem (by rw [Hn.out];exact hlt)⟩;obtain ⟨b,off,rfl,h0⟩:=Hc.out k r hr;have hc0:=hE.cell h0;have hd:=Hp.out wr hE r (List.mem_of_getElem? hr);have HE:=hid hE;have Hr:=hid hr;clear hr h0 hE;generalize r.u=u at *;generalize hdx:P r.x=dx at *;have Hd:=hid hd;have Hdx:=hid hdx;clear hd hdx;have hk0:(0:Int)≤(k:Int):=(by omega);have hk1:(k:Int)<(n:Int):=(by omega);go_wp2_with fail
   refine Hd.out.mono ?_;rintro e W2 ⟨rfl,hx2⟩;have HE2:=hid (HE.out.trans hx2);clear hx2
   cases dx with
   | true =>
    go_wp2
    go_ret
    exact ⟨_,rfl,.inr ⟨k,r,rfl,Hr.out,Hdx.out,Hall.out⟩,HE2.out⟩
   | false =>
    go_wp2_with fail
    go_roundw
    case rel=>exact ⟨k+1,by go_num,hlt,fun s hs=>by
     obtain ⟨hl2,e⟩:=List.getElem?_eq_some_iff.1 Hr.out;rw [List.take_succ_eq_append_getElem hl2] at hs;rcases List.mem_append.1 hs with h | h
     ·exact Hall.out s h
     ·rw [List.mem_singleton] at h;rw [h,e];exact Hdx.out,HE2.out⟩
    case measure=>simp [zam];omega
  ·have hkk:¬ (k:Int)<(n:Int):=(by omega);have hkl:k=n:=(by omega);have Hkl:=hid hkl;clear hkl;have HE:=hid hE;clear hE;go_wp2
   go_ret
   exact ⟨-1,rfl,.inl ⟨rfl,fun r hr=>Hall.out r (by rw [Hkl.out,← Hn.out,List.take_length];exact hr)⟩,HE.out⟩
theorem zj5 (g:Nat)(cb:Array Value)(v:Value)(rs:List Qw)(P:List Rat→Bool)(w:World)(hv:Sl w v (qwc rs))(hl:rs.length≤1000)
  (eg:∀ args w,(callFunc g args).run Tryz.prog w=.ok (.enter g args) w)
  (hp:∀ W,Ext w W→∀ r∈rs,Calls Tryz.prog g (#[r.u]++cb) W fun e w'=>e=.returned (.bool (P r.x))∧Ext W w') :
  Calls Tryz.prog 134 #[v,.func (.func g) #[] cb] w fun e w'=>e=.returned (.bool (rs.any fun r=>P r.x))∧Ext w w':=by
 have hi:=zj4 g cb v rs P w hv hl eg hp;obtain ⟨a,c,rfl,_,_,_⟩:=hv.parts;have Hi:=hid hi;clear hi hp hv;go_enter Tryz.func134,Tryz.ntmps134
 go_wp2_with fail
 refine Hi.out.mono ?_;rintro e w1 ⟨z,rfl,hz,hx⟩;have Hz:=hid hz.any;have Hx:=hid hx;clear hz hx;go_wp2
 go_ret
 exact ⟨by rw [Hz.out];rfl,Hx.out⟩
theorem zj6 {q:Int}:∀ {x:List Rat},zew x (shf q (zer x.length))=shf q x
 | []=>rfl
 | a::x=>by
  unfold zer zew;rw [List.length_cons,List.replicate_succ];simp only [shf,List.zipWith_cons_cons];congr 1
  ·grind
  ·have:∀ l:List Rat,List.zipWith (·+·) l (List.replicate l.length 0)=l:=fun l=>by
    induction l with
    | nil=>rfl
    | cons b l ih=>rw [List.length_cons,List.replicate_succ,List.zipWith_cons_cons,ih];congr 1;grind
   exact this x
theorem zj7 {k:Nat}{z:Int}(h:z.natAbs<10 ^ k)(hk:0<k):Ft k (z:Rat):=by
 refine ⟨?_,?_⟩
 ·rw [Rat.num_intCast];exact Dec.nDigits_le hk h
 ·rw [Rat.den_intCast];exact Dec.nDigits_le hk (Nat.one_lt_pow (by omega) (by decide))
structure zj8 (p:List Int)(a:Rat)(tl:List Rat):Prop where
 len:tl.length+1=p.length
 pr:Pr p (tl.length+1)
 ft:∀ q∈a::tl,Ft 30 q
 qf:QF p (a::tl)
 fk:Ft 400 ((-flP p (a::tl):Int):Rat)
 fit:Fit (flP p (a::tl))
 res:∀ q∈rst p (a::tl),Ft 30 q
theorem Lw.red {p:List Int}{c:Int}{l:List (List Rat)}(h:Lw p c l){x:List Rat}(hx:x∈l):∃ a tl,x=a::tl∧zj8 p a tl:=by
 obtain ⟨n,hn⟩:=h.nic;have hl:=h.len x hx;have hp:Pr p x.length:=by rw [hl];exact h.pr
 have hq:=h.quick x hx;have hr:=h.range hx;have hni:=hn x hx;have hfl:=zjg hp hni (h.bd x hx).1 (h.bd x hx).2;have hc:=h.c1;have hrq:zh3 p (rst p x):=ziA (c:=1) (by unfold rst;rw [ziG];exact hp) (ziN hni) (by omega) (by omega) (by
  rw [show ((1 * 67108864:Int):Rat)=67108864 from rfl];grind) (by
  rw [show ((1 * 67108864:Int):Rat)=67108864 from rfl];grind)
 obtain ⟨a,tl,rfl,htl,hb⟩:=zje hp hni;refine ⟨a,tl,rfl,htl,hp,hq.1,?_,?_,?_,hrq.1⟩
 ·by_cases hz:∀ r∈tl,r=0
  ·left;rw [List.tail_cons,List.all_eq_true];simpa using hz
  ·have hbx:=hb.resolve_right hz;have hA:=zi8 hp hbx (h.bd _ hx).1 (h.bd _ hx).2;exact (zim (m:=100000) hp hbx (by omega) (by omega) (fun a' ha'=>by cases ha';omega)).qf hp hbx
 ·exact (zj7 (k:=5) (by show _<100000;omega) (by omega)).mono (by omega)
 ·show nDigits _≤_;have:=Dec.nDigits_le (n:=(flP p (a::tl)).natAbs) (k:=5) (by omega) (by show _<100000;omega);omega
theorem zj8.eq {p:List Int}{a:Rat}{tl:List Rat}(_h:zj8 p a tl):zew (a::tl) (zey (ov tl.length) ((-flP p (a::tl):Int):Rat))=rst p (a::tl):=by
 rw [ziO];exact zj6 (x:=a::tl)
theorem zj9 (va vb:Value)(x y:List Rat)(bx:Nat)(w:World)(h0:w.cell? ⟨bx,0,none⟩=some va)(ha:Rd w va x)(hb:Rd w vb y)(hx:x.length≤1000)(hy:y.length≤1000) :
  Calls Tryz.prog 205 #[vb,.pointer (some ⟨bx,0,none⟩)] w fun e w'=>e=.returned (.bool (decide (x=y)))∧Ext w w':=by
 have h:=zfK va vb x y w ha hb hx hy;obtain ⟨aa,ca,rfl,_,_,_⟩:=ha.parts;obtain ⟨ab,cb,rfl,_,_,_⟩:=hb.parts;generalize decide (x=y)=b at *;clear ha hb;have H:=hid h;clear h;go_enter Tryz.func205,Tryz.ntmps205
 go_wp2_with fail
 refine H.out.mono ?_;rintro e w1 ⟨rfl,hx1⟩;have Hx1:=hid hx1;clear hx1;go_wp2
 go_ret
 exact ⟨rfl,Hx1.out⟩
theorem zjA : ∀ args w,(callFunc 205 args).run Tryz.prog w=.ok (.enter 205 args) w:=enters_of Tryz.func205 (by kernel_rfl) rfl
end
section
open Go.RowKit Go.Lib
section
variable {p : List Int} {N : List (List Rat)} (h : Wd p N)
include h
theorem Wd.nt_bd (k:Int):((k / (N.length:Int):Int):Rat) * 67108864≤sF p (nt p N k)∧sF p (nt p N k)≤((k / (N.length:Int):Int):Rat) * 67108864+67108864:=by
 have h0:=h.pos;have hN:(0:Int)<(N.length:Int):=by omega
 have a1:=Int.emod_nonneg k (show (N.length:Int) ≠ 0 by omega);have a2:=Int.emod_lt_of_pos k hN;rw [h.sF_nt];have:=h.zbd (i:=(k % (N.length:Int)).toNat) (by omega);grind
theorem Wd.nt_sub_quick (k l:Int)(hk0:-1000≤k)(hk1:k≤1000)(hl0:-1000≤l)(hl1:l≤1000):zh3 p (zex (nt p N k) (nt p N l)):=by
 obtain ⟨n,hn⟩:=h.dif;have h0:=h.pos;have hN:(0:Int)<(N.length:Int):=by omega
 have e1:=zh7 (a:=k) (b:=(N.length:Int)) (m:=1000) hN hk0 hk1 (by omega);have e2:=zh7 (a:=l) (b:=(N.length:Int)) (m:=1000) hN hl0 hl1 (by omega);have b1:=h.nt_bd k;have b2:=h.nt_bd l;have c1:(-1000:Rat)≤((k / (N.length:Int):Int):Rat):=Rat.intCast_le_intCast.2 e1.1;have c2:((k / (N.length:Int):Int):Rat)≤1000:=Rat.intCast_le_intCast.2 e1.2;have c3:(-1000:Rat)≤((l / (N.length:Int):Int):Rat):=Rat.intCast_le_intCast.2 e2.1;have c4:((l / (N.length:Int):Int):Rat)≤1000:=Rat.intCast_le_intCast.2 e2.2;have hs:=zez p (nt p N k) (nt p N l) (by rw [h.ntlen,h.ntlen]);have hl:=(ziC (x:=nt p N k) (y:=nt p N l) (by rw [h.ntlen,h.ntlen])).trans (h.ntlen k);have hc:((2001 * 67108864:Int):Rat)=2001 * 67108864:=by rw [Rat.intCast_mul];rfl
 exact ziA (c:=2001) (by rw [hl];exact h.pr) (h.nt_nic hn k l) (by omega) (by omega) (by rw [hc];grind) (by rw [hc];grind)
theorem Wd.nt_quick (k:Int)(hk0:-1000≤k)(hk1:k≤1000):zh3 p (nt p N k):=by
 have:=h.nt_sub_quick k 0 hk0 hk1 (by omega) (by omega);rw [h.nt_zero,← h.ntlen k,ziD] at this;exact this
end
theorem zjB {n:Nat}{q:Int}(h0:-100000<q)(h1:q<100000):∀ x∈zey (ov n) (q:Rat),Ft 30 x:=by
 rw [ziO];unfold zer;rw [List.replicate_succ];intro x hx;simp only [shf,List.mem_cons] at hx;rcases hx with rfl | hx
 ·rw [show (0:Rat)+(q:Rat)=(q:Rat) by grind];exact (zj7 (k:=5) (by show _<100000;omega) (by omega)).mono (by omega)
 ·rw [List.eq_of_mem_replicate hx];exact zgY.mono (by omega)
theorem zjC (v:Value)(p:List Int)(rs:List Qw)(k:Int)(w:World)(he:Env w)(hv:ScV w v p rs)(h:Wd p (rs.map Qw.x))(hk0:-1000≤k)(hk1:k≤1000) :
  Calls Tryz.prog 35 #[v,.int .i64 k] w fun e w'=>∃ g,e=.returned (.tuple #[.slice (some ⟨g,0,none⟩) p.length p.length,.int .i64 0])∧zfx w' w.heap.size (.slice (some ⟨g,0,none⟩) p.length p.length) (nt p (rs.map Qw.x) k)∧Ext w w':=by
 have hpos:=h.pos;rw [List.length_map] at hpos;obtain ⟨n,hn⟩:∃ n,rs.length=n+1:=⟨rs.length - 1,by omega⟩;obtain ⟨r,hr⟩:∃ r,rs[n]?=some r:=⟨_,List.getElem?_eq_getElem (by omega)⟩;have hrx:r.x=ov (p.length - 1):=by
  have:=h.last;rw [List.length_map,hn,Nat.add_sub_cancel,List.getElem?_map,hr] at this;exact Option.some.inj this
 have hnq:=h.noteQ hn k;have hq:=h.nt_quick k hk0 hk1;have hd:=zh7 (a:=k) (b:=(n:Int)+1) (m:=1000) (by omega) hk0 hk1 (by omega);have:=ziW v p rs n k r w he hv h.right hn hr (by omega) (by omega) ((zj7 (k:=5) (by show _<100000;omega) (by omega)).mono (by omega)) (by rw [hrx];exact zjB (by omega) (by omega)) (by rw [hnq];exact hq.1);rw [hnq] at this;exact this
theorem zjD (n:Int)(w:World)(he:Env w)(h0:-9223372036854775808≤n)(h1:n≤9223372036854775807) :
  Calls Tryz.prog 264 #[.int .i64 n] w fun e w'=>e=.returned (.string (I n))∧Ext w w':=by
 have hi:=zaF n h0 h1 w he;generalize I n=s at *;clear he;have Hi:=hid hi;clear hi;go_enter Tryz.func264,Tryz.ntmps264
 go_wp2_with fail
 refine (Hi.out).mono ?_;rintro e w1 ⟨rfl,hx1⟩;have Hx1:=hid hx1;clear hx1;go_wp2
 go_ret
 exact ⟨rfl,Hx1.out⟩
def zjE (w:World)(b:Nat):Nat:=match w.cell? ⟨b,1,none⟩ with | some (.slice _ n _)=>n | _=>0
theorem zjF (u:Value)(b:Bool)(ds:List Int)(w:World)(hu:Sl w u (zaq ds))(hl:ds.length≤1000) :
  Calls Tryz.prog 262 #[.agg #[.bool b,u]] w fun e w'=>∃ (u':Value)(k:Nat),e=.returned (.agg #[.bool (b && decide (0<k)),u'])∧k≤ds.length∧(∀ j,k≤j→j<ds.length→ds[j]?=some 0)∧(∀ j,k=j+1→ds[j]? ≠ some 0)∧Sl w' u' (zaq (ds.take k))∧Ext w w':=by
 have htk:∀ k,k≤ds.length→∀ a c,u=.slice a ds.length c→∀ W,Ext w W→Sl W (.slice a k c) (zaq (ds.take k)):=fun k hk a c e W hE=>by
  have hs:=hE.sl hu;have hlen:(zaq (ds.take k)).length=k:=by rw [zas,List.length_take];omega
  rcases hs with ⟨a',cap,e',hm,h0⟩ | ⟨b',off,cap,e',h1,h2,hc⟩
  ·rw [e] at e';injection e' with e1 e2 e3;have:k=0:=(by omega);subst this;exact .inl ⟨a,c,rfl,by omega,by simp [zaq]⟩
  ·rw [e] at e';injection e' with e1 e2 e3;refine .inr ⟨b',off,c,by rw [hlen,e1],by rw [hlen];rw [zas] at h1;omega,by omega,fun i x hx=>hc i x ?_⟩;have hi:i<k:=(by have:=(List.getElem?_eq_some_iff.1 hx).1;omega);unfold zaq at hx ⊢;rw [List.getElem?_map,List.getElem?_take,if_pos hi] at hx;rw [List.getElem?_map];exact hx
 obtain ⟨a,c,rfl,hcm,hcl,hc⟩:=hu.parts;rw [zas] at htk hcl ⊢;have hcell:∀ j d,ds[j]?=some d→∃ b' off,a=some ⟨b',off,none⟩∧w.cell? ⟨b',off+j,none⟩=some (.int .i64 d):=fun j d hd=>hc j _ (by unfold zaq;rw [List.getElem?_map,hd];rfl);have hE0:Ext w ((w.alloc (.cells #[.bool b,.slice a ds.length c] 243)).alloc (.cells #[.bool false,.slice none 0 0] 243)):=((Ext.refl _).alloc _).alloc _;have b1:=(zic.new 243 w (.bool b) (.slice a ds.length c)).ext ((Ext.refl _).alloc (.cells #[.bool false,.slice none 0 0] 243));have b2:=zic.new 243 (w.alloc (.cells #[.bool b,.slice a ds.length c] 243)) (.bool false) (.slice none 0 0);rw [World.size_alloc] at b2;have htk2:=fun k hk W hE=>htk k hk a c rfl W hE;clear hu hc htk;generalize hn:ds.length=n at *;have Hn:=hid hn;clear hn;have hw0:=Nat.lt_succ_self w.heap.size;have Hcell:=hid hcell;have HE0:=hid hE0;have Htk2:=hid htk2;have B1:=hid b1;have B2:=hid b2;clear hcell hE0 htk2 b1 b2;go_enter Tryz.func262,Tryz.ntmps262
 go_wp2_with fail
 go_loopw [3] (fun _ wr=>∃ k:Nat,k≤n∧zic 243 wr w.heap.size (.bool b) (.slice a k c)∧K0 243 w wr (w.heap.size+1)∧∀ j,k≤j→j<n→ds[j]?=some 0) (fun _ wr=>zjE wr w.heap.size)
 case atStart=>exact ⟨n,Nat.le_refl _,B1.out,⟨HE0.out,_,_,B2.out⟩,fun j h1 h2=>by omega⟩
 case round =>
  obtain ⟨k,hk,hb,hK,hz⟩:=hrel;have q0:=hb.c0;have q1:=hb.c1;have f0:=hb.fz 0;have f1:=hb.fz 1;have hme:zjE wr w.heap.size=k:=by unfold zjE;rw [q1]
  have Hb:=hid hb;have HK:=hid hK;have Hz:=hid hz;have Hme:=hid hme;clear hb hK hz hme;by_cases hk0:0<k
  ·obtain ⟨j,hkj⟩:∃ j,k=j+1:=⟨k - 1,by omega⟩;obtain ⟨d,hd⟩:∃ d,ds[j]?=some d:=⟨_,List.getElem?_eq_getElem (by rw [Hn.out];omega)⟩;obtain ⟨b',off,rfl,hc1⟩:=Hcell.out j d hd;have hc2:=HK.out.x.cell hc1;have hwj:IntKind.i64.wrap ((k:Int) - 1)=(j:Int):=(by rw [IntKind.wrap_i64];omega);have hj0:(0:Int)≤(j:Int):=(by omega);have hj1:(j:Int)<(k:Int):=(by omega);have hj2:¬ (k:Int)<(j:Int):=(by omega);have hkz:(0:Int)<(k:Int):=(by omega);have hkd:decide ((k:Int) > 0)=true:=decide_eq_true (by omega);have Hd:=hid hd;clear hd hc1;have hjc:(j:Int)≤(c:Int):=(by omega);by_cases hd0:d=0
   ·subst hd0;have hS:=Hb.out.put1 (.slice (some ⟨b',off,none⟩) j c);have hKS:=HK.out.set (b:=w.heap.size) (Nat.le_refl _) (by omega) 1 (.slice (some ⟨b',off,none⟩) j c);have HS:=hid hS;have HKS:=hid hKS;have Hkj:=hid hkj;clear hS hKS hkj;go_wp2_with fail
    go_roundw
    case rel=>exact ⟨j,by have:=Hkj.out;omega,HS.out,HKS.out,fun i h1 h2=>by
     have:=Hkj.out;rcases (by omega:i=j∨k≤i) with e | e
     ·rw [e];exact Hd.out
     ·exact Hz.out i e h2⟩
    case measure =>
     have h1:zjE (wr.setCell ⟨w.heap.size,1,none⟩ (.slice (some ⟨b',off,none⟩) j c)) w.heap.size=j:=(by unfold zjE;rw [HS.out.c1]);have:=Hkj.out;rw [h1,Hme.out];omega
   ·have hdn:decide (d=0)=false:=decide_eq_false hd0;have hdd:(d == 0)=false:=(by simpa using hd0);have Hd0:=hid hd0;have Hkj:=hid hkj;clear hkj
    cases b with
    | true =>
     have hS:=Hb.out.put0 (.bool true)
     have hKS:=HK.out.set (b:=w.heap.size) (Nat.le_refl _) (by omega) 0 (.bool true)
     have hsl:=Htk2.out k hk _ hKS.x
     have s0:=hS.c0
     have s1:=hS.c1
     have k0:=hKS.res.c0;have k1:=hKS.res.c1;have z0:=hKS.res.fz 0;have z1:=hKS.res.fz 1
     obtain ⟨hb5,hx5⟩:=hKS.fin (by omega) (.bool true) (.slice (some ⟨b',off,none⟩) k c)
     have hsl2:=Htk2.out k hk _ hx5
     have Hb5:=hid hb5;have Hx5:=hid hx5;have Hsl2:=hid hsl2
     clear hS hKS hsl hb5 hx5 hsl2
     go_wp2_with fail
     have hd0':=Hb5.out.c0
     have hd1':=Hb5.out.c1
     exact bodyPost_ret (v:=.agg #[.bool true,.slice (some ⟨b',off,none⟩) k c]) (by simp [results,Tryz.results262,go_sem,hd0',hd1']) rfl ⟨_,k,by rw [decide_eq_true hk0],hk,fun i h1 h2=>Hz.out i h1 h2,fun i e=>by rw [show i=j by have:=Hkj.out;omega,Hd.out];exact fun e=>Hd0.out (Option.some.inj e),Hsl2.out,Hx5.out⟩
    | false =>
     have hS:=Hb.out.put0 (.bool false)
     have hKS:=HK.out.set (b:=w.heap.size) (Nat.le_refl _) (by omega) 0 (.bool false)
     have hsl:=Htk2.out k hk _ hKS.x
     have s0:=hS.c0
     have s1:=hS.c1
     have k0:=hKS.res.c0;have k1:=hKS.res.c1;have z0:=hKS.res.fz 0;have z1:=hKS.res.fz 1
     obtain ⟨hb5,hx5⟩:=hKS.fin (by omega) (.bool false) (.slice (some ⟨b',off,none⟩) k c)
     have hsl2:=Htk2.out k hk _ hx5
     have Hb5:=hid hb5;have Hx5:=hid hx5;have Hsl2:=hid hsl2
     clear hS hKS hsl hb5 hx5 hsl2
     go_wp2_with fail
     have hd0':=Hb5.out.c0
     have hd1':=Hb5.out.c1
     exact bodyPost_ret (v:=.agg #[.bool false,.slice (some ⟨b',off,none⟩) k c]) (by simp [results,Tryz.results262,go_sem,hd0',hd1']) rfl ⟨_,rfl,k,hk,fun i h1 h2=>Hz.out i h1 h2,fun i e=>by rw [show i=j by have:=Hkj.out;omega,Hd.out];exact fun e=>Hd0.out (Option.some.inj e),Hsl2.out,Hx5.out⟩
  ·obtain rfl:k=0:=by omega
   have hkd:decide (((0:Nat):Int) > 0)=false:=by decide
   cases b with
   | true =>
    have hS:=Hb.out.put0 (.bool false)
    have hKS:=HK.out.set (b:=w.heap.size) (Nat.le_refl _) (by omega) 0 (.bool false)
    have hsl:=Htk2.out 0 hk _ hKS.x
    have s0:=hS.c0
    have s1:=hS.c1
    have k0:=hKS.res.c0;have k1:=hKS.res.c1;have z0:=hKS.res.fz 0;have z1:=hKS.res.fz 1
    obtain ⟨hb5,hx5⟩:=hKS.fin (by omega) (.bool false) (.slice a 0 c)
    have hsl2:=Htk2.out 0 hk _ hx5
    have Hb5:=hid hb5;have Hx5:=hid hx5;have Hsl2:=hid hsl2
    clear hS hKS hsl hb5 hx5 hsl2
    go_wp2_with fail
    have hd0':=Hb5.out.c0
    have hd1':=Hb5.out.c1
    exact bodyPost_ret (v:=.agg #[.bool false,.slice a 0 c]) (by simp [results,Tryz.results262,go_sem,hd0',hd1']) rfl ⟨_,0,rfl,Nat.zero_le _,fun i h1 h2=>Hz.out i h1 h2,fun i e=>by omega,Hsl2.out,Hx5.out⟩
   | false =>
    have hS:=Hb.out.put0 (.bool false)
    have hKS:=HK.out.set (b:=w.heap.size) (Nat.le_refl _) (by omega) 0 (.bool false)
    have hsl:=Htk2.out 0 hk _ hKS.x
    have s0:=hS.c0
    have s1:=hS.c1
    have k0:=hKS.res.c0;have k1:=hKS.res.c1;have z0:=hKS.res.fz 0;have z1:=hKS.res.fz 1
    obtain ⟨hb5,hx5⟩:=hKS.fin (by omega) (.bool false) (.slice a 0 c)
    have hsl2:=Htk2.out 0 hk _ hx5
    have Hb5:=hid hb5;have Hx5:=hid hx5;have Hsl2:=hid hsl2
    clear hS hKS hsl hb5 hx5 hsl2
    go_wp2_with fail
    have hd0':=Hb5.out.c0
    have hd1':=Hb5.out.c1
    exact bodyPost_ret (v:=.agg #[.bool false,.slice a 0 c]) (by simp [results,Tryz.results262,go_sem,hd0',hd1']) rfl ⟨_,0,rfl,Nat.zero_le _,fun i h1 h2=>Hz.out i h1 h2,fun i e=>by omega,Hsl2.out,Hx5.out⟩
end
section
open Go.RowKit Go.Lib Go.Shelf
attribute [local go_sem] Oper.semAt_some
theorem zjG {T:TypeId}{W:World}{c:Nat}{u v s:Value}{xs:List Int}(hs:Sl W s (zaq xs))(hb:zic T W c u v)(hu:∀ z,u ≠ .int .i64 z)(hv:∀ z,v ≠ .int .i64 z)(x y:Value):Sl ((W.setCell ⟨c,0,none⟩ x).setCell ⟨c,1,none⟩ y) s (zaq xs):=by
 rcases hs with ⟨a,cap,e,hm,h0⟩ | ⟨b,off,cap,e,h1,h2,hc⟩
 ·exact .inl ⟨a,cap,e,hm,h0⟩
 ·refine .inr ⟨b,off,cap,e,h1,h2,fun i q hq=>?_⟩;have h:=hc i q hq;have hbc:b ≠ c:=by
   rintro rfl;obtain ⟨z,rfl⟩:∃ z,q=.int .i64 z:=by
    unfold zaq at hq;rw [List.getElem?_map] at hq
    cases hz:xs[i]? with
    | none=>rw [hz] at hq;cases hq
    | some z=>rw [hz] at hq;exact ⟨z,(Option.some.inj hq).symm⟩
   unfold World.cell? at h;dsimp only at h;rw [hb] at h;rcases (by omega:off+i=0∨off+i=1∨2≤off+i) with g | g | g
   ·rw [g] at h;exact hu z (Option.some.inj h)
   ·rw [g] at h;exact hv z (Option.some.inj h)
   ·have:(#[u,v]:Array Value)[off+i]?=none:=Array.getElem?_eq_none (by simpa using g);simp [this] at h
  rw [World.cell?_setCell_other _ _ _ _ (by intro e';simp only [Addr.mk.injEq] at e';exact hbc e'.1.symm),World.cell?_setCell_other _ _ _ _ (by intro e';simp only [Addr.mk.injEq] at e';exact hbc e'.1.symm)];exact h
def dg (z:Int):List Int:=if z=0 then [] else [(z.natAbs:Int)]
def W1 (w:World)(v:Value)(z:Int):Prop:=∃ u,v=.agg #[.bool (decide (z<0)),u]∧Sl w u (zaq (dg z))
theorem W1.ext {w w':World}{v:Value}{z:Int}(hx:Ext w w')(h:W1 w v z):W1 w' v z:=by
 obtain ⟨u,e,h⟩:=h;exact ⟨u,e,hx.sl h⟩
def zjH (b:Bool)(m:Nat):Int:=if b then -(m:Int) else m
theorem zjI (u:Value)(b:Bool)(m zs:Nat)(w:World)(hu:Sl w u (zaq ((m:Int)::List.replicate zs 0)))(hz:zs≤100) :
  Calls Tryz.prog 262 #[.agg #[.bool b,u]] w fun e w'=>∃ v,e=.returned v∧W1 w' v (zjH b m)∧Ext w w':=by
 refine (zjF u b _ w hu (by simp;omega)).mono ?_;rintro e w' ⟨u',k,rfl,hk,h0,h1,hs,hx⟩;refine ⟨_,rfl,⟨u',?_,?_⟩,hx⟩
 all_goals
  have hk1:k≤1:=by
   rcases Nat.lt_or_ge 1 k with g | g
   ·exfalso;obtain ⟨j,rfl⟩:∃ j,k=j+2:=⟨k - 2,by omega⟩;refine h1 (j+1) (by omega) ?_;rw [List.getElem?_cons_succ,List.getElem?_replicate,if_pos (by simp at hk;omega)]
   ·exact g
  have hkm:(k=0∧m=0)∨(k=1∧m ≠ 0):=by
   rcases (by omega:k=0∨k=1) with e | e
   ·left;have:=h0 0 (by omega) (by simp);simp at this;exact ⟨e,by omega⟩
   ·right;refine ⟨e,fun g=>h1 0 (by omega) ?_⟩;rw [g];rfl
 ·rcases hkm with ⟨rfl,rfl⟩ | ⟨rfl,hm⟩
  ·cases b <;> simp [zjH]
  ·cases b
   ·simp [zjH]
   ·simp [zjH];omega
 ·rcases hkm with ⟨rfl,rfl⟩ | ⟨rfl,hm⟩
  ·have:dg (zjH b 0)=[]:=by cases b <;> rfl
   rw [this];exact hs
  ·have:dg (zjH b m)=[(m:Int)]:=by
    unfold dg zjH
    cases b
    ·rw [if_neg (by simp;omega)];simp
    ·rw [if_neg (by simp;omega)];simp
   rw [this];exact hs
theorem zjJ (z:Int):Lib.hasPrefix (I z).data.toList (⟨#[45]⟩:ByteArray).data.toList=decide (z<0):=by
 unfold Lib.hasPrefix;rw [show (I z).data.toList=(I z).toList from (Lib.toList_data _).symm];show ([45]:List UInt8).isPrefixOf (I z).toList=_;rcases (by omega:z<0∨0≤z) with h | h
 ·obtain ⟨n,rfl⟩:∃ n:Nat,z=-(n:Int):=⟨z.natAbs,by omega⟩;rw [zbv n (by omega),decide_eq_true h];rfl
 ·obtain ⟨n,rfl⟩:∃ n:Nat,z=(n:Int):=⟨z.toNat,by omega⟩;rw [za3,zbo,decide_eq_false (by omega)]
  cases hd:decDigits n with
  | nil=>rfl
  | cons c l =>
   have h1:=Dec.dig_dec n c (by rw [hd];exact List.mem_cons_self ..)
   show ([45].isPrefixOf (c::l))=false
   have hc:((45:UInt8) == c)=false:=by
    rw [beq_eq_false_iff_ne];rintro rfl;revert h1;decide
   simp [List.isPrefixOf,hc]
theorem zjK (z:Int)(w:World)(h0:-1000000000<z)(h1:z<1000000000) :
  Calls Tryz.prog 203 #[.string (I z)] w fun e w'=>∃ v,e=.returned v∧W1 w' v z∧Ext w w':=by
 obtain ⟨i0,hi,hz0,hz1,hz2⟩:=info_parts zfh;obtain ⟨m,hm⟩:∃ m:Nat,m=z.natAbs:=⟨_,rfl⟩;have hpf:=fun W=>Any.strings_HasPrefix Tryz.lHasPrefix (I z) ⟨#[45]⟩ W;rw [zjJ] at hpf;have hat:=fun W=>zaH (m:Int) (by omega) (by omega) W;rw [za3] at hat;have hsz:(D m).size≤9∧0<(D m).size:=by
  rw [za2];exact ⟨Dec.nDigits_le (by omega) (by show m<1000000000;omega),nDigits_pos m⟩
 have htr:=fun (W:World)(u:Value)(hu:Sl W u (zaq [(m:Int)]))=>zjI u (decide (z<0)) m 0 W hu (by omega);have hsg:zjH (decide (z<0)) m=z:=by
  unfold zjH;by_cases h:z<0
  ·rw [decide_eq_true h,if_pos rfl];omega
  ·rw [decide_eq_false h,if_neg (by simp)];omega
 rw [hsg] at htr;have hcut:z<0→(I z).extract 1 (I z).size=D m∧(1:Int)≤((I z).size:Int):=fun h=>by
  obtain rfl:z=-(m:Int):=by omega
  refine ⟨zb6 m (by omega),?_⟩;rw [zbw m (by omega)];omega
 have hpos:¬ z<0→I z=D m:=fun h=>by rw [← za3];congr 1;omega
 have hex:(D m).extract 0 (D m).size=D m:=by
  apply ByteArray.ext;rw [ByteArray.data_extract];show (D m).data.extract 0 (D m).data.size=_;rw [Array.extract_size]
 have hmb:(m:Int)<1000000000:=by omega
 generalize hb:decide (z<0)=b at *;generalize hsI:I z=sz at *;generalize hsD:D m=sm at *;have hb0:b=true→z<0:=fun h=>by rw [h] at hb;exact of_decide_eq_true hb
 have hb1:b=false→¬ z<0:=fun h=>by rw [h] at hb;exact of_decide_eq_false hb
 have ht0:sm.extract 0 0=⟨#[]⟩:=by
  apply ByteArray.ext;rw [ByteArray.data_extract,Array.extract_empty_of_stop_le_start (Nat.le_refl _)]
 have hE1:Ext w ((w.alloc (.cells #[.bool false,.slice none 0 0] 243)).alloc (.cells #[.bool b,.slice none 0 0] 243)):=((Ext.refl w).alloc _).alloc _;have b1:=(zic.new 243 w (.bool false) (.slice none 0 0)).ext ((Ext.refl _).alloc (.cells #[.bool b,.slice none 0 0] 243));have b2:=zic.new 243 (w.alloc (.cells #[.bool false,.slice none 0 0] 243)) (.bool b) (.slice none 0 0);rw [World.size_alloc] at b2;obtain ⟨hs9,hs0⟩:=hsz;have hs9i:(sm.size:Int)≤9:=by omega
 have hs0i:(0:Int)<(sm.size:Int):=by omega
 have hsd:decide ((sm.size:Int) > 0)=true:=decide_eq_true (by omega);have hmx:max (0:Int) ((sm.size:Int) - 9)=0:=by omega
 have hwx:IntKind.i64.wrap ((sm.size:Int) - 9)=(sm.size:Int) - 9:=by rw [IntKind.wrap_i64];omega
 have Hpf:=hid hpf;have Hat:=hid hat;have Htr:=hid htr;have HE1:=hid hE1;have B1:=hid b1;have B2:=hid b2;clear hpf hat htr hE1 b1 b2 hsg hb hm h0 h1
 cases b
 ·have hsm:sz=sm:=by exact hpos (hb1 rfl)
  subst hsm;clear hsI hsD hcut hpos hb0 hb1;have q0:=B2.out.c0;have q1:=B2.out.c1;have f1:=B2.out.fz 1;go_enter Tryz.func203,Tryz.ntmps203
  go_wp2_with fail
  refine (Hpf.out _).mono ?_;rintro e w1 ⟨rfl,rfl⟩;go_wp2_with fail
  refine wp_loop_rounds 2 ?_;rw [rounds_succ];go_wp2_with fail
  refine (Hat.out _).mono ?_;rintro e w2 ⟨rfl,hx2⟩;have hb2':=B2.out.ext hx2;have hEw2:=HE1.out.trans hx2;have hR2:=B1.out.ext hx2;have r1:=hb2'.c1;have hbase:w.heap.size≤w2.heap.size:=hEw2.size;have HB2:=hid hb2';have HEw2:=hid hEw2;have HR2:=hid hR2;clear hb2' hx2 hEw2 hR2 q0 q1 f1;go_wp2_with (at_builtin;refine wpList_append_own _ rfl _ _ 24 rfl w.heap.size 3 i0 (.int .i64 0) 1 8 Tryz.underlying24 hi hz0 hz1 hz2 rfl (by decide) _ _ _ rfl ((World.ownsRow_nil w2 _ _ 1).alloc _) ⟨w2.heap.size,0,none⟩ 1 1 [.int .i64 m] rfl rfl (cell_one_new _ _ _) (by simp [Value.oneCell']) (by decide) (by decide) (by rw [World.size_alloc];omega) ?_;intro v7 V7 hown7 hgrow7 _;have hbV:zic 243 V7 (w.heap.size+1) (.bool false) (.slice none 0 0):=zga (((Ext.refl w2).alloc _).heap HB2.out) ((World.ownsRow_nil w2 w.heap.size 3 1).alloc (.cells #[.int .i64 m] 3)) (by decide) hgrow7;have hrV:zic 243 V7 w.heap.size (.bool false) (.slice none 0 0):=zga (((Ext.refl w2).alloc _).heap HR2.out) ((World.ownsRow_nil w2 w.heap.size 3 1).alloc (.cells #[.int .i64 m] 3)) (by decide) hgrow7;have d1:=hbV.c1;have e1:=hbV.fz 1;obtain ⟨a7,c7,rfl⟩:=zfj hown7)
  have hEV:Ext w (V7.setCell ⟨w.heap.size+1,1,none⟩ (.slice a7 (0+1) c7)):=((HEw2.out.alloc _).grown hgrow7 (fun k hk=>(World.ownsRow.lt ((World.ownsRow_nil w2 w.heap.size 3 1).alloc (.cells #[.int .i64 m] 3)) k hk).1)).setCell (by show w.heap.size≤w.heap.size+1;omega) _;have hb8:=hbV.put1 (.slice a7 (0+1) c7);have hr8:=hrV.past1 (c:=w.heap.size+1) 1 (by omega) (.slice a7 (0+1) c7);have hs8:Sl (V7.setCell ⟨w.heap.size+1,1,none⟩ (.slice a7 (0+1) c7)) (.slice a7 (0+1) c7) (zaq [(m:Int)]):=zao (zgd hbV hown7 (by decide) 1 (.slice a7 (0+1) c7));have HEV:=hid hEV;have Hb8:=hid hb8;have Hr8:=hid hr8;have Hs8:=hid hs8;clear hEV hb8 hr8 hs8 hown7 hgrow7 hbV hrV d1 e1 r1 hbase;generalize V7.setCell ⟨w.heap.size+1,1,none⟩ (.slice a7 (0+1) c7)=V8 at *;have s0:=Hb8.out.c0;have s1:=Hb8.out.c1;rw [rounds_succ];go_wp2_with fail
  have htr8:=Htr.out V8 _ Hs8.out;have Htr8:=hid htr8;clear htr8;go_wp2_with fail
  refine Htr8.out.mono ?_;rintro e W9 ⟨v9,rfl,hw9,hx9⟩;obtain ⟨u9,rfl,hs9'⟩:=hw9;obtain ⟨a9,c9,rfl,_,_,_⟩:=hs9'.parts;have hK:K0 243 w W9 w.heap.size:=⟨HEV.out.trans hx9,_,_,Hr8.out.ext hx9⟩;have k0:=hK.res.c0;have k1:=hK.res.c1;have z0:=hK.res.fz 0;have z1:=hK.res.fz 1;obtain ⟨hb5,hx5⟩:=hK.fin (Nat.le_refl _) (.bool (decide (z<0))) (.slice a9 (zaq (dg z)).length c9);have hs5:=zjG hs9' (Hr8.out.ext hx9) (by simp) (by simp) (.bool (decide (z<0))) (.slice a9 (zaq (dg z)).length c9);have Hb5:=hid hb5;have Hx5:=hid hx5;clear hb5 hx5;go_wp2_with fail
  have hd0':=Hb5.out.c0;have hd1':=Hb5.out.c1;exact bodyPost_ret (v:=.agg #[.bool (decide (z<0)),.slice a9 (zaq (dg z)).length c9]) (by simp [results,Tryz.results203,go_sem,hd0',hd1']) rfl ⟨_,rfl,⟨_,rfl,hs5⟩,Hx5.out⟩
 ·obtain ⟨hc1,hc2⟩:=hcut (hb0 rfl);clear hsI hsD hcut hpos hb0 hb1;have q0:=B2.out.c0;have q1:=B2.out.c1;have f1:=B2.out.fz 1;go_enter Tryz.func203,Tryz.ntmps203
  go_wp2_with fail
  refine (Hpf.out _).mono ?_;rintro e w1 ⟨rfl,rfl⟩;go_wp2_with fail
  refine wp_loop_rounds 2 ?_;rw [rounds_succ];go_wp2_with fail
  refine (Hat.out _).mono ?_;rintro e w2 ⟨rfl,hx2⟩;have hb2':=B2.out.ext hx2;have hEw2:=HE1.out.trans hx2;have hR2:=B1.out.ext hx2;have r1:=hb2'.c1;have hbase:w.heap.size≤w2.heap.size:=hEw2.size;have HB2:=hid hb2';have HEw2:=hid hEw2;have HR2:=hid hR2;clear hb2' hx2 hEw2 hR2 q0 q1 f1;go_wp2_with (at_builtin;refine wpList_append_own _ rfl _ _ 24 rfl w.heap.size 3 i0 (.int .i64 0) 1 8 Tryz.underlying24 hi hz0 hz1 hz2 rfl (by decide) _ _ _ rfl ((World.ownsRow_nil w2 _ _ 1).alloc _) ⟨w2.heap.size,0,none⟩ 1 1 [.int .i64 m] rfl rfl (cell_one_new _ _ _) (by simp [Value.oneCell']) (by decide) (by decide) (by rw [World.size_alloc];omega) ?_;intro v7 V7 hown7 hgrow7 _;have hbV:zic 243 V7 (w.heap.size+1) (.bool true) (.slice none 0 0):=zga (((Ext.refl w2).alloc _).heap HB2.out) ((World.ownsRow_nil w2 w.heap.size 3 1).alloc (.cells #[.int .i64 m] 3)) (by decide) hgrow7;have hrV:zic 243 V7 w.heap.size (.bool false) (.slice none 0 0):=zga (((Ext.refl w2).alloc _).heap HR2.out) ((World.ownsRow_nil w2 w.heap.size 3 1).alloc (.cells #[.int .i64 m] 3)) (by decide) hgrow7;have d1:=hbV.c1;have e1:=hbV.fz 1;obtain ⟨a7,c7,rfl⟩:=zfj hown7)
  have hEV:Ext w (V7.setCell ⟨w.heap.size+1,1,none⟩ (.slice a7 (0+1) c7)):=((HEw2.out.alloc _).grown hgrow7 (fun k hk=>(World.ownsRow.lt ((World.ownsRow_nil w2 w.heap.size 3 1).alloc (.cells #[.int .i64 m] 3)) k hk).1)).setCell (by show w.heap.size≤w.heap.size+1;omega) _;have hb8:=hbV.put1 (.slice a7 (0+1) c7);have hr8:=hrV.past1 (c:=w.heap.size+1) 1 (by omega) (.slice a7 (0+1) c7);have hs8:Sl (V7.setCell ⟨w.heap.size+1,1,none⟩ (.slice a7 (0+1) c7)) (.slice a7 (0+1) c7) (zaq [(m:Int)]):=zao (zgd hbV hown7 (by decide) 1 (.slice a7 (0+1) c7));have HEV:=hid hEV;have Hb8:=hid hb8;have Hr8:=hid hr8;have Hs8:=hid hs8;clear hEV hb8 hr8 hs8 hown7 hgrow7 hbV hrV d1 e1 r1 hbase;generalize V7.setCell ⟨w.heap.size+1,1,none⟩ (.slice a7 (0+1) c7)=V8 at *;have s0:=Hb8.out.c0;have s1:=Hb8.out.c1;rw [rounds_succ];go_wp2_with fail
  have htr8:=Htr.out V8 _ Hs8.out;have Htr8:=hid htr8;clear htr8;go_wp2_with fail
  refine Htr8.out.mono ?_;rintro e W9 ⟨v9,rfl,hw9,hx9⟩;obtain ⟨u9,rfl,hs9'⟩:=hw9;obtain ⟨a9,c9,rfl,_,_,_⟩:=hs9'.parts;have hK:K0 243 w W9 w.heap.size:=⟨HEV.out.trans hx9,_,_,Hr8.out.ext hx9⟩;have k0:=hK.res.c0;have k1:=hK.res.c1;have z0:=hK.res.fz 0;have z1:=hK.res.fz 1;obtain ⟨hb5,hx5⟩:=hK.fin (Nat.le_refl _) (.bool (decide (z<0))) (.slice a9 (zaq (dg z)).length c9);have hs5:=zjG hs9' (Hr8.out.ext hx9) (by simp) (by simp) (.bool (decide (z<0))) (.slice a9 (zaq (dg z)).length c9);have Hb5:=hid hb5;have Hx5:=hid hx5;clear hb5 hx5;go_wp2_with fail
  have hd0':=Hb5.out.c0;have hd1':=Hb5.out.c1;exact bodyPost_ret (v:=.agg #[.bool (decide (z<0)),.slice a9 (zaq (dg z)).length c9]) (by simp [results,Tryz.results203,go_sem,hd0',hd1']) rfl ⟨_,rfl,⟨_,rfl,hs5⟩,Hx5.out⟩
theorem zjL {w:World}{v:Value}{m:Nat}(h:Sl w v (zaq (dg (m:Int)))):(m=0∧∃ a c,v=.slice a 0 c∧c≤maxLen)∨(0<m∧∃ b off c,v=.slice (some ⟨b,off,none⟩) 1 c∧w.cell? ⟨b,off,none⟩=some (.int .i64 (m:Int))∧1≤c∧c≤maxLen):=by
 rcases Nat.eq_zero_or_pos m with rfl | hm
 ·obtain ⟨a,c,rfl,hc,_,_⟩:=h.parts;exact .inl ⟨rfl,a,c,rfl,hc⟩
 ·have e:dg (m:Int)=[(m:Int)]:=by unfold dg;rw [if_neg (by omega),Int.natAbs_natCast]
  rw [e] at h;obtain ⟨a,c,rfl,hc,h1,h2⟩:=h.parts;obtain ⟨b,off,rfl,h3⟩:=h2 0 (.int .i64 (m:Int)) rfl;exact .inr ⟨hm,b,off,c,rfl,h3,h1,hc⟩
theorem zjM (x:Int):dg x=dg ((x.natAbs:Nat):Int):=by
 unfold dg;by_cases h:x=0
 ·subst h;rfl
 ·rw [if_neg h,if_neg (by omega),Int.natAbs_natCast]
theorem zjN {w:World}{v:Value}{xs:List Int}(h:Sl w v (zaq xs)):∃ a l c,v=.slice a l c∧Sl w (.slice a l c) (zaq xs):=by
 obtain ⟨a,c,rfl,_,_,_⟩:=h.parts;exact ⟨a,_,c,rfl,h⟩
theorem zjO {w:World}{v:Value}{z:Int}(h:W1 w v z):∃ b a l c,v=.agg #[.bool b,.slice a l c]∧W1 w (.agg #[.bool b,.slice a l c]) z:=by
 obtain ⟨u,rfl,hs⟩:=h;obtain ⟨a,l,c,rfl,hs⟩:=zjN hs;exact ⟨_,a,l,c,rfl,_,rfl,hs⟩
theorem zjP {w:World}{v:Value}{z:Int}(h:W1 w v z){T:TypeId}{c:Nat}{p q:Value}(hb:zic T w c p q)(hu:∀ z,p ≠ .int .i64 z)(hv:∀ z,q ≠ .int .i64 z)(x y:Value):W1 ((w.setCell ⟨c,0,none⟩ x).setCell ⟨c,1,none⟩ y) v z:=by
 obtain ⟨u,e,hs⟩:=h;exact ⟨u,e,zjG hs hb hu hv x y⟩
theorem zjQ {w:World}{B E s g n cap:Nat}{xs:List Value}(h:w.ownsRow B E s (.slice (some ⟨g,0,none⟩) n cap) n xs)(k:Nat):w.frozen? ⟨g,k,none⟩=false:=by
 rcases h.2 with ⟨e,_⟩ | ⟨g',cap',cur,e,hb,hg,_⟩
 ·cases e
 ·injection e with e1 _ _;injection e1 with e1;injection e1 with e1;subst e1;exact frozen_of_row _ _ _ _ _ hg
end
end Go.Proofs.YtebabancfnmfjaaGreatDoor
