/- Walks: slices.IndexFunc and slices.ContainsFunc at lists of classes, with a closure that makes memory. Walks: class.Kind. Walks: class.ordered, Proper, Strict. -/
import Derived.Test.YtebabancfnmfjaaGreatDoorPq27
import Derived.Shelf.Abstract
import Derived.Test.YtebabancfnmfjaaGreatDoorPq30
set_option maxRecDepth 100000
set_option maxHeartbeats 1600000
namespace Go.Proofs.YtebabancfnmfjaaGreatDoor
section
open Go.RowKit Go.Lib Go.Shelf
theorem znL (ls:List Lq):(lqc ls).length=ls.length:=by unfold lqc;exact List.length_map ..
def znM (P:Lq→Bool)(rs:List Lq)(z:Int):Prop:=(z=-1∧∀ r∈rs,P r=false)∨∃ (k:Nat)(r:Lq),z=k∧rs[k]?=some r∧P r=true∧∀ s∈rs.take k,P s=false
theorem znM.any {P:Lq→Bool}{rs:List Lq}{z:Int}(h:znM P rs z):rs.any (fun r=>P r)=decide (0≤z):=by
 rcases h with ⟨rfl,h⟩ | ⟨k,r,rfl,h1,h2,_⟩
 ·rw [show decide ((0:Int)≤-1)=false by decide,List.any_eq_false];intro r hr;rw [h r hr];simp
 ·rw [show decide ((0:Int)≤(k:Int))=true from decide_eq_true (by omega),List.any_eq_true];exact ⟨r,List.mem_of_getElem? h1,h2⟩
theorem znN (g:Nat)(cb:Array Value)(v:Value)(rs:List Lq)(P:Lq→Bool)(w:World)(hv:Sl w v (lqc rs))(hl:rs.length≤1000)
  (eg:∀ args w,(callFunc g args).run Tryz.prog w=.ok (.enter g args) w)
  (hp:∀ W,Ext w W→∀ r∈rs,Calls Tryz.prog g (#[r.u]++cb) W fun e w'=>e=.returned (.bool (P r))∧Ext W w') :
  Calls Tryz.prog 100 #[v,.func (.func g) #[] cb] w fun e w'=>∃ z:Int,e=.returned (.int .i64 z)∧znM P rs z∧Ext w w':=by
 obtain ⟨a,c,rfl,_,_,hc⟩:=hv.parts;rw [znL];have hcell:∀ k r,rs[k]?=some r→∃ b off,a=some ⟨b,off,none⟩∧w.cell? ⟨b,off+k,none⟩=some r.u:=fun k r hr=>hc k r.u (by unfold lqc;rw [List.getElem?_map,hr];rfl);generalize hn:rs.length=n at *;have Hn:=hid hn;have Hp:=hid hp;have Hc:=hid hcell;clear hv hc hn hp hcell;go_enter Tryz.func100,Tryz.ntmps100
 go_wp2_with fail
 go_loopw [5,8] (fun v5 v8 wr=>∃ k:Nat,v8=.int .i64 k∧k≤n∧(∀ s∈rs.take k,P s=false)∧Ext w wr) (fun _ v8 _=>n - (zal v8).toNat)
 case atStart=>exact ⟨0,rfl,Nat.zero_le _,fun r h=>by simp at h,Ext.refl _⟩
 case round =>
  obtain ⟨k,rfl,hk,hall,hE⟩:=hrel;have Hall:=hid hall;clear hall;by_cases hlt:k<n
  ·obtain ⟨r,hr⟩:∃ r,rs[k]?=some r:=⟨_,List.getElem?_eq_getElem (by rw [Hn.out];exact hlt)⟩;obtain ⟨b,off,rfl,h0⟩:=Hc.out k r hr;have hc0:=hE.cell h0;have hd:=Hp.out wr hE r (List.mem_of_getElem? hr);have HE:=hid hE;have Hr:=hid hr;clear hr h0 hE;generalize r.u=u at *;generalize hdx:P r=dx at *;have Hd:=hid hd;have Hdx:=hid hdx;clear hd hdx;have hk0:(0:Int)≤(k:Int):=(by omega);have hk1:(k:Int)<(n:Int):=(by omega);go_wp2_with fail
   refine Hd.out.mono ?_;rintro e W2 ⟨rfl,hx2⟩;have HE2:=hid (HE.out.trans hx2);clear hx2
   cases dx with
   | true =>
    go_wp2
    go_ret
    exact ⟨_,rfl,.inr ⟨k,r,rfl,Hr.out,Hdx.out,Hall.out⟩,HE2.out⟩
   | false =>
    go_wp2_with fail
    go_roundw
    case rel=>exact ⟨k+1,by go_num,hlt,fun s hs=>by
     obtain ⟨hl2,e⟩:=List.getElem?_eq_some_iff.1 Hr.out;rw [List.take_succ_eq_append_getElem hl2] at hs;rcases List.mem_append.1 hs with h | h
     ·exact Hall.out s h
     ·rw [List.mem_singleton] at h;rw [h,e];exact Hdx.out,HE2.out⟩
    case measure=>simp [zal];omega
  ·have hkk:¬ (k:Int)<(n:Int):=(by omega);have hkl:k=n:=(by omega);have Hkl:=hid hkl;clear hkl;have HE:=hid hE;clear hE;go_wp2
   go_ret
   exact ⟨-1,rfl,.inl ⟨rfl,fun r hr=>Hall.out r (by rw [Hkl.out,← Hn.out,List.take_length];exact hr)⟩,HE.out⟩
theorem znO (g:Nat)(cb:Array Value)(v:Value)(rs:List Lq)(P:Lq→Bool)(w:World)(hv:Sl w v (lqc rs))(hl:rs.length≤1000)
  (eg:∀ args w,(callFunc g args).run Tryz.prog w=.ok (.enter g args) w)
  (hp:∀ W,Ext w W→∀ r∈rs,Calls Tryz.prog g (#[r.u]++cb) W fun e w'=>e=.returned (.bool (P r))∧Ext W w') :
  Calls Tryz.prog 45 #[v,.func (.func g) #[] cb] w fun e w'=>e=.returned (.bool (rs.any fun r=>P r))∧Ext w w':=by
 have hi:=znN g cb v rs P w hv hl eg hp;obtain ⟨a,c,rfl,_,_,_⟩:=hv.parts;have Hi:=hid hi;clear hi hp hv;go_enter Tryz.func45,Tryz.ntmps45
 go_wp2_with fail
 refine Hi.out.mono ?_;rintro e w1 ⟨z,rfl,hz,hx⟩;have Hz:=hid hz.any;have Hx:=hid hx;clear hz hx;go_wp2
 go_ret
 exact ⟨by rw [Hz.out];rfl,Hx.out⟩
end
section
open Go.RowKit Go.Lib Go.Shelf
attribute [local go_sem] Oper.semAt_some
theorem Sl.sub {w:World}{g o k c:Nat}{xs:List Value}(h:Sl w (.slice (some ⟨g,o,none⟩) k c) xs){a b:Nat}(ha:a≤b)(hb:b≤xs.length):Sl w (.slice (some ⟨g,o+a,none⟩) (b - a) (c - a)) ((xs.take b).drop a):=by
 have hl:((xs.take b).drop a).length=b - a:=by rw [List.length_drop,List.length_take];omega
 rcases h with ⟨a',cap,e,h1,rfl⟩ | ⟨b',off,cap,e,h1,h2,hc⟩
 ·injection e with e1 e2 e3;have hb0:b=0:=by simpa using hb
  subst hb0;have ha0:a=0:=by omega
  subst ha0;exact .inl ⟨_,_,rfl,by omega,by simp⟩
 ·injection e with e1 e2 e3;injection e1 with e1;injection e1 with e4 e5;subst e4 e5 e2 e3;refine .inr ⟨g,o+a,c - a,by rw [hl],by rw [hl];omega,by omega,fun i u hu=>?_⟩;rw [List.getElem?_drop] at hu;have hi:a+i<b:=by
   have:=(List.getElem?_eq_some_iff.1 hu).1;rw [List.length_take] at this;omega
  rw [List.getElem?_take_of_lt hi] at hu;have:=hc (a+i) u hu;rw [Nat.add_assoc];exact this
theorem znP (a:Option Addr)(n c:Nat)(W:World):Calls Tryz.prog 46 #[.slice a n c] W fun e w'=>e=.returned (.bool (decide ((2:Int)<(n:Int))))∧Ext W w':=by
 go_enter Tryz.func46,Tryz.ntmps46
 go_wp2
 go_ret
 exact ⟨rfl,Ext.refl _⟩
theorem znQ (p:List Int)(N:List (List Rat)):kd p N=if (cls p N 1).length=1 then 1 else if 2<(cls p N 1).length∨((List.range (N.length - 1)).any fun (d:Nat)=>decide (2<(cls p N ((d+1:Nat):Int)).length))=true then 3 else 2:=rfl
theorem znR {p:List Int}{N:List (List Rat)}{ls:List Lq}(hx:lqx ls=zmh p N) :
  ((ls.take N.length).drop 1).any (fun l=>decide ((2:Int)<(l.rs.length:Int)))=(List.range (N.length - 1)).any fun (d:Nat)=>decide (2<(cls p N ((d+1:Nat):Int)).length):=by
 have h1:(((zmh p N).take N.length).drop 1)=(List.range (N.length - 1)).map fun (d:Nat)=>cls p N ((d+1:Nat):Int):=by
  refine List.ext_getElem? fun i=>?_;rw [List.getElem?_drop];by_cases hi:i<N.length - 1
  ·rw [List.getElem?_take_of_lt (by omega),List.getElem?_map,List.getElem?_range hi,Nat.add_comm 1 i];unfold zmh;rw [List.getElem?_map,List.getElem?_range (by omega)];rfl
  ·rw [List.getElem?_eq_none (by rw [List.length_take];omega),List.getElem?_eq_none (by rw [List.length_map,List.length_range];omega)]
 have h2:((List.range (N.length - 1)).map fun (d:Nat)=>cls p N ((d+1:Nat):Int)).any (fun c=>decide (2<c.length))=(List.range (N.length - 1)).any fun (d:Nat)=>decide (2<(cls p N ((d+1:Nat):Int)).length):=by
  rw [List.any_map];rfl
 rw [← h2,← h1,← hx];unfold lqx;rw [← List.map_take,← List.map_drop,List.any_map];congr 1;funext l;show _=decide (2<(l.rs.map Qw.x).length);rw [List.length_map];exact decide_eq_decide.2 (by omega)
theorem znS (v:Value)(p:List Int)(rs:List Qw)(w:World)(he:Env w)(hv:ScV w v p rs)(h:Wc p (rs.map Qw.x)) :
  Calls Tryz.prog 10 #[v] w fun e w'=>e=.returned (.tuple #[.int .i64 (kd p (rs.map Qw.x)),.int .i64 0])∧Ext w w':=by
 have hop:=fun W (hE:Ext w W)=>zmm v p rs W (he.ext hE) (hv.ext hE) h;have hL:(rs.map Qw.x).length=rs.length:=List.length_map ..;have hfew:=h.few;have hpos:=h.wd.pos;rw [hL] at hfew hpos;have hat:=fun W B vv ls (hq:LqM W B B vv ls)(hx:lqx ls=zmh p (rs.map Qw.x))(d:Nat)(hd:d≤rs.length)=>znK hq hx (d:=d) (by rw [hL];exact hd);have hcs:(zmh p (rs.map Qw.x)).length=rs.length+1:=by rw [zmi,hL]
 have hmid:=fun ls (hx:lqx ls=zmh p (rs.map Qw.x))=>znR hx;have hcp:=h.cls_pos 1;have hkd:=znQ p (rs.map Qw.x);rw [hL] at hmid hkd;have hkc:=fun W vv (ls:List Lq)(hv:Sl W vv (lqc ls))(hl:ls.length≤1000)(hs:∀ r∈ls,∃ a c,r.u=.slice a r.rs.length c) =>
  znO 46 #[] vv ls (fun l=>decide ((2:Int)<(l.rs.length:Int))) W hv hl (fun _ _=>rfl) fun W' _ r hr=>by
   obtain ⟨a,c,e⟩:=hs r hr;rw [e];exact znP a r.rs.length c W'
 obtain ⟨vp,vn,rfl,hp,hs,hmr⟩:=hv;obtain ⟨ap,cp,rfl,_,_,_⟩:=hp.parts;obtain ⟨an,cn,rfl,_,_,_⟩:=hs.parts;rw [zar] at *;rw [zfz] at *;generalize rs.length=n at *;generalize kd p (rs.map Qw.x)=kk at *;have hE0:Ext w (w.alloc (.cells #[.slice ap p.length cp,.slice an n cn] 28)):=(Ext.refl w).alloc _;have b1:=zjl.new 28 w (.slice ap p.length cp) (.slice an n cn);have Hop:=hid hop;have Hat:=hid hat;have HE0:=hid hE0;have Hcs:=hid hcs;have Hmid:=hid hmid;have Hkd:=hid hkd;have Hkc:=hid hkc;have q0:=b1.c0;have q1:=b1.c1;clear hop hat hE0 hcs hmid hkd hkc b1 hp hs hmr he h hL;go_enter Tryz.func10,Tryz.ntmps10
 go_wp2_with fail
 refine (Hop.out _ HE0.out).mono ?_;rintro e w2 ⟨u,v4,ls,rfl,hu,hq,hm,hx2⟩;have hll:ls.length=n+1:=by
  have:=congrArg List.length hm;unfold lqx at this;rwa [List.length_map,Hcs.out] at this
 have hq1:=hq.1;obtain ⟨g,cap,rfl,hcell⟩:=zfm hq1 (by omega);have hcap:n+1≤cap∧cap≤maxLen:=by
  rcases hq1.2 with ⟨e,_⟩ | ⟨g',cap',cur,e,_,_,k1,k2,_⟩
  ·cases e
  ·injection e with _ _ e3;rw [e3,← hll];exact ⟨k1,k2⟩
 rw [hll] at hq1 ⊢;have hx:=HE0.out.trans hx2;obtain ⟨a5,c5,hc5⟩:∃ a c,w2.cell? ⟨g,1,none⟩=some (.slice a (cls p (rs.map Qw.x) 1).length c):=by
  obtain ⟨l,a,c,h1,h2,_,_⟩:=Hat.out w2 _ _ ls hq hm 1 (by omega);exact ⟨a,c,hcell 1 _ (by unfold lqc;rw [List.getElem?_map,h1];exact congrArg some h2)⟩
 have hmi:=Hmid.out ls hm;have hsl:Sl w2 (.slice (some ⟨g,0+1,none⟩) (n - 1) (cap - 1)) (lqc ((ls.take n).drop 1)):=by
  have h1:=(zan hq1).sub (a:=1) (b:=n) (by omega) (by rw [znL,hll];omega);unfold lqc at h1 ⊢;rw [List.map_drop,List.map_take];exact h1
 have hcon:=fun W (hE:Ext w2 W)=>Hkc.out W _ ((ls.take n).drop 1) (hE.sl hsl) (by rw [List.length_drop,List.length_take];omega) fun r hr=>by
  have:=(hq.2 r (List.mem_of_mem_take (List.mem_of_mem_drop hr))).1;exact zfi this
 simp only [hmi,Nat.zero_add] at hcon;have hkk:=Hkd.out;generalize hb:((List.range (n - 1)).any fun (d:Nat)=>decide (2<(cls p (rs.map Qw.x) ((d+1:Nat):Int)).length))=bb at *;generalize hz:(cls p (rs.map Qw.x) 1).length=z at *;have hw1:IntKind.i64.wrap (((n+1:Nat):Int) - 1)=(n:Int):=by rw [IntWalk.i64_in _ (by omega)];omega
 have Hx:=hid hx;have Hcon:=hid hcon;have Hkk:=hid hkk;clear hx hcon hq hm hu hx2 q0 q1 hq1 hll hcell hsl hmi hb hkk hz;rcases Nat.lt_trichotomy z 2 with hz | rfl | hz
 ·obtain rfl:z=1:=by omega
  clear hcp hz;go_wp2_with fail
  exact bodyPost_ret (v:=.tuple #[.int .i64 1,.int .i64 0]) (by simp [results,Tryz.results10,go_sem]) rfl ⟨by rw [Hkk.out];rfl,Hx.out⟩
 ·go_wp2_with fail
  refine (Hcon.out _ (Ext.refl _)).mono ?_;rintro e w5 ⟨rfl,hx5⟩;have Hx5:=hid (Hx.out.trans hx5);clear hx5
  cases bb with
  | true =>
   go_wp2_with fail
   exact bodyPost_ret (v:=.tuple #[.int .i64 3,.int .i64 0]) (by simp [results,Tryz.results10,go_sem]) rfl ⟨by rw [Hkk.out];rfl,Hx5.out⟩
  | false =>
   go_wp2_with fail
   exact bodyPost_ret (v:=.tuple #[.int .i64 2,.int .i64 0]) (by simp [results,Tryz.results10,go_sem]) rfl ⟨by rw [Hkk.out];rfl,Hx5.out⟩
 ·have hz1:¬ (z:Int)=1:=by omega
  have hz2:(2:Int)<(z:Int):=by omega
  go_wp2_with fail
  exact bodyPost_ret (v:=.tuple #[.int .i64 3,.int .i64 0]) (by simp [results,Tryz.results10,go_sem]) rfl ⟨by rw [Hkk.out,if_neg (by omega),if_pos (Or.inl hz)],Hx.out⟩
theorem znT {w:World}{p:List Int}{N:List (List Rat)}{d i:Nat}{x:List Rat}{a:Option Addr}{c B:Nat}{rs:List Qw}(hq:QwM w B B (.slice a (cls p N (d:Int)).length c) rs)(hm:rs.map Qw.x=cls p N (d:Int))(hx:(cls p N (d:Int))[i]?=some x) :
  ∃ g u,a=some ⟨g,0,none⟩∧w.cell? ⟨g,i,none⟩=some u∧zfw w B u x:=by
 rw [← hm,List.getElem?_map] at hx;obtain ⟨r,hr,e⟩:=Option.map_eq_some_iff.1 hx;have hl:rs.length=(cls p N (d:Int)).length:=by rw [← hm,List.length_map]
 have hi:=(List.getElem?_eq_some_iff.1 hr).1;obtain ⟨g,cap,e2,hcell⟩:=zfm hq.1 (by omega);injection e2 with e3 e4 e5;exact ⟨g,r.u,e3,hcell i r.u (by unfold qwc;rw [List.getElem?_map,hr];rfl),by rw [← e];exact hq.2 r (List.mem_of_getElem? hr)⟩
theorem znU (v:Value)(p:List Int)(rs:List Qw)(most:Int)(w:World)(he:Env w)(hv:ScV w v p rs)(h:Wc p (rs.map Qw.x)) :
  Calls Tryz.prog 47 #[v,.int .i64 most] w fun e w'=>zmx p (rs.map Qw.x) most w.heap.size e w'∧Ext w w':=by
 have hop:=fun W (hE:Ext w W)=>zmm v p rs W (he.ext hE) (hv.ext hE) h;have hL:(rs.map Qw.x).length=rs.length:=List.length_map ..;have hfew:=h.few;have hpos:=h.wd.pos;rw [hL] at hfew hpos;have hat:=fun W B vv ls (hq:LqM W B B vv ls)(hx:lqx ls=zmh p (rs.map Qw.x))(d:Nat)(hd:d≤rs.length)=>znK hq hx (d:=d) (by rw [hL];exact hd);have hcs:(zmh p (rs.map Qw.x)).length=rs.length+1:=by rw [zmi,hL]
 have hgl:=fun d=>h.gl (d:=d);have hcp:=fun (d:Nat)=>h.cls_pos (d:Int);have hcl:=fun (d:Nat)=>(zjU (p:=p) (N:=rs.map Qw.x) (d:=(d:Int)));rw [hL] at hcl;have hcmp:=fun W (hE:Ext w W) u (hu:Vw W u p rs) va vb x y (d:Nat)(hd:d<rs.length)(hg:Gl p (rs.map Qw.x) d x y)(ha:Rd W va x)(hb:Rd W vb y)=>show Calls Tryz.prog 101 #[u,va,vb] W fun e w'=>e=.returned (.int .i64 (sgQ (sF p (zew x y))))∧Ext W w' by
  obtain ⟨i,e1⟩:=h.cls_mem.1 (List.mem_of_getElem? hg.1);obtain ⟨j,e2⟩:=h.cls_mem.1 (List.mem_of_getElem? hg.2);have hll:=h.gl_len hg;have hvc:=zlx u va vb p rs x y W (he.ext hE) hu h.wd.pr ha hb hll.1 hll.2 (by rw [e1];exact (h.iv_quick (by omega) (by rw [hL];omega)).1) (by rw [e2];exact (h.iv_quick (by omega) (by rw [hL];omega)).1) (by rw [e1,e2];exact h.iv_sub_quick (by omega) (by rw [hL];omega) (by omega) (by rw [hL];omega));rw [show ze5 (tms p (dn (zew x y)) (zew x y))=sgQ (sF p (zew x y)) by rw [zey _ _ _ (by rw [hll.1,hll.2]),e1,e2,h.iv_sgn]] at hvc;exact hvc
 have hok:=fun (d:Nat) x y (hg:Gl p (rs.map Qw.x) d x y)=>show zmo p (rs.map Qw.x) most d ↔ sgQ (sF p (zew x y))<most from ⟨fun ho=>ho x y hg,fun hs x' y' hg'=>by rw [(hg'.uniq hg).1,(hg'.uniq hg).2];exact hs⟩;obtain ⟨vp,vn,rfl,hp,hs,hmr⟩:=hv;obtain ⟨ap,cp,rfl,_,_,_⟩:=hp.parts;obtain ⟨an,cn,rfl,_,_,_⟩:=hs.parts;rw [zar] at *;rw [zfz] at *;have hle:(rs.map Qw.x).length=rs.length:=hL;generalize rs.length=n at *;have hE0:Ext w ((w.alloc (.cells #[.slice ap p.length cp,.slice an n cn] 28)).alloc (.cells #[.int .i64 0,.int .i64 0,.slice none 0 0,.slice none 0 0] 43)):=((Ext.refl w).alloc _).alloc _;have b1:=(zjl.new 28 w (.slice ap p.length cp) (.slice an n cn)).ext ((Ext.refl _).alloc (.cells #[.int .i64 0,.int .i64 0,.slice none 0 0,.slice none 0 0] 43));have b2:=zmu.new 43 (w.alloc (.cells #[.slice ap p.length cp,.slice an n cn] 28)) (.int .i64 0) (.int .i64 0) (.slice none 0 0) (.slice none 0 0);rw [World.size_alloc] at b2;have Hop:=hid hop;have Hat:=hid hat;have HE0:=hid hE0;have Hcs:=hid hcs;have Hgl:=hid hgl;have Hcp:=hid hcp;have Hcl:=hid hcl;have Hcmp:=hid hcmp;have Hok:=hid hok;have B2:=hid b2;have Hle:=hid hle;have q0:=b1.c0;have q1:=b1.c1;clear hop hat hE0 hcs hgl hcp hcl hcmp hok b1 b2 hp hs hmr he h hL hle;go_enter Tryz.func47,Tryz.ntmps47
 go_wp2_with fail
 refine (Hop.out _ HE0.out).mono ?_;rintro e w2 ⟨u,v4,ls,rfl,hu,hq,hm,hx2⟩;have hll:ls.length=n+1:=by
  have:=congrArg List.length hm;unfold lqx at this;rwa [List.length_map,Hcs.out] at this
 rw [World.size_alloc,World.size_alloc] at hq;have hq1:=hq.1;obtain ⟨g,cap,rfl,hcell⟩:=zfm hq1 (by omega);rw [hll] at hq1 ⊢;have hx:=HE0.out.trans hx2;have b3:=B2.out.ext hx2;have hcc:∀ d:Nat,d≤n→∃ a c,w2.cell? ⟨g,d,none⟩=some (.slice a (cls p (rs.map Qw.x) (d:Int)).length c)∧∀ i x,(cls p (rs.map Qw.x) (d:Int))[i]?=some x→∃ g5 u,a=some ⟨g5,0,none⟩∧w2.cell? ⟨g5,i,none⟩=some u∧zfw w2 (w.heap.size+1+1) u x:=fun d hd=>by
  obtain ⟨l,a,c,h1,h2,h3,h4⟩:=Hat.out w2 _ _ ls hq hm d hd;exact ⟨a,c,hcell d _ (by unfold lqc;rw [List.getElem?_map,h1,← h2];rfl),fun i x hx=>znT h3 h4 hx⟩
 obtain ⟨bv,uv1,uv2,uv3,nts,rfl,hrest⟩:=hu;have hw1:IntKind.i64.wrap (((n+1:Nat):Int) - 1)=(n:Int):=by rw [IntWalk.i64_in _ (by omega)];omega
 have Hx:=hid hx;have Hcc:=hid hcc;have Hr:=hid hrest;have B3:=hid b3;clear hx hcc hq hm hrest hx2 q0 q1 hq1 hll hcell b3;go_wp2_with fail
 go_loopw [25] (fun v25 wr=>∃ d:Nat,v25=.int .i64 (d:Int)∧d≤n∧(∀ d':Nat,d'<d→zmo p (rs.map Qw.x) most d')∧Ext w2 wr) (fun v25 _=>n+1 - (zal v25).toNat)
 case atStart=>exact ⟨0,rfl,Nat.zero_le _,fun _ h=>absurd h (Nat.not_lt_zero _),Ext.refl _⟩
 case round =>
  obtain ⟨d,rfl,hd,hbef,hE⟩:=hrel;have Hbef:=hid hbef;clear hbef;by_cases hdn:d<n
  ·have hik:(d:Int)<(n:Int):=(by omega);obtain ⟨x,y,hg⟩:=Hgl.out d;obtain ⟨a1,c1,k1,g1⟩:=Hcc.out d hd;obtain ⟨a2,c2,k2,g2⟩:=Hcc.out (d+1) (by omega);obtain ⟨gA,uA,rfl,kA,rA⟩:=g1 _ x hg.1;obtain ⟨gB,uB,rfl,kB,rB⟩:=g2 0 y hg.2;have hz1:=Hcp.out d;have hz2:=Hcp.out (d+1);have hl1:=Hcl.out d;have hl2:=Hcl.out (d+1);have hok:=Hok.out d x y hg;have hcmp:=fun W (hE:Ext w W) u hu ha hb=>Hcmp.out W hE u hu uA uB x y d hdn hg ha hb;generalize (cls p (rs.map Qw.x) (d:Int)).length=z1 at *;generalize (cls p (rs.map Qw.x) ((d+1:Nat):Int)).length=z2 at *;obtain ⟨m1,rfl⟩:∃ m,z1=m+1:=⟨z1 - 1,by omega⟩;rw [Nat.add_sub_cancel] at kA;obtain ⟨D,hD⟩:∃ D:Nat,D=d+1:=⟨_,rfl⟩;rw [← hD] at k2;have e1:IntKind.i64.wrap (((m1+1:Nat):Int) - 1)=(m1:Int):=(by rw [IntWalk.i64_in _ (by omega)];omega);have e2:IntKind.i64.wrap ((d:Int)+1)=(D:Int):=(by rw [IntWalk.i64_in _ (by omega)];omega);have i1:(d:Int)<((n+1:Nat):Int):=(by omega);have i2:(D:Int)<((n+1:Nat):Int):=(by omega);have i3:(m1:Int)<((m1+1:Nat):Int):=(by omega);have i4:(0:Int)<(z2:Int):=(by omega);have j1:(d:Int)<(n:Int)+1:=(by omega);have j2:(D:Int)<(n:Int)+1:=(by omega);have j3:(m1:Int)<(m1:Int)+1:=(by omega);have j4:0<z2:=(by omega);have e4:IntKind.i64.wrap (m1:Int)=(m1:Int):=IntWalk.i64_in _ (by omega);have e3:IntKind.i64.wrap ((m1:Int)+1 - 1)=(m1:Int):=(by rw [IntWalk.i64_in _ (by omega)];omega);have i5:(0:Int)≤(d:Int):=(by omega);have i6:(0:Int)≤(D:Int):=(by omega);have i7:(0:Int)≤(m1:Int):=(by omega);have k1':=hE.cell k1;have k2':=hE.cell k2;have kA':=hE.cell kA;have kB':=hE.cell kB;have HE:=hid hE;have Hg:=hid hg;have RA:=hid rA;have RB:=hid rB;have Hok1:=hid hok;have Hc1:=hid hcmp;have HDD:=hid hD;clear hE hg rA rB hok hcmp k1 k2 kA kB g1 g2 hD hz1 hz2 hl1 hl2;obtain ⟨aA,cA,rfl⟩:=zfi RA.out;obtain ⟨aB,cB,rfl⟩:=zfi RB.out;generalize x.length=lx at *;generalize y.length=ly at *;go_wp2
   go_quiet (fail)
   have hEn:=HE.out.drewN nq;generalize wr.drewN nq=W5 at *;have hc:=Hc1.out W5 (Hx.out.trans hEn) _ (Vw.ext ⟨bv,uv1,uv2,uv3,nts,rfl,Hr.out⟩ hEn) (hEn.rd RA.out.rd) (hEn.rd RB.out.rd);have hb5:=B3.out.ext hEn;have Hc:=hid hc;have HEn:=hid hEn;have B5:=hid hb5;clear hc hEn hb5 k1' k2' kA' kB' i1 i2 i3 i4 i7 e1;generalize hsg:sgQ (sF p (zew x y))=sg at *;by_cases hlt:sg<most
   ·have hge:¬ most≤sg:=(by omega);have Hlt:=hid hlt;clear hlt;go_wp2_with fail
    refine Hc.out.mono ?_;rintro e w6 ⟨rfl,hx6⟩;have HE6:=hid (HEn.out.trans hx6);clear hx6;go_wp2_with fail
    go_roundw
    case rel=>exact ⟨D,by go_num,by have:=HDD.out;omega,fun d' h'=>by
     have:=HDD.out;rcases Nat.lt_or_ge d' d with g | g
     ·exact Hbef.out d' g
     ·obtain rfl:d'=d:=by omega
      exact Hok1.out.2 Hlt.out,HE6.out⟩
    case measure=>have:=HDD.out;simp [zal];omega
   ·have hge:most≤sg:=(by omega);have Hlt:=hid hlt;clear hlt;go_wp2_with fail
    refine Hc.out.mono ?_;rintro e w6 ⟨rfl,hx6⟩;have b6:=B5.out.ext hx6;have hE6:=Hx.out.trans (HEn.out.trans hx6);have r6A:=(HEn.out.trans hx6).ownQ RA.out;have r6B:=(HEn.out.trans hx6).ownQ RB.out;have c0:=b6.c0;have c1:=b6.c1;have c2:=b6.c2;have c3:=b6.c3;have z0:=b6.fz 0;have z1:=b6.fz 1;have z2:=b6.fz 2;have z3:=b6.fz 3;have B6:=hid b6;have HE6:=hid hE6;have R6A:=hid r6A;have R6B:=hid r6B;clear b6 hE6 r6A r6B hx6;have hp4:=B6.out.put (.int .i64 (d:Int)) (.int .i64 (D:Int)) (.slice aB ly cB) (.slice aA lx cA);have d0:=hp4.c0;have d1:=hp4.c1;have d2:=hp4.c2;have d3:=hp4.c3;go_wp2_with fail
    exact bodyPost_ret (v:=.tuple #[.agg #[.int .i64 (d:Int),.int .i64 (D:Int),.slice aB ly cB,.slice aA lx cA],.bool false,.int .i64 0]) (by simp [results,Tryz.results47,go_sem,d0,d1,d2,d3]) rfl ⟨⟨_,_,rfl,.inr ⟨rfl,d,x,y,⟨by rw [Hle.out];exact hdn,Hbef.out,Hg.out,fun ho=>absurd (Hok1.out.1 ho) (by have:=Hlt.out;omega)⟩,_,_,by rw [HDD.out],(R6B.out.put4 (by omega) _ _ _ _).mono (by omega),(R6A.out.put4 (by omega) _ _ _ _).mono (by omega)⟩⟩,HE6.out.put4 (by omega) _ _ _ _⟩
  ·obtain rfl:d=n:=by omega
   have hik:¬ (d:Int)<(d:Int):=(by omega);have b6:=B3.out.ext hE;have hE6:=Hx.out.trans hE;have c0:=b6.c0;have c1:=b6.c1;have c2:=b6.c2;have c3:=b6.c3;have z0:=b6.fz 0;have z1:=b6.fz 1;have z2:=b6.fz 2;have z3:=b6.fz 3;have B6:=hid b6;have HE6:=hid hE6;clear b6 hE6 hE;have hp4:=B6.out.put (.int .i64 0) (.int .i64 0) (.slice none 0 0) (.slice none 0 0);have d0:=hp4.c0;have d1:=hp4.c1;have d2:=hp4.c2;have d3:=hp4.c3;go_wp2_with fail
   exact bodyPost_ret (v:=.tuple #[zmt,.bool true,.int .i64 0]) (by simp [results,Tryz.results47,go_sem,d0,d1,d2,d3,zmt]) rfl ⟨⟨_,_,rfl,.inl ⟨rfl,rfl,by rw [Hle.out];exact Hbef.out⟩⟩,HE6.out.put4 (by omega) _ _ _ _⟩
theorem znV (v:Value)(p:List Int)(rs:List Qw)(w:World)(he:Env w)(hv:ScV w v p rs)(h:Wc p (rs.map Qw.x)) :
  Calls Tryz.prog 11 #[v] w fun e w'=>zmx p (rs.map Qw.x) 1 w.heap.size e w'∧Ext w w':=by
 have ho:=fun W (hE:Ext w W)=>znU v p rs 1 W (he.ext hE) (hv.ext hE) h;obtain ⟨vp,vn,rfl,hp,hs,hmr⟩:=hv;obtain ⟨ap,cp,rfl,_,_,_⟩:=hp.parts;obtain ⟨an,cn,rfl,_,_,_⟩:=hs.parts;rw [zar] at *;rw [zfz] at *;have hE0:Ext w ((w.alloc (.cells #[.slice ap p.length cp,.slice an rs.length cn] 28)).alloc (.cells #[.int .i64 0,.int .i64 0,.slice none 0 0,.slice none 0 0] 43)):=((Ext.refl w).alloc _).alloc _;have b1:=(zjl.new 28 w (.slice ap p.length cp) (.slice an rs.length cn)).ext ((Ext.refl _).alloc (.cells #[.int .i64 0,.int .i64 0,.slice none 0 0,.slice none 0 0] 43));have b2:=zmu.new 43 (w.alloc (.cells #[.slice ap p.length cp,.slice an rs.length cn] 28)) (.int .i64 0) (.int .i64 0) (.slice none 0 0) (.slice none 0 0);rw [World.size_alloc] at b2;have hsz:((w.alloc (.cells #[.slice ap p.length cp,.slice an rs.length cn] 28)).alloc (.cells #[.int .i64 0,.int .i64 0,.slice none 0 0,.slice none 0 0] 43)).heap.size=w.heap.size+1+1:=by rw [World.size_alloc,World.size_alloc]
 have Ho:=hid ho;have HE0:=hid hE0;have B2:=hid b2;have Hsz:=hid hsz;have q0:=b1.c0;have q1:=b1.c1;clear ho hE0 b1 b2 hp hs hmr he h hsz;go_enter Tryz.func11,Tryz.ntmps11
 go_wp2_with fail
 refine (Ho.out _ HE0.out).mono ?_;rintro e w2 ⟨⟨c,is,rfl,hc⟩,hx2⟩;rw [Hsz.out] at hc;have b6:=B2.out.ext hx2;have hE6:=HE0.out.trans hx2;have c0:=b6.c0;have c1:=b6.c1;have c2:=b6.c2;have c3:=b6.c3;have z0:=b6.fz 0;have z1:=b6.fz 1;have z2:=b6.fz 2;have z3:=b6.fz 3;have B6:=hid b6;have HE6:=hid hE6;clear b6 hE6 hx2 q0 q1;rcases hc with ⟨rfl,rfl,hok⟩ | ⟨rfl,d,x,y,hat,u1,u2,rfl,h1,h2⟩
 ·have hp4:=B6.out.put (.int .i64 0) (.int .i64 0) (.slice none 0 0) (.slice none 0 0);have d0:=hp4.c0;have d1:=hp4.c1;have d2:=hp4.c2;have d3:=hp4.c3;have Hok:=hid hok;clear hok;unfold zmt;go_wp2_with fail
  exact bodyPost_ret (v:=.tuple #[zmt,.bool true,.int .i64 0]) (by simp [results,Tryz.results11,go_sem,d0,d1,d2,d3,zmt]) rfl ⟨⟨_,_,rfl,.inl ⟨rfl,rfl,Hok.out⟩⟩,HE6.out.put4 (by omega) _ _ _ _⟩
 ·obtain ⟨aA,cA,rfl⟩:=zfi h1;obtain ⟨aB,cB,rfl⟩:=zfi h2;generalize x.length=lx at *;generalize y.length=ly at *;generalize hD:((d+1:Nat):Int)=D at *;have HD:=hid hD;clear hD;have hp4:=B6.out.put (.int .i64 (d:Int)) (.int .i64 D) (.slice aA ly cA) (.slice aB lx cB);have d0:=hp4.c0;have d1:=hp4.c1;have d2:=hp4.c2;have d3:=hp4.c3;have H1:=hid h1;have H2:=hid h2;have Hat:=hid hat;clear h1 h2 hat;go_wp2_with fail
  exact bodyPost_ret (v:=.tuple #[.agg #[.int .i64 (d:Int),.int .i64 D,.slice aA ly cA,.slice aB lx cB],.bool false,.int .i64 0]) (by simp [results,Tryz.results11,go_sem,d0,d1,d2,d3]) rfl ⟨⟨_,_,rfl,.inr ⟨rfl,d,x,y,Hat.out,_,_,by rw [HD.out],(H1.out.put4 (by omega) _ _ _ _).mono (by omega),(H2.out.put4 (by omega) _ _ _ _).mono (by omega)⟩⟩,HE6.out.put4 (by omega) _ _ _ _⟩
theorem znW (v:Value)(p:List Int)(rs:List Qw)(w:World)(he:Env w)(hv:ScV w v p rs)(h:Wc p (rs.map Qw.x)) :
  Calls Tryz.prog 111 #[v] w fun e w'=>zmx p (rs.map Qw.x) 0 w.heap.size e w'∧Ext w w':=by
 have ho:=fun W (hE:Ext w W)=>znU v p rs 0 W (he.ext hE) (hv.ext hE) h;obtain ⟨vp,vn,rfl,hp,hs,hmr⟩:=hv;obtain ⟨ap,cp,rfl,_,_,_⟩:=hp.parts;obtain ⟨an,cn,rfl,_,_,_⟩:=hs.parts;rw [zar] at *;rw [zfz] at *;have hE0:Ext w ((w.alloc (.cells #[.slice ap p.length cp,.slice an rs.length cn] 28)).alloc (.cells #[.int .i64 0,.int .i64 0,.slice none 0 0,.slice none 0 0] 43)):=((Ext.refl w).alloc _).alloc _;have b1:=(zjl.new 28 w (.slice ap p.length cp) (.slice an rs.length cn)).ext ((Ext.refl _).alloc (.cells #[.int .i64 0,.int .i64 0,.slice none 0 0,.slice none 0 0] 43));have b2:=zmu.new 43 (w.alloc (.cells #[.slice ap p.length cp,.slice an rs.length cn] 28)) (.int .i64 0) (.int .i64 0) (.slice none 0 0) (.slice none 0 0);rw [World.size_alloc] at b2;have hsz:((w.alloc (.cells #[.slice ap p.length cp,.slice an rs.length cn] 28)).alloc (.cells #[.int .i64 0,.int .i64 0,.slice none 0 0,.slice none 0 0] 43)).heap.size=w.heap.size+1+1:=by rw [World.size_alloc,World.size_alloc]
 have Ho:=hid ho;have HE0:=hid hE0;have B2:=hid b2;have Hsz:=hid hsz;have q0:=b1.c0;have q1:=b1.c1;clear ho hE0 b1 b2 hp hs hmr he h hsz;go_enter Tryz.func111,Tryz.ntmps111
 go_wp2_with fail
 refine (Ho.out _ HE0.out).mono ?_;rintro e w2 ⟨⟨c,is,rfl,hc⟩,hx2⟩;rw [Hsz.out] at hc;have b6:=B2.out.ext hx2;have hE6:=HE0.out.trans hx2;have c0:=b6.c0;have c1:=b6.c1;have c2:=b6.c2;have c3:=b6.c3;have z0:=b6.fz 0;have z1:=b6.fz 1;have z2:=b6.fz 2;have z3:=b6.fz 3;have B6:=hid b6;have HE6:=hid hE6;clear b6 hE6 hx2 q0 q1;rcases hc with ⟨rfl,rfl,hok⟩ | ⟨rfl,d,x,y,hat,u1,u2,rfl,h1,h2⟩
 ·have hp4:=B6.out.put (.int .i64 0) (.int .i64 0) (.slice none 0 0) (.slice none 0 0);have d0:=hp4.c0;have d1:=hp4.c1;have d2:=hp4.c2;have d3:=hp4.c3;have Hok:=hid hok;clear hok;unfold zmt;go_wp2_with fail
  exact bodyPost_ret (v:=.tuple #[zmt,.bool true,.int .i64 0]) (by simp [results,Tryz.results111,go_sem,d0,d1,d2,d3,zmt]) rfl ⟨⟨_,_,rfl,.inl ⟨rfl,rfl,Hok.out⟩⟩,HE6.out.put4 (by omega) _ _ _ _⟩
 ·obtain ⟨aA,cA,rfl⟩:=zfi h1;obtain ⟨aB,cB,rfl⟩:=zfi h2;generalize x.length=lx at *;generalize y.length=ly at *;generalize hD:((d+1:Nat):Int)=D at *;have HD:=hid hD;clear hD;have hp4:=B6.out.put (.int .i64 (d:Int)) (.int .i64 D) (.slice aA ly cA) (.slice aB lx cB);have d0:=hp4.c0;have d1:=hp4.c1;have d2:=hp4.c2;have d3:=hp4.c3;have H1:=hid h1;have H2:=hid h2;have Hat:=hid hat;clear h1 h2 hat;go_wp2_with fail
  exact bodyPost_ret (v:=.tuple #[.agg #[.int .i64 (d:Int),.int .i64 D,.slice aA ly cA,.slice aB lx cB],.bool false,.int .i64 0]) (by simp [results,Tryz.results111,go_sem,d0,d1,d2,d3]) rfl ⟨⟨_,_,rfl,.inr ⟨rfl,d,x,y,Hat.out,_,_,by rw [HD.out],(H1.out.put4 (by omega) _ _ _ _).mono (by omega),(H2.out.put4 (by omega) _ _ _ _).mono (by omega)⟩⟩,HE6.out.put4 (by omega) _ _ _ _⟩
end
end Go.Proofs.YtebabancfnmfjaaGreatDoor
