/- Walks: class.Kind. Walks: class.ordered, Proper, Strict. Walks: class.Constant. -/
import Derived.Test.YtebabancfnmfjaaGreatDoorPm30
import Derived.Test.YtebabancfnmfjaaGreatDoorPm27
import Derived.Test.YtebabancfnmfjaaGreatDoorPm19
import Derived.Test.YtebabancfnmfjaaGreatDoorPm08
set_option maxRecDepth 100000
set_option maxHeartbeats 1600000
namespace Go.Proofs.YtebabancfnmfjaaGreatDoor
open Go.RowKit Go.Lib Go.Shelf
attribute [local go_sem] Oper.semAt_some
theorem Sl.sub {w:World}{g o k c:Nat}{xs:List Value}(h:Sl w (.slice (some ⟨g,o,none⟩) k c) xs){a b:Nat}(ha:a≤b)(hb:b≤xs.length):Sl w (.slice (some ⟨g,o+a,none⟩) (b - a) (c - a)) ((xs.take b).drop a):=by
 have hl:((xs.take b).drop a).length=b - a:=by rw [List.length_drop,List.length_take];omega
 rcases h with ⟨a',cap,e,h1,rfl⟩ | ⟨b',off,cap,e,h1,h2,hc⟩
 ·injection e with e1 e2 e3;have hb0:b=0:=by simpa using hb
  subst hb0;have ha0:a=0:=by omega
  subst ha0;exact .inl ⟨_,_,rfl,by omega,by simp⟩
 ·injection e with e1 e2 e3;injection e1 with e1;injection e1 with e4 e5;subst e4 e5 e2 e3;refine .inr ⟨g,o+a,c - a,by rw [hl],by rw [hl];omega,by omega,fun i u hu=>?_⟩;rw [List.getElem?_drop] at hu;have hi:a+i<b:=by
   have:=(List.getElem?_eq_some_iff.1 hu).1;rw [List.length_take] at this;omega
  rw [List.getElem?_take_of_lt hi] at hu;have:=hc (a+i) u hu;rw [Nat.add_assoc];exact this
theorem znG (a:Option Addr)(n c:Nat)(W:World):Calls Tryz.prog 46 #[.slice a n c] W fun e w'=>e=.returned (.bool (decide ((2:Int)<(n:Int))))∧Ext W w':=by
 go_enter Tryz.func46,Tryz.ntmps46
 go_wp2
 go_ret
 exact ⟨rfl,Ext.refl _⟩
theorem znH (p:List Int)(N:List (List Rat)):kd p N=if (cls p N 1).length=1 then 1 else if 2<(cls p N 1).length∨((List.range (N.length - 1)).any fun (d:Nat)=>decide (2<(cls p N ((d+1:Nat):Int)).length))=true then 3 else 2:=rfl
theorem znI {p:List Int}{N:List (List Rat)}{ls:List Lq}(hx:lqx ls=zmw p N) :
  ((ls.take N.length).drop 1).any (fun l=>decide ((2:Int)<(l.rs.length:Int)))=(List.range (N.length - 1)).any fun (d:Nat)=>decide (2<(cls p N ((d+1:Nat):Int)).length):=by
 have h1:(((zmw p N).take N.length).drop 1)=(List.range (N.length - 1)).map fun (d:Nat)=>cls p N ((d+1:Nat):Int):=by
  refine List.ext_getElem? fun i=>?_;rw [List.getElem?_drop];by_cases hi:i<N.length - 1
  ·rw [List.getElem?_take_of_lt (by omega),List.getElem?_map,List.getElem?_range hi,Nat.add_comm 1 i];unfold zmw;rw [List.getElem?_map,List.getElem?_range (by omega)];rfl
  ·rw [List.getElem?_eq_none (by rw [List.length_take];omega),List.getElem?_eq_none (by rw [List.length_map,List.length_range];omega)]
 have h2:((List.range (N.length - 1)).map fun (d:Nat)=>cls p N ((d+1:Nat):Int)).any (fun c=>decide (2<c.length))=(List.range (N.length - 1)).any fun (d:Nat)=>decide (2<(cls p N ((d+1:Nat):Int)).length):=by
  rw [List.any_map];rfl
 rw [← h2,← h1,← hx];unfold lqx;rw [← List.map_take,← List.map_drop,List.any_map];congr 1;funext l;show _=decide (2<(l.rs.map Qw.x).length);rw [List.length_map];exact decide_eq_decide.2 (by omega)
theorem znJ (v:Value)(p:List Int)(rs:List Qw)(w:World)(he:Env w)(hv:ScV w v p rs)(h:Wc p (rs.map Qw.x)) :
  Calls Tryz.prog 10 #[v] w fun e w'=>e=.returned (.tuple #[.int .i64 (kd p (rs.map Qw.x)),.int .i64 0])∧Ext w w':=by
 have hop:=fun W (hE:Ext w W)=>zm3 v p rs W (he.ext hE) (hv.ext hE) h;have hL:(rs.map Qw.x).length=rs.length:=List.length_map ..;have hfew:=h.few;have hpos:=h.wd.pos;rw [hL] at hfew hpos;have hat:=fun W B vv ls (hq:LqM W B B vv ls)(hx:lqx ls=zmw p (rs.map Qw.x))(d:Nat)(hd:d≤rs.length)=>znB hq hx (d:=d) (by rw [hL];exact hd);have hcs:(zmw p (rs.map Qw.x)).length=rs.length+1:=by rw [zmx,hL]
 have hmid:=fun ls (hx:lqx ls=zmw p (rs.map Qw.x))=>znI hx;have hcp:=h.cls_pos 1;have hkd:=znH p (rs.map Qw.x);rw [hL] at hmid hkd;have hkc:=fun W vv (ls:List Lq)(hv:Sl W vv (lqc ls))(hl:ls.length≤1000)(hs:∀ r∈ls,∃ a c,r.u=.slice a r.rs.length c) =>
  znF 46 #[] vv ls (fun l=>decide ((2:Int)<(l.rs.length:Int))) W hv hl (fun _ _=>rfl) fun W' _ r hr=>by
   obtain ⟨a,c,e⟩:=hs r hr;rw [e];exact znG a r.rs.length c W'
 obtain ⟨vp,vn,rfl,hp,hs,hmr⟩:=hv;obtain ⟨ap,cp,rfl,_,_,_⟩:=hp.parts;obtain ⟨an,cn,rfl,_,_,_⟩:=hs.parts;rw [zas] at *;rw [zf0] at *;generalize rs.length=n at *;generalize kd p (rs.map Qw.x)=kk at *;have hE0:Ext w (w.alloc (.cells #[.slice ap p.length cp,.slice an n cn] 28)):=(Ext.refl w).alloc _;have b1:=zic.new 28 w (.slice ap p.length cp) (.slice an n cn);have Hop:=hid hop;have Hat:=hid hat;have HE0:=hid hE0;have Hcs:=hid hcs;have Hmid:=hid hmid;have Hkd:=hid hkd;have Hkc:=hid hkc;have q0:=b1.c0;have q1:=b1.c1;clear hop hat hE0 hcs hmid hkd hkc b1 hp hs hmr he h hL;go_enter Tryz.func10,Tryz.ntmps10
 go_wp2_with fail
 refine (Hop.out _ HE0.out).mono ?_;rintro e w2 ⟨u,v4,ls,rfl,hu,hq,hm,hx2⟩;have hll:ls.length=n+1:=by
  have:=congrArg List.length hm;unfold lqx at this;rwa [List.length_map,Hcs.out] at this
 have hq1:=hq.1;obtain ⟨g,cap,rfl,hcell⟩:=zfn hq1 (by omega);have hcap:n+1≤cap∧cap≤maxLen:=by
  rcases hq1.2 with ⟨e,_⟩ | ⟨g',cap',cur,e,_,_,k1,k2,_⟩
  ·cases e
  ·injection e with _ _ e3;rw [e3,← hll];exact ⟨k1,k2⟩
 rw [hll] at hq1 ⊢;have hx:=HE0.out.trans hx2;obtain ⟨a5,c5,hc5⟩:∃ a c,w2.cell? ⟨g,1,none⟩=some (.slice a (cls p (rs.map Qw.x) 1).length c):=by
  obtain ⟨l,a,c,h1,h2,_,_⟩:=Hat.out w2 _ _ ls hq hm 1 (by omega);exact ⟨a,c,hcell 1 _ (by unfold lqc;rw [List.getElem?_map,h1];exact congrArg some h2)⟩
 have hmi:=Hmid.out ls hm;have hsl:Sl w2 (.slice (some ⟨g,0+1,none⟩) (n - 1) (cap - 1)) (lqc ((ls.take n).drop 1)):=by
  have h1:=(zao hq1).sub (a:=1) (b:=n) (by omega) (by rw [znC,hll];omega);unfold lqc at h1 ⊢;rw [List.map_drop,List.map_take];exact h1
 have hcon:=fun W (hE:Ext w2 W)=>Hkc.out W _ ((ls.take n).drop 1) (hE.sl hsl) (by rw [List.length_drop,List.length_take];omega) fun r hr=>by
  have:=(hq.2 r (List.mem_of_mem_take (List.mem_of_mem_drop hr))).1;exact zfj this
 simp only [hmi,Nat.zero_add] at hcon;have hkk:=Hkd.out;generalize hb:((List.range (n - 1)).any fun (d:Nat)=>decide (2<(cls p (rs.map Qw.x) ((d+1:Nat):Int)).length))=bb at *;generalize hz:(cls p (rs.map Qw.x) 1).length=z at *;have hw1:IntKind.i64.wrap (((n+1:Nat):Int) - 1)=(n:Int):=by rw [IntWalk.i64_in _ (by omega)];omega
 have Hx:=hid hx;have Hcon:=hid hcon;have Hkk:=hid hkk;clear hx hcon hq hm hu hx2 q0 q1 hq1 hll hcell hsl hmi hb hkk hz;rcases Nat.lt_trichotomy z 2 with hz | rfl | hz
 ·obtain rfl:z=1:=by omega
  clear hcp hz;go_wp2_with fail
  exact bodyPost_ret (v:=.tuple #[.int .i64 1,.int .i64 0]) (by simp [results,Tryz.results10,go_sem]) rfl ⟨by rw [Hkk.out];rfl,Hx.out⟩
 ·go_wp2_with fail
  refine (Hcon.out _ (Ext.refl _)).mono ?_;rintro e w5 ⟨rfl,hx5⟩;have Hx5:=hid (Hx.out.trans hx5);clear hx5
  cases bb with
  | true =>
   go_wp2_with fail
   exact bodyPost_ret (v:=.tuple #[.int .i64 3,.int .i64 0]) (by simp [results,Tryz.results10,go_sem]) rfl ⟨by rw [Hkk.out];rfl,Hx5.out⟩
  | false =>
   go_wp2_with fail
   exact bodyPost_ret (v:=.tuple #[.int .i64 2,.int .i64 0]) (by simp [results,Tryz.results10,go_sem]) rfl ⟨by rw [Hkk.out];rfl,Hx5.out⟩
 ·have hz1:¬ (z:Int)=1:=by omega
  have hz2:(2:Int)<(z:Int):=by omega
  go_wp2_with fail
  exact bodyPost_ret (v:=.tuple #[.int .i64 3,.int .i64 0]) (by simp [results,Tryz.results10,go_sem]) rfl ⟨by rw [Hkk.out,if_neg (by omega),if_pos (Or.inl hz)],Hx.out⟩
theorem znK {w:World}{p:List Int}{N:List (List Rat)}{d i:Nat}{x:List Rat}{a:Option Addr}{c B:Nat}{rs:List Qw}(hq:QwM w B B (.slice a (cls p N (d:Int)).length c) rs)(hm:rs.map Qw.x=cls p N (d:Int))(hx:(cls p N (d:Int))[i]?=some x) :
  ∃ g u,a=some ⟨g,0,none⟩∧w.cell? ⟨g,i,none⟩=some u∧zfx w B u x:=by
 rw [← hm,List.getElem?_map] at hx;obtain ⟨r,hr,e⟩:=Option.map_eq_some_iff.1 hx;have hl:rs.length=(cls p N (d:Int)).length:=by rw [← hm,List.length_map]
 have hi:=(List.getElem?_eq_some_iff.1 hr).1;obtain ⟨g,cap,e2,hcell⟩:=zfn hq.1 (by omega);injection e2 with e3 e4 e5;exact ⟨g,r.u,e3,hcell i r.u (by unfold qwc;rw [List.getElem?_map,hr];rfl),by rw [← e];exact hq.2 r (List.mem_of_getElem? hr)⟩
theorem znL (v:Value)(p:List Int)(rs:List Qw)(most:Int)(w:World)(he:Env w)(hv:ScV w v p rs)(h:Wc p (rs.map Qw.x)) :
  Calls Tryz.prog 47 #[v,.int .i64 most] w fun e w'=>zmE p (rs.map Qw.x) most w.heap.size e w'∧Ext w w':=by
 have hop:=fun W (hE:Ext w W)=>zm3 v p rs W (he.ext hE) (hv.ext hE) h;have hL:(rs.map Qw.x).length=rs.length:=List.length_map ..;have hfew:=h.few;have hpos:=h.wd.pos;rw [hL] at hfew hpos;have hat:=fun W B vv ls (hq:LqM W B B vv ls)(hx:lqx ls=zmw p (rs.map Qw.x))(d:Nat)(hd:d≤rs.length)=>znB hq hx (d:=d) (by rw [hL];exact hd);have hcs:(zmw p (rs.map Qw.x)).length=rs.length+1:=by rw [zmx,hL]
 have hgl:=fun d=>h.gl (d:=d);have hcp:=fun (d:Nat)=>h.cls_pos (d:Int);have hcl:=fun (d:Nat)=>(zlv (p:=p) (N:=rs.map Qw.x) (d:=(d:Int)));rw [hL] at hcl;have hcmp:=fun W (hE:Ext w W) u (hu:Vw W u p rs) va vb x y (d:Nat)(hd:d<rs.length)(hg:Gl p (rs.map Qw.x) d x y)(ha:Rd W va x)(hb:Rd W vb y)=>show Calls Tryz.prog 101 #[u,va,vb] W fun e w'=>e=.returned (.int .i64 (sgQ (sF p (zex x y))))∧Ext W w' by
  obtain ⟨i,e1⟩:=h.cls_mem.1 (List.mem_of_getElem? hg.1);obtain ⟨j,e2⟩:=h.cls_mem.1 (List.mem_of_getElem? hg.2);have hll:=h.gl_len hg;have hvc:=zlC u va vb p rs x y W (he.ext hE) hu h.wd.pr ha hb hll.1 hll.2 (by rw [e1];exact (h.iv_quick (by omega) (by rw [hL];omega)).1) (by rw [e2];exact (h.iv_quick (by omega) (by rw [hL];omega)).1) (by rw [e1,e2];exact h.iv_sub_quick (by omega) (by rw [hL];omega) (by omega) (by rw [hL];omega));rw [show ze6 (tms p (dn (zex x y)) (zex x y))=sgQ (sF p (zex x y)) by rw [zez _ _ _ (by rw [hll.1,hll.2]),e1,e2,h.iv_sgn]] at hvc;exact hvc
 have hok:=fun (d:Nat) x y (hg:Gl p (rs.map Qw.x) d x y)=>show zm5 p (rs.map Qw.x) most d ↔ sgQ (sF p (zex x y))<most from ⟨fun ho=>ho x y hg,fun hs x' y' hg'=>by rw [(hg'.uniq hg).1,(hg'.uniq hg).2];exact hs⟩;obtain ⟨vp,vn,rfl,hp,hs,hmr⟩:=hv;obtain ⟨ap,cp,rfl,_,_,_⟩:=hp.parts;obtain ⟨an,cn,rfl,_,_,_⟩:=hs.parts;rw [zas] at *;rw [zf0] at *;have hle:(rs.map Qw.x).length=rs.length:=hL;generalize rs.length=n at *;have hE0:Ext w ((w.alloc (.cells #[.slice ap p.length cp,.slice an n cn] 28)).alloc (.cells #[.int .i64 0,.int .i64 0,.slice none 0 0,.slice none 0 0] 43)):=((Ext.refl w).alloc _).alloc _;have b1:=(zic.new 28 w (.slice ap p.length cp) (.slice an n cn)).ext ((Ext.refl _).alloc (.cells #[.int .i64 0,.int .i64 0,.slice none 0 0,.slice none 0 0] 43));have b2:=zmB.new 43 (w.alloc (.cells #[.slice ap p.length cp,.slice an n cn] 28)) (.int .i64 0) (.int .i64 0) (.slice none 0 0) (.slice none 0 0);rw [World.size_alloc] at b2;have Hop:=hid hop;have Hat:=hid hat;have HE0:=hid hE0;have Hcs:=hid hcs;have Hgl:=hid hgl;have Hcp:=hid hcp;have Hcl:=hid hcl;have Hcmp:=hid hcmp;have Hok:=hid hok;have B2:=hid b2;have Hle:=hid hle;have q0:=b1.c0;have q1:=b1.c1;clear hop hat hE0 hcs hgl hcp hcl hcmp hok b1 b2 hp hs hmr he h hL hle;go_enter Tryz.func47,Tryz.ntmps47
 go_wp2_with fail
 refine (Hop.out _ HE0.out).mono ?_;rintro e w2 ⟨u,v4,ls,rfl,hu,hq,hm,hx2⟩;have hll:ls.length=n+1:=by
  have:=congrArg List.length hm;unfold lqx at this;rwa [List.length_map,Hcs.out] at this
 rw [World.size_alloc,World.size_alloc] at hq;have hq1:=hq.1;obtain ⟨g,cap,rfl,hcell⟩:=zfn hq1 (by omega);rw [hll] at hq1 ⊢;have hx:=HE0.out.trans hx2;have b3:=B2.out.ext hx2;have hcc:∀ d:Nat,d≤n→∃ a c,w2.cell? ⟨g,d,none⟩=some (.slice a (cls p (rs.map Qw.x) (d:Int)).length c)∧∀ i x,(cls p (rs.map Qw.x) (d:Int))[i]?=some x→∃ g5 u,a=some ⟨g5,0,none⟩∧w2.cell? ⟨g5,i,none⟩=some u∧zfx w2 (w.heap.size+1+1) u x:=fun d hd=>by
  obtain ⟨l,a,c,h1,h2,h3,h4⟩:=Hat.out w2 _ _ ls hq hm d hd;exact ⟨a,c,hcell d _ (by unfold lqc;rw [List.getElem?_map,h1,← h2];rfl),fun i x hx=>znK h3 h4 hx⟩
 obtain ⟨bv,uv1,uv2,uv3,nts,rfl,hrest⟩:=hu;have hw1:IntKind.i64.wrap (((n+1:Nat):Int) - 1)=(n:Int):=by rw [IntWalk.i64_in _ (by omega)];omega
 have Hx:=hid hx;have Hcc:=hid hcc;have Hr:=hid hrest;have B3:=hid b3;clear hx hcc hq hm hrest hx2 q0 q1 hq1 hll hcell b3;go_wp2_with fail
 go_loopw [25] (fun v25 wr=>∃ d:Nat,v25=.int .i64 (d:Int)∧d≤n∧(∀ d':Nat,d'<d→zm5 p (rs.map Qw.x) most d')∧Ext w2 wr) (fun v25 _=>n+1 - (zam v25).toNat)
 case atStart=>exact ⟨0,rfl,Nat.zero_le _,fun _ h=>absurd h (Nat.not_lt_zero _),Ext.refl _⟩
 case round =>
  obtain ⟨d,rfl,hd,hbef,hE⟩:=hrel;have Hbef:=hid hbef;clear hbef;by_cases hdn:d<n
  ·have hik:(d:Int)<(n:Int):=(by omega);obtain ⟨x,y,hg⟩:=Hgl.out d;obtain ⟨a1,c1,k1,g1⟩:=Hcc.out d hd;obtain ⟨a2,c2,k2,g2⟩:=Hcc.out (d+1) (by omega);obtain ⟨gA,uA,rfl,kA,rA⟩:=g1 _ x hg.1;obtain ⟨gB,uB,rfl,kB,rB⟩:=g2 0 y hg.2;have hz1:=Hcp.out d;have hz2:=Hcp.out (d+1);have hl1:=Hcl.out d;have hl2:=Hcl.out (d+1);have hok:=Hok.out d x y hg;have hcmp:=fun W (hE:Ext w W) u hu ha hb=>Hcmp.out W hE u hu uA uB x y d hdn hg ha hb;generalize (cls p (rs.map Qw.x) (d:Int)).length=z1 at *;generalize (cls p (rs.map Qw.x) ((d+1:Nat):Int)).length=z2 at *;obtain ⟨m1,rfl⟩:∃ m,z1=m+1:=⟨z1 - 1,by omega⟩;rw [Nat.add_sub_cancel] at kA;obtain ⟨D,hD⟩:∃ D:Nat,D=d+1:=⟨_,rfl⟩;rw [← hD] at k2;have e1:IntKind.i64.wrap (((m1+1:Nat):Int) - 1)=(m1:Int):=(by rw [IntWalk.i64_in _ (by omega)];omega);have e2:IntKind.i64.wrap ((d:Int)+1)=(D:Int):=(by rw [IntWalk.i64_in _ (by omega)];omega);have i1:(d:Int)<((n+1:Nat):Int):=(by omega);have i2:(D:Int)<((n+1:Nat):Int):=(by omega);have i3:(m1:Int)<((m1+1:Nat):Int):=(by omega);have i4:(0:Int)<(z2:Int):=(by omega);have j1:(d:Int)<(n:Int)+1:=(by omega);have j2:(D:Int)<(n:Int)+1:=(by omega);have j3:(m1:Int)<(m1:Int)+1:=(by omega);have j4:0<z2:=(by omega);have e4:IntKind.i64.wrap (m1:Int)=(m1:Int):=IntWalk.i64_in _ (by omega);have e3:IntKind.i64.wrap ((m1:Int)+1 - 1)=(m1:Int):=(by rw [IntWalk.i64_in _ (by omega)];omega);have i5:(0:Int)≤(d:Int):=(by omega);have i6:(0:Int)≤(D:Int):=(by omega);have i7:(0:Int)≤(m1:Int):=(by omega);have k1':=hE.cell k1;have k2':=hE.cell k2;have kA':=hE.cell kA;have kB':=hE.cell kB;have HE:=hid hE;have Hg:=hid hg;have RA:=hid rA;have RB:=hid rB;have Hok1:=hid hok;have Hc1:=hid hcmp;have HDD:=hid hD;clear hE hg rA rB hok hcmp k1 k2 kA kB g1 g2 hD hz1 hz2 hl1 hl2;obtain ⟨aA,cA,rfl⟩:=zfj RA.out;obtain ⟨aB,cB,rfl⟩:=zfj RB.out;generalize x.length=lx at *;generalize y.length=ly at *;go_wp2
   go_quiet (fail)
   have hEn:=HE.out.drewN nq;generalize wr.drewN nq=W5 at *;have hc:=Hc1.out W5 (Hx.out.trans hEn) _ (Vw.ext ⟨bv,uv1,uv2,uv3,nts,rfl,Hr.out⟩ hEn) (hEn.rd RA.out.rd) (hEn.rd RB.out.rd);have hb5:=B3.out.ext hEn;have Hc:=hid hc;have HEn:=hid hEn;have B5:=hid hb5;clear hc hEn hb5 k1' k2' kA' kB' i1 i2 i3 i4 i7 e1;generalize hsg:sgQ (sF p (zex x y))=sg at *;by_cases hlt:sg<most
   ·have hge:¬ most≤sg:=(by omega);have Hlt:=hid hlt;clear hlt;go_wp2_with fail
    refine Hc.out.mono ?_;rintro e w6 ⟨rfl,hx6⟩;have HE6:=hid (HEn.out.trans hx6);clear hx6;go_wp2_with fail
    go_roundw
    case rel=>exact ⟨D,by go_num,by have:=HDD.out;omega,fun d' h'=>by
     have:=HDD.out;rcases Nat.lt_or_ge d' d with g | g
     ·exact Hbef.out d' g
     ·obtain rfl:d'=d:=by omega
      exact Hok1.out.2 Hlt.out,HE6.out⟩
    case measure=>have:=HDD.out;simp [zam];omega
   ·have hge:most≤sg:=(by omega);have Hlt:=hid hlt;clear hlt;go_wp2_with fail
    refine Hc.out.mono ?_;rintro e w6 ⟨rfl,hx6⟩;have b6:=B5.out.ext hx6;have hE6:=Hx.out.trans (HEn.out.trans hx6);have r6A:=(HEn.out.trans hx6).ownQ RA.out;have r6B:=(HEn.out.trans hx6).ownQ RB.out;have c0:=b6.c0;have c1:=b6.c1;have c2:=b6.c2;have c3:=b6.c3;have z0:=b6.fz 0;have z1:=b6.fz 1;have z2:=b6.fz 2;have z3:=b6.fz 3;have B6:=hid b6;have HE6:=hid hE6;have R6A:=hid r6A;have R6B:=hid r6B;clear b6 hE6 r6A r6B hx6;have hp4:=B6.out.put (.int .i64 (d:Int)) (.int .i64 (D:Int)) (.slice aB ly cB) (.slice aA lx cA);have d0:=hp4.c0;have d1:=hp4.c1;have d2:=hp4.c2;have d3:=hp4.c3;go_wp2_with fail
    exact bodyPost_ret (v:=.tuple #[.agg #[.int .i64 (d:Int),.int .i64 (D:Int),.slice aB ly cB,.slice aA lx cA],.bool false,.int .i64 0]) (by simp [results,Tryz.results47,go_sem,d0,d1,d2,d3]) rfl ⟨⟨_,_,rfl,.inr ⟨rfl,d,x,y,⟨by rw [Hle.out];exact hdn,Hbef.out,Hg.out,fun ho=>absurd (Hok1.out.1 ho) (by have:=Hlt.out;omega)⟩,_,_,by rw [HDD.out],(R6B.out.put4 (by omega) _ _ _ _).mono (by omega),(R6A.out.put4 (by omega) _ _ _ _).mono (by omega)⟩⟩,HE6.out.put4 (by omega) _ _ _ _⟩
  ·obtain rfl:d=n:=by omega
   have hik:¬ (d:Int)<(d:Int):=(by omega);have b6:=B3.out.ext hE;have hE6:=Hx.out.trans hE;have c0:=b6.c0;have c1:=b6.c1;have c2:=b6.c2;have c3:=b6.c3;have z0:=b6.fz 0;have z1:=b6.fz 1;have z2:=b6.fz 2;have z3:=b6.fz 3;have B6:=hid b6;have HE6:=hid hE6;clear b6 hE6 hE;have hp4:=B6.out.put (.int .i64 0) (.int .i64 0) (.slice none 0 0) (.slice none 0 0);have d0:=hp4.c0;have d1:=hp4.c1;have d2:=hp4.c2;have d3:=hp4.c3;go_wp2_with fail
   exact bodyPost_ret (v:=.tuple #[zmA,.bool true,.int .i64 0]) (by simp [results,Tryz.results47,go_sem,d0,d1,d2,d3,zmA]) rfl ⟨⟨_,_,rfl,.inl ⟨rfl,rfl,by rw [Hle.out];exact Hbef.out⟩⟩,HE6.out.put4 (by omega) _ _ _ _⟩
theorem znM (v:Value)(p:List Int)(rs:List Qw)(w:World)(he:Env w)(hv:ScV w v p rs)(h:Wc p (rs.map Qw.x)) :
  Calls Tryz.prog 11 #[v] w fun e w'=>zmE p (rs.map Qw.x) 1 w.heap.size e w'∧Ext w w':=by
 have ho:=fun W (hE:Ext w W)=>znL v p rs 1 W (he.ext hE) (hv.ext hE) h;obtain ⟨vp,vn,rfl,hp,hs,hmr⟩:=hv;obtain ⟨ap,cp,rfl,_,_,_⟩:=hp.parts;obtain ⟨an,cn,rfl,_,_,_⟩:=hs.parts;rw [zas] at *;rw [zf0] at *;have hE0:Ext w ((w.alloc (.cells #[.slice ap p.length cp,.slice an rs.length cn] 28)).alloc (.cells #[.int .i64 0,.int .i64 0,.slice none 0 0,.slice none 0 0] 43)):=((Ext.refl w).alloc _).alloc _;have b1:=(zic.new 28 w (.slice ap p.length cp) (.slice an rs.length cn)).ext ((Ext.refl _).alloc (.cells #[.int .i64 0,.int .i64 0,.slice none 0 0,.slice none 0 0] 43));have b2:=zmB.new 43 (w.alloc (.cells #[.slice ap p.length cp,.slice an rs.length cn] 28)) (.int .i64 0) (.int .i64 0) (.slice none 0 0) (.slice none 0 0);rw [World.size_alloc] at b2;have hsz:((w.alloc (.cells #[.slice ap p.length cp,.slice an rs.length cn] 28)).alloc (.cells #[.int .i64 0,.int .i64 0,.slice none 0 0,.slice none 0 0] 43)).heap.size=w.heap.size+1+1:=by rw [World.size_alloc,World.size_alloc]
 have Ho:=hid ho;have HE0:=hid hE0;have B2:=hid b2;have Hsz:=hid hsz;have q0:=b1.c0;have q1:=b1.c1;clear ho hE0 b1 b2 hp hs hmr he h hsz;go_enter Tryz.func11,Tryz.ntmps11
 go_wp2_with fail
 refine (Ho.out _ HE0.out).mono ?_;rintro e w2 ⟨⟨c,is,rfl,hc⟩,hx2⟩;rw [Hsz.out] at hc;have b6:=B2.out.ext hx2;have hE6:=HE0.out.trans hx2;have c0:=b6.c0;have c1:=b6.c1;have c2:=b6.c2;have c3:=b6.c3;have z0:=b6.fz 0;have z1:=b6.fz 1;have z2:=b6.fz 2;have z3:=b6.fz 3;have B6:=hid b6;have HE6:=hid hE6;clear b6 hE6 hx2 q0 q1;rcases hc with ⟨rfl,rfl,hok⟩ | ⟨rfl,d,x,y,hat,u1,u2,rfl,h1,h2⟩
 ·have hp4:=B6.out.put (.int .i64 0) (.int .i64 0) (.slice none 0 0) (.slice none 0 0);have d0:=hp4.c0;have d1:=hp4.c1;have d2:=hp4.c2;have d3:=hp4.c3;have Hok:=hid hok;clear hok;unfold zmA;go_wp2_with fail
  exact bodyPost_ret (v:=.tuple #[zmA,.bool true,.int .i64 0]) (by simp [results,Tryz.results11,go_sem,d0,d1,d2,d3,zmA]) rfl ⟨⟨_,_,rfl,.inl ⟨rfl,rfl,Hok.out⟩⟩,HE6.out.put4 (by omega) _ _ _ _⟩
 ·obtain ⟨aA,cA,rfl⟩:=zfj h1;obtain ⟨aB,cB,rfl⟩:=zfj h2;generalize x.length=lx at *;generalize y.length=ly at *;generalize hD:((d+1:Nat):Int)=D at *;have HD:=hid hD;clear hD;have hp4:=B6.out.put (.int .i64 (d:Int)) (.int .i64 D) (.slice aA ly cA) (.slice aB lx cB);have d0:=hp4.c0;have d1:=hp4.c1;have d2:=hp4.c2;have d3:=hp4.c3;have H1:=hid h1;have H2:=hid h2;have Hat:=hid hat;clear h1 h2 hat;go_wp2_with fail
  exact bodyPost_ret (v:=.tuple #[.agg #[.int .i64 (d:Int),.int .i64 D,.slice aA ly cA,.slice aB lx cB],.bool false,.int .i64 0]) (by simp [results,Tryz.results11,go_sem,d0,d1,d2,d3]) rfl ⟨⟨_,_,rfl,.inr ⟨rfl,d,x,y,Hat.out,_,_,by rw [HD.out],(H1.out.put4 (by omega) _ _ _ _).mono (by omega),(H2.out.put4 (by omega) _ _ _ _).mono (by omega)⟩⟩,HE6.out.put4 (by omega) _ _ _ _⟩
theorem znN (v:Value)(p:List Int)(rs:List Qw)(w:World)(he:Env w)(hv:ScV w v p rs)(h:Wc p (rs.map Qw.x)) :
  Calls Tryz.prog 111 #[v] w fun e w'=>zmE p (rs.map Qw.x) 0 w.heap.size e w'∧Ext w w':=by
 have ho:=fun W (hE:Ext w W)=>znL v p rs 0 W (he.ext hE) (hv.ext hE) h;obtain ⟨vp,vn,rfl,hp,hs,hmr⟩:=hv;obtain ⟨ap,cp,rfl,_,_,_⟩:=hp.parts;obtain ⟨an,cn,rfl,_,_,_⟩:=hs.parts;rw [zas] at *;rw [zf0] at *;have hE0:Ext w ((w.alloc (.cells #[.slice ap p.length cp,.slice an rs.length cn] 28)).alloc (.cells #[.int .i64 0,.int .i64 0,.slice none 0 0,.slice none 0 0] 43)):=((Ext.refl w).alloc _).alloc _;have b1:=(zic.new 28 w (.slice ap p.length cp) (.slice an rs.length cn)).ext ((Ext.refl _).alloc (.cells #[.int .i64 0,.int .i64 0,.slice none 0 0,.slice none 0 0] 43));have b2:=zmB.new 43 (w.alloc (.cells #[.slice ap p.length cp,.slice an rs.length cn] 28)) (.int .i64 0) (.int .i64 0) (.slice none 0 0) (.slice none 0 0);rw [World.size_alloc] at b2;have hsz:((w.alloc (.cells #[.slice ap p.length cp,.slice an rs.length cn] 28)).alloc (.cells #[.int .i64 0,.int .i64 0,.slice none 0 0,.slice none 0 0] 43)).heap.size=w.heap.size+1+1:=by rw [World.size_alloc,World.size_alloc]
 have Ho:=hid ho;have HE0:=hid hE0;have B2:=hid b2;have Hsz:=hid hsz;have q0:=b1.c0;have q1:=b1.c1;clear ho hE0 b1 b2 hp hs hmr he h hsz;go_enter Tryz.func111,Tryz.ntmps111
 go_wp2_with fail
 refine (Ho.out _ HE0.out).mono ?_;rintro e w2 ⟨⟨c,is,rfl,hc⟩,hx2⟩;rw [Hsz.out] at hc;have b6:=B2.out.ext hx2;have hE6:=HE0.out.trans hx2;have c0:=b6.c0;have c1:=b6.c1;have c2:=b6.c2;have c3:=b6.c3;have z0:=b6.fz 0;have z1:=b6.fz 1;have z2:=b6.fz 2;have z3:=b6.fz 3;have B6:=hid b6;have HE6:=hid hE6;clear b6 hE6 hx2 q0 q1;rcases hc with ⟨rfl,rfl,hok⟩ | ⟨rfl,d,x,y,hat,u1,u2,rfl,h1,h2⟩
 ·have hp4:=B6.out.put (.int .i64 0) (.int .i64 0) (.slice none 0 0) (.slice none 0 0);have d0:=hp4.c0;have d1:=hp4.c1;have d2:=hp4.c2;have d3:=hp4.c3;have Hok:=hid hok;clear hok;unfold zmA;go_wp2_with fail
  exact bodyPost_ret (v:=.tuple #[zmA,.bool true,.int .i64 0]) (by simp [results,Tryz.results111,go_sem,d0,d1,d2,d3,zmA]) rfl ⟨⟨_,_,rfl,.inl ⟨rfl,rfl,Hok.out⟩⟩,HE6.out.put4 (by omega) _ _ _ _⟩
 ·obtain ⟨aA,cA,rfl⟩:=zfj h1;obtain ⟨aB,cB,rfl⟩:=zfj h2;generalize x.length=lx at *;generalize y.length=ly at *;generalize hD:((d+1:Nat):Int)=D at *;have HD:=hid hD;clear hD;have hp4:=B6.out.put (.int .i64 (d:Int)) (.int .i64 D) (.slice aA ly cA) (.slice aB lx cB);have d0:=hp4.c0;have d1:=hp4.c1;have d2:=hp4.c2;have d3:=hp4.c3;have H1:=hid h1;have H2:=hid h2;have Hat:=hid hat;clear h1 h2 hat;go_wp2_with fail
  exact bodyPost_ret (v:=.tuple #[.agg #[.int .i64 (d:Int),.int .i64 D,.slice aA ly cA,.slice aB lx cB],.bool false,.int .i64 0]) (by simp [results,Tryz.results111,go_sem,d0,d1,d2,d3]) rfl ⟨⟨_,_,rfl,.inr ⟨rfl,d,x,y,Hat.out,_,_,by rw [HD.out],(H1.out.put4 (by omega) _ _ _ _).mono (by omega),(H2.out.put4 (by omega) _ _ _ _).mono (by omega)⟩⟩,HE6.out.put4 (by omega) _ _ _ _⟩
theorem znO (b:Nat)(uX uY:Value)(x y:List Rat)(W:World)(hb:W.cell? ⟨b,0,none⟩=some uX)(hx:Rd W uX x)(hy:Rd W uY y)(lx:x.length≤1000)(ly:y.length≤1000) :
  Calls Tryz.prog 172 #[uY,.pointer (some ⟨b,0,none⟩)] W fun e w'=>e=.returned (.bool (decide (x=y)))∧Ext W w':=by
 have hs:=zfK uX uY x y W hx hy lx ly;obtain ⟨aA,cA,rfl,_,_,_⟩:=hx.parts;obtain ⟨aB,cB,rfl,_,_,_⟩:=hy.parts;generalize decide (x=y)=dd at *;generalize x.length=l1 at *;generalize y.length=l2 at *;have Hs:=hid hs;clear hs hx hy;go_enter Tryz.func172,Tryz.ntmps172
 go_wp2_with fail
 refine Hs.out.mono ?_;rintro e w1 ⟨rfl,hx1⟩;have Hx1:=hid hx1;clear hx1;go_wp2
 go_ret
 exact ⟨rfl,Hx1.out⟩
theorem znP {w:World}{B g:Nat}{v:Value}{p:List Int}{N:List (List Rat)}{ls:List Lq}(h:LqM w B B v ls)(hx:lqx ls=zmw p N)(hcell:∀ j u,(lqc ls)[j]?=some u→w.cell? ⟨g,j,none⟩=some u)(hpos:∀ d:Nat,0<(cls p N (d:Int)).length){d:Nat}(hd:d≤N.length) :
  ∃ gA c rs1,w.cell? ⟨g,d,none⟩=some (.slice (some ⟨gA,0,none⟩) (cls p N (d:Int)).length c)∧QwM w B B (.slice (some ⟨gA,0,none⟩) (cls p N (d:Int)).length c) rs1∧rs1.map Qw.x=cls p N (d:Int)∧∀ i x,(cls p N (d:Int))[i]?=some x→∃ u,w.cell? ⟨gA,i,none⟩=some u∧zfx w B u x:=by
 obtain ⟨l,a,c,h1,h2,h3,h4⟩:=znB h hx hd;have hp:=hpos d;obtain ⟨x0,hx0⟩:∃ x0,(cls p N (d:Int))[0]?=some x0:=⟨_,List.getElem?_eq_getElem hp⟩;obtain ⟨gA,_,rfl,_,_⟩:=znK h3 h4 hx0;refine ⟨gA,c,l.rs,hcell d _ (by unfold lqc;rw [List.getElem?_map,h1,← h2];rfl),h3,h4,fun i x hx=>?_⟩;obtain ⟨g',u,e,k1,k2⟩:=znK h3 h4 hx;injection e with e;injection e with e1;subst e1;exact ⟨u,k1,k2⟩
theorem znQ {rs:List Qw}{l:List (List Rat)}(h:rs.map Qw.x=l)(x:List Rat):rs.any (fun r=>decide (x=r.x))=decide (x∈l):=by
 rw [← h,Bool.eq_iff_iff,List.any_eq_true,decide_eq_true_iff,List.mem_map];constructor
 ·rintro ⟨r,hr,e⟩;exact ⟨r,hr,(of_decide_eq_true e).symm⟩
 ·rintro ⟨r,hr,e⟩;exact ⟨r,hr,decide_eq_true e.symm⟩
def znR (w:World)(b:Nat)(u:Value):Prop:=w.heap[b]?=some (.cells #[u] 41 (0,0))
theorem znR.c0 {w:World}{b:Nat}{u:Value}(h:znR w b u):w.cell? ⟨b,0,none⟩=some u:=by unfold World.cell?;dsimp only;rw [h];rfl
theorem znR.made (w:World)(z u:Value):znR ((w.alloc (.cells #[z] 41)).setCell ⟨w.heap.size,0,none⟩ u) w.heap.size u:=heap_setCell_same _ w.heap.size 0 _ _ u (World.alloc_heap_new w _)
theorem znR.lt {w:World}{b:Nat}{u:Value}(h:znR w b u):b<w.heap.size:=(Array.getElem?_eq_some_iff.1 h).1
def KpC (w w':World)(b B:Nat)(u:Value)(x:List Rat)(c:Nat):Prop:=Ext w w'∧znR w' b u∧zfx w' B u x∧∃ r0 r1 r2 r3,zmB 43 w' c r0 r1 r2 r3
section
variable {w w' w2 : World} {b c B : Nat} {u : Value} {x : List Rat}
theorem KpC.ext (h:KpC w w' b B u x c)(hx:Ext w' w2):KpC w w2 b B u x c:=by
 obtain ⟨h1,h2,h4,r0,r1,r2,r3,h3⟩:=h;exact ⟨h1.trans hx,hx.heap h2,hx.ownQ h4,r0,r1,r2,r3,h3.ext hx⟩
theorem KpC.put (h:KpC w w' b B u x c)(hc:w.heap.size≤c)(hne:b ≠ c)(hB:c<B)(u' v' x' y':Value):KpC w ((((w'.setCell ⟨c,0,none⟩ u').setCell ⟨c,1,none⟩ v').setCell ⟨c,2,none⟩ x').setCell ⟨c,3,none⟩ y') b B u x c:=by
 obtain ⟨h1,h2,h4,r0,r1,r2,r3,h3⟩:=h;refine ⟨h1.put4 hc _ _ _ _,?_,h4.put4 hB _ _ _ _,u',v',x',y',h3.put _ _ _ _⟩;unfold znR at *;rw [heap_setCell_other _ ⟨c,3,none⟩ b _ hne,heap_setCell_other _ ⟨c,2,none⟩ b _ hne,heap_setCell_other _ ⟨c,1,none⟩ b _ hne,heap_setCell_other _ ⟨c,0,none⟩ b _ hne];exact h2
theorem KpC.fin (h:KpC w w' b B u x c)(hc:w.heap.size≤c)(hB:c<B)(u' v' x' y':Value):zmB 43 ((((w'.setCell ⟨c,0,none⟩ u').setCell ⟨c,1,none⟩ v').setCell ⟨c,2,none⟩ x').setCell ⟨c,3,none⟩ y') c u' v' x' y'∧Ext w ((((w'.setCell ⟨c,0,none⟩ u').setCell ⟨c,1,none⟩ v').setCell ⟨c,2,none⟩ x').setCell ⟨c,3,none⟩ y')∧zfx ((((w'.setCell ⟨c,0,none⟩ u').setCell ⟨c,1,none⟩ v').setCell ⟨c,2,none⟩ x').setCell ⟨c,3,none⟩ y') B u x:=by
 obtain ⟨h1,h2,h4,r0,r1,r2,r3,h3⟩:=h;exact ⟨h3.put _ _ _ _,h1.put4 hc _ _ _ _,h4.put4 hB _ _ _ _⟩
theorem KpC.all (h:KpC w w' b B u x c):KpC w w' b B u x c∧w'.cell? ⟨b,0,none⟩=some u∧w'.cell? ⟨c,0,none⟩=some (zdD w' c 0)∧w'.cell? ⟨c,1,none⟩=some (zdD w' c 1)∧w'.cell? ⟨c,2,none⟩=some (zdD w' c 2)∧w'.cell? ⟨c,3,none⟩=some (zdD w' c 3)∧w'.frozen? ⟨c,0,none⟩=false∧w'.frozen? ⟨c,1,none⟩=false∧w'.frozen? ⟨c,2,none⟩=false∧w'.frozen? ⟨c,3,none⟩=false:=by
 refine ⟨h,h.2.1.c0,?_⟩;obtain ⟨h1,h2,h4,r0,r1,r2,r3,h3⟩:=h;unfold zdD;rw [h3.c0,h3.c1,h3.c2,h3.c3];exact ⟨rfl,rfl,rfl,rfl,h3.fz 0,h3.fz 1,h3.fz 2,h3.fz 3⟩
end
theorem znS (v:Value)(p:List Int)(rs:List Qw)(w:World)(he:Env w)(hv:ScV w v p rs)(h:Wc p (rs.map Qw.x)) :
  Calls Tryz.prog 112 #[v] w fun e w'=>zmF p (rs.map Qw.x) w.heap.size e w'∧Ext w w':=by
 have hop:=fun W (hE:Ext w W)=>zm3 v p rs W (he.ext hE) (hv.ext hE) h;have hL:(rs.map Qw.x).length=rs.length:=List.length_map ..;have hfew:=h.few;have hpos:=h.wd.pos;rw [hL] at hfew hpos;have hcp:=fun (d:Nat)=>h.cls_pos (d:Int);have hat:=fun W B g vv ls (hq:LqM W B B vv ls)(hx:lqx ls=zmw p (rs.map Qw.x)) hcell (d:Nat)(hd:d≤rs.length)=>znP (g:=g) hq hx hcell hcp (d:=d) (by rw [hL];exact hd);have hcs:(zmw p (rs.map Qw.x)).length=rs.length+1:=by rw [zmx,hL]
 have hcl:=fun (d:Nat)=>(zlv (p:=p) (N:=rs.map Qw.x) (d:=(d:Int)));rw [hL] at hcl;have hxl:=fun (d:Nat) x (hx:x∈cls p (rs.map Qw.x) (d:Int))=>h.cls_lt hx;have hp1:1≤p.length∧p.length≤100:=by rcases h.wd.pr with ⟨e,_⟩ | ⟨e,_⟩ <;> rw [e] <;> decide
 have hle:(rs.map Qw.x).length=rs.length:=hL;obtain ⟨vp,vn,rfl,hp,hs,hmr⟩:=hv;obtain ⟨ap,cp,rfl,_,_,_⟩:=hp.parts;obtain ⟨an,cn,rfl,_,_,_⟩:=hs.parts;rw [zas] at *;rw [zf0] at *;generalize rs.length=n at *;have hE0:Ext w ((w.alloc (.cells #[.slice ap p.length cp,.slice an n cn] 28)).alloc (.cells #[.int .i64 0,.int .i64 0,.slice none 0 0,.slice none 0 0] 43)):=((Ext.refl w).alloc _).alloc _;have b1:=(zic.new 28 w (.slice ap p.length cp) (.slice an n cn)).ext ((Ext.refl _).alloc (.cells #[.int .i64 0,.int .i64 0,.slice none 0 0,.slice none 0 0] 43));have b2:=zmB.new 43 (w.alloc (.cells #[.slice ap p.length cp,.slice an n cn] 28)) (.int .i64 0) (.int .i64 0) (.slice none 0 0) (.slice none 0 0);rw [World.size_alloc] at b2;have Hop:=hid hop;have Hat:=hid hat;have HE0:=hid hE0;have Hcs:=hid hcs;have Hcp:=hid hcp;have Hcl:=hid hcl;have Hxl:=hid hxl;have B2:=hid b2;have Hle:=hid hle;have Hp1:=hid hp1;have q0:=b1.c0;have q1:=b1.c1;clear hop hat hE0 hcs hcp hcl hxl b1 b2 hp hs hmr he h hL hle hp1;go_enter Tryz.func112,Tryz.ntmps112
 go_wp2_with fail
 refine (Hop.out _ HE0.out).mono ?_;rintro e w2 ⟨u,v4,ls,rfl,hu,hq,hm,hx2⟩;have hll:ls.length=n+1:=by
  have:=congrArg List.length hm;unfold lqx at this;rwa [List.length_map,Hcs.out] at this
 rw [World.size_alloc,World.size_alloc] at hq;have hq1:=hq.1;obtain ⟨g,cap,rfl,hcell⟩:=zfn hq1 (by omega);rw [hll] at hq1 ⊢;have hx:=HE0.out.trans hx2;have b3:=B2.out.ext hx2;have hszc:w.heap.size+1+1≤w2.heap.size:=by have:=hx2.size;rwa [World.size_alloc,World.size_alloc] at this
 have hcc:=Hat.out w2 (w.heap.size+1+1) g _ ls hq hm hcell;obtain ⟨bv,uv1,uv2,uv3,nts,rfl,hrest⟩:=hu;have Hx:=hid hx;have Hcc:=hid hcc;have B3:=hid b3;have Hszc:=hid hszc;clear hx hcc hq hm hrest hx2 q0 q1 hq1 hll hcell b3 hszc;go_wp2_with fail
 go_loopw [23] (fun v23 wr=>∃ d:Nat,v23=.int .i64 (d:Int)∧d≤n+1∧(∀ d' u':Nat,d'<d→d'<u'→u'≤n→Dj p (rs.map Qw.x) d' u')∧Ext w2 wr) (fun v23 _=>n+2 - (zam v23).toNat)
 case atStart=>exact ⟨0,rfl,Nat.zero_le _,fun _ _ h=>absurd h (Nat.not_lt_zero _),Ext.refl _⟩
 case round =>
  obtain ⟨d,rfl,hd,hbef,hE⟩:=hrel;have Hbef:=hid hbef;clear hbef;by_cases hdn:d<n+1
  ·have hik:(d:Int)<((n+1:Nat):Int):=(by omega);have hik':(d:Int)<(n:Int)+1:=(by omega);have i5:(0:Int)≤(d:Int):=(by omega);have e2:IntKind.i64.wrap ((d:Int)+1)=((d+1:Nat):Int):=(by rw [IntWalk.i64_in _ (by omega)];omega);obtain ⟨gA,cA,rsA,kA,_,_,lA⟩:=Hcc.out d (by omega);have hz1:=Hcp.out d;have hl1:=Hcl.out d;have hat:∀ i,i<(cls p (rs.map Qw.x) (d:Int)).length→∃ x,(cls p (rs.map Qw.x) (d:Int))[i]?=some x:=fun i hi=>⟨_,List.getElem?_eq_getElem hi⟩;have htk:∀ i x (u:Nat),(cls p (rs.map Qw.x) (d:Int))[i]?=some x→(∀ y∈(cls p (rs.map Qw.x) (d:Int)).take i,y ∉ cls p (rs.map Qw.x) (u:Int))→x ∉ cls p (rs.map Qw.x) (u:Int)→∀ y∈(cls p (rs.map Qw.x) (d:Int)).take (i+1),y ∉ cls p (rs.map Qw.x) (u:Int):=fun i x u hx ht hn y hy=>by
    rw [List.take_add_one,hx] at hy;rcases List.mem_append.1 hy with g | g
    ·exact ht y g
    ·have:y=x:=(by simpa using g);rw [this];exact hn
   have hdj:∀ (u:Nat) i,(cls p (rs.map Qw.x) (d:Int)).length≤i→(∀ y∈(cls p (rs.map Qw.x) (d:Int)).take i,y ∉ cls p (rs.map Qw.x) (u:Int))→Dj p (rs.map Qw.x) d u:=fun u i hi ht y hy=>ht y (by rw [List.take_of_length_le hi];exact hy);have hxl:=Hxl.out d;generalize hzz:(cls p (rs.map Qw.x) (d:Int)).length=z1 at *;have HE:=hid hE;have KA:=hid kA;have LA:=hid lA;have HAt:=hid hat;have Htk:=hid htk;have Hdj:=hid hdj;have HXl:=hid hxl;have Hzz:=hid hzz;clear hE kA lA hat htk hdj hxl hzz;go_wp2_with fail
   obtain ⟨wa,hwa⟩:∃ wa,wa=wr:=⟨_,rfl⟩;subst hwa;go_loopw [8] (fun v8 wr=>∃ u:Nat,v8=.int .i64 (u:Int)∧d<u∧u≤n+1∧(∀ u':Nat,d<u'→u'<u→Dj p (rs.map Qw.x) d u')∧Ext w2 wr) (fun v8 _=>n+2 - (zam v8).toNat)
   case atStart=>exact ⟨d+1,by go_num,by omega,by omega,fun u' h1 h2=>by omega,HE.out⟩
   case round =>
    obtain ⟨u,rfl,hdu,hu,hrow,hE2⟩:=hrel;have Hrow:=hid hrow;clear hrow;by_cases hun:u<n+1
    ·have huk:(u:Int)<((n+1:Nat):Int):=(by omega);have huk':(u:Int)<(n:Int)+1:=(by omega);have i6:(0:Int)≤(u:Int):=(by omega);obtain ⟨gB,cB,rsB,kB,hqB,hmB,_⟩:=Hcc.out u (by omega);have hlB:=Hcl.out u;have hxB:=Hxl.out u;have hrB:rsB.length≤12:=(by rw [← List.length_map (f:=Qw.x),hmB];omega);have kA1:=hE2.cell KA.out;have HE2:=hid hE2;have KB:=hid kB;have HqB:=hid hqB;have HmB:=hid hmB;have HxB:=hid hxB;have HrB:=hid hrB;clear hE2 kB hqB hmB hxB hrB;generalize (cls p (rs.map Qw.x) (u:Int)).length=z2 at *;go_wp2_with fail
     obtain ⟨wb,hwb⟩:∃ wb,wb=wr:=⟨_,rfl⟩;subst hwb;clear kA1;go_loopw [39] (fun v39 wr=>∃ i:Nat,v39=.int .i64 (i:Int)∧i≤z1∧(∀ y∈(cls p (rs.map Qw.x) (d:Int)).take i,y ∉ cls p (rs.map Qw.x) (u:Int))∧Ext w2 wr) (fun v39 _=>z1+1 - (zam v39).toNat)
     case atStart=>exact ⟨0,rfl,Nat.zero_le _,fun y hy=>by simp at hy,HE2.out⟩
     case round =>
      obtain ⟨i,rfl,hi,htk,hE3⟩:=hrel;have HTk:=hid htk;clear htk;by_cases hiz:i<z1
      ·have hiz2:(i:Int)<(z1:Int):=(by omega);have i7:(0:Int)≤(i:Int):=(by omega);obtain ⟨x,hx⟩:=HAt.out i hiz;obtain ⟨uX,kX,oX⟩:=LA.out i x hx;have hlx:=HXl.out x (List.mem_of_getElem? hx);obtain ⟨aX,cX,rfl⟩:=zfj oX;have kX1:=hE3.cell kX;have hb0:znR (wr.alloc (.cells #[.slice aX x.length cX] 41)) wr.heap.size (.slice aX x.length cX):=World.alloc_heap_new wr _;have hE4:Ext w2 (wr.alloc (.cells #[.slice aX x.length cX] 41)):=hE3.alloc _;have kB1:=hE4.cell KB.out;have hbn:w2.heap.size≤wr.heap.size:=hE3.size;have hcon:=zj5 172 #[.pointer (some ⟨wr.heap.size,0,none⟩)] (.slice (some ⟨gB,0,none⟩) z2 cB) rsB (fun y=>decide (x=y)) _ (hE4.sl (zao HqB.out.1)) (by have:=HrB.out;omega) (fun _ _=>rfl) (fun W hW r hr=>znO wr.heap.size _ r.u x r.x W (hW.cell hb0.c0) ((hE4.trans hW).ownQ oX).rd ((hE4.trans hW).ownQ (HqB.out.2 r hr)).rd (by have:=Hp1.out;omega) (by rw [HxB.out _ (by rw [← HmB.out];exact List.mem_map_of_mem hr)];have:=Hp1.out;omega));rw [znQ HmB.out] at hcon;have hcl:=fun W (hk:KpC w W wr.heap.size (w.heap.size+1+1) (.slice aX x.length cX) x (w.heap.size+1))=>show Calls Tryz.prog 142 #[.slice aX x.length cX] W fun e w'=>∃ a c,e=.returned (.slice a x.length c)∧zfx w' (w.heap.size+1+1) (.slice a x.length c) x∧Ext W w' from
        (zjv _ x W hk.2.2.1.rd (by have:=Hp1.out;omega) (by intro e;rw [e] at hlx;have:=Hp1.out;simp at hlx;omega)).mono fun e w' ⟨u,h1,h2,h3⟩=>by
         obtain ⟨a,c,rfl⟩:=zfj h2;exact ⟨a,c,h1,h2.mono (by have:=hk.2.1.lt;have:=Hszc.out;omega),h3⟩
       generalize hb:wr.heap.size=bX at *;have HX:=hid hx;have OX:=hid oX;have HE3:=hid hE3;have Hb0:=hid hb0;have HE4:=hid hE4;have Hbn:=hid hbn;have Hlx:=hid hlx;have Hcon:=hid hcon;have Hclo:=hid hcl;clear hx oX hE3 hb0 hE4 kX hbn hlx hcon hcl;generalize hlxx:x.length=lx at *;have Hlxx:=hid hlxx;clear hlxx;generalize hdd:decide (x∈cls p (rs.map Qw.x) (u:Int))=bb at *;have Hdd:=hid hdd;clear hdd;go_wp2_with fail
       refine Hcon.out.mono ?_;rintro e w5 ⟨rfl,hx5⟩;have HE5:=hid (HE4.out.trans hx5);have Hb5:=hid (hx5.heap Hb0.out);clear hx5;generalize wr.alloc (.cells #[.slice aX lx cX] 41)=W4 at *
       cases bb with
       | true =>
        have hk:KpC w w5 bX (w.heap.size+1+1) (.slice aX lx cX) x (w.heap.size+1):=⟨Hx.out.trans HE5.out,Hb5.out,HE5.out.ownQ OX.out,_,_,_,_,B3.out.ext HE5.out⟩
        have hne:bX ≠ w.heap.size+1:=by have:=Hbn.out;have:=Hszc.out;omega
        have Hk:=hid hk;clear hk
        clear kB1 kX1
        go_wp2_with fail
        go_region_held3 (fun w'=>KpC w w' bX (w.heap.size+1+1) (.slice aX lx cX) x (w.heap.size+1)∧w'.cell? ⟨bX,0,none⟩=some (.slice aX lx cX)∧w'.cell? ⟨w.heap.size+1,0,none⟩=some (zdD w' (w.heap.size+1) 0)∧w'.cell? ⟨w.heap.size+1,1,none⟩=some (zdD w' (w.heap.size+1) 1)∧w'.cell? ⟨w.heap.size+1,2,none⟩=some (zdD w' (w.heap.size+1) 2)∧w'.cell? ⟨w.heap.size+1,3,none⟩=some (zdD w' (w.heap.size+1) 3)∧w'.frozen? ⟨w.heap.size+1,0,none⟩=false∧w'.frozen? ⟨w.heap.size+1,1,none⟩=false∧w'.frozen? ⟨w.heap.size+1,2,none⟩=false∧w'.frozen? ⟨w.heap.size+1,3,none⟩=false)
         (first | exact (KpC.ext Hk.out ((Ext.refl w5).drew)).all | exact hkk.all | exact (KpC.put (And.left (by assumption)) (by omega) (by assumption) (by omega) _ _ _ _).all)
         (first | (go_at_call 142;refine (Hclo.out _ (And.left (by assumption))).mono ?_;rintro e9 V4 ⟨a9,c9,rfl,ho9,hxa⟩;have hkk:=KpC.ext (And.left (by assumption)) hxa;have Ho9:=hid ho9;clear ho9))
        all_goals
         obtain ⟨hb9,hfx,hox⟩:=hkk.fin (by omega) (by omega) (.int .i64 (d:Int)) (.int .i64 (u:Int)) (.slice aX lx cX) (.slice a9 lx c9)
         have ho9:=Ho9.out.put4 (c:=w.heap.size+1) (by omega) (.int .i64 (d:Int)) (.int .i64 (u:Int)) (.slice aX lx cX) (.slice a9 lx c9)
         have Hfx:=hid hfx;have Hox:=hid hox;have Ho9b:=hid ho9
         clear hfx hox ho9 hxa hkk
         generalize (((V4.setCell ⟨w.heap.size+1,0,none⟩ (.int .i64 (d:Int))).setCell ⟨w.heap.size+1,1,none⟩ (.int .i64 (u:Int))).setCell ⟨w.heap.size+1,2,none⟩ (.slice aX lx cX)).setCell ⟨w.heap.size+1,3,none⟩ (.slice a9 lx c9)=W9 at *
         have d0:=hb9.c0
         have d1:=hb9.c1
         have d2:=hb9.c2
         have d3:=hb9.c3
         go_wp2_with fail
         exact bodyPost_ret (v:=.tuple #[.agg #[.int .i64 (d:Int),.int .i64 (u:Int),.slice aX lx cX,.slice a9 lx c9],.bool false,.int .i64 0]) (by simp [results,Tryz.results112,go_sem,d0,d1,d2,d3]) rfl ⟨⟨_,_,rfl,.inr ⟨rfl,d,u,i,x,⟨hdu,by rw [Hle.out];omega,fun d' u' h1 h2 h3=>Hbef.out d' u' h1 h2 (by have:=Hle.out;omega),fun u' h1 h2=>Hrow.out u' h1 h2,HTk.out,HX.out,of_decide_eq_true Hdd.out⟩,_,_,rfl,Hox.out.mono (by omega),Ho9b.out.mono (by omega)⟩⟩,Hfx.out⟩
       | false =>
        go_wp2_with fail
        go_roundw
        case rel=>first | exact ⟨i+1,by go_num,by omega,Htk.out i x u HX.out HTk.out (of_decide_eq_false Hdd.out),HE5.out⟩ | ((repeat apply Exists.intro);exact ⟨⟨i+1,by go_num,by omega,Htk.out i x u HX.out HTk.out (of_decide_eq_false Hdd.out),HE5.out⟩,rfl⟩)
        case measure=>simp [zam];omega
      ·obtain rfl:i=z1:=by omega
       have hiz2:¬ (i:Int)<(i:Int):=(by omega);have HE3:=hid hE3;clear hE3;go_wp2_with fail
       go_roundw
       case rel=>exact ⟨u+1,by go_num,by omega,by omega,fun u' h1 h2=>by
        rcases Nat.lt_or_ge u' u with g | g
        ·exact Hrow.out u' h1 g
        ·obtain rfl:u'=u:=by omega
         exact Hdj.out _ _ (Nat.le_refl _) HTk.out,HE3.out⟩
       case measure=>simp [zam];omega
    ·obtain rfl:u=n+1:=by omega
     have huk:¬ ((n+1:Nat):Int)<((n+1:Nat):Int):=(by omega);have HE2:=hid hE2;clear hE2;go_wp2_with fail
     go_roundw
     case rel=>exact ⟨d+1,by go_num,by omega,fun d' u' h1 h2 h3=>by
      rcases Nat.lt_or_ge d' d with g | g
      ·exact Hbef.out d' u' g h2 h3
      ·obtain rfl:d'=d:=by omega
       exact Hrow.out u' h2 (by omega),HE2.out⟩
     case measure=>simp [zam];omega
  ·obtain rfl:d=n+1:=by omega
   have hik:¬ ((n+1:Nat):Int)<((n+1:Nat):Int):=(by omega);have b6:=B3.out.ext hE;have hE6:=Hx.out.trans hE;have c0:=b6.c0;have c1:=b6.c1;have c2:=b6.c2;have c3:=b6.c3;have z0:=b6.fz 0;have z1:=b6.fz 1;have z2:=b6.fz 2;have z3:=b6.fz 3;have B6:=hid b6;have HE6:=hid hE6;clear b6 hE6 hE;have hp4:=B6.out.put (.int .i64 0) (.int .i64 0) (.slice none 0 0) (.slice none 0 0);have d0:=hp4.c0;have d1:=hp4.c1;have d2:=hp4.c2;have d3:=hp4.c3;go_wp2_with fail
   exact bodyPost_ret (v:=.tuple #[zmA,.bool true,.int .i64 0]) (by simp [results,Tryz.results112,go_sem,d0,d1,d2,d3,zmA]) rfl ⟨⟨_,_,rfl,.inl ⟨rfl,rfl,fun d' u' h1 h2=>Hbef.out d' u' (by have:=Hle.out;omega) h1 (by have:=Hle.out;omega)⟩⟩,HE6.out.put4 (by omega) _ _ _ _⟩
end Go.Proofs.YtebabancfnmfjaaGreatDoor
