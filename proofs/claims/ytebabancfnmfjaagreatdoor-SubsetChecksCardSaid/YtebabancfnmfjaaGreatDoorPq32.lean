/- Walks: class.Constant. Walks: subset: the tests of properties, has, Holds. Walks: subset: has, Holds. Walks: slices.IndexFunc and slices.ContainsFunc at ints, with a closure that makes memory; slices.Contains at ints. -/
import Derived.Test.YtebabancfnmfjaaGreatDoorPq31
import Derived.Test.YtebabancfnmfjaaGreatDoorPq18
import Derived.Test.YtebabancfnmfjaaGreatDoorPq17
import Derived.Test.YtebabancfnmfjaaGreatDoorPq30
import Derived.Test.YtebabancfnmfjaaGreatDoorPq29
import Derived.Test.YtebabancfnmfjaaGreatDoorShelfH
import Derived.Shelf.SlicesE.Index
import Derived.Shelf.Abstract
set_option maxRecDepth 100000
set_option maxHeartbeats 2000000
namespace Go.Proofs.YtebabancfnmfjaaGreatDoor
section
open Go.RowKit Go.Lib Go.Shelf
attribute [local go_sem] Oper.semAt_some
theorem znX (b:Nat)(uX uY:Value)(x y:List Rat)(W:World)(hb:W.cell? ⟨b,0,none⟩=some uX)(hx:Rd W uX x)(hy:Rd W uY y)(lx:x.length≤1000)(ly:y.length≤1000) :
  Calls Tryz.prog 172 #[uY,.pointer (some ⟨b,0,none⟩)] W fun e w'=>e=.returned (.bool (decide (x=y)))∧Ext W w':=by
 have hs:=zja uX uY x y W hx hy lx ly;obtain ⟨aA,cA,rfl,_,_,_⟩:=hx.parts;obtain ⟨aB,cB,rfl,_,_,_⟩:=hy.parts;generalize decide (x=y)=dd at *;generalize x.length=l1 at *;generalize y.length=l2 at *;have Hs:=hid hs;clear hs hx hy;go_enter Tryz.func172,Tryz.ntmps172
 go_wp2_with fail
 refine Hs.out.mono ?_;rintro e w1 ⟨rfl,hx1⟩;have Hx1:=hid hx1;clear hx1;go_wp2
 go_ret
 exact ⟨rfl,Hx1.out⟩
theorem znY {w:World}{B g:Nat}{v:Value}{p:List Int}{N:List (List Rat)}{ls:List Lq}(h:LqM w B B v ls)(hx:lqx ls=zmh p N)(hcell:∀ j u,(lqc ls)[j]?=some u→w.cell? ⟨g,j,none⟩=some u)(hpos:∀ d:Nat,0<(cls p N (d:Int)).length){d:Nat}(hd:d≤N.length) :
  ∃ gA c rs1,w.cell? ⟨g,d,none⟩=some (.slice (some ⟨gA,0,none⟩) (cls p N (d:Int)).length c)∧QwM w B B (.slice (some ⟨gA,0,none⟩) (cls p N (d:Int)).length c) rs1∧rs1.map Qw.x=cls p N (d:Int)∧∀ i x,(cls p N (d:Int))[i]?=some x→∃ u,w.cell? ⟨gA,i,none⟩=some u∧zfw w B u x:=by
 obtain ⟨l,a,c,h1,h2,h3,h4⟩:=znK h hx hd;have hp:=hpos d;obtain ⟨x0,hx0⟩:∃ x0,(cls p N (d:Int))[0]?=some x0:=⟨_,List.getElem?_eq_getElem hp⟩;obtain ⟨gA,_,rfl,_,_⟩:=znT h3 h4 hx0;refine ⟨gA,c,l.rs,hcell d _ (by unfold lqc;rw [List.getElem?_map,h1,← h2];rfl),h3,h4,fun i x hx=>?_⟩;obtain ⟨g',u,e,k1,k2⟩:=znT h3 h4 hx;injection e with e;injection e with e1;subst e1;exact ⟨u,k1,k2⟩
theorem znZ {rs:List Qw}{l:List (List Rat)}(h:rs.map Qw.x=l)(x:List Rat):rs.any (fun r=>decide (x=r.x))=decide (x∈l):=by
 rw [← h,Bool.eq_iff_iff,List.any_eq_true,decide_eq_true_iff,List.mem_map];constructor
 ·rintro ⟨r,hr,e⟩;exact ⟨r,hr,(of_decide_eq_true e).symm⟩
 ·rintro ⟨r,hr,e⟩;exact ⟨r,hr,decide_eq_true e.symm⟩
def zoa (w:World)(b:Nat)(u:Value):Prop:=w.heap[b]?=some (.cells #[u] 41 (0,0))
theorem zoa.c0 {w:World}{b:Nat}{u:Value}(h:zoa w b u):w.cell? ⟨b,0,none⟩=some u:=by unfold World.cell?;dsimp only;rw [h];rfl
theorem zoa.made (w:World)(z u:Value):zoa ((w.alloc (.cells #[z] 41)).setCell ⟨w.heap.size,0,none⟩ u) w.heap.size u:=heap_setCell_same _ w.heap.size 0 _ _ u (World.alloc_heap_new w _)
theorem zoa.lt {w:World}{b:Nat}{u:Value}(h:zoa w b u):b<w.heap.size:=(Array.getElem?_eq_some_iff.1 h).1
def KpC (w w':World)(b B:Nat)(u:Value)(x:List Rat)(c:Nat):Prop:=Ext w w'∧zoa w' b u∧zfw w' B u x∧∃ r0 r1 r2 r3,zmu 43 w' c r0 r1 r2 r3
section
variable {w w' w2 : World} {b c B : Nat} {u : Value} {x : List Rat}
theorem KpC.ext (h:KpC w w' b B u x c)(hx:Ext w' w2):KpC w w2 b B u x c:=by
 obtain ⟨h1,h2,h4,r0,r1,r2,r3,h3⟩:=h;exact ⟨h1.trans hx,hx.heap h2,hx.ownQ h4,r0,r1,r2,r3,h3.ext hx⟩
theorem KpC.put (h:KpC w w' b B u x c)(hc:w.heap.size≤c)(hne:b ≠ c)(hB:c<B)(u' v' x' y':Value):KpC w ((((w'.setCell ⟨c,0,none⟩ u').setCell ⟨c,1,none⟩ v').setCell ⟨c,2,none⟩ x').setCell ⟨c,3,none⟩ y') b B u x c:=by
 obtain ⟨h1,h2,h4,r0,r1,r2,r3,h3⟩:=h;refine ⟨h1.put4 hc _ _ _ _,?_,h4.put4 hB _ _ _ _,u',v',x',y',h3.put _ _ _ _⟩;unfold zoa at *;rw [heap_setCell_other _ ⟨c,3,none⟩ b _ hne,heap_setCell_other _ ⟨c,2,none⟩ b _ hne,heap_setCell_other _ ⟨c,1,none⟩ b _ hne,heap_setCell_other _ ⟨c,0,none⟩ b _ hne];exact h2
theorem KpC.fin (h:KpC w w' b B u x c)(hc:w.heap.size≤c)(hB:c<B)(u' v' x' y':Value):zmu 43 ((((w'.setCell ⟨c,0,none⟩ u').setCell ⟨c,1,none⟩ v').setCell ⟨c,2,none⟩ x').setCell ⟨c,3,none⟩ y') c u' v' x' y'∧Ext w ((((w'.setCell ⟨c,0,none⟩ u').setCell ⟨c,1,none⟩ v').setCell ⟨c,2,none⟩ x').setCell ⟨c,3,none⟩ y')∧zfw ((((w'.setCell ⟨c,0,none⟩ u').setCell ⟨c,1,none⟩ v').setCell ⟨c,2,none⟩ x').setCell ⟨c,3,none⟩ y') B u x:=by
 obtain ⟨h1,h2,h4,r0,r1,r2,r3,h3⟩:=h;exact ⟨h3.put _ _ _ _,h1.put4 hc _ _ _ _,h4.put4 hB _ _ _ _⟩
theorem KpC.all (h:KpC w w' b B u x c):KpC w w' b B u x c∧w'.cell? ⟨b,0,none⟩=some u∧w'.cell? ⟨c,0,none⟩=some (zdA w' c 0)∧w'.cell? ⟨c,1,none⟩=some (zdA w' c 1)∧w'.cell? ⟨c,2,none⟩=some (zdA w' c 2)∧w'.cell? ⟨c,3,none⟩=some (zdA w' c 3)∧w'.frozen? ⟨c,0,none⟩=false∧w'.frozen? ⟨c,1,none⟩=false∧w'.frozen? ⟨c,2,none⟩=false∧w'.frozen? ⟨c,3,none⟩=false:=by
 refine ⟨h,h.2.1.c0,?_⟩;obtain ⟨h1,h2,h4,r0,r1,r2,r3,h3⟩:=h;unfold zdA;rw [h3.c0,h3.c1,h3.c2,h3.c3];exact ⟨rfl,rfl,rfl,rfl,h3.fz 0,h3.fz 1,h3.fz 2,h3.fz 3⟩
end
theorem zob (v:Value)(p:List Int)(rs:List Qw)(w:World)(he:Env w)(hv:ScV w v p rs)(h:Wc p (rs.map Qw.x)) :
  Calls Tryz.prog 112 #[v] w fun e w'=>zmy p (rs.map Qw.x) w.heap.size e w'∧Ext w w':=by
 have hop:=fun W (hE:Ext w W)=>zmm v p rs W (he.ext hE) (hv.ext hE) h;have hL:(rs.map Qw.x).length=rs.length:=List.length_map ..;have hfew:=h.few;have hpos:=h.wd.pos;rw [hL] at hfew hpos;have hcp:=fun (d:Nat)=>h.cls_pos (d:Int);have hat:=fun W B g vv ls (hq:LqM W B B vv ls)(hx:lqx ls=zmh p (rs.map Qw.x)) hcell (d:Nat)(hd:d≤rs.length)=>znY (g:=g) hq hx hcell hcp (d:=d) (by rw [hL];exact hd);have hcs:(zmh p (rs.map Qw.x)).length=rs.length+1:=by rw [zmi,hL]
 have hcl:=fun (d:Nat)=>(zjU (p:=p) (N:=rs.map Qw.x) (d:=(d:Int)));rw [hL] at hcl;have hxl:=fun (d:Nat) x (hx:x∈cls p (rs.map Qw.x) (d:Int))=>h.cls_lt hx;have hp1:1≤p.length∧p.length≤100:=by rcases h.wd.pr with ⟨e,_⟩ | ⟨e,_⟩ <;> rw [e] <;> decide
 have hle:(rs.map Qw.x).length=rs.length:=hL;obtain ⟨vp,vn,rfl,hp,hs,hmr⟩:=hv;obtain ⟨ap,cp,rfl,_,_,_⟩:=hp.parts;obtain ⟨an,cn,rfl,_,_,_⟩:=hs.parts;rw [zar] at *;rw [zfz] at *;generalize rs.length=n at *;have hE0:Ext w ((w.alloc (.cells #[.slice ap p.length cp,.slice an n cn] 28)).alloc (.cells #[.int .i64 0,.int .i64 0,.slice none 0 0,.slice none 0 0] 43)):=((Ext.refl w).alloc _).alloc _;have b1:=(zjl.new 28 w (.slice ap p.length cp) (.slice an n cn)).ext ((Ext.refl _).alloc (.cells #[.int .i64 0,.int .i64 0,.slice none 0 0,.slice none 0 0] 43));have b2:=zmu.new 43 (w.alloc (.cells #[.slice ap p.length cp,.slice an n cn] 28)) (.int .i64 0) (.int .i64 0) (.slice none 0 0) (.slice none 0 0);rw [World.size_alloc] at b2;have Hop:=hid hop;have Hat:=hid hat;have HE0:=hid hE0;have Hcs:=hid hcs;have Hcp:=hid hcp;have Hcl:=hid hcl;have Hxl:=hid hxl;have B2:=hid b2;have Hle:=hid hle;have Hp1:=hid hp1;have q0:=b1.c0;have q1:=b1.c1;clear hop hat hE0 hcs hcp hcl hxl b1 b2 hp hs hmr he h hL hle hp1;go_enter Tryz.func112,Tryz.ntmps112
 go_wp2_with fail
 refine (Hop.out _ HE0.out).mono ?_;rintro e w2 ⟨u,v4,ls,rfl,hu,hq,hm,hx2⟩;have hll:ls.length=n+1:=by
  have:=congrArg List.length hm;unfold lqx at this;rwa [List.length_map,Hcs.out] at this
 rw [World.size_alloc,World.size_alloc] at hq;have hq1:=hq.1;obtain ⟨g,cap,rfl,hcell⟩:=zfm hq1 (by omega);rw [hll] at hq1 ⊢;have hx:=HE0.out.trans hx2;have b3:=B2.out.ext hx2;have hszc:w.heap.size+1+1≤w2.heap.size:=by have:=hx2.size;rwa [World.size_alloc,World.size_alloc] at this
 have hcc:=Hat.out w2 (w.heap.size+1+1) g _ ls hq hm hcell;obtain ⟨bv,uv1,uv2,uv3,nts,rfl,hrest⟩:=hu;have Hx:=hid hx;have Hcc:=hid hcc;have B3:=hid b3;have Hszc:=hid hszc;clear hx hcc hq hm hrest hx2 q0 q1 hq1 hll hcell b3 hszc;go_wp2_with fail
 go_loopw [23] (fun v23 wr=>∃ d:Nat,v23=.int .i64 (d:Int)∧d≤n+1∧(∀ d' u':Nat,d'<d→d'<u'→u'≤n→Dj p (rs.map Qw.x) d' u')∧Ext w2 wr) (fun v23 _=>n+2 - (zal v23).toNat)
 case atStart=>exact ⟨0,rfl,Nat.zero_le _,fun _ _ h=>absurd h (Nat.not_lt_zero _),Ext.refl _⟩
 case round =>
  obtain ⟨d,rfl,hd,hbef,hE⟩:=hrel;have Hbef:=hid hbef;clear hbef;by_cases hdn:d<n+1
  ·have hik:(d:Int)<((n+1:Nat):Int):=(by omega);have hik':(d:Int)<(n:Int)+1:=(by omega);have i5:(0:Int)≤(d:Int):=(by omega);have e2:IntKind.i64.wrap ((d:Int)+1)=((d+1:Nat):Int):=(by rw [IntWalk.i64_in _ (by omega)];omega);obtain ⟨gA,cA,rsA,kA,_,_,lA⟩:=Hcc.out d (by omega);have hz1:=Hcp.out d;have hl1:=Hcl.out d;have hat:∀ i,i<(cls p (rs.map Qw.x) (d:Int)).length→∃ x,(cls p (rs.map Qw.x) (d:Int))[i]?=some x:=fun i hi=>⟨_,List.getElem?_eq_getElem hi⟩;have htk:∀ i x (u:Nat),(cls p (rs.map Qw.x) (d:Int))[i]?=some x→(∀ y∈(cls p (rs.map Qw.x) (d:Int)).take i,y ∉ cls p (rs.map Qw.x) (u:Int))→x ∉ cls p (rs.map Qw.x) (u:Int)→∀ y∈(cls p (rs.map Qw.x) (d:Int)).take (i+1),y ∉ cls p (rs.map Qw.x) (u:Int):=fun i x u hx ht hn y hy=>by
    rw [List.take_add_one,hx] at hy;rcases List.mem_append.1 hy with g | g
    ·exact ht y g
    ·have:y=x:=(by simpa using g);rw [this];exact hn
   have hdj:∀ (u:Nat) i,(cls p (rs.map Qw.x) (d:Int)).length≤i→(∀ y∈(cls p (rs.map Qw.x) (d:Int)).take i,y ∉ cls p (rs.map Qw.x) (u:Int))→Dj p (rs.map Qw.x) d u:=fun u i hi ht y hy=>ht y (by rw [List.take_of_length_le hi];exact hy);have hxl:=Hxl.out d;generalize hzz:(cls p (rs.map Qw.x) (d:Int)).length=z1 at *;have HE:=hid hE;have KA:=hid kA;have LA:=hid lA;have HAt:=hid hat;have Htk:=hid htk;have Hdj:=hid hdj;have HXl:=hid hxl;have Hzz:=hid hzz;clear hE kA lA hat htk hdj hxl hzz;go_wp2_with fail
   obtain ⟨wa,hwa⟩:∃ wa,wa=wr:=⟨_,rfl⟩;subst hwa;go_loopw [8] (fun v8 wr=>∃ u:Nat,v8=.int .i64 (u:Int)∧d<u∧u≤n+1∧(∀ u':Nat,d<u'→u'<u→Dj p (rs.map Qw.x) d u')∧Ext w2 wr) (fun v8 _=>n+2 - (zal v8).toNat)
   case atStart=>exact ⟨d+1,by go_num,by omega,by omega,fun u' h1 h2=>by omega,HE.out⟩
   case round =>
    obtain ⟨u,rfl,hdu,hu,hrow,hE2⟩:=hrel;have Hrow:=hid hrow;clear hrow;by_cases hun:u<n+1
    ·have huk:(u:Int)<((n+1:Nat):Int):=(by omega);have huk':(u:Int)<(n:Int)+1:=(by omega);have i6:(0:Int)≤(u:Int):=(by omega);obtain ⟨gB,cB,rsB,kB,hqB,hmB,_⟩:=Hcc.out u (by omega);have hlB:=Hcl.out u;have hxB:=Hxl.out u;have hrB:rsB.length≤12:=(by rw [← List.length_map (f:=Qw.x),hmB];omega);have kA1:=hE2.cell KA.out;have HE2:=hid hE2;have KB:=hid kB;have HqB:=hid hqB;have HmB:=hid hmB;have HxB:=hid hxB;have HrB:=hid hrB;clear hE2 kB hqB hmB hxB hrB;generalize (cls p (rs.map Qw.x) (u:Int)).length=z2 at *;go_wp2_with fail
     obtain ⟨wb,hwb⟩:∃ wb,wb=wr:=⟨_,rfl⟩;subst hwb;clear kA1;go_loopw [39] (fun v39 wr=>∃ i:Nat,v39=.int .i64 (i:Int)∧i≤z1∧(∀ y∈(cls p (rs.map Qw.x) (d:Int)).take i,y ∉ cls p (rs.map Qw.x) (u:Int))∧Ext w2 wr) (fun v39 _=>z1+1 - (zal v39).toNat)
     case atStart=>exact ⟨0,rfl,Nat.zero_le _,fun y hy=>by simp at hy,HE2.out⟩
     case round =>
      obtain ⟨i,rfl,hi,htk,hE3⟩:=hrel;have HTk:=hid htk;clear htk;by_cases hiz:i<z1
      ·have hiz2:(i:Int)<(z1:Int):=(by omega);have i7:(0:Int)≤(i:Int):=(by omega);obtain ⟨x,hx⟩:=HAt.out i hiz;obtain ⟨uX,kX,oX⟩:=LA.out i x hx;have hlx:=HXl.out x (List.mem_of_getElem? hx);obtain ⟨aX,cX,rfl⟩:=zfi oX;have kX1:=hE3.cell kX;have hb0:zoa (wr.alloc (.cells #[.slice aX x.length cX] 41)) wr.heap.size (.slice aX x.length cX):=World.alloc_heap_new wr _;have hE4:Ext w2 (wr.alloc (.cells #[.slice aX x.length cX] 41)):=hE3.alloc _;have kB1:=hE4.cell KB.out;have hbn:w2.heap.size≤wr.heap.size:=hE3.size;have hcon:=zjg 172 #[.pointer (some ⟨wr.heap.size,0,none⟩)] (.slice (some ⟨gB,0,none⟩) z2 cB) rsB (fun y=>decide (x=y)) _ (hE4.sl (zan HqB.out.1)) (by have:=HrB.out;omega) (fun _ _=>rfl) (fun W hW r hr=>znX wr.heap.size _ r.u x r.x W (hW.cell hb0.c0) ((hE4.trans hW).ownQ oX).rd ((hE4.trans hW).ownQ (HqB.out.2 r hr)).rd (by have:=Hp1.out;omega) (by rw [HxB.out _ (by rw [← HmB.out];exact List.mem_map_of_mem hr)];have:=Hp1.out;omega));rw [znZ HmB.out] at hcon;have hcl:=fun W (hk:KpC w W wr.heap.size (w.heap.size+1+1) (.slice aX x.length cX) x (w.heap.size+1))=>show Calls Tryz.prog 142 #[.slice aX x.length cX] W fun e w'=>∃ a c,e=.returned (.slice a x.length c)∧zfw w' (w.heap.size+1+1) (.slice a x.length c) x∧Ext W w' from
        (zjb _ x W hk.2.2.1.rd (by have:=Hp1.out;omega) (by intro e;rw [e] at hlx;have:=Hp1.out;simp at hlx;omega)).mono fun e w' ⟨u,h1,h2,h3⟩=>by
         obtain ⟨a,c,rfl⟩:=zfi h2;exact ⟨a,c,h1,h2.mono (by have:=hk.2.1.lt;have:=Hszc.out;omega),h3⟩
       generalize hb:wr.heap.size=bX at *;have HX:=hid hx;have OX:=hid oX;have HE3:=hid hE3;have Hb0:=hid hb0;have HE4:=hid hE4;have Hbn:=hid hbn;have Hlx:=hid hlx;have Hcon:=hid hcon;have Hclo:=hid hcl;clear hx oX hE3 hb0 hE4 kX hbn hlx hcon hcl;generalize hlxx:x.length=lx at *;have Hlxx:=hid hlxx;clear hlxx;generalize hdd:decide (x∈cls p (rs.map Qw.x) (u:Int))=bb at *;have Hdd:=hid hdd;clear hdd;go_wp2_with fail
       refine Hcon.out.mono ?_;rintro e w5 ⟨rfl,hx5⟩;have HE5:=hid (HE4.out.trans hx5);have Hb5:=hid (hx5.heap Hb0.out);clear hx5;generalize wr.alloc (.cells #[.slice aX lx cX] 41)=W4 at *
       cases bb with
       | true =>
        have hk:KpC w w5 bX (w.heap.size+1+1) (.slice aX lx cX) x (w.heap.size+1):=⟨Hx.out.trans HE5.out,Hb5.out,HE5.out.ownQ OX.out,_,_,_,_,B3.out.ext HE5.out⟩
        have hne:bX ≠ w.heap.size+1:=by have:=Hbn.out;have:=Hszc.out;omega
        have Hk:=hid hk;clear hk
        clear kB1 kX1
        go_wp2_with fail
        go_region_held3 (fun w'=>KpC w w' bX (w.heap.size+1+1) (.slice aX lx cX) x (w.heap.size+1)∧w'.cell? ⟨bX,0,none⟩=some (.slice aX lx cX)∧w'.cell? ⟨w.heap.size+1,0,none⟩=some (zdA w' (w.heap.size+1) 0)∧w'.cell? ⟨w.heap.size+1,1,none⟩=some (zdA w' (w.heap.size+1) 1)∧w'.cell? ⟨w.heap.size+1,2,none⟩=some (zdA w' (w.heap.size+1) 2)∧w'.cell? ⟨w.heap.size+1,3,none⟩=some (zdA w' (w.heap.size+1) 3)∧w'.frozen? ⟨w.heap.size+1,0,none⟩=false∧w'.frozen? ⟨w.heap.size+1,1,none⟩=false∧w'.frozen? ⟨w.heap.size+1,2,none⟩=false∧w'.frozen? ⟨w.heap.size+1,3,none⟩=false)
         (first | exact (KpC.ext Hk.out ((Ext.refl w5).drew)).all | exact hkk.all | exact (KpC.put (And.left (by assumption)) (by omega) (by assumption) (by omega) _ _ _ _).all)
         (first | (go_at_call 142;refine (Hclo.out _ (And.left (by assumption))).mono ?_;rintro e9 V4 ⟨a9,c9,rfl,ho9,hxa⟩;have hkk:=KpC.ext (And.left (by assumption)) hxa;have Ho9:=hid ho9;clear ho9))
        all_goals
         obtain ⟨hb9,hfx,hox⟩:=hkk.fin (by omega) (by omega) (.int .i64 (d:Int)) (.int .i64 (u:Int)) (.slice aX lx cX) (.slice a9 lx c9)
         have ho9:=Ho9.out.put4 (c:=w.heap.size+1) (by omega) (.int .i64 (d:Int)) (.int .i64 (u:Int)) (.slice aX lx cX) (.slice a9 lx c9)
         have Hfx:=hid hfx;have Hox:=hid hox;have Ho9b:=hid ho9
         clear hfx hox ho9 hxa hkk
         generalize (((V4.setCell ⟨w.heap.size+1,0,none⟩ (.int .i64 (d:Int))).setCell ⟨w.heap.size+1,1,none⟩ (.int .i64 (u:Int))).setCell ⟨w.heap.size+1,2,none⟩ (.slice aX lx cX)).setCell ⟨w.heap.size+1,3,none⟩ (.slice a9 lx c9)=W9 at *
         have d0:=hb9.c0
         have d1:=hb9.c1
         have d2:=hb9.c2
         have d3:=hb9.c3
         go_wp2_with fail
         exact bodyPost_ret (v:=.tuple #[.agg #[.int .i64 (d:Int),.int .i64 (u:Int),.slice aX lx cX,.slice a9 lx c9],.bool false,.int .i64 0]) (by simp [results,Tryz.results112,go_sem,d0,d1,d2,d3]) rfl ⟨⟨_,_,rfl,.inr ⟨rfl,d,u,i,x,⟨hdu,by rw [Hle.out];omega,fun d' u' h1 h2 h3=>Hbef.out d' u' h1 h2 (by have:=Hle.out;omega),fun u' h1 h2=>Hrow.out u' h1 h2,HTk.out,HX.out,of_decide_eq_true Hdd.out⟩,_,_,rfl,Hox.out.mono (by omega),Ho9b.out.mono (by omega)⟩⟩,Hfx.out⟩
       | false =>
        go_wp2_with fail
        go_roundw
        case rel=>first | exact ⟨i+1,by go_num,by omega,Htk.out i x u HX.out HTk.out (of_decide_eq_false Hdd.out),HE5.out⟩ | ((repeat apply Exists.intro);exact ⟨⟨i+1,by go_num,by omega,Htk.out i x u HX.out HTk.out (of_decide_eq_false Hdd.out),HE5.out⟩,rfl⟩)
        case measure=>simp [zal];omega
      ·obtain rfl:i=z1:=by omega
       have hiz2:¬ (i:Int)<(i:Int):=(by omega);have HE3:=hid hE3;clear hE3;go_wp2_with fail
       go_roundw
       case rel=>exact ⟨u+1,by go_num,by omega,by omega,fun u' h1 h2=>by
        rcases Nat.lt_or_ge u' u with g | g
        ·exact Hrow.out u' h1 g
        ·obtain rfl:u'=u:=by omega
         exact Hdj.out _ _ (Nat.le_refl _) HTk.out,HE3.out⟩
       case measure=>simp [zal];omega
    ·obtain rfl:u=n+1:=by omega
     have huk:¬ ((n+1:Nat):Int)<((n+1:Nat):Int):=(by omega);have HE2:=hid hE2;clear hE2;go_wp2_with fail
     go_roundw
     case rel=>exact ⟨d+1,by go_num,by omega,fun d' u' h1 h2 h3=>by
      rcases Nat.lt_or_ge d' d with g | g
      ·exact Hbef.out d' u' g h2 h3
      ·obtain rfl:d'=d:=by omega
       exact Hrow.out u' h2 (by omega),HE2.out⟩
     case measure=>simp [zal];omega
  ·obtain rfl:d=n+1:=by omega
   have hik:¬ ((n+1:Nat):Int)<((n+1:Nat):Int):=(by omega);have b6:=B3.out.ext hE;have hE6:=Hx.out.trans hE;have c0:=b6.c0;have c1:=b6.c1;have c2:=b6.c2;have c3:=b6.c3;have z0:=b6.fz 0;have z1:=b6.fz 1;have z2:=b6.fz 2;have z3:=b6.fz 3;have B6:=hid b6;have HE6:=hid hE6;clear b6 hE6 hE;have hp4:=B6.out.put (.int .i64 0) (.int .i64 0) (.slice none 0 0) (.slice none 0 0);have d0:=hp4.c0;have d1:=hp4.c1;have d2:=hp4.c2;have d3:=hp4.c3;go_wp2_with fail
   exact bodyPost_ret (v:=.tuple #[zmt,.bool true,.int .i64 0]) (by simp [results,Tryz.results112,go_sem,d0,d1,d2,d3,zmt]) rfl ⟨⟨_,_,rfl,.inl ⟨rfl,rfl,fun d' u' h1 h2=>Hbef.out d' u' (by have:=Hle.out;omega) h1 (by have:=Hle.out;omega)⟩⟩,HE6.out.put4 (by omega) _ _ _ _⟩
theorem zoc {w:World}{B:Nat}{c:Value}{a b:Int}{x y:List Rat}(h:zms w B c a b x y):∃ j1 j2 a1 n1 c1 a2 n2 c2,c=.agg #[.int .i64 j1,.int .i64 j2,.slice a1 n1 c1,.slice a2 n2 c2]:=by
 obtain ⟨u1,u2,rfl,h1,h2⟩:=h;obtain ⟨a1,c1,rfl⟩:=zfi h1;obtain ⟨a2,c2,rfl⟩:=zfi h2;exact ⟨_,_,_,_,_,_,_,_,rfl⟩
theorem zod : ∃ j1 j2 a1 n1 c1 a2 n2 c2,zmt=.agg #[.int .i64 j1,.int .i64 j2,.slice a1 n1 c1,.slice a2 n2 c2]:=⟨_,_,_,_,_,_,_,_,rfl⟩
def zoe (W0:World)(g:Nat)(lb:Array Value)(P:Int):Prop :=
 ∀ W v p rs,Ext W0 W→Env W→ScV W v p rs→(2≤P→P≤6→Wc p (rs.map Qw.x))→Calls Tryz.prog g (#[v]++lb) W fun e w'=>e=.returned (.tuple #[.bool (tst P p (rs.map Qw.x)),.int .i64 0])∧Ext W w'
theorem zoe.ext {W0 W1:World}{g:Nat}{lb:Array Value}{P:Int}(h:zoe W0 g lb P)(hx:Ext W0 W1):zoe W1 g lb P:=fun W v p rs hE he hs hw=>h W v p rs (hx.trans hE) he hs hw
theorem zof (b:Nat)(k:Int)(v:Value)(p:List Int)(rs:List Qw)(w:World)(he:Env w)(hb:w.cell? ⟨b,0,none⟩=some (.int .i64 k))(hs:ScV w v p rs)(h:Wc p (rs.map Qw.x)) :
  Calls Tryz.prog 108 #[v,.pointer (some ⟨b,0,none⟩)] w fun e w'=>e=.returned (.tuple #[.bool (decide (kd p (rs.map Qw.x)=k)),.int .i64 0])∧Ext w w':=by
 have hkc:=fun W sv (hE:Ext w W)(hs:ScV W sv p rs)=>znS sv p rs W (he.ext hE) hs h;obtain ⟨ap,cp,an,cn,rfl,hs⟩:=znG hs;have hE0:Ext w (w.alloc (.cells #[.slice ap p.length cp,.slice an rs.length cn] 28)):=(Ext.refl w).alloc _;have hb1:=zjl.new 28 w (.slice ap p.length cp) (.slice an rs.length cn);have hc:=hkc _ _ hE0 (hs.ext hE0);have q0:=hb1.c0;have q1:=hb1.c1;have Hc:=hid hc;have HE0:=hid hE0;have Hb:=hid hb;clear hkc hs hE0 hb1 hc he h hb;generalize kd p (rs.map Qw.x)=K at *;go_enter Tryz.func108,Tryz.ntmps108
 go_wp2_with fail
 refine Hc.out.mono ?_;rintro e w1 ⟨rfl,hx1⟩;have hb2:=(HE0.out.trans hx1).cell Hb.out;have Hx1:=hid (HE0.out.trans hx1);clear hx1 q0 q1;by_cases hk:K=k
 ·have hk2:(K == k)=true:=by simpa using hk
  have Hk:=hid (decide_eq_true hk);clear hk;go_wp2_with fail
  go_ret2
  exact ⟨by rw [Hk.out] <;> rfl,Hx1.out⟩
 ·have hk2:(K == k)=false:=by simpa using hk
  have Hk:=hid (decide_eq_false hk);clear hk;go_wp2_with fail
  go_ret2
  exact ⟨by rw [Hk.out] <;> rfl,Hx1.out⟩
theorem zog (b f:Nat)(is:Bool)(v:Value)(p:List Int)(rs:List Qw)(w:World)(hb:w.cell? ⟨b,0,none⟩=some (.func (.func f) #[] #[]))(hs:ScV w v p rs)
  (eg:∀ args w,(callFunc f args).run Tryz.prog w=.ok (.enter f args) w)
  (hf:∀ W sv,Ext w W→ScV W sv p rs→Calls Tryz.prog f #[sv] W fun e w'=>(∃ j1 j2 a1 n1 c1 a2 n2 c2,e=.returned (.tuple #[.agg #[.int .i64 j1,.int .i64 j2,.slice a1 n1 c1,.slice a2 n2 c2],.bool is,.int .i64 0]))∧Ext W w') :
  Calls Tryz.prog 110 #[v,.pointer (some ⟨b,0,none⟩)] w fun e w'=>e=.returned (.tuple #[.bool is,.int .i64 0])∧Ext w w':=by
 obtain ⟨ap,cp,an,cn,rfl,hs⟩:=znG hs;have hE0:Ext w (w.alloc (.cells #[.slice ap p.length cp,.slice an rs.length cn] 28)):=(Ext.refl w).alloc _;have hb1:=zjl.new 28 w (.slice ap p.length cp) (.slice an rs.length cn);have hc:=hf _ _ hE0 (hs.ext hE0);have q0:=hb1.c0;have q1:=hb1.c1;have q2:=hE0.cell hb;have Hc:=hid hc;have HE0:=hid hE0;clear hf hs hE0 hb1 hc hb;go_enter Tryz.func110,Tryz.ntmps110
 go_wp2_with fail
 refine Hc.out.mono ?_;rintro e w1 ⟨⟨j1,j2,a1,n1,c1,a2,n2,c2,rfl⟩,hx1⟩;have Hx1:=hid ((HE0.out.trans hx1).alloc (.cells #[.int .i64 j1,.int .i64 j2,.slice a1 n1 c1,.slice a2 n2 c2] 43));clear hx1 q0 q1 q2;go_wp2_with fail
 go_ret2
 exact ⟨rfl,Hx1.out⟩
theorem zoh (v:Value)(p:List Int)(rs:List Qw)(w:World)(hs:ScV w v p rs) :
  Calls Tryz.prog 113 #[v] w fun e w'=>e=.returned (.tuple #[.bool true,.int .i64 0])∧Ext w w':=by
 obtain ⟨ap,cp,an,cn,rfl,hs⟩:=znG hs;have HE0:=hid ((Ext.refl w).alloc (.cells #[.slice ap p.length cp,.slice an rs.length cn] 28));clear hs;go_enter Tryz.func113,Tryz.ntmps113
 go_wp2_with fail
 go_ret2
 exact ⟨rfl,HE0.out⟩
theorem zoi (k:Int)(w:World):Calls Tryz.prog 107 #[.int .i64 k] w fun e w'=>e=.returned (.func (.func 108) #[] #[.pointer (some ⟨w.heap.size,0,none⟩)])∧w'=w.alloc (.cells #[.int .i64 k] 3):=by
 go_enter Tryz.func107,Tryz.ntmps107
 go_wp2_with fail
 go_ret
 exact ⟨rfl,rfl⟩
theorem zoj (f:Nat)(w:World):Calls Tryz.prog 109 #[.func (.func f) #[] #[]] w fun e w'=>e=.returned (.func (.func 110) #[] #[.pointer (some ⟨w.heap.size,0,none⟩)])∧w'=w.alloc (.cells #[.func (.func f) #[] #[]] 45):=by
 go_enter Tryz.func109,Tryz.ntmps109
 go_wp2_with fail
 go_ret
 exact ⟨rfl,rfl⟩
theorem zok {p:List Int}{N:List (List Rat)}:tst 4 p N=decide (Pro p N):=rfl
theorem zol {p:List Int}{N:List (List Rat)}:tst 5 p N=decide (Str p N):=rfl
theorem zom {p:List Int}{N:List (List Rat)}:tst 6 p N=decide (Cst p N):=rfl
theorem zon {b:Bool}{q:Prop}[Decidable q](h:b=true ↔ q):b=decide q:=by
 rw [Bool.eq_iff_iff,h,decide_eq_true_iff]
theorem zoo (w:World)(v:Value)(T:TypeId):(w.alloc (.cells #[v] T)).cell? ⟨w.heap.size,0,none⟩=some v:=by
 unfold World.cell?;dsimp only;rw [World.alloc_heap_new];rfl
theorem zop (w:World)(k P:Int)(hP:(P=2∧k=1)∨(P=3∧k=2)):zoe (w.alloc (.cells #[.int .i64 k] 3)) 108 #[.pointer (some ⟨w.heap.size,0,none⟩)] P:=fun W v p rs hE he hs hw=>by
 have:=zof w.heap.size k v p rs W he (hE.cell (zoo w _ _)) hs (hw (by omega) (by omega));rcases hP with ⟨rfl,rfl⟩ | ⟨rfl,rfl⟩ <;> exact this
theorem zoq (w:World)(T:TypeId):zoe (w.alloc (.cells #[.func (.func 11) #[] #[]] T)) 110 #[.pointer (some ⟨w.heap.size,0,none⟩)] 4:=fun W v p rs hE he hs hw=>by
 have hc:=hw (by omega) (by omega);refine zog w.heap.size 11 (tst 4 p (rs.map Qw.x)) v p rs W (hE.cell (zoo w _ _)) hs (fun _ _=>rfl) fun W2 sv hE2 hs2=>(znV sv p rs W2 (he.ext hE2) hs2 hc).mono fun e w' ⟨⟨c,is,hr,ho⟩,hx⟩=>?_;have e1:is=tst 4 p (rs.map Qw.x):=by rw [zok];exact zon (ho.is.trans hc.pro_iff.symm)
 subst hr e1;refine ⟨?_,hx⟩;rcases ho with ⟨_,e,_⟩ | ⟨_,d,x,y,_,hv⟩
 ·obtain ⟨j1,j2,a1,n1,c1,a2,n2,c2,h⟩:=zod;exact ⟨j1,j2,a1,n1,c1,a2,n2,c2,by rw [e,h]⟩
 ·obtain ⟨j1,j2,a1,n1,c1,a2,n2,c2,h⟩:=zoc hv;exact ⟨j1,j2,a1,n1,c1,a2,n2,c2,by rw [h]⟩
theorem zor (w:World)(T:TypeId):zoe (w.alloc (.cells #[.func (.func 111) #[] #[]] T)) 110 #[.pointer (some ⟨w.heap.size,0,none⟩)] 5:=fun W v p rs hE he hs hw=>by
 have hc:=hw (by omega) (by omega);refine zog w.heap.size 111 (tst 5 p (rs.map Qw.x)) v p rs W (hE.cell (zoo w _ _)) hs (fun _ _=>rfl) fun W2 sv hE2 hs2=>(znW sv p rs W2 (he.ext hE2) hs2 hc).mono fun e w' ⟨⟨c,is,hr,ho⟩,hx⟩=>?_;have e1:is=tst 5 p (rs.map Qw.x):=by rw [zol];exact zon (ho.is.trans hc.str_iff2.symm)
 subst hr e1;refine ⟨?_,hx⟩;rcases ho with ⟨_,e,_⟩ | ⟨_,d,x,y,_,hv⟩
 ·obtain ⟨j1,j2,a1,n1,c1,a2,n2,c2,h⟩:=zod;exact ⟨j1,j2,a1,n1,c1,a2,n2,c2,by rw [e,h]⟩
 ·obtain ⟨j1,j2,a1,n1,c1,a2,n2,c2,h⟩:=zoc hv;exact ⟨j1,j2,a1,n1,c1,a2,n2,c2,by rw [h]⟩
theorem zos (w:World)(T:TypeId):zoe (w.alloc (.cells #[.func (.func 112) #[] #[]] T)) 110 #[.pointer (some ⟨w.heap.size,0,none⟩)] 6:=fun W v p rs hE he hs hw=>by
 have hc:=hw (by omega) (by omega);refine zog w.heap.size 112 (tst 6 p (rs.map Qw.x)) v p rs W (hE.cell (zoo w _ _)) hs (fun _ _=>rfl) fun W2 sv hE2 hs2=>(zob sv p rs W2 (he.ext hE2) hs2 hc).mono fun e w' ⟨⟨c,is,hr,ho⟩,hx⟩=>?_;have e1:is=tst 6 p (rs.map Qw.x):=by rw [zom];exact zon ho.is
 subst hr e1;refine ⟨?_,hx⟩;rcases ho with ⟨_,e,_⟩ | ⟨_,d,u,i,x,_,hv⟩
 ·obtain ⟨j1,j2,a1,n1,c1,a2,n2,c2,h⟩:=zod;exact ⟨j1,j2,a1,n1,c1,a2,n2,c2,by rw [e,h]⟩
 ·obtain ⟨j1,j2,a1,n1,c1,a2,n2,c2,h⟩:=zoc hv;exact ⟨j1,j2,a1,n1,c1,a2,n2,c2,by rw [h]⟩
theorem zot (w:World)(P:Int)(h:P<2∨6<P):zoe w 113 #[] P:=fun W v p rs _ _ hs _=>by
 have e:tst P p (rs.map Qw.x)=true:=by
  unfold tst;rw [if_neg (by omega),if_neg (by omega),if_neg (by omega),if_neg (by omega),if_neg (by omega)]
 rw [e];exact zoh v p rs W hs
theorem zou (P:Int)(w:World) :
  Calls Tryz.prog 53 #[.int .i64 P] w fun e w'=>∃ g lb,e=.returned (.func (.func g) #[] lb)∧(∀ args w,(callFunc g args).run Tryz.prog w=.ok (.enter g args) w)∧zoe w' g lb P∧Ext w w':=by
 by_cases h2:P=2
 ·subst h2;have hk:=zop w 1 2 (.inl ⟨rfl,rfl⟩);have Hk:=hid hk;clear hk;go_enter Tryz.func53,Tryz.ntmps53
  go_wp2_with fail
  refine (zoi _ _).mono ?_;rintro e w1 ⟨rfl,rfl⟩;go_wp2_with fail
  go_ret
  exact ⟨_,_,rfl,fun _ _=>rfl,Hk.out,(Ext.refl w).alloc _⟩
 ·by_cases h3:P=3
  ·subst h3;have hk:=zop w 2 3 (.inr ⟨rfl,rfl⟩);have Hk:=hid hk;clear hk h2;go_enter Tryz.func53,Tryz.ntmps53
   go_wp2_with fail
   refine (zoi _ _).mono ?_;rintro e w1 ⟨rfl,rfl⟩;go_wp2_with fail
   go_ret
   exact ⟨_,_,rfl,fun _ _=>rfl,Hk.out,(Ext.refl w).alloc _⟩
  ·by_cases h4:P=4
   ·subst h4;have hk:=zoq w 45;have Hk:=hid hk;clear hk h2 h3;go_enter Tryz.func53,Tryz.ntmps53
    go_wp2_with fail
    refine (zoj _ _).mono ?_;rintro e w1 ⟨rfl,rfl⟩;go_wp2_with fail
    go_ret
    exact ⟨_,_,rfl,fun _ _=>rfl,Hk.out,(Ext.refl w).alloc _⟩
   ·by_cases h5:P=5
    ·subst h5;have hk:=zor w 45;have Hk:=hid hk;clear hk h2 h3 h4;go_enter Tryz.func53,Tryz.ntmps53
     go_wp2_with fail
     refine (zoj _ _).mono ?_;rintro e w1 ⟨rfl,rfl⟩;go_wp2_with fail
     go_ret
     exact ⟨_,_,rfl,fun _ _=>rfl,Hk.out,(Ext.refl w).alloc _⟩
    ·by_cases h6:P=6
     ·subst h6;have hk:=zos w 45;have Hk:=hid hk;clear hk h2 h3 h4 h5;go_enter Tryz.func53,Tryz.ntmps53
      go_wp2_with fail
      refine (zoj _ _).mono ?_;rintro e w1 ⟨rfl,rfl⟩;go_wp2_with fail
      go_ret
      exact ⟨_,_,rfl,fun _ _=>rfl,Hk.out,(Ext.refl w).alloc _⟩
     ·have e2:(P == 2)=false:=(by simpa using h2);have e3:(P == 3)=false:=(by simpa using h3);have e4:(P == 4)=false:=(by simpa using h4);have e5:(P == 5)=false:=(by simpa using h5);have e6:(P == 6)=false:=(by simpa using h6);have hk:=zot w P (by omega);have Hk:=hid hk;clear hk h2 h3 h4 h5 h6;go_enter Tryz.func53,Tryz.ntmps53
      go_wp2_with fail
      go_ret
      exact ⟨_,_,rfl,fun _ _=>rfl,Hk.out,Ext.refl w⟩
theorem zow (v vl:Value)(p:List Int)(rs:List Qw)(m P:Int)(M:List Int)(b:Bool)(l:List Int)(w:World)(he:Env w)(hv:QyV w v p rs m P M b)(h:Wd p (rs.map Qw.x))(hvl:Sl w vl (zap l))(hl60:l.length≤60)(hse:zj4 rs.length l=0)
  (hw:2≤P→P≤6→Wc p (zjA p (rs.map Qw.x) l)) :
  Calls Tryz.prog 81 #[v,vl] w fun e w'=>e=.returned (.tuple #[.bool (tst P p (zjA p (rs.map Qw.x) l)),.int .i64 0])∧Ext w w':=by
 have hsb:=fun W sv (hE:Ext w W)(hs:ScV W sv p rs)=>znn sv vl p rs l W (he.ext hE) hs h (hE.sl hvl) hl60;obtain ⟨ap,cp,an,cn,am,cm,rfl,hs,hmm⟩:=hv.let;have hE0:Ext w (w.alloc (.cells #[.slice ap p.length cp,.slice an rs.length cn,.int .i64 m,.int .i64 P,.slice am M.length cm,.bool b] 59)):=(Ext.refl w).alloc _;have hb:=zno.new w (.slice ap p.length cp) (.slice an rs.length cn) m P (.slice am M.length cm) b;have hc:=(hsb _ _ hE0 (hs.ext hE0)).mono fun e w' ⟨u,he,_,h2,hx⟩=>(show ∃ u out,e=Ending.returned (.tuple #[u,.int .i64 0])∧ScO w' (w.alloc (.cells #[.slice ap p.length cp,.slice an rs.length cn,.int .i64 m,.int .i64 P,.slice am M.length cm,.bool b] 59)).heap.size u p out∧out.map Qw.x=zjA p (rs.map Qw.x) l∧Ext _ w' by
  obtain ⟨out,ho,hm⟩:=h2 hse;rw [hse] at he;exact ⟨u,out,he,ho,hm,hx⟩)
 obtain ⟨al,cl,rfl,_,_,_⟩:=hvl.parts;rw [zar] at *;have Hc:=hid hc;have HE0:=hid hE0;have Hb:=hid hb;have He:=hid he;have Hw:=hid hw;clear hsb hs hmm hE0 hb hc hv he hw hse hvl h hl60;generalize hN:zjA p (rs.map Qw.x) l=N at *;clear hN;generalize rs.length=n at *;generalize l.length=L at *;generalize M.length=ML at *;go_enter Tryz.func81,Tryz.ntmps81
 obtain ⟨q0,q1,_,_,_,_⟩:=Hb.out.cs;go_wp2_with fail
 refine Hc.out.mono ?_;rintro e w1 ⟨u,out,rfl,hso,hout,hx1⟩;obtain ⟨a2,c2,a3,c3,rfl,hs2⟩:=znG hso.scV;have hE1:=HE0.out.trans hx1;have hE2:=hE1.alloc (.cells #[.slice a2 p.length c2,.slice a3 out.length c3] 28);have hb2:=zjl.new 28 w1 (.slice a2 p.length c2) (.slice a3 out.length c3);have hbq:=Hb.out.ext (hx1.alloc (.cells #[.slice a2 p.length c2,.slice a3 out.length c3] 28));have hs3:=hs2.ext ((Ext.refl w1).alloc (.cells #[.slice a2 p.length c2,.slice a3 out.length c3] 28));have Hout:=hid hout;clear hso hs2 hx1 q0 q1 hE1 hout;go_wp2_with fail
 generalize hW2:w1.alloc (.cells #[.slice a2 p.length c2,.slice a3 out.length c3] 28)=W2 at *;have hg0:=hb2.c0;have hg1:=hb2.c1;have hg3:=hbq.cs.2.2.2.1;have Hs3:=hid hs3;have HE2:=hid hE2;clear hs3 hE2 hb2 hbq hW2;go_region_held3 (fun w'=>Ext W2 w'∧w'.cell? ⟨w1.heap.size,0,none⟩=some (.slice a2 p.length c2)∧w'.cell? ⟨w1.heap.size,1,none⟩=some (.slice a3 out.length c3)∧w'.cell? ⟨w.heap.size,3,none⟩=some (.int .i64 P))
  (first | (with_reducible assumption) | exact ⟨(Ext.refl W2).drew,hg0,hg1,hg3⟩)
  (first
   | (go_at_call 53;refine (zou P _).mono ?_;rintro e9 VA ⟨g,lb,rfl,eg,htf,hxa⟩;have hEA:Ext W2 VA:=Ext.trans (And.left (by assumption)) hxa;have hS2:Ext W2 VA∧VA.cell? ⟨w1.heap.size,0,none⟩=some (.slice a2 p.length c2)∧VA.cell? ⟨w1.heap.size,1,none⟩=some (.slice a3 out.length c3)∧VA.cell? ⟨w.heap.size,3,none⟩=some (.int .i64 P):=⟨hEA,hEA.cell hg0,hEA.cell hg1,hEA.cell hg3⟩;have HEA:=hid hEA;have Htf:=hid htf;clear hxa hEA htf)
   | (refine (Htf.out _ _ p out (Ext.refl _) (He.out.ext (HE2.out.trans HEA.out)) (Hs3.out.ext HEA.out) (by rw [Hout.out];exact Hw.out)).mono ?_;rintro e9 VB ⟨rfl,hxa⟩;have hEB:Ext W2 VB:=HEA.out.trans hxa;have hS3:Ext W2 VB∧VB.cell? ⟨w1.heap.size,0,none⟩=some (.slice a2 p.length c2)∧VB.cell? ⟨w1.heap.size,1,none⟩=some (.slice a3 out.length c3)∧VB.cell? ⟨w.heap.size,3,none⟩=some (.int .i64 P):=⟨hEB,hEB.cell hg0,hEB.cell hg1,hEB.cell hg3⟩;have HEB:=hid hEB;clear hxa hEB))
 all_goals
  go_wp2_with fail
  go_ret2
  exact ⟨by rw [Hout.out] <;> rfl,HE2.out.trans HEB.out⟩
end
section
open Go.RowKit Go.Lib Go.Shelf
def zox (P:Int→Bool)(rs:List Int)(z:Int):Prop:=(z=-1∧∀ r∈rs,P r=false)∨∃ (k:Nat)(r:Int),z=k∧rs[k]?=some r∧P r=true∧∀ s∈rs.take k,P s=false
theorem zox.any {P:Int→Bool}{rs:List Int}{z:Int}(h:zox P rs z):rs.any (fun r=>P r)=decide (0≤z):=by
 rcases h with ⟨rfl,h⟩ | ⟨k,r,rfl,h1,h2,_⟩
 ·rw [show decide ((0:Int)≤-1)=false by decide,List.any_eq_false];intro r hr;rw [h r hr];simp
 ·rw [show decide ((0:Int)≤(k:Int))=true from decide_eq_true (by omega),List.any_eq_true];exact ⟨r,List.mem_of_getElem? h1,h2⟩
theorem zoy (g:Nat)(cb:Array Value)(v:Value)(rs:List Int)(P:Int→Bool)(w:World)(hv:Sl w v (zap rs))(hl:rs.length≤1000)
  (eg:∀ args w,(callFunc g args).run Tryz.prog w=.ok (.enter g args) w)
  (hp:∀ W,Ext w W→∀ r∈rs,Calls Tryz.prog g (#[.int .i64 r]++cb) W fun e w'=>e=.returned (.bool (P r))∧Ext W w') :
  Calls Tryz.prog 140 #[v,.func (.func g) #[] cb] w fun e w'=>∃ z:Int,e=.returned (.int .i64 z)∧zox P rs z∧Ext w w':=by
 obtain ⟨a,c,rfl,_,_,hc⟩:=hv.parts;rw [zar];have hcell:∀ k r,rs[k]?=some r→∃ b off,a=some ⟨b,off,none⟩∧w.cell? ⟨b,off+k,none⟩=some (.int .i64 r):=fun k r hr=>hc k (.int .i64 r) (by unfold zap;rw [List.getElem?_map,hr];rfl);generalize hn:rs.length=n at *;have Hn:=hid hn;have Hp:=hid hp;have Hc:=hid hcell;clear hv hc hn hp hcell;go_enter Tryz.func140,Tryz.ntmps140
 go_wp2_with fail
 go_loopw [5,8] (fun v5 v8 wr=>∃ k:Nat,v8=.int .i64 k∧k≤n∧(∀ s∈rs.take k,P s=false)∧Ext w wr) (fun _ v8 _=>n - (zal v8).toNat)
 case atStart=>exact ⟨0,rfl,Nat.zero_le _,fun r h=>by simp at h,Ext.refl _⟩
 case round =>
  obtain ⟨k,rfl,hk,hall,hE⟩:=hrel;have Hall:=hid hall;clear hall;by_cases hlt:k<n
  ·obtain ⟨r,hr⟩:∃ r,rs[k]?=some r:=⟨_,List.getElem?_eq_getElem (by rw [Hn.out];exact hlt)⟩;obtain ⟨b,off,rfl,h0⟩:=Hc.out k r hr;have hc0:=hE.cell h0;have hd:=Hp.out wr hE r (List.mem_of_getElem? hr);have HE:=hid hE;have Hr:=hid hr;clear hr h0 hE;generalize hdx:P r=dx at *;have Hd:=hid hd;have Hdx:=hid hdx;clear hd hdx;have hk0:(0:Int)≤(k:Int):=(by omega);have hk1:(k:Int)<(n:Int):=(by omega);go_wp2_with fail
   refine Hd.out.mono ?_;rintro e W2 ⟨rfl,hx2⟩;have HE2:=hid (HE.out.trans hx2);clear hx2
   cases dx with
   | true =>
    go_wp2
    go_ret
    exact ⟨_,rfl,.inr ⟨k,r,rfl,Hr.out,Hdx.out,Hall.out⟩,HE2.out⟩
   | false =>
    go_wp2_with fail
    go_roundw
    case rel=>exact ⟨k+1,by go_num,hlt,fun s hs=>by
     obtain ⟨hl2,e⟩:=List.getElem?_eq_some_iff.1 Hr.out;rw [List.take_succ_eq_append_getElem hl2] at hs;rcases List.mem_append.1 hs with h | h
     ·exact Hall.out s h
     ·rw [List.mem_singleton] at h;rw [h,e];exact Hdx.out,HE2.out⟩
    case measure=>simp [zal];omega
  ·have hkk:¬ (k:Int)<(n:Int):=(by omega);have hkl:k=n:=(by omega);have Hkl:=hid hkl;clear hkl;have HE:=hid hE;clear hE;go_wp2
   go_ret
   exact ⟨-1,rfl,.inl ⟨rfl,fun r hr=>Hall.out r (by rw [Hkl.out,← Hn.out,List.take_length];exact hr)⟩,HE.out⟩
theorem zoz (g:Nat)(cb:Array Value)(v:Value)(rs:List Int)(P:Int→Bool)(w:World)(hv:Sl w v (zap rs))(hl:rs.length≤1000)
  (eg:∀ args w,(callFunc g args).run Tryz.prog w=.ok (.enter g args) w)
  (hp:∀ W,Ext w W→∀ r∈rs,Calls Tryz.prog g (#[.int .i64 r]++cb) W fun e w'=>e=.returned (.bool (P r))∧Ext W w') :
  Calls Tryz.prog 78 #[v,.func (.func g) #[] cb] w fun e w'=>e=.returned (.bool (rs.any fun r=>P r))∧Ext w w':=by
 have hi:=zoy g cb v rs P w hv hl eg hp;obtain ⟨a,c,rfl,_,_,_⟩:=hv.parts;have Hi:=hid hi;clear hi hp hv;go_enter Tryz.func78,Tryz.ntmps78
 go_wp2_with fail
 refine Hi.out.mono ?_;rintro e w1 ⟨z,rfl,hz,hx⟩;have Hz:=hid hz.any;have Hx:=hid hx;clear hz hx;go_wp2
 go_ret
 exact ⟨by rw [Hz.out];rfl,Hx.out⟩
theorem zo0 (v:Value)(l:List Int)(x:Int)(w:World)(hv:Sl w v (zap l))(hl:l.length≤1000) :
  Calls Tryz.prog 80 #[v,.int .i64 x] w fun e w'=>e=.returned (.bool (l.contains x))∧w'=w:=by
 obtain ⟨a,c,rfl,_,_,hc⟩:=hv.parts;rw [zar]
 cases l with
 | nil=>exact AnyE.slices_Contains_empty Tryz.lHasI a c (.int .i64 x) w
 | cons y l =>
  obtain ⟨b,off,rfl,_⟩:=hc 0 (.int .i64 y) rfl
  refine (AnyE.slices_Contains Tryz.lHasI (Value.int .i64) (fun x y=>x == y) (EqlAt.int _ _ .i64) b off (y::l).length c (y::l) x w (Nat.le_refl _) (by omega) (fun j hj=>?_)).mono ?_
  ·have hj2:(zap (y::l))[j]?=some (.int .i64 ((y::l)[j]!)):=by
    unfold zap;rw [List.getElem?_map,List.getElem?_eq_getElem hj,Option.map_some,List.getElem!_eq_getElem?_getD,List.getElem?_eq_getElem hj];rfl
   obtain ⟨b2,off2,e,h⟩:=hc j _ hj2
   injection e with e
   injection e with e1 e2
   rw [e1,e2]
   exact h
  ·rintro e w' ⟨rfl,rfl⟩
   refine ⟨?_,rfl⟩
   rw [List.take_length]
   congr 2
   rw [Bool.eq_iff_iff,List.any_eq_true,List.contains_iff_mem]
   exact ⟨fun ⟨z,hz,e⟩=>by rw [beq_iff_eq.1 e];exact hz,fun h=>⟨x,h,beq_self_eq_true x⟩⟩
end
end Go.Proofs.YtebabancfnmfjaaGreatDoor
