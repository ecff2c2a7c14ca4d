/- Walks: slices.Equal at primes, slices.EqualFunc at sizes; law 31's same, scale.same. Walk: law 31's known. Walks: the law ScaleNotes. -/
import Derived.Test.YtnppiicceblfkaaGreatDoorPa20
import Derived.Test.YtnppiicceblfkaaGreatDoorPa18
import Derived.Test.YtnppiicceblfkaaGreatDoorPa05
import Derived.Test.YtnppiicceblfkaaGreatDoorPa30
import Derived.Test.YtnppiicceblfkaaGreatDoorPa29
import Derived.Deep.DeepCutAuto
set_option maxRecDepth 100000
set_option maxHeartbeats 4000000
namespace Go.Proofs.YtnppiicceblfkaaGreatDoor
open Go.RowKit Go.Lib Go.Shelf
attribute [local go_sem] Oper.semAt_some
theorem zoi {w:World}{v:Value}{p:List Int}{rs:List Qw}(h:ScV w v p rs):∃ a c b d,v=.agg #[.slice a p.length c,.slice b rs.length d]∧ScV w (.agg #[.slice a p.length c,.slice b rs.length d]) p rs:=by
 obtain ⟨vp,vn,rfl,hp,hn⟩:=h;obtain ⟨a,c,rfl,_,_,_⟩:=hp.parts;obtain ⟨b,d,rfl,_,_,_⟩:=hn.1.parts;rw [zar] at *;rw [zfE] at *;exact ⟨a,c,b,d,rfl,_,_,rfl,hp,hn⟩
theorem zoj (va vb:Value)(p q:List Int)(w:World)(ha:Sl w va (zap p))(hb:Sl w vb (zap q))(hp:p.length≤1000)(hq:q.length≤1000) :
  Calls Tryz.prog 55 #[va,vb] w fun e w'=>e=.returned (.bool (decide (p=q)))∧Ext w w':=by
 obtain ⟨aa,ca,rfl,_,_,hca⟩:=ha.parts;obtain ⟨ab,cb,rfl,_,_,hcb⟩:=hb.parts;rw [zar] at *;rw [zar] at *;have h1:∀ k x,p[k]?=some x→∃ b off,aa=some ⟨b,off,none⟩∧w.cell? ⟨b,off+k,none⟩=some (.int .i64 x):=fun k x h=>hca k _ (by unfold zap;rw [List.getElem?_map,h];rfl);have h2:∀ k x,q[k]?=some x→∃ b off,ab=some ⟨b,off,none⟩∧w.cell? ⟨b,off+k,none⟩=some (.int .i64 x):=fun k x h=>hcb k _ (by unfold zap;rw [List.getElem?_map,h];rfl);clear hca hcb ha hb;by_cases hl:p.length=q.length
 ·have Hl:=hid hl;rw [← hl];have hfin:(∀ i,i<p.length→p[i]?=q[i]?)→decide (p=q)=true:=fun h=>by
   rw [decide_eq_true_eq];apply List.ext_getElem?;intro i;rcases Nat.lt_or_ge i p.length with g | g
   ·exact h i g
   ·rw [List.getElem?_eq_none g,List.getElem?_eq_none (by omega)]
  have hbad:∀ (i:Nat)(x y:Int),p[i]?=some x→q[i]?=some y→x ≠ y→decide (p=q)=false:=fun i x y h1 h2 h3=>by
   rw [decide_eq_false_iff_not];rintro rfl;rw [h1] at h2;exact h3 (Option.some.inj h2)
  generalize hn:p.length=n at *;clear hl hq;have H1:=hid h1;have H2:=hid h2;have Hfin:=hid hfin;have Hbad:=hid hbad;have Hn:=hid hn;clear h1 h2 hfin hbad hn;go_enter Tryz.func55,Tryz.ntmps55
  go_wp2_with fail
  go_loopw [5,13] (fun v5 v13 wr=>∃ k:Nat,v13=.int .i64 k∧k≤n∧Hid (∀ i,i<k→p[i]?=q[i]?)∧Hid (Ext w wr)) (fun _ v13 _=>n - (zal v13).toNat)
  case atStart=>exact ⟨0,rfl,Nat.zero_le _,hid (fun i h=>by omega),hid (Ext.refl _)⟩
  case round =>
   obtain ⟨k,rfl,hk,Hall,HE⟩:=hrel;by_cases hkn:k<n
   ·obtain ⟨x,hx⟩:∃ x,p[k]?=some x:=⟨_,List.getElem?_eq_getElem (by rw [Hn.out];exact hkn)⟩;obtain ⟨y,hy⟩:∃ y,q[k]?=some y:=⟨_,List.getElem?_eq_getElem (by rw [← Hl.out];exact hkn)⟩;obtain ⟨ba,oa,rfl,c0⟩:=H1.out k x hx;obtain ⟨bb,ob,rfl,c1⟩:=H2.out k y hy;have c0:=HE.out.cell c0;have c1:=HE.out.cell c1;have hk0:(0:Int)≤(k:Int):=(by omega);have hk1:(k:Int)<(n:Int):=(by omega);by_cases hxy:x=y
    ·subst hxy;have Hnx:Hid (∀ i,i<k+1→p[i]?=q[i]?):=hid (fun i hi=>by
      rcases Nat.lt_or_ge i k with g | g
      ·exact Hall.out i g
      ·rw [show i=k by omega,hx,hy])
     clear hx hy;go_wp2_with fail
     go_quiet (fail)
     go_wp2_with fail
     go_roundw
     case rel=>exact ⟨k+1,by go_num,by omega,Hnx,hid (HE.out.drewN _)⟩
     case measure=>simp [zal];omega
    ·have hb1:=Hbad.out k x y hx hy hxy;have hxb:(x == y)=false:=beq_eq_false_iff_ne.2 hxy;have Hb1:=hid hb1;clear hb1 hx hy;go_wp2_with fail
     go_quiet (fail)
     go_wp2
     go_ret
     exact ⟨by rw [Hb1.out];rfl,HE.out.drewN _⟩
   ·obtain rfl:n=k:=by omega
    have Hf:=hid (Hfin.out Hall.out);go_wp2
    go_ret
    exact ⟨by rw [Hf.out];rfl,HE.out⟩
 ·have hne:decide (p=q)=false:=by
   rw [decide_eq_false_iff_not];rintro rfl;exact hl rfl
  rw [hne];have hl2:¬ (p.length:Int)=(q.length:Int):=by omega
  clear h1 h2 hne;generalize p.length=n at *;generalize q.length=m at *;go_enter Tryz.func55,Tryz.ntmps55
  go_wp2
  go_ret
  exact ⟨rfl,Ext.refl _⟩
theorem zok (va vb:Value)(rs ts:List Qw)(w:World)(ha:RdM w va rs)(hb:RdM w vb ts)(hr:rs.length≤1000)(_ht:ts.length≤1000)(hr2:∀ r∈rs,r.x.length≤1000)(ht2:∀ r∈ts,r.x.length≤1000) :
  Calls Tryz.prog 56 #[va,vb,.func (.func 14) #[] #[]] w fun e w'=>e=.returned (.bool (decide (rs.map Qw.x=ts.map Qw.x)))∧Ext w w':=by
 have heq:=fun (r s:Qw)(h:r∈rs)(k:s∈ts) W (hE:Ext w W)=>zkr r.u s.u r.x s.x W (hE.rd (ha.2 r h)) (hE.rd (hb.2 s k)) (hr2 r h) (ht2 s k);obtain ⟨aa,ca,rfl,_,_,hca⟩:=ha.1.parts;obtain ⟨ab,cb,rfl,_,_,hcb⟩:=hb.1.parts;rw [zfE] at *;rw [zfE] at *;have h1:∀ k r,rs[k]?=some r→∃ b off,aa=some ⟨b,off,none⟩∧w.cell? ⟨b,off+k,none⟩=some r.u:=fun k x h=>hca k _ (by unfold qwc;rw [List.getElem?_map,h];rfl);have h2:∀ k r,ts[k]?=some r→∃ b off,ab=some ⟨b,off,none⟩∧w.cell? ⟨b,off+k,none⟩=some r.u:=fun k x h=>hcb k _ (by unfold qwc;rw [List.getElem?_map,h];rfl);clear hca hcb ha hb hr2 ht2;by_cases hl:rs.length=ts.length
 ·have Hl:=hid hl;rw [← hl];have hfin:(∀ i,i<rs.length→(rs.map Qw.x)[i]?=(ts.map Qw.x)[i]?)→decide (rs.map Qw.x=ts.map Qw.x)=true:=fun h=>by
   rw [decide_eq_true_eq];apply List.ext_getElem?;intro i;rcases Nat.lt_or_ge i rs.length with g | g
   ·exact h i g
   ·rw [List.getElem?_eq_none (by rw [List.length_map];exact g),List.getElem?_eq_none (by rw [List.length_map];omega)]
  have hbad:∀ (i:Nat)(r s:Qw),rs[i]?=some r→ts[i]?=some s→r.x ≠ s.x→decide (rs.map Qw.x=ts.map Qw.x)=false:=fun i r s h1 h2 h3=>by
   rw [decide_eq_false_iff_not];intro e;have:=congrArg (fun l=>l[i]?) e;simp only [List.getElem?_map,h1,h2,Option.map_some,Option.some.injEq] at this;exact h3 this
  generalize hn:rs.length=n at *;clear hl _ht;have H1:=hid h1;have H2:=hid h2;have Hfin:=hid hfin;have Hbad:=hid hbad;have Hn:=hid hn;have Heq:=hid heq;clear h1 h2 hfin hbad hn heq;go_enter Tryz.func56,Tryz.ntmps56
  go_wp2_with fail
  go_loopw [7,8,9,17] (fun v7 v8 v9 v17 wr=>∃ k:Nat,v17=.int .i64 k∧k≤n∧Hid (∀ i,i<k→(rs.map Qw.x)[i]?=(ts.map Qw.x)[i]?)∧Hid (Ext w wr)) (fun _ _ _ v17 _=>n - (zal v17).toNat)
  case atStart=>exact ⟨0,rfl,Nat.zero_le _,hid (fun i h=>by omega),hid (Ext.refl _)⟩
  case round =>
   obtain ⟨k,rfl,hk,Hall,HE⟩:=hrel;by_cases hkn:k<n
   ·obtain ⟨r,hx⟩:∃ x,rs[k]?=some x:=⟨_,List.getElem?_eq_getElem (by rw [Hn.out];exact hkn)⟩;obtain ⟨s,hy⟩:∃ y,ts[k]?=some y:=⟨_,List.getElem?_eq_getElem (by rw [← Hl.out];exact hkn)⟩;obtain ⟨ba,oa,rfl,c0⟩:=H1.out k r hx;obtain ⟨bb,ob,rfl,c1⟩:=H2.out k s hy;have c0:=HE.out.cell c0;have c1:=HE.out.cell c1;have hk0:(0:Int)≤(k:Int):=(by omega);have hk1:(k:Int)<(n:Int):=(by omega);have hq:=Heq.out r s (List.mem_of_getElem? hx) (List.mem_of_getElem? hy) wr HE.out;by_cases hxy:r.x=s.x
    ·have Hnx:Hid (∀ i,i<k+1→(rs.map Qw.x)[i]?=(ts.map Qw.x)[i]?):=hid (fun i hi=>by
      rcases Nat.lt_or_ge i k with g | g
      ·exact Hall.out i g
      ·rw [show i=k by omega,List.getElem?_map,List.getElem?_map,hx,hy,Option.map_some,Option.map_some,hxy])
     rw [decide_eq_true hxy] at hq;have Hq:=hid hq;clear hx hy hq hxy;generalize r.u=ur at *;generalize s.u=us at *;go_wp2_with fail
     refine Hq.out.mono ?_;rintro e w2 ⟨rfl,hx2⟩;have HE2:=hid (HE.out.trans hx2);clear hx2;go_wp2_with fail
     go_roundw
     case rel=>exact ⟨k+1,by go_num,by omega,Hnx,HE2⟩
     case measure=>simp [zal];omega
    ·have hb1:=Hbad.out k r s hx hy hxy;rw [decide_eq_false hxy] at hq;have Hb1:=hid hb1;have Hq:=hid hq;clear hb1 hx hy hq hxy;generalize r.u=ur at *;generalize s.u=us at *;go_wp2_with fail
     refine Hq.out.mono ?_;rintro e w2 ⟨rfl,hx2⟩;have HE2:=hid (HE.out.trans hx2);clear hx2;go_wp2
     go_ret
     exact ⟨by rw [Hb1.out];rfl,HE2.out⟩
   ·obtain rfl:n=k:=by omega
    have Hf:=hid (Hfin.out Hall.out);go_wp2
    go_ret
    exact ⟨by rw [Hf.out];rfl,HE.out⟩
 ·have hne:decide (rs.map Qw.x=ts.map Qw.x)=false:=by
   rw [decide_eq_false_iff_not];intro e;have:=congrArg List.length e;rw [List.length_map,List.length_map] at this;exact hl this
  rw [hne];have hl2:¬ (rs.length:Int)=(ts.length:Int):=by omega
  clear h1 h2 hne heq;generalize rs.length=n at *;generalize ts.length=m at *;go_enter Tryz.func56,Tryz.ntmps56
  go_wp2
  go_ret
  exact ⟨rfl,Ext.refl _⟩
theorem zol (v1 v2:Value)(p q:List Int)(rs ts:List Qw)(w:World)(h1:ScV w v1 p rs)(h2:ScV w v2 q ts)(hp:p.length≤1000)(hq:q.length≤1000)(hr:rs.length≤1000)(ht:ts.length≤1000)(hr2:∀ r∈rs,r.x.length≤1000)(ht2:∀ r∈ts,r.x.length≤1000) :
  Calls Tryz.prog 25 #[v1,v2] w fun e w'=>e=.returned (.bool (decide (p=q) && decide (rs.map Qw.x=ts.map Qw.x)))∧Ext w w':=by
 obtain ⟨vp,vn,rfl,hp1,hn1⟩:=h1;obtain ⟨vq,vm,rfl,hq1,hm1⟩:=h2;have he1:=fun W (hE:Ext w W)=>zoj vp vq p q W (hE.sl hp1) (hE.sl hq1) hp hq;have he2:=fun W (hE:Ext w W)=>zok vn vm rs ts W (hE.rdM hn1) (hE.rdM hm1) hr ht hr2 ht2;obtain ⟨ap,cp,rfl,_,_,_⟩:=hp1.parts;obtain ⟨aq,cq,rfl,_,_,_⟩:=hq1.parts;obtain ⟨an,cn,rfl,_,_,_⟩:=hn1.1.parts;obtain ⟨am,cm,rfl,_,_,_⟩:=hm1.1.parts;generalize (zap p).length=lp at *;generalize (zap q).length=lq at *;generalize (qwc rs).length=ln at *;generalize (qwc ts).length=lm at *;generalize decide (p=q)=b1 at *;generalize decide (rs.map Qw.x=ts.map Qw.x)=b2 at *;have hE0:Ext w ((w.alloc (.cells #[.slice ap lp cp,.slice an ln cn] 35)).alloc (.cells #[.slice aq lq cq,.slice am lm cm] 35)):=((Ext.refl w).alloc _).alloc _;have k1:=(zec.new 35 w (.slice ap lp cp) (.slice an ln cn)).ext ((Ext.refl _).alloc (.cells #[.slice aq lq cq,.slice am lm cm] 35));have k2:=zec.new 35 (w.alloc (.cells #[.slice ap lp cp,.slice an ln cn] 35)) (.slice aq lq cq) (.slice am lm cm);rw [World.size_alloc] at k2;have q0:=k1.c0;have q2:=k2.c0;have He1:=hid he1;have He2:=hid he2;have HE0:=hid hE0;have K1:=hid k1;have K2':=hid k2;clear hp1 hq1 hn1 hm1 he1 he2 hE0 k1 k2 hr2 ht2
 cases b1
 ·go_enter Tryz.func25,Tryz.ntmps25
  go_wp2_with fail
  refine (He1.out _ HE0.out).mono ?_;rintro e w1 ⟨rfl,hx1⟩;have Hx1:=hid (HE0.out.trans hx1);clear hx1;go_wp2
  go_ret
  exact ⟨rfl,Hx1.out⟩
 ·go_enter Tryz.func25,Tryz.ntmps25
  go_wp2_with fail
  refine (He1.out _ HE0.out).mono ?_;rintro e w1 ⟨rfl,hx1⟩;have q1:=(K1.out.ext hx1).c1;have q3:=(K2'.out.ext hx1).c1;have Hx1:=hid (HE0.out.trans hx1);clear hx1 q0 q2;go_wp2_with fail
  refine (He2.out _ Hx1.out).mono ?_;rintro e w2 ⟨rfl,hx2⟩;have Hx2:=hid (Hx1.out.trans hx2);clear hx2 q1 q3;go_wp2
  go_ret
  exact ⟨rfl,Hx2.out⟩
theorem zom {w:World}{v:Value}{x:List Rat}{n:Nat}(h:Rd w v x)(hn:x.length=n):∃ a c,v=.slice a n c∧Rd w (.slice a n c) x:=by
 obtain ⟨a,c,rfl,_,_,_⟩:=h.parts;rw [hn] at *;exact ⟨a,c,rfl,h⟩
theorem zon (w:World)(he:Env w) :
  Calls Tryz.prog 5 #[] w fun e w'=>e=.returned (.bool true)∧Ext w w':=by
 have hwh:=fun W v (l:List Int)(hE:Ext w W)(hv:Sl W v (zap l))(h9:l.length≤1000)(hl:∀ z∈l,z.natAbs<1000000000)=>zkI v l W (he.ext hE) hv h9 hl;have hw2:=fun W (a b:Int)(hE:Ext w W)(ha:a.natAbs<1000000000)(hb:b.natAbs<1000000000)=>hwh (W.alloc (.cells #[.int .i64 a,.int .i64 b] 3)) (.slice (some ⟨W.heap.size,0,none⟩) 2 2) [a,b] (hE.alloc _) (zit (us:=[.int .i64 a,.int .i64 b]) (World.alloc_heap_new W _) (by unfold maxLen;simp)) (by simp) (fun z hz=>by
  simp only [List.mem_cons,List.not_mem_nil,or_false] at hz;rcases hz with rfl | rfl <;> assumption)
 have hch:=fun W vp vb vg (hE:Ext w W)(hp:Sl W vp (zap [2,3]))(hb:Rd W vb (zkF [1,0]))(hg:Rd W vg (zkF [-1,1]))=>zkE vp vb vg [2,3] 10 (zkF [-1,1]) (-1) 6 W (he.ext hE) hp hb hg rfl (fun q hq=>(zoa.quick (zkF [-1,1]) (by rw [znV];decide +kernel)).1 q hq) (by omega) (by omega) (by omega) (by omega) zoa;have hst:=fun W v rs (hE:Ext w W)(hv:ScV W v [2,3] rs)(hx:rs.map Qw.x=znS)=>znB v [2,3] rs W (he.ext hE) hv (Wd.right (by rw [hx];exact zod)) (by decide) (Wd.step_ft (by rw [hx];exact zod));have hmj:=fun W (hE:Ext w W)=>znT W (he.ext hE);have hre:=fun W v rs va (hE:Ext w W)(hv:ScV W v [2,3] rs)(hx:rs.map Qw.x=znS)(ha:Rd W va (zkF [0,-1]))=>(show Calls Tryz.prog 8 #[v,va] W fun e w'=>∃ g,e=.returned (.tuple #[.slice (some ⟨g,0,none⟩) 2 2,.string ⟨#[45,50]⟩,.int .i64 0])∧Rd w' (.slice (some ⟨g,0,none⟩) 2 2) (zkF [2,-1])∧Ext W w' from by
  have hlen:rs.length=6+1:=by have:=congrArg List.length hx;rw [List.length_map] at this;exact this
  obtain ⟨r,hr⟩:∃ r,rs[6]?=some r:=⟨_,List.getElem?_eq_getElem (by omega)⟩;have hro:r.x=ov 1:=by
   have:=congrArg (fun l=>l[6]?) hx;simp only [List.getElem?_map,hr,Option.map_some] at this;exact (Option.some.inj this).trans (by decide +kernel)
  have hred:=zoh.red (x:=zkF [0,-1]) (by simp);obtain ⟨a,tl,e,hk⟩:=hred;have e2:a=((0:Int):Rat)∧tl=[((-1:Int):Rat)]:=by
   have:zkF [0,-1]=((0:Int):Rat)::[((-1:Int):Rat)]:=rfl;rw [this] at e;injection e with e3 e4;exact ⟨e3.symm,e4.symm⟩
  obtain ⟨rfl,rfl⟩:=e2;have:=zjx v va [2,3] rs 6 r ((0:Int):Rat) [((-1:Int):Rat)] W (he.ext hE) hv (Wd.right (by rw [hx];exact zod)) hlen hr hro ha hk.pr hk.ft hk.qf hk.fk hk.fit (by rw [hk.eq];exact hk.res);rw [hk.eq,show flP [2,3] (((0:Int):Rat)::[((-1:Int):Rat)])=-2 from zoe,show rst [2,3] (((0:Int):Rat)::[((-1:Int):Rat)])=zkF [2,-1] from zof] at this;refine this.mono ?_;rintro e w' ⟨g,rfl,ho,hx⟩;exact ⟨g,by rw [show I (-2)=⟨#[45,50]⟩ from by decide +kernel];rfl,ho.rd,hx⟩)
 have Hw2:=hid hw2;have Hch:=hid hch;have Hst:=hid hst;have Hmj:=hid hmj;have Hre:=hid hre;clear hw2 hch hst hmj hre he;obtain ⟨W0,hW0⟩:∃ W0,W0=w.alloc (.cells #[.int .i64 2,.int .i64 3] 3):=⟨_,rfl⟩;have hpr:Sl W0 (.slice (some ⟨w.heap.size,0,none⟩) 2 2) (zap [2,3]):=by
  rw [hW0];exact zit (us:=[.int .i64 2,.int .i64 3]) (World.alloc_heap_new w _) (by unfold maxLen;simp)
 have hx0:Ext w W0:=by rw [hW0];exact (Ext.refl w).alloc _
 have hsz0:W0.heap.size=w.heap.size+1:=by rw [hW0,World.size_alloc]
 have hc1:=Hw2.out W0 1 0 hx0 (by decide) (by decide);rw [hsz0] at hc1;have Hc1:=hid hc1;have Hpr:=hid hpr;have Hx0:=hid hx0;clear hc1 hpr hx0 hsz0;go_enter Tryz.func5,Tryz.ntmps5
 go_wp2_with fail
 rw [← hW0];clear hW0;refine Hc1.out.mono ?_;rintro e w1 ⟨u1,rfl,ho1,hx1⟩;obtain ⟨a1,c1,rfl,_,_,_⟩:=ho1.rd.parts;rw [show (zkF [1,0]).length=2 from rfl] at *;have Hx1:=hid (Hx0.out.trans (((Ext.refl W0).alloc _).trans hx1));have Hr1:=hid ho1.rd;have Hpr:=hid ((((Ext.refl W0).alloc (.cells #[.int .i64 1,.int .i64 0] 3)).trans hx1).sl Hpr.out);clear ho1 hx1;go_wp2_with fail
 refine (Hw2.out w1 (-1) 1 Hx1.out (by decide) (by decide)).mono ?_;rintro e w2 ⟨u2,rfl,ho2,hx2⟩;obtain ⟨a2,c2,rfl,_,_,_⟩:=ho2.rd.parts;rw [show (zkF [-1,1]).length=2 from rfl] at *;have hy2:=((Ext.refl w1).alloc (.cells #[.int .i64 (-1),.int .i64 1] 3)).trans hx2;have hch2:=Hch.out w2 (.slice (some ⟨w.heap.size,0,none⟩) 2 2) (.slice a1 2 c1) (.slice a2 2 c2) (Hx1.out.trans hy2) (hy2.sl Hpr.out) (hy2.rd Hr1.out) ho2.rd;rw [show (-1:Int)+((6:Nat):Int)=5 from rfl] at hch2;have Hx2:=hid (Hx1.out.trans hy2);have Hch2:=hid hch2;clear ho2 hx2 hy2 hch2;go_wp2_with fail
 refine Hch2.out.mono ?_;rintro e w3 ⟨v3,out3,rfl,hs3,hc3,hx3⟩;have hm3:=zkb hc3 zoc;obtain ⟨vp3,vn3,rfl,hop3,hqn3⟩:=hs3;obtain ⟨a3,c3,rfl⟩:=zet hop3;obtain ⟨a4,c4,rfl⟩:=zet hqn3.1;have hl3:out3.length=7:=by have:=congrArg List.length hm3;rw [List.length_map] at this;exact this
 have hsv3:ScV w3 (.agg #[.slice a3 2 c3,.slice a4 7 c4]) [2,3] out3:=by
  refine ⟨_,_,rfl,zan hop3,?_⟩;have:=hqn3.rd;rw [hl3] at this;exact this
 rw [hl3] at hqn3 ⊢;have hb3:=zec.new 35 w3 (.slice a3 2 c3) (.slice a4 7 c4);have hE3:Ext w3 (w3.alloc (.cells #[.slice a3 2 c3,.slice a4 7 c4] 35)):=(Ext.refl w3).alloc _;have hst3:=Hst.out _ _ out3 ((Hx2.out.trans hx3).trans hE3) (hsv3.ext hE3) hm3;rw [hl3] at hst3;have Hx3:=hid ((Hx2.out.trans hx3).trans hE3);have Hsv3:=hid (hsv3.ext hE3);have Hm3:=hid hm3;have Hb3:=hid hb3;have Hst3:=hid hst3;clear hx3 hsv3 hm3 hb3 hE3 hst3 hc3 hop3 hqn3 hl3;go_wp2_with fail
 refine Hst3.out.mono ?_;rintro e w5 ⟨u5,rfl,⟨out5,hq5,hm5,hl5,hx5⟩⟩;obtain ⟨a5,c5,rfl⟩:=zet hq5.1;have hr5:=hq5.rd;rw [hl5] at hr5 ⊢;have hb5:=Hb3.out.ext hx5;have Hx5:=hid (Hx3.out.trans hx5);have Hsv5:=hid (Hsv3.out.ext hx5);have Hb5:=hid hb5;have Hr5:=hid hr5;have Hm5:=hid hm5;have Hl5:=hid hl5;clear hq5 hm5 hl5 hx5 hr5 hb5;go_wp2_with fail
 refine (Hmj.out w5 Hx5.out).mono ?_;rintro e w6 ⟨v6,rs6,rfl,hs6,hm6,hx6⟩;obtain ⟨vp6,vn6,rfl,hp6,hn6⟩:=hs6;obtain ⟨a6,c6,rfl,_,_,_⟩:=hp6.parts;obtain ⟨a7,c7,rfl,_,_,_⟩:=hn6.1.parts;have hl6:rs6.length=7:=by have:=congrArg List.length hm6;rw [List.length_map] at this;exact this
 have hq6:(qwc rs6).length=7:=by rw [zfE];exact hl6
 rw [hq6] at hn6 ⊢;rw [show (zap [2,3]).length=2 from rfl] at hp6 ⊢;clear hq6;have hsv6:ScV w6 (.agg #[.slice a6 2 c6,.slice a7 7 c7]) [2,3] rs6:=⟨_,_,rfl,hp6,hn6⟩;have Hx6:=hid (Hx5.out.trans hx6);have Hsv6:=hid hsv6;have Hm6:=hid hm6;have Hy6:=hid hx6;clear hp6 hn6 hl6 hsv6 hm6 hx6;go_wp2_with fail
 refine (Hw2.out w6 0 (-1) Hx6.out (by decide) (by decide)).mono ?_;rintro e w7 ⟨u7,rfl,ho7,hx7⟩;obtain ⟨a8,c8,rfl,_,_,_⟩:=ho7.rd.parts;rw [show (zkF [0,-1]).length=2 from rfl] at *;have hy7:=((Ext.refl w6).alloc (.cells #[.int .i64 0,.int .i64 (-1)] 3)).trans hx7;have hre7:=Hre.out w7 _ rs6 (.slice a8 2 c8) (Hx6.out.trans hy7) (Hsv6.out.ext hy7) Hm6.out ho7.rd;have Hx7:=hid (Hx6.out.trans hy7);have Hre7:=hid hre7;have Hy7:=hid (Hy6.out.trans hy7);clear ho7 hx7 hy7 hre7;go_wp2_with fail
 refine Hre7.out.mono ?_;rintro e w9 ⟨g9,rfl,hr9,hx9⟩;have hy9:=Hy7.out.trans hx9;have hb9:=Hb5.out.ext hy9;have hrm9:=hy9.rdM Hr5.out;obtain ⟨s,hs⟩:∃ s,out5[2]?=some s:=⟨_,List.getElem?_eq_getElem (by rw [Hl5.out];omega)⟩;have hsx:s.x=zkF [8,-5]:=by
  have h1:=congrArg (fun l=>l[2]?) Hm5.out;simp only [List.getElem?_map,hs,Option.map_some] at h1;have h2:(zn8 2 out3 7)[2]?=some (stQ 2 out3 2):=rfl;have h3:stQ 2 out3 2=zkF [8,-5]:=by
   have e2:=congrArg (fun l=>l[2]?) Hm3.out;have e1:=congrArg (fun l=>l[1]?) Hm3.out;simp only [List.getElem?_map] at e1 e2;unfold stQ zjt;rw [if_neg (by omega),e2];show zfa _ ((Option.map Qw.x out3[1]?).getD [])=_;rw [e1];exact zog
  rw [← h3];exact Option.some.inj (h1.trans h2)
 have hrs:=hrm9.2 s (List.mem_of_getElem? hs);rw [hsx] at hrs;obtain ⟨ae,ce,hsu,_,_,_⟩:=hrs.parts;rw [show (zkF [8,-5]).length=2 from rfl] at hsu;obtain ⟨_,_,e1,_,_,hcl⟩:=hrm9.1.parts;injection e1 with e1 e2 e3;subst e1;clear e2 e3;obtain ⟨be,oe,rfl,hce⟩:=hcl 2 s.u (by unfold qwc;rw [List.getElem?_map,hs];rfl);rw [hsu] at hrs hce;have q0:=hb9.c0;have q1:=hb9.c1;have hsv9:=Hsv5.out.ext hy9;have hsame:=fun W v rs (hE:Ext w9 W)(hv:ScV W v [2,3] rs)(hm:rs.map Qw.x=znS)=>(show Calls Tryz.prog 25 #[.agg #[.slice a3 2 c3,.slice a4 7 c4],v] W fun e w'=>e=.returned (.bool true)∧Ext W w' from by
  have hlm:∀ ts:List Qw,ts.map Qw.x=znS→ts.length=7∧∀ r∈ts,r.x.length≤1000:=fun ts h=>by
   refine ⟨by have:=congrArg List.length h;rw [List.length_map] at this;exact this,fun r hr=>?_⟩;have:=List.mem_map_of_mem (f:=Qw.x) hr;rw [h] at this;have:=zod.len _ this;rw [this];decide
  have h1:=hlm out3 Hm3.out;have h2:=hlm rs hm;have:=zol (.agg #[.slice a3 2 c3,.slice a4 7 c4]) v [2,3] [2,3] out3 rs W (hsv9.ext hE) hv (by decide) (by decide) (by omega) (by omega) h1.2 h2.2;rw [decide_eq_true rfl,decide_eq_true (Hm3.out.trans hm.symm)] at this;exact this)
 have heq1:=fun W vb (hE:Ext w9 W)(hb:Rd W vb (zkF [8,-5]))=>(show Calls Tryz.prog 14 #[.slice ae 2 ce,vb] W fun e w'=>e=.returned (.bool true)∧Ext W w' from by
  have:=zkr (.slice ae 2 ce) vb (zkF [8,-5]) (zkF [8,-5]) W (hE.rd hrs) hb (by decide) (by decide);rwa [decide_eq_true rfl] at this)
 have heq2:=fun W vb (hE:Ext w9 W)(hb:Rd W vb (zkF [2,-1]))=>(show Calls Tryz.prog 14 #[.slice (some ⟨g9,0,none⟩) 2 2,vb] W fun e w'=>e=.returned (.bool true)∧Ext W w' from by
  have:=zkr (.slice (some ⟨g9,0,none⟩) 2 2) vb (zkF [2,-1]) (zkF [2,-1]) W (hE.rd hr9) hb (by decide) (by decide);rwa [decide_eq_true rfl] at this)
 have hS:=fun W (h:Ext w9 W)=>(⟨h,h.cell q0,h.cell q1,h.cell hce⟩:Ext w9 W∧W.cell? _=_∧W.cell? _=_∧W.cell? _=_);have Hx9:=hid (Hx7.out.trans hx9);have Hsame:=hid hsame;have Heq1:=hid heq1;have Heq2:=hid heq2;have HS:=hid hS;have Hwh:=hid hwh;clear hx9 hy9 hb9 hrm9 hs hsx hrs hsu hcl hsv9 hsame heq1 heq2 hS hr9 hwh;go_wp2_with fail
 have H0:Hid (Ext w9 w9):=hid (Ext.refl w9);go_region_held3 (fun w'=>Ext w9 w'∧w'.cell? ⟨w3.heap.size,0,none⟩=some (.slice a3 2 c3)∧w'.cell? ⟨w3.heap.size,1,none⟩=some (.slice a4 7 c4)∧w'.cell? ⟨be,oe+2,none⟩=some (.slice ae 2 ce))
  (first | with_reducible exact HS.out _ HF.out | with_reducible exact HS.out _ HE'.out | with_reducible exact HS.out _ (HD.out.alloc _) | with_reducible exact HS.out _ HD.out | with_reducible exact HS.out _ HC.out | with_reducible exact HS.out _ (HB.out.alloc _) | with_reducible exact HS.out _ HB.out | with_reducible exact HS.out _ HA.out | with_reducible exact HS.out _ (H0.out.drew))
  (first
   | (have hpv:=HE';clear hpv;go_at_call 14;refine (Heq2.out _ _ HE'.out HrE.out).mono ?_;rintro e9 VF ⟨rfl,hxf⟩;have HF:=hid (HE'.out.trans hxf);clear hxf)
   | (have hpv:=HD;clear hpv;go_at_call 23;refine (Hw2.out VD 2 (-1) (Hx9.out.trans HD.out) (by decide) (by decide)).mono ?_;rintro e9 VE ⟨uE,rfl,hoE,hxe⟩;obtain ⟨aE,cE,rfl,hrE⟩:=zom hoE.rd rfl;have HE':=hid ((HD.out.alloc _).trans hxe);have HrE:=hid hrE;clear hxe hoE hrE)
   | (have hpv:=HC;clear hpv;go_at_call 14;refine (Heq1.out _ _ HC.out HrC.out).mono ?_;rintro e9 VD ⟨rfl,hxd⟩;have HD:=hid (HC.out.trans hxd);clear hxd)
   | (have hpv:=HB;clear hpv;go_at_call 23;refine (Hw2.out VB 8 (-5) (Hx9.out.trans HB.out) (by decide) (by decide)).mono ?_;rintro e9 VC ⟨uC,rfl,hoC,hxc⟩;obtain ⟨aC,cC,rfl,hrC⟩:=zom hoC.rd rfl;have HC:=hid ((HB.out.alloc _).trans hxc);have HrC:=hid hrC;clear hxc hoC hrC)
   | (have hpv:=HA;clear hpv;go_at_call 25;refine (Hsame.out _ _ rsA HA.out HsA.out HmA.out).mono ?_;rintro e9 VB ⟨rfl,hxb⟩;have HB:=hid (HA.out.trans hxb);clear hxb)
   | (go_at_call 24;refine (Hmj.out _ Hx9.out.drew).mono ?_;rintro e9 VA ⟨vA,rsA,rfl,hsA,hmA,hxa⟩;obtain ⟨b7,b8,b9,b10,rfl,hsA⟩:=zoi hsA;have HA:=hid (H0.out.drew.trans hxa);have HsA:=hid hsA;have HmA:=hid hmA;clear hxa hsA hmA))
 all_goals
  go_wp2
  go_ret
  exact ⟨rfl,Hx9.out.trans HF.out⟩
theorem zoo (v:Value)(p:List Int)(rs:List Qw)(k:Int)(w:World)(he:Env w)(hv:ScV w v p rs)(h:zju p rs)(hk:k < -1000000∨1000000<k) :
  Calls Tryz.prog 21 #[v,.int .i64 k] w fun e w'=>e=.returned (.tuple #[.slice none 0 0,.int .i64 3])∧Ext w w':=by
 have h1:=fun W (hE:Ext w W)=>zjv v p rs W (he.ext hE) (hv.ext hE) h;obtain ⟨vp,vn,rfl,hp,hs,hm⟩:=hv;obtain ⟨ap,cp,rfl,_,_,_⟩:=hp.parts;obtain ⟨an,cn,rfl,_,_,_⟩:=hs.parts;generalize (zap p).length=n1 at *;generalize (qwc rs).length=n2 at *;have hE0:Ext w (w.alloc (.cells #[.slice ap n1 cp,.slice an n2 cn] 35)):=(Ext.refl w).alloc _;clear hp hs hm he h;have H1:=hid h1;have HE0:=hid hE0;clear h1 hE0;rcases hk with hk | hk
 all_goals
  go_enter Tryz.func21,Tryz.ntmps21
  go_wp2_with fail
  refine (H1.out _ HE0.out).mono ?_;rintro e w1 ⟨rfl,hx1⟩;have Hx1:=hid (HE0.out.trans hx1);clear hx1;go_wp2
  go_ret2
  exact ⟨rfl,Hx1.out⟩
theorem zop {q:Int}(h:q.natAbs≤10000000):Ft 400 (q:Rat):=by
 have:=ziW (r:=(q:Rat)) (by rw [Rat.num_intCast];omega) (by rw [Rat.den_intCast];omega);exact this.mono (by omega)
theorem zoq {q:Int}(h:q.natAbs≤10000000):Fit q:=Nat.le_trans (Dec.nDigits_le (k:=30) (by decide) (Nat.lt_of_le_of_lt h (by decide))) (by decide)
theorem zor {n:Nat}{q:Int}(hq:q.natAbs≤1001000):∀ r∈zfb (ov n) (q:Rat),Ft 30 r:=fun r hr=>by
 have:=zlL hq r hr;exact ziW (by omega) (by omega)
theorem zos {p:List Int}{N:List (List Rat)}(h:Wd p N){i:Nat}(hi:i≤N.length):∀ r∈zat p N i,Sn r:=by
 intro r hr;rcases List.mem_cons.1 (h.zmem hi) with e | e
 ·rw [e] at hr;rw [List.eq_of_mem_replicate hr];exact zkL
 ·have:=h.mem_sn2 e r hr;exact ⟨this.1,by omega⟩
theorem zot (a:Wl)(k:Int)(w:World)(he:Env w)(hrv:zhl w)(ha:a.Ok) :
  Calls Tryz.prog 4 #[a.v,.int .i64 k] w fun e w'=>e=.returned (.bool true)∧Ext w w':=by
 have hkn:=fun W (hE:Ext w W)=>zon W (he.ext hE);have hmk:=fun W (hE:Ext w W)=>zlH a W (he.ext hE) ha;have hrl:=znG a w;have hun:=Tryz.underlying26;have hin:=znH a;have hE0:Ext w (w.alloc (.cells a.cs 26)):=(Ext.refl w).alloc _;have Hkn:=hid hkn;have Hmk:=hid hmk;have Hrl:=hid hrl;have Hun:=hid hun;have Hin:=hid hin;have HE0:=hid hE0;have He:=hid he;have Hrv:=hid hrv;clear hkn hmk hrl hun hin hE0 he ha hrv;have hv:a.v=.agg a.cs:=rfl;have Hv:=hid hv;rw [hv];clear hv;have hcs2:=znI a;rw [hcs2];go_enter Tryz.func4,Tryz.ntmps4
 rw [← hcs2];go_wp2_with fail
 refine (Hkn.out _ HE0.out).mono ?_;rintro e w1 ⟨rfl,hx1⟩;have hrl1:=Hrl.out w1 hx1;have hmk1:=Hmk.out w1 (HE0.out.trans hx1);have Hx1:=hid (HE0.out.trans hx1);have Hrl1:=hid hrl1;have Hmk1:=hid hmk1;clear hx1 hrl1 hmk1;go_wp2_with (refine wpList_load_mid rfl 26 (.tmp 2) rfl w.heap.size 0 rfl a.cs.toList _ Hrl1.out Hun.out rfl Hin.out ?_)
 rw [← hcs2,← Hv.out];refine Hmk1.out.mono ?_;rintro e w2 ⟨v2,rs,rfl,hs2,hc2,hx2⟩;have hw2:=znJ a hc2;have hnine:=znO a hc2;have hpos:=hw2.pos;rw [List.length_map] at hnine hpos;have hlp:a.p.length=2∨a.p.length=3:=by rcases a.pw with e | e <;> rw [e] <;> simp
 obtain ⟨a2,c2,b2,d2,rfl,hs2⟩:=zoi hs2;have hb2:=zec.new 35 w2 (.slice a2 a.p.length c2) (.slice b2 rs.length d2);have hE2:=(Ext.refl w2).alloc (.cells #[.slice a2 a.p.length c2,.slice b2 rs.length d2] 35);have Hx2:=hid ((Hx1.out.trans hx2).trans hE2);have Hs2:=hid (hs2.ext hE2);have Hw2:=hid hw2;have Hb2:=hid hb2;clear hx2 hs2 hw2 hE2 hc2 hcs2;generalize hN:rs.length=N at *;have q1:=hb2.c1;have q0:=hb2.c0;have HN:=hid hN;obtain ⟨V,hV⟩:∃ V,V=w2.alloc (.cells #[.slice a2 a.p.length c2,.slice b2 N d2] 35):=⟨_,rfl⟩;have hp0:=(zjO a.pw.pr).2;have hst:=znB _ a.p rs V (He.out.ext (hV ▸ Hx2.out)) (hV ▸ Hs2.out) Hw2.out.right hp0 (Wd.step_ft Hw2.out);rw [HN.out] at hst;have Hst:=hid hst;have HV:=hid hV;clear hN hb2 hst hp0 hV;go_wp2_with fail
 rw [← HV.out];refine Hst.out.mono ?_;rintro e w7 ⟨u7,rfl,⟨out7,hq7,hm7,hl7,hx7⟩⟩;obtain ⟨a7,c7,rfl⟩:=zet hq7.1;rw [hl7];have hbV:zec 35 V w2.heap.size (.slice a2 a.p.length c2) (.slice b2 N d2):=by rw [HV.out];exact Hb2.out
 have hb7:=hbV.ext hx7;have q1:=hb7.c1;have q0:=hb7.c0;have Hb7:=hid hb7;clear hbV hb7;have HxV:Hid (Ext w V):=hid (by rw [HV.out];exact Hx2.out);have Hx7:=hid (HxV.out.trans hx7);have hrd7:=hq7.rd;have hcell7:∀ i,i<N→∃ (b off:Nat)(r:Qw),a7=some ⟨b,off,none⟩∧w7.cell? ⟨b,off+i,none⟩=some r.u∧r.x=zfa (zat a.p (rs.map Qw.x) (i+1)) (zat a.p (rs.map Qw.x) i)∧Rd w7 r.u r.x:=fun i hi=>by
  have hr:out7[i]?=some out7[i]:=List.getElem?_eq_getElem (by omega);obtain ⟨aa,cc,e1,_,_,hc⟩:=hrd7.1.parts;injection e1 with e1 _ _;subst e1;obtain ⟨b,off,e2,hcc⟩:=hc i out7[i].u (by unfold qwc;rw [List.getElem?_map,hr];rfl);refine ⟨b,off,out7[i],e2,hcc,?_,hrd7.2 _ (List.getElem_mem _)⟩;have h1:(out7.map Qw.x)[i]?=some out7[i].x:=by rw [List.getElem?_map,hr];rfl
  rw [hm7] at h1;unfold zn8 at h1;rw [List.getElem?_map,List.getElem?_range hi] at h1;have h2:stQ a.p.length rs i=out7[i].x:=Option.some.inj h1;have h3:=Hw2.out.step_nt (k:=i) (by rw [HN.out];exact hi);have hl2:(rs.map Qw.x).length=N:=by rw [List.length_map,HN.out]
  rw [show (i:Int)+1=((i+1:Nat):Int) by omega,Hw2.out.nt_low (by omega),Hw2.out.nt_low (by omega)] at h3;rw [← h2,h3]
 have Hcell7:=hid hcell7;have hsV:ScV V (.agg #[.slice a2 a.p.length c2,.slice b2 N d2]) a.p rs:=by rw [HV.out];exact Hs2.out
 have hsv7:=hsV.ext hx7;have Hs7:=hid hsv7;clear hx7 hrd7 hcell7 hq7 hm7 hl7 hsv7 hsV Hst;go_wp2_with fail
 have hno:=fun (m:Nat)(hm:m≤N) W (hE:Ext w7 W)=>(show Calls Tryz.prog 19 #[.agg #[.slice a2 a.p.length c2,.slice b2 N d2],.int .i64 (m:Int)] W fun e w'=>∃ u,e=.returned u∧Rd w' u (zat a.p (rs.map Qw.x) m)∧Ext W w' by
  have:=zlO _ a.p rs (m:Int) W (He.out.ext (Hx7.out.trans hE)) (Hs7.out.ext hE) Hw2.out (by omega) (by omega);rw [Hw2.out.nt_low (by rw [List.length_map,HN.out];exact hm)] at this;exact this.mono fun e w' ⟨u,h1,h2,h3⟩=>⟨u,h1,h2.rd,h3⟩)
 have hzl:=fun (m:Nat)(hm:m≤N)=>Hw2.out.zlen (i:=m) (by rw [List.length_map,HN.out];exact hm);have hle:=fun (m:Nat)(hm:m<N) W va vb (hE:Ext w7 W)(h1:Rd W va (zat a.p (rs.map Qw.x) (m+1)))(h2:Rd W vb (zat a.p (rs.map Qw.x) m))=>zhk va vb _ _ W (He.out.ext (Hx7.out.trans hE)) h1 h2 (by rw [hzl _ (by omega),hzl _ (by omega)]) (by rw [hzl _ (by omega)];omega) (zos Hw2.out (by rw [List.length_map,HN.out];omega)) (zos Hw2.out (by rw [List.length_map,HN.out];omega));have heq:=fun (m:Nat)(hm:m<N) W va vb (x:List Rat)(hx:x=zfa (zat a.p (rs.map Qw.x) (m+1)) (zat a.p (rs.map Qw.x) m))(h1:Rd W va x)(h2:Rd W vb (zfa (zat a.p (rs.map Qw.x) (m+1)) (zat a.p (rs.map Qw.x) m)))=>(show Calls Tryz.prog 14 #[va,vb] W fun e w'=>e=.returned (.bool true)∧Ext W w' by
  have hl:=zj8 (x:=zat a.p (rs.map Qw.x) (m+1)) (y:=zat a.p (rs.map Qw.x) m) (by rw [hzl _ (by omega),hzl _ (by omega)]);rw [hzl _ (by omega)] at hl;have:=zkr va vb x _ W h1 h2 (by rw [hx,hl];omega) (by rw [hl];omega);rwa [decide_eq_true hx] at this)
 have Hno:=hid hno;have Hle:=hid hle;have Heq:=hid heq;clear hno hzl hle heq;have hN60:N≤60:=by omega
 go_loopw [36] (fun v wr=>∃ i:Nat,v=.int .i64 i∧i≤N∧Ext w7 wr) (fun v _=>N - (zal v).toNat)
 case atStart=>exact ⟨0,rfl,Nat.zero_le _,Ext.refl _⟩
 case round =>
  obtain ⟨i,rfl,hi,hE⟩:=hrel;have HE:=hid hE;clear hE;have b7:=Hb7.out.ext HE.out;have q0:=b7.c0;have q1:=b7.c1;have Hbr:=hid b7;clear b7;by_cases hlt:i<N
  ·obtain ⟨b,off,r,rfl,hc,hrx,hrd⟩:=Hcell7.out i hlt;have hcr:=HE.out.cell hc;have Hrx:=hid hrx;have Hrd:=hid (HE.out.rd hrd);clear hc hrx hrd;go_wp2_with fail
   have hi1:(i:Int)+1=((i+1:Nat):Int):=(by omega);have hna:=fun W (hE:Ext w7 W)=>Hno.out (i+1) (by omega) W hE;rw [← hi1] at hna;have hnb:=fun W (hE:Ext w7 W)=>Hno.out i (by omega) W hE;have hSQ:∀ W,Ext wr W→Ext wr W∧W.cell? ⟨w2.heap.size,0,none⟩=some (.slice a2 a.p.length c2)∧W.cell? ⟨w2.heap.size,1,none⟩=some (.slice b2 N d2):=fun W hE=>⟨hE,hE.cell q0,hE.cell q1⟩;have hwi:IntKind.i64.wrap ((i:Int)+1)=(i:Int)+1:=IntWalk.i64_in _ (by omega);have Hna:=hid hna;have Hnb:=hid hnb;have HSQ:=hid hSQ;clear hna hnb hSQ hi1 hcr;go_region_held3 (fun w'=>Ext wr w'∧w'.cell? ⟨w2.heap.size,0,none⟩=some (.slice a2 a.p.length c2)∧w'.cell? ⟨w2.heap.size,1,none⟩=some (.slice b2 N d2))
    (first | (with_reducible assumption) | exact HSQ.out _ (Ext.refl wr).drew)
    (first
     | (go_at_call 14
        refine (Heq.out i hlt _ _ _ r.x Hrx.out (HEC.out.rd Hrd.out) HrC.out).mono ?_
        rintro e9 VD ⟨rfl,hxa⟩
        have hS5:=HSQ.out VD (HEC.out.trans hxa)
        have HED:=hid (HEC.out.trans hxa)
        clear hxa hS4)
     | (go_at_call 16
        refine (Hle.out i hlt _ _ _ (HE.out.trans HEB.out) HrB1.out HrB2.out).mono ?_
        rintro e9 VC ⟨u9,rfl,ho,hxa⟩
        have hS4:=HSQ.out VC (HEB.out.trans hxa)
        have HEC:=hid (HEB.out.trans hxa)
        have HrC:=hid ho.rd
        clear hxa ho hS3)
     | (have _t:=HEA
        go_at_call 19
        refine (Hnb.out _ (HE.out.trans HEA.out)).mono ?_
        rintro e9 VB ⟨u8,rfl,ho,hxa⟩
        have hS3:=HSQ.out VB (HEA.out.trans hxa)
        have HEB:=hid (HEA.out.trans hxa)
        have HrB1:=hid (hxa.rd HrA.out);have HrB2:=hid ho
        clear hxa ho hS2)
     | (go_at_call 19
        refine (Hna.out _ (HE.out.trans (Ext.refl wr).drew)).mono ?_
        rintro e9 VA ⟨u7,rfl,ho,hxa⟩
        have hS2:=HSQ.out VA ((Ext.refl wr).drew.trans hxa)
        have HEA:=hid ((Ext.refl wr).drew.trans hxa)
        have HrA:=hid ho
        clear hxa ho))
   clear hS5 hwi;go_wp2_with fail
   go_roundw
   case rel=>exact ⟨i+1,by go_num,by omega,HE.out.trans HED.out⟩
   case measure=>simp [zal];omega
  ·have hiN:i=N:=(by omega);have Hsr:=hid (Hs7.out.ext HE.out);have Hxr:=hid (Hx7.out.trans HE.out);have hout:=fun (h:k < -1000000∨1000000<k)=>zoo _ a.p rs k wr (He.out.ext Hxr.out) Hsr.out Hw2.out.right h;obtain ⟨n,hn⟩:∃ n,N=n+1:=⟨N - 1,by omega⟩;obtain ⟨r,hr⟩:∃ r,rs[n]?=some r:=⟨_,List.getElem?_eq_getElem (by rw [HN.out];omega)⟩;have hrx:r.x=ov (a.p.length - 1):=by
    have:=Hw2.out.last;rw [List.length_map,HN.out,hn,Nat.add_sub_cancel,List.getElem?_map,hr] at this;exact Option.some.inj this
   have hrn:rs.length=n+1:=(by rw [HN.out,hn]);have hin:=fun (h0:-1000000≤k)(h1:k≤1000000)=>(show Calls Tryz.prog 21 #[.agg #[.slice a2 a.p.length c2,.slice b2 N d2],.int .i64 k] wr fun e w'=>∃ g,e=.returned (.tuple #[.slice (some ⟨g,0,none⟩) a.p.length a.p.length,.int .i64 0])∧Rd w' (.slice (some ⟨g,0,none⟩) a.p.length a.p.length) (nt a.p (rs.map Qw.x) k)∧Ext wr w' by
    have hq:=ziA (a:=k) (b:=(n:Int)+1) (m:=1000000) (by omega) h0 h1 (by omega);have:=zn7 _ a.p rs n k r wr (He.out.ext Hxr.out) Hsr.out Hw2.out.right hrn hr h0 h1 (zop (by omega)) (by rw [hrx];exact fun q hq2=>zor (by omega) q hq2) (by rw [Hw2.out.noteQ hrn k];exact Hw2.out.nt_ft k h0 h1);rw [Hw2.out.noteQ hrn k] at this;exact this.mono fun e w' ⟨g,h1,h2,h3⟩=>⟨g,h1,h2.rd,h3⟩)
   have hfi:=fun (h0:-1000000≤k)(h1:k≤1000000) W g (hE:Ext wr W)(hx:Rd W (.slice (some ⟨g,0,none⟩) a.p.length a.p.length) (nt a.p (rs.map Qw.x) k))=>(show Calls Tryz.prog 9 #[.agg #[.slice a2 a.p.length c2,.slice b2 N d2],.slice (some ⟨g,0,none⟩) a.p.length a.p.length] W fun e w'=>e=.returned (.tuple #[.int .i64 k,.bool true,.int .i64 0])∧Ext W w' by
    obtain ⟨j,hj,hjl,hje⟩:=Hw2.out.idx k;obtain ⟨a0,tl,e0,hpr,hfl⟩:=Hw2.out.nt_floor k;have hlt:tl.length=a.p.length - 1:=by
     have:=Hw2.out.ntlen k;rw [e0,List.length_cons] at this;omega
    have hq:=ziA (a:=k) (b:=((rs.map Qw.x).length:Int)) (m:=1000000) (by have:=Hw2.out.pos;omega) h0 h1 (by omega);have hres:=Hw2.out.nt_rest k;rw [e0,← hlt,← hfl] at hres;have hzf:=Hw2.out.zat_ft (i:=j) (by omega);rw [hj,Int.toNat_natCast] at hres;have hft:=Hw2.out.nt_ft k h0 h1;rw [e0] at hx hft;have:=zn6 _ _ a.p rs n r a0 tl W (He.out.ext (Hxr.out.trans hE)) (Hsr.out.ext hE) Hw2.out.right hrn hr (by rw [hrx,hlt]) hx hpr hft (Hrv.out.ext (Hxr.out.trans hE)) (zop (by rw [hfl];omega)) (by rw [hfl];exact zoq (by omega)) (by rw [hres];exact hzf);rw [hres,hfl] at this;refine this.mono fun e w' ⟨z,hz,he,hx⟩=>⟨?_,hx⟩;have hz1:=Hw2.out.find_at (i:=j) (by rw [List.length_map] at hjl;exact hjl) hz;have hA:=Hw2.out.findA h0 h1 hj hjl hje;rw [List.length_map] at hA hj;rw [he,hz1];rw [List.length_map,hA])
   have hno:=fun (h0:-1000000≤k)(h1:k≤1000000) W (hE:Ext wr W)=>(show Calls Tryz.prog 19 #[.agg #[.slice a2 a.p.length c2,.slice b2 N d2],.int .i64 k] W fun e w'=>∃ u,e=.returned u∧Rd w' u (nt a.p (rs.map Qw.x) k)∧Ext W w' by
    have:=zlO _ a.p rs k W (He.out.ext (Hxr.out.trans hE)) (Hsr.out.ext hE) Hw2.out (by omega) (by omega);exact this.mono fun e w' ⟨u,h1,h2,h3⟩=>⟨u,h1,h2.rd,h3⟩)
   have hlk:=Hw2.out.ntlen k;have heq:=fun W va vb (h1:Rd W va (nt a.p (rs.map Qw.x) k))(h2:Rd W vb (nt a.p (rs.map Qw.x) k))=>zkr va vb _ _ W h1 h2 (by omega) (by omega);simp only [decide_true] at heq;have Hout:=hid hout;have Hin2:=hid hin;have Hfi:=hid hfi;have Hno2:=hid hno;have Heq2:=hid heq;clear hn hr hrx hrn hout hin hfi hno heq hlk;have hcs:(k < -1000000∨1000000<k)∨(-1000000≤k∧k≤1000000):=(by omega);have Hcs:=hid hcs;clear hcs;obtain ⟨wa,hwa⟩:∃ wa,wa=wr:=⟨_,rfl⟩;subst hwa;go_wp2_with fail
   rcases Hcs.out with hk | ⟨hk0,hk1⟩
   ·refine (Hout.out hk).mono ?_;rintro e w8 ⟨rfl,hx8⟩;have Hx8:=hid (Hxr.out.trans hx8);clear hx8;rcases hk with hk | hk
    all_goals
     go_wp2
     go_ret
     exact ⟨rfl,Hx8.out⟩
   ·have hk2:¬ k < -1000000:=(by omega);have hk3:¬ 1000000<k:=(by omega);refine (Hin2.out hk0 hk1).mono ?_;rintro e w8 ⟨g,rfl,hr8,hx8⟩;have H8:=hid hx8;have Hr8:=hid hr8;have b8:=Hbr.out.ext hx8;have q0:=b8.c0;have q1:=b8.c1;have Hb8:=hid b8;clear hx8 hr8 b8;go_wp2_with fail
    refine (Hfi.out hk0 hk1 w8 g H8.out Hr8.out).mono ?_;rintro e w9 ⟨rfl,hx9⟩;have H9:=hid (H8.out.trans hx9);have Hr9:=hid (hx9.rd Hr8.out);have b9:=Hb8.out.ext hx9;have q0:=b9.c0;have q1:=b9.c1;clear hx9 b9;go_wp2_with fail
    refine (Hno2.out hk0 hk1 w9 H9.out).mono ?_;rintro e w10 ⟨u,rfl,hr10,hx10⟩;have H10:=hid (H9.out.trans hx10);have HrA:=hid (hx10.rd Hr9.out);have HrB:=hid hr10;clear hx10 hr10 q0 q1;go_wp2_with fail
    refine (Heq2.out w10 _ _ HrA.out HrB.out).mono ?_;rintro e w11 ⟨rfl,hx11⟩;have H11:=hid (H10.out.trans hx11);clear hx11;go_wp2
    go_ret
    exact ⟨rfl,Hxr.out.trans H11.out⟩
end Go.Proofs.YtnppiicceblfkaaGreatDoor
