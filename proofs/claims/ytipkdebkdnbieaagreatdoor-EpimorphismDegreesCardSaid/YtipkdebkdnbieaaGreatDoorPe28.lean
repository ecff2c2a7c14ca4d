/- Walk: epimorphism.Of by the octave, where the few bits decide and the order is known. (KEEPALL) -/
import Derived.Test.YtipkdebkdnbieaaGreatDoorPe20
import Derived.Test.YtipkdebkdnbieaaGreatDoorPe27
set_option maxRecDepth 100000
set_option maxHeartbeats 4000000
namespace Go.Proofs.YtipkdebkdnbieaaGreatDoor
open Go.RowKit Go.Lib Go.Shelf
theorem zo4 (v:Value)(x:List Int)(w:World)(hx:Sl w v (zap x))(hx0:0<x.length)(hl:x.length≤1000) :
  Calls Tryz.prog 70 #[v] w fun e w'=>∃ u,e=.returned u∧zc2 w' w.heap.size u x∧Ext w w':=by
 obtain ⟨i0,hi,hz0,hz1,hz2⟩:=info_parts zc1;obtain ⟨a,c,rfl,h1,h2,hc⟩:=hx.parts;obtain ⟨b,off,rfl,_⟩:=hc 0 _ (zau hx0);have hcell:∀ j u,(zap x)[j]?=some u→w.cell? ⟨b,off+j,none⟩=some u:=fun j u hu=>by
  obtain ⟨b2,off2,e2,h3⟩:=hc j u hu;simp only [Option.some.injEq,Addr.mk.injEq,and_true] at e2;obtain ⟨rfl,rfl⟩:=e2;exact h3
 refine (AnyE.slices_Clone Tryz.lCloneR i0 (.int .i64 0) 1 8 hi hz0 hz1 hz2 rfl (by decide) Tryz.sizeOf3 b off (zap x).length c (zap x) w (by omega) (by rw [zar];unfold maxLen;omega) (by rw [zar];omega) hcell (by simp [zap,Value.oneCell'])).mono fun e w' ⟨v',he,ho,_,hb⟩=>⟨v',he,?_,hb⟩;rw [zar] at ho;exact ho
theorem zo5 (b:Nat)(vp vx vy:Value)(p x y:List Int)(w:World)(he:Env w)(hc:w.cell? ⟨b,0,none⟩=some vp)(hp:Sl w vp (zap p))(hx:Sl w vx (zap x))(hy:Sl w vy (zap y))(hlp:p.length≤1000000)(hlx:x.length≤1000000)(hly:y.length≤1000000) :
  Calls Tryz.prog 67 #[vx,vy,.pointer (some ⟨b,0,none⟩)] w fun e w'=>e=.returned (.int .i64 (zhE p x y))∧Ext w w':=by
 have hm:=zhG vp vx vy p x y w he hp hx hy hlp hlx hly;obtain ⟨ap,cp,rfl,_,_,_⟩:=hp.parts;obtain ⟨ax,cx,rfl,_,_,_⟩:=hx.parts;obtain ⟨ay,cy,rfl,_,_,_⟩:=hy.parts;generalize zhE p x y=z at *;have Hm:=hid hm;clear hm;clear hp hx hy;go_enter Tryz.func67,Tryz.ntmps67
 go_wp2_with fail
 refine Hm.out.mono ?_;rintro e w3 ⟨rfl,hx3⟩;have Hx3:=hid hx3;clear hx3;go_wp2
 go_ret
 exact ⟨rfl,Hx3.out⟩
theorem zo6 : ∀ args w,(callFunc 67 args).run Tryz.prog w=.ok (.enter 67 args) w:=enters_of Tryz.func67 (by kernel_rfl) rfl
def nzI (x:List Int):Bool:=x.any fun n=>n != 0
structure zo7 (p:List Int)(n:Nat)(x o:List Int):Prop where
 at':∃ z0 zs q,x=z0::zs∧zs.length=n∧zgr p x=0∧QF p (ziA x)∧flP p (ziA x)=q∧-1000000≤q∧q≤1000000∧zhK x (-q) (zjT n)=some o
 ok:zgr p o=0
theorem RwM.ext {w w':World}{b B:Nat}{v:Value}{rs:List Rw}(h:RwM w b B v rs)(hx:Ext w w'):RwM w' b B v rs:=hx.rwM h
theorem RwM.more {W V:World}{o:Obj}{b B:Nat}{v v7:Value}{rs:List Rw}{r:Rw}(h:RwM W b B v rs)(hr:zc2 W b r.u r.x∧r.x.length≤1000000)
  (hown:V.ownsRow B 33 1 v7 (rs.length+1) (rwc rs++[r.u])) (hgrow:(W.alloc o).grownBy V v.ownBlock):RwM V b B v7 (rs++[r]):=by
 have hal:=h.1.alloc o;have hkeep:∀ s:Rw,zc2 W b s.u s.x→zc2 V b s.u s.x:=fun s hs=>World.ownsRow.kept (World.ownsRow.alloc hs o) hgrow (zc5 (World.ownsRow.alloc hs o) hal zmB);refine ⟨?_,fun s hs=>?_⟩
 ·rw [List.length_append,show rwc (rs++[r])=rwc rs++[r.u] by simp [rwc]];exact hown
 ·rcases List.mem_append.1 hs with q | q
  ·exact ⟨hkeep s (h.2 s q).1,(h.2 s q).2⟩
  ·rw [List.mem_singleton.1 q];exact ⟨hkeep r hr.1,hr.2⟩
theorem RwM.reads {w:World}{b B:Nat}{v:Value}{rs:List Rw}(h:RwM w b B v rs):Mat w v (rs.map Rw.x):=by
 refine ⟨rwc rs,by simp [rwc],zan h.1,fun i u hu=>?_⟩;unfold rwc at hu;rw [List.getElem?_map] at hu
 cases hr:rs[i]? with
 | none=>rw [hr] at hu;cases hu
 | some r =>
  rw [hr] at hu
  obtain rfl:=Option.some.inj hu
  rw [List.getD_eq_getElem?_getD,List.getElem?_map,hr]
  exact (h.2 r (List.mem_of_getElem? hr)).1.sl
theorem RwM.above {w V:World}{b B gi:Nat}{v:Value}{rs:List Rw}(h:RwM w b B v rs)(hg:w.grownBy V (some gi))(hb:gi<b)(hB:gi<B):RwM V b B v rs :=
 ⟨zmT h.1 hg hB,fun r hr=>⟨zmT (h.2 r hr).1 hg hb,(h.2 r hr).2⟩⟩
theorem zo8 {os:List (List Int)}{i:Nat}{o:List Int}(h:os[i]?=some o):(os.take (i+1)).filter nzI=(os.take i).filter nzI++if nzI o=true then [o] else []:=by
 obtain ⟨h1,h2⟩:=List.getElem?_eq_some_iff.1 h;rw [List.take_succ_eq_append_getElem h1,h2,List.filter_append];congr 1;by_cases hz:nzI o=true
 ·rw [if_pos hz,List.filter_cons_of_pos hz];rfl
 ·rw [if_neg hz,List.filter_cons_of_neg hz];rfl
theorem zo9 (vp vq vl:Value)(p:List Int)(n L:Nat)(l os fin:List (List Int))(key:List Int→Rat)(w:World)(he:Env w)(hp:Sl w vp (zap p))(hq:Sl w vq (zap (zjT n)))(hl:Mat w vl l)(hpn:p.length=n+1)(hpr:Pr p (n+1))(hL:l.length=L)(hL9:L≤12)(hos:os.length=L)
  (h1:zgr p (zjT n)=0) (h2:zg8 p (zjT n)=1) (h3:zgj p l=0) (hred:∀ (i:Nat)(x o:List Int),l[i]?=some x→os[i]?=some o→zo7 p n x o) (hne:os.filter nzI ≠ [])
  (hkey:∀ x∈os.filter nzI,∀ y∈os.filter nzI,(zhE p x y<0 ↔ key x<key y)) (hfin:∀ d:List (List Int),d.Perm (os.filter nzI)→(d.Pairwise fun x y=>key x≤key y)→d=fin) (hcp:∀ j,j<fin.length→zkY fin j=true) :
  Calls Tryz.prog 28 #[vp,vq,vl] w fun e w'=>∃ vp' vn',e=.returned (.tuple #[.agg #[vp',vn'],.int .i64 0])∧Sl w' vp' (zap p)∧Mat w' vn' (fin++[zjT n])∧Ext w w':=by
 obtain ⟨j0,hj,hy0,hy1,hy2⟩:=info_parts zmu;have hol:(zjT n).length=n+1:=zjV n;have hp9:p.length≤6:=by
  have:=(zc0 (zg4 h1).1).2.1;exact this
 have hp0:0<p.length:=by omega
 have hrow:∀ i,(l.getD i []).length≤1000000:=fun i=>by
  rw [List.getD_eq_getElem?_getD]
  cases h:l[i]? with
  | none=>exact Nat.zero_le _
  | some r =>
   have hi:=(List.getElem?_eq_some_iff.1 h).1
   obtain ⟨o,ho⟩:∃ o,os[i]?=some o:=⟨_,List.getElem?_eq_getElem (by omega)⟩
   obtain ⟨z0,zs,q,rfl,hz,_⟩:=(hred i r o h ho).at'
   simp only [Option.getD_some,List.length_cons]
   omega
 have hck:=fun W (hE:Ext w W)=>zgs vp vq p (zjT n) W (hE.sl hp) (hE.sl hq) (by omega) (by omega);rw [h1] at hck;have hsg:=fun W (hE:Ext w W)=>zg9 vp vq p (zjT n) W (he.ext hE) (hE.sl hp) (hE.sl hq) (by omega) (by omega);rw [h1,h2] at hsg;have hca:=fun W (hE:Ext w W)=>zgq vp vl p l W (hE.sl hp) (hE.mat hl) (by omega) (by omega) hrow;rw [h3] at hca;have hrd:∀ (i:Nat)(x o:List Int),l[i]?=some x→os[i]?=some o→∀ u W,Ext w W→Sl W u (zap x)→Calls Tryz.prog 64 #[vp,u,vq] W fun e w'=>∃ v,e=.returned (.tuple #[v,.int .i64 0])∧zc2 w' W.heap.size v o∧Ext W w':=fun i x o hx ho u W hE hu=>by
  obtain ⟨z0,zs,q,rfl,hz,r1,r2,r3,r4,r5,r6⟩:=(hred i x o hx ho).at';exact zjY vp u vq p z0 zs o q W (he.ext hE) (hE.sl hp) hu (by rw [hz];exact hE.sl hq) r1 (by rw [hz];exact h1) (by rw [hz];exact hpr) r2 r3 r4 r5 (by rw [hz];exact r6)
 have hok:∀ o∈os,o.length=n+1:=fun o ho=>by
  obtain ⟨i,hi⟩:=List.mem_iff_getElem?.1 ho;have hl9:=(List.getElem?_eq_some_iff.1 hi).1;obtain ⟨x,hx⟩:∃ x,l[i]?=some x:=⟨_,List.getElem?_eq_getElem (by omega)⟩;have:=(hred i x o hx hi).ok;have:=(zg3 (zg4 this).2).1;omega
 have hcl:=fun W (hE:Ext w W)=>zo4 vq (zjT n) W (hE.sl hq) (by omega) (by unfold zjT;rw [List.length_cons,List.length_replicate];omega);have hcpp:=fun W (hE:Ext w W)=>zo2 vp p W (hE.sl hp) (by omega) (fun q=>by rw [q] at hp0;simp at hp0);have hpsl:=fun W (hE:Ext w W)=>hE.sl hp;have hen:=fun W (hE:Ext w W)=>he.ext hE;obtain ⟨ap,cp,rfl,_,_,_⟩:=hp.parts;obtain ⟨aq,cq,rfl,_,_,_⟩:=hq.parts;obtain ⟨vs,hvl,hvs,hrows⟩:=hl;obtain ⟨am,cm,rfl,_,_,hcm⟩:=hvs.parts;simp only [zar] at *;rw [hvl,hL] at hca ⊢;rw [hpn,hol] at hck hsg hrd ⊢;rw [hpn] at hca hcpp hpsl;rw [hol] at hcl;have hX0:Ext w ((w.alloc (.cells #[.slice ap (n+1) cp] 28)).alloc (.cells #[.slice none 0 0,.slice none 0 0] 31)):=((Ext.refl w).alloc _).alloc _;have hoA:One 28 ((w.alloc (.cells #[.slice ap (n+1) cp] 28)).alloc (.cells #[.slice none 0 0,.slice none 0 0] 31)) w.heap.size (.slice ap (n+1) cp):=One.ext ((Ext.refl _).alloc _) (One.new 28 w (.slice ap (n+1) cp));have hbA:=zoi.new 31 (w.alloc (.cells #[.slice ap (n+1) cp] 28)) (.slice none 0 0) (.slice none 0 0);rw [World.size_alloc] at hbA;have c0:=hoA.cell;have HX0:=hid hX0;have HbA:=hid hbA;have HoA:=hid hoA;have Hck:=hid hck;have Hsg:=hid hsg;have Hca:=hid hca;have Hrd:=hid hrd;have Hok:=hid hok;have Hcl:=hid hcl;have Hcpp:=hid hcpp;have Hpsl:=hid hpsl;have Hen:=hid hen;have Hvl:=hid hvl;have Hrows:=hid hrows;have Hcm:=hid hcm;have HL:=hid hL;have Hos:=hid hos;have Hne:=hid hne;have Hkey:=hid hkey;have Hfin:=hid hfin;have Hcp:=hid hcp;clear hX0 hbA hoA hck hsg hca hrd hok hcl hcpp hpsl hen hvl hrows hcm hL hos hne hkey hfin hcp;clear hvs he hrow hred h1 h2 h3 hpr;go_enter Tryz.func28,Tryz.ntmps28
 go_wp2_with fail
 refine (Hck.out _ HX0.out).mono ?_;rintro e w1 ⟨rfl,hx1⟩;have Hb1:=hid (HbA.out.ext hx1);have Ho1:=hid (HoA.out.ext hx1);have Hx1:=hid (HX0.out.trans hx1);clear hx1 c0;have c0:=Ho1.out.cell;go_wp2_with fail
 refine (Hsg.out w1 Hx1.out).mono ?_;rintro e w2 ⟨rfl,hx2⟩;have Hb2:=hid (Hb1.out.ext hx2);have Ho2:=hid (Ho1.out.ext hx2);have Hx2:=hid (Hx1.out.trans hx2);clear hx2 c0;have c0:=Ho2.out.cell;go_wp2_with fail
 refine (Hca.out w2 Hx2.out).mono ?_;rintro e w3 ⟨rfl,rfl⟩;go_wp2_with fail
 clear c0;go_loopw [12,46] (fun v12 v46 wr=>∃ (i:Nat)(rs:List Rw),v46=.int .i64 i∧i≤L∧Hid (RwM wr w2.heap.size w2.heap.size v12 rs)∧Hid (rs.map Rw.x=(os.take i).filter nzI)∧Hid (Ext w2 wr)) (fun _ v46 _=>L - (zal v46).toNat)
 case atStart=>exact ⟨0,[],rfl,Nat.zero_le _,hid ⟨World.ownsRow_nil _ _ _ 1,fun r h=>by cases h⟩,hid rfl,hid (Ext.refl _)⟩
 case round =>
  obtain ⟨i,rs,rfl,hiL,HR,HM,HE⟩:=hrel;have hrl:rs.length≤12:=by
   have h:=congrArg List.length HM.out;rw [List.length_map] at h;have h5:=List.length_filter_le nzI (os.take i);rw [List.length_take] at h5;have:=Hos.out;omega
  by_cases hin:i<L
  ·obtain ⟨x,hx⟩:∃ x,l[i]?=some x:=⟨_,List.getElem?_eq_getElem (by have:=HL.out;omega)⟩;obtain ⟨o,ho⟩:∃ o,os[i]?=some o:=⟨_,List.getElem?_eq_getElem (by have:=Hos.out;omega)⟩;obtain ⟨u,hu⟩:∃ u,vs[i]?=some u:=⟨_,List.getElem?_eq_getElem (by rw [Hvl.out,HL.out];exact hin)⟩;obtain ⟨bl,off,rfl,hcu⟩:=Hcm.out i u hu;have hru:=Hrows.out i u hu;rw [List.getD_eq_getElem?_getD,hx] at hru;simp only [Option.getD_some] at hru;have hEw:=Hx2.out.trans HE.out;have hr1:=Hrd.out i x o hx ho u wr hEw (hEw.sl hru);have hfs:=zo8 ho;have hool:=Hok.out o (List.mem_of_getElem? ho);obtain ⟨ax,cx,rfl,_,_,_⟩:=hru.parts;generalize (zap x).length=lx at *;have hcw:=hEw.cell hcu;have c0:=(Ho2.out.ext HE.out).cell;have hk1:(0:Int)≤(i:Int):=(by omega);have hk2:(i:Int)<(L:Int):=(by omega);obtain ⟨a12,c12,e12⟩:=zc3 HR.out.1;subst e12;have Hr1:=hid hr1;have Hfs:=hid hfs;have Hool:=hid hool;have HEw:=hid hEw;clear hr1 hfs hool hEw;clear hx ho hu hru hcu;go_wp2_with fail
   refine Hr1.out.mono ?_;rintro e w5 ⟨v5,rfl,ho5,hx5⟩;obtain ⟨a5,c5,e5⟩:=zc3 ho5;subst e5;have hiz:=zk3 _ o w5 ho5.sl (by have:=Hool.out;omega);have ho5':=zam ho5 HE.out.size;have hR5:=HR.out.ext hx5;have HE5:=hid (HE.out.trans hx5);have hzo:(o.any fun n=>n != 0)=nzI o:=rfl;rw [hzo] at hiz;have Hiz:=hid hiz;have Ho5':=hid ho5';have HR5:=hid hR5;clear hiz ho5' hR5;clear hzo ho5 hx5 hcw c0
   cases hb:nzI o
   ·rw [hb] at Hiz;have hfs:=Hfs.out;rw [hb,if_neg Bool.false_ne_true,List.append_nil] at hfs;have Hfs:=hid hfs;clear hfs;clear hb;go_wp2_with fail
    refine Hiz.out.mono ?_;rintro e w6 ⟨rfl,hx6⟩;have Hx6:=hid hx6;clear hx6;go_wp2_with fail
    go_roundw
    case rel=>exact ⟨i+1,rs,by go_num,hin,hid (HR5.out.ext Hx6.out),hid (by rw [Hfs.out];exact HM.out),hid (HE5.out.trans Hx6.out)⟩
    case measure=>simp [zal];omega
   ·rw [hb] at Hiz;have hfs:=Hfs.out;rw [hb,if_pos rfl] at hfs;have Hfs:=hid hfs;clear hfs;clear hb;go_wp2_with fail
    refine Hiz.out.mono ?_;rintro e w6 ⟨rfl,hx6⟩;have HR6:=hid (HR5.out.ext hx6);have Ho6:=hid (hx6.own Ho5'.out);have HE6:=hid (HE5.out.trans hx6);have hqo:=HR6.out.1;have hm3:rs.length+1≤maxLen:=(by unfold maxLen;omega);have hm4:(rs.length+1) * 24≤140737488355328:=(by omega);have hbase:=HE6.out.size;clear hx6;go_wp2_with (at_builtin;refine wpList_append_own _ rfl _ _ 29 rfl w2.heap.size 33 j0 (.slice none 0 0) 1 24 Tryz.underlying29 hj hy0 hy1 hy2 rfl (by decide) _ _ _ rfl (hqo.alloc _) ⟨w6.heap.size,0,none⟩ 1 1 [.slice a5 o.length c5] rfl rfl (cell_one_new _ _ _) (by simp [Value.oneCell']) hm3 hm4 (by rw [World.size_alloc];omega) ?_;intro v7 V7 hown7 hgrow7 _)
    go_roundw
    case rel =>
     have hmo:=HR6.out.more (r:=⟨o,.slice a5 o.length c5,rfl⟩) ⟨Ho6.out,by show o.length≤1000000;have:=Hool.out;omega⟩ hown7 hgrow7;refine ⟨i+1,rs++[⟨o,.slice a5 o.length c5,rfl⟩],by go_num,hin,hid hmo,hid (by rw [Hfs.out,List.map_append,HM.out];rfl),hid ((HE6.out.alloc _).grown hgrow7 fun q hq=>(World.ownsRow.lt hqo q hq).1)⟩
    case measure=>simp [zal];omega
  ·have hiL2:i=L:=(by omega);have hni:¬ (i:Int)<(L:Int):=(by omega);have hM:=HM.out;rw [List.take_of_length_le (by have:=Hos.out;omega)] at hM;have hr0:0<rs.length:=by
    rcases Nat.eq_zero_or_pos rs.length with q | q
    ·rw [List.eq_nil_of_length_eq_zero q] at hM;exact absurd hM.symm Hne.out
    ·exact q
   obtain ⟨g,c12,e12,hg1,hg2⟩:=zlZ HR.out.1 hr0;subst e12;have hmx:∀ r∈rs,r.x∈os.filter nzI:=fun r hr=>by rw [← hM];exact List.mem_map_of_mem hr
   have hso:=zky Rw.u (fun r=>key r.x) 67 #[.pointer (some ⟨w.heap.size,0,none⟩)] w2.heap.size g c12 rs wr HR.out.1 hrl (fun r=>r.hu) zo6 fun W hW x hx y hy=>by
    have hE9:Ext w2 W:=HE.out.grown hW fun k hk=>by cases hk;exact hg1
    have kx:=(World.ownsRow.kept (HR.out.2 x hx).1 hW (zc5 (HR.out.2 x hx).1 HR.out.1 zmB));have ky:=(World.ownsRow.kept (HR.out.2 y hy).1 hW (zc5 (HR.out.2 y hy).1 HR.out.1 zmB));have hxx:=zo5 w.heap.size _ x.u y.u p x.x y.x W (Hen.out W (Hx2.out.trans hE9)) (Ho2.out.ext hE9).cell (Hpsl.out W (Hx2.out.trans hE9)) (zan kx) (zan ky) (by omega) (HR.out.2 x hx).2 (HR.out.2 y hy).2;refine hxx.mono ?_;rintro e W' ⟨rfl,hxw⟩;exact ⟨⟨_,rfl,Hkey.out x.x (hmx x hx) y.x (hmx y hy)⟩,hxw⟩
   have HM:=hid hM;have Hso:=hid hso;clear hM hso;clear hmx;go_wp2_with fail
   refine Hso.out.mono ?_;rintro e w5 ⟨rfl,d',hI,hpw⟩;have hE5:Ext w2 w5:=HE.out.grown hI.only fun k hk=>by cases hk;exact hg1
   have hdl:=hI.len;have hdx:d'.map Rw.x=fin:=Hfin.out _ (by rw [← HM.out];exact hI.perm.map _) (by rw [List.pairwise_map];exact hpw);have hR5:RwM w5 w2.heap.size w2.heap.size (.slice (some ⟨g,0,none⟩) d'.length c12) d':=⟨by rw [hdl];exact hI.own,fun r hr=>by
    have hr2:=hI.perm.mem_iff.1 hr;exact ⟨World.ownsRow.kept (HR.out.2 r hr2).1 hI.only (zc5 (HR.out.2 r hr2).1 HR.out.1 zmB),(HR.out.2 r hr2).2⟩⟩
   have hall:zkZ Rw.x d' d'.length=d':=by
    rw [zla Rw.x d' d'.length (Nat.le_refl _),List.take_length];intro j hj;rw [hdx];exact Hcp.out j (by rw [← hdx,List.length_map];exact hj)
   have hcc:=zlm hR5 (by omega);rw [hall,hdl] at hcc;have hd12:d'.length≤12:=(by omega);have HE5:=hid hE5;have Hdx:=hid hdx;have Hcc:=hid hcc;clear hE5 hdx hcc;clear hI hpw hR5 hall hdl;go_wp2_with fail
   refine Hcc.out.mono ?_;rintro e w6 ⟨v6,rfl,hR6,hE6'⟩;have hE6:=hE6' w2 HE5.out rfl;obtain ⟨a6,c6,e6⟩:=zc3 hR6.1;subst e6;have hcl6:=Hcl.out w6 (Hx2.out.trans hE6);have HR6:=hid hR6;have HE6:=hid hE6;have Hcl6:=hid hcl6;clear hR6 hE6 hcl6;clear hE6';go_wp2_with fail
   refine Hcl6.out.mono ?_;rintro e w7 ⟨u7,rfl,ho7,hx7⟩;have hs7:∃ a c,u7=.slice a (n+1) c:=by
    obtain ⟨a,c,e⟩:=zc3 ho7;rw [hol] at e;exact ⟨a,c,e⟩
   obtain ⟨a7,c7,rfl⟩:=hs7;have HR7:=hid (HR6.out.ext hx7);have HO7:=hid (zam ho7 HE6.out.size);have HE7:=hid (HE6.out.trans hx7);have hqo:=HR7.out.1;have hm3:d'.length+1≤maxLen:=(by unfold maxLen;omega);have hm4:(d'.length+1) * 24≤140737488355328:=(by omega);have hbase:=HE7.out.size;have hgt:decide ((d'.length:Int)+1 > 60)=false:=decide_eq_false (by omega);have hgt2:decide (60<(d'.length:Int)+1)=false:=decide_eq_false (by omega);clear hx7 ho7;go_wp2_with (at_builtin;refine wpList_append_own _ rfl _ _ 29 rfl w2.heap.size 33 j0 (.slice none 0 0) 1 24 Tryz.underlying29 hj hy0 hy1 hy2 rfl (by decide) _ _ _ rfl (hqo.alloc _) ⟨w7.heap.size,0,none⟩ 1 1 [.slice a7 (n+1) c7] rfl rfl (cell_one_new _ _ _) (by simp [Value.oneCell']) hm3 hm4 (by rw [World.size_alloc];omega) ?_;intro v8 V8 hown8 hgrow8 _;have hE8:Ext w2 V8:=(HE7.out.alloc _).grown hgrow8 fun q hq=>(World.ownsRow.lt hqo q hq).1;have c0:=(Ho2.out.ext hE8).cell;obtain ⟨a8,c8,e8⟩:=zc3 hown8;subst e8)
   have hmo:=HR7.out.more (r:=⟨zjT n,.slice a7 (n+1) c7,rfl⟩) ⟨HO7.out,by show (zjT n).length≤1000000;rw [hol];omega⟩ hown8 hgrow8;have hcp8:=Hcpp.out V8 (Hx2.out.trans hE8);have Hmo:=hid hmo;have HE8:=hid hE8;have Hcp8:=hid hcp8;clear hmo hE8 hcp8;clear hown8 hgrow8 hqo hm3 hm4 hbase c0;refine Hcp8.out.mono ?_;rintro e w9 ⟨u9,rfl,ho9,hx9⟩;have hs9:∃ a c,u9=.slice a (n+1) c:=by
    obtain ⟨a,c,e⟩:=zc3 ho9;rw [hpn] at e;exact ⟨a,c,e⟩
   obtain ⟨a9,c9,rfl⟩:=hs9;have hb9:=Hb2.out.ext (HE8.out.trans hx9);have hmo9:=Hmo.out.ext hx9;have hE9:=Hx2.out.trans (HE8.out.trans hx9);have c0:=hb9.c0;have c1:=hb9.c1;have z0:=hb9.fz 0;have z1:=hb9.fz 1;have hb10:=hb9.put (.slice a9 (n+1) c9) (.slice a8 (d'.length+1) c8);have hd0:=hb10.c0;have hd1:=hb10.c1;have hg10:=(zf7 w9 ⟨w.heap.size+1,0,none⟩ (.slice a9 (n+1) c9)).trans (zf7 (w9.setCell ⟨w.heap.size+1,0,none⟩ (.slice a9 (n+1) c9)) ⟨w.heap.size+1,1,none⟩ (.slice a8 (d'.length+1) c8));have hlt:=Hb2.out.lt;have hm10:=hmo9.above hg10 hlt hlt;have ho10:=zmT ho9 hg10 (Nat.lt_of_lt_of_le hlt HE8.out.size);have hE10:=(hE9.setCell (p:=⟨w.heap.size+1,0,none⟩) (Nat.le_succ _) (.slice a9 (n+1) c9)).setCell (p:=⟨w.heap.size+1,1,none⟩) (Nat.le_succ _) (.slice a8 (d'.length+1) c8);have Hm10:=hid hm10.reads;have Ho10:=hid (zan ho10);have HE10:=hid hE10;clear hE10;clear hb9 hmo9 hE9 hb10 hg10 hm10 ho10 ho9 hx9;go_wp2_with fail
   exact bodyPost_ret (v:=.tuple #[.agg #[.slice a9 (n+1) c9,.slice a8 (d'.length+1) c8],.int .i64 0]) (by simp [results,Tryz.results28,go_sem,hd0,hd1]) rfl ⟨_,_,rfl,Ho10.out,by have:=Hm10.out;rw [List.map_append,Hdx.out] at this;exact this,HE10.out⟩
end Go.Proofs.YtipkdebkdnbieaaGreatDoor
