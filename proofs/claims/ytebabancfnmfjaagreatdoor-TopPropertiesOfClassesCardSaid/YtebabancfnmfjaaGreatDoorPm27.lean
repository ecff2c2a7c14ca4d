/- The range over the map of different sizes: what has come, what is left. Walks: class.(*view).sizes. Walks: class.(*view).all. Plain: the answers of Kind, Constant, Proper and Strict; a block of four cells. Plain: the sizes of a world are sizes that a scale is made of. -/
import Derived.Test.YtebabancfnmfjaaGreatDoorPm26
import Derived.Test.YtebabancfnmfjaaGreatDoorPm25
set_option maxRecDepth 100000
set_option maxHeartbeats 1600000
namespace Go.Proofs.YtebabancfnmfjaaGreatDoor
open Go.RowKit Go.Lib Go.Shelf
structure RgT (p:List Int)(out:List Qw)(D:DataW Unit)(left:Lit→Bool)(out2:List Qw):Prop where
 all:∀ kl,Maps.has D kl=true ↔ (left kl=true∨∃ q∈out2,kl=.string (txt p q.x))
 dis:∀ kl,left kl=true→∀ q∈out2,kl ≠ .string (txt p q.x)
 sub:∀ q∈out2,q∈out
 nod:(out2.map fun q=>txt p q.x).Nodup
theorem RgT.start {p:List Int}{out:List Qw}{D:DataW Unit}:RgT p out D (Maps.has D) [] :=
 ⟨fun _=>⟨fun h=>.inl h,fun h=>h.elim (fun g=>g) (fun ⟨_,g,_⟩=>(by simp at g))⟩,fun _ _ _ g=>(by simp at g),fun _ g=>(by simp at g),(by simp)⟩
theorem RgT.step {p:List Int}{out:List Qw}{k:Nat}{D:DataW Unit}{left:Lit→Bool}{out2:List Qw}(hT:zmr p out k D)(h:RgT p out D left out2){kl:Lit}{c:Value}{y:DataW Unit × List MemPlace}(hl:left kl=true)(hR:rdT p out c=some y)(hat:∀ zd,D.atKey kl zd=y.1) :
  ∃ q∈out,q.u=c∧RgT p out D (fun z=>left z && !z.sameKey kl) (out2++[q]):=by
 obtain ⟨q,hq,hu,hy⟩:=zmp hR;have hh:Maps.has D kl=true:=(h.all kl).2 (.inl hl);have e:=(hT.tells kl hh .nil).symm.trans (hat .nil);rw [hy] at e;injection e with e;refine ⟨q,hq,hu,?_,?_,?_,?_⟩
 ·intro z;rw [h.all];by_cases g:z=kl
  ·subst g;constructor
   ·intro _;exact .inr ⟨q,by simp,e⟩
   ·intro _;exact .inl hl
  ·have hs:z.sameKey kl=false:=Maps.sameKey_ne g;rw [hs];constructor
   ·rintro (g1 | ⟨s,hs2,g2⟩)
    ·left;simpa using g1
    ·exact .inr ⟨s,List.mem_append_left _ hs2,g2⟩
   ·rintro (g1 | ⟨s,hs2,g2⟩)
    ·left;simpa using g1
    ·rcases List.mem_append.1 hs2 with g3 | g3
     ·exact .inr ⟨s,g3,g2⟩
     ·rw [List.mem_singleton] at g3;subst g3;exact absurd (g2.trans e.symm) g
 ·intro z hz s hs;rw [Bool.and_eq_true] at hz;rcases List.mem_append.1 hs with g3 | g3
  ·exact h.dis z hz.1 s g3
  ·rw [List.mem_singleton] at g3;subst g3;intro g;rw [g,← e] at hz;have hk:WideAt.IsKeyLit kl:=(by rw [e];trivial);rw [WideAt.sameKey_self hk] at hz;exact absurd hz.2 (by decide)
 ·intro s hs;rcases List.mem_append.1 hs with g3 | g3
  ·exact h.sub s g3
  ·rw [List.mem_singleton] at g3;rw [g3];exact hq
 ·rw [List.map_append,List.nodup_append];refine ⟨h.nod,by simp,?_⟩;intro a ha b hb;obtain ⟨s,hs,rfl⟩:=List.mem_map.1 ha;simp only [List.map_cons,List.map_nil,List.mem_singleton] at hb;subst hb;intro g;exact h.dis kl hl s hs (by rw [e,g])
theorem RgT.done {p:List Int}{out:List Qw}{k:Nat}{D:DataW Unit}{left:Lit→Bool}{out2:List Qw}(hT:zmr p out k D)(hk:out.length≤k)(h:RgT p out D left out2)(h0:∀ kl,left kl=false)(hpw:p=[2,3]∨p=[2,3,5])(hl:∀ r∈out,r.x.length=p.length) :
  (∀ x,x∈out2.map Qw.x ↔ x∈out.map Qw.x)∧(out2.map Qw.x).Nodup:=by
 constructor
 ·intro x;constructor
  ·intro hx;obtain ⟨q,hq,rfl⟩:=List.mem_map.1 hx;exact List.mem_map_of_mem (h.sub q hq)
  ·intro hx;obtain ⟨r,hr,rfl⟩:=List.mem_map.1 hx;obtain ⟨i,hi⟩:=List.mem_iff_getElem?.1 hr;have hil:=(List.getElem?_eq_some_iff.1 hi).1;have hh:=(hT.has (.string (txt p r.x))).2 ⟨i,r,by omega,hi,rfl⟩;rcases (h.all _).1 hh with g | ⟨q,hq,e⟩
   ·rw [h0] at g;cases g
   ·injection e with e;have:=zlZ hpw (hl r hr) (hl q (h.sub q hq)) e;rw [this];exact List.mem_map_of_mem hq
 ·have h1:=h.nod;unfold List.Nodup at h1 ⊢;rw [List.pairwise_map] at h1 ⊢;exact h1.imp fun {a b} g e=>g (by rw [e])
theorem zmt (key:Value)(kl:Lit)(h:keyOf Tryz.prog 9 key=some kl):∃ x,key=Value.string x:=by
 have hu:=Tryz.underlying9;generalize Tryz.prog=P at h hu;unfold keyOf mapKey at h;simp only [hu] at h
 cases key with
 | string s=>exact ⟨s,rfl⟩
 | _=>exact absurd h (fun g=>by cases g)
theorem RgT.few {p:List Int}{out:List Qw}{D:DataW Unit}{left:Lit→Bool}{out2:List Qw}(h:RgT p out D left out2):out2.length≤out.length:=by
 have h1:=h.nod;have h2:(out2.map Qw.x).Nodup:=by
  unfold List.Nodup at h1 ⊢;rw [List.pairwise_map] at h1 ⊢;exact h1.imp fun {a b} g e=>g (by rw [e])
 have h3:=zjk (M:=out.map Qw.x) h2 fun x hx=>by
  obtain ⟨q,hq,rfl⟩:=List.mem_map.1 hx;exact List.mem_map_of_mem (h.sub q hq)
 rwa [List.length_map,List.length_map] at h3
end Go.Proofs.YtebabancfnmfjaaGreatDoor

namespace Go.Proofs.YtebabancfnmfjaaGreatDoor
open Go.RowKit Go.Lib Go.Shelf
attribute [local go_sem] Oper.semAt_some
theorem zmu {p:List Int}{x:List Rat}(hl:(txt p x).length≤10000000):keyOf Tryz.prog 9 (.string ⟨(txt p x).toArray⟩)=some (.string (txt p x)):=by
 unfold keyOf mapKey;rw [Tryz.underlying9];have:(⟨(txt p x).toArray⟩:ByteArray).size≤maxLen:=by
  show (txt p x).toArray.size≤_;rw [List.size_toArray];unfold maxLen;omega
 simp only [this,if_true]
theorem zmv (u:Value)(p:List Int)(rs:List Qw)(d:Nat)(w:World)(he:Env w)(hu:Vw w u p rs)(h:Wc p (rs.map Qw.x))(hd:d≤rs.length) :
  Calls Tryz.prog 49 #[u,.int .i64 (d:Int)] w fun e w'=>∃ v out,e=.returned (.tuple #[v,.int .i64 0])∧QwM w' w.heap.size w.heap.size v out∧out.map Qw.x=cls p (rs.map Qw.x) (d:Int)∧Ext w w':=by
 obtain ⟨j0,hj,hy0,hy1,hy2⟩:=info_parts zfz;have hmm:=@run_makeMap Tryz.prog;have law:Maps.Keyed Tryz.prog 9:=Maps.string_keyed Tryz.underlying9;have hL:(rs.map Qw.x).length=rs.length:=List.length_map ..;have hdf:=zlB u p rs d w he hu h hd;have hpw:p=[2,3]∨p=[2,3,5]:=by rcases h.wd.pr with ⟨e,_⟩ | ⟨e,_⟩ <;> simp [e]
 have hu2:=hu;obtain ⟨b,vp,vn,vs,nts,rfl,hb,hp,hn,hs,hm⟩:=hu;obtain ⟨ap,cp,rfl,_,_,_⟩:=hp.parts;have htx:=fun (x:List Rat) v W (hE:Ext w W)(hv:Rd W v x)(i:Int)(hx:x=iv p (rs.map Qw.x) i (d:Int))=>zml (.slice ap (zaq p).length cp) v p x W (he.ext hE) (hE.sl hp) hv hpw (by rw [hx];exact h.ivlen _ _) (by rw [hx];exact (h.iv_quick (by omega) (by rw [hL];omega)).1);rw [zas] at *;have htl:∀ i:Int,(txt p (iv p (rs.map Qw.x) i (d:Int))).length≤10000000:=fun i=>zms hpw (h.iv_quick (by omega) (by rw [hL];omega)).1;have hfew:=h.few;rw [hL] at hfew;have Htl:=hid htl;have HL:=hid hL;have Hw:=hid h;have Hpw:=hid hpw;clear htl hL h hpw;have Hdf:=hid hdf;have Htx:=hid htx;have Hb:=hid hb;clear hdf htx hb hp hn hs hm;go_enter Tryz.func49,Tryz.ntmps49
 go_wp2_with fail
 refine Hdf.out.mono ?_;rintro e w1 ⟨v,out,rfl,hq,hmo,hx1⟩;obtain ⟨av,cv,rfl⟩:=zfj hq.1;have q0:=(Hb.out.ext hx1).c0;have hol:out.length=rs.length:=by
  have:=congrArg List.length hmo;rwa [List.length_map,zl8,HL.out] at this
 have hmo2:∀ (i:Nat) r,out[i]?=some r→r.x=iv p (rs.map Qw.x) (i:Int) (d:Int):=fun i r hr=>by
  have h1:i<out.length:=(List.getElem?_eq_some_iff.1 hr).1;have h2:=zl9 (p:=p) (N:=rs.map Qw.x) (d:=(d:Int)) (i:=i) (by rw [HL.out,← hol];exact h1);rw [← hmo,List.getElem?_map,hr] at h2;exact Option.some.inj h2
 rw [hol];generalize hn:rs.length=n at *;have Hq:=hid hq;have Hmo:=hid hmo;have Hx1:=hid hx1;have Hol:=hid hol;have Hmo2:=hid hmo2;have Hn:=hid hn;clear hq hmo hx1 hol hmo2 hn;go_wp2_with fail
 go_loopw [28] (fun v28 wr=>∃ (k:Nat)(D:DataW Unit),v28=.int .i64 k∧k≤n∧zmr p out k D∧wr.ownsMap Tryz.prog 9 (rdT p out) w1.heap.size k D∧Ext w1 wr) (fun v28 _=>n - (zam v28).toNat)
 case atStart=>exact ⟨0,.map [],rfl,Nat.zero_le _,zmr.start _ _,World.ownsMap_made _ _ _ _,(Ext.refl w1).alloc _⟩
 case round =>
  obtain ⟨k,D,rfl,hk,hT,hown,hE⟩:=hrel;by_cases hkn:k<n
  ·have hkz:(k:Int)<(n:Int):=(by omega);obtain ⟨r,hr⟩:∃ r,out[k]?=some r:=⟨_,List.getElem?_eq_getElem (by rw [Hol.out];exact hkn)⟩;have hrm:=List.mem_of_getElem? hr;have hQr:=hE.qwM Hq.out;have hxr:=Hmo2.out k r hr;obtain ⟨_,_,e1,_,_,hc⟩:=hQr.rd.1.parts;injection e1 with e1 e2 e3;subst e1 e3;obtain ⟨g,off,rfl,hcell⟩:=hc k r.u (by unfold qwc;rw [List.getElem?_map,hr];rfl);obtain ⟨ar,cr,hru,_,_,_⟩:=(hQr.rd.2 r hrm).parts;have htxr:=Htx.out r.x r.u wr (Hx1.out.trans hE) (hQr.rd.2 r hrm) (k:Int) hxr;have hky:=zmu (p:=p) (x:=r.x) (by rw [hxr];exact Htl.out _);have hvl:=zmq (p:=p) hQr.rd.2 hrm;have hT2:=hT.step hr;rw [hru] at htxr hcell hvl;have q0:=(Hb.out.ext (Hx1.out.trans hE)).c0;generalize txt p r.x=T at *;have hk0:(0:Int)≤(k:Int):=(by omega);have hkm:k<maxLen:=(by unfold maxLen;omega);have Htxr:=hid htxr;have Hky:=hid hky;have Hvl:=hid hvl;have HT2:=hid hT2;have Hown:=hid hown;have HE:=hid hE;clear htxr hky hvl hT2 hT hown hE hQr hc hru hxr;go_wp2_with fail
   refine Htxr.out.mono ?_;rintro e w2 ⟨rfl,hx2⟩;have hown2:=Hown.out.kept (zfr (zfp wr none) hx2) (by simp);have Hx2:=hid hx2;clear hx2;go_wp2_with (first | (at_mapUpdate;refine wpList_mapUpdate_own _ rfl _ _ _ 157 rfl 9 41 law Tryz.underlying157 _ w1.heap.size k _ rfl hown2 hkm _ _ _ rfl rfl Hky.out _ [] Hvl.out ?_;intro w3 hown3 hgrow3) | fail)
   go_roundw
   case rel=>exact ⟨k+1,_,by go_num,by omega,HT2.out,hown3,(HE.out.trans Hx2.out).grown hgrow3 (fun j hj=>by cases hj;exact Nat.le_refl _)⟩
   case measure=>simp [zam];omega
  ·obtain rfl:n=k:=by omega
   have hkz:¬ (n:Int)<(n:Int):=(by omega);have HT:=hid hT;have Hown:=hid hown;have HE:=hid hE;clear hT hown hE;go_wp2_with (first | (at_range;refine wpList_range_own _ rfl _ 157 rfl 9 41 law Tryz.underlying157 _ w1.heap.size n D rfl Hown.out ?_;intro w4 hrg4 hg4 hs4) | fail)
   have hlt4:w1.heap.size<wr.heap.size:=(by have:=Hown.out.lt;exact this);obtain ⟨wa,hwa⟩:∃ wa,wa=wr:=⟨_,rfl⟩;subst hwa;have hE4:Ext w1 w4:=HE.out.grown hg4 (fun j hj=>by cases hj);have HE4:=hid hE4;have Hrg4:=hid hrg4;clear hE4 hrg4;go_loopw [13] (fun v13 wr=>∃ (left:Lit→Bool)(cnt:Nat)(out2:List Qw),wr.ranges Tryz.prog 9 (rdT p out) w1.heap.size wa.heap.size n D left cnt∧wr.ownsRow w4.heap.size 41 1 v13 out2.length (qwc out2)∧RgT p out D left out2∧Ext w1 wr∧w4.heap.size≤wr.heap.size) (fun _ wr=>wr.rangeLeft w1.heap.size wa.heap.size)
   case atStart=>exact ⟨_,_,[],Hrg4.out,World.ownsRow_nil _ _ _ _,RgT.start,HE4.out,Nat.le_refl _⟩
   case round =>
    obtain ⟨left,cnt,out2,hrg,hrow,hRg,hE,hwr4⟩:=hrel;obtain ⟨a13,c13,rfl⟩:=zfj hrow;have hf2:=hRg.few;rw [Hol.out] at hf2;have Hrow:=hid hrow;have HRg:=hid hRg;have HEr:=hid hE;clear hrow hRg hE;go_wp2_with (first | (at_next;refine wpList_next_ranges _ rfl _ rfl 9 law (rdT p out) Value.string id zmt (fun v _ _=>⟨v,rfl⟩) w1.heap.size wa.heap.size n D left cnt rfl hrg ?_ ?_) | fail)
    ·intro _ hl0;have hdone:=RgT.done HT.out (by rw [Hol.out];exact Nat.le_refl _) HRg.out hl0 Hpw.out (fun r hr=>by
      obtain ⟨i,hi⟩:=List.mem_iff_getElem?.1 hr;rw [Hmo2.out i r hi];exact Hw.out.ivlen _ _)
     have hiv:∀ q∈out2,∃ i:Nat,i<n∧q.x=iv p (rs.map Qw.x) (i:Int) (d:Int):=fun q hq=>by
      obtain ⟨i,hi⟩:=List.mem_iff_getElem?.1 (HRg.out.sub q hq);exact ⟨i,by have:=(List.getElem?_eq_some_iff.1 hi).1;rw [Hol.out] at this;exact this,Hmo2.out i q hi⟩
     have hpos:0<out2.length:=by
      have h0:=Hw.out.wd.pos;have hmem:iv p (rs.map Qw.x) 0 (d:Int)∈out.map Qw.x:=by
       rw [Hmo.out];unfold dfs;exact List.mem_map.2 ⟨0,List.mem_range.2 h0,rfl⟩
      have:=List.length_pos_of_mem ((hdone.1 _).2 hmem);rwa [List.length_map] at this
     obtain ⟨g,cap,e2,_⟩:=zfn Hrow.out hpos;injection e2 with e2 _ e3;subst e2 e3;have hrow2:=Hrow.out;have hgw:=World.ownsRow.lt hrow2 g rfl;have hpr:∀ W,wr.grownBy W (some g)→Ext w1 W:=fun W hg=>HEr.out.grown hg (fun k hk=>by cases hk;exact Nat.le_trans HE4.out.size hgw.1);have hst:=zlx Qw.u (fun q:Qw=>sF p q.x) 101 (.pointer (some ⟨b,0,none⟩)) w4.heap.size g c13 out2 wr hrow2 (by omega) (fun q=>q.hu) (enters_of Tryz.func101 (by kernel_rfl) rfl) (fun W hgr x hx y hy=>by
      have hE:=hpr W hgr;obtain ⟨i,hi,ex⟩:=hiv x hx;obtain ⟨j,hj2,ey⟩:=hiv y hy;have hQ:=hE.qwM Hq.out;have hd1:(d:Int)≤((rs.map Qw.x).length:Int):=(by rw [HL.out];omega);have hq1:=Hw.out.iv_quick (i:=(i:Int)) (d:=(d:Int)) (by omega) hd1;have hq2:=Hw.out.iv_quick (i:=(j:Int)) (d:=(d:Int)) (by omega) hd1;have hq3:=Hw.out.iv_sub_quick (i:=(i:Int)) (d:=(d:Int)) (j:=(j:Int)) (e:=(d:Int)) (by omega) hd1 (by omega) hd1;have hsg:=Hw.out.iv_sgn (i:Int) (d:Int) (j:Int) (d:Int);rw [← ex] at hq1 hq3 hsg;rw [← ey] at hq2 hq3 hsg;have:=zlC (.pointer (some ⟨b,0,none⟩)) x.u y.u p rs x.x y.x W (he.ext (Hx1.out.trans hE)) (hu2.ext (Hx1.out.trans hE)) Hw.out.wd.pr (hQ.rd.2 x (HRg.out.sub x hx)) (hQ.rd.2 y (HRg.out.sub y hy)) (by rw [ex];exact Hw.out.ivlen _ _) (by rw [ey];exact Hw.out.ivlen _ _) hq1.1 hq2.1 hq3;refine this.mono fun e W' ⟨h1,h2⟩=>⟨⟨_,h1,?_⟩,h2⟩;rw [hsg,zka];constructor <;> intro g1 <;> grind)
     have Hst:=hid hst;have Hpr:=hid hpr;have Hdone:=hid hdone;have Hiv:=hid hiv;have hx14:Ext w w4:=Hx1.out.trans HE4.out;have Hx14:=hid hx14;clear hst hpr hdone hiv hrow2 hgw hpos hl0 hrg hx14 q0;go_wp2_with fail
     refine Hst.out.mono ?_;rintro e w7 ⟨rfl,d5,hR5,hS5⟩;have hE7:=Hpr.out w7 hR5.only;have hperm:=hR5.perm;have hlen5:d5.length=out2.length:=hR5.len;have hcls:d5.map Qw.x=cls p (rs.map Qw.x) (d:Int):=by
      refine Hw.out.cls_uniq ?_ ?_
      ·refine ziw (hperm.map Qw.x) (List.pairwise_map.2 hS5) Hdone.out.2 ?_;intro x hx y hy g1;obtain ⟨q,hq,rfl⟩:=List.mem_map.1 hx;obtain ⟨s,hs,rfl⟩:=List.mem_map.1 hy;obtain ⟨i,_,e1⟩:=Hiv.out q hq;obtain ⟨j,_,e2⟩:=Hiv.out s hs;rw [e1,e2] at g1 ⊢;exact Hw.out.iv_inj g1
      ·intro x;rw [(hperm.map Qw.x).mem_iff,Hdone.out.1,Hmo.out];unfold dfs;rw [List.mem_map];constructor
       ·rintro ⟨i,hi,e⟩;exact ⟨i,List.mem_range.1 hi,e.symm⟩
       ·rintro ⟨i,hi,e⟩;exact ⟨i,List.mem_range.2 hi,e.symm⟩
     have hfin:QwM w7 w.heap.size w.heap.size (.slice (some ⟨g,0,none⟩) out2.length c13) d5:=by
      refine ⟨?_,fun q hq=>(hE7.qwM Hq.out).2 q (HRg.out.sub q (hperm.mem_iff.1 hq))⟩;have:=zan hR5.own Hx14.out.size;rw [hlen5];exact this
     have Hcls:=hid hcls;have Hfin:=hid hfin;have HE7:=hid (Hx1.out.trans hE7);clear hcls hfin hE7 hperm hlen5 hR5 hS5;go_wp2_with fail
     exact bodyPost_ret (v:=.tuple #[.slice (some ⟨g,0,none⟩) out2.length c13,.int .i64 0]) (by simp [results,Tryz.results49,go_sem]) rfl ⟨_,d5,rfl,Hfin.out,Hcls.out,HE7.out⟩
    ·intro x c kl yd yp w5 cnt1 hkey hlk hRc hat hrg1 hlt hg1 hs1 hen;obtain ⟨q,hqm,hqu,hRg5⟩:=RgT.step (y:=(yd,yp)) HT.out HRg.out hlk hRc hat;obtain rfl:c=q.u:=hqu.symm;simp only at *;have hlo:∀ k,(Value.slice a13 out2.length c13).ownBlock=some k→w4.heap.size≤k:=fun k hk=>(World.ownsRow.lt Hrow.out k hk).1;have hnr:some wa.heap.size ≠ (Value.slice a13 out2.length c13).ownBlock:=fun e=>by have:=hlo _ e.symm;omega
     have hnb:some w1.heap.size ≠ (Value.slice a13 out2.length c13).ownBlock:=fun e=>by have:=hlo _ e.symm;omega
     have hE5:Ext w1 w5:=HEr.out.grown hg1 (fun j hj=>by cases hj;omega);have hrow5:w5.ownsRow w4.heap.size 41 1 (.slice a13 out2.length c13) out2.length (qwc out2):=World.ownsRow.kept Hrow.out hg1 (.inr fun e=>hnr e.symm);have hbase:w4.heap.size≤w5.heap.size:=by
      rw [hs1];exact hwr4
     obtain ⟨aq,cq,hqs,_,_,_⟩:=((hE5.qwM Hq.out).rd.2 q hqm).parts;have hm3:out2.length+1≤maxLen:=(by unfold maxLen;omega);have hm4:(out2.length+1) * 24≤140737488355328:=(by omega);rw [hqs] at hen ⊢;have HRg5:=hid hRg5;have Hrg1:=hid hrg1;have HE5:=hid hE5;have Hlo:=hid hlo;have Hqs:=hid hqs;have Hrow5:=hid hrow5;have Hrg:=hid hrg;have Hlt:=hid hlt;clear hRg5 hrg1 hE5 hlo hqs hat hRc hkey hrg hlt hqu hqm hs1 hs4;go_wp2_with (first | (at_builtin;go_loud (refine wpList_append_own _ rfl _ _ 26 rfl w4.heap.size 41 j0 (.slice none 0 0) 1 24 Tryz.underlying26 hj hy0 hy1 hy2 rfl (by decide) _ _ _ rfl (hrow5.alloc _) ⟨w5.heap.size,0,none⟩ 1 1 [_] rfl rfl (cell_one_new _ _ _) (by simp [Value.oneCell']) hm3 hm4 (by rw [World.size_alloc];omega) ?_);intro v7 V7 hown7 hgrow7 _) | fail)
     go_roundw
     case rel=>exact ⟨_,_,out2++[q],(World.ranges.alloc Hrg1.out _).kept hgrow7 hnb hnr,by rw [List.length_append,zjx,Hqs.out];exact hown7,HRg5.out,(HE5.out.alloc _).grown hgrow7 (fun k hk=>Nat.le_trans HE4.out.size (Hlo.out k hk)),by have:=hgrow7.size;rw [World.size_alloc] at this;omega⟩
     case measure=>rw [((World.ranges.alloc Hrg1.out _).kept hgrow7 hnb hnr).left_eq,Hrg.out.left_eq];exact Hlt.out
structure Lq where
 rs:List Qw
 u:Value
 hu:u.oneCell'=true
def lqc (ls:List Lq):List Value:=ls.map Lq.u
def lqx (ls:List Lq):List (List (List Rat)):=ls.map fun l=>l.rs.map Qw.x
def LqM (w:World)(b B:Nat)(v:Value)(ls:List Lq):Prop:=w.ownsRow B 26 1 v ls.length (lqc ls)∧∀ l∈ls,QwM w b b l.u l.rs
theorem Ext.lqM {w w':World}(h:Ext w w'){b B:Nat}{v:Value}{ls:List Lq}(k:LqM w b B v ls):LqM w' b B v ls:=⟨h.own k.1,fun l hl=>h.qwM (k.2 l hl)⟩
theorem LqM.nil (w:World)(b B:Nat):LqM w b B (.slice none 0 0) []:=⟨World.ownsRow_nil w _ _ 1,fun _ h=>by cases h⟩
theorem LqM.more {w0 W V:World}{o:Obj}{v v7:Value}{ls:List Lq}{l:Lq}(hE:Ext w0 W)(h:LqM W w0.heap.size w0.heap.size v ls)(hr:QwM W w0.heap.size w0.heap.size l.u l.rs)
  (hown:V.ownsRow w0.heap.size 26 1 v7 (ls.length+1) (lqc ls++[l.u])) (hgrow:(W.alloc o).grownBy V v.ownBlock):LqM V w0.heap.size w0.heap.size v7 (ls++[l])∧Ext w0 V:=by
 have hal:=h.1.alloc o;have hkeep:∀ s:Lq,QwM W w0.heap.size w0.heap.size s.u s.rs→QwM V w0.heap.size w0.heap.size s.u s.rs:=fun s hs =>
  ⟨World.ownsRow.kept (World.ownsRow.alloc hs.1 o) hgrow (zfm (World.ownsRow.alloc hs.1 o) hal (by decide)),fun r hr=>World.ownsRow.kept (World.ownsRow.alloc (hs.2 r hr) o) hgrow (zfm (World.ownsRow.alloc (hs.2 r hr) o) hal (by decide))⟩
 refine ⟨⟨?_,fun s hs=>?_⟩,(hE.alloc o).grown hgrow fun k hk=>(World.ownsRow.lt hal k hk).1⟩
 ·rw [List.length_append,List.length_singleton];unfold lqc at hown ⊢;rw [List.map_append];exact hown
 ·rcases List.mem_append.1 hs with g | g
  ·exact hkeep s (h.2 s g)
  ·rw [List.mem_singleton] at g;subst g;exact hkeep s hr
def zmw (p:List Int)(N:List (List Rat)):List (List (List Rat)):=(List.range (N.length+1)).map fun (d:Nat)=>cls p N (d:Int)
theorem zmx (p:List Int)(N:List (List Rat)):(zmw p N).length=N.length+1:=by unfold zmw;simp
theorem zmy {p:List Int}{N:List (List Rat)}{i:Nat}(hi:i<N.length+1):(zmw p N).take (i+1)=(zmw p N).take i++[cls p N (i:Int)]:=by
 have:(zmw p N)[i]?=some (cls p N (i:Int)):=by
  unfold zmw;rw [List.getElem?_map,List.getElem?_range hi];rfl
 rw [List.take_add_one,this];rfl
theorem zmz : (Tryz.prog.info? 26).map (fun i=>(i.zero,i.size,i.bytes))=some (some (.slice none 0 0),1,24):=by kernel_rfl
theorem zm2 (u:Value)(p:List Int)(rs:List Qw)(w:World)(he:Env w)(hu:Vw w u p rs)(h:Wc p (rs.map Qw.x)) :
  Calls Tryz.prog 99 #[u] w fun e w'=>∃ v ls,e=.returned (.tuple #[v,.int .i64 0])∧LqM w' w.heap.size w.heap.size v ls∧lqx ls=zmw p (rs.map Qw.x)∧Ext w w':=by
 obtain ⟨j0,hj,hy0,hy1,hy2⟩:=info_parts zmz;have hL:(rs.map Qw.x).length=rs.length:=List.length_map ..;have hfew:=h.few;rw [hL] at hfew;have hsz:=fun (d:Nat)(hd:d≤rs.length) W (hE:Ext w W)=>zmv u p rs d W (he.ext hE) (hu.ext hE) h hd;have hmd:=fun (i:Nat)(hi:i<rs.length+1)=>zmy (p:=p) (N:=rs.map Qw.x) (i:=i) (by rw [hL];exact hi);have hml:(zmw p (rs.map Qw.x)).length=rs.length+1:=by rw [zmx,hL]
 obtain ⟨b,vp,vn,vs,nts,rfl,hb,hp,hn,hs,hm⟩:=hu;obtain ⟨an,cn,rfl,_,_,_⟩:=hn.1.parts;rw [zf0] at hb;generalize hnn:rs.length=n at *;have q1:=hb.c1;have Hsz:=hid hsz;have Hmd:=hid hmd;have Hml:=hid hml;clear hsz hmd hml hb hp hn hs hm he h hL hnn;go_enter Tryz.func99,Tryz.ntmps99
 go_wp2_with fail
 have hw0:IntKind.i64.wrap ((n:Int)+1)=(n:Int)+1:=IntWalk.i64_in _ (by omega);go_loopw [4,15] (fun v4 v15 wr=>∃ (i:Nat)(ls:List Lq),v15=.int .i64 (i:Int)∧i≤n+1∧LqM wr w.heap.size w.heap.size v4 ls∧lqx ls=(zmw p (rs.map Qw.x)).take i∧Ext w wr) (fun _ v15 _=>n+2 - (zam v15).toNat)
 case atStart=>exact ⟨0,[],rfl,Nat.zero_le _,LqM.nil _ _ _,rfl,Ext.refl _⟩
 case round =>
  obtain ⟨i,ls,rfl,hi,hq,hm,hE⟩:=hrel;have hol:ls.length=i:=by
   have:=congrArg List.length hm;unfold lqx at this;rw [List.length_map,List.length_take,Hml.out] at this;omega
  obtain ⟨a4,c4,rfl⟩:=zfj hq.1;rw [hol];by_cases hin:i<n+1
  ·have hik:(i:Int)<(n:Int)+1:=(by omega);have hsk:=Hsz.out i (by omega) wr hE;have hqo:=hq.1;rw [hol] at hqo;have Hsk:=hid hsk;have Hq:=hid hq;have Hm:=hid hm;have HE:=hid hE;have Hol:=hid hol;have Hqo:=hid hqo;clear hsk hq hm hE hol hqo q1;go_wp2_with fail
   refine Hsk.out.mono ?_;rintro e w5 ⟨v5,out,rfl,hq5,hc5,hx5⟩;obtain ⟨a5,c5,rfl⟩:=zfj hq5.1;have hq3:=hx5.lqM Hq.out;have hqo:=hx5.own Hqo.out;have hE3:=HE.out.trans hx5;have hbase:=hE3.size;have hq6:=hq5.mono HE.out.size HE.out.size;have hm3:i+1≤maxLen:=(by unfold maxLen;omega);have hm4:(i+1) * 24≤140737488355328:=(by omega);generalize hol5:out.length=m5 at *;have Hq3:=hid hq3;have HE3:=hid hE3;have Hq6:=hid hq6;have Hc5:=hid hc5;have Hol5:=hid hol5;clear hq3 hE3 hq6 hc5 hol5 hx5 hq5;go_wp2_with (at_builtin;refine wpList_append_own _ rfl _ _ 99 rfl w.heap.size 26 j0 (.slice none 0 0) 1 24 Tryz.underlying99 hj hy0 hy1 hy2 rfl (by decide) _ _ _ rfl (hqo.alloc _) ⟨w5.heap.size,0,none⟩ 1 1 [.slice a5 m5 c5] rfl rfl (cell_one_new _ _ _) (by simp [Value.oneCell']) hm3 hm4 (by rw [World.size_alloc];omega) ?_;intro v7 V7 hown7 hgrow7 _)
   have hR:=LqM.more (l:=⟨out,.slice a5 m5 c5,by simp [Value.oneCell']⟩) HE3.out Hq3.out Hq6.out (by rw [Hol.out];exact hown7) (by rw [Hol.out];exact hgrow7);go_roundw
   case rel=>exact ⟨i+1,_,by go_num,by omega,hR.1,by rw [Hmd.out i hin,← Hm.out,← Hc5.out];unfold lqx;rw [List.map_append];rfl,hR.2⟩
   case measure=>simp [zam];omega
  ·obtain rfl:i=n+1:=by omega
   have hik:¬ ((n+1:Nat):Int)<(n:Int)+1:=(by omega);have hm2:=hm.trans (List.take_of_length_le (by rw [Hml.out];exact Nat.le_refl _));have Hq:=hid hq;have HE:=hid hE;have Hm:=hid hm2;have Hol:=hid hol;clear hq hE hm hm2 hol q1;go_wp2_with fail
   exact bodyPost_ret (v:=.tuple #[.slice a4 (n+1) c4,.int .i64 0]) (by simp [results,Tryz.results99,go_sem]) rfl ⟨_,rfl,ls,by have:=Hq.out;rw [Hol.out] at this;exact this,Hm.out,HE.out⟩
theorem zm3 (v:Value)(p:List Int)(rs:List Qw)(w:World)(he:Env w)(hv:ScV w v p rs)(h:Wc p (rs.map Qw.x)) :
  Calls Tryz.prog 44 #[v] w fun e w'=>∃ u v ls,e=.returned (.tuple #[u,v,.int .i64 0])∧Vw w' u p rs∧LqM w' w.heap.size w.heap.size v ls∧lqx ls=zmw p (rs.map Qw.x)∧Ext w w':=by
 have hlk:=fun W (hE:Ext w W)=>zl3 v p rs W (he.ext hE) (hv.ext hE) h.wd;have hal:=fun u W (hE:Ext w W)(hu:Vw W u p rs)=>zm2 u p rs W (he.ext hE) hu h;obtain ⟨vp,vn,rfl,hp,hs,hmr⟩:=hv;obtain ⟨ap,cp,rfl,_,_,_⟩:=hp.parts;obtain ⟨an,cn,rfl,_,_,_⟩:=hs.parts;rw [zas] at *;rw [zf0] at *;generalize rs.length=n at *;have hE0:Ext w (w.alloc (.cells #[.slice ap p.length cp,.slice an n cn] 28)):=(Ext.refl w).alloc _;have b1:=zic.new 28 w (.slice ap p.length cp) (.slice an n cn);have Hlk:=hid hlk;have Hal:=hid hal;have HE0:=hid hE0;have q0:=b1.c0;have q1:=b1.c1;clear hlk hal hE0 b1 hp hs hmr he h;go_enter Tryz.func44,Tryz.ntmps44
 go_wp2_with fail
 refine (Hlk.out _ HE0.out).mono ?_;rintro e w2 ⟨u,rfl,hu,hx2⟩;have hx:=HE0.out.trans hx2;have hak:=Hal.out u w2 hx hu;obtain ⟨b,v1,v2,v3,nts,rfl,hrest⟩:=hu;have Hx:=hid hx;have Hak:=hid hak;have Hr:=hid hrest;clear hx hak hrest hx2 q0 q1;go_wp2_with fail
 refine Hak.out.mono ?_;rintro e w3 ⟨v4,ls,rfl,hq,hm,hx3⟩;obtain ⟨a4,c4,rfl⟩:=zfj hq.1;have hvw:Vw w3 (.pointer (some ⟨b,0,none⟩)) p rs:=Vw.ext ⟨b,v1,v2,v3,nts,rfl,Hr.out⟩ hx3;have hq2:LqM w3 w.heap.size w.heap.size (.slice a4 ls.length c4) ls:=⟨zan hq.1 Hx.out.size,fun l hl=>(hq.2 l hl).mono Hx.out.size Hx.out.size⟩;have Hvw:=hid hvw;have Hq2:=hid hq2;have Hm:=hid hm;have Hx3:=hid (Hx.out.trans hx3);clear hvw hq2 hm hx3 hq;generalize hll:ls.length=m at *;go_wp2_with fail
 exact bodyPost_ret (v:=.tuple #[.pointer (some ⟨b,0,none⟩),.slice a4 m c4,.int .i64 0]) (by simp [results,Tryz.results44,go_sem]) rfl ⟨_,_,ls,rfl,Hvw.out,Hq2.out,Hm.out,Hx3.out⟩
end Go.Proofs.YtebabancfnmfjaaGreatDoor

namespace Go.Proofs.YtebabancfnmfjaaGreatDoor
open Go.RowKit Go.Lib
def kd (p:List Int)(N:List (List Rat)):Int:=if (cls p N 1).length=1 then 1 else if 2<(cls p N 1).length∨((List.range (N.length - 1)).any fun (d:Nat)=>decide (2<(cls p N ((d+1:Nat):Int)).length))=true then 3 else 2
def Dj (p:List Int)(N:List (List Rat))(d u:Nat):Prop:=∀ x∈cls p N (d:Int),x ∉ cls p N (u:Int)
structure zm4 (p:List Int)(N:List (List Rat))(d u i:Nat)(x:List Rat):Prop where
 lt:d<u
 le:u≤N.length
 bef:∀ d' u':Nat,d'<d→d'<u'→u'≤N.length→Dj p N d' u'
 row:∀ u':Nat,d<u'→u'<u→Dj p N d u'
 tk:∀ y∈(cls p N (d:Int)).take i,y ∉ cls p N (u:Int)
 at':(cls p N (d:Int))[i]?=some x
 mem:x∈cls p N (u:Int)
theorem zm4.uniq {p:List Int}{N:List (List Rat)}{d u i d' u' i':Nat}{x x':List Rat}(h:zm4 p N d u i x)(k:zm4 p N d' u' i' x'):d=d'∧u=u'∧i=i'∧x=x':=by
 have hx:=List.mem_of_getElem? h.at';have kx:=List.mem_of_getElem? k.at';have hd:d=d':=by
  rcases Nat.lt_trichotomy d d' with g | g | g
  ·exact absurd h.mem (k.bef d u g h.lt h.le x hx)
  ·exact g
  ·exact absurd k.mem (h.bef d' u' g k.lt k.le x' kx)
 subst hd;have hu:u=u':=by
  rcases Nat.lt_trichotomy u u' with g | g | g
  ·exact absurd h.mem (k.row u h.lt g x hx)
  ·exact g
  ·exact absurd k.mem (h.row u' k.lt g x' kx)
 subst hu;have hi:i=i':=by
  rcases Nat.lt_trichotomy i i' with g | g | g
  ·exact absurd h.mem (k.tk x (List.mem_of_getElem? (i:=i) (by rw [List.getElem?_take_of_lt g];exact h.at')))
  ·exact g
  ·exact absurd k.mem (h.tk x' (List.mem_of_getElem? (i:=i') (by rw [List.getElem?_take_of_lt g];exact k.at')))
 subst hi;exact ⟨rfl,rfl,rfl,Option.some.inj (h.at'.symm.trans k.at')⟩
theorem zm4.not {p:List Int}{N:List (List Rat)}{d u i:Nat}{x:List Rat}(h:zm4 p N d u i x):¬ Cst p N:=fun hc=>hc d u h.lt h.le x (List.mem_of_getElem? h.at') h.mem
theorem zm4.md {p:List Int}{N:List (List Rat)}(h:Wc p N)(m:Int){d u i:Nat}{x:List Rat}:zm4 p (md p N m) d u i x ↔ zm4 p N d u i x:=by
 constructor <;> rintro ⟨a,b,c,d,e,f,g⟩
 ·unfold Dj at c d;simp only [ziU,h.cls_md] at b c d e f g;exact ⟨a,b,c,d,e,f,g⟩
 ·refine ⟨a,?_,?_,?_,?_,?_,?_⟩ <;> unfold Dj at * <;> simp only [ziU,h.cls_md] <;> assumption
def Gl (p:List Int)(N:List (List Rat))(d:Nat)(x y:List Rat):Prop:=(cls p N (d:Int))[(cls p N (d:Int)).length - 1]?=some x∧(cls p N ((d+1:Nat):Int))[0]?=some y
section
variable {p : List Int} {N : List (List Rat)} (h : Wc p N)
include h
theorem Wc.gl (d:Nat):∃ x y,Gl p N d x y:=by
 have h1:=h.cls_pos (d:Int);have h2:=h.cls_pos ((d+1:Nat):Int);exact ⟨_,_,List.getElem?_eq_getElem (by omega),List.getElem?_eq_getElem (by omega)⟩
theorem Wc.gl_le {d:Nat}{x y:List Rat}(hg:Gl p N d x y):(∀ a∈cls p N (d:Int),sF p a≤sF p x)∧∀ b∈cls p N ((d+1:Nat):Int),sF p y≤sF p b:=by
 constructor
 ·intro a ha;obtain ⟨i,hi⟩:=List.mem_iff_getElem?.1 ha;have hs:=h.cls_srt (d:Int);obtain ⟨h1,h2⟩:=List.getElem?_eq_some_iff.1 hi;obtain ⟨h3,h4⟩:=List.getElem?_eq_some_iff.1 hg.1;rcases Nat.lt_or_ge i ((cls p N (d:Int)).length - 1) with g | g
  ·have:=List.pairwise_iff_getElem.1 hs i _ h1 h3 g;rw [h2,h4] at this;exact Rat.le_of_lt this
  ·have e:i=(cls p N (d:Int)).length - 1:=(by omega);subst e;rw [← h2,← h4];exact Rat.le_refl
 ·intro a ha;obtain ⟨i,hi⟩:=List.mem_iff_getElem?.1 ha;have hs:=h.cls_srt ((d+1:Nat):Int);obtain ⟨h1,h2⟩:=List.getElem?_eq_some_iff.1 hi;obtain ⟨h3,h4⟩:=List.getElem?_eq_some_iff.1 hg.2;rcases Nat.lt_or_ge 0 i with g | g
  ·have:=List.pairwise_iff_getElem.1 hs 0 _ h3 h1 g;rw [h2,h4] at this;exact Rat.le_of_lt this
  ·have e:i=0:=(by omega);subst e;rw [← h2,← h4];exact Rat.le_refl
end
def zm5 (p:List Int)(N:List (List Rat))(m:Int)(d:Nat):Prop:=∀ x y,Gl p N d x y→sgQ (sF p (zex x y))<m
structure zm6 (p:List Int)(N:List (List Rat))(m:Int)(d:Nat)(x y:List Rat):Prop where
 lt:d<N.length
 bef:∀ d':Nat,d'<d→zm5 p N m d'
 gl:Gl p N d x y
 no:¬ zm5 p N m d
theorem Gl.uniq {p:List Int}{N:List (List Rat)}{d:Nat}{x y x' y':List Rat}(h:Gl p N d x y)(k:Gl p N d x' y'):x=x'∧y=y':=⟨Option.some.inj (h.1.symm.trans k.1),Option.some.inj (h.2.symm.trans k.2)⟩
theorem zm6.uniq {p:List Int}{N:List (List Rat)}{m:Int}{d d':Nat}{x y x' y':List Rat}(h:zm6 p N m d x y)(k:zm6 p N m d' x' y'):d=d'∧x=x'∧y=y':=by
 have hd:d=d':=by
  rcases Nat.lt_trichotomy d d' with g | g | g
  ·exact absurd (k.bef d g) h.no
  ·exact g
  ·exact absurd (h.bef d' g) k.no
 subst hd;exact ⟨rfl,h.gl.uniq k.gl⟩
theorem zm5.md {p:List Int}{N:List (List Rat)}(h:Wc p N)(m k:Int)(d:Nat):zm5 p (md p N m) k d ↔ zm5 p N k d:=by
 unfold zm5 Gl;simp only [h.cls_md]
theorem zm7 {q:Rat}:sgQ q<0 ↔ q<0:=by
 unfold sgQ;split
 ·rename_i g;simp [g]
 ·split
  ·rename_i g _;simp [g]
  ·rename_i g _;simp [g]
theorem zm8 {q:Rat}:sgQ q<1 ↔ q≤0:=by
 unfold sgQ;split
 ·rename_i g;simp [Rat.le_of_lt g]
 ·split
  ·rename_i _ g;simp;grind
  ·rename_i _ g;simp;grind
section
variable {p : List Int} {N : List (List Rat)} (h : Wc p N)
include h
theorem Wc.gl_len {d:Nat}{x y:List Rat}(hg:Gl p N d x y):x.length=p.length∧y.length=p.length:=⟨h.cls_lt (List.mem_of_getElem? hg.1),h.cls_lt (List.mem_of_getElem? hg.2)⟩
theorem Wc.pro_iff : Pro p N ↔ ∀ d<N.length,zm5 p N 1 d:=by
 constructor
 ·intro hp d hd x y hg;rw [zm8,zez _ _ _ (by rw [(h.gl_len hg).1,(h.gl_len hg).2])];have:=hp d hd x (List.mem_of_getElem? hg.1) y (List.mem_of_getElem? hg.2);grind
 ·intro ho d hd x hx y hy;obtain ⟨a,b,hg⟩:=h.gl d;have h1:=ho d hd a b hg;rw [zm8,zez _ _ _ (by rw [(h.gl_len hg).1,(h.gl_len hg).2])] at h1;have h2:=(h.gl_le hg).1 x hx;have h3:=(h.gl_le hg).2 y hy;grind
theorem Wc.str_iff2 : Str p N ↔ ∀ d<N.length,zm5 p N 0 d:=by
 constructor
 ·intro hp d hd x y hg;rw [zm7,zez _ _ _ (by rw [(h.gl_len hg).1,(h.gl_len hg).2])];have:=hp d hd x (List.mem_of_getElem? hg.1) y (List.mem_of_getElem? hg.2);grind
 ·intro ho d hd x hx y hy;obtain ⟨a,b,hg⟩:=h.gl d;have h1:=ho d hd a b hg;rw [zm7,zez _ _ _ (by rw [(h.gl_len hg).1,(h.gl_len hg).2])] at h1;have h2:=(h.gl_le hg).1 x hx;have h3:=(h.gl_le hg).2 y hy;grind
end
def zm9 (w:World)(B:Nat)(v:Value)(a b:Int)(x y:List Rat):Prop:=∃ u1 u2,v=.agg #[.int .i64 a,.int .i64 b,u1,u2]∧zfx w B u1 x∧zfx w B u2 y
theorem zm9.mono {w:World}{B B':Nat}{v:Value}{a b:Int}{x y:List Rat}(h:zm9 w B v a b x y)(hB:B'≤B):zm9 w B' v a b x y:=by
 obtain ⟨u1,u2,e,h1,h2⟩:=h;exact ⟨u1,u2,e,h1.mono hB,h2.mono hB⟩
theorem zfx.put4 {w:World}{B c:Nat}{u:Value}{x:List Rat}(h:zfx w B u x)(hc:c<B)(u' v' x' y':Value):zfx ((((w.setCell ⟨c,0,none⟩ u').setCell ⟨c,1,none⟩ v').setCell ⟨c,2,none⟩ x').setCell ⟨c,3,none⟩ y') B u x :=
 zfl (zfl (zfl (zfl h (p:=⟨c,0,none⟩) hc u') (p:=⟨c,1,none⟩) hc v') (p:=⟨c,2,none⟩) hc x') (p:=⟨c,3,none⟩) hc y'
def zmA : Value:=.agg #[.int .i64 0,.int .i64 0,.slice none 0 0,.slice none 0 0]
def zmB (T:TypeId)(w:World)(b:Nat)(u v x y:Value):Prop:=w.heap[b]?=some (.cells #[u,v,x,y] T (0,0))
section
variable {T : TypeId} {w w' : World} {b c : Nat} {u v x y : Value}
theorem zmB.new (T:TypeId)(w:World)(u v x y:Value):zmB T (w.alloc (.cells #[u,v,x,y] T)) w.heap.size u v x y:=World.alloc_heap_new w _
theorem zmB.ext (hx:Ext w w')(h:zmB T w b u v x y):zmB T w' b u v x y:=hx.heap h
theorem zmB.c0 (h:zmB T w b u v x y):w.cell? ⟨b,0,none⟩=some u:=by unfold World.cell?;dsimp only;rw [h];rfl
theorem zmB.c1 (h:zmB T w b u v x y):w.cell? ⟨b,1,none⟩=some v:=by unfold World.cell?;dsimp only;rw [h];rfl
theorem zmB.c2 (h:zmB T w b u v x y):w.cell? ⟨b,2,none⟩=some x:=by unfold World.cell?;dsimp only;rw [h];rfl
theorem zmB.c3 (h:zmB T w b u v x y):w.cell? ⟨b,3,none⟩=some y:=by unfold World.cell?;dsimp only;rw [h];rfl
theorem zmB.fz (h:zmB T w b u v x y)(k:Nat):w.frozen? ⟨b,k,none⟩=false:=frozen_of_row w b k #[u,v,x,y] _ h
theorem zmB.put (h:zmB T w b u v x y)(u' v' x' y':Value):zmB T ((((w.setCell ⟨b,0,none⟩ u').setCell ⟨b,1,none⟩ v').setCell ⟨b,2,none⟩ x').setCell ⟨b,3,none⟩ y') b u' v' x' y' :=
 heap_setCell_same _ b 3 _ _ y' (heap_setCell_same _ b 2 _ _ x' (heap_setCell_same _ b 1 _ _ v' (heap_setCell_same w b 0 _ _ u' h)))
theorem Ext.put4 {w0:World}(h:Ext w0 w)(hb:w0.heap.size≤b)(u' v' x' y':Value):Ext w0 ((((w.setCell ⟨b,0,none⟩ u').setCell ⟨b,1,none⟩ v').setCell ⟨b,2,none⟩ x').setCell ⟨b,3,none⟩ y'):=(((h.setCell hb _).setCell hb _).setCell hb _).setCell hb _
end
def zmC (p:List Int)(N:List (List Rat))(m:Int)(w:World)(B:Nat)(c:Value)(is:Bool):Prop :=
 (is=true∧c=zmA∧∀ d<N.length,zm5 p N m d)∨(is=false∧∃ (d:Nat)(x y:List Rat),zm6 p N m d x y∧zm9 w B c (d:Int) ((d+1:Nat):Int) y x)
def zmD (p:List Int)(N:List (List Rat))(w:World)(B:Nat)(c:Value)(is:Bool):Prop :=
 (is=true∧c=zmA∧Cst p N)∨(is=false∧∃ (d u i:Nat)(x:List Rat),zm4 p N d u i x∧zm9 w B c (d:Int) (u:Int) x x)
theorem zmC.is {p:List Int}{N:List (List Rat)}{m:Int}{w:World}{B:Nat}{c:Value}{is:Bool}(h:zmC p N m w B c is):is=true ↔ ∀ d<N.length,zm5 p N m d:=by
 rcases h with ⟨rfl,_,h⟩ | ⟨rfl,d,x,y,h,_⟩
 ·exact ⟨fun _=>h,fun _=>rfl⟩
 ·exact ⟨fun e=>(by cases e),fun k=>absurd (k d h.lt) h.no⟩
theorem zmD.is {p:List Int}{N:List (List Rat)}{w:World}{B:Nat}{c:Value}{is:Bool}(h:zmD p N w B c is):is=true ↔ Cst p N:=by
 rcases h with ⟨rfl,_,h⟩ | ⟨rfl,d,u,i,x,h,_⟩
 ·exact ⟨fun _=>h,fun _=>rfl⟩
 ·exact ⟨fun e=>(by cases e),fun k=>absurd k h.not⟩
def zmE (p:List Int)(N:List (List Rat))(m:Int)(B:Nat)(e:Ending)(w:World):Prop:=∃ c is,e=.returned (.tuple #[c,.bool is,.int .i64 0])∧zmC p N m w B c is
def zmF (p:List Int)(N:List (List Rat))(B:Nat)(e:Ending)(w:World):Prop:=∃ c is,e=.returned (.tuple #[c,.bool is,.int .i64 0])∧zmD p N w B c is
end Go.Proofs.YtebabancfnmfjaaGreatDoor

namespace Go.Proofs.YtebabancfnmfjaaGreatDoor
open Go.RowKit Go.Lib
def Pw (p:List Int):Prop:=p=[2,3]∨p=[2,3,5]
theorem Pw.pr {p:List Int}(h:Pw p):Pr p p.length:=by
 rcases h with rfl | rfl
 ·exact .inl ⟨rfl,rfl⟩
 ·exact .inr ⟨rfl,rfl⟩
def oc3 (p:List Int)(n:Nat)(i:Int):List Rat:=if p.length=2 then [(i:Rat) / (n:Rat),0] else [(i:Rat) / (n:Rat),0,0]
theorem zmG (n:Nat)(i:Int):oc3 [2,3] n i=[(i:Rat) / (n:Rat),0]:=rfl
theorem zmH (n:Nat)(i:Int):oc3 [2,3,5] n i=[(i:Rat) / (n:Rat),0,0]:=rfl
theorem zmI {p:List Int}(h:Pw p)(n:Nat)(i:Int):(oc3 p n i).length=p.length:=by rcases h with rfl | rfl <;> rfl
theorem zmJ {n:Nat}(hn:0<n):(n:Rat) ≠ 0:=fun h=>by
 have:=Rat.natCast_inj.1 (show ((n:Nat):Rat)=((0:Nat):Rat) from h);omega
theorem zmK {p:List Int}(h:Pw p)(n:Nat):zer p.length=oc3 p n 0:=by
 have e:((0:Int):Rat) / (n:Rat)=0:=by rw [Rat.div_def,show ((0:Int):Rat)=0 from rfl,Rat.zero_mul]
 rcases h with rfl | rfl
 ·rw [zmG,e];rfl
 ·rw [zmH,e];rfl
theorem zmL {p:List Int}(h:Pw p)(n:Nat)(i j:Int):zex (oc3 p n i) (oc3 p n j)=oc3 p n (i - j):=by
 have e:(i:Rat) / (n:Rat) - (j:Rat) / (n:Rat)=((i:Rat) - (j:Rat)) / (n:Rat):=by grind
 have z:(0:Rat) - 0=0:=by decide +kernel
 rcases h with rfl | rfl
 ·rw [zmG,zmG,zmG,Rat.intCast_sub];simp only [zex,List.zipWith_cons_cons,List.zipWith_nil_left,e,z]
 ·rw [zmH,zmH,zmH,Rat.intCast_sub];simp only [zex,List.zipWith_cons_cons,List.zipWith_nil_left,e,z]
theorem zmM {p:List Int}(h:Pw p){n:Nat}(hn:0<n)(i:Int):Oc n (oc3 p n i):=by
 have e:(i:Rat) / (n:Rat) * (n:Rat)=(i:Rat):=Rat.div_mul_cancel (zmJ hn);rcases h with rfl | rfl
 ·exact ⟨rfl,i,e⟩
 ·exact ⟨rfl,rfl,i,e⟩
theorem zmN {p:List Int}(h:Pw p)(n:Nat)(i:Int):sF p (oc3 p n i)=(i:Rat) / (n:Rat) * ((67108864:Int):Rat):=by
 rcases h with rfl | rfl
 ·rw [zmG];simp only [sF,lgs.1,lgs.2.1];grind
 ·rw [zmH];simp only [sF,lgs.1,lgs.2.1,lgs.2.2];grind
structure Wl where
 three:Bool
 kind:Nat
 num:Nat
 xs:Nat→I3
namespace Wl
def p (a:Wl):List Int:=if a.three then [2,3,5] else [2,3]
def n (a:Wl):Nat:=1+a.num % 9
def sizes (a:Wl):List (List Rat):=if a.kind % 3=0 then zkd (zey (ov (a.p.length - 1)) (mkRat 1 a.n)) 1 a.n else if a.kind % 3=1 then zkd (szW a.p.length (a.xs 0)) 0 a.n else (List.range (min a.n 8)).map fun i=>szW a.p.length (a.xs i)
structure Ok (a:Wl):Prop where
 kind:a.kind<256
 num:a.num<256
 xs:∀ i,(a.xs i).ok
theorem n9 (a:Wl):0<a.n∧a.n≤9:=by unfold n;omega
theorem few (a:Wl):a.sizes.length≤9:=by
 have:=a.n9;unfold sizes;split
 ·rw [zkf];omega
 ·split
  ·rw [zkf];omega
  ·rw [List.length_map,List.length_range];omega
end Wl
end Go.Proofs.YtebabancfnmfjaaGreatDoor
