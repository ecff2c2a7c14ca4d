/- Walk: law 37's collect (its drawn region printed by col37.py). (KEEPALL) Walk: epimorphism.Mode: the closure, and the list of rows under way. (KEEPALL) -/
import Derived.Test.YtipkdebkdnbieaaGreatDoorPa25
import Derived.Test.YtipkdebkdnbieaaGreatDoorPa18
import Derived.Test.YtipkdebkdnbieaaGreatDoorPa30
import Derived.Deep.RegionLawGrows
import Derived.BigRegion
set_option maxRecDepth 100000
set_option maxHeartbeats 8000000
namespace Go.Proofs.YtipkdebkdnbieaaGreatDoor
open Go.RowKit Go.Lib Go.Shelf
structure CoS (w:World)(b:Nat)(vp:Value)(rs:List Rw)(vn:Value)(wr:World):Prop where
 b:zmh 31 wr b vp vn
 o:wr.ownsRow w.heap.size 33 1 vn rs.length (rwc rs)
 r:∀ r∈rs,Sl w r.u (zap r.x)∨zc2 wr w.heap.size r.u r.x
 x:Ext w wr
section
variable {w wr V : World} {b : Nat} {vp vn : Value} {rs : List Rw}
theorem CoS.ext (h:CoS w b vp rs vn wr)(hx:Ext wr V):CoS w b vp rs vn V:=⟨zmh.ext hx h.b,hx.own h.o,fun r hr=>(h.r r hr).imp id hx.ownI,h.x.trans hx⟩
theorem CoS.sl (h:CoS w b vp rs vn wr){r:Rw}(hr:r∈rs):Sl wr r.u (zap r.x):=by
 rcases h.r r hr with q | q
 ·exact h.x.sl q
 ·exact q.sl
theorem CoS.mat (h:CoS w b vp rs vn wr):Mat wr vn (rs.map Rw.x):=by
 refine ⟨rwc rs,by simp [rwc],zan h.o,fun i u hu=>?_⟩;unfold rwc at hu;rw [List.getElem?_map] at hu
 cases hr:rs[i]? with
 | none=>rw [hr] at hu;cases hu
 | some r =>
  rw [hr] at hu
  obtain rfl:=Option.some.inj hu
  rw [List.getD_eq_getElem?_getD,List.getElem?_map,hr]
  exact h.sl (List.mem_of_getElem? hr)
end
theorem zpO {w:World}{v:Value}{x:List Int}(h:Sl w v (zap x)):v.oneCell'=true:=by
 obtain ⟨_,_,rfl,_,_,_⟩:=h.parts;rfl
theorem zpP : 31 ≠ 33:=by decide
theorem zpQ : 31 ≠ 3:=by decide
theorem CoS.put {w wr V:World}{b:Nat}{vp vn v9:Value}{rs ss:List Rw}{r:Rw}(h:CoS w b vp rs vn wr)(hb:w.heap.size≤b)(hE:Ext wr V)(hr:Sl w r.u (zap r.x)∨zc2 wr w.heap.size r.u r.x)(ho:V.ownsRow wr.heap.size 33 1 v9 ss.length (rwc ss))(hs:∀ s∈ss,s=r∨s∈rs):CoS w b vp ss v9 (V.setCell ⟨b,1,none⟩ v9):=by
 have hV:=h.ext hE;have hbV:=hV.b;refine ⟨hbV.put1 v9,zam (zfA hbV ho zpP 1 v9) h.x.size,fun s hs'=>?_,hV.x.setCell (p:=⟨b,1,none⟩) hb _⟩;rcases hs s hs' with rfl | q
 ·exact hr.imp id fun q=>zfA hbV (hE.ownI q) zpQ 1 v9
 ·exact (hV.r s q).imp id fun q=>zfA hbV q zpQ 1 v9
theorem zpR (rs:List Rw):(rwc rs).length=rs.length:=by simp [rwc]
theorem zpS (rs:List Rw):∀ u∈rwc rs,u.oneCell'=true:=fun u hu=>by
 unfold rwc at hu;obtain ⟨r,_,rfl⟩:=List.mem_map.1 hu;exact r.hu
theorem zpT (vp vq vl:Value)(p:List Int)(l:List (List Int))(n L:Nat)(w:World)(he:Env w)(hp:Sl w vp (zap p))(hq:Sl w vq (zap (zkt n)))(hl:Mat w vl l)(hok:zh9 p)(hpn:p.length=n+1)(hL:l.length=L)(hL8:L≤8)(hiv:∀ x∈l,Iv p x∧-9≤zas x 0∧zas x 0≤9) :
  Calls Tryz.prog 30 #[vp,vq,vl] w fun e w'=>∃ vn,e=.returned (.agg #[vp,vn])∧∃ rs,Mat w' vn rs∧zk9 p rs∧rs.length≤L+1∧Ext w w':=by
 obtain ⟨j0,hj,hy0,hy1,hy2⟩:=info_parts zns;have hl4:=hok.len;have hol:(zkt n).length=n+1:=zkv n;have hn3:n≤3:=by omega
 have hper:zhN p.length=zkt n:=by rw [hpn];exact zkz n
 have hrd:=fun x (hx:x∈l) u W (hE:Ext w W)(hu:Sl W u (zap x))=>znL vp vq u p x n W (he.ext hE) (hE.sl hp) (hE.sl hq) hu hok hpn (hiv x hx).1 (hiv x hx).2;have hone:∀ r,Rdd p r→zgu p r=0:=fun r h=>h.iv.ok hok (by have:=h.bd hok;omega);have hrl:∀ r,Rdd p r→r.length=n+1:=fun r h=>by rw [h.iv.len];exact hpn
 have hsg:=fun r (h:Rdd p r) v W (hE:Ext w W)(hv:Sl W v (zap r))=>zgC vp v p r W (he.ext hE) (hE.sl hp) hv (by omega) (by have:=hrl r h;omega);have hcm:=fun y r v u W (hE:Ext w W)(hv:Sl W v (zap y))(hu:Sl W u (zap r))(h1:y.length≤1000000)(h2:r.length≤1000000)=>zhX vp v u p y r W (he.ext hE) (hE.sl hp) hv hu (by omega) h1 h2;have heq:=fun y r v u W (hv:Sl W v (zap y))(hu:Sl W u (zap r))(h1:y.length≤1000000)(h2:r.length≤1000000)=>zlv v u y r W hv hu h1 h2;have hvu:=zpO hq;obtain ⟨ap,cp,rfl,_,_,_⟩:=hp.parts;obtain ⟨aq,cq,rfl,_,_,_⟩:=hq.parts;obtain ⟨vs,hvl,hvs,hrows⟩:=hl;obtain ⟨am,cm,rfl,_,_,hcm2⟩:=hvs.parts;simp only [zar] at *;rw [hpn] at hrd hsg hcm ⊢;rw [hol] at hrd hvu hq ⊢;rw [hvl,hL];obtain ⟨W2,hW2⟩:∃ W2,W2=((w.alloc (.cells #[.slice none 0 0,.slice none 0 0] 31)).alloc (.cells #[.slice aq (n+1) cq] 33)).alloc (.cells #[.slice ap (n+1) cp,.slice (some ⟨w.heap.size+1,0,none⟩) 1 1] 31):=⟨_,rfl⟩;have hs1:(w.alloc (.cells #[.slice none 0 0,.slice none 0 0] 31)).heap.size=w.heap.size+1:=World.size_alloc ..;have hs2:((w.alloc (.cells #[.slice none 0 0,.slice none 0 0] 31)).alloc (.cells #[.slice aq (n+1) cq] 33)).heap.size=w.heap.size+1+1:=by rw [World.size_alloc,hs1]
 have hCo:CoS w (w.heap.size+1+1) (.slice ap (n+1) cp) [⟨zkt n,.slice aq (n+1) cq,hvu⟩] (.slice (some ⟨w.heap.size+1,0,none⟩) 1 1) W2:=by
  rw [hW2];refine ⟨?_,?_,fun r hr=>?_,(((Ext.refl w).alloc _).alloc _).alloc _⟩
  ·have:=zmh.new 31 ((w.alloc (.cells #[.slice none 0 0,.slice none 0 0] 31)).alloc (.cells #[.slice aq (n+1) cq] 33)) (.slice ap (n+1) cp) (.slice (some ⟨w.heap.size+1,0,none⟩) 1 1);rwa [hs2] at this
  ·refine World.ownsRow.alloc ?_ _;have:=World.alloc_heap_new (w.alloc (.cells #[.slice none 0 0,.slice none 0 0] 31)) (.cells #[.slice aq (n+1) cq] 33);rw [hs1] at this;exact ⟨rfl,.inr ⟨w.heap.size+1,1,#[.slice aq (n+1) cq],rfl,Nat.le_succ _,this,Nat.le_refl _,by unfold maxLen;omega,rfl,rfl⟩⟩
  ·rw [List.mem_singleton.1 hr];exact .inl hq
 have hb6:zmh 31 W2 w.heap.size (.slice none 0 0) (.slice none 0 0):=by
  rw [hW2];exact zmh.ext (((Ext.refl _).alloc _).alloc _) (zmh.new 31 w (.slice none 0 0) (.slice none 0 0))
 have hS0:zk9 p ([(⟨zkt n,.slice aq (n+1) cq,hvu⟩:Rw)].map Rw.x):=by
  have:=zkC hok;rw [hper] at this;exact this
 have Hrd:=hid hrd;have Hone:=hid hone;have Hrl:=hid hrl;have Hsg:=hid hsg;have Hcm:=hid hcm;have Heq:=hid heq;have Hrows:=hid hrows;have Hcm2:=hid hcm2;have Hvl:=hid hvl;have HL:=hid hL;have HCo:=hid hCo;have HS0:=hid hS0;have Hok:=hid hok;have Hper:=hid hper;have Hb6:=hid hb6;have Hiv:=hid hiv;clear hrd hone hrl hsg hcm heq hrows hcm2 hvl hL hCo hS0 hok hper hb6 hiv;clear hp hq hvs he hl4 hol hs1 hs2;go_enter Tryz.func30,Tryz.ntmps30
 go_wp2_with fail
 rw [← hW2];clear hW2;go_loopw [8] (fun v8 wr=>∃ (i:Nat)(rs:List Rw)(vn:Value),v8=.int .i64 i∧i≤L∧rs.length≤i+1∧Hid (CoS w (w.heap.size+1+1) (.slice ap (n+1) cp) rs vn wr)∧Hid (zk9 p (rs.map Rw.x))∧Hid (zmh 31 wr w.heap.size (.slice none 0 0) (.slice none 0 0))) (fun v8 _=>L - (zal v8).toNat)
 case atStart=>exact ⟨0,_,_,rfl,Nat.zero_le _,Nat.le_refl _,HCo,HS0,Hb6⟩
 case round =>
  clear HCo HS0 Hb6;obtain ⟨i,rs,vn,rfl,hiL,hrs,HC,HS,HB6⟩:=hrel;have hHw:=HC.out.x;by_cases hin:i<L
  ·obtain ⟨x,hx⟩:∃ x,l[i]?=some x:=⟨_,List.getElem?_eq_getElem (by have:=HL.out;omega)⟩;obtain ⟨u,hu⟩:∃ u,vs[i]?=some u:=⟨_,List.getElem?_eq_getElem (by rw [Hvl.out,HL.out];exact hin)⟩;obtain ⟨bl,off,rfl,hcu⟩:=Hcm2.out i u hu;have hru:=Hrows.out i u hu;rw [List.getD_eq_getElem?_getD,hx] at hru;simp only [Option.getD_some] at hru;have hr1:=Hrd.out x (List.mem_of_getElem? hx) u wr hHw (hHw.sl hru);obtain ⟨ax,cx,eu,_,_,_⟩:=hru.parts;have hxl:x.length=n+1:=(by rw [(Hiv.out x (List.mem_of_getElem? hx)).1.len];exact hpn);rw [zar,hxl] at eu;subst eu;have hcw:=hHw.cell hcu;have hk1:(0:Int)≤(i:Int):=(by omega);have hk2:(i:Int)<(L:Int):=(by omega);have Hr1:=hid hr1;have Hru:=hid hru;have HHw:=hid hHw;clear hr1 hru hHw;clear hx hu hcu hxl;go_wp2_with fail
   refine Hr1.out.mono ?_;rintro e w5 ⟨v,r,rfl,hrr,hvr,hx5⟩;have hsv:Sl w v (zap r)∨zc2 w5 w.heap.size v r:=by
    rcases hvr with ⟨rfl,rfl⟩ | q
    ·exact .inl Hru.out
    ·exact .inr (zam q HHw.out.size)
   have hrln:=Hrl.out r hrr;have hvs5:Sl w5 v (zap r):=by
    rcases hsv with q | q
    ·exact (HHw.out.trans hx5).sl q
    ·exact q.sl
   obtain ⟨av,cv,ev,_,_,_⟩:=hvs5.parts;rw [zar,hrln] at ev;subst ev;have HC5:=hid (HC.out.ext hx5);have HB5:=hid (zmh.ext hx5 HB6.out);have ho1:=Hone.out r hrr;have h2:=Hsg.out r hrr _ w5 HC5.out.x hvs5;rw [ho1,zk3 ho1] at h2;have hng:=zhb ((zgy p r:Nat):Int) ((zgz p r:Nat):Int);have hlo:=hrr.lo;have hge:0≤zbj ((zgy p r:Nat):Int) ((zgz p r:Nat):Int):=by
    unfold zbj;split
    ·omega
    ·split <;> omega
   generalize hs9:zbj ((zgy p r:Nat):Int) ((zgz p r:Nat):Int)=sg at *;have H2:=hid h2;have Hng:=hid hng;have Hs9:=hid hs9;have Hrr:=hid hrr;have Hsv:=hid hsv;have Hvs5:=hid hvs5;have Hrln:=hid hrln;have Ho1:=hid ho1;clear h2 hng hs9 hrr hsv hvs5 hrln ho1;clear hx5 hvr hcw;go_wp2_with fail
   refine H2.out.mono ?_;rintro e w6 ⟨rfl,hx6⟩;have HC6:=hid (HC5.out.ext hx6);have HB66:=hid (zmh.ext hx6 HB5.out);have Hsv6:=hid (Hsv.out.imp id hx6.ownI);have Hvs6:=hid (hx6.sl Hvs5.out);clear hx6;by_cases h0:sg=0
   ·subst h0;go_wp2_with fail
    go_roundw
    case rel=>exact ⟨i+1,rs,vn,by go_num,hin,by omega,HC6,HS,HB66⟩
    case measure=>simp [zal];omega
   ·have h0b:(sg == 0)=false:=beq_eq_false_iff_ne.2 h0;have hgt:zgz p r<zgy p r:=by
     rcases Nat.lt_or_ge (zgz p r) (zgy p r) with q | q
     ·exact q
     ·have:=Hng.out.2 (by omega);omega
    obtain ⟨m,hm⟩:∃ m,m=rs.length:=⟨_,rfl⟩;have hm0:0<m:=by
     have:=HS.out.ne;rw [List.length_map] at this;omega
    obtain ⟨g,cap,evn,hg1,hg2⟩:=zmX HC6.out.o (by omega);rw [← hm] at evn;subst evn;have hcapm:m≤cap:=by
     have:=(zls HC6.out.o).1;rw [← hm] at this;exact this
    have hm9:m≤9:=(by omega);have Hgt:=hid hgt;have Hm:=hid hm;clear hgt hm;clear h0 hlo hge hg1 hg2;have q1:=HC6.out.b.c1;go_wp2_with fail
    clear q1;obtain ⟨wb,hwb⟩:∃ wb,wb=w6:=⟨_,rfl⟩;subst hwb;go_loopw [12] (fun v12 wj=>∃ k:Nat,v12=.int .i64 k∧k≤m∧Hid (∀ t,t<k→zgZ p ((rs.map Rw.x).getD t []) r<0)∧Hid (Ext wb wj)) (fun v12 _=>m - (zal v12).toNat)
    case atStart=>exact ⟨0,rfl,Nat.zero_le _,hid (fun t ht=>by omega),hid (Ext.refl _)⟩
    case round =>
     obtain ⟨k,rfl,hkm,HN,HE⟩:=hrel;have hC:=HC6.out.ext HE.out;have q1:=hC.b.c1;by_cases hkn:k<m
     ·obtain ⟨y,hy⟩:∃ y,rs[k]?=some y:=⟨_,List.getElem?_eq_getElem (by have:=Hm.out;omega)⟩;have hmy:=List.mem_of_getElem? hy;have hgy:(rs.map Rw.x).getD k []=y.x:=(by rw [List.getD_eq_getElem?_getD,List.getElem?_map,hy];rfl);have hyl:y.x.length=n+1:=(by rw [(HS.out.iv y.x (List.mem_map_of_mem hmy)).len];exact hpn);have hyo:=HS.out.ok Hok.out y.x (List.mem_map_of_mem hmy);have hys:=hC.sl hmy;have hcy:wr.cell? ⟨g,k,none⟩=some y.u:=by
       have ho:=hC.o;rw [← Hm.out] at ho;have:=World.ownsRow.cellAt ho k (by omega);rw [this];unfold rwc;rw [List.getElem?_map,hy];rfl
      have h3:=fun W (hx:Ext wr W)=>Hcm.out y.x r y.u _ W (hC.x.trans hx) (hx.sl hys) ((HE.out.trans hx).sl Hvs6.out) (by omega) (by have:=Hrln.out;omega);have h4:=fun W (hx:Ext wr W)=>Heq.out y.x r y.u _ W (hx.sl hys) ((HE.out.trans hx).sl Hvs6.out) (by omega) (by have:=Hrln.out;omega);have hce:zhV p y.x r=zgZ p y.x r:=(by unfold zhV;rw [if_neg (by simpa using zhU hyo Ho1.out)]);rw [hce] at h3;obtain ⟨ay,cy,ey,_,_,_⟩:=hys.parts;rw [zar,hyl] at ey;rw [ey] at hcy h3 h4;have hk1:(0:Int)≤(k:Int):=(by omega);have hk2:(k:Int)<(m:Int):=(by omega);have hkz:((k:Int) == (m:Int))=false:=beq_eq_false_iff_ne.2 (by omega);generalize zhS p y.x r=te at *;generalize hz9:zgZ p y.x r=z at *;have Hcy:=hid hcy;have H3:=hid h3;have H4:=hid h4;have Hgy:=hid hgy;have HC:=hid hC;have Hz9:=hid hz9;have Hy:=hid hy;clear h3 h4 hgy hC hz9 hy;clear hmy hyl hyo hys hce ey;go_wp2_with fail
      refine (H3.out wr (Ext.refl _)).mono ?_;rintro e w7 ⟨rfl,hx7⟩;have Hx7:=hid hx7;clear hx7;clear q1 hcy;by_cases hz:0≤z
      ·have hzd:decide (z ≥ 0)=true:=decide_eq_true hz;have q1:=(HC.out.ext Hx7.out).b.c1;have hcy:=Hx7.out.cell Hcy.out;have h5:=H4.out w7 Hx7.out;generalize he9:decide (y.x=r)=eq at *;have H5:=hid h5;have He9:=hid he9;clear h5 he9;go_wp2_with fail
       refine H5.out.mono ?_;rintro e w8 ⟨rfl,hq8⟩;have Hx8:=hid (Hx7.out.trans hq8.ext);clear hq8 q1 hcy
       cases eq with
       | true =>
        go_wp2_with fail
        go_roundw
        case rel=>exact ⟨i+1,rs,_,by go_num,hin,by omega,hid (HC.out.ext Hx8.out),HS,hid (zmh.ext (HE.out.trans Hx8.out) HB66.out)⟩
        case measure=>simp [zal];omega
       | false =>
        have hne:y.x ≠ r:=of_decide_eq_false He9.out
        have hput:=HS.out.put Hok.out Hrr.out Hgt.out (k:=k) (by rw [List.length_map,← Hm.out];exact hkn) HN.out (by rw [Hgy.out,Hz9.out];exact hz) (by rw [Hgy.out];exact hne)
        have hC8:=HC.out.ext Hx8.out
        have q1:=hC8.b.c1
        have hown8:=hC8.o
        have hcells:∀ j u,(rwc rs)[j]?=some u→w8.cell? ⟨g,0+j,none⟩=some u:=fun j u hu=>by
         have h:=World.ownsRow.cells hown8 (g:=g) rfl j u hu;rwa [show ((⟨g,0,none⟩:Addr).add j)=⟨g,0+j,none⟩ by unfold Addr.add;split <;> simp_all] at h
        have hrw1:(Value.slice av (n+1) cv).oneCell'=true:=rfl
        have hss:(rs.take k++(⟨r,.slice av (n+1) cv,hrw1⟩:Rw)::rs.drop k).map Rw.x=(rs.map Rw.x).take k++r::(rs.map Rw.x).drop k:=by
         rw [List.map_append,List.map_cons,List.map_take,List.map_drop]
        have hsl:(rs.take k++(⟨r,.slice av (n+1) cv,hrw1⟩:Rw)::rs.drop k).length=rs.length+1:=by
         rw [List.length_append,List.length_cons,List.length_take,List.length_drop];have:=Hm.out;omega
        have hrwc:rwc (rs.take k++(⟨r,.slice av (n+1) cv,hrw1⟩:Rw)::rs.drop k)=rwc (rs.take k)++([.slice av (n+1) cv]++rwc (rs.drop k)):=by simp [rwc]
        have hdl:(rwc (rs.drop k)).length=(m - k) * 1:=by rw [zpR,List.length_drop,← Hm.out,Nat.mul_one]
        have htl:(rwc (rs.take k)).length=k * 1:=by rw [zpR,List.length_take,← Hm.out,Nat.mul_one];omega
        have hdc:∀ W,Ext w8 W→∀ j u,(rwc (rs.drop k))[j]?=some u→W.cell? ((⟨g,k,none⟩:Addr).add j)=some u:=fun W hW j u hu=>by
         rw [Addr.add_lit];have:=hW.cell (hcells (k+j) u (by unfold rwc at hu ⊢;rwa [List.map_drop,List.getElem?_drop] at hu));rwa [Nat.zero_add] at this
        have htc:∀ W,Ext w8 W→∀ j u,(rwc (rs.take k))[j]?=some u→W.cell? ((⟨g,0,none⟩:Addr).add j)=some u:=fun W hW j u hu=>by
         rw [Addr.add_lit];refine hW.cell (hcells j u ?_);unfold rwc at hu ⊢;rw [List.map_take] at hu;have hj:j<k:=by
          have h:=(List.getElem?_eq_some_iff.1 hu).1;rw [List.length_take] at h;omega
         rwa [List.getElem?_take_of_lt hj] at hu
        have hd1:=zpS (rs.drop k)
        have hck:¬ cap=k:=by omega
        have hck2:(k:Int)≤(cap:Int):=by omega
        have hkk1:(0:Int)≤(k:Int):=by omega
        have hkm3:(k:Int)≤(m:Int):=by omega
        have hb1:1+(m - k)≤maxLen:=by unfold maxLen;omega
        have hb2:(1+(m - k)) * 24≤140737488355328:=by omega
        have hb3:k+(1+(m - k))≤maxLen:=by unfold maxLen;omega
        have hb4:(k+(1+(m - k))) * 24≤140737488355328:=by omega
        have hf1:1<1+(m - k):=by omega
        have hf2:k<k+(1+(m - k)):=by omega
        have Hput:=hid hput;have Hss:=hid hss;have Hsl:=hid hsl;have Hrwc:=hid hrwc;have Hdl:=hid hdl;have Htl:=hid htl;have Hdc:=hid hdc;have Htc:=hid htc;have Hd1:=hid hd1;clear hput hss hsl hrwc hdl htl hdc htc hd1
        clear hne hC8 hown8 hcells
        go_wp2_with fail
        refine zik 14 (fun w'=>Ext w8 w'∧w'.cell? ⟨w.heap.size+1+1,1,none⟩=some (.slice (some ⟨g,0,none⟩) m cap)) (by kernel_rfl) (⟨(Ext.refl w8).drew,(Ext.refl w8).drew.cell q1⟩) (fun hHeld=>?_)
        refine zig (i:=0) (v:=?v0) rfl (by kernel_rfl) (by kernel_rfl) (by kernel_rfl) (by kernel_rfl) (fun _ _ _ h=>h) (Or.inl ⟨by rfl,?y0⟩) hHeld ?r0
        case y0=>(intro w hSw;(try dsimp only at hSw);go_simp;try with_reducible rfl)
        case r0 =>
        refine zig (i:=1) (v:=?v1) rfl (by kernel_rfl) (by kernel_rfl) (by kernel_rfl) (by kernel_rfl) (fun _ _ _ h=>h) (Or.inl ⟨by rfl,?y1⟩) hHeld ?r1
        case y1=>(intro w hSw;(try dsimp only at hSw);go_simp;try with_reducible rfl)
        case r1 =>
        refine zig (i:=2) (v:=?v2) rfl (by kernel_rfl) (by kernel_rfl) (by kernel_rfl) (by kernel_rfl) (fun _ _ _ h=>h) (Or.inl ⟨by rfl,?y2⟩) hHeld ?r2
        case y2=>(intro w hSw;(try dsimp only at hSw);go_simp;try with_reducible rfl)
        case r2 =>
        refine zig (i:=3) (v:=?v3) rfl (by kernel_rfl) (by kernel_rfl) (by kernel_rfl) (by kernel_rfl) (fun _ _ _ h=>h) (Or.inl ⟨by rfl,?y3⟩) hHeld ?r3
        case y3=>(intro w hSw;(try dsimp only at hSw);go_simp;try with_reducible rfl)
        case r3 =>
        refine zig (i:=4) (v:=?v4) rfl (by kernel_rfl) (by kernel_rfl) (by kernel_rfl) (by kernel_rfl) (fun _ _ _ h=>h) (Or.inl ⟨by rfl,?y4⟩) hHeld ?r4
        case y4=>(intro w hSw;(try dsimp only at hSw);go_simp;try with_reducible rfl)
        case r4 =>
        refine zig (i:=5) (v:=?v5) rfl (by kernel_rfl) (by kernel_rfl) (by kernel_rfl) (by kernel_rfl) (fun _ _ _ h=>h) (Or.inl ⟨by rfl,?y5⟩) hHeld ?r5
        case y5=>(intro w hSw;(try dsimp only at hSw);go_simp;try with_reducible rfl)
        case r5 =>
        refine zig (i:=7) (v:=?v7) rfl (by kernel_rfl) (by kernel_rfl) (by kernel_rfl) (by kernel_rfl) (fun _ _ _ h=>h) (Or.inl ⟨by rfl,?y7⟩) hHeld ?r7
        case y7=>(intro w hSw;(try dsimp only at hSw);go_simp;try with_reducible rfl)
        case r7 =>
        refine zig (i:=8) (v:=?v8) rfl (by kernel_rfl) (by kernel_rfl) (by kernel_rfl) (by kernel_rfl) (fun _ _ _ h=>h) (Or.inl ⟨by rfl,?y8⟩) hHeld ?r8
        case y8=>(intro w hSw;(try dsimp only at hSw);go_simp;try with_reducible rfl)
        case r8 =>
        refine zig (i:=9) (v:=?v9) rfl (by kernel_rfl) (by kernel_rfl) (by kernel_rfl) (by kernel_rfl) (fun _ _ _ h=>h) (Or.inl ⟨by rfl,?y9⟩) hHeld ?r9
        case y9=>(intro w hSw;(try dsimp only at hSw);go_simp;try with_reducible rfl)
        case r9 =>
        refine zig (i:=10) (v:=?v10) rfl (by kernel_rfl) (by kernel_rfl) (by kernel_rfl) (by kernel_rfl) (fun _ _ _ h=>h) (Or.inl ⟨by rfl,?y10⟩) hHeld ?r10
        case y10=>(intro w hSw;(try dsimp only at hSw);go_simp;try with_reducible rfl)
        case r10 =>
        refine zih (i:=6) (by kernel_rfl) rfl (fun K hK=>?_)
        go_simp
        have HX7:=hid ((Ext.refl w8).alloc (.cells #[.slice av (n+1) cv] 33)).drew
        refine hK.out _ _ (⟨HX7.out,HX7.out.cell q1⟩) (fun hHeld=>?_)
        clear hK K
        refine zih (i:=11) (by kernel_rfl) rfl (fun K hK=>?_)
        refine step_append_grows rfl (.tmp 81) (.tmp 85) 29 rfl 33 j0 (.slice none 0 0) 1 24 Tryz.underlying29 hj hy0 hy1 hy2 rfl (by decide) (some ⟨w8.heap.size,0,none⟩) 1 1 [.slice av (n+1) cv] (by rfl) (fun h=>by cases h) rfl (fun b h j u hu=>by cases h;exact (Ext.refl _).drew.cell (cell_one_new w8 _ _ j u hu)) ⟨g,k,none⟩ (m - k) (cap - k) (rwc (rs.drop k)) (by rfl) Hdl.out (Hdc.out _ HX7.out) Hd1.out hf1 hb1 hb2 ?_
        intro v8' V1 ho8 hg8
        obtain ⟨g1,c1,e1,_,_⟩:=zmX ho8 (by omega)
        subst e1
        have HX8:=hid (HX7.out.grown hg8 (fun r e=>by cases e));have HO8:=hid ho8
        clear ho8 hg8
        refine hK.out _ _ (⟨HX8.out,HX8.out.cell q1⟩) (fun hHeld=>?_)
        clear hK K
        refine zih (i:=12) (by kernel_rfl) rfl (fun K hK=>?_)
        refine step_append_grows rfl (.tmp 79) (.tmp 86) 29 rfl 33 j0 (.slice none 0 0) 1 24 Tryz.underlying29 hj hy0 hy1 hy2 rfl (by decide) (some ⟨g,0,none⟩) k k (rwc (rs.take k)) (by rfl) (fun h=>by cases h) Htl.out (fun b h j u hu=>by cases h;exact Htc.out _ HX8.out j u hu) ⟨g1,0,none⟩ (1+(m - k)) c1 ([.slice av (n+1) cv]++rwc (rs.drop k)) (by rfl) (by rw [List.length_append,Hdl.out,List.length_singleton];omega) (fun j u hu=>World.ownsRow.cells HO8.out (g:=g1) rfl j u hu) (fun u hu=>(List.mem_append.1 hu).elim (fun q=>by rw [List.mem_singleton.1 q];rfl) (fun q=>Hd1.out u q)) hf2 hb3 hb4 ?_
        intro v9' V2 ho9 hg9
        obtain ⟨a9,c9,e9⟩:=zc3 ho9
        subst e9
        have HX9:=hid (HX8.out.grown hg9 (fun r e=>by cases e));have HO9:=hid ho9
        clear ho9 hg9
        refine hK.out _ _ (⟨HX9.out,HX9.out.cell q1⟩) (fun hHeld=>?_)
        clear hK K
        refine zig (i:=13) (v:=?v13) rfl (by kernel_rfl) (by kernel_rfl) (by kernel_rfl) (by kernel_rfl) (fun _ _ _ h=>h) (Or.inl ⟨by rfl,?y13⟩) hHeld ?r13
        case y13=>(intro w hSw;(try dsimp only at hSw);go_simp;try with_reducible rfl)
        case r13 =>
        have hb9:=zmh.ext HX9.out (HC.out.ext Hx8.out).b
        have l1:=hb9.c1
        have lz:=hb9.fz 1
        clear hb9
        refine zii (i:=14) (by kernel_rfl) (by decide) rfl (fun K hK=>?_)
        go_simp
        refine hK.out _ _ ?_
        clear hK K
        refine zij (by kernel_rfl) ?_
        clear l1 lz q1 hHeld
        have hlen9:k+(1+(m - k))=(rs.take k++(⟨r,.slice av (n+1) cv,hrw1⟩:Rw)::rs.drop k).length:=by rw [Hsl.out,← Hm.out];omega
        have hC9:=(HC.out.ext Hx8.out).put (V:=V2) (r:=⟨r,.slice av (n+1) cv,hrw1⟩) (v9:=.slice a9 (k+(1+(m - k))) c9) (ss:=rs.take k++(⟨r,.slice av (n+1) cv,hrw1⟩:Rw)::rs.drop k) (by omega) HX9.out (Hsv6.out.imp id (HE.out.trans Hx8.out).ownI) (by rw [← hlen9,Hrwc.out];exact zam HO9.out HX8.out.size) (fun s hs=>by
         rcases List.mem_append.1 hs with q | q
         ·exact .inr (List.mem_of_mem_take q)
         ·rcases List.mem_cons.1 q with q | q
          ·exact .inl q
          ·exact .inr (List.mem_of_mem_drop q))
        have hB9:zmh 31 (V2.setCell ⟨w.heap.size+1+1,1,none⟩ (.slice a9 (k+(1+(m - k))) c9)) w.heap.size (.slice none 0 0) (.slice none 0 0):=zmh.past1 (zmh.ext ((HE.out.trans Hx8.out).trans HX9.out) HB66.out) 1 (by omega) _
        have HC9:=hid hC9;have HB9:=hid hB9
        have HS9:=hid (show zk9 p ((rs.take k++(⟨r,.slice av (n+1) cv,hrw1⟩:Rw)::rs.drop k).map Rw.x) by rw [Hss.out];exact Hput.out)
        clear hC9 hB9 hlen9
        go_wp2_with fail
        go_roundw
        case rel=>exact ⟨i+1,_,_,by go_num,hin,by rw [Hsl.out];omega,HC9,HS9,HB9⟩
        case measure=>simp [zal];omega
      ·have hzd:decide (z ≥ 0)=false:=decide_eq_false hz;have hzl:z<0:=(by omega);have Hzl:=hid hzl;clear hzl;clear hz;go_wp2_with fail
       go_roundw
       case rel =>
        refine ⟨k+1,by go_num,hkn,hid (fun t ht=>?_),hid (HE.out.trans Hx7.out)⟩;rcases Nat.lt_or_ge t k with q | q
        ·exact HN.out t q
        ·obtain rfl:t=k:=by omega
         rw [Hgy.out,Hz9.out];exact Hzl.out
       case measure=>simp [zal];omega
     ·exfalso;have hkm2:k=m:=(by omega);refine HS.out.not_all Hrr.out.hi fun t ht=>HN.out t ?_;rw [List.length_map] at ht;have:=Hm.out;omega
  ·have hiL2:i=L:=(by omega);have hni:¬ (i:Int)<(L:Int):=(by omega);have q0:=HC.out.b.c0;have q1:=HC.out.b.c1;have d0:=HB6.out.c0;have d1:=HB6.out.c1;have z0:=HB6.out.fz 0;have z1:=HB6.out.fz 1;obtain ⟨an,cn,en⟩:=zc3 HC.out.o;subst en;have hb9:=HB6.out.put (.slice ap (n+1) cp) (.slice an rs.length cn);have hd0:=hb9.c0;have hd1:=hb9.c1;have hg9:=(zf9 wr ⟨w.heap.size,0,none⟩ (.slice ap (n+1) cp)).trans (zf9 (wr.setCell ⟨w.heap.size,0,none⟩ (.slice ap (n+1) cp)) ⟨w.heap.size,1,none⟩ (.slice an rs.length cn));have hE9:=(HC.out.x.setCell (p:=⟨w.heap.size,0,none⟩) (Nat.le_refl _) (.slice ap (n+1) cp)).setCell (p:=⟨w.heap.size,1,none⟩) (Nat.le_refl _) (.slice an rs.length cn);have hmat9:Mat ((wr.setCell ⟨w.heap.size,0,none⟩ (.slice ap (n+1) cp)).setCell ⟨w.heap.size,1,none⟩ (.slice an rs.length cn)) (.slice an rs.length cn) (rs.map Rw.x):=by
    have o1:=zfA HB6.out HC.out.o zpP 0 (.slice ap (n+1) cp);have o2:=zfA (HB6.out.put0 (.slice ap (n+1) cp)) o1 zpP 1 (.slice an rs.length cn);have hC9:CoS w (w.heap.size+1+1) (.slice ap (n+1) cp) rs (.slice an rs.length cn) ((wr.setCell ⟨w.heap.size,0,none⟩ (.slice ap (n+1) cp)).setCell ⟨w.heap.size,1,none⟩ (.slice an rs.length cn)) :=
     ⟨(HC.out.b.past1 0 (by omega) _).past1 1 (by omega) _,o2,fun s hs=>(HC.out.r s hs).imp id fun q=>zfA (HB6.out.put0 (.slice ap (n+1) cp)) (zfA HB6.out q zpQ 0 _) zpQ 1 _,hE9⟩
    exact hC9.mat
   have Hmat9:=hid hmat9;have HE9:=hid hE9;clear hmat9 hE9;clear hb9 hg9;go_wp2_with fail
   exact bodyPost_ret (v:=.agg #[.slice ap (n+1) cp,.slice an rs.length cn]) (by simp [results,Tryz.results30,go_sem,hd0,hd1]) rfl ⟨_,rfl,_,Hmat9.out,HS.out,by rw [List.length_map];omega,HE9.out⟩
theorem zpU (n:Int)(w:World):Calls Tryz.prog 48 #[.int .i64 n] w fun e w'=>e=.returned (.bool (far n))∧∃ q,w'=w.drewN q:=by
 unfold far;by_cases h1:1000<n
 ·have hd:decide (n > 1000)=true:=decide_eq_true h1;rw [decide_eq_true h1];go_enter Tryz.func48,Tryz.ntmps48
  go_wp2
  go_ret
  exact ⟨rfl,0,rfl⟩
 ·have hd:decide (n > 1000)=false:=decide_eq_false h1;rw [decide_eq_false h1];by_cases h2:n < -1000
  ·have hd2:decide (n < -1000)=true:=decide_eq_true h2;rw [hd2];go_enter Tryz.func48,Tryz.ntmps48
   go_wp2
   go_ret
   exact ⟨rfl,0,rfl⟩
  ·have hd2:decide (n < -1000)=false:=decide_eq_false h2;rw [hd2];go_enter Tryz.func48,Tryz.ntmps48
   go_wp2
   go_ret
   exact ⟨rfl,0,rfl⟩
theorem zpV (w:World):Go.Proofs.PredAt Tryz.prog 48 #[] (Value.int .i64) far w:=fun W x _=>zpU x W
theorem zpW : ∀ args w,(callFunc 48 args).run Tryz.prog w=.ok (.enter 48 args) w:=enters_of Tryz.func48 (by kernel_rfl) rfl
theorem zpX (a:Option Addr)(cap:Nat)(x:List Int)(w:World)(hl:x.length≤1000000)
  (hc:∀ i u,(zap x)[i]?=some u→∃ b off,a=some ⟨b,off,none⟩∧w.cell? ⟨b,off+i,none⟩=some u) :
  Calls Tryz.prog 47 #[.slice a x.length cap,.func (.func 48) #[] #[]] w fun e w'=>e=.returned (.bool (x.any far))∧Ext w w':=by
 cases x with
 | nil=>exact (AnyE.slices_ContainsFunc_empty Tryz.lContainsR a cap _ w).mono fun e w' ⟨h,hw⟩=>⟨h,by rw [hw];exact Ext.refl _⟩
 | cons z r =>
  obtain ⟨b,off,rfl,_⟩:=hc 0 _ (zau (l:=z::r) (by simp))
  have h:=AnyE.slices_ContainsFunc Tryz.lContainsR (Value.int .i64) far 48 #[] zpW b off (z::r).length cap (z::r) w (zpV w) (Nat.le_refl _) (by omega) (fun j hj=>by
   obtain ⟨b2,off2,e2,hcell⟩:=hc j _ (zau hj);simp only [Option.some.injEq,Addr.mk.injEq,and_true] at e2;obtain ⟨rfl,rfl⟩:=e2;rw [hcell];unfold zas;rw [List.getD_eq_getElem?_getD,List.getElem?_eq_getElem hj,getElem!_pos _ j hj];rfl)
  rw [List.take_length] at h
  exact h.mono fun e w' ⟨he,q,hw⟩=>⟨he,by rw [hw];exact (Ext.refl w).drewN q⟩
structure M37 (W6:World)(bs:Nat)(vp:Value)(xs:List (List Int))(vn:Value)(rs:List Rw)(wr:World):Prop where
 b:zmh 31 wr bs vp vn
 q:RwM wr W6.heap.size W6.heap.size vn rs
 m:rs.map Rw.x=xs
 x:Ext W6 wr
theorem M37.ext {W6 wr w':World}{bs:Nat}{vp vn:Value}{xs:List (List Int)}{rs:List Rw}(h:M37 W6 bs vp xs vn rs wr)(hx:Ext wr w'):M37 W6 bs vp xs vn rs w':=⟨zmh.ext hx h.b,h.q.ext hx,h.m,h.x.trans hx⟩
theorem zpY {W:World}{b B:Nat}{v:Value}{rs:List Rw}(h:RwM W b B v rs){c:Nat}{cs:Array Value}(hc:W.heap[c]?=some (.cells cs 31 (0,0)))(k:Nat)(u:Value):RwM (W.setCell ⟨c,k,none⟩ u) b B v rs :=
 ⟨zfA hc h.1 zpP k u,fun r hr=>⟨zfA hc (h.2 r hr).1 zpQ k u,(h.2 r hr).2⟩⟩
theorem M37.more {W6 W V:World}{bs:Nat}{vp vn v7:Value}{r:Rw}{rs:List Rw}{xs:List (List Int)}{o:Obj}(h:M37 W6 bs vp xs vn rs W)(hbs:W6.heap.size≤bs)(ho:zc2 W W6.heap.size r.u r.x)(hrl:r.x.length≤1000000)
  (hown:V.ownsRow W6.heap.size 33 1 v7 (rs.length+1) (rwc rs++[r.u])) (hgrow:(W.alloc o).grownBy V vn.ownBlock):M37 W6 bs vp (xs++[r.x]) v7 (rs++[r]) (V.setCell ⟨bs,1,none⟩ v7):=by
 have h1:=h.q.more (r:=r) ⟨ho,hrl⟩ hown hgrow;have hE:Ext W6 V:=(h.x.alloc o).grown hgrow fun k hk=>(World.ownsRow.lt (World.ownsRow.alloc h.q.1 o) k hk).1;have hbV:zmh 31 V bs vp vn:=zf7 (((Ext.refl W).alloc o).heap h.b) (World.ownsRow.alloc h.q.1 o) zpP hgrow;exact ⟨hbV.put1 v7,zpY h1 hbV 1 v7,by rw [List.map_append,h.m];rfl,hE.setCell (p:=⟨bs,1,none⟩) hbs v7⟩
end Go.Proofs.YtipkdebkdnbieaaGreatDoor
