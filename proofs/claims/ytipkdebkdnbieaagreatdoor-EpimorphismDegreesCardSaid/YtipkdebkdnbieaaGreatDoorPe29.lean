/- Walk: law 37's collect (its drawn region printed by col37.py). (KEEPALL) Walk: law 37's intervals. (KEEPALL) Lists of rows laid out of constants: out of XLwB. (KEEPALL) (Printed by rebase.py.) -/
import Derived.Test.YtipkdebkdnbieaaGreatDoorPe18
import Derived.Test.YtipkdebkdnbieaaGreatDoorPe28
import Derived.Deep.RegionLawGrows
import Derived.Test.YtipkdebkdnbieaaGreatDoorPe13
import Derived.Deep.RegionHeld3
import Derived.RegionTactic
import Derived.ChangeAlike
set_option maxRecDepth 100000
set_option maxHeartbeats 8000000
namespace Go.Proofs.YtipkdebkdnbieaaGreatDoor
section
open Go.RowKit Go.Lib Go.Shelf
structure CoS (w:World)(b:Nat)(vp:Value)(rs:List Rw)(vn:Value)(wr:World):Prop where
 b:zoi 31 wr b vp vn
 o:wr.ownsRow w.heap.size 33 1 vn rs.length (rwc rs)
 r:∀ r∈rs,Sl w r.u (zap r.x)∨zc2 wr w.heap.size r.u r.x
 x:Ext w wr
section
variable {w wr V : World} {b : Nat} {vp vn : Value} {rs : List Rw}
theorem CoS.ext (h:CoS w b vp rs vn wr)(hx:Ext wr V):CoS w b vp rs vn V:=⟨zoi.ext hx h.b,hx.own h.o,fun r hr=>(h.r r hr).imp id hx.ownI,h.x.trans hx⟩
theorem CoS.sl (h:CoS w b vp rs vn wr){r:Rw}(hr:r∈rs):Sl wr r.u (zap r.x):=by
 rcases h.r r hr with q | q
 ·exact h.x.sl q
 ·exact q.sl
theorem CoS.mat (h:CoS w b vp rs vn wr):Mat wr vn (rs.map Rw.x):=by
 refine ⟨rwc rs,by simp [rwc],zan h.o,fun i u hu=>?_⟩;unfold rwc at hu;rw [List.getElem?_map] at hu
 cases hr:rs[i]? with
 | none=>rw [hr] at hu;cases hu
 | some r =>
  rw [hr] at hu
  obtain rfl:=Option.some.inj hu
  rw [List.getD_eq_getElem?_getD,List.getElem?_map,hr]
  exact h.sl (List.mem_of_getElem? hr)
end
theorem zoA {w:World}{v:Value}{x:List Int}(h:Sl w v (zap x)):v.oneCell'=true:=by
 obtain ⟨_,_,rfl,_,_,_⟩:=h.parts;rfl
theorem zoB : 31 ≠ 33:=by decide
theorem zoC : 31 ≠ 3:=by decide
theorem CoS.put {w wr V:World}{b:Nat}{vp vn v9:Value}{rs ss:List Rw}{r:Rw}(h:CoS w b vp rs vn wr)(hb:w.heap.size≤b)(hE:Ext wr V)(hr:Sl w r.u (zap r.x)∨zc2 wr w.heap.size r.u r.x)(ho:V.ownsRow wr.heap.size 33 1 v9 ss.length (rwc ss))(hs:∀ s∈ss,s=r∨s∈rs):CoS w b vp ss v9 (V.setCell ⟨b,1,none⟩ v9):=by
 have hV:=h.ext hE;have hbV:=hV.b;refine ⟨hbV.put1 v9,zam (zf8 hbV ho zoB 1 v9) h.x.size,fun s hs'=>?_,hV.x.setCell (p:=⟨b,1,none⟩) hb _⟩;rcases hs s hs' with rfl | q
 ·exact hr.imp id fun q=>zf8 hbV (hE.ownI q) zoC 1 v9
 ·exact (hV.r s q).imp id fun q=>zf8 hbV q zoC 1 v9
theorem zoD (rs:List Rw):(rwc rs).length=rs.length:=by simp [rwc]
theorem zoE (rs:List Rw):∀ u∈rwc rs,u.oneCell'=true:=fun u hu=>by
 unfold rwc at hu;obtain ⟨r,_,rfl⟩:=List.mem_map.1 hu;exact r.hu
theorem zoF (vp vq vl:Value)(p:List Int)(l:List (List Int))(n L:Nat)(w:World)(he:Env w)(hp:Sl w vp (zap p))(hq:Sl w vq (zap (zjT n)))(hl:Mat w vl l)(hok:zhs p)(hpn:p.length=n+1)(hL:l.length=L)(hL8:L≤8)(hiv:∀ x∈l,Iv p x∧-9≤zas x 0∧zas x 0≤9) :
  Calls Tryz.prog 30 #[vp,vq,vl] w fun e w'=>∃ vn,e=.returned (.agg #[vp,vn])∧∃ rs,Mat w' vn rs∧zkk p rs∧rs.length≤L+1∧Ext w w':=by
 obtain ⟨j0,hj,hy0,hy1,hy2⟩:=info_parts zmu;have hl4:=hok.len;have hol:(zjT n).length=n+1:=zjV n;have hn3:n≤3:=by omega
 have hper:zh6 p.length=zjT n:=by rw [hpn];exact zjZ n
 have hrd:=fun x (hx:x∈l) u W (hE:Ext w W)(hu:Sl W u (zap x))=>zkf vp vq u p x n W (he.ext hE) (hE.sl hp) (hE.sl hq) hu hok hpn (hiv x hx).1 (hiv x hx).2;have hone:∀ r,Rdd p r→zgr p r=0:=fun r h=>h.iv.ok hok (by have:=h.bd hok;omega);have hrl:∀ r,Rdd p r→r.length=n+1:=fun r h=>by rw [h.iv.len];exact hpn
 have hsg:=fun r (h:Rdd p r) v W (hE:Ext w W)(hv:Sl W v (zap r))=>zg9 vp v p r W (he.ext hE) (hE.sl hp) hv (by omega) (by have:=hrl r h;omega);have hcm:=fun y r v u W (hE:Ext w W)(hv:Sl W v (zap y))(hu:Sl W u (zap r))(h1:y.length≤1000000)(h2:r.length≤1000000)=>zhG vp v u p y r W (he.ext hE) (hE.sl hp) hv hu (by omega) h1 h2;have heq:=fun y r v u W (hv:Sl W v (zap y))(hu:Sl W u (zap r))(h1:y.length≤1000000)(h2:r.length≤1000000)=>zkW v u y r W hv hu h1 h2;have hvu:=zoA hq;obtain ⟨ap,cp,rfl,_,_,_⟩:=hp.parts;obtain ⟨aq,cq,rfl,_,_,_⟩:=hq.parts;obtain ⟨vs,hvl,hvs,hrows⟩:=hl;obtain ⟨am,cm,rfl,_,_,hcm2⟩:=hvs.parts;simp only [zar] at *;rw [hpn] at hrd hsg hcm ⊢;rw [hol] at hrd hvu hq ⊢;rw [hvl,hL];obtain ⟨W2,hW2⟩:∃ W2,W2=((w.alloc (.cells #[.slice none 0 0,.slice none 0 0] 31)).alloc (.cells #[.slice aq (n+1) cq] 33)).alloc (.cells #[.slice ap (n+1) cp,.slice (some ⟨w.heap.size+1,0,none⟩) 1 1] 31):=⟨_,rfl⟩;have hs1:(w.alloc (.cells #[.slice none 0 0,.slice none 0 0] 31)).heap.size=w.heap.size+1:=World.size_alloc ..;have hs2:((w.alloc (.cells #[.slice none 0 0,.slice none 0 0] 31)).alloc (.cells #[.slice aq (n+1) cq] 33)).heap.size=w.heap.size+1+1:=by rw [World.size_alloc,hs1]
 have hCo:CoS w (w.heap.size+1+1) (.slice ap (n+1) cp) [⟨zjT n,.slice aq (n+1) cq,hvu⟩] (.slice (some ⟨w.heap.size+1,0,none⟩) 1 1) W2:=by
  rw [hW2];refine ⟨?_,?_,fun r hr=>?_,(((Ext.refl w).alloc _).alloc _).alloc _⟩
  ·have:=zoi.new 31 ((w.alloc (.cells #[.slice none 0 0,.slice none 0 0] 31)).alloc (.cells #[.slice aq (n+1) cq] 33)) (.slice ap (n+1) cp) (.slice (some ⟨w.heap.size+1,0,none⟩) 1 1);rwa [hs2] at this
  ·refine World.ownsRow.alloc ?_ _;have:=World.alloc_heap_new (w.alloc (.cells #[.slice none 0 0,.slice none 0 0] 31)) (.cells #[.slice aq (n+1) cq] 33);rw [hs1] at this;exact ⟨rfl,.inr ⟨w.heap.size+1,1,#[.slice aq (n+1) cq],rfl,Nat.le_succ _,this,Nat.le_refl _,by unfold maxLen;omega,rfl,rfl⟩⟩
  ·rw [List.mem_singleton.1 hr];exact .inl hq
 have hb6:zoi 31 W2 w.heap.size (.slice none 0 0) (.slice none 0 0):=by
  rw [hW2];exact zoi.ext (((Ext.refl _).alloc _).alloc _) (zoi.new 31 w (.slice none 0 0) (.slice none 0 0))
 have hS0:zkk p ([(⟨zjT n,.slice aq (n+1) cq,hvu⟩:Rw)].map Rw.x):=by
  have:=zkn hok;rw [hper] at this;exact this
 have Hrd:=hid hrd;have Hone:=hid hone;have Hrl:=hid hrl;have Hsg:=hid hsg;have Hcm:=hid hcm;have Heq:=hid heq;have Hrows:=hid hrows;have Hcm2:=hid hcm2;have Hvl:=hid hvl;have HL:=hid hL;have HCo:=hid hCo;have HS0:=hid hS0;have Hok:=hid hok;have Hper:=hid hper;have Hb6:=hid hb6;have Hiv:=hid hiv;clear hrd hone hrl hsg hcm heq hrows hcm2 hvl hL hCo hS0 hok hper hb6 hiv;clear hp hq hvs he hl4 hol hs1 hs2;go_enter Tryz.func30,Tryz.ntmps30
 go_wp2_with fail
 rw [← hW2];clear hW2;go_loopw [8] (fun v8 wr=>∃ (i:Nat)(rs:List Rw)(vn:Value),v8=.int .i64 i∧i≤L∧rs.length≤i+1∧Hid (CoS w (w.heap.size+1+1) (.slice ap (n+1) cp) rs vn wr)∧Hid (zkk p (rs.map Rw.x))∧Hid (zoi 31 wr w.heap.size (.slice none 0 0) (.slice none 0 0))) (fun v8 _=>L - (zal v8).toNat)
 case atStart=>exact ⟨0,_,_,rfl,Nat.zero_le _,Nat.le_refl _,HCo,HS0,Hb6⟩
 case round =>
  clear HCo HS0 Hb6;obtain ⟨i,rs,vn,rfl,hiL,hrs,HC,HS,HB6⟩:=hrel;have hHw:=HC.out.x;by_cases hin:i<L
  ·obtain ⟨x,hx⟩:∃ x,l[i]?=some x:=⟨_,List.getElem?_eq_getElem (by have:=HL.out;omega)⟩;obtain ⟨u,hu⟩:∃ u,vs[i]?=some u:=⟨_,List.getElem?_eq_getElem (by rw [Hvl.out,HL.out];exact hin)⟩;obtain ⟨bl,off,rfl,hcu⟩:=Hcm2.out i u hu;have hru:=Hrows.out i u hu;rw [List.getD_eq_getElem?_getD,hx] at hru;simp only [Option.getD_some] at hru;have hr1:=Hrd.out x (List.mem_of_getElem? hx) u wr hHw (hHw.sl hru);obtain ⟨ax,cx,eu,_,_,_⟩:=hru.parts;have hxl:x.length=n+1:=(by rw [(Hiv.out x (List.mem_of_getElem? hx)).1.len];exact hpn);rw [zar,hxl] at eu;subst eu;have hcw:=hHw.cell hcu;have hk1:(0:Int)≤(i:Int):=(by omega);have hk2:(i:Int)<(L:Int):=(by omega);have Hr1:=hid hr1;have Hru:=hid hru;have HHw:=hid hHw;clear hr1 hru hHw;clear hx hu hcu hxl;go_wp2_with fail
   refine Hr1.out.mono ?_;rintro e w5 ⟨v,r,rfl,hrr,hvr,hx5⟩;have hsv:Sl w v (zap r)∨zc2 w5 w.heap.size v r:=by
    rcases hvr with ⟨rfl,rfl⟩ | q
    ·exact .inl Hru.out
    ·exact .inr (zam q HHw.out.size)
   have hrln:=Hrl.out r hrr;have hvs5:Sl w5 v (zap r):=by
    rcases hsv with q | q
    ·exact (HHw.out.trans hx5).sl q
    ·exact q.sl
   obtain ⟨av,cv,ev,_,_,_⟩:=hvs5.parts;rw [zar,hrln] at ev;subst ev;have HC5:=hid (HC.out.ext hx5);have HB5:=hid (zoi.ext hx5 HB6.out);have ho1:=Hone.out r hrr;have h2:=Hsg.out r hrr _ w5 HC5.out.x hvs5;rw [ho1,zkd ho1] at h2;have hng:=zgK ((zgv p r:Nat):Int) ((zgw p r:Nat):Int);have hlo:=hrr.lo;have hge:0≤zbj ((zgv p r:Nat):Int) ((zgw p r:Nat):Int):=by
    unfold zbj;split
    ·omega
    ·split <;> omega
   generalize hs9:zbj ((zgv p r:Nat):Int) ((zgw p r:Nat):Int)=sg at *;have H2:=hid h2;have Hng:=hid hng;have Hs9:=hid hs9;have Hrr:=hid hrr;have Hsv:=hid hsv;have Hvs5:=hid hvs5;have Hrln:=hid hrln;have Ho1:=hid ho1;clear h2 hng hs9 hrr hsv hvs5 hrln ho1;clear hx5 hvr hcw;go_wp2_with fail
   refine H2.out.mono ?_;rintro e w6 ⟨rfl,hx6⟩;have HC6:=hid (HC5.out.ext hx6);have HB66:=hid (zoi.ext hx6 HB5.out);have Hsv6:=hid (Hsv.out.imp id hx6.ownI);have Hvs6:=hid (hx6.sl Hvs5.out);clear hx6;by_cases h0:sg=0
   ·subst h0;go_wp2_with fail
    go_roundw
    case rel=>exact ⟨i+1,rs,vn,by go_num,hin,by omega,HC6,HS,HB66⟩
    case measure=>simp [zal];omega
   ·have h0b:(sg == 0)=false:=beq_eq_false_iff_ne.2 h0;have hgt:zgw p r<zgv p r:=by
     rcases Nat.lt_or_ge (zgw p r) (zgv p r) with q | q
     ·exact q
     ·have:=Hng.out.2 (by omega);omega
    obtain ⟨m,hm⟩:∃ m,m=rs.length:=⟨_,rfl⟩;have hm0:0<m:=by
     have:=HS.out.ne;rw [List.length_map] at this;omega
    obtain ⟨g,cap,evn,hg1,hg2⟩:=zlZ HC6.out.o (by omega);rw [← hm] at evn;subst evn;have hcapm:m≤cap:=by
     have:=(zkT HC6.out.o).1;rw [← hm] at this;exact this
    have hm9:m≤9:=(by omega);have Hgt:=hid hgt;have Hm:=hid hm;clear hgt hm;clear h0 hlo hge hg1 hg2;have q1:=HC6.out.b.c1;go_wp2_with fail
    clear q1;obtain ⟨wb,hwb⟩:∃ wb,wb=w6:=⟨_,rfl⟩;subst hwb;go_loopw [12] (fun v12 wj=>∃ k:Nat,v12=.int .i64 k∧k≤m∧Hid (∀ t,t<k→zgI p ((rs.map Rw.x).getD t []) r<0)∧Hid (Ext wb wj)) (fun v12 _=>m - (zal v12).toNat)
    case atStart=>exact ⟨0,rfl,Nat.zero_le _,hid (fun t ht=>by omega),hid (Ext.refl _)⟩
    case round =>
     obtain ⟨k,rfl,hkm,HN,HE⟩:=hrel;have hC:=HC6.out.ext HE.out;have q1:=hC.b.c1;by_cases hkn:k<m
     ·obtain ⟨y,hy⟩:∃ y,rs[k]?=some y:=⟨_,List.getElem?_eq_getElem (by have:=Hm.out;omega)⟩;have hmy:=List.mem_of_getElem? hy;have hgy:(rs.map Rw.x).getD k []=y.x:=(by rw [List.getD_eq_getElem?_getD,List.getElem?_map,hy];rfl);have hyl:y.x.length=n+1:=(by rw [(HS.out.iv y.x (List.mem_map_of_mem hmy)).len];exact hpn);have hyo:=HS.out.ok Hok.out y.x (List.mem_map_of_mem hmy);have hys:=hC.sl hmy;have hcy:wr.cell? ⟨g,k,none⟩=some y.u:=by
       have ho:=hC.o;rw [← Hm.out] at ho;have:=World.ownsRow.cellAt ho k (by omega);rw [this];unfold rwc;rw [List.getElem?_map,hy];rfl
      have h3:=fun W (hx:Ext wr W)=>Hcm.out y.x r y.u _ W (hC.x.trans hx) (hx.sl hys) ((HE.out.trans hx).sl Hvs6.out) (by omega) (by have:=Hrln.out;omega);have h4:=fun W (hx:Ext wr W)=>Heq.out y.x r y.u _ W (hx.sl hys) ((HE.out.trans hx).sl Hvs6.out) (by omega) (by have:=Hrln.out;omega);have hce:zhE p y.x r=zgI p y.x r:=(by unfold zhE;rw [if_neg (by simpa using zhD hyo Ho1.out)]);rw [hce] at h3;obtain ⟨ay,cy,ey,_,_,_⟩:=hys.parts;rw [zar,hyl] at ey;rw [ey] at hcy h3 h4;have hk1:(0:Int)≤(k:Int):=(by omega);have hk2:(k:Int)<(m:Int):=(by omega);have hkz:((k:Int) == (m:Int))=false:=beq_eq_false_iff_ne.2 (by omega);generalize zhB p y.x r=te at *;generalize hz9:zgI p y.x r=z at *;have Hcy:=hid hcy;have H3:=hid h3;have H4:=hid h4;have Hgy:=hid hgy;have HC:=hid hC;have Hz9:=hid hz9;have Hy:=hid hy;clear h3 h4 hgy hC hz9 hy;clear hmy hyl hyo hys hce ey;go_wp2_with fail
      refine (H3.out wr (Ext.refl _)).mono ?_;rintro e w7 ⟨rfl,hx7⟩;have Hx7:=hid hx7;clear hx7;clear q1 hcy;by_cases hz:0≤z
      ·have hzd:decide (z ≥ 0)=true:=decide_eq_true hz;have q1:=(HC.out.ext Hx7.out).b.c1;have hcy:=Hx7.out.cell Hcy.out;have h5:=H4.out w7 Hx7.out;generalize he9:decide (y.x=r)=eq at *;have H5:=hid h5;have He9:=hid he9;clear h5 he9;go_wp2_with fail
       refine H5.out.mono ?_;rintro e w8 ⟨rfl,hq8⟩;have Hx8:=hid (Hx7.out.trans hq8.ext);clear hq8 q1 hcy
       cases eq with
       | true =>
        go_wp2_with fail
        go_roundw
        case rel=>exact ⟨i+1,rs,_,by go_num,hin,by omega,hid (HC.out.ext Hx8.out),HS,hid (zoi.ext (HE.out.trans Hx8.out) HB66.out)⟩
        case measure=>simp [zal];omega
       | false =>
        have hne:y.x ≠ r:=of_decide_eq_false He9.out
        have hput:=HS.out.put Hok.out Hrr.out Hgt.out (k:=k) (by rw [List.length_map,← Hm.out];exact hkn) HN.out (by rw [Hgy.out,Hz9.out];exact hz) (by rw [Hgy.out];exact hne)
        have hC8:=HC.out.ext Hx8.out
        have q1:=hC8.b.c1
        have hown8:=hC8.o
        have hcells:∀ j u,(rwc rs)[j]?=some u→w8.cell? ⟨g,0+j,none⟩=some u:=fun j u hu=>by
         have h:=World.ownsRow.cells hown8 (g:=g) rfl j u hu;rwa [show ((⟨g,0,none⟩:Addr).add j)=⟨g,0+j,none⟩ by unfold Addr.add;split <;> simp_all] at h
        have hrw1:(Value.slice av (n+1) cv).oneCell'=true:=rfl
        have hss:(rs.take k++(⟨r,.slice av (n+1) cv,hrw1⟩:Rw)::rs.drop k).map Rw.x=(rs.map Rw.x).take k++r::(rs.map Rw.x).drop k:=by
         rw [List.map_append,List.map_cons,List.map_take,List.map_drop]
        have hsl:(rs.take k++(⟨r,.slice av (n+1) cv,hrw1⟩:Rw)::rs.drop k).length=rs.length+1:=by
         rw [List.length_append,List.length_cons,List.length_take,List.length_drop];have:=Hm.out;omega
        have hrwc:rwc (rs.take k++(⟨r,.slice av (n+1) cv,hrw1⟩:Rw)::rs.drop k)=rwc (rs.take k)++([.slice av (n+1) cv]++rwc (rs.drop k)):=by simp [rwc]
        have hdl:(rwc (rs.drop k)).length=(m - k) * 1:=by rw [zoD,List.length_drop,← Hm.out,Nat.mul_one]
        have htl:(rwc (rs.take k)).length=k * 1:=by rw [zoD,List.length_take,← Hm.out,Nat.mul_one];omega
        have hdc:∀ W,Ext w8 W→∀ j u,(rwc (rs.drop k))[j]?=some u→W.cell? ((⟨g,k,none⟩:Addr).add j)=some u:=fun W hW j u hu=>by
         rw [Addr.add_lit];have:=hW.cell (hcells (k+j) u (by unfold rwc at hu ⊢;rwa [List.map_drop,List.getElem?_drop] at hu));rwa [Nat.zero_add] at this
        have htc:∀ W,Ext w8 W→∀ j u,(rwc (rs.take k))[j]?=some u→W.cell? ((⟨g,0,none⟩:Addr).add j)=some u:=fun W hW j u hu=>by
         rw [Addr.add_lit];refine hW.cell (hcells j u ?_);unfold rwc at hu ⊢;rw [List.map_take] at hu;have hj:j<k:=by
          have h:=(List.getElem?_eq_some_iff.1 hu).1;rw [List.length_take] at h;omega
         rwa [List.getElem?_take_of_lt hj] at hu
        have hd1:=zoE (rs.drop k)
        have hck:¬ cap=k:=by omega
        have hck2:(k:Int)≤(cap:Int):=by omega
        have hkk1:(0:Int)≤(k:Int):=by omega
        have hkm3:(k:Int)≤(m:Int):=by omega
        have hb1:1+(m - k)≤maxLen:=by unfold maxLen;omega
        have hb2:(1+(m - k)) * 24≤140737488355328:=by omega
        have hb3:k+(1+(m - k))≤maxLen:=by unfold maxLen;omega
        have hb4:(k+(1+(m - k))) * 24≤140737488355328:=by omega
        have hf1:1<1+(m - k):=by omega
        have hf2:k<k+(1+(m - k)):=by omega
        have Hput:=hid hput;have Hss:=hid hss;have Hsl:=hid hsl;have Hrwc:=hid hrwc;have Hdl:=hid hdl;have Htl:=hid htl;have Hdc:=hid hdc;have Htc:=hid htc;have Hd1:=hid hd1;clear hput hss hsl hrwc hdl htl hdc htc hd1
        clear hne hC8 hown8 hcells
        go_wp2_with fail
        refine zih 14 (fun w'=>Ext w8 w'∧w'.cell? ⟨w.heap.size+1+1,1,none⟩=some (.slice (some ⟨g,0,none⟩) m cap)) (by kernel_rfl) (⟨(Ext.refl w8).drew,(Ext.refl w8).drew.cell q1⟩) (fun hHeld=>?_)
        refine zid (i:=0) (v:=?v0) rfl (by kernel_rfl) (by kernel_rfl) (by kernel_rfl) (by kernel_rfl) (fun _ _ _ h=>h) (Or.inl ⟨by rfl,?y0⟩) hHeld ?r0
        case y0=>(intro w hSw;(try dsimp only at hSw);go_simp;try with_reducible rfl)
        case r0 =>
        refine zid (i:=1) (v:=?v1) rfl (by kernel_rfl) (by kernel_rfl) (by kernel_rfl) (by kernel_rfl) (fun _ _ _ h=>h) (Or.inl ⟨by rfl,?y1⟩) hHeld ?r1
        case y1=>(intro w hSw;(try dsimp only at hSw);go_simp;try with_reducible rfl)
        case r1 =>
        refine zid (i:=2) (v:=?v2) rfl (by kernel_rfl) (by kernel_rfl) (by kernel_rfl) (by kernel_rfl) (fun _ _ _ h=>h) (Or.inl ⟨by rfl,?y2⟩) hHeld ?r2
        case y2=>(intro w hSw;(try dsimp only at hSw);go_simp;try with_reducible rfl)
        case r2 =>
        refine zid (i:=3) (v:=?v3) rfl (by kernel_rfl) (by kernel_rfl) (by kernel_rfl) (by kernel_rfl) (fun _ _ _ h=>h) (Or.inl ⟨by rfl,?y3⟩) hHeld ?r3
        case y3=>(intro w hSw;(try dsimp only at hSw);go_simp;try with_reducible rfl)
        case r3 =>
        refine zid (i:=4) (v:=?v4) rfl (by kernel_rfl) (by kernel_rfl) (by kernel_rfl) (by kernel_rfl) (fun _ _ _ h=>h) (Or.inl ⟨by rfl,?y4⟩) hHeld ?r4
        case y4=>(intro w hSw;(try dsimp only at hSw);go_simp;try with_reducible rfl)
        case r4 =>
        refine zid (i:=5) (v:=?v5) rfl (by kernel_rfl) (by kernel_rfl) (by kernel_rfl) (by kernel_rfl) (fun _ _ _ h=>h) (Or.inl ⟨by rfl,?y5⟩) hHeld ?r5
        case y5=>(intro w hSw;(try dsimp only at hSw);go_simp;try with_reducible rfl)
        case r5 =>
        refine zid (i:=7) (v:=?v7) rfl (by kernel_rfl) (by kernel_rfl) (by kernel_rfl) (by kernel_rfl) (fun _ _ _ h=>h) (Or.inl ⟨by rfl,?y7⟩) hHeld ?r7
        case y7=>(intro w hSw;(try dsimp only at hSw);go_simp;try with_reducible rfl)
        case r7 =>
        refine zid (i:=8) (v:=?v8) rfl (by kernel_rfl) (by kernel_rfl) (by kernel_rfl) (by kernel_rfl) (fun _ _ _ h=>h) (Or.inl ⟨by rfl,?y8⟩) hHeld ?r8
        case y8=>(intro w hSw;(try dsimp only at hSw);go_simp;try with_reducible rfl)
        case r8 =>
        refine zid (i:=9) (v:=?v9) rfl (by kernel_rfl) (by kernel_rfl) (by kernel_rfl) (by kernel_rfl) (fun _ _ _ h=>h) (Or.inl ⟨by rfl,?y9⟩) hHeld ?r9
        case y9=>(intro w hSw;(try dsimp only at hSw);go_simp;try with_reducible rfl)
        case r9 =>
        refine zid (i:=10) (v:=?v10) rfl (by kernel_rfl) (by kernel_rfl) (by kernel_rfl) (by kernel_rfl) (fun _ _ _ h=>h) (Or.inl ⟨by rfl,?y10⟩) hHeld ?r10
        case y10=>(intro w hSw;(try dsimp only at hSw);go_simp;try with_reducible rfl)
        case r10 =>
        refine zie (i:=6) (by kernel_rfl) rfl (fun K hK=>?_)
        go_simp
        have HX7:=hid ((Ext.refl w8).alloc (.cells #[.slice av (n+1) cv] 33)).drew
        refine hK.out _ _ (⟨HX7.out,HX7.out.cell q1⟩) (fun hHeld=>?_)
        clear hK K
        refine zie (i:=11) (by kernel_rfl) rfl (fun K hK=>?_)
        refine step_append_grows rfl (.tmp 81) (.tmp 85) 29 rfl 33 j0 (.slice none 0 0) 1 24 Tryz.underlying29 hj hy0 hy1 hy2 rfl (by decide) (some ⟨w8.heap.size,0,none⟩) 1 1 [.slice av (n+1) cv] (by rfl) (fun h=>by cases h) rfl (fun b h j u hu=>by cases h;exact (Ext.refl _).drew.cell (cell_one_new w8 _ _ j u hu)) ⟨g,k,none⟩ (m - k) (cap - k) (rwc (rs.drop k)) (by rfl) Hdl.out (Hdc.out _ HX7.out) Hd1.out hf1 hb1 hb2 ?_
        intro v8' V1 ho8 hg8
        obtain ⟨g1,c1,e1,_,_⟩:=zlZ ho8 (by omega)
        subst e1
        have HX8:=hid (HX7.out.grown hg8 (fun r e=>by cases e));have HO8:=hid ho8
        clear ho8 hg8
        refine hK.out _ _ (⟨HX8.out,HX8.out.cell q1⟩) (fun hHeld=>?_)
        clear hK K
        refine zie (i:=12) (by kernel_rfl) rfl (fun K hK=>?_)
        refine step_append_grows rfl (.tmp 79) (.tmp 86) 29 rfl 33 j0 (.slice none 0 0) 1 24 Tryz.underlying29 hj hy0 hy1 hy2 rfl (by decide) (some ⟨g,0,none⟩) k k (rwc (rs.take k)) (by rfl) (fun h=>by cases h) Htl.out (fun b h j u hu=>by cases h;exact Htc.out _ HX8.out j u hu) ⟨g1,0,none⟩ (1+(m - k)) c1 ([.slice av (n+1) cv]++rwc (rs.drop k)) (by rfl) (by rw [List.length_append,Hdl.out,List.length_singleton];omega) (fun j u hu=>World.ownsRow.cells HO8.out (g:=g1) rfl j u hu) (fun u hu=>(List.mem_append.1 hu).elim (fun q=>by rw [List.mem_singleton.1 q];rfl) (fun q=>Hd1.out u q)) hf2 hb3 hb4 ?_
        intro v9' V2 ho9 hg9
        obtain ⟨a9,c9,e9⟩:=zc3 ho9
        subst e9
        have HX9:=hid (HX8.out.grown hg9 (fun r e=>by cases e));have HO9:=hid ho9
        clear ho9 hg9
        refine hK.out _ _ (⟨HX9.out,HX9.out.cell q1⟩) (fun hHeld=>?_)
        clear hK K
        refine zid (i:=13) (v:=?v13) rfl (by kernel_rfl) (by kernel_rfl) (by kernel_rfl) (by kernel_rfl) (fun _ _ _ h=>h) (Or.inl ⟨by rfl,?y13⟩) hHeld ?r13
        case y13=>(intro w hSw;(try dsimp only at hSw);go_simp;try with_reducible rfl)
        case r13 =>
        have hb9:=zoi.ext HX9.out (HC.out.ext Hx8.out).b
        have l1:=hb9.c1
        have lz:=hb9.fz 1
        clear hb9
        refine zif (i:=14) (by kernel_rfl) (by decide) rfl (fun K hK=>?_)
        go_simp
        refine hK.out _ _ ?_
        clear hK K
        refine zig (by kernel_rfl) ?_
        clear l1 lz q1 hHeld
        have hlen9:k+(1+(m - k))=(rs.take k++(⟨r,.slice av (n+1) cv,hrw1⟩:Rw)::rs.drop k).length:=by rw [Hsl.out,← Hm.out];omega
        have hC9:=(HC.out.ext Hx8.out).put (V:=V2) (r:=⟨r,.slice av (n+1) cv,hrw1⟩) (v9:=.slice a9 (k+(1+(m - k))) c9) (ss:=rs.take k++(⟨r,.slice av (n+1) cv,hrw1⟩:Rw)::rs.drop k) (by omega) HX9.out (Hsv6.out.imp id (HE.out.trans Hx8.out).ownI) (by rw [← hlen9,Hrwc.out];exact zam HO9.out HX8.out.size) (fun s hs=>by
         rcases List.mem_append.1 hs with q | q
         ·exact .inr (List.mem_of_mem_take q)
         ·rcases List.mem_cons.1 q with q | q
          ·exact .inl q
          ·exact .inr (List.mem_of_mem_drop q))
        have hB9:zoi 31 (V2.setCell ⟨w.heap.size+1+1,1,none⟩ (.slice a9 (k+(1+(m - k))) c9)) w.heap.size (.slice none 0 0) (.slice none 0 0):=zoi.past1 (zoi.ext ((HE.out.trans Hx8.out).trans HX9.out) HB66.out) 1 (by omega) _
        have HC9:=hid hC9;have HB9:=hid hB9
        have HS9:=hid (show zkk p ((rs.take k++(⟨r,.slice av (n+1) cv,hrw1⟩:Rw)::rs.drop k).map Rw.x) by rw [Hss.out];exact Hput.out)
        clear hC9 hB9 hlen9
        go_wp2_with fail
        go_roundw
        case rel=>exact ⟨i+1,_,_,by go_num,hin,by rw [Hsl.out];omega,HC9,HS9,HB9⟩
        case measure=>simp [zal];omega
      ·have hzd:decide (z ≥ 0)=false:=decide_eq_false hz;have hzl:z<0:=(by omega);have Hzl:=hid hzl;clear hzl;clear hz;go_wp2_with fail
       go_roundw
       case rel =>
        refine ⟨k+1,by go_num,hkn,hid (fun t ht=>?_),hid (HE.out.trans Hx7.out)⟩;rcases Nat.lt_or_ge t k with q | q
        ·exact HN.out t q
        ·obtain rfl:t=k:=by omega
         rw [Hgy.out,Hz9.out];exact Hzl.out
       case measure=>simp [zal];omega
     ·exfalso;have hkm2:k=m:=(by omega);refine HS.out.not_all Hrr.out.hi fun t ht=>HN.out t ?_;rw [List.length_map] at ht;have:=Hm.out;omega
  ·have hiL2:i=L:=(by omega);have hni:¬ (i:Int)<(L:Int):=(by omega);have q0:=HC.out.b.c0;have q1:=HC.out.b.c1;have d0:=HB6.out.c0;have d1:=HB6.out.c1;have z0:=HB6.out.fz 0;have z1:=HB6.out.fz 1;obtain ⟨an,cn,en⟩:=zc3 HC.out.o;subst en;have hb9:=HB6.out.put (.slice ap (n+1) cp) (.slice an rs.length cn);have hd0:=hb9.c0;have hd1:=hb9.c1;have hg9:=(zf7 wr ⟨w.heap.size,0,none⟩ (.slice ap (n+1) cp)).trans (zf7 (wr.setCell ⟨w.heap.size,0,none⟩ (.slice ap (n+1) cp)) ⟨w.heap.size,1,none⟩ (.slice an rs.length cn));have hE9:=(HC.out.x.setCell (p:=⟨w.heap.size,0,none⟩) (Nat.le_refl _) (.slice ap (n+1) cp)).setCell (p:=⟨w.heap.size,1,none⟩) (Nat.le_refl _) (.slice an rs.length cn);have hmat9:Mat ((wr.setCell ⟨w.heap.size,0,none⟩ (.slice ap (n+1) cp)).setCell ⟨w.heap.size,1,none⟩ (.slice an rs.length cn)) (.slice an rs.length cn) (rs.map Rw.x):=by
    have o1:=zf8 HB6.out HC.out.o zoB 0 (.slice ap (n+1) cp);have o2:=zf8 (HB6.out.put0 (.slice ap (n+1) cp)) o1 zoB 1 (.slice an rs.length cn);have hC9:CoS w (w.heap.size+1+1) (.slice ap (n+1) cp) rs (.slice an rs.length cn) ((wr.setCell ⟨w.heap.size,0,none⟩ (.slice ap (n+1) cp)).setCell ⟨w.heap.size,1,none⟩ (.slice an rs.length cn)) :=
     ⟨(HC.out.b.past1 0 (by omega) _).past1 1 (by omega) _,o2,fun s hs=>(HC.out.r s hs).imp id fun q=>zf8 (HB6.out.put0 (.slice ap (n+1) cp)) (zf8 HB6.out q zoC 0 _) zoC 1 _,hE9⟩
    exact hC9.mat
   have Hmat9:=hid hmat9;have HE9:=hid hE9;clear hmat9 hE9;clear hb9 hg9;go_wp2_with fail
   exact bodyPost_ret (v:=.agg #[.slice ap (n+1) cp,.slice an rs.length cn]) (by simp [results,Tryz.results30,go_sem,hd0,hd1]) rfl ⟨_,rfl,_,Hmat9.out,HS.out,by rw [List.length_map];omega,HE9.out⟩
abbrev Q4:=Int × Int × Int × Int
def q4l (e:Q4):List Int:=[e.1,e.2.1,e.2.2.1,e.2.2.2]
def QIn (w:World)(am:Option Addr)(Q:List Q4):Prop:=∀ i e,Q[i]?=some e→∃ bb off,am=some ⟨bb,off,none⟩∧w.cell? ⟨bb,off+i * 4,none⟩=some (.int .i8 e.1)∧w.cell? ⟨bb,off+i * 4+1,none⟩=some (.int .i8 e.2.1)∧w.cell? ⟨bb,off+i * 4+2,none⟩=some (.int .i8 e.2.2.1)∧w.cell? ⟨bb,off+i * 4+3,none⟩=some (.int .i8 e.2.2.2)
theorem QIn.ext {w W:World}{am:Option Addr}{Q:List Q4}(h:QIn w am Q)(hx:Ext w W):QIn W am Q:=fun i e he=>by
 obtain ⟨b,o,h1,h2,h3,h4,h5⟩:=h i e he;exact ⟨b,o,h1,hx.cell h2,hx.cell h3,hx.cell h4,hx.cell h5⟩
def zoG (Q:List Q4):Prop:=∀ e∈Q,∀ z∈q4l e,-128≤z∧z≤127
def ivs (n:Nat)(Q:List Q4):List (List Int):=Q.map fun e=>ivl n (q4l e)
theorem zoH {p:List Int}(e:Q4):Iv p (ivl p.length (q4l e))∧-9≤zas (ivl p.length (q4l e)) 0∧zas (ivl p.length (q4l e)) 0≤9:=by
 have hb:∀ i,-9≤zas (ivl p.length (q4l e)) i∧zas (ivl p.length (q4l e)) i≤9:=fun i=>by
  unfold zas;rw [List.getD_eq_getElem?_getD]
  cases h:(ivl p.length (q4l e))[i]? with
  | none=>simp
  | some z =>
   have hm:=List.mem_of_getElem? h
   unfold ivl at hm
   obtain ⟨k,_,rfl⟩:=List.mem_map.1 hm
   exact zgW _
 exact ⟨⟨zgV _ _,fun i _=>by have:=hb i;omega⟩,(hb 0).1,(hb 0).2⟩
theorem zoI (vp:Value)(am:Option Addr)(cm m:Nat)(p:List Int)(Q:List Q4)(w:World)(hp:Sl w vp (zap p))(hl:p.length≤4)(hQ:QIn w am Q)(hm:Q.length=m)(h8:m≤8)(hb:zoG Q) :
  Calls Tryz.prog 31 #[vp,.slice am m cm] w fun e w'=>∃ v,e=.returned v∧∃ rs,RwM w' w.heap.size w.heap.size v rs∧rs.map Rw.x=ivs p.length Q∧Ext w w':=by
 obtain ⟨j0,hj,hy0,hy1,hy2⟩:=info_parts zmu;have hiv:=fun e (he:e∈Q) W (hE:Ext w W)=>zgY vp p e.1 e.2.1 e.2.2.1 e.2.2.2 W (hE.sl hp) hl (hb e he);have hlen:=fun e:Q4=>zgV p.length (q4l e);obtain ⟨ap,cp,rfl,_,_,_⟩:=hp.parts;rw [zar] at *;have Hiv:=hid hiv;have HQ:=hid hQ;have Hm:=hid hm;have Hlen:=hid hlen;clear hiv hQ hm hlen;clear hp hb;go_enter Tryz.func31,Tryz.ntmps31
 go_wp2_with fail
 go_loopw [5,6] (fun v5 v6 wr=>∃ (i:Nat)(rs:List Rw),v6=.int .i64 i∧i≤m∧Hid (RwM wr w.heap.size w.heap.size v5 rs)∧Hid (rs.map Rw.x=ivs p.length (Q.take i))∧Hid (Ext w wr)) (fun _ v6 _=>m - (zal v6).toNat)
 case atStart=>exact ⟨0,[],rfl,Nat.zero_le _,hid ⟨World.ownsRow_nil _ _ _ 1,fun r h=>by cases h⟩,hid rfl,hid (Ext.refl _)⟩
 case round =>
  obtain ⟨i,rs,rfl,him,HR,HM,HE⟩:=hrel;have hrl:rs.length=i:=by
   have h:=congrArg List.length HM.out;unfold ivs at h;rw [List.length_map,List.length_map,List.length_take,Hm.out] at h;omega
  obtain ⟨a5,c5,e5⟩:=zc3 HR.out.1;subst e5;by_cases hin:i<m
  ·obtain ⟨e,he⟩:∃ e,Q[i]?=some e:=⟨_,List.getElem?_eq_getElem (by rw [Hm.out];exact hin)⟩;obtain ⟨bb,off,rfl,g0,g1,g2,g3⟩:=HQ.out i e he;have k0:=HE.out.cell g0;have k1:=HE.out.cell g1;have k2:=HE.out.cell g2;have k3:=HE.out.cell g3;have h1:=Hiv.out e (List.mem_of_getElem? he) wr HE.out;have hll:=Hlen.out e;have htk:ivs p.length (Q.take (i+1))=ivs p.length (Q.take i)++[ivl p.length (q4l e)]:=by
    obtain ⟨q1,q2⟩:=List.getElem?_eq_some_iff.1 he;unfold ivs;rw [List.take_succ_eq_append_getElem q1,q2,List.map_append];rfl
   have hi8:decide ((i:Int)<8)=true:=decide_eq_true (by omega);have hi9:(i:Int)<8:=(by omega);have hi1:(0:Int)≤(i:Int):=(by omega);have hi2:(i:Int)<(m:Int):=(by omega);unfold q4l at hll htk;generalize e.1=z0 at *;generalize e.2.1=z1 at *;generalize e.2.2.1=z2 at *;generalize e.2.2.2=z3 at *;have Hrl:=hid hrl;have H1:=hid h1;have Hll:=hid hll;have Htk:=hid htk;clear h1 hll htk;clear he g0 g1 g2 g3 hrl;go_wp2_with fail
   refine H1.out.mono ?_;rintro e9 w5 ⟨v,rfl,ho,hx5⟩;have hs9:∃ a c,v=.slice a p.length c:=by
    obtain ⟨a,c,e⟩:=zc3 ho;rw [Hll.out] at e;exact ⟨a,c,e⟩
   obtain ⟨a9,c9,rfl⟩:=hs9;have HR5:=hid (HR.out.ext hx5);have Ho5:=hid (zam ho HE.out.size);have HE5:=hid (HE.out.trans hx5);have hqo:=HR5.out.1;have hm3:rs.length+1≤maxLen:=(by rw [Hrl.out];unfold maxLen;omega);have hm4:(rs.length+1) * 24≤140737488355328:=(by rw [Hrl.out];omega);have hbase:=HE5.out.size;clear ho hx5 k0 k1 k2 k3;go_wp2_with (at_builtin;refine wpList_append_own _ rfl _ _ 29 rfl w.heap.size 33 j0 (.slice none 0 0) 1 24 Tryz.underlying29 hj hy0 hy1 hy2 rfl (by decide) _ _ _ rfl (hqo.alloc _) ⟨w5.heap.size,0,none⟩ 1 1 [.slice a9 p.length c9] rfl rfl (cell_one_new _ _ _) (by simp [Value.oneCell']) hm3 hm4 (by rw [World.size_alloc];omega) ?_;intro v7 V7 hown7 hgrow7 _)
   go_roundw
   case rel =>
    have hmo:=HR5.out.more (r:=⟨ivl p.length [z0,z1,z2,z3],.slice a9 p.length c9,rfl⟩) ⟨Ho5.out,by show (ivl p.length [z0,z1,z2,z3]).length≤1000000;rw [Hll.out];omega⟩ hown7 hgrow7;exact ⟨i+1,rs++[⟨ivl p.length [z0,z1,z2,z3],.slice a9 p.length c9,rfl⟩],by go_num,hin,hid hmo,hid (by rw [Htk.out,List.map_append,HM.out];rfl),hid ((HE5.out.alloc _).grown hgrow7 fun q hq=>(World.ownsRow.lt hqo q hq).1)⟩
   case measure=>simp [zal];omega
  ·have him2:i=m:=(by omega);have hni:¬ (i:Int)<(m:Int):=(by omega);have hM:=HM.out;rw [him2,← Hm.out,List.take_length] at hM;have HM2:=hid hM;clear hM him2 hrl;go_wp2
   go_ret
   exact ⟨_,rfl,rs,HR.out,HM2.out,HE.out⟩
end
section
open Go.RowKit Go.Lib
open Go.RowKit Go.Lib Go.Shelf
theorem zoJ {w:World}{b:Nat}{xs:List Value}{t:TypeId}(h:w.heap[b]?=some (.cells xs.toArray t (0,0)))(hm:xs.length≤maxLen):Sl w (.slice (some ⟨b,0,none⟩) xs.length xs.length) xs:=by
 refine .inr ⟨b,0,xs.length,rfl,Nat.le_refl _,hm,fun i u hu=>?_⟩;unfold World.cell?;rw [h];simpa using hu
theorem zoK {w:World}{b:Nat}{us:List Value}{l:List (List Int)}{t:TypeId}(h:w.heap[b]?=some (.cells us.toArray t (0,0)))(hl:us.length=l.length)(hm:us.length≤maxLen)(hr:∀ i u,us[i]?=some u→Sl w u (zap (l.getD i []))):Mat w (.slice (some ⟨b,0,none⟩) us.length us.length) l :=
 ⟨us,hl,zoJ h hm,hr⟩
theorem zoL {w:World}{b n:Nat}{cs:Array Value}{t:TypeId}(xs:List Value)(h:w.heap[b]?=some (.cells cs t (0,0)))(hx:cs.toList=xs)(hn:xs.length=n)(hm:n≤1000):Sl w (.slice (some ⟨b,0,none⟩) n n) xs:=by
 subst hn;subst hx;exact zoJ (t:=t) h (by unfold maxLen;omega)
def zoM (b:Nat)(rows:List (List Int)):List Obj:=rows.map (fun x=>Obj.cells (zap x).toArray 3 (0,0))++[Obj.cells ((List.range rows.length).map fun i=>Value.slice (some ⟨b+i,0,none⟩) (rows.getD i []).length (rows.getD i []).length).toArray 33 (0,0)]
def zoN (w:World)(rows:List (List Int)):World:=(zoM w.heap.size rows).foldl World.alloc w
theorem zoO (w:World)(rows:List (List Int))(h:rows.length≤1000)(hr:∀ x∈rows,x.length≤1000):Mat (zoN w rows) (.slice (some ⟨w.heap.size+rows.length,0,none⟩) rows.length rows.length) rows∧Ext w (zoN w rows):=by
 refine ⟨?_,zhd w _⟩;have hl:(zoM w.heap.size rows).length=rows.length+1:=by simp [zoM]
 have hb:=zhb (zoM w.heap.size rows) w rows.length (by omega);have e:(zoM w.heap.size rows)[rows.length]?=some (Obj.cells ((List.range rows.length).map fun i=>Value.slice (some ⟨w.heap.size+i,0,none⟩) (rows.getD i []).length (rows.getD i []).length).toArray 33 (0,0)):=by
  unfold zoM;rw [List.getElem?_append_right (by simp)];simp
 rw [e] at hb;have hlen:((List.range rows.length).map fun i=>Value.slice (some ⟨w.heap.size+i,0,none⟩) (rows.getD i []).length (rows.getD i []).length).length=rows.length:=by simp
 have:=zoK (w:=zoN w rows) (l:=rows) hb hlen (by rw [hlen];unfold maxLen;omega) (fun i u hu=>by
  rw [List.getElem?_map] at hu;rcases Nat.lt_or_ge i rows.length with g | g
  ·rw [List.getElem?_range g] at hu;simp only [Option.map_some,Option.some.injEq] at hu;subst hu;have hi:=zhb (zoM w.heap.size rows) w i (by omega);have e2:(zoM w.heap.size rows)[i]?=some (Obj.cells (zap (rows.getD i [])).toArray 3 (0,0)):=by
    unfold zoM;rw [List.getElem?_append_left (by simpa using g),List.getElem?_map,List.getD_eq_getElem?_getD,List.getElem?_eq_getElem g];rfl
   rw [e2] at hi;exact zoL (zap (rows.getD i [])) hi rfl (by rw [zar]) (by
    rw [List.getD_eq_getElem?_getD,List.getElem?_eq_getElem g];exact hr _ (List.getElem_mem g))
  ·rw [List.getElem?_eq_none (by simpa using g)] at hu;cases hu)
 rw [hlen] at this;exact this
end
end Go.Proofs.YtipkdebkdnbieaaGreatDoor
