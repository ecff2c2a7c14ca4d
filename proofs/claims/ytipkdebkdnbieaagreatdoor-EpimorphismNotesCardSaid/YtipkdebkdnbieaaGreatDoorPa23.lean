/- Walk: smith's hermitian: the Hermite form of a grid in its place, step by step as XEpP's outZ. Walks: smith's big and unit: grids made of a matrix, of the units. Walk: smith's unit: the grid of the units. -/
import Derived.Test.YtipkdebkdnbieaaGreatDoorPa22
import Derived.BigRegion
import Derived.Test.YtipkdebkdnbieaaGreatDoorPa01
import Derived.Deep.RegionHeld3
import Derived.Deep.DeepCutAuto
set_option maxRecDepth 100000
set_option maxHeartbeats 8000000
namespace Go.Proofs.YtipkdebkdnbieaaGreatDoor
open Go.RowKit Go.Lib Go.Shelf
def zmL : Option Nat→Value
 | none=>.int .i64 (-1)
 | some k=>.int .i64 (k:Int)
theorem zmM (g:List (List Int))(c top n:Nat):ziW g c top (n+1)=if at2 g (top+n) c=0 then ziW g c top n else match (ziW g c top n).1 with
   | none=>(some (top+n),(ziW g c top n).2)
   | some k=>(some (if (at2 g (top+n) c).natAbs<(at2 g k c).natAbs then top+n else k),true):=rfl
theorem zmN {g:List (List Int)}{c top:Nat}:∀ {n k:Nat}{b:Bool},ziW g c top n=(some k,b)→top≤k∧k<top+n∧at2 g k c ≠ 0
 | 0,k,b,h=>by cases h
 | n+1,k,b,h=>by
  rw [zmM] at h;by_cases h0:at2 g (top+n) c=0
  ·rw [if_pos h0] at h;have:=zmN h;omega
  ·rw [if_neg h0] at h
   cases hs:ziW g c top n with
   | mk o b2 =>
    rw [hs] at h
    cases o with
    | none =>
     simp only [Prod.mk.injEq,Option.some.injEq] at h
     obtain ⟨rfl,_⟩:=h
     exact ⟨by omega,by omega,h0⟩
    | some j =>
     have ih:=zmN hs
     simp only [Prod.mk.injEq,Option.some.injEq] at h
     obtain ⟨h1,_⟩:=h
     split at h1
     ·subst h1;exact ⟨by omega,by omega,h0⟩
     ·subst h1;exact ⟨ih.1,by omega,ih.2.2⟩
theorem zmO {g:List (List Int)}{c top:Nat}:∀ {n:Nat}{b:Bool},ziW g c top n=(none,b)→b=false
 | 0,b,h=>by cases h;rfl
 | n+1,b,h=>by
  rw [zmM] at h;by_cases h0:at2 g (top+n) c=0
  ·rw [if_pos h0] at h;exact zmO h
  ·rw [if_neg h0] at h
   cases hs:ziW g c top n with
   | mk o b2 =>
    rw [hs] at h
    cases o with
    | none=>simp at h
    | some j=>simp at h
theorem zmP {g:List (List Int)}{top c cols:Nat}{r:List (List Int) × Nat}(h:zja 0 g top c cols=some r):False:=by cases h
theorem zmQ {g:List (List Int)}{top c:Nat}{r:List (List Int) × Nat}(h:inZ 0 g top c=some r):False:=by cases h
theorem zmR {n:Nat}{g gF:List (List Int)}{top c cols tF:Nat}(h:zja (n+1) g top c cols=some (gF,tF))(hc:¬ (c<cols∧top<g.length)):g=gF∧top=tF:=by
 unfold zja at h;rw [if_neg hc] at h
 cases h
 exact ⟨rfl,rfl⟩
theorem zmS {n:Nat}{g gF:List (List Int)}{top c cols tF:Nat}(h:zja (n+1) g top c cols=some (gF,tF))(hc:c<cols∧top<g.length):∃ g1 t1,inZ ziL g top c=some (g1,t1)∧zja n g1 t1 (c+1) cols=some (gF,tF):=by
 unfold zja at h;rw [if_pos hc] at h
 cases hh:inZ ziL g top c with
 | none=>rw [hh] at h;cases h
 | some r=>rw [hh] at h;exact ⟨r.1,r.2,rfl,h⟩
theorem zmT {n:Nat}{g g1:List (List Int)}{top c t1:Nat}{o:Option Nat}{b:Bool}(h:inZ (n+1) g top c=some (g1,t1))(hs:ziW g c top (g.length - top)=(o,b)) :
  okG g=true∧((o=none∧g=g1∧top=t1)∨∃ k,o=some k∧okG (swp g top k)=true∧okG (ziY (swp g top k) top c)=true ∧
   ((b=true∧inZ n (ziX (swp g top k) top c (top+1) g.length) top c=some (g1,t1))∨(b=false∧ziZ (swp g top k) top c=g1∧top+1=t1))):=by
 unfold inZ at h;by_cases hok:okG g=true
 ·rw [if_pos hok,hs] at h;refine ⟨hok,?_⟩
  cases o with
  | none =>
   simp only [Option.some.injEq,Prod.mk.injEq] at h
   exact .inl ⟨rfl,h.1,h.2⟩
  | some k =>
   right
   simp only at h
   by_cases h2:okG (swp g top k)=true∧okG (ziY (swp g top k) top c)=true
   ·rw [if_pos h2] at h
    refine ⟨k,rfl,h2.1,h2.2,?_⟩
    cases b with
    | true=>rw [if_pos rfl] at h;exact .inl ⟨rfl,h⟩
    | false =>
     rw [if_neg (by decide)] at h
     simp only [Option.some.injEq,Prod.mk.injEq] at h
     exact .inr ⟨rfl,h.1,h.2⟩
   ·rw [if_neg h2] at h;cases h
 ·rw [if_neg hok] at h;cases h
theorem zmU {g:List (List Int)}{t k:Nat}{r s:List Int}(hr:g[t]?=some r)(hs:g[k]?=some s):(swp g t k)[t]?=some s:=by
 rw [ziF hr hs,zml hr hs];unfold zmj;split
 ·rename_i h;rw [← h] at hs;exact hs
 ·rw [if_pos rfl];exact hs
theorem zmV (W0 w:World)(B gs cap m n cols:Nat)(g0 gF:List (List Int))(tF:Nat)(he:Env W0)(h:GZ W0 B gs cap g0 w)(hm:g0.length=m)(hrec:zmE g0 n)(hn:n≤1000)(hm9:m≤1000)(hcn:cols≤n)(hcap:m≤cap)(hrun:zja 100 g0 0 0 cols=some (gF,tF)) :
  Calls Tryz.prog 110 #[.slice (some ⟨gs,0,none⟩) m cap,.int .i64 cols] w fun e w'=>e=.returned (.slice (some ⟨gs,0,none⟩) tF cap)∧GZ W0 B gs cap gF w'∧tF≤m∧gF.length=m∧zmE gF n:=by
 have H:=hid h;have He:=hid he;have Hrec:=hid hrec;have Hm:=hid hm;have Hrun:=hid hrun;clear h he hrec hm hrun;go_enter Tryz.func110,Tryz.ntmps110
 go_wp2_with fail
 go_loopg [5,6] 100 (fun gk v5 v6 wr=>∃ (g:List (List Int))(top c:Nat),v5=.int .i64 top∧v6=.int .i64 c∧top≤m∧c≤cols∧Hid (g.length=m∧zmE g n)∧Hid (zja gk g top c cols=some (gF,tF))∧Hid (GZ W0 B gs cap g wr))
 case atStart=>exact ⟨g0,0,0,rfl,rfl,Nat.zero_le _,Nat.zero_le _,hid ⟨Hm.out,Hrec.out⟩,Hrun,H⟩
 case round =>
  clear H Hrun Hm Hrec;obtain ⟨g,top,c,rfl,rfl,htm,hcc,HR,HO,HG⟩:=hrel
  cases gk with
  | zero=>exact (zmP HO.out).elim
  | succ fk =>
   by_cases hlt:c<cols∧top<m
   ·obtain ⟨g1,t1,hin,hout⟩:=zmS HO.out (by rw [HR.out.1];exact hlt)
    have HI:=hid hin;have HO2:=hid hout
    obtain ⟨hl1,hl2⟩:=hlt
    have z1:(c:Int)<(cols:Int):=by omega
    have z2:(top:Int)<(m:Int):=by omega
    have hcn2:c<n:=by omega
    clear hin hout HO
    go_wp2_with fail
    obtain ⟨wa,hwa⟩:∃ wa,wa=wr:=⟨_,rfl⟩
    subst hwa
    go_loopg [5] ziL (fun gk2 v5 wi=>∃ g':List (List Int),v5=.int .i64 top∧Hid (g'.length=m∧zmE g' n)∧Hid (inZ gk2 g' top c=some (g1,t1))∧Hid (GZ W0 B gs cap g' wi))
    case atStart=>exact ⟨g,rfl,HR,HI,HG⟩
    case round =>
     clear HR HI HG
     obtain ⟨g',rfl,HR,HI,HG⟩:=hrel
     cases gk with
     | zero=>exact (zmQ HI.out).elim
     | succ f2 =>
      obtain ⟨oF,bF,hsF⟩:∃ o b,ziW g' c top (g'.length - top)=(o,b):=⟨_,_,rfl⟩
      have hnx:=zmT HI.out hsF
      rw [HR.out.1] at hsF
      have Hnx:=hid hnx;have HsF:=hid hsF
      clear hnx hsF HI
      go_wp2_with fail
      obtain ⟨wb,hwb⟩:∃ wb,wb=wr:=⟨_,rfl⟩
      subst hwb
      go_loopw [7,8,9] (fun v7 v8 v9 wj=>∃ (i:Nat)(o:Option Nat)(b:Bool),v7=zmL o∧v8=.bool b∧v9=.int .i64 i∧top≤i∧i≤m∧Hid (ziW g' c top (i - top)=(o,b))∧Hid (Ext wb wj)) (fun _ _ v9 _=>m - (zal v9).toNat)
      case atStart=>exact ⟨top,none,false,rfl,rfl,rfl,Nat.le_refl _,by omega,hid (by rw [Nat.sub_self];rfl),hid (Ext.refl _)⟩
      case round =>
       obtain ⟨i,o,b,rfl,rfl,rfl,hti,him,HS,HE⟩:=hrel
       by_cases hilt:i<m
       ·obtain ⟨r,hr⟩:∃ r,g'[i]?=some r:=⟨_,List.getElem?_eq_getElem (by rw [HR.out.1];exact hilt)⟩
        have hG:=HG.out.ext HE.out
        obtain ⟨gi,ci,a1,a2,_,_⟩:=hG.row hr
        have hrl:=HR.out.2 r (List.mem_of_getElem? hr)
        have a2:=a2 c (by omega)
        rw [hrl] at a1
        have hok:=Hnx.out.1
        have hfz:Fit (zas r c):=zmA (zmB hok hr _ (zc8 (by omega)))
        have hzk:=zb3 (zas r c)
        have hi0:(0:Int)≤(i:Int):=by omega
        have hi1:(i:Int)<(m:Int):=by omega
        have hc0:(0:Int)≤(c:Int):=by omega
        have hc1:(c:Int)<(n:Int):=by omega
        have hsc:=zmM g' c top (i - top)
        rw [show top+(i - top)=i by omega,show i - top+1=i+1 - top by omega,HS.out,zmI hr] at hsc
        by_cases hz0:zas r c=0
        ·rw [if_pos hz0] at hsc
         have Hsc:=hid hsc
         have hq1:((I (zas r c)).toList == [48])=true:=by rw [hzk,decide_eq_true hz0]
         generalize I (zas r c)=sz at *
         clear hsc hzk hz0 hfz hok hrl hG hr
         go_wp2_with fail
         go_roundw
         case rel=>exact ⟨i+1,o,b,rfl,rfl,by go_num,by omega,hilt,Hsc,HE⟩
         case measure=>simp [zal];omega
        ·rw [if_neg hz0] at hsc
         have hq1:((I (zas r c)).toList == [48])=false:=by rw [hzk,decide_eq_false hz0]
         cases o with
         | none =>
          have hb:=zmO HS.out
          subst hb
          have Hsc:=hid hsc
          generalize I (zas r c)=sz at *
          clear hsc hzk hz0 hfz hok hrl hG hr
          unfold zmL
          go_wp2
          go_quiet (fail)
          go_wp2_with fail
          go_roundw
          case rel=>exact ⟨i+1,some i,false,rfl,rfl,by go_num,by omega,hilt,Hsc,hid (HE.out.drewN nq)⟩
          case measure=>simp [zal];omega
         | some k =>
          obtain ⟨hk1,hk2,hk3⟩:=zmN HS.out
          obtain ⟨s,hs⟩:∃ s,g'[k]?=some s:=⟨_,List.getElem?_eq_getElem (by rw [HR.out.1];omega)⟩
          obtain ⟨gq,cq,b1,b2,_,_⟩:=hG.row hs
          have hsl:=HR.out.2 s (List.mem_of_getElem? hs)
          have b2:=b2 c (by omega)
          rw [hsl] at b1
          have hfy:Fit (zas s c):=zmA (zmB hok hs _ (zc8 (by omega)))
          simp only at hsc
          rw [zmI hs] at hsc
          generalize zas r c=z at *
          generalize zas s c=y at *
          have ha1:=fun W=>zd6 z W hfz
          have ha2:=fun W=>zd6 y W hfy
          have hcm:=fun W=>zbV (z.natAbs:Int) (y.natAbs:Int) W (by unfold Fit at *;rwa [Int.natAbs_natCast]) (by unfold Fit at *;rwa [Int.natAbs_natCast])
          have hcv:(z.natAbs<y.natAbs∧zbj (z.natAbs:Int) (y.natAbs:Int)<0)∨(¬ z.natAbs<y.natAbs∧¬ zbj (z.natAbs:Int) (y.natAbs:Int)<0):=by
           rcases Nat.lt_trichotomy z.natAbs y.natAbs with g | g | g
           ·left;rw [zbk (by omega)];omega
           ·right;rw [zbl (by omega)];omega
           ·right;rw [zbm (by omega)];omega
          generalize zbj (z.natAbs:Int) (y.natAbs:Int)=cv at *
          have hk4:(0:Int)≤(k:Int):=by omega
          have hk5:(k:Int)<(m:Int):=by omega
          have hkn:decide ((k:Int)<0)=false:=decide_eq_false (by omega)
          have hkp:¬ (k:Int)<0:=by omega
          have Hsc:=hid hsc;have Ha1:=hid ha1;have Ha2:=hid ha2;have Hcm:=hid hcm;have Hcv:=hid hcv
          clear hsc hzk hz0 hfz hfy hok hrl hsl hG hr hs ha1 ha2 hcm hcv hk3
          generalize I (z.natAbs:Int)=ta at *
          generalize I (y.natAbs:Int)=tb at *
          generalize I z=sa at *
          generalize I y=sb at *
          unfold zmL
          cases b with
          | true =>
           go_wp2
           go_region_held3 (fun w'=>Ext wr w'∧w'.cell? ⟨gs,i,none⟩=some (.slice (some ⟨gi,0,none⟩) n ci)∧w'.cell? ⟨gi,c,none⟩=some (.string sa)∧w'.cell? ⟨gs,k,none⟩=some (.slice (some ⟨gq,0,none⟩) n cq)∧w'.cell? ⟨gq,c,none⟩=some (.string sb))
            (first | exact zm2 ⟨Ext.refl wr,a1,a2,b1,b2⟩ ((Ext.refl wr).drew) | exact zm2 (by assumption) hxa)
            (first
             | (go_at_call 153;refine (Hcm.out _).mono ?_;rintro e9 V4 ⟨rfl,hxa⟩)
             | (go_at_call_of 154 (Value.string sa);refine (Ha1.out _).mono ?_;rintro e9 V4 ⟨rfl,hxa⟩)
             | (go_at_call_of 154 (Value.string sb);refine (Ha2.out _).mono ?_;rintro e9 V4 ⟨rfl,hxa⟩))
           all_goals
            have hx9:=And.left (by assumption:Ext wr V4∧_)
            have HE9:=hid (HE.out.trans hx9)
            rcases Hcv.out with ⟨hlt,hcv⟩ | ⟨hlt,hcv⟩
            ·have hdc:decide (cv<0)=true:=decide_eq_true hcv
             have hn:=Hsc.out
             simp only [if_pos hlt] at hn
             have Hn:=hid hn
             clear hn hlt
             go_wp2_with fail
             go_roundw
             case rel=>exact ⟨i+1,some i,true,rfl,rfl,by go_num,by omega,hilt,Hn,HE9⟩
             case measure=>simp [zal];omega
            ·have hdc:decide (cv<0)=false:=decide_eq_false (by omega)
             have hn:=Hsc.out
             simp only [if_neg hlt] at hn
             have Hn:=hid hn
             clear hn hlt
             go_wp2_with fail
             go_roundw
             case rel=>exact ⟨i+1,some k,true,rfl,rfl,by go_num,by omega,hilt,Hn,HE9⟩
             case measure=>simp [zal];omega
          | false =>
           go_wp2
           go_region_held3 (fun w'=>Ext wr w'∧w'.cell? ⟨gs,i,none⟩=some (.slice (some ⟨gi,0,none⟩) n ci)∧w'.cell? ⟨gi,c,none⟩=some (.string sa)∧w'.cell? ⟨gs,k,none⟩=some (.slice (some ⟨gq,0,none⟩) n cq)∧w'.cell? ⟨gq,c,none⟩=some (.string sb))
            (first | exact zm2 ⟨Ext.refl wr,a1,a2,b1,b2⟩ ((Ext.refl wr).drew) | exact zm2 (by assumption) hxa)
            (first
             | (go_at_call 153;refine (Hcm.out _).mono ?_;rintro e9 V4 ⟨rfl,hxa⟩)
             | (go_at_call_of 154 (Value.string sa);refine (Ha1.out _).mono ?_;rintro e9 V4 ⟨rfl,hxa⟩)
             | (go_at_call_of 154 (Value.string sb);refine (Ha2.out _).mono ?_;rintro e9 V4 ⟨rfl,hxa⟩))
           all_goals
            have hx9:=And.left (by assumption:Ext wr V4∧_)
            have HE9:=hid (HE.out.trans hx9)
            rcases Hcv.out with ⟨hlt,hcv⟩ | ⟨hlt,hcv⟩
            ·have hdc:decide (cv<0)=true:=decide_eq_true hcv
             have hn:=Hsc.out
             simp only [if_pos hlt] at hn
             have Hn:=hid hn
             clear hn hlt
             go_wp2_with fail
             go_roundw
             case rel=>exact ⟨i+1,some i,true,rfl,rfl,by go_num,by omega,hilt,Hn,HE9⟩
             case measure=>simp [zal];omega
            ·have hdc:decide (cv<0)=false:=decide_eq_false (by omega)
             have hn:=Hsc.out
             simp only [if_neg hlt] at hn
             have Hn:=hid hn
             clear hn hlt
             go_wp2_with fail
             go_roundw
             case rel=>exact ⟨i+1,some k,true,rfl,rfl,by go_num,by omega,hilt,Hn,HE9⟩
             case measure=>simp [zal];omega
       ·have him2:i=m:=by omega
        have hso:=HS.out
        rw [him2,HsF.out] at hso
        have hoo:oF=o:=(Prod.mk.inj hso).1
        have hbb:bF=b:=(Prod.mk.inj hso).2
        have hkk:¬ (i:Int)<(m:Int):=by omega
        have hG:=HG.out.ext HE.out
        have HsF2:=HsF
        have Hnx2:=Hnx
        rw [hoo,hbb] at HsF2 Hnx2
        have HG1:=hid hG
        have HHH:=hid him2
        clear hso hoo hbb hG HsF Hnx HG HS him2 hilt
        rcases Hnx2.out.2 with ⟨ho,hg,ht⟩ | ⟨k,ho,hk1,hk2,hk3⟩
        ·have HR1:Hid (g1.length=m∧zmE g1 n):=by rw [← hg];exact HR
         have HG2:Hid (GZ W0 B gs cap g1 wr):=by rw [← hg];exact HG1
         have HO3:Hid (zja fk g1 top (c+1) cols=some (gF,tF)):=by rw [ht];exact HO2
         rw [ho]
         clear ho hg ht HHH HE
         unfold zmL
         go_wp2_with fail
         go_roundg fk
         case measure=>omega
         case rel=>exact ⟨g1,top,c+1,rfl,by go_num,htm,by omega,HR1,HO3,HG2⟩
        ·obtain ⟨hkt,hkm,hknz⟩:=zmN (by rw [← ho];exact HsF2.out)
         have hkm2:k<m:=by omega
         obtain ⟨rt,hrt⟩:∃ r,g'[top]?=some r:=⟨_,List.getElem?_eq_getElem (by rw [HR.out.1];omega)⟩
         obtain ⟨rk,hrk⟩:∃ r,g'[k]?=some r:=⟨_,List.getElem?_eq_getElem (by rw [HR.out.1];omega)⟩
         obtain ⟨gi,ci,gj,cj,a1,b1,hsw⟩:=HG1.out.swap hrt hrk
         rw [HR.out.2 rt (List.mem_of_getElem? hrt)] at a1 hsw
         rw [HR.out.2 rk (List.mem_of_getElem? hrk)] at b1 hsw
         have hfz:=fun t=>HG1.out.frozen t
         have hpiv:at2 (swp g' top k) top c ≠ 0:=by
          rw [zmI (zmU hrt hrk),← zmI hrk];exact hknz
         have hlen2:(swp g' top k).length=m:=by rw [ziG];exact HR.out.1
         have hrec2:zmE (swp g' top k) n:=zmE.swp HR.out.2
         obtain ⟨rp,hrp⟩:∃ r,(swp g' top k)[top]?=some r:=⟨rk,zmU hrt hrk⟩
         have hpv:zas rp c ≠ 0:=by rw [← zmI hrp];exact hpiv
         have hin3:(b=true∧inZ f2 (ziX (swp g' top k) top c (top+1) m) top c=some (g1,t1))∨(b=false∧ziZ (swp g' top k) top c=g1∧top+1=t1):=by rw [← HR.out.1];exact hk3
         have hk4:(0:Int)≤(k:Int):=by omega
         have hk5:(k:Int)<(m:Int):=by omega
         have hkp:¬ (k:Int)<0:=by omega
         have ht4:(0:Int)≤(top:Int):=by omega
         rw [ho]
         have Hsw:=hid hsw;have Hin3:=hid hin3;have Hpiv:=hid hpiv;have Hpv:=hid hpv;have Hrp:=hid hrp;have Hlen2:=hid hlen2;have Hrec2:=hid hrec2;have Hk1:=hid hk1;have Hk2:=hid hk2
         clear hk1 hk2 hk3 hknz hrt hrk hsw hpiv hlen2 hrec2 hrp hpv hin3 ho hkm HHH HE HR Hnx2 HsF2 HG1
         unfold zmL
         go_upto_region 14 with (fail)
         go_cut [] (fun wx=>Hid (GZ W0 B gs cap (swp g' top k) wx))
         case first =>
          rcases Nat.eq_or_lt_of_le hkt with hq | hq
          case' inl =>
           subst hq
           rw [a1] at b1
           injection b1 with b1
           injection b1 with b1 _ b3
           injection b1 with b1
           injection b1 with b1
           subst b1 b3
          case' inr =>
           have hqn:¬ top=k:=by omega
           have hqn2:¬ k=top:=by omega
          all_goals
           go_wp2
           go_region
           have hGZ:=Hsw.out.ext ((Ext.refl _).drew)
           have HGZ:=hid hGZ
           clear hGZ
           go_wp2_with fail
           go_meet
           exact HGZ
         case rest =>
          have HG:=hcut
          clear a1 b1 hfz Hsw hcut
          generalize swp g' top k=g2 at *
          rcases Hin3.out with ⟨rfl,hin2⟩ | ⟨rfl,hfin,ht1⟩
          ·have Hin2:=hid hin2
           clear hin2 Hin3
           go_wp2_with fail
           obtain ⟨wc2,hwc2⟩:∃ wc2,wc2=wc:=⟨_,rfl⟩
           subst hwc2
           go_loopw [10] (fun v10 wj=>∃ i:Nat,v10=.int .i64 i∧top+1≤i∧i≤m∧Hid (GZ W0 B gs cap (ziX g2 top c (top+1) i) wj)) (fun v10 _=>m - (zal v10).toNat)
           case atStart=>exact ⟨top+1,by go_num,Nat.le_refl _,by omega,hid (by rw [zm7];exact HG.out)⟩
           case round =>
            clear HG
            obtain ⟨i,rfl,hti,him,HG⟩:=hrel
            by_cases hit:i<m
            ·obtain ⟨r,hr⟩:∃ r,g2[i]?=some r:=⟨_,List.getElem?_eq_getElem (by have:=Hlen2.out;omega)⟩
             obtain ⟨gi,ci,gt,ct,a1,a2,b1,b2,hdm,htk⟩:=HG.out.pass He.out Hrec2.out hn Hk1.out hr Hrp.out (by omega) hti (by omega) hcn2 Hpv.out
             have hi0:(0:Int)≤(i:Int):=by omega
             have hi1:(i:Int)<(m:Int):=by omega
             have hc0:(0:Int)≤(c:Int):=by omega
             have hc1:(c:Int)<(n:Int):=by omega
             have Hdm:=hid hdm;have Htk:=hid htk
             clear hdm htk hr
             generalize I (fdv (zas r c) (zas rp c))=sq at *
             generalize I (fmd (zas r c) (zas rp c))=sr at *
             generalize I (zas r c)=sa at *
             generalize I (zas rp c)=sb at *
             go_wp2_with fail
             go_region_held3 (fun w'=>Ext wr w'∧w'.cell? ⟨gs,i,none⟩=some (.slice (some ⟨gi,0,none⟩) n ci)∧w'.cell? ⟨gi,c,none⟩=some (.string sa)∧w'.cell? ⟨gs,top,none⟩=some (.slice (some ⟨gt,0,none⟩) n ct)∧w'.cell? ⟨gt,c,none⟩=some (.string sb))
              (first | (with_reducible assumption) | exact ⟨(Ext.refl wr).drew,a1,a2,b1,b2⟩)
              (first
               | (go_at_call 115;refine (Hdm.out _ (And.left (by assumption))).mono ?_;rintro e9 VA ⟨rfl,hxa⟩;have hEA:=((Ext.refl wr).drew).trans hxa;have hS2:Ext wr VA∧VA.cell? ⟨gs,i,none⟩=some (.slice (some ⟨gi,0,none⟩) n ci)∧VA.cell? ⟨gi,c,none⟩=some (.string sa)∧VA.cell? ⟨gs,top,none⟩=some (.slice (some ⟨gt,0,none⟩) n ct)∧VA.cell? ⟨gt,c,none⟩=some (.string sb):=⟨hEA,hEA.cell a1,hEA.cell a2,hEA.cell b1,hEA.cell b2⟩;have HEA:=hid hEA;clear hxa hEA))
             all_goals
              have hxd:=HEA.out.drew
              have e1:=hxd.cell a1
              have e2:=hxd.cell b1
              have htk:=Htk.out _ hxd
              have Htk2:=hid htk
              clear hS2 a1 a2 b1 b2 htk hxd
              go_wp2_with fail
              go_region_law (go_simp;go_at_call 116;refine Htk2.out.mono ?_;rintro e V5 ⟨rfl,hg5⟩;have Hg5:=hid hg5;clear hg5)
              all_goals
               go_wp2_with fail
               go_roundw
               case rel=>exact ⟨i+1,by go_num,by omega,hit,Hg5⟩
               case measure=>simp [zal];omega
            ·have him2:i=m:=by omega
             have HG3:Hid (GZ W0 B gs cap (ziX g2 top c (top+1) m) wr):=by rw [← him2];exact HG
             have hkk:¬ (i:Int)<(m:Int):=by omega
             clear him2 HG
             go_wp2_with fail
             go_roundg f2
             case measure=>omega
             case rel=>exact ⟨_,rfl,hid ⟨by rw [zm6];exact Hlen2.out,Hrec2.out.pas (by rw [Hlen2.out];omega)⟩,Hin2,HG3⟩
          ·have hfc:=zmK W0 wc B gs cap m n top c g2 He.out HG.out Hlen2.out Hrec2.out hn hm9 (by omega) hcn2 Hk1.out Hk2.out Hpiv.out
           rw [hfin] at hfc
           have HO3:Hid (zja fk g1 (top+1) (c+1) cols=some (gF,tF)):=by rw [ht1];exact HO2
           have HR1:Hid (g1.length=m∧zmE g1 n):=hid (by
            rw [← hfin];unfold ziZ;exact ⟨by rw [zm6,zmH];exact Hlen2.out,(Hrec2.out.sgn (by rw [Hlen2.out];omega)).pas (by rw [zmH,Hlen2.out];omega)⟩)
           have Hfc:=hid hfc
           clear hfc hfin ht1 Hin3
           go_wp2_with fail
           refine Hfc.out.mono ?_
           rintro e w5 ⟨rfl,hg5⟩
           have Hg5:=hid hg5
           clear hg5
           go_wp2_with fail
           go_roundg fk
           case measure=>omega
           case rel=>exact ⟨g1,top+1,c+1,by go_num,by go_num,by omega,by omega,HR1,HO3,Hg5⟩
   ·obtain ⟨e1,e2⟩:=zmR HO.out (by rw [HR.out.1];exact hlt)
    have HG2:Hid (GZ W0 B gs cap gF wr):=by rw [← e1];exact HG
    have HR2:Hid (gF.length=m∧zmE gF n):=by rw [← e1];exact HR
    have ht4:(0:Int)≤(top:Int):=by omega
    have ht5:(top:Int)≤(cap:Int):=by omega
    have E2:=hid e2
    clear e1 e2 HO HR HG
    have hcase:¬ c<cols∨(c<cols∧¬ top<m):=by omega
    rcases hcase with q | ⟨q,q2⟩
    ·have z1:¬ (c:Int)<(cols:Int):=by omega
     go_wp2
     go_ret
     exact ⟨by rw [E2.out] <;> rfl,HG2.out,by first | exact htm | (rw [← E2.out];exact htm),HR2.out.1,HR2.out.2⟩
    ·have z1:(c:Int)<(cols:Int):=by omega
     have z2:¬ (top:Int)<(m:Int):=by omega
     go_wp2
     go_ret
     exact ⟨by rw [E2.out] <;> rfl,HG2.out,by first | exact htm | (rw [← E2.out];exact htm),HR2.out.1,HR2.out.2⟩
theorem zmW : (Tryz.prog.info? 129).map (fun i=>(i.zero,i.size,i.bytes))=some (some (.slice none 0 0),1,24):=by kernel_rfl
theorem zmX {w:World}{B E n:Nat}{v:Value}{xs:List Value}(h:w.ownsRow B E 1 v n xs)(hn:0<n):∃ g c,v=.slice (some ⟨g,0,none⟩) n c∧B≤g∧g<w.heap.size:=by
 rcases h.2 with ⟨_,h0⟩ | ⟨g,cap,cur,rfl,_⟩
 ·omega
 ·exact ⟨g,cap,rfl,World.ownsRow.lt h g rfl⟩
theorem GdM.lt {α:Type}{enc:α→List Value}{T TS s:Nat}{w:World}{B:Nat}{v:Value}{ls:List (GR α)}(h:GdM enc T TS s w B v ls){e:GR α}(he:e∈ls):B≤e.g∧e.g<w.heap.size:=World.ownsRow.lt (h.rows e he) e.g rfl
theorem zmY {r:List Int}{j:Nat}(h:j<r.length):zf3 (r.take (j+1))=zf3 (r.take j)++[.string (I (zas r j))]:=by
 rw [List.take_succ_eq_append_getElem h];unfold zf3 zas;rw [List.map_append,List.getD_eq_getElem?_getD,List.getElem?_eq_getElem h];rfl
theorem zmZ (vm:Value)(m:List (List Int))(n:Nat)(w:World)(he:Env w)(hm:Mat w vm m)(hrec:∀ r∈m,r.length=n)(hn0:0<n)(hn:n≤1000)(hml:m.length≤1000)(hb:∀ r∈m,∀ z∈r,-9223372036854775808≤z∧z≤9223372036854775807) :
  Calls Tryz.prog 78 #[vm] w fun e w'=>∃ v,e=.returned v∧∃ ls,GdM zmn 100 129 1 w' w.heap.size v ls∧ls.map GR.x=m∧Ext w w':=by
 obtain ⟨i0,hi,hz0,hz1,hz2⟩:=info_parts zf5;obtain ⟨j0,hj,hy0,hy1,hy2⟩:=info_parts zmW;obtain ⟨vs,hvl,hvs,hrows⟩:=hm;have hof:=fun (z:Int)(h0:-9223372036854775808≤z)(h1:z≤9223372036854775807) W (hE:Ext w W)=>zaQ z h0 h1 W (he.ext hE);obtain ⟨am,cm,rfl,_,_,hc⟩:=hvs.parts;rw [hvl];generalize hl:m.length=k0 at *;have Hc:=hid hc;have Hrows:=hid hrows;have Hrec:=hid hrec;have Hb:=hid hb;have Hof:=hid hof;have Hl:=hid hl;have Hvl:=hid hvl;clear hc hrows hrec hb hof hl hvl hvs he;go_enter Tryz.func78,Tryz.ntmps78
 go_wp2_with fail
 go_loopw [11,3] (fun v11 v3 wr=>∃ (k:Nat)(ls:List (GR Int)),v11=.int .i64 k∧k≤k0∧Hid (GdM zmn 100 129 1 wr w.heap.size v3 ls)∧Hid (ls.map GR.x=m.take k)∧Hid (Ext w wr)) (fun v11 _ _=>k0 - (zal v11).toNat)
 case atStart=>exact ⟨0,[],rfl,Nat.zero_le _,hid (GdM.nil _ _),hid rfl,hid (Ext.refl _)⟩
 case round =>
  obtain ⟨k,ls,rfl,hk,HG,HM,HE⟩:=hrel;by_cases hkk:k<k0
  ·obtain ⟨r,hr⟩:∃ r,m[k]?=some r:=⟨_,List.getElem?_eq_getElem (by have:=Hl.out;omega)⟩;obtain ⟨u,hu⟩:∃ u,vs[k]?=some u:=⟨_,List.getElem?_eq_getElem (by rw [Hvl.out];exact hkk)⟩;obtain ⟨b,off,rfl,hcu⟩:=Hc.out k u hu;have hru:=Hrows.out k u hu;rw [List.getD_eq_getElem?_getD,hr] at hru;simp only [Option.getD_some] at hru;have hrl:=Hrec.out r (List.mem_of_getElem? hr);obtain ⟨ar,cr,rfl,_,_,hcr⟩:=hru.parts;have hil:(zap r).length=n:=(by unfold zap;rw [List.length_map];exact hrl);rw [hil] at hcu;have hcw:=HE.out.cell hcu;have hk1:(0:Int)≤(k:Int):=(by omega);have hk2:(k:Int)<(k0:Int):=(by omega);have hll:ls.length=k:=by
    have:=congrArg List.length HM.out;rw [List.length_map,List.length_take,Hl.out] at this;omega
   have Hcr:=hid hcr;have Hr:=hid hr;have Hrl:=hid hrl;have Hll:=hid hll;clear hcr hr hrl hll hcu hru hil hu;go_wp2_with fail
   obtain ⟨wb,hwb⟩:∃ wb,wb=wr:=⟨_,rfl⟩;subst hwb;go_loopw [17,6] (fun v17 v6 wj=>∃ j:Nat,v17=.int .i64 j∧j≤n∧wj.ownsRow wb.heap.size 100 1 v6 j (zf3 (r.take j))∧Ext wb wj) (fun v17 _ _=>n - (zal v17).toNat)
   case atStart=>exact ⟨0,rfl,Nat.zero_le _,World.ownsRow_nil _ _ _ 1,Ext.refl _⟩
   case round =>
    clear hcw;obtain ⟨j,rfl,hjn,ho,hE⟩:=hrel;obtain ⟨a6,c6,rfl⟩:=zc3 ho;have hEw:=HE.out.trans hE;by_cases hjj:j<n
    ·have hjr:j<r.length:=(by rw [Hrl.out];exact hjj);obtain ⟨b2,o2,rfl,hcj⟩:=Hcr.out j (.int .i64 (zas r j)) (by unfold zap zas;rw [List.getElem?_map,List.getElem?_eq_getElem hjr,List.getD_eq_getElem?_getD,List.getElem?_eq_getElem hjr];rfl);have hcj2:=hEw.cell hcj;have hzb:=Hb.out r (List.mem_of_getElem? Hr.out) (zas r j) (zc8 hjr);have hofj:=Hof.out (zas r j) hzb.1 hzb.2 wr hEw;have hst:=zmY hjr;generalize zas r j=z at *;have hj1:(0:Int)≤(j:Int):=(by omega);have hj2:(j:Int)<(n:Int):=(by omega);have Hofj:=hid hofj;have Hst:=hid hst;have Ho:=hid ho;have HE2:=hid hE;have hm3:j+1≤maxLen:=(by unfold maxLen;omega);have hm4:(j+1) * 16≤140737488355328:=(by omega);clear hofj hst ho hE hEw hzb hjr hcj;go_wp2_with fail
     refine Hofj.out.mono ?_;rintro e VB ⟨rfl,hxa⟩;have hqo:=hxa.own Ho.out;have hbase:=(HE2.out.trans hxa).size;have HEB:=hid (HE2.out.trans hxa);clear hxa;go_wp2_with (at_builtin;refine wpList_append_own _ rfl _ _ 129 rfl wb.heap.size 100 i0 (.string ByteArray.empty) 1 16 Tryz.underlying129 hi hz0 hz1 hz2 rfl (by decide) _ _ _ rfl (hqo.alloc _) ⟨VB.heap.size,0,none⟩ 1 1 [.string (I z)] rfl rfl (cell_one_new _ _ _) (by simp [Value.oneCell']) hm3 hm4 (by rw [World.size_alloc];omega) ?_;intro v7 V7 hown7 hgrow7 _)
     go_roundw
     case rel=>exact ⟨j+1,by go_num,hjj,by rw [Hst.out];exact hown7,(HEB.out.alloc _).grown hgrow7 fun q hq=>(World.ownsRow.lt hqo q hq).1⟩
     case measure=>simp [zal];omega
    ·have hjn2:j=n:=(by omega);have ho2:=ho;rw [hjn2,show r.take n=r by rw [← Hrl.out];exact List.take_length] at ho2;obtain ⟨g,cg,eg,hg1,hg2⟩:=zmX ho2 hn0;injection eg with eg1 _ eg2;subst eg1 eg2;have hG:=HG.out.ext hE;have hne:∀ f∈ls,f.g ≠ g:=fun f hf=>by
      have:=(HG.out.lt hf).2;omega
     have hsz:=(HE.out).size;have hrow:wr.ownsRow w.heap.size 100 1 (GR.u ⟨g,c6,r⟩) r.length (r.flatMap zmn):=by
      unfold GR.u;rw [zmp,show (GR.mk g c6 r).x=r from rfl,Hrl.out];exact zam ho2 hsz
     obtain ⟨a3,c3,e3⟩:=zc3 hG.own;subst e3;have hm3:k+1≤maxLen:=(by unfold maxLen;omega);have hm4:(k+1) * 24≤140737488355328:=(by omega);have hqo:=hG.own;rw [Hll.out] at hqo ⊢;have hbase:w.heap.size≤wr.heap.size:=hEw.size;have HG2:=hid hG;have Hrow:=hid hrow;have Hne:=hid hne;have HEw:=hid hEw;have Hjn:=hid hjn2;clear hG hrow hne hEw ho ho2 hE hjn2;go_wp2_with (at_builtin;refine wpList_append_own _ rfl _ _ 126 rfl w.heap.size 129 j0 (.slice none 0 0) 1 24 Tryz.underlying126 hj hy0 hy1 hy2 rfl (by decide) _ _ _ rfl (hqo.alloc _) ⟨wr.heap.size,0,none⟩ 1 1 [.slice (some ⟨g,0,none⟩) j c6] rfl rfl (cell_one_new _ _ _) (by simp [Value.oneCell']) hm3 hm4 (by rw [World.size_alloc];omega) ?_;intro v7 V7 hown7 hgrow7 _)
     go_roundw
     case rel =>
      have hown7':V7.ownsRow w.heap.size 129 1 v7 (ls.length+1) (ls.map GR.u++[GR.u ⟨g,c6,r⟩]):=by
       rw [Hll.out];unfold GR.u;rw [show (GR.mk g c6 r).x=r from rfl,Hrl.out,← Hjn.out];exact hown7
      have hmo:=HG2.out.more (e:=⟨g,c6,r⟩) zm3 Hrow.out Hne.out hown7' (by rw [Hll.out] <;> exact hgrow7)
      refine ⟨k+1,ls++[⟨g,c6,r⟩],by go_num,hkk,hid hmo,hid ?_,hid ((HEw.out.alloc _).grown hgrow7 fun q hq=>(World.ownsRow.lt hqo q hq).1)⟩;obtain ⟨h1,h2⟩:=List.getElem?_eq_some_iff.1 Hr.out;rw [List.map_append,HM.out,List.take_succ_eq_append_getElem h1,h2];rfl
     case measure=>simp [zal];omega
  ·have hkl:k=k0:=(by omega);have hkk2:¬ (k:Int)<(k0:Int):=(by omega);have hM:=HM.out;rw [hkl,← Hl.out,List.take_length] at hM;have HM2:=hid hM;clear hM hkl;go_wp2
   go_ret
   exact ⟨_,rfl,ls,HG.out,HM2.out,HE.out⟩
theorem zna {w:World}{B g n:Nat}{v z:Value}(hB:B≤g)(h:w.heap[g]?=some (.cells (zlc n n v z).toArray 100 (0,0)))(hn:n≤1000):w.ownsRow B 100 1 (.slice (some ⟨g,0,none⟩) n n) n (List.replicate n v):=by
 have e:zlc n n v z=List.replicate n v:=by unfold zlc;rw [Nat.sub_self];simp
 rw [e] at h;refine ⟨by simp,.inr ⟨g,n,_,rfl,hB,h,Nat.le_refl _,by unfold maxLen;omega,by simp,?_⟩⟩;simp
theorem znb (n:Nat):zf3 (List.replicate n 0)=List.replicate n (.string (I 0)):=by unfold zf3;rw [List.map_replicate]
theorem znc : (Value.string ⟨#[49]⟩)=.string (I 1):=congrArg Value.string (by decide +kernel)
theorem znd : (Value.string ⟨#[48]⟩)=.string (I 0):=congrArg Value.string (by decide +kernel)
theorem zne (n:Nat)(w:World)(hn0:0<n)(hn:n≤1000) :
  Calls Tryz.prog 109 #[.int .i64 n] w fun e w'=>∃ v,e=.returned v∧∃ ls,GdM zmn 100 129 1 w' w.heap.size v ls∧ls.map GR.x=zjc n∧Ext w w':=by
 obtain ⟨j0,hj,hy0,hy1,hy2⟩:=info_parts zmW;have hrep:=fun (b:Nat) W (hc:W.cell? ⟨b,0,none⟩=some (.string ⟨#[48]⟩))=>zlj b (.string ⟨#[48]⟩) (.string ByteArray.empty) rfl rfl n W hn hn0 hc;have Hrep:=hid hrep;clear hrep;go_enter Tryz.func109,Tryz.ntmps109
 go_wp2_with fail
 go_loopw [7,3] (fun v7 v3 wr=>∃ (k:Nat)(ls:List (GR Int)),v7=.int .i64 k∧k≤n∧Hid (GdM zmn 100 129 1 wr w.heap.size v3 ls)∧Hid (ls.map GR.x=(zjc n).take k)∧Hid (Ext w wr)) (fun v7 _ _=>n - (zal v7).toNat)
 case atStart=>exact ⟨0,[],rfl,Nat.zero_le _,hid (GdM.nil _ _),hid rfl,hid (Ext.refl _)⟩
 case round =>
  obtain ⟨k,ls,rfl,hk,HG,HM,HE⟩:=hrel;by_cases hkk:k<n
  ·have hk1:(0:Int)≤(k:Int):=(by omega);have hk2:(k:Int)<(n:Int):=(by omega);have hul:(zjc n).length=n:=(by unfold zjc;simp);have hll:ls.length=k:=by
    have:=congrArg List.length HM.out;rw [List.length_map,List.length_take,hul] at this;omega
   have hc0:=cell_one_new wr (.string ⟨#[48]⟩) 129;have hb0:(wr.alloc (.cells #[.string ⟨#[48]⟩] 100)).cell? ⟨wr.heap.size,0,none⟩=some (.string ⟨#[48]⟩):=(by unfold World.cell?;dsimp only;rw [World.alloc_heap_new wr _];rfl);obtain ⟨a3,c3,e3⟩:=zc3 HG.out.own;subst e3;rw [hll];have Hll:=hid hll;have Hul:=hid hul;have hr0:=Hrep.out wr.heap.size _ hb0;have Hr0:=hid hr0;clear hll hul hc0 hb0 hr0;go_wp2_with fail
   refine Hr0.out.mono ?_;rintro e w2 ⟨rfl,hb2,hx2⟩;have hxa:Ext wr (wr.alloc (.cells #[.string ⟨#[48]⟩] 100)):=(Ext.refl wr).alloc _;have hgs:wr.heap.size≤(wr.alloc (.cells #[.string ⟨#[48]⟩] 100)).heap.size:=hxa.size;have ho2:=zna hgs hb2 hn;obtain ⟨g,hg⟩:∃ g,g=(wr.alloc (.cells #[.string ⟨#[48]⟩] 100)).heap.size:=⟨_,rfl⟩;rw [← hg] at ho2 hgs ⊢;have hx02:=hxa.trans hx2;have hcell:=zlq ho2 (j:=k) (u:=.string ⟨#[48]⟩) (by rw [List.getElem?_replicate,if_pos hkk]);have hfz:=World.ownsRow.frozenAt ho2 k;have hst:=World.ownsRow.stored ho2 k (.string ⟨#[49]⟩);have hwE:Ext wr (w2.setCell ⟨g,k,none⟩ (.string ⟨#[49]⟩)):=hx02.grown hst.2 fun q hq=>by cases hq;exact hgs
   have Hst:=hid hst;have HwE:=hid hwE;have Hgs:=hid hgs;clear hb2 hx2 hxa ho2 hg hx02 hst hwE hgs;have hm3:k+1≤maxLen:=(by unfold maxLen;omega);have hm4:(k+1) * 24≤140737488355328:=(by omega);go_upto_region 7 with (fail)
   generalize w2.setCell ⟨g,k,none⟩ (.string ⟨#[49]⟩)=W3 at *;have ho3:=Hst.out.1;rw [znd,znc,← znb,zlp] at ho3;have hlen:((List.replicate n (0:Int)).set k 1).length=n:=(by rw [List.length_set,List.length_replicate]);have hG:=HG.out.ext HwE.out;have hne:∀ f∈ls,f.g ≠ g:=fun f hf=>by
    have:=(HG.out.lt hf).2;have:=Hgs.out;omega
   have hrow:W3.ownsRow w.heap.size 100 1 (GR.u ⟨g,n,(List.replicate n (0:Int)).set k 1⟩) (GR.mk g n ((List.replicate n (0:Int)).set k 1)).x.length ((GR.mk g n ((List.replicate n (0:Int)).set k 1)).x.flatMap zmn):=by
    unfold GR.u;rw [zmp,show (GR.mk g n ((List.replicate n (0:Int)).set k 1)).x=(List.replicate n (0:Int)).set k 1 from rfl,hlen];exact zam ho3 HE.out.size
   have hqo:=hG.own;rw [Hll.out] at hqo;have hbase:w.heap.size≤W3.heap.size:=(HE.out.trans HwE.out).size;have HG2:=hid hG;have Hrow:=hid hrow;have Hne:=hid hne;have HEw:=hid (HE.out.trans HwE.out);have Hlen:=hid hlen;clear hG hrow hne ho3 hlen hcell hfz;go_wp2_with (at_builtin;refine wpList_append_own _ rfl _ _ 126 rfl w.heap.size 129 j0 (.slice none 0 0) 1 24 Tryz.underlying126 hj hy0 hy1 hy2 rfl (by decide) _ _ _ rfl (hqo.alloc _) ⟨W3.heap.size,0,none⟩ 1 1 [.slice (some ⟨g,0,none⟩) n n] rfl rfl (cell_one_new _ _ _) (by simp [Value.oneCell']) hm3 hm4 (by rw [World.size_alloc];omega) ?_;intro v7 V7 hown7 hgrow7 _)
   go_roundw
   case rel =>
    have hown7':V7.ownsRow w.heap.size 129 1 v7 (ls.length+1) (ls.map GR.u++[GR.u ⟨g,n,(List.replicate n (0:Int)).set k 1⟩]):=by
     rw [Hll.out];unfold GR.u;rw [show (GR.mk g n ((List.replicate n (0:Int)).set k 1)).x=(List.replicate n (0:Int)).set k 1 from rfl,Hlen.out];exact hown7
    have hmo:=HG2.out.more (e:=⟨g,n,(List.replicate n (0:Int)).set k 1⟩) zm3 Hrow.out Hne.out hown7' (by rw [Hll.out] <;> exact hgrow7)
    refine ⟨k+1,ls++[⟨g,n,(List.replicate n (0:Int)).set k 1⟩],by go_num,hkk,hid hmo,hid ?_,hid ((HEw.out.alloc _).grown hgrow7 fun q hq=>(World.ownsRow.lt hqo q hq).1)⟩;rw [List.map_append,HM.out,List.take_succ_eq_append_getElem (by rw [Hul.out];exact hkk)];congr 1;unfold zjc;rw [List.getElem_map,List.getElem_range];rfl
   case measure=>simp [zal];omega
  ·have hkl:k=n:=(by omega);have hkk2:¬ (k:Int)<(n:Int):=(by omega);have hM:=HM.out;rw [hkl,List.take_of_length_le (by unfold zjc;simp)] at hM;have HM2:=hid hM;clear hM hkl;go_wp2
   go_ret
   exact ⟨_,rfl,ls,HG.out,HM2.out,HE.out⟩
end Go.Proofs.YtipkdebkdnbieaaGreatDoor
