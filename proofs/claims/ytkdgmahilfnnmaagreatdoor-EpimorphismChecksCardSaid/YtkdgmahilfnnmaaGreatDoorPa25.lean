/- Walks: law 37's few and check. (KEEPALL) Walk: the law EpimorphismChecks. (KEEPALL) A set of intervals that came in, read: its primes and its rows. (KEEPALL) What the rows' condition gives the walks, and the last step of a law (the seat of chapters 31 and 32). -/
import Derived.Test.YtkdgmahilfnnmaaGreatDoorPa24
import Derived.Test.YtkdgmahilfnnmaaGreatDoorPa14
import Derived.Deep.RegionHeld3
import Derived.Test.YtkdgmahilfnnmaaGreatDoorPa11
import Derived.ChangeSlices
import Derived.WideShapes
import Derived.ChangeShapes
import Derived.ChangeSame
import Derived.DataReads
import Derived.Deep.Matrix
import Derived.Test.YtkdgmahilfnnmaaGreatDoorPa00
import Derived.Below
import Derived.OpenShut
import Derived.LaidMore
import Derived.ProofKit
import Derived.Stop.Joined
import Derived.Laws.IdiomArrays
import Derived.Test.YtkdgmahilfnnmaaGreatDoorRows
import Derived.Test.YtkdgmahilfnnmaaGreatDoorTie
import Derived.Test.YtkdgmahilfnnmaaGreatDoorCards
import Derived.Handy
import Derived.Lay
import Derived.SevenTiedAt
import Derived.Stop.LaidErr
import Derived.Carry
set_option maxRecDepth 100000
set_option maxHeartbeats 4000000
namespace Go.Proofs.YtkdgmahilfnnmaaGreatDoor
section
open Go.RowKit Go.Lib Go.Shelf
def zoe (l:List (List Int)):Bool:=l.all (fun r=>decide (r.length≤8)) && (decide (l.length≤9) || (decide (60≤l.length) && decide (l.length≤62)))
theorem zof {l:List (List Int)}{k:Nat}(hk:k<l.length)(h:¬ (l.getD k []).length≤8):zoe l=false:=by
 unfold zoe;have:l.all (fun r=>decide (r.length≤8))=false:=by
  rw [List.all_eq_false];refine ⟨l.getD k [],?_,by rw [decide_eq_false h];exact Bool.false_ne_true⟩;rw [List.getD_eq_getElem?_getD,List.getElem?_eq_getElem hk];exact List.getElem_mem _
 rw [this];rfl
theorem zog {l:List (List Int)}(h:∀ k,k<l.length→(l.getD k []).length≤8):zoe l=(decide (l.length≤9) || (decide (60≤l.length) && decide (l.length≤62))):=by
 unfold zoe;have:l.all (fun r=>decide (r.length≤8))=true:=by
  rw [List.all_eq_true];intro r hr;obtain ⟨k,hk⟩:=List.mem_iff_getElem?.1 hr;have:=h k (List.getElem?_eq_some_iff.1 hk).1;rw [List.getD_eq_getElem?_getD,hk] at this;exact decide_eq_true this
 rw [this,Bool.true_and]
theorem zoh {l:List (List Int)}(h:zoe l=true):l.length≤62∧∀ i,(l.getD i []).length≤8:=by
 unfold zoe at h;rw [Bool.and_eq_true] at h;refine ⟨?_,fun i=>?_⟩
 ·have:=h.2;rw [Bool.or_eq_true,Bool.and_eq_true] at this;rcases this with q | ⟨q,q2⟩
  ·have:=of_decide_eq_true q;omega
  ·exact of_decide_eq_true q2
 ·rw [List.getD_eq_getElem?_getD]
  cases hg:l[i]? with
  | none=>exact Nat.zero_le _
  | some r=>exact of_decide_eq_true (List.all_eq_true.1 h.1 r (List.mem_of_getElem? hg))
theorem zoi (vl:Value)(l:List (List Int))(w:World)(hl:Mat w vl l)(hll:l.length≤9223372036854775807) :
  Calls Tryz.prog 12 #[vl] w fun e w'=>e=.returned (.bool (zoe l))∧w=w':=by
 obtain ⟨vs,hvl,hvs,hrows⟩:=hl;obtain ⟨am,cm,rfl,_,_,hcm⟩:=hvs.parts;rw [hvl];have hfb:=fun k (hk:k<l.length) h=>zof (l:=l) (k:=k) hk h;have hfg:=zog (l:=l);have Hcm:=Lib.hid hcm;have Hrows:=Lib.hid hrows;have Hvl:=Lib.hid hvl;have Hfb:=Lib.hid hfb;have Hfg:=Lib.hid hfg;clear hcm hrows hvl hfb hfg;clear hvs;go_enter Tryz.func12,Tryz.ntmps12
 go_wp2_with fail
 go_loop [3] (fun v3=>∃ k:Nat,v3=.int .i64 k∧k≤l.length∧Hid (∀ i,i<k→(l.getD i []).length≤8)) (fun v3=>l.length - (za6 v3).toNat)
 case atStart=>exact ⟨0,rfl,Nat.zero_le _,Lib.hid (fun i hi=>by omega)⟩
 case round =>
  obtain ⟨k,rfl,hk,HN⟩:=hrel;by_cases hkn:k<l.length
  ·obtain ⟨u,hu⟩:∃ u,vs[k]?=some u:=⟨_,List.getElem?_eq_getElem (by rw [Hvl.out];exact hkn)⟩;obtain ⟨bl,off,rfl,hcu⟩:=Hcm.out k u hu;have hru:=Hrows.out k u hu;obtain ⟨ax,cx,rfl,_,_,_⟩:=hru.parts;rw [zaC] at hcu;have hbad:=fun h=>Hfb.out k hkn h;have hk1:(0:Int)≤(k:Int):=(by omega);have hk2:(k:Int)<(l.length:Int):=(by omega);obtain ⟨m,hm⟩:∃ m,m=(l.getD k []).length:=⟨_,rfl⟩;rw [← hm] at hcu hbad;have Hm:=Lib.hid hm;have Hbad:=Lib.hid hbad;clear hm hbad;clear hru hu;by_cases h8:m≤8
   ·have hd:decide ((m:Int) > 8)=false:=decide_eq_false (by omega);go_wp2_with fail
    go_round
    case rel =>
     refine ⟨k+1,by go_num,hkn,Lib.hid (fun i hi=>?_)⟩;rcases Nat.lt_or_ge i k with q | q
     ·exact HN.out i q
     ·obtain rfl:i=k:=by omega
      rw [← Hm.out];exact h8
    case measure=>simp [za6];omega
   ·have hd:decide ((m:Int) > 8)=true:=decide_eq_true (by omega);have hb:=Hbad.out h8;have Hb:=Lib.hid hb;clear hb;go_wp2
    go_ret
    exact ⟨by rw [Hb.out] <;> rfl,rfl⟩
  ·have hkl:k=l.length:=(by omega);subst hkl;have hg:=Hfg.out HN.out;have hnk:¬ (l.length:Int)<(l.length:Int):=(by omega);have Hg:=Lib.hid hg;clear hg;generalize l.length=L at *;by_cases h9:L≤9
   ·have e1:decide ((L:Int)≤9)=true:=decide_eq_true (by omega);go_wp2
    go_ret
    exact ⟨by rw [Hg.out,decide_eq_true h9] <;> rfl,rfl⟩
   ·have e1:decide ((L:Int)≤9)=false:=decide_eq_false (by omega);by_cases h60:60≤L
    ·have e2:decide ((L:Int) ≥ 60)=true:=decide_eq_true (by omega);by_cases h62:L≤62
     ·have e3:decide ((L:Int)≤62)=true:=decide_eq_true (by omega);go_wp2
      go_ret
      exact ⟨by rw [Hg.out,decide_eq_false h9,decide_eq_true h60,decide_eq_true h62] <;> rfl,rfl⟩
     ·have e3:decide ((L:Int)≤62)=false:=decide_eq_false (by omega);go_wp2
      go_ret
      exact ⟨by rw [Hg.out,decide_eq_false h9,decide_eq_true h60,decide_eq_false h62] <;> rfl,rfl⟩
    ·have e2:decide ((L:Int) ≥ 60)=false:=decide_eq_false (by omega);go_wp2
     go_ret
     exact ⟨by rw [Hg.out,decide_eq_false h9,decide_eq_false h60] <;> rfl,rfl⟩
theorem zoj (p:List Int)(l:List (List Int))(i n:Nat):ziJ p l i (n+1)=if zhe p (l.getD i []) ≠ 0 then zhe p (l.getD i []) else if (if i=0 then zhv p (l.getD i []) else ziC p (l.getD i []) (l.getD (i - 1) []))≤0 then 6 else ziJ p l (i+1) n:=rfl
theorem zok (vp vl:Value)(p:List Int)(l:List (List Int))(w:World)(h:znU w vp vl p l) :
  Calls Tryz.prog 13 #[.agg #[vp,vl]] w fun e w'=>e=.returned (.int .i64 (ziK p l))∧Ext w w':=by
 have hll:=h.fl;have hpr:=fun W (hE:Ext w W)=>zcH vp p W (hE.sl h.sp) (by have:=h.fp;omega);have hck:=fun k u W (hE:Ext w W)(hu:Sl W u (zaA (l.getD k [])))=>zhf vp u p (l.getD k []) W (hE.sl h.sp) hu (by have:=h.fp;omega) (by have:=h.fr k;omega);have hsg:=fun k u W (hE:Ext w W)(hu:Sl W u (zaA (l.getD k [])))=>zhw vp u p (l.getD k []) W (h.e.ext hE) (hE.sl h.sp) hu (by have:=h.fp;omega) (by have:=h.fr k;omega);have hcm:=fun k j u v W (hE:Ext w W)(hu:Sl W u (zaA (l.getD k [])))(hv:Sl W v (zaA (l.getD j [])))=>ziV vp u v p (l.getD k []) (l.getD j []) W (h.e.ext hE) (hE.sl h.sp) hu hv (by have:=h.fp;omega) (by have:=h.fr k;omega) (by have:=h.fr j;omega);obtain ⟨vs,hvl,hvs,hrows⟩:=h.sl;obtain ⟨ap,cp,e1,_,_,_⟩:=h.sp.parts;obtain ⟨am,cm,e2,_,_,hc⟩:=hvs.parts;rw [zaC] at e1;rw [hvl] at e2;subst e1 e2;have hb:=zmX.new 32 w (.slice ap p.length cp) (.slice am l.length cm);have hE0:Ext w (w.alloc (.cells #[.slice ap p.length cp,.slice am l.length cm] 32)):=(Ext.refl w).alloc _;have q0:=hb.c0;have q1:=hb.c1;have hstep:=fun i n=>zoj p l i n;clear hvs h;generalize p.length=n at *;generalize hL:l.length=L at *;have Hpr:=Lib.hid hpr;have Hck:=Lib.hid hck;have Hsg:=Lib.hid hsg;have Hcm:=Lib.hid hcm;have Hb:=Lib.hid hb;have HE0:=Lib.hid hE0;have Hc:=Lib.hid hc;have Hrows:=Lib.hid hrows;have Hvl:=Lib.hid hvl;have Hstep:=Lib.hid hstep;have HL:=Lib.hid hL;clear hpr hck hsg hcm hb hE0 hc hrows hvl hstep hL;unfold ziK;by_cases h1:zcG p=0
 ·rw [if_neg (by simpa using h1)];rw [h1] at Hpr;clear h1;rw [HL.out];by_cases h2:L=0
  ·rw [if_pos h2];subst h2;go_enter Tryz.func13,Tryz.ntmps13
   go_wp2_with fail
   refine (Hpr.out _ HE0.out).mono ?_;rintro e w1 ⟨rfl,rfl⟩;go_wp2
   go_ret
   exact ⟨rfl,HE0.out⟩
  ·rw [if_neg h2];have h2b:((L:Int) == 0)=false:=beq_eq_false_iff_ne.2 (by omega);by_cases h3:60<L
   ·rw [if_pos h3];go_enter Tryz.func13,Tryz.ntmps13
    go_wp2_with fail
    refine (Hpr.out _ HE0.out).mono ?_;rintro e w1 ⟨rfl,rfl⟩;go_wp2
    go_ret
    exact ⟨rfl,HE0.out⟩
   ·rw [if_neg h3];go_enter Tryz.func13,Tryz.ntmps13
    go_wp2_with fail
    refine (Hpr.out _ HE0.out).mono ?_;rintro e w1 ⟨rfl,rfl⟩;go_wp2_with fail
    clear q0 q1;generalize w.alloc (.cells #[.slice ap n cp,.slice am L cm] 32)=w1 at *;go_loopw [4] (fun v4 wr=>∃ k:Nat,v4=.int .i64 k∧k≤L∧Hid (∀ i,i<k→zhe p (l.getD i [])=0)∧Hid (ziJ p l 0 L=ziJ p l k (L - k))∧Hid (Ext w1 wr)) (fun v4 _=>L - (za6 v4).toNat)
    case atStart=>exact ⟨0,rfl,Nat.zero_le _,Lib.hid (fun i hi=>by omega),Lib.hid rfl,Lib.hid (Ext.refl _)⟩
    case round =>
     obtain ⟨k,rfl,hk,HN,HF,HE⟩:=hrel;have hEw:=HE0.out.trans HE.out;have hb9:=zmX.ext HE.out Hb.out;have q0:=hb9.c0;have q1:=hb9.c1;by_cases hkn:k<L
     ·obtain ⟨u,hu⟩:∃ u,vs[k]?=some u:=⟨_,List.getElem?_eq_getElem (by rw [Hvl.out];exact hkn)⟩;obtain ⟨bl,off,rfl,hcu⟩:=Hc.out k u hu;have hru:=Hrows.out k u hu;have hcw:=hEw.cell hcu;have hst:=Hstep.out k (L - (k+1));rw [show L - (k+1)+1=L - k by omega] at hst;have hk1:(0:Int)≤(k:Int):=(by omega);have hk2:(k:Int)<(L:Int):=(by omega);have hh1:=fun W (hx:Ext wr W)=>Hck.out k u W (hEw.trans hx) ((hEw.trans hx).sl hru);have hh2:=fun W (hx:Ext wr W)=>Hsg.out k u W (hEw.trans hx) ((hEw.trans hx).sl hru);have hh3:=fun j v (hv:Sl w v (zaA (l.getD j []))) W (hx:Ext wr W)=>Hcm.out k j u v W (hEw.trans hx) ((hEw.trans hx).sl hru) ((hEw.trans hx).sl hv);obtain ⟨ax,cx,rfl,_,_,_⟩:=hru.parts;generalize (zaA (l.getD k [])).length=lx at *;have hS:∀ W,Ext wr W→Ext wr W∧W.cell? ⟨w.heap.size,0,none⟩=some (.slice ap n cp)∧W.cell? ⟨w.heap.size,1,none⟩=some (.slice (some ⟨bl,off,none⟩) L cm)∧W.cell? ⟨bl,off+k,none⟩=some (.slice ax lx cx):=fun W hW=>⟨hW,hW.cell q0,hW.cell q1,hW.cell hcw⟩;have Hst:=Lib.hid hst;have Hh1:=Lib.hid hh1;have Hh2:=Lib.hid hh2;have Hh3:=Lib.hid hh3;have HS:=Lib.hid hS;clear hst hh1 hh2 hh3 hS;clear hcu hru hu;by_cases he0:zhe p (l.getD k [])=0
      ·have hst2:=Hst.out;rw [if_neg (by simpa using he0)] at hst2;rw [he0] at Hh1 Hh2;have he1:=fun j (hj:j<k)=>ziS he0 (HN.out j hj);have Hst2:=Lib.hid hst2;have He0:=Lib.hid he0;have He1:=Lib.hid he1;clear hst2 he0 he1;clear Hst;generalize zhv p (l.getD k [])=sg at *;go_wp2_with fail
       go_region_held3 (fun w'=>Ext wr w'∧w'.cell? ⟨w.heap.size,0,none⟩=some (.slice ap n cp)∧w'.cell? ⟨w.heap.size,1,none⟩=some (.slice (some ⟨bl,off,none⟩) L cm)∧w'.cell? ⟨bl,off+k,none⟩=some (.slice ax lx cx))
        (first | (with_reducible assumption) | exact HS.out _ (Ext.refl wr).drew | exact HS.out _ HxA.out)
        (first | (go_at_call 35;refine (Hh1.out _ (Ext.refl wr).drew).mono ?_;rintro e9 VA ⟨rfl,hxa⟩;have HxA:=Lib.hid ((Ext.refl wr).drew.trans hxa);clear hxa))
       clear q0 q1 hcw;obtain ⟨_,q0,q1,hcw⟩:=HS.out _ HxA.out;go_wp2_with fail
       go_region_held3 (fun w'=>Ext wr w'∧w'.cell? ⟨w.heap.size,0,none⟩=some (.slice ap n cp)∧w'.cell? ⟨w.heap.size,1,none⟩=some (.slice (some ⟨bl,off,none⟩) L cm)∧w'.cell? ⟨bl,off+k,none⟩=some (.slice ax lx cx))
        (first | (with_reducible assumption) | exact HS.out _ HxA.out.drew | exact HS.out _ HxB.out)
        (first | (go_at_call 36;refine (Hh2.out _ HxA.out.drew).mono ?_;rintro e9 VB ⟨rfl,hxa⟩;have HxB:=Lib.hid (HxA.out.drew.trans hxa);clear hxa))
       clear q0 q1 hcw;obtain ⟨_,q0,q1,hcw⟩:=HS.out _ HxB.out;rcases Nat.eq_zero_or_pos k with hz | hz
       ·have hst3:=Hst2.out;rw [if_pos hz] at hst3;have hkz:decide (0<k)=false:=decide_eq_false (by omega);have hkz2:¬ 0<k:=(by omega);have hkz3:¬ (0:Int)<(k:Int):=(by omega);have Hst3:=Lib.hid hst3;have Hz:=Lib.hid hz;clear hst3 hz;by_cases hs:sg≤0
        ·have hfin:=HF.out.trans (Hst3.out.trans (if_pos hs));have hsd:decide (sg≤0)=true:=decide_eq_true hs;have Hfin:=Lib.hid hfin;clear hfin;clear q0 q1 hcw;go_wp2
         go_ret
         exact ⟨by rw [Hfin.out] <;> rfl,hEw.trans HxB.out⟩
        ·have hfin:=HF.out.trans (Hst3.out.trans (if_neg hs));have hsd:decide (sg≤0)=false:=decide_eq_false hs;have Hfin:=Lib.hid hfin;clear hfin;clear q0 q1 hcw;go_wp2_with fail
         go_roundw
         case rel =>
          refine ⟨k+1,by go_num,hkn,Lib.hid (fun i hi=>?_),Lib.hid Hfin.out,Lib.hid (HE.out.trans HxB.out)⟩;rcases Nat.lt_or_ge i k with q | q
          ·exact HN.out i q
          ·obtain rfl:i=k:=by omega
           exact He0.out
         case measure=>simp [za6];omega
       ·have hst3:=Hst2.out;rw [if_neg (show ¬ k=0 by omega)] at hst3;have hkz:decide (0<k)=true:=decide_eq_true hz;have hkz3:(0:Int)<(k:Int):=(by omega);obtain ⟨j,hj⟩:∃ j,k=j+1:=⟨k - 1,by omega⟩;obtain ⟨v,hv⟩:∃ v,vs[j]?=some v:=⟨_,List.getElem?_eq_getElem (by rw [Hvl.out];omega)⟩;obtain ⟨bl2,off2,e2,hcv⟩:=Hc.out j v hv
        cases e2
        have hrv:=Hrows.out j v hv;have hh4:=Hh3.out j v hrv;have ht0:=He1.out j (by omega);have hce:ziT p (l.getD k []) (l.getD j [])=ziC p (l.getD k []) (l.getD j []):=(by unfold ziT;rw [if_neg (by simpa using ht0)]);rw [hce] at hh4;rw [show k - 1=j by omega] at hst3;obtain ⟨ay,cy,rfl,_,_,_⟩:=hrv.parts;generalize (zaA (l.getD j [])).length=ly at *;have hcv2:=(hEw.trans HxB.out).cell hcv;have hj1:(0:Int)≤(j:Int):=(by omega);have hj2:(j:Int)<(L:Int):=(by omega);have hjw:IntKind.i64.wrap ((k:Int) - 1)=(j:Int):=(by rw [IntKind.wrap_i64];omega);have hS2:∀ W,Ext VB W→Ext wr W∧W.cell? ⟨w.heap.size,0,none⟩=some (.slice ap n cp)∧W.cell? ⟨w.heap.size,1,none⟩=some (.slice (some ⟨bl,off,none⟩) L cm)∧W.cell? ⟨bl,off+k,none⟩=some (.slice ax lx cx)∧W.cell? ⟨bl,off+j,none⟩=some (.slice ay ly cy):=fun W hW=>by
         obtain ⟨a1,a2,a3,a4⟩:=HS.out W (HxB.out.trans hW);exact ⟨a1,a2,a3,a4,hW.cell hcv2⟩
        generalize ziC p (l.getD k []) (l.getD j [])=z at *;generalize ziQ p (l.getD k []) (l.getD j [])=te at *;have Hst3:=Lib.hid hst3;have Hh4:=Lib.hid hh4;have HS2:=Lib.hid hS2;have Hj:=Lib.hid hj;clear hst3 hh4 hS2 hj;clear hce ht0 hrv hv hcv q0 q1 hcw hcv2;obtain ⟨_,q0,q1,hcw,hcv2⟩:=HS2.out _ (Ext.refl _);go_wp2_with fail
        go_region_held3 (fun w'=>Ext wr w'∧w'.cell? ⟨w.heap.size,0,none⟩=some (.slice ap n cp)∧w'.cell? ⟨w.heap.size,1,none⟩=some (.slice (some ⟨bl,off,none⟩) L cm)∧w'.cell? ⟨bl,off+k,none⟩=some (.slice ax lx cx)∧w'.cell? ⟨bl,off+j,none⟩=some (.slice ay ly cy))
         (first | (with_reducible assumption) | exact HS2.out _ (Ext.refl VB).drew | exact HS2.out _ HxC.out)
         (first | (go_at_call 37;refine (Hh4.out _ HxB.out.drew).mono ?_;rintro e9 VC ⟨rfl,hxa⟩;have HxC:=Lib.hid ((Ext.refl VB).drew.trans hxa);clear hxa))
        clear q0 q1 hcw hcv2;obtain ⟨_,q0,q1,hcw,hcv2⟩:=HS2.out _ HxC.out;have HxD:=Lib.hid (HxB.out.trans HxC.out);by_cases hs:z≤0
        ·have hfin:=HF.out.trans (Hst3.out.trans (if_pos hs));have hsd:decide (z≤0)=true:=decide_eq_true hs;have Hfin:=Lib.hid hfin;clear hfin;clear q0 q1 hcw;go_wp2
         go_ret
         exact ⟨by rw [Hfin.out] <;> rfl,hEw.trans HxD.out⟩
        ·have hfin:=HF.out.trans (Hst3.out.trans (if_neg hs));have hsd:decide (z≤0)=false:=decide_eq_false hs;have Hfin:=Lib.hid hfin;clear hfin;clear q0 q1 hcw;go_wp2_with fail
         go_roundw
         case rel =>
          refine ⟨k+1,by go_num,hkn,Lib.hid (fun i hi=>?_),Lib.hid Hfin.out,Lib.hid (HE.out.trans HxD.out)⟩;rcases Nat.lt_or_ge i k with q | q
          ·exact HN.out i q
          ·obtain rfl:i=k:=by omega
           exact He0.out
         case measure=>simp [za6];omega
      ·have hst2:=Hst.out;rw [if_pos he0] at hst2;have hfin:=HF.out.trans hst2;have het:(zhe p (l.getD k []) != 0)=true:=(by rw [bne_iff_ne];exact he0);generalize zhe p (l.getD k [])=r at *;have Hfin:=Lib.hid hfin;clear hfin;clear Hst hst2 he0 Hh2 Hh3;go_wp2_with fail
       go_region_held3 (fun w'=>Ext wr w'∧w'.cell? ⟨w.heap.size,0,none⟩=some (.slice ap n cp)∧w'.cell? ⟨w.heap.size,1,none⟩=some (.slice (some ⟨bl,off,none⟩) L cm)∧w'.cell? ⟨bl,off+k,none⟩=some (.slice ax lx cx))
        (first | (with_reducible assumption) | exact HS.out _ (Ext.refl wr).drew | exact HS.out _ HxA.out)
        (first | (go_at_call 35;refine (Hh1.out _ (Ext.refl wr).drew).mono ?_;rintro e9 VA ⟨rfl,hxa⟩;have HxA:=Lib.hid ((Ext.refl wr).drew.trans hxa);clear hxa))
       clear q0 q1 hcw;go_wp2
       go_ret
       exact ⟨by rw [Hfin.out] <;> rfl,hEw.trans HxA.out⟩
     ·have hkL:k=L:=(by omega);have hnk:¬ (k:Int)<(L:Int):=(by omega);have hf:=HF.out;rw [hkL,Nat.sub_self] at hf;have Hf:=Lib.hid hf;clear hf;clear hkL;go_wp2
      go_ret
      exact ⟨by rw [Hf.out] <;> rfl,hEw⟩
 ·rw [if_pos h1];have ht:(zcG p != 0)=true:=by rw [bne_iff_ne];exact h1
  generalize zcG p=r at *;clear h1;go_enter Tryz.func13,Tryz.ntmps13
  go_wp2_with fail
  refine (Hpr.out _ HE0.out).mono ?_;rintro e w1 ⟨rfl,rfl⟩;go_wp2
  go_ret
  exact ⟨rfl,HE0.out⟩
theorem zol (vp vl:Value)(p:List Int)(l:List (List Int))(w:World)(he:Env w)(hp:Sl w vp (zaA p))(hl:Mat w vl l)(hlp:p.length≤9223372036854775807)(hll:l.length≤9223372036854775807) :
  Calls Tryz.prog 4 #[.agg #[vp,vl]] w fun e w'=>e=.returned (.bool true)∧Ext w w':=by
 have hkn:=fun W (hE:Ext w W)=>znT W (he.ext hE);have hfw:=fun W (hE:Ext w W)=>zoi vl l W (hE.mat hl) hll;have hin:p.length≤8→zoe l=true→znU w vp vl p l:=fun h1 h2=>by
  obtain ⟨h3,h4⟩:=zoh h2;exact ⟨he,hp,hl,by omega,by omega,fun i=>by have:=h4 i;omega⟩
 obtain ⟨ap,cp,rfl,_,_,_⟩:=hp.parts;obtain ⟨vs,hvl,hvs,_⟩:=hl;obtain ⟨am,cm,rfl,_,_,_⟩:=hvs.parts;rw [zaC] at *;rw [hvl] at hfw hin ⊢;have hb:=zmX.new 32 w (.slice ap p.length cp) (.slice am l.length cm);have hE0:Ext w (w.alloc (.cells #[.slice ap p.length cp,.slice am l.length cm] 32)):=(Ext.refl w).alloc _;clear hvs he hp;have Hkn:=Lib.hid hkn;have Hfw:=Lib.hid hfw;have Hin:=Lib.hid hin;have Hb:=Lib.hid hb;have HE0:=Lib.hid hE0;clear hkn hfw hin hb hE0;by_cases h8:p.length≤8
 ·have h8d:decide ((p.length:Int) > 8)=false:=decide_eq_false (by omega)
  cases hf:zoe l
  ·rw [hf] at Hfw;go_enter Tryz.func4,Tryz.ntmps4
   go_wp2_with fail
   refine (Hkn.out _ HE0.out).mono ?_;rintro e w1 ⟨rfl,hx1⟩;have hb1:=zmX.ext hx1 Hb.out;have q0:=hb1.c0;have q1:=hb1.c1;have Hx1:=Lib.hid (HE0.out.trans hx1);clear hx1 hb1;go_wp2_with fail
   refine (Hfw.out _ Hx1.out).mono ?_;rintro e w2 ⟨rfl,rfl⟩;go_wp2_with fail
   refine (Hkn.out _ Hx1.out).mono ?_;rintro e w3 ⟨rfl,hx3⟩;have Hx3:=Lib.hid (Hx1.out.trans hx3);clear hx3;go_wp2
   go_ret
   exact ⟨rfl,Hx3.out⟩
  ·rw [hf] at Hfw;have hI:=Hin.out h8 hf;have hce:=ziP p l;have hc37:=fun W (hE:Ext w W)=>zok _ _ p l W (hI.ext hE);have hck:=fun W (hE:Ext w W)=>(hI.ext hE).check;rw [hce] at hc37;have HI:=Lib.hid hI;have Hc37:=Lib.hid hc37;have Hck:=Lib.hid hck;clear hc37 hck;clear hce hI hf;by_cases h0:ziI p l=0
   ·rw [h0] at Hc37 Hck;clear h0;go_enter Tryz.func4,Tryz.ntmps4
    go_wp2_with fail
    refine (Hkn.out _ HE0.out).mono ?_;rintro e w1 ⟨rfl,hx1⟩;have hb1:=zmX.ext hx1 Hb.out;have q0:=hb1.c0;have q1:=hb1.c1;have Hx1:=Lib.hid (HE0.out.trans hx1);have Hb1:=Lib.hid hb1;clear hx1 hb1;go_wp2_with fail
    refine (Hfw.out _ Hx1.out).mono ?_;rintro e w2 ⟨rfl,rfl⟩;go_wp2_with fail
    refine (Hc37.out _ Hx1.out).mono ?_;rintro e w3 ⟨rfl,hx3⟩;have hb3:=zmX.ext hx3 Hb1.out;have Hx3:=Lib.hid (Hx1.out.trans hx3);clear hx3 q0 q1;have q0:=hb3.c0;have q1:=hb3.c1;clear hb3;go_wp2_with fail
    refine (Hck.out _ Hx3.out).mono ?_;rintro e w4 ⟨rfl,hx4⟩;have Hx4:=Lib.hid (Hx3.out.trans hx4);clear hx4;go_wp2
    go_ret
    exact ⟨rfl,Hx4.out⟩
   ·have hsc:=fun W (hE:Ext w W)=>zob _ _ p l W (HI.out.ext hE) h0;have hno:=fun W (hE:Ext w W)=>znV 0 _ _ p l W (HI.out.ext hE) h0;have hst:=fun W (hE:Ext w W)=>znW _ _ p l W (HI.out.ext hE) h0;have hmo:=fun W (hE:Ext w W)=>zoc 0 _ _ p l W (HI.out.ext hE) h0;have hnu:=fun W (hE:Ext w W)=>zoa none 0 0 _ _ p l W (HI.out.ext hE) h0;have hwr:=fun W (hE:Ext w W)=>znZ none 0 0 _ _ p l W (HI.out.ext hE) h0;have hva:=fun W (hE:Ext w W)=>zod _ _ p l W (HI.out.ext hE) h0;have hfr:=fun W (hE:Ext w W)=>znX _ _ p l W (HI.out.ext hE) h0;have hdg:=fun W (hE:Ext w W)=>znY (.slice none 0 0) _ _ p l W (HI.out.ext hE) h0;have ht0:(ziI p l == 0)=false:=beq_eq_false_iff_ne.2 h0;generalize ziI p l=r at *;have ht1:(r != r)=false:=(by simp);have ht2:(r == r)=true:=(by simp);have Hsc:=Lib.hid hsc;have Hno:=Lib.hid hno;have Hst:=Lib.hid hst;have Hmo:=Lib.hid hmo;have Hnu:=Lib.hid hnu;have Hwr:=Lib.hid hwr;have Hva:=Lib.hid hva;have Hfr:=Lib.hid hfr;have Hdg:=Lib.hid hdg;clear hsc hno hst hmo hnu hwr hva hfr hdg;clear h0;go_enter Tryz.func4,Tryz.ntmps4
    go_wp2_with fail
    refine (Hkn.out _ HE0.out).mono ?_;rintro e w1 ⟨rfl,hx1⟩;have hb1:=zmX.ext hx1 Hb.out;have q0:=hb1.c0;have q1:=hb1.c1;have Hx1:=Lib.hid (HE0.out.trans hx1);have Hb1:=Lib.hid hb1;clear hx1 hb1;go_wp2_with fail
    refine (Hfw.out _ Hx1.out).mono ?_;rintro e w2 ⟨rfl,rfl⟩;go_wp2_with fail
    refine (Hc37.out _ Hx1.out).mono ?_;rintro e w3 ⟨rfl,hx3⟩;have hb3:=zmX.ext hx3 Hb1.out;have Hx3:=Lib.hid (Hx1.out.trans hx3);have Hb3:=Lib.hid hb3;clear hx3 q0 q1;have q0:=hb3.c0;have q1:=hb3.c1;clear hb3;go_wp2_with fail
    refine (Hck.out _ Hx3.out).mono ?_;rintro e w4 ⟨rfl,hx4⟩;have hb4:=zmX.ext hx4 Hb3.out;have Hx4:=Lib.hid (Hx3.out.trans hx4);have Hb4:=Lib.hid hb4;clear hx4 q0 q1;have q0:=hb4.c0;have q1:=hb4.c1;clear hb4;go_wp2_with fail
    refine (Hsc.out _ Hx4.out).mono ?_;rintro e w5 ⟨rfl,hx5⟩;have hy5:=(Ext.refl w5).alloc (.cells #[.slice none 0 0,.slice none 0 0] 47);have hs5:=zmX.new 47 w5 (.slice none 0 0) (.slice none 0 0);have hb5:=zmX.ext (hx5.trans hy5) Hb4.out;have Hx5:=Lib.hid ((Hx4.out.trans hx5).trans hy5);have Hb5:=Lib.hid hb5;have Hs5:=Lib.hid hs5;clear hx5 hy5 q0 q1;have q0:=hb5.c0;have q1:=hb5.c1;clear hb5 hs5;go_wp2_with fail
    refine (Hno.out _ Hx5.out).mono ?_;rintro e w6 ⟨rfl,hx6⟩;have hb6:=zmX.ext hx6 Hb5.out;have Hx6:=Lib.hid (Hx5.out.trans hx6);have Hs6:=Lib.hid (zmX.ext hx6 Hs5.out);have Hb6:=Lib.hid hb6;clear hx6 q0 q1;have q0:=hb6.c0;have q1:=hb6.c1;clear hb6;go_wp2_with fail
    refine (Hst.out _ Hx6.out).mono ?_;rintro e w7 ⟨rfl,hx7⟩;have hb7:=zmX.ext hx7 Hb6.out;have Hx7:=Lib.hid (Hx6.out.trans hx7);have Hs7:=Lib.hid (zmX.ext hx7 Hs6.out);have Hb7:=Lib.hid hb7;clear hx7 q0 q1;have q0:=hb7.c0;have q1:=hb7.c1;clear hb7;go_wp2_with fail
    refine (Hmo.out _ Hx7.out).mono ?_;rintro e w8 ⟨rfl,hx8⟩;have hy8:=(Ext.refl w8).alloc (.cells #[.slice none 0 0,.slice none 0 0] 32);have hm8:=zmX.new 32 w8 (.slice none 0 0) (.slice none 0 0);have hb8:=zmX.ext (hx8.trans hy8) Hb7.out;have Hx8:=Lib.hid ((Hx7.out.trans hx8).trans hy8);have Hs8:=Lib.hid (zmX.ext (hx8.trans hy8) Hs7.out);have Hb8:=Lib.hid hb8;have Hm8:=Lib.hid hm8;clear hx8 hy8 q0 q1;have q0:=hb8.c0;have q1:=hb8.c1;clear hb8 hm8;go_wp2_with fail
    refine (Hnu.out _ Hx8.out).mono ?_;rintro e w9 ⟨rfl,hx9⟩;have hb9:=zmX.ext hx9 Hb8.out;have hs9:=zmX.ext hx9 Hs8.out;have hm9:=zmX.ext hx9 Hm8.out;have Hx9:=Lib.hid (Hx8.out.trans hx9);have Hb9:=Lib.hid hb9;clear hx9 q0 q1;have q0:=hb9.c0;have q1:=hb9.c1;have s1:=hs9.c1;have m1:=hm9.c1;clear hb9 hs9 hm9;go_wp2_with fail
    refine (Hwr.out _ Hx9.out).mono ?_;rintro e w10 ⟨rfl,hx10⟩;have hb10:=zmX.ext hx10 Hb9.out;have Hx10:=Lib.hid (Hx9.out.trans hx10);have Hb10:=Lib.hid hb10;clear hx10 q0 q1 s1 m1;have q0:=hb10.c0;have q1:=hb10.c1;clear hb10;go_wp2_with fail
    refine (Hva.out _ Hx10.out).mono ?_;rintro e w11 ⟨rfl,hx11⟩;have hb11:=zmX.ext hx11 Hb10.out;have Hx11:=Lib.hid (Hx10.out.trans hx11);have Hb11:=Lib.hid hb11;clear hx11 q0 q1;have q0:=hb11.c0;have q1:=hb11.c1;clear hb11;go_wp2_with fail
    refine (Hfr.out _ Hx11.out).mono ?_;rintro e w12 ⟨rfl,hx12⟩;have hb12:=zmX.ext hx12 Hb11.out;have Hx12:=Lib.hid (Hx11.out.trans hx12);clear hx12 q0 q1;have q0:=hb12.c0;have q1:=hb12.c1;clear hb12;go_wp2_with fail
    refine (Hdg.out _ Hx12.out).mono ?_;rintro e w13 ⟨rfl,hx13⟩;have Hx13:=Lib.hid (Hx12.out.trans hx13);clear hx13 q0 q1;go_wp2
    go_ret
    exact ⟨rfl,Hx13.out⟩
 ·have h8d:decide ((p.length:Int) > 8)=true:=decide_eq_true (by omega);go_enter Tryz.func4,Tryz.ntmps4
  go_wp2_with fail
  refine (Hkn.out _ HE0.out).mono ?_;rintro e w1 ⟨rfl,hx1⟩;have hb1:=zmX.ext hx1 Hb.out;have q0:=hb1.c0;have q1:=hb1.c1;have Hx1:=Lib.hid (HE0.out.trans hx1);clear hx1 hb1;go_wp2_with fail
  refine (Hkn.out _ Hx1.out).mono ?_;rintro e w3 ⟨rfl,hx3⟩;have Hx3:=Lib.hid (Hx1.out.trans hx3);clear hx3;go_wp2
  go_ret
  exact ⟨rfl,Hx3.out⟩
end
section
open Go.ChangeShapes Go.WideShapes Go.RowKit Go.Lib
theorem zom {w:World}{a:Option Addr}{L C:Nat}{zs:List Int}(hl:L≤C)(hm:C≤maxLen)(hz:zs.length=C)(h0:a=none→C=0)(hc:∀ a',a=some a'→∀ c,c<C→w.cell? (a'.add c)=some (.int .i64 (zs.getD c 0))) :
  Sl w (.slice a L C) (zaA (zs.take L)):=by
 rcases Nat.eq_zero_or_pos L with hL | hL
 ·subst hL;exact .inl ⟨_,C,rfl,hm,by simp [zaA]⟩
 ·cases a with
  | none=>have:=h0 rfl;omega
  | some a' =>
   have h00:=hc a' rfl 0 (by omega)
   obtain ⟨b,off,sp⟩:=a'
   have hs:=World.cell?_spot h00
   have hs':sp=none:=by
    cases sp with
    | none=>rfl
    | some s=>simp [Addr.add] at hs
   subst hs'
   refine .inr ⟨b,off,C,?_,?_,hm,fun i u hu=>?_⟩
   ·rw [zaC,List.length_take,Nat.min_eq_left (by omega)]
   ·rw [zaC,List.length_take,Nat.min_eq_left (by omega)];exact hl
   ·have hi:i<(zs.take L).length:=by
     have:=(List.getElem?_eq_some_iff.1 hu).1;rwa [zaC] at this
    rw [zaF hi] at hu
    have hi2:i<L:=by rw [List.length_take] at hi;omega
    have:=hc _ rfl i (by omega)
    have e:zaD (zs.take L) i=zs.getD i 0:=by
     unfold zaD;rw [List.getD_eq_getElem?_getD,List.getElem?_take_of_lt hi2,List.getD_eq_getElem?_getD]
    rw [← e,Option.some.inj hu] at this
    rwa [show ((⟨b,off,none⟩:Addr).add i)=⟨b,off+i,none⟩ by unfold Addr.add;split <;> simp_all] at this
theorem zon {H:Type}{enc:TypeId × Value→H}{w:World}{base:Nat}{held:Bool}{t:TypeId}{c:Value}{fuel:Nat}{x:DataW H × List MemPlace}(ht:Tryz.prog.underlying t=some (.slice 26))(hf:DataW.trod enc Tryz.prog w base (fun _=>true) held fuel t [c]=some x) :
  ∃ m:List (List Int),Mat w c m:=by
 rcases Go.Deep.open_int_rows ht Tryz.underlying26 Tryz.underlying3 (by kernel_rfl) (by kernel_rfl) hf with ⟨h1,_⟩ | ⟨a',len,cap,A,L,C,Z,h1,_,hl,hm,_,hr⟩
 ·obtain rfl:c=.slice none 0 0:=by simpa using h1
  exact ⟨[],[],rfl,.inl ⟨none,0,rfl,Nat.zero_le _,rfl⟩,fun i u hu=>by simp at hu⟩
 ·obtain rfl:c=.slice (some a') len cap:=by simpa using h1
  refine ⟨(List.range len).map fun r=>(Z r).take (L r),(List.range len).map fun r=>.slice (A r) (L r) (C r),by simp,?_,fun i u hu=>?_⟩
  ·rcases Nat.eq_zero_or_pos len with h0 | h0
   ·subst h0;exact .inl ⟨_,cap,rfl,hm,by simp⟩
   ·have h00:=(hr 0 (by omega)).1;obtain ⟨b,off,sp⟩:=a';have hs:=World.cell?_spot h00;have hs':sp=none:=by
     cases sp with
     | none=>rfl
     | some s=>simp [Addr.add] at hs
    subst hs';refine .inr ⟨b,off,cap,by rw [List.length_map,List.length_range],by rw [List.length_map,List.length_range];exact hl,hm,fun i u hu=>?_⟩;rw [List.getElem?_map] at hu;have hi:i<len:=by
     rcases Nat.lt_or_ge i len with g | g
     ·exact g
     ·rw [List.getElem?_eq_none (by rw [List.length_range];exact g)] at hu;cases hu
    rw [List.getElem?_range hi] at hu;simp only [Option.map_some,Option.some.injEq] at hu;subst hu;have:=(hr i (by omega)).1;rwa [show ((⟨b,off,none⟩:Addr).add i)=⟨b,off+i,none⟩ by unfold Addr.add;split <;> simp_all] at this
  ·rw [List.getElem?_map] at hu;have hi:i<len:=by
    rcases Nat.lt_or_ge i len with g | g
    ·exact g
    ·rw [List.getElem?_eq_none (by rw [List.length_range];exact g)] at hu;cases hu
   rw [List.getElem?_range hi] at hu;simp only [Option.map_some,Option.some.injEq] at hu;subst hu;have e:((List.range len).map fun r=>(Z r).take (L r)).getD i []=(Z i).take (L i):=by
    rw [List.getD_eq_getElem?_getD,List.getElem?_map,List.getElem?_range hi];rfl
   rw [e];obtain ⟨_,g1,g2,g3,_,g5,g6⟩:=hr i (by omega);exact zom g1 g2 g3 g5 fun a' ha=>(g6 a' ha).2
theorem zoo {H:Type}{enc:TypeId × Value→H}{w:World}{base:Nat}{spare:Nat→Bool}{held:Bool}{t:TypeId}{c:Value}{fuel:Nat}{x:DataW H × List MemPlace}(ht:Tryz.prog.underlying t=some (.slice 3))(hf:DataW.trod enc Tryz.prog w base spare held fuel t [c]=some x) :
  ∃ xs:List Int,Sl w c (zaA xs)∧∀ z∈xs,(Lit.int .i64 z).wf=true:=by
 rcases open_ints ht Tryz.underlying3 (by kernel_rfl) hf with ⟨h1,_⟩ | ⟨a',len,cap,zs,h1,_,hl,hm,hz,_,hc,hw⟩
 ·obtain rfl:c=.slice none 0 0:=by simpa using h1
  exact ⟨[],.inl ⟨none,0,rfl,Nat.zero_le _,rfl⟩,fun z h=>by cases h⟩
 ·obtain rfl:c=.slice (some a') len cap:=by simpa using h1
  have hzl:len≤zs.length:=by rw [hz];split <;> omega
  refine ⟨zs.take len,?_,fun z h=>hw z (List.mem_of_mem_take h)⟩;rcases Nat.eq_zero_or_pos len with h0 | h0
  ·subst h0;exact .inl ⟨_,cap,rfl,hm,by simp [zaA]⟩
  ·have h00:=hc 0 (by omega);obtain ⟨b,off,sp⟩:=a';have hs:=World.cell?_spot h00;have hs':sp=none:=by
    cases sp with
    | none=>rfl
    | some s=>simp [Addr.add] at hs
   subst hs';refine .inr ⟨b,off,cap,?_,?_,hm,fun i u hu=>?_⟩
   ·rw [zaC,List.length_take,Nat.min_eq_left hzl]
   ·rw [zaC,List.length_take,Nat.min_eq_left hzl];exact hl
   ·have hi:i<(zs.take len).length:=by
     have:=(List.getElem?_eq_some_iff.1 hu).1;rwa [zaC] at this
    rw [zaF hi] at hu;have hi2:i<len:=(by rw [List.length_take] at hi;omega);have:=hc i (by omega);have e:zaD (zs.take len) i=zs.getD i 0:=by
     unfold zaD;rw [List.getD_eq_getElem?_getD,List.getElem?_take_of_lt hi2,List.getD_eq_getElem?_getD]
    rw [← e,Option.some.inj hu] at this;rwa [show ((⟨b,off,none⟩:Addr).add i)=⟨b,off+i,none⟩ by unfold Addr.add;split <;> simp_all] at this
theorem zop {H:Type}{enc:TypeId × Value→H}{r:Reach}{b0:Nat}{w:World}{base:Nat}{held:Bool}{v:Value}{d:DataW H}{p:List MemPlace}(hv:Value.okWide Tryz.prog w r b0 32 v)(h:DataW.Trod enc Tryz.prog w base (fun _=>true) held 32 v d p) :
  ∃ vp vl ps l,v=.agg #[vp,vl]∧Sl w vp (zaA ps)∧Mat w vl l:=by
 obtain ⟨cs,rfl,hsz⟩:=okWide_struct Tryz.underlying32 hv;rw [show Tryz.prog.cellsOf 32=2 by kernel_rfl] at hsz;obtain ⟨l⟩:=cs;match l,hsz with
 | [c0,c1],_ =>
  obtain ⟨fuel,hf⟩:=h
  obtain ⟨y0,y1,k,hx,_,h0,h1⟩:=trod_struct2 Tryz.underlying32 hf
  simp only [Value.cells,show Tryz.prog.cellsOf 29=1 by kernel_rfl,show Tryz.prog.cellsOf 30=1 by kernel_rfl,List.drop_zero,List.take_succ_cons,List.take_zero,List.drop_succ_cons] at h0 h1
  obtain ⟨ps,hp,_⟩:=zoo Tryz.underlying29 h0
  obtain ⟨m,hm⟩:=zon Tryz.underlying30 h1
  exact ⟨c0,c1,ps,m,rfl,hp,hm⟩
theorem zoq {w:World}{v:Value}{xs:List Int}(h:Sl w v (zaA xs)):xs.length≤9223372036854775807:=by
 obtain ⟨_,c,_,h1,h2,_⟩:=h.parts;rw [zaC] at h2;unfold maxLen at h1;omega
theorem zor {w:World}{v:Value}{l:List (List Int)}(h:Mat w v l):l.length≤9223372036854775807:=by
 obtain ⟨vs,hvl,hvs,_⟩:=h;obtain ⟨_,c,_,h1,h2,_⟩:=hvs.parts;unfold maxLen at h1;omega
end
section
open Go.ChangeShapes Go.WideShapes Go.ChangeAt Go.WideMaps Go.WideElems Go.RowKit
section
variable {H : Type} {enc : TypeId × Value → H} {P : Program}
theorem zos {f:Func}{s:ChangeSpec}{apart fresh handsOn again:Bool}{W W':World}{args:Array Value}{v:Value}{ds gs:List (DataW H)}{before pa pv:List MemPlace}
  (hW:DataW.Whole enc P f.params.toList s.vars apart W args.toList ds gs before)
  (hres:∀ (b:Nat)(sp:Nat→Bool)(hd:Bool),DataW.TrodAll enc P W' b sp hd f.resultTypes.toList (v.resultList f.resultTypes.size) (s.fn H (ds++gs)).results [])
  (hargs:∀ sp:Nat→Bool,(∀ p∈before,sp p.block=true)→DataW.TrodAll enc P W' 0 sp true f.params.toList args.toList (s.fn H (ds++gs)).args pa)
  (hvars:∀ sp:Nat→Bool,(∀ p∈before,sp p.block=true)→DataW.TrodVars enc P W' sp s.vars (s.fn H (ds++gs)).vars pv)
  (hps:before=pa++pv) (hb:Below W.heap.size W W')
  (hok:∀ (j:Nat)(t:TypeId)(r:Value),f.resultTypes[j]?=some t→(v.resultList f.resultTypes.size)[j]?=some r→Value.okWide P W' .any 0 t r) :
  s.post enc P f apart fresh handsOn again W args v W':=by
 have hlt:∀ p∈before,p.block<W.heap.size:=fun p hp=>hW.lt p hp;have hold:∀ p∈before,(fun b=>decide (b<W.heap.size)) p.block=true:=fun p hp=>by simpa using hlt p hp
 refine ⟨ds,gs,before,[],pa,pv,hW,hres _ _ _,hargs _ hold,hvars _ hold,World.keptBut_mono (fun p hp=>⟨hp,?_⟩) (hb.frame (·∈before)),fun _=>?_⟩
 ·rw [hps,List.mem_append] at hp;exact Or.inr hp
 ·obtain ⟨_,_,_,_,_,hz,hn⟩:=hW;refine ⟨hok,_,_,([]++pa)++pv,⟨[]++pa,pv,trodAll_append (hargs _ (fun _ _=>rfl)) (hres _ _ _),hvars _ (fun _ _=>rfl),rfl,?_,?_⟩,?_⟩
  ·intro b off hp;have hin:MemPlace.cell b off∈before:=(by rw [hps];simpa using hp);rw [hb.frozen (hlt _ hin)];exact hz b off hin
  ·intro ha;have:=hn ha;rw [hps] at this;simpa using this
  ·intro p hp _;rw [hps];simpa using hp
end
theorem zot : ownKnob Tryz.prog.godebug=none:=by kernel_rfl
theorem zou : (Tryz.prog.globals[2]?).map (·.type)=some 269:=by kernel_rfl
theorem zov : Tryz.prog.cellsOf 137=1:=by kernel_rfl
theorem zow : Tryz.prog.cellsOf 269=20:=by kernel_rfl
theorem zox {W : World} (h : laidMetH Tryz.prog [("math/bits.deBruijn32tab", Rows.laid_math_bits_deBruijn32tab), ("math/bits.deBruijn64tab", Rows.laid_math_bits_deBruijn64tab), ("internal/strconv.uint64pow10", Rows.laid_internal_strconv_uint64pow10), ("strconv.ErrRange", Rows.laid_strconv_ErrRange), ("strconv.ErrSyntax", Rows.laid_strconv_ErrSyntax)] W) : Env W := by
 rw [MakeChecks.laidMetH_plain _ _ _ (by kernel_rfl)] at h;exact Lib.tabIs_of_head (k:=.u64) (zs:=Lib.pow10Tab) zaM zou Tryz.underlying269 Tryz.underlying137 zov zow h.tail.tail
def zoy : List (String × DataW Unit) := [("math/bits.deBruijn32tab", Rows.laid_math_bits_deBruijn32tab), ("math/bits.deBruijn64tab", Rows.laid_math_bits_deBruijn64tab), ("internal/strconv.uint64pow10", Rows.laid_internal_strconv_uint64pow10), ("strconv.ErrRange", Rows.laid_strconv_ErrRange), ("strconv.ErrSyntax", Rows.laid_strconv_ErrSyntax)]
theorem zoz (os:Os)(args:Array Value):((World.laidAll Tryz.prog os zoy).forCall (fun _ _=>0) ⟨#[],args,[]⟩).Shaped Tryz.prog:=World.shaped_of_ZipB (by kernel_rfl) (by kernel_rfl)
theorem zo0 (os:Os)(args:Array Value):laidMetH Tryz.prog zoy ((World.laidAll Tryz.prog os zoy).forCall (fun _ _=>0) ⟨#[],args,[]⟩).memory:=by
 rw [MakeChecks.laidMetH_plain _ _ _ (by kernel_rfl)];exact laidMet_laidAll _ (by kernel_rfl) (by kernel_rfl)
theorem zo1 : laidOutB Tryz.prog=true:=by kernel_rfl
section
variable {H : Type} {enc : TypeId × Value → H} {W W' : World} {sp : Nat → Bool}
theorem zo2 : ∀ {ts:List TypeId}{vs:List Value}{ds:List (DataW H)}{ps:List MemPlace},(∀ t∈ts,Tryz.prog.readableRec t=true∧t<Tryz.prog.types.size) →
  DataW.TrodAll enc Tryz.prog W 0 (fun _=>true) true ts vs ds ps→(∀ x∈ps,W.sameAt W' x)→(∀ x∈ps,sp x.block=true)→DataW.TrodAll enc Tryz.prog W' 0 sp true ts vs ds ps
 | [],_,_,_,_,h,_,_=>by
  obtain ⟨rfl,rfl,rfl⟩:=trodAll_nil h;exact trodAll_mk0
 | t::ts,vs,ds,ps,hts,h,hs,hp=>by
  obtain ⟨v,vs',d,ds',p,p',rfl,rfl,rfl,h1,h2⟩:=trodAll_cons h;obtain ⟨hr,hw⟩:=hts t (List.mem_cons_self ..);exact trodAll_cons_mk (WideElems.Trod_stays zo1 hr hw h1 (fun x hx=>hs x (List.mem_append_left _ hx)) (fun x hx=>hp x (List.mem_append_left _ hx)))
   (zo2 (fun t ht=>hts t (List.mem_cons_of_mem _ ht)) h2 (fun x hx=>hs x (List.mem_append_right _ hx)) (fun x hx=>hp x (List.mem_append_right _ hx)))
end
theorem zo3 {H:Type}{enc:TypeId × Value→H}{f:Func}{s:ChangeSpec}{W W':World}{args:Array Value}{ds:List (DataW H)}{before:List MemPlace}(hv:s.vars=[])(hts:∀ t∈f.params.toList,Tryz.prog.readableRec t=true∧t<Tryz.prog.types.size)
  (hres:f.resultTypes=#[4]) (hfn:s.fn H ds={ results:=[.lit (.bool true)],args:=ds })
  (hW:DataW.Whole enc Tryz.prog f.params.toList s.vars false W args.toList ds [] before) (hb:Below W.heap.size W W'):s.post enc Tryz.prog f false true false false W args (.bool true) W':=by
 have hW':=hW;obtain ⟨p,q,hA0,hV,rfl,_,_⟩:=hW;rw [hv] at hV;obtain ⟨_,rfl⟩:=trodVars_none hV;have hlt:∀ x∈p++[],x.block<W.heap.size:=fun x hx=>hW'.lt x hx;refine zos (pa:=p) (pv:=[]) hW' (fun _ _ _=>?_) (fun sp hsp=>?_) (fun _ _=>?_) rfl hb ?_
 ·rw [List.append_nil,hfn,hres];exact trodAll_mk1 (shut_bool Tryz.underlying4 _)
 ·rw [List.append_nil,hfn];exact zo2 hts hA0 (fun x hx=>hb.same (hlt x (List.mem_append_left _ hx))) (fun x hx=>hsp x (List.mem_append_left _ hx))
 ·rw [List.append_nil,hfn,hv];rfl
 ·exact ok_one hres rfl (okWide_bool_mk Tryz.underlying4 _)
end
end Go.Proofs.YtkdgmahilfnnmaaGreatDoor
